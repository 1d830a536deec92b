import Derived.Test.YtfefphcmfhabiaaT
import Derived.Test.YtfefphcmfhabiaaPA
import Derived.Test.YtfefphcmfhabiaaF1
set_option linter.unusedVariables false
set_option linter.unusedSimpArgs false
set_option maxRecDepth 100000
set_option maxHeartbeats 4000000
namespace Go.Proofs
open Go.X Go.RowKit
namespace Ytfefphcmfhabiaa
end Ytfefphcmfhabiaa
end Go.Proofs
