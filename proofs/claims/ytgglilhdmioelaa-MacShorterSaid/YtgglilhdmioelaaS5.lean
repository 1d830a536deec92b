import Derived.Test.YtgglilhdmioelaaT
import Derived.Test.YtgglilhdmioelaaPu
import Derived.Test.YtgglilhdmioelaaS4
set_option linter.unusedVariables false
set_option linter.unusedSimpArgs false
set_option maxRecDepth 100000
set_option maxHeartbeats 4000000
namespace Go.Proofs
open Go.X Go.RowKit
namespace Ytgglilhdmioelaa
end Ytgglilhdmioelaa
end Go.Proofs
