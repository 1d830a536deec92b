import Derived.Test.YtphebleabcoakaaT
import Derived.Test.YtphebleabcoakaaPA
import Derived.Test.YtphebleabcoakaaF1
set_option linter.unusedVariables false
set_option linter.unusedSimpArgs false
set_option maxRecDepth 100000
set_option maxHeartbeats 4000000
namespace Go.Proofs
open Go.X Go.RowKit
namespace Ytphebleabcoakaa
end Ytphebleabcoakaa
end Go.Proofs
