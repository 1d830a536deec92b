import Derived.Test.YtpcbkeikhojmbaaT
import Derived.Test.YtpcbkeikhojmbaaPA
import Derived.Test.YtpcbkeikhojmbaaF3
set_option linter.unusedVariables false
set_option linter.unusedSimpArgs false
set_option maxRecDepth 100000
set_option maxHeartbeats 4000000
namespace Go.Proofs
open Go.X Go.RowKit
namespace Ytpcbkeikhojmbaa
end Ytpcbkeikhojmbaa
end Go.Proofs
