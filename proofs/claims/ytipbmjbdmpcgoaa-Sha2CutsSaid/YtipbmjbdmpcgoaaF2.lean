import Derived.Test.YtipbmjbdmpcgoaaT
import Derived.Test.YtipbmjbdmpcgoaaPg
import Derived.Test.YtipbmjbdmpcgoaaF1
set_option linter.unusedVariables false
set_option linter.unusedSimpArgs false
set_option maxRecDepth 100000
set_option maxHeartbeats 4000000
namespace Go.Proofs
open Go.X Go.RowKit
namespace Ytipbmjbdmpcgoaa
end Ytipbmjbdmpcgoaa
end Go.Proofs
