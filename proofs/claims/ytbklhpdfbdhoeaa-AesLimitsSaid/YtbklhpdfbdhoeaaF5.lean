import Derived.Test.YtbklhpdfbdhoeaaT
import Derived.Test.YtbklhpdfbdhoeaaPh
import Derived.Test.YtbklhpdfbdhoeaaF4
set_option linter.unusedVariables false
set_option linter.unusedSimpArgs false
set_option maxRecDepth 100000
set_option maxHeartbeats 4000000
namespace Go.Proofs
open Go.X Go.RowKit
namespace Ytbklhpdfbdhoeaa
end Ytbklhpdfbdhoeaa
end Go.Proofs
