import Derived.Test.YtghklimejpmpnaaT
import Derived.Test.YtghklimejpmpnaaPA
import Derived.Test.YtghklimejpmpnaaF4
set_option linter.unusedVariables false
set_option linter.unusedSimpArgs false
set_option maxRecDepth 100000
set_option maxHeartbeats 4000000
namespace Go.Proofs
open Go.X Go.RowKit
namespace Ytghklimejpmpnaa
end Ytghklimejpmpnaa
end Go.Proofs
