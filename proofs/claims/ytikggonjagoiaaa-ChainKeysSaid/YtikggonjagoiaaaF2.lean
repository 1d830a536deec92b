import Derived.Test.YtikggonjagoiaaaT
import Derived.Test.YtikggonjagoiaaaPA
import Derived.Test.YtikggonjagoiaaaF1
set_option linter.unusedVariables false
set_option linter.unusedSimpArgs false
set_option maxRecDepth 100000
set_option maxHeartbeats 4000000
namespace Go.Proofs
open Go.X Go.RowKit
namespace Ytikggonjagoiaaa
end Ytikggonjagoiaaa
end Go.Proofs
