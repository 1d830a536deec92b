/-
  SHA-2 of "abc". No program here.
-/
import Derived.Test.YtipbmjbdmpcgoaaPx
set_option linter.unusedVariables false
set_option maxRecDepth 100000
namespace Go.X
theorem sha_abc256 : ((sha256L [97, 98, 99]).take 4) = [186, 120, 22, 191] := by decide +kernel
theorem sha_abc512 : ((sha512L [97, 98, 99]).take 4) = [221, 175, 53, 161] := by decide +kernel
end Go.X
