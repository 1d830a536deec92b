/-
  No cell of these rows narrows 'for every input' (looked for: loops, veiled, ifaces, maps, wideKeys, modest, calm, conditions, laid).
  DERIVED. THE GIVEN ROWS OF THIS SEAT. 5 by the template 'for every input the law returns true; each argument reads behind the call as it read before'; 0 by the template 'total and deterministic' (their statements: YtpcbkeikhojmbaaTotals.lean).
  GIVEN WITH THE SEED: the statements are not yours to turn. If you find one false, say at which input.
  Laid BY PROGRAM, IN A SANDBOX (cutbox-rows.mjs): the forced cells as the released guide's own fill.sh prints them over the translation 2f40457fb2c4ce74… (all of the seat's roots in one cut). By AI agents, Wed Nov 11 2026. No macro, syntax, notation, axiom, sorry.
-/
import Derived.Test.YtpcbkeikhojmbaaChecked
import GoSem.Claim
import GoSem.ClaimJoined
import GoSem.ClaimMapViews
import Derived.JoinedTies
import Derived.KernelRfl
namespace Go.Proofs.Ytpcbkeikhojmbaa
/- THE CELL 'sum', in the pinned program and in every row, IS THE sha256 OF THE DUMP (.gsa) THAT YtpcbkeikhojmbaaProg.lean LOADS. Nothing in Lean hashes anything: it is a label: what it is worth is what the hold of that sum in a sandbox is worth. -/
noncomputable def Try.pinned : Pinned := { name := "ytpcbkeikhojmbaa", sum := "2f40457fb2c4ce74da225bd71b0b09a4ca66e6fe3d1d982b3cfbbfe8f2fef7b7", checked := Try.checked }
namespace Rows
def none {H : Type} : Left H := { results := [], args := [] }

/-- 'missivelaw3.Sha3Permutes': WHATEVER THE INPUT: true; the input reads as it did. -/
def sha3PermutesSpec : ChangeSpec := { name := "sha3Permutes", fn := fun _ => fun
  | [d1, d2] => { results := [.lit (.bool true)], args := [d1, d2] }
  | _ => none }
def sha3PermutesRow : OpenClaim := { program := "ytpcbkeikhojmbaa", sum := "2f40457fb2c4ce74da225bd71b0b09a4ca66e6fe3d1d982b3cfbbfe8f2fef7b7", func := "missive/missivelaw3.Sha3Permutes", spec := "sha3Permutes", unfollowed := true, recurses := true, apart := false }
def Sha3PermutesSaid : Prop := sha3PermutesRow.holds Try.pinned (OpenSpec.ofChange sha3PermutesSpec)

/-- ITS FALSE NEIGHBOUR: 'it returns false'. Refute it at one input. -/
def sha3PermutesWrong : ChangeSpec := { name := "sha3Permutes", fn := fun _ => fun
  | [d1, d2] => { results := [.lit (.bool false)], args := [d1, d2] }
  | _ => none }
def Sha3PermutesWrongFalsely : Prop := sha3PermutesRow.holds Try.pinned (OpenSpec.ofChange sha3PermutesWrong)

/-- 'missivelaw3.Sha3Sums': WHATEVER THE INPUT: true; the input reads as it did. -/
def sha3SumsSpec : ChangeSpec := { name := "sha3Sums", fn := fun _ => fun
  | [d1, d2] => { results := [.lit (.bool true)], args := [d1, d2] }
  | _ => none }
def sha3SumsRow : OpenClaim := { program := "ytpcbkeikhojmbaa", sum := "2f40457fb2c4ce74da225bd71b0b09a4ca66e6fe3d1d982b3cfbbfe8f2fef7b7", func := "missive/missivelaw3.Sha3Sums", spec := "sha3Sums", unfollowed := true, recurses := true, apart := false }
def Sha3SumsSaid : Prop := sha3SumsRow.holds Try.pinned (OpenSpec.ofChange sha3SumsSpec)

/-- ITS FALSE NEIGHBOUR: 'it returns false'. Refute it at one input. -/
def sha3SumsWrong : ChangeSpec := { name := "sha3Sums", fn := fun _ => fun
  | [d1, d2] => { results := [.lit (.bool false)], args := [d1, d2] }
  | _ => none }
def Sha3SumsWrongFalsely : Prop := sha3SumsRow.holds Try.pinned (OpenSpec.ofChange sha3SumsWrong)

/-- 'missivelaw3.Sha3Reads': WHATEVER THE INPUT: true; the input reads as it did. -/
def sha3ReadsSpec : ChangeSpec := { name := "sha3Reads", fn := fun _ => fun
  | [d1, d2, d3, d4] => { results := [.lit (.bool true)], args := [d1, d2, d3, d4] }
  | _ => none }
def sha3ReadsRow : OpenClaim := { program := "ytpcbkeikhojmbaa", sum := "2f40457fb2c4ce74da225bd71b0b09a4ca66e6fe3d1d982b3cfbbfe8f2fef7b7", func := "missive/missivelaw3.Sha3Reads", spec := "sha3Reads", unfollowed := true, recurses := true, apart := false }
def Sha3ReadsSaid : Prop := sha3ReadsRow.holds Try.pinned (OpenSpec.ofChange sha3ReadsSpec)

/-- ITS FALSE NEIGHBOUR: 'it returns false'. Refute it at one input. -/
def sha3ReadsWrong : ChangeSpec := { name := "sha3Reads", fn := fun _ => fun
  | [d1, d2, d3, d4] => { results := [.lit (.bool false)], args := [d1, d2, d3, d4] }
  | _ => none }
def Sha3ReadsWrongFalsely : Prop := sha3ReadsRow.holds Try.pinned (OpenSpec.ofChange sha3ReadsWrong)

/-- 'missivelaw3.Sha3Limits': WHATEVER THE INPUT: true; the input reads as it did. -/
def sha3LimitsSpec : ChangeSpec := { name := "sha3Limits", fn := fun _ => fun
  | [d] => { results := [.lit (.bool true)], args := [d] }
  | _ => none }
def sha3LimitsRow : OpenClaim := { program := "ytpcbkeikhojmbaa", sum := "2f40457fb2c4ce74da225bd71b0b09a4ca66e6fe3d1d982b3cfbbfe8f2fef7b7", func := "missive/missivelaw3.Sha3Limits", spec := "sha3Limits", unfollowed := true, recurses := true, apart := false }
def Sha3LimitsSaid : Prop := sha3LimitsRow.holds Try.pinned (OpenSpec.ofChange sha3LimitsSpec)

/-- ITS FALSE NEIGHBOUR: 'it returns false'. Refute it at one input. -/
def sha3LimitsWrong : ChangeSpec := { name := "sha3Limits", fn := fun _ => fun
  | [d] => { results := [.lit (.bool false)], args := [d] }
  | _ => none }
def Sha3LimitsWrongFalsely : Prop := sha3LimitsRow.holds Try.pinned (OpenSpec.ofChange sha3LimitsWrong)

/-- 'missivelaw3.Sha3Cuts': WHATEVER THE INPUT: true; the input reads as it did. -/
def sha3CutsSpec : ChangeSpec := { name := "sha3Cuts", fn := fun _ => fun
  | [d1, d2, d3] => { results := [.lit (.bool true)], args := [d1, d2, d3] }
  | _ => none }
def sha3CutsRow : OpenClaim := { program := "ytpcbkeikhojmbaa", sum := "2f40457fb2c4ce74da225bd71b0b09a4ca66e6fe3d1d982b3cfbbfe8f2fef7b7", func := "missive/missivelaw3.Sha3Cuts", spec := "sha3Cuts", unfollowed := true, recurses := true, apart := false }
def Sha3CutsSaid : Prop := sha3CutsRow.holds Try.pinned (OpenSpec.ofChange sha3CutsSpec)

/-- ITS FALSE NEIGHBOUR: 'it returns false'. Refute it at one input. -/
def sha3CutsWrong : ChangeSpec := { name := "sha3Cuts", fn := fun _ => fun
  | [d1, d2, d3] => { results := [.lit (.bool false)], args := [d1, d2, d3] }
  | _ => none }
def Sha3CutsWrongFalsely : Prop := sha3CutsRow.holds Try.pinned (OpenSpec.ofChange sha3CutsWrong)

/- THE SECOND FORM. 'bulk': how many values and letters a reading holds, each counted each time it is reached (what is shared counts as often as it is met; a slice's spare places count too). A statement '..UptoSaid' is the law's where the arguments, and the package variables that the reading takes, are together of bulk at most 1048576: NARROWER than '..Said'. Prove '..Said' where nothing that the law and all that it calls make is longer than what came in: it says more and counts as full. Else prove '..UptoSaid'. A law counts once. -/
mutual
def uptoBulk {H : Type} : DataW H → Nat
  | .lit (.string bytes) => bytes.length + 1
  | .lit _ => 1
  | .nil => 1
  | .ptr d => uptoBulk d + 1
  | .slice elems spare => uptoBulkAll elems + uptoBulkAll spare + 1
  | .agg parts => uptoBulkAll parts + 1
  | .iface _ d => uptoBulk d + 1
  | .map entries => uptoBulkEntries entries + 1
  | .held _ => 1
def uptoBulkAll {H : Type} : List (DataW H) → Nat
  | [] => 0
  | d :: r => uptoBulk d + uptoBulkAll r
def uptoBulkEntries {H : Type} : List (Lit × DataW H) → Nat
  | [] => 0
  | x :: r => uptoBulkEntry x + uptoBulkEntries r
def uptoBulkEntry {H : Type} : Lit × DataW H → Nat
  | (.string bytes, d) => bytes.length + uptoBulk d + 1
  | (_, d) => uptoBulk d + 1
 end
def uptoSmall : (H : Type) → List (DataW H) → Bool := fun _ ds => decide (uptoBulkAll ds ≤ 1048576)
def OpenSpec.upto (s : _root_.Go.ChangeSpec) : _root_.Go.OpenSpec := { _root_.Go.OpenSpec.ofChange s with cond := some uptoSmall }

/-- 'missivelaw3.Sha3Permutes', WHERE WHAT IT READS IS OF BULK AT MOST 1048576: true; the input reads as it did. -/
def sha3PermutesUptoRow : OpenClaim := { program := "ytpcbkeikhojmbaa", sum := "2f40457fb2c4ce74da225bd71b0b09a4ca66e6fe3d1d982b3cfbbfe8f2fef7b7", func := "missive/missivelaw3.Sha3Permutes", spec := "sha3Permutes", unfollowed := true, recurses := true, apart := false, narrowed := true }
def Sha3PermutesUptoSaid : Prop := sha3PermutesUptoRow.holds Try.pinned (OpenSpec.upto sha3PermutesSpec)

/-- 'missivelaw3.Sha3Sums', WHERE WHAT IT READS IS OF BULK AT MOST 1048576: true; the input reads as it did. -/
def sha3SumsUptoRow : OpenClaim := { program := "ytpcbkeikhojmbaa", sum := "2f40457fb2c4ce74da225bd71b0b09a4ca66e6fe3d1d982b3cfbbfe8f2fef7b7", func := "missive/missivelaw3.Sha3Sums", spec := "sha3Sums", unfollowed := true, recurses := true, apart := false, narrowed := true }
def Sha3SumsUptoSaid : Prop := sha3SumsUptoRow.holds Try.pinned (OpenSpec.upto sha3SumsSpec)

/-- 'missivelaw3.Sha3Reads', WHERE WHAT IT READS IS OF BULK AT MOST 1048576: true; the input reads as it did. -/
def sha3ReadsUptoRow : OpenClaim := { program := "ytpcbkeikhojmbaa", sum := "2f40457fb2c4ce74da225bd71b0b09a4ca66e6fe3d1d982b3cfbbfe8f2fef7b7", func := "missive/missivelaw3.Sha3Reads", spec := "sha3Reads", unfollowed := true, recurses := true, apart := false, narrowed := true }
def Sha3ReadsUptoSaid : Prop := sha3ReadsUptoRow.holds Try.pinned (OpenSpec.upto sha3ReadsSpec)

/-- 'missivelaw3.Sha3Limits', WHERE WHAT IT READS IS OF BULK AT MOST 1048576: true; the input reads as it did. -/
def sha3LimitsUptoRow : OpenClaim := { program := "ytpcbkeikhojmbaa", sum := "2f40457fb2c4ce74da225bd71b0b09a4ca66e6fe3d1d982b3cfbbfe8f2fef7b7", func := "missive/missivelaw3.Sha3Limits", spec := "sha3Limits", unfollowed := true, recurses := true, apart := false, narrowed := true }
def Sha3LimitsUptoSaid : Prop := sha3LimitsUptoRow.holds Try.pinned (OpenSpec.upto sha3LimitsSpec)

/-- 'missivelaw3.Sha3Cuts', WHERE WHAT IT READS IS OF BULK AT MOST 1048576: true; the input reads as it did. -/
def sha3CutsUptoRow : OpenClaim := { program := "ytpcbkeikhojmbaa", sum := "2f40457fb2c4ce74da225bd71b0b09a4ca66e6fe3d1d982b3cfbbfe8f2fef7b7", func := "missive/missivelaw3.Sha3Cuts", spec := "sha3Cuts", unfollowed := true, recurses := true, apart := false, narrowed := true }
def Sha3CutsUptoSaid : Prop := sha3CutsUptoRow.holds Try.pinned (OpenSpec.upto sha3CutsSpec)

end Rows
end Go.Proofs.Ytpcbkeikhojmbaa
