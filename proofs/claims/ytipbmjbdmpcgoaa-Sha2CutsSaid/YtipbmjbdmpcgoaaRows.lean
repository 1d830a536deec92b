/-
  No cell of these rows narrows 'for every input' (looked for: loops, veiled, ifaces, maps, wideKeys, modest, calm, conditions, laid).
  DERIVED. THE GIVEN ROWS OF THIS SEAT. 4 by the template 'for every input the law returns true; each argument reads behind the call as it read before'; 0 by the template 'total and deterministic' (their statements: YtipbmjbdmpcgoaaTotals.lean).
  GIVEN WITH THE SEED: the statements are not yours to turn. If you find one false, say at which input.
  Laid BY PROGRAM, IN A SANDBOX (cutbox-rows.mjs): the forced cells as the released guide's own fill.sh prints them over the translation d5f433de4a44f12b… (all of the seat's roots in one cut). By AI agents, Wed Nov 11 2026. No macro, syntax, notation, axiom, sorry.
-/
import Derived.Test.YtipbmjbdmpcgoaaChecked
import GoSem.Claim
import GoSem.ClaimJoined
import GoSem.ClaimMapViews
import Derived.JoinedTies
import Derived.KernelRfl
namespace Go.Proofs.Ytipbmjbdmpcgoaa
/- THE CELL 'sum', in the pinned program and in every row, IS THE sha256 OF THE DUMP (.gsa) THAT YtipbmjbdmpcgoaaProg.lean LOADS. Nothing in Lean hashes anything: it is a label: what it is worth is what the hold of that sum in a sandbox is worth. -/
noncomputable def Try.pinned : Pinned := { name := "ytipbmjbdmpcgoaa", sum := "d5f433de4a44f12bca796674b115f878e92a13759a736d2f1d10b0fa2e97fce9", checked := Try.checked }
namespace Rows
def none {H : Type} : Left H := { results := [], args := [] }

/-- 'missivelaw2.Sha2Sums': WHATEVER THE INPUT: true; the input reads as it did. -/
def sha2SumsSpec : ChangeSpec := { name := "sha2Sums", fn := fun _ => fun
  | [d] => { results := [.lit (.bool true)], args := [d] }
  | _ => none }
def sha2SumsRow : OpenClaim := { program := "ytipbmjbdmpcgoaa", sum := "d5f433de4a44f12bca796674b115f878e92a13759a736d2f1d10b0fa2e97fce9", func := "missive/missivelaw2.Sha2Sums", spec := "sha2Sums", apart := false }
def Sha2SumsSaid : Prop := sha2SumsRow.holds Try.pinned (OpenSpec.ofChange sha2SumsSpec)

/-- ITS FALSE NEIGHBOUR: 'it returns false'. Refute it at one input. -/
def sha2SumsWrong : ChangeSpec := { name := "sha2Sums", fn := fun _ => fun
  | [d] => { results := [.lit (.bool false)], args := [d] }
  | _ => none }
def Sha2SumsWrongFalsely : Prop := sha2SumsRow.holds Try.pinned (OpenSpec.ofChange sha2SumsWrong)

/-- 'missivelaw2.Sha2Lengths': WHATEVER THE INPUT: true; the input reads as it did. -/
def sha2LengthsSpec : ChangeSpec := { name := "sha2Lengths", fn := fun _ => fun
  | [d] => { results := [.lit (.bool true)], args := [d] }
  | _ => none }
def sha2LengthsRow : OpenClaim := { program := "ytipbmjbdmpcgoaa", sum := "d5f433de4a44f12bca796674b115f878e92a13759a736d2f1d10b0fa2e97fce9", func := "missive/missivelaw2.Sha2Lengths", spec := "sha2Lengths", apart := false }
def Sha2LengthsSaid : Prop := sha2LengthsRow.holds Try.pinned (OpenSpec.ofChange sha2LengthsSpec)

/-- ITS FALSE NEIGHBOUR: 'it returns false'. Refute it at one input. -/
def sha2LengthsWrong : ChangeSpec := { name := "sha2Lengths", fn := fun _ => fun
  | [d] => { results := [.lit (.bool false)], args := [d] }
  | _ => none }
def Sha2LengthsWrongFalsely : Prop := sha2LengthsRow.holds Try.pinned (OpenSpec.ofChange sha2LengthsWrong)

/-- 'missivelaw2.Sha2Cuts': WHATEVER THE INPUT: true; the input reads as it did. -/
def sha2CutsSpec : ChangeSpec := { name := "sha2Cuts", fn := fun _ => fun
  | [d1, d2] => { results := [.lit (.bool true)], args := [d1, d2] }
  | _ => none }
def sha2CutsRow : OpenClaim := { program := "ytipbmjbdmpcgoaa", sum := "d5f433de4a44f12bca796674b115f878e92a13759a736d2f1d10b0fa2e97fce9", func := "missive/missivelaw2.Sha2Cuts", spec := "sha2Cuts", apart := false }
def Sha2CutsSaid : Prop := sha2CutsRow.holds Try.pinned (OpenSpec.ofChange sha2CutsSpec)

/-- ITS FALSE NEIGHBOUR: 'it returns false'. Refute it at one input. -/
def sha2CutsWrong : ChangeSpec := { name := "sha2Cuts", fn := fun _ => fun
  | [d1, d2] => { results := [.lit (.bool false)], args := [d1, d2] }
  | _ => none }
def Sha2CutsWrongFalsely : Prop := sha2CutsRow.holds Try.pinned (OpenSpec.ofChange sha2CutsWrong)

/-- 'missivelaw2.Sha2Goes': WHATEVER THE INPUT: true; the input reads as it did. -/
def sha2GoesSpec : ChangeSpec := { name := "sha2Goes", fn := fun _ => fun
  | [d1, d2, d3] => { results := [.lit (.bool true)], args := [d1, d2, d3] }
  | _ => none }
def sha2GoesRow : OpenClaim := { program := "ytipbmjbdmpcgoaa", sum := "d5f433de4a44f12bca796674b115f878e92a13759a736d2f1d10b0fa2e97fce9", func := "missive/missivelaw2.Sha2Goes", spec := "sha2Goes", apart := false }
def Sha2GoesSaid : Prop := sha2GoesRow.holds Try.pinned (OpenSpec.ofChange sha2GoesSpec)

/-- ITS FALSE NEIGHBOUR: 'it returns false'. Refute it at one input. -/
def sha2GoesWrong : ChangeSpec := { name := "sha2Goes", fn := fun _ => fun
  | [d1, d2, d3] => { results := [.lit (.bool false)], args := [d1, d2, d3] }
  | _ => none }
def Sha2GoesWrongFalsely : Prop := sha2GoesRow.holds Try.pinned (OpenSpec.ofChange sha2GoesWrong)

/- THE SECOND FORM. 'bulk': how many values and letters a reading holds, each counted each time it is reached (what is shared counts as often as it is met; a slice's spare places count too). A statement '..UptoSaid' is the law's where the arguments, and the package variables that the reading takes, are together of bulk at most 1048576: NARROWER than '..Said'. Prove '..Said' where nothing that the law and all that it calls make is longer than what came in: it says more and counts as full. Else prove '..UptoSaid'. A law counts once. -/
mutual
def uptoBulk {H : Type} : DataW H → Nat
  | .lit (.string bytes) => bytes.length + 1
  | .lit _ => 1
  | .nil => 1
  | .ptr d => uptoBulk d + 1
  | .slice elems spare => uptoBulkAll elems + uptoBulkAll spare + 1
  | .agg parts => uptoBulkAll parts + 1
  | .iface _ d => uptoBulk d + 1
  | .map entries => uptoBulkEntries entries + 1
  | .held _ => 1
def uptoBulkAll {H : Type} : List (DataW H) → Nat
  | [] => 0
  | d :: r => uptoBulk d + uptoBulkAll r
def uptoBulkEntries {H : Type} : List (Lit × DataW H) → Nat
  | [] => 0
  | x :: r => uptoBulkEntry x + uptoBulkEntries r
def uptoBulkEntry {H : Type} : Lit × DataW H → Nat
  | (.string bytes, d) => bytes.length + uptoBulk d + 1
  | (_, d) => uptoBulk d + 1
 end
def uptoSmall : (H : Type) → List (DataW H) → Bool := fun _ ds => decide (uptoBulkAll ds ≤ 1048576)
def OpenSpec.upto (s : _root_.Go.ChangeSpec) : _root_.Go.OpenSpec := { _root_.Go.OpenSpec.ofChange s with cond := some uptoSmall }

/-- 'missivelaw2.Sha2Sums', WHERE WHAT IT READS IS OF BULK AT MOST 1048576: true; the input reads as it did. -/
def sha2SumsUptoRow : OpenClaim := { program := "ytipbmjbdmpcgoaa", sum := "d5f433de4a44f12bca796674b115f878e92a13759a736d2f1d10b0fa2e97fce9", func := "missive/missivelaw2.Sha2Sums", spec := "sha2Sums", apart := false, narrowed := true }
def Sha2SumsUptoSaid : Prop := sha2SumsUptoRow.holds Try.pinned (OpenSpec.upto sha2SumsSpec)

/-- 'missivelaw2.Sha2Lengths', WHERE WHAT IT READS IS OF BULK AT MOST 1048576: true; the input reads as it did. -/
def sha2LengthsUptoRow : OpenClaim := { program := "ytipbmjbdmpcgoaa", sum := "d5f433de4a44f12bca796674b115f878e92a13759a736d2f1d10b0fa2e97fce9", func := "missive/missivelaw2.Sha2Lengths", spec := "sha2Lengths", apart := false, narrowed := true }
def Sha2LengthsUptoSaid : Prop := sha2LengthsUptoRow.holds Try.pinned (OpenSpec.upto sha2LengthsSpec)

/-- 'missivelaw2.Sha2Cuts', WHERE WHAT IT READS IS OF BULK AT MOST 1048576: true; the input reads as it did. -/
def sha2CutsUptoRow : OpenClaim := { program := "ytipbmjbdmpcgoaa", sum := "d5f433de4a44f12bca796674b115f878e92a13759a736d2f1d10b0fa2e97fce9", func := "missive/missivelaw2.Sha2Cuts", spec := "sha2Cuts", apart := false, narrowed := true }
def Sha2CutsUptoSaid : Prop := sha2CutsUptoRow.holds Try.pinned (OpenSpec.upto sha2CutsSpec)

/-- 'missivelaw2.Sha2Goes', WHERE WHAT IT READS IS OF BULK AT MOST 1048576: true; the input reads as it did. -/
def sha2GoesUptoRow : OpenClaim := { program := "ytipbmjbdmpcgoaa", sum := "d5f433de4a44f12bca796674b115f878e92a13759a736d2f1d10b0fa2e97fce9", func := "missive/missivelaw2.Sha2Goes", spec := "sha2Goes", apart := false, narrowed := true }
def Sha2GoesUptoSaid : Prop := sha2GoesUptoRow.holds Try.pinned (OpenSpec.upto sha2GoesSpec)

end Rows
end Go.Proofs.Ytipbmjbdmpcgoaa
