/-
  No cell of these rows narrows 'for every input' (looked for: loops, veiled, ifaces, maps, wideKeys, modest, calm, conditions, laid).
  DERIVED. THE GIVEN ROWS OF THIS SEAT. 6 by the template 'for every input the law returns true; each argument reads behind the call as it read before'; 0 by the template 'total and deterministic' (their statements: YtonoafnjkpahjaaTotals.lean).
  GIVEN WITH THE SEED: the statements are not yours to turn. If you find one false, say at which input.
  Laid BY PROGRAM, IN A SANDBOX (cutbox-rows.mjs): the forced cells as the released guide's own fill.sh prints them over the translation 140bda5b727cf70c… (all of the seat's roots in one cut). By AI agents, Wed Nov 11 2026. No macro, syntax, notation, axiom, sorry.
-/
import Derived.Test.YtonoafnjkpahjaaChecked
import GoSem.Claim
import GoSem.ClaimJoined
import GoSem.ClaimMapViews
import Derived.JoinedTies
import Derived.KernelRfl
namespace Go.Proofs.Ytonoafnjkpahjaa
/- THE CELL 'sum', in the pinned program and in every row, IS THE sha256 OF THE DUMP (.gsa) THAT YtonoafnjkpahjaaProg.lean LOADS. Nothing in Lean hashes anything: it is a label: what it is worth is what the hold of that sum in a sandbox is worth. -/
noncomputable def Try.pinned : Pinned := { name := "ytonoafnjkpahjaa", sum := "140bda5b727cf70c6a798de2210c59467ef37cb9f7f3eee99d67fe9b486fd98f", checked := Try.checked }
namespace Rows
def none {H : Type} : Left H := { results := [], args := [] }

/-- 'missivelaw1.FlatBack': WHATEVER THE INPUT: true; the input reads as it did. -/
def flatBackSpec : ChangeSpec := { name := "flatBack", fn := fun _ => fun
  | [d1, d2, d3] => { results := [.lit (.bool true)], args := [d1, d2, d3] }
  | _ => none }
def flatBackRow : OpenClaim := { program := "ytonoafnjkpahjaa", sum := "140bda5b727cf70c6a798de2210c59467ef37cb9f7f3eee99d67fe9b486fd98f", func := "missive/missivelaw1.FlatBack", spec := "flatBack", apart := false }
def FlatBackSaid : Prop := flatBackRow.holds Try.pinned (OpenSpec.ofChange flatBackSpec)

/-- ITS FALSE NEIGHBOUR: 'it returns false'. Refute it at one input. -/
def flatBackWrong : ChangeSpec := { name := "flatBack", fn := fun _ => fun
  | [d1, d2, d3] => { results := [.lit (.bool false)], args := [d1, d2, d3] }
  | _ => none }
def FlatBackWrongFalsely : Prop := flatBackRow.holds Try.pinned (OpenSpec.ofChange flatBackWrong)

/-- 'missivelaw1.FlatEach': WHATEVER THE INPUT: true; the input reads as it did. -/
def flatEachSpec : ChangeSpec := { name := "flatEach", fn := fun _ => fun
  | [d1, d2, d3] => { results := [.lit (.bool true)], args := [d1, d2, d3] }
  | _ => none }
def flatEachRow : OpenClaim := { program := "ytonoafnjkpahjaa", sum := "140bda5b727cf70c6a798de2210c59467ef37cb9f7f3eee99d67fe9b486fd98f", func := "missive/missivelaw1.FlatEach", spec := "flatEach", unfollowed := true, recurses := true, apart := false }
def FlatEachSaid : Prop := flatEachRow.holds Try.pinned (OpenSpec.ofChange flatEachSpec)

/-- ITS FALSE NEIGHBOUR: 'it returns false'. Refute it at one input. -/
def flatEachWrong : ChangeSpec := { name := "flatEach", fn := fun _ => fun
  | [d1, d2, d3] => { results := [.lit (.bool false)], args := [d1, d2, d3] }
  | _ => none }
def FlatEachWrongFalsely : Prop := flatEachRow.holds Try.pinned (OpenSpec.ofChange flatEachWrong)

/-- 'missivelaw1.FlatHex': WHATEVER THE INPUT: true; the input reads as it did. -/
def flatHexSpec : ChangeSpec := { name := "flatHex", fn := fun _ => fun
  | [d1, d2] => { results := [.lit (.bool true)], args := [d1, d2] }
  | _ => none }
def flatHexRow : OpenClaim := { program := "ytonoafnjkpahjaa", sum := "140bda5b727cf70c6a798de2210c59467ef37cb9f7f3eee99d67fe9b486fd98f", func := "missive/missivelaw1.FlatHex", spec := "flatHex", inPlace := ["internal/bytealg.IndexByteString"], apart := false }
def FlatHexSaid : Prop := flatHexRow.holds Try.pinned (OpenSpec.ofChange flatHexSpec)

/-- ITS FALSE NEIGHBOUR: 'it returns false'. Refute it at one input. -/
def flatHexWrong : ChangeSpec := { name := "flatHex", fn := fun _ => fun
  | [d1, d2] => { results := [.lit (.bool false)], args := [d1, d2] }
  | _ => none }
def FlatHexWrongFalsely : Prop := flatHexRow.holds Try.pinned (OpenSpec.ofChange flatHexWrong)

/-- 'missivelaw1.FlatEquals': WHATEVER THE INPUT: true; the input reads as it did. -/
def flatEqualsSpec : ChangeSpec := { name := "flatEquals", fn := fun _ => fun
  | [d1, d2] => { results := [.lit (.bool true)], args := [d1, d2] }
  | _ => none }
def flatEqualsRow : OpenClaim := { program := "ytonoafnjkpahjaa", sum := "140bda5b727cf70c6a798de2210c59467ef37cb9f7f3eee99d67fe9b486fd98f", func := "missive/missivelaw1.FlatEquals", spec := "flatEquals", apart := false }
def FlatEqualsSaid : Prop := flatEqualsRow.holds Try.pinned (OpenSpec.ofChange flatEqualsSpec)

/-- ITS FALSE NEIGHBOUR: 'it returns false'. Refute it at one input. -/
def flatEqualsWrong : ChangeSpec := { name := "flatEquals", fn := fun _ => fun
  | [d1, d2] => { results := [.lit (.bool false)], args := [d1, d2] }
  | _ => none }
def FlatEqualsWrongFalsely : Prop := flatEqualsRow.holds Try.pinned (OpenSpec.ofChange flatEqualsWrong)

/-- 'missivelaw1.FlatNumbers': WHATEVER THE INPUT: true; the input reads as it did. -/
def flatNumbersSpec : ChangeSpec := { name := "flatNumbers", fn := fun _ => fun
  | [d1, d2, d3] => { results := [.lit (.bool true)], args := [d1, d2, d3] }
  | _ => none }
def flatNumbersRow : OpenClaim := { program := "ytonoafnjkpahjaa", sum := "140bda5b727cf70c6a798de2210c59467ef37cb9f7f3eee99d67fe9b486fd98f", func := "missive/missivelaw1.FlatNumbers", spec := "flatNumbers", apart := false }
def FlatNumbersSaid : Prop := flatNumbersRow.holds Try.pinned (OpenSpec.ofChange flatNumbersSpec)

/-- ITS FALSE NEIGHBOUR: 'it returns false'. Refute it at one input. -/
def flatNumbersWrong : ChangeSpec := { name := "flatNumbers", fn := fun _ => fun
  | [d1, d2, d3] => { results := [.lit (.bool false)], args := [d1, d2, d3] }
  | _ => none }
def FlatNumbersWrongFalsely : Prop := flatNumbersRow.holds Try.pinned (OpenSpec.ofChange flatNumbersWrong)

/-- 'missivelaw1.FlatAsks': WHATEVER THE INPUT: true; the input reads as it did. -/
def flatAsksSpec : ChangeSpec := { name := "flatAsks", fn := fun _ => fun
  | [d1, d2, d3, d4] => { results := [.lit (.bool true)], args := [d1, d2, d3, d4] }
  | _ => none }
def flatAsksRow : OpenClaim := { program := "ytonoafnjkpahjaa", sum := "140bda5b727cf70c6a798de2210c59467ef37cb9f7f3eee99d67fe9b486fd98f", func := "missive/missivelaw1.FlatAsks", spec := "flatAsks", apart := false }
def FlatAsksSaid : Prop := flatAsksRow.holds Try.pinned (OpenSpec.ofChange flatAsksSpec)

/-- ITS FALSE NEIGHBOUR: 'it returns false'. Refute it at one input. -/
def flatAsksWrong : ChangeSpec := { name := "flatAsks", fn := fun _ => fun
  | [d1, d2, d3, d4] => { results := [.lit (.bool false)], args := [d1, d2, d3, d4] }
  | _ => none }
def FlatAsksWrongFalsely : Prop := flatAsksRow.holds Try.pinned (OpenSpec.ofChange flatAsksWrong)

/- THE SECOND FORM. 'bulk': how many values and letters a reading holds, each counted each time it is reached (what is shared counts as often as it is met; a slice's spare places count too). A statement '..UptoSaid' is the law's where the arguments, and the package variables that the reading takes, are together of bulk at most 1048576: NARROWER than '..Said'. Prove '..Said' where nothing that the law and all that it calls make is longer than what came in: it says more and counts as full. Else prove '..UptoSaid'. A law counts once. -/
mutual
def uptoBulk {H : Type} : DataW H → Nat
  | .lit (.string bytes) => bytes.length + 1
  | .lit _ => 1
  | .nil => 1
  | .ptr d => uptoBulk d + 1
  | .slice elems spare => uptoBulkAll elems + uptoBulkAll spare + 1
  | .agg parts => uptoBulkAll parts + 1
  | .iface _ d => uptoBulk d + 1
  | .map entries => uptoBulkEntries entries + 1
  | .held _ => 1
def uptoBulkAll {H : Type} : List (DataW H) → Nat
  | [] => 0
  | d :: r => uptoBulk d + uptoBulkAll r
def uptoBulkEntries {H : Type} : List (Lit × DataW H) → Nat
  | [] => 0
  | x :: r => uptoBulkEntry x + uptoBulkEntries r
def uptoBulkEntry {H : Type} : Lit × DataW H → Nat
  | (.string bytes, d) => bytes.length + uptoBulk d + 1
  | (_, d) => uptoBulk d + 1
 end
def uptoSmall : (H : Type) → List (DataW H) → Bool := fun _ ds => decide (uptoBulkAll ds ≤ 1048576)
def OpenSpec.upto (s : _root_.Go.ChangeSpec) : _root_.Go.OpenSpec := { _root_.Go.OpenSpec.ofChange s with cond := some uptoSmall }

/-- 'missivelaw1.FlatBack', WHERE WHAT IT READS IS OF BULK AT MOST 1048576: true; the input reads as it did. -/
def flatBackUptoRow : OpenClaim := { program := "ytonoafnjkpahjaa", sum := "140bda5b727cf70c6a798de2210c59467ef37cb9f7f3eee99d67fe9b486fd98f", func := "missive/missivelaw1.FlatBack", spec := "flatBack", apart := false, narrowed := true }
def FlatBackUptoSaid : Prop := flatBackUptoRow.holds Try.pinned (OpenSpec.upto flatBackSpec)

/-- 'missivelaw1.FlatEach', WHERE WHAT IT READS IS OF BULK AT MOST 1048576: true; the input reads as it did. -/
def flatEachUptoRow : OpenClaim := { program := "ytonoafnjkpahjaa", sum := "140bda5b727cf70c6a798de2210c59467ef37cb9f7f3eee99d67fe9b486fd98f", func := "missive/missivelaw1.FlatEach", spec := "flatEach", unfollowed := true, recurses := true, apart := false, narrowed := true }
def FlatEachUptoSaid : Prop := flatEachUptoRow.holds Try.pinned (OpenSpec.upto flatEachSpec)

/-- 'missivelaw1.FlatHex', WHERE WHAT IT READS IS OF BULK AT MOST 1048576: true; the input reads as it did. -/
def flatHexUptoRow : OpenClaim := { program := "ytonoafnjkpahjaa", sum := "140bda5b727cf70c6a798de2210c59467ef37cb9f7f3eee99d67fe9b486fd98f", func := "missive/missivelaw1.FlatHex", spec := "flatHex", inPlace := ["internal/bytealg.IndexByteString"], apart := false, narrowed := true }
def FlatHexUptoSaid : Prop := flatHexUptoRow.holds Try.pinned (OpenSpec.upto flatHexSpec)

/-- 'missivelaw1.FlatEquals', WHERE WHAT IT READS IS OF BULK AT MOST 1048576: true; the input reads as it did. -/
def flatEqualsUptoRow : OpenClaim := { program := "ytonoafnjkpahjaa", sum := "140bda5b727cf70c6a798de2210c59467ef37cb9f7f3eee99d67fe9b486fd98f", func := "missive/missivelaw1.FlatEquals", spec := "flatEquals", apart := false, narrowed := true }
def FlatEqualsUptoSaid : Prop := flatEqualsUptoRow.holds Try.pinned (OpenSpec.upto flatEqualsSpec)

/-- 'missivelaw1.FlatNumbers', WHERE WHAT IT READS IS OF BULK AT MOST 1048576: true; the input reads as it did. -/
def flatNumbersUptoRow : OpenClaim := { program := "ytonoafnjkpahjaa", sum := "140bda5b727cf70c6a798de2210c59467ef37cb9f7f3eee99d67fe9b486fd98f", func := "missive/missivelaw1.FlatNumbers", spec := "flatNumbers", apart := false, narrowed := true }
def FlatNumbersUptoSaid : Prop := flatNumbersUptoRow.holds Try.pinned (OpenSpec.upto flatNumbersSpec)

/-- 'missivelaw1.FlatAsks', WHERE WHAT IT READS IS OF BULK AT MOST 1048576: true; the input reads as it did. -/
def flatAsksUptoRow : OpenClaim := { program := "ytonoafnjkpahjaa", sum := "140bda5b727cf70c6a798de2210c59467ef37cb9f7f3eee99d67fe9b486fd98f", func := "missive/missivelaw1.FlatAsks", spec := "flatAsks", apart := false, narrowed := true }
def FlatAsksUptoSaid : Prop := flatAsksUptoRow.holds Try.pinned (OpenSpec.upto flatAsksSpec)

end Rows
end Go.Proofs.Ytonoafnjkpahjaa
