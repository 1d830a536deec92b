/-
  No cell of these rows narrows 'for every input' (looked for: loops, veiled, ifaces, maps, wideKeys, modest, calm, conditions, laid).
  DERIVED. THE GIVEN ROWS OF THIS SEAT. 5 by the template 'for every input the law returns true; each argument reads behind the call as it read before'; 0 by the template 'total and deterministic' (their statements: YtfefphcmfhabiaaTotals.lean).
  GIVEN WITH THE SEED: the statements are not yours to turn. If you find one false, say at which input.
  Laid BY PROGRAM, IN A SANDBOX (cutbox-rows.mjs): the forced cells as the released guide's own fill.sh prints them over the translation b3e051906bd73448… (all of the seat's roots in one cut). By AI agents, Wed Nov 11 2026. No macro, syntax, notation, axiom, sorry.
-/
import Derived.Test.YtfefphcmfhabiaaChecked
import GoSem.Claim
import GoSem.ClaimJoined
import GoSem.ClaimMapViews
import Derived.JoinedTies
import Derived.KernelRfl
namespace Go.Proofs.Ytfefphcmfhabiaa
/- THE CELL 'sum', in the pinned program and in every row, IS THE sha256 OF THE DUMP (.gsa) THAT YtfefphcmfhabiaaProg.lean LOADS. Nothing in Lean hashes anything: it is a label: what it is worth is what the hold of that sum in a sandbox is worth. -/
noncomputable def Try.pinned : Pinned := { name := "ytfefphcmfhabiaa", sum := "b3e051906bd73448c390de0d5be1522c6b7e941e13475af025e7bdcd676fd668", checked := Try.checked }
namespace Rows
def none {H : Type} : Left H := { results := [], args := [] }

/-- 'missivelaw20.SkipOldest': WHATEVER THE INPUT: true; the input reads as it did. -/
def skipOldestSpec : ChangeSpec := { name := "skipOldest", fn := fun _ => fun
  | [d1, d2] => { results := [.lit (.bool true)], args := [d1, d2] }
  | _ => none }
def skipOldestRow : OpenClaim := { program := "ytfefphcmfhabiaa", sum := "b3e051906bd73448c390de0d5be1522c6b7e941e13475af025e7bdcd676fd668", func := "missive/missivelaw20.SkipOldest", spec := "skipOldest", unfollowed := true, recurses := true, apart := false }
def SkipOldestSaid : Prop := skipOldestRow.holds Try.pinned (OpenSpec.ofChange skipOldestSpec)

/-- ITS FALSE NEIGHBOUR: 'it returns false'. Refute it at one input. -/
def skipOldestWrong : ChangeSpec := { name := "skipOldest", fn := fun _ => fun
  | [d1, d2] => { results := [.lit (.bool false)], args := [d1, d2] }
  | _ => none }
def SkipOldestWrongFalsely : Prop := skipOldestRow.holds Try.pinned (OpenSpec.ofChange skipOldestWrong)

/-- 'missivelaw20.SkipForgets': WHATEVER THE INPUT: true; the input reads as it did. -/
def skipForgetsSpec : ChangeSpec := { name := "skipForgets", fn := fun _ => fun
  | [d1, d2] => { results := [.lit (.bool true)], args := [d1, d2] }
  | _ => none }
def skipForgetsRow : OpenClaim := { program := "ytfefphcmfhabiaa", sum := "b3e051906bd73448c390de0d5be1522c6b7e941e13475af025e7bdcd676fd668", func := "missive/missivelaw20.SkipForgets", spec := "skipForgets", unfollowed := true, recurses := true, apart := false }
def SkipForgetsSaid : Prop := skipForgetsRow.holds Try.pinned (OpenSpec.ofChange skipForgetsSpec)

/-- ITS FALSE NEIGHBOUR: 'it returns false'. Refute it at one input. -/
def skipForgetsWrong : ChangeSpec := { name := "skipForgets", fn := fun _ => fun
  | [d1, d2] => { results := [.lit (.bool false)], args := [d1, d2] }
  | _ => none }
def SkipForgetsWrongFalsely : Prop := skipForgetsRow.holds Try.pinned (OpenSpec.ofChange skipForgetsWrong)

/-- 'missivelaw20.SkipOnce': WHATEVER THE INPUT: true; the input reads as it did. -/
def skipOnceSpec : ChangeSpec := { name := "skipOnce", fn := fun _ => fun
  | [d1, d2] => { results := [.lit (.bool true)], args := [d1, d2] }
  | _ => none }
def skipOnceRow : OpenClaim := { program := "ytfefphcmfhabiaa", sum := "b3e051906bd73448c390de0d5be1522c6b7e941e13475af025e7bdcd676fd668", func := "missive/missivelaw20.SkipOnce", spec := "skipOnce", unfollowed := true, recurses := true, apart := false }
def SkipOnceSaid : Prop := skipOnceRow.holds Try.pinned (OpenSpec.ofChange skipOnceSpec)

/-- ITS FALSE NEIGHBOUR: 'it returns false'. Refute it at one input. -/
def skipOnceWrong : ChangeSpec := { name := "skipOnce", fn := fun _ => fun
  | [d1, d2] => { results := [.lit (.bool false)], args := [d1, d2] }
  | _ => none }
def SkipOnceWrongFalsely : Prop := skipOnceRow.holds Try.pinned (OpenSpec.ofChange skipOnceWrong)

/-- 'missivelaw20.SkipReads': WHATEVER THE INPUT: true; the input reads as it did. -/
def skipReadsSpec : ChangeSpec := { name := "skipReads", fn := fun _ => fun
  | [d] => { results := [.lit (.bool true)], args := [d] }
  | _ => none }
def skipReadsRow : OpenClaim := { program := "ytfefphcmfhabiaa", sum := "b3e051906bd73448c390de0d5be1522c6b7e941e13475af025e7bdcd676fd668", func := "missive/missivelaw20.SkipReads", spec := "skipReads", unfollowed := true, recurses := true, apart := false }
def SkipReadsSaid : Prop := skipReadsRow.holds Try.pinned (OpenSpec.ofChange skipReadsSpec)

/-- ITS FALSE NEIGHBOUR: 'it returns false'. Refute it at one input. -/
def skipReadsWrong : ChangeSpec := { name := "skipReads", fn := fun _ => fun
  | [d] => { results := [.lit (.bool false)], args := [d] }
  | _ => none }
def SkipReadsWrongFalsely : Prop := skipReadsRow.holds Try.pinned (OpenSpec.ofChange skipReadsWrong)

/-- 'missivelaw20.SkipPlays': WHATEVER THE INPUT: true; the input reads as it did. -/
def skipPlaysSpec : ChangeSpec := { name := "skipPlays", fn := fun _ => fun
  | [d1, d2, d3] => { results := [.lit (.bool true)], args := [d1, d2, d3] }
  | _ => none }
def skipPlaysRow : OpenClaim := { program := "ytfefphcmfhabiaa", sum := "b3e051906bd73448c390de0d5be1522c6b7e941e13475af025e7bdcd676fd668", func := "missive/missivelaw20.SkipPlays", spec := "skipPlays", unfollowed := true, recurses := true, apart := false }
def SkipPlaysSaid : Prop := skipPlaysRow.holds Try.pinned (OpenSpec.ofChange skipPlaysSpec)

/-- ITS FALSE NEIGHBOUR: 'it returns false'. Refute it at one input. -/
def skipPlaysWrong : ChangeSpec := { name := "skipPlays", fn := fun _ => fun
  | [d1, d2, d3] => { results := [.lit (.bool false)], args := [d1, d2, d3] }
  | _ => none }
def SkipPlaysWrongFalsely : Prop := skipPlaysRow.holds Try.pinned (OpenSpec.ofChange skipPlaysWrong)

/- THE SECOND FORM. 'bulk': how many values and letters a reading holds, each counted each time it is reached (what is shared counts as often as it is met; a slice's spare places count too). A statement '..UptoSaid' is the law's where the arguments, and the package variables that the reading takes, are together of bulk at most 1048576: NARROWER than '..Said'. Prove '..Said' where nothing that the law and all that it calls make is longer than what came in: it says more and counts as full. Else prove '..UptoSaid'. A law counts once. -/
mutual
def uptoBulk {H : Type} : DataW H → Nat
  | .lit (.string bytes) => bytes.length + 1
  | .lit _ => 1
  | .nil => 1
  | .ptr d => uptoBulk d + 1
  | .slice elems spare => uptoBulkAll elems + uptoBulkAll spare + 1
  | .agg parts => uptoBulkAll parts + 1
  | .iface _ d => uptoBulk d + 1
  | .map entries => uptoBulkEntries entries + 1
  | .held _ => 1
def uptoBulkAll {H : Type} : List (DataW H) → Nat
  | [] => 0
  | d :: r => uptoBulk d + uptoBulkAll r
def uptoBulkEntries {H : Type} : List (Lit × DataW H) → Nat
  | [] => 0
  | x :: r => uptoBulkEntry x + uptoBulkEntries r
def uptoBulkEntry {H : Type} : Lit × DataW H → Nat
  | (.string bytes, d) => bytes.length + uptoBulk d + 1
  | (_, d) => uptoBulk d + 1
 end
def uptoSmall : (H : Type) → List (DataW H) → Bool := fun _ ds => decide (uptoBulkAll ds ≤ 1048576)
def OpenSpec.upto (s : _root_.Go.ChangeSpec) : _root_.Go.OpenSpec := { _root_.Go.OpenSpec.ofChange s with cond := some uptoSmall }

/-- 'missivelaw20.SkipOldest', WHERE WHAT IT READS IS OF BULK AT MOST 1048576: true; the input reads as it did. -/
def skipOldestUptoRow : OpenClaim := { program := "ytfefphcmfhabiaa", sum := "b3e051906bd73448c390de0d5be1522c6b7e941e13475af025e7bdcd676fd668", func := "missive/missivelaw20.SkipOldest", spec := "skipOldest", unfollowed := true, recurses := true, apart := false, narrowed := true }
def SkipOldestUptoSaid : Prop := skipOldestUptoRow.holds Try.pinned (OpenSpec.upto skipOldestSpec)

/-- 'missivelaw20.SkipForgets', WHERE WHAT IT READS IS OF BULK AT MOST 1048576: true; the input reads as it did. -/
def skipForgetsUptoRow : OpenClaim := { program := "ytfefphcmfhabiaa", sum := "b3e051906bd73448c390de0d5be1522c6b7e941e13475af025e7bdcd676fd668", func := "missive/missivelaw20.SkipForgets", spec := "skipForgets", unfollowed := true, recurses := true, apart := false, narrowed := true }
def SkipForgetsUptoSaid : Prop := skipForgetsUptoRow.holds Try.pinned (OpenSpec.upto skipForgetsSpec)

/-- 'missivelaw20.SkipOnce', WHERE WHAT IT READS IS OF BULK AT MOST 1048576: true; the input reads as it did. -/
def skipOnceUptoRow : OpenClaim := { program := "ytfefphcmfhabiaa", sum := "b3e051906bd73448c390de0d5be1522c6b7e941e13475af025e7bdcd676fd668", func := "missive/missivelaw20.SkipOnce", spec := "skipOnce", unfollowed := true, recurses := true, apart := false, narrowed := true }
def SkipOnceUptoSaid : Prop := skipOnceUptoRow.holds Try.pinned (OpenSpec.upto skipOnceSpec)

/-- 'missivelaw20.SkipReads', WHERE WHAT IT READS IS OF BULK AT MOST 1048576: true; the input reads as it did. -/
def skipReadsUptoRow : OpenClaim := { program := "ytfefphcmfhabiaa", sum := "b3e051906bd73448c390de0d5be1522c6b7e941e13475af025e7bdcd676fd668", func := "missive/missivelaw20.SkipReads", spec := "skipReads", unfollowed := true, recurses := true, apart := false, narrowed := true }
def SkipReadsUptoSaid : Prop := skipReadsUptoRow.holds Try.pinned (OpenSpec.upto skipReadsSpec)

/-- 'missivelaw20.SkipPlays', WHERE WHAT IT READS IS OF BULK AT MOST 1048576: true; the input reads as it did. -/
def skipPlaysUptoRow : OpenClaim := { program := "ytfefphcmfhabiaa", sum := "b3e051906bd73448c390de0d5be1522c6b7e941e13475af025e7bdcd676fd668", func := "missive/missivelaw20.SkipPlays", spec := "skipPlays", unfollowed := true, recurses := true, apart := false, narrowed := true }
def SkipPlaysUptoSaid : Prop := skipPlaysUptoRow.holds Try.pinned (OpenSpec.upto skipPlaysSpec)

end Rows
end Go.Proofs.Ytfefphcmfhabiaa
