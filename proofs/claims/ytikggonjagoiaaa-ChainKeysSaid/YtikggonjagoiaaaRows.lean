/-
  No cell of these rows narrows 'for every input' (looked for: loops, veiled, ifaces, maps, wideKeys, modest, calm, conditions, laid).
  DERIVED. THE GIVEN ROWS OF THIS SEAT. 5 by the template 'for every input the law returns true; each argument reads behind the call as it read before'; 0 by the template 'total and deterministic' (their statements: YtikggonjagoiaaaTotals.lean).
  GIVEN WITH THE SEED: the statements are not yours to turn. If you find one false, say at which input.
  Laid BY PROGRAM, IN A SANDBOX (cutbox-rows.mjs): the forced cells as the released guide's own fill.sh prints them over the translation 060731f770cd1020… (all of the seat's roots in one cut). By AI agents, Wed Nov 11 2026. No macro, syntax, notation, axiom, sorry.
-/
import Derived.Test.YtikggonjagoiaaaChecked
import GoSem.Claim
import GoSem.ClaimJoined
import GoSem.ClaimMapViews
import Derived.JoinedTies
import Derived.KernelRfl
namespace Go.Proofs.Ytikggonjagoiaaa
/- THE CELL 'sum', in the pinned program and in every row, IS THE sha256 OF THE DUMP (.gsa) THAT YtikggonjagoiaaaProg.lean LOADS. Nothing in Lean hashes anything: it is a label: what it is worth is what the hold of that sum in a sandbox is worth. -/
noncomputable def Try.pinned : Pinned := { name := "ytikggonjagoiaaa", sum := "060731f770cd102082fc4058bcc79cb01d55ee458cad5caaf8d0b5101a35eede", checked := Try.checked }
namespace Rows
def none {H : Type} : Left H := { results := [], args := [] }

/-- 'missivelaw19.ChainSkips': WHATEVER THE INPUT: true; the input reads as it did. -/
def chainSkipsSpec : ChangeSpec := { name := "chainSkips", fn := fun _ => fun
  | [d1, d2] => { results := [.lit (.bool true)], args := [d1, d2] }
  | _ => none }
def chainSkipsRow : OpenClaim := { program := "ytikggonjagoiaaa", sum := "060731f770cd102082fc4058bcc79cb01d55ee458cad5caaf8d0b5101a35eede", func := "missive/missivelaw19.ChainSkips", spec := "chainSkips", recurses := true, apart := false }
def ChainSkipsSaid : Prop := chainSkipsRow.holds Try.pinned (OpenSpec.ofChange chainSkipsSpec)

/-- ITS FALSE NEIGHBOUR: 'it returns false'. Refute it at one input. -/
def chainSkipsWrong : ChangeSpec := { name := "chainSkips", fn := fun _ => fun
  | [d1, d2] => { results := [.lit (.bool false)], args := [d1, d2] }
  | _ => none }
def ChainSkipsWrongFalsely : Prop := chainSkipsRow.holds Try.pinned (OpenSpec.ofChange chainSkipsWrong)

/-- 'missivelaw19.ChainRoots': WHATEVER THE INPUT: true; the input reads as it did. -/
def chainRootsSpec : ChangeSpec := { name := "chainRoots", fn := fun _ => fun
  | [d1, d2, d3] => { results := [.lit (.bool true)], args := [d1, d2, d3] }
  | _ => none }
def chainRootsRow : OpenClaim := { program := "ytikggonjagoiaaa", sum := "060731f770cd102082fc4058bcc79cb01d55ee458cad5caaf8d0b5101a35eede", func := "missive/missivelaw19.ChainRoots", spec := "chainRoots", unfollowed := true, recurses := true, apart := false }
def ChainRootsSaid : Prop := chainRootsRow.holds Try.pinned (OpenSpec.ofChange chainRootsSpec)

/-- ITS FALSE NEIGHBOUR: 'it returns false'. Refute it at one input. -/
def chainRootsWrong : ChangeSpec := { name := "chainRoots", fn := fun _ => fun
  | [d1, d2, d3] => { results := [.lit (.bool false)], args := [d1, d2, d3] }
  | _ => none }
def ChainRootsWrongFalsely : Prop := chainRootsRow.holds Try.pinned (OpenSpec.ofChange chainRootsWrong)

/-- 'missivelaw19.ChainKeys': WHATEVER THE INPUT: true; the input reads as it did. -/
def chainKeysSpec : ChangeSpec := { name := "chainKeys", fn := fun _ => fun
  | [d1, d2] => { results := [.lit (.bool true)], args := [d1, d2] }
  | _ => none }
def chainKeysRow : OpenClaim := { program := "ytikggonjagoiaaa", sum := "060731f770cd102082fc4058bcc79cb01d55ee458cad5caaf8d0b5101a35eede", func := "missive/missivelaw19.ChainKeys", spec := "chainKeys", unfollowed := true, recurses := true, apart := false }
def ChainKeysSaid : Prop := chainKeysRow.holds Try.pinned (OpenSpec.ofChange chainKeysSpec)

/-- ITS FALSE NEIGHBOUR: 'it returns false'. Refute it at one input. -/
def chainKeysWrong : ChangeSpec := { name := "chainKeys", fn := fun _ => fun
  | [d1, d2] => { results := [.lit (.bool false)], args := [d1, d2] }
  | _ => none }
def ChainKeysWrongFalsely : Prop := chainKeysRow.holds Try.pinned (OpenSpec.ofChange chainKeysWrong)

/-- 'missivelaw19.ChainAhead': WHATEVER THE INPUT: true; the input reads as it did. -/
def chainAheadSpec : ChangeSpec := { name := "chainAhead", fn := fun _ => fun
  | [d1, d2, d3] => { results := [.lit (.bool true)], args := [d1, d2, d3] }
  | _ => none }
def chainAheadRow : OpenClaim := { program := "ytikggonjagoiaaa", sum := "060731f770cd102082fc4058bcc79cb01d55ee458cad5caaf8d0b5101a35eede", func := "missive/missivelaw19.ChainAhead", spec := "chainAhead", recurses := true, apart := false }
def ChainAheadSaid : Prop := chainAheadRow.holds Try.pinned (OpenSpec.ofChange chainAheadSpec)

/-- ITS FALSE NEIGHBOUR: 'it returns false'. Refute it at one input. -/
def chainAheadWrong : ChangeSpec := { name := "chainAhead", fn := fun _ => fun
  | [d1, d2, d3] => { results := [.lit (.bool false)], args := [d1, d2, d3] }
  | _ => none }
def ChainAheadWrongFalsely : Prop := chainAheadRow.holds Try.pinned (OpenSpec.ofChange chainAheadWrong)

/-- 'missivelaw19.ChainNothing': WHATEVER THE INPUT: true; the input reads as it did. -/
def chainNothingSpec : ChangeSpec := { name := "chainNothing", fn := fun _ => fun
  | [d] => { results := [.lit (.bool true)], args := [d] }
  | _ => none }
def chainNothingRow : OpenClaim := { program := "ytikggonjagoiaaa", sum := "060731f770cd102082fc4058bcc79cb01d55ee458cad5caaf8d0b5101a35eede", func := "missive/missivelaw19.ChainNothing", spec := "chainNothing", recurses := true, apart := false }
def ChainNothingSaid : Prop := chainNothingRow.holds Try.pinned (OpenSpec.ofChange chainNothingSpec)

/-- ITS FALSE NEIGHBOUR: 'it returns false'. Refute it at one input. -/
def chainNothingWrong : ChangeSpec := { name := "chainNothing", fn := fun _ => fun
  | [d] => { results := [.lit (.bool false)], args := [d] }
  | _ => none }
def ChainNothingWrongFalsely : Prop := chainNothingRow.holds Try.pinned (OpenSpec.ofChange chainNothingWrong)

/- THE SECOND FORM. 'bulk': how many values and letters a reading holds, each counted each time it is reached (what is shared counts as often as it is met; a slice's spare places count too). A statement '..UptoSaid' is the law's where the arguments, and the package variables that the reading takes, are together of bulk at most 1048576: NARROWER than '..Said'. Prove '..Said' where nothing that the law and all that it calls make is longer than what came in: it says more and counts as full. Else prove '..UptoSaid'. A law counts once. -/
mutual
def uptoBulk {H : Type} : DataW H → Nat
  | .lit (.string bytes) => bytes.length + 1
  | .lit _ => 1
  | .nil => 1
  | .ptr d => uptoBulk d + 1
  | .slice elems spare => uptoBulkAll elems + uptoBulkAll spare + 1
  | .agg parts => uptoBulkAll parts + 1
  | .iface _ d => uptoBulk d + 1
  | .map entries => uptoBulkEntries entries + 1
  | .held _ => 1
def uptoBulkAll {H : Type} : List (DataW H) → Nat
  | [] => 0
  | d :: r => uptoBulk d + uptoBulkAll r
def uptoBulkEntries {H : Type} : List (Lit × DataW H) → Nat
  | [] => 0
  | x :: r => uptoBulkEntry x + uptoBulkEntries r
def uptoBulkEntry {H : Type} : Lit × DataW H → Nat
  | (.string bytes, d) => bytes.length + uptoBulk d + 1
  | (_, d) => uptoBulk d + 1
 end
def uptoSmall : (H : Type) → List (DataW H) → Bool := fun _ ds => decide (uptoBulkAll ds ≤ 1048576)
def OpenSpec.upto (s : _root_.Go.ChangeSpec) : _root_.Go.OpenSpec := { _root_.Go.OpenSpec.ofChange s with cond := some uptoSmall }

/-- 'missivelaw19.ChainSkips', WHERE WHAT IT READS IS OF BULK AT MOST 1048576: true; the input reads as it did. -/
def chainSkipsUptoRow : OpenClaim := { program := "ytikggonjagoiaaa", sum := "060731f770cd102082fc4058bcc79cb01d55ee458cad5caaf8d0b5101a35eede", func := "missive/missivelaw19.ChainSkips", spec := "chainSkips", recurses := true, apart := false, narrowed := true }
def ChainSkipsUptoSaid : Prop := chainSkipsUptoRow.holds Try.pinned (OpenSpec.upto chainSkipsSpec)

/-- 'missivelaw19.ChainRoots', WHERE WHAT IT READS IS OF BULK AT MOST 1048576: true; the input reads as it did. -/
def chainRootsUptoRow : OpenClaim := { program := "ytikggonjagoiaaa", sum := "060731f770cd102082fc4058bcc79cb01d55ee458cad5caaf8d0b5101a35eede", func := "missive/missivelaw19.ChainRoots", spec := "chainRoots", unfollowed := true, recurses := true, apart := false, narrowed := true }
def ChainRootsUptoSaid : Prop := chainRootsUptoRow.holds Try.pinned (OpenSpec.upto chainRootsSpec)

/-- 'missivelaw19.ChainKeys', WHERE WHAT IT READS IS OF BULK AT MOST 1048576: true; the input reads as it did. -/
def chainKeysUptoRow : OpenClaim := { program := "ytikggonjagoiaaa", sum := "060731f770cd102082fc4058bcc79cb01d55ee458cad5caaf8d0b5101a35eede", func := "missive/missivelaw19.ChainKeys", spec := "chainKeys", unfollowed := true, recurses := true, apart := false, narrowed := true }
def ChainKeysUptoSaid : Prop := chainKeysUptoRow.holds Try.pinned (OpenSpec.upto chainKeysSpec)

/-- 'missivelaw19.ChainAhead', WHERE WHAT IT READS IS OF BULK AT MOST 1048576: true; the input reads as it did. -/
def chainAheadUptoRow : OpenClaim := { program := "ytikggonjagoiaaa", sum := "060731f770cd102082fc4058bcc79cb01d55ee458cad5caaf8d0b5101a35eede", func := "missive/missivelaw19.ChainAhead", spec := "chainAhead", recurses := true, apart := false, narrowed := true }
def ChainAheadUptoSaid : Prop := chainAheadUptoRow.holds Try.pinned (OpenSpec.upto chainAheadSpec)

/-- 'missivelaw19.ChainNothing', WHERE WHAT IT READS IS OF BULK AT MOST 1048576: true; the input reads as it did. -/
def chainNothingUptoRow : OpenClaim := { program := "ytikggonjagoiaaa", sum := "060731f770cd102082fc4058bcc79cb01d55ee458cad5caaf8d0b5101a35eede", func := "missive/missivelaw19.ChainNothing", spec := "chainNothing", recurses := true, apart := false, narrowed := true }
def ChainNothingUptoSaid : Prop := chainNothingUptoRow.holds Try.pinned (OpenSpec.upto chainNothingSpec)

end Rows
end Go.Proofs.Ytikggonjagoiaaa
