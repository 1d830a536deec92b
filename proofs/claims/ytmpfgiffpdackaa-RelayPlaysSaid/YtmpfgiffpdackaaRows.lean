/-
  No cell of these rows narrows 'for every input' (looked for: loops, veiled, ifaces, maps, wideKeys, modest, calm, conditions, laid).
  DERIVED. THE GIVEN ROWS OF THIS SEAT. 5 by the template 'for every input the law returns true; each argument reads behind the call as it read before'; 0 by the template 'total and deterministic' (their statements: YtmpfgiffpdackaaTotals.lean).
  GIVEN WITH THE SEED: the statements are not yours to turn. If you find one false, say at which input.
  Laid BY PROGRAM, IN A SANDBOX (cutbox-rows.mjs): the forced cells as the released guide's own fill.sh prints them over the translation f1977d58203515b9… (all of the seat's roots in one cut). By AI agents, Wed Nov 11 2026. No macro, syntax, notation, axiom, sorry.
-/
import Derived.Test.YtmpfgiffpdackaaChecked
import GoSem.Claim
import GoSem.ClaimJoined
import GoSem.ClaimMapViews
import Derived.JoinedTies
import Derived.KernelRfl
namespace Go.Proofs.Ytmpfgiffpdackaa
/- THE CELL 'sum', in the pinned program and in every row, IS THE sha256 OF THE DUMP (.gsa) THAT YtmpfgiffpdackaaProg.lean LOADS. Nothing in Lean hashes anything: it is a label: what it is worth is what the hold of that sum in a sandbox is worth. -/
noncomputable def Try.pinned : Pinned := { name := "ytmpfgiffpdackaa", sum := "f1977d58203515b9824830c48cc9dd7a2d7c8826a3a90bd2f7a119154ddb5585", checked := Try.checked }
namespace Rows
def none {H : Type} : Left H := { results := [], args := [] }

/-- 'missivelaw27.RelayTimes': WHATEVER THE INPUT: true; the input reads as it did. -/
def relayTimesSpec : ChangeSpec := { name := "relayTimes", fn := fun _ => fun
  | [d1, d2] => { results := [.lit (.bool true)], args := [d1, d2] }
  | _ => none }
def relayTimesRow : OpenClaim := { program := "ytmpfgiffpdackaa", sum := "f1977d58203515b9824830c48cc9dd7a2d7c8826a3a90bd2f7a119154ddb5585", func := "missive/missivelaw27.RelayTimes", spec := "relayTimes", unfollowed := true, recurses := true, apart := false }
def RelayTimesSaid : Prop := relayTimesRow.holds Try.pinned (OpenSpec.ofChange relayTimesSpec)

/-- ITS FALSE NEIGHBOUR: 'it returns false'. Refute it at one input. -/
def relayTimesWrong : ChangeSpec := { name := "relayTimes", fn := fun _ => fun
  | [d1, d2] => { results := [.lit (.bool false)], args := [d1, d2] }
  | _ => none }
def RelayTimesWrongFalsely : Prop := relayTimesRow.holds Try.pinned (OpenSpec.ofChange relayTimesWrong)

/-- 'missivelaw27.RelayQueues': WHATEVER THE INPUT: true; the input reads as it did. -/
def relayQueuesSpec : ChangeSpec := { name := "relayQueues", fn := fun _ => fun
  | [d1, d2] => { results := [.lit (.bool true)], args := [d1, d2] }
  | _ => none }
def relayQueuesRow : OpenClaim := { program := "ytmpfgiffpdackaa", sum := "f1977d58203515b9824830c48cc9dd7a2d7c8826a3a90bd2f7a119154ddb5585", func := "missive/missivelaw27.RelayQueues", spec := "relayQueues", unfollowed := true, recurses := true, apart := false }
def RelayQueuesSaid : Prop := relayQueuesRow.holds Try.pinned (OpenSpec.ofChange relayQueuesSpec)

/-- ITS FALSE NEIGHBOUR: 'it returns false'. Refute it at one input. -/
def relayQueuesWrong : ChangeSpec := { name := "relayQueues", fn := fun _ => fun
  | [d1, d2] => { results := [.lit (.bool false)], args := [d1, d2] }
  | _ => none }
def RelayQueuesWrongFalsely : Prop := relayQueuesRow.holds Try.pinned (OpenSpec.ofChange relayQueuesWrong)

/-- 'missivelaw27.RelayPlays': WHATEVER THE INPUT: true; the input reads as it did. -/
def relayPlaysSpec : ChangeSpec := { name := "relayPlays", fn := fun _ => fun
  | [d1, d2] => { results := [.lit (.bool true)], args := [d1, d2] }
  | _ => none }
def relayPlaysRow : OpenClaim := { program := "ytmpfgiffpdackaa", sum := "f1977d58203515b9824830c48cc9dd7a2d7c8826a3a90bd2f7a119154ddb5585", func := "missive/missivelaw27.RelayPlays", spec := "relayPlays", unfollowed := true, recurses := true, apart := false }
def RelayPlaysSaid : Prop := relayPlaysRow.holds Try.pinned (OpenSpec.ofChange relayPlaysSpec)

/-- ITS FALSE NEIGHBOUR: 'it returns false'. Refute it at one input. -/
def relayPlaysWrong : ChangeSpec := { name := "relayPlays", fn := fun _ => fun
  | [d1, d2] => { results := [.lit (.bool false)], args := [d1, d2] }
  | _ => none }
def RelayPlaysWrongFalsely : Prop := relayPlaysRow.holds Try.pinned (OpenSpec.ofChange relayPlaysWrong)

/-- 'missivelaw27.RelayNothing': WHATEVER THE INPUT: true; the input reads as it did. -/
def relayNothingSpec : ChangeSpec := { name := "relayNothing", fn := fun _ => fun
  | [d1, d2, d3, d4] => { results := [.lit (.bool true)], args := [d1, d2, d3, d4] }
  | _ => none }
def relayNothingRow : OpenClaim := { program := "ytmpfgiffpdackaa", sum := "f1977d58203515b9824830c48cc9dd7a2d7c8826a3a90bd2f7a119154ddb5585", func := "missive/missivelaw27.RelayNothing", spec := "relayNothing", unfollowed := true, recurses := true, apart := false }
def RelayNothingSaid : Prop := relayNothingRow.holds Try.pinned (OpenSpec.ofChange relayNothingSpec)

/-- ITS FALSE NEIGHBOUR: 'it returns false'. Refute it at one input. -/
def relayNothingWrong : ChangeSpec := { name := "relayNothing", fn := fun _ => fun
  | [d1, d2, d3, d4] => { results := [.lit (.bool false)], args := [d1, d2, d3, d4] }
  | _ => none }
def RelayNothingWrongFalsely : Prop := relayNothingRow.holds Try.pinned (OpenSpec.ofChange relayNothingWrong)

/-- 'missivelaw27.RelayIds': WHATEVER THE INPUT: true; the input reads as it did. -/
def relayIdsSpec : ChangeSpec := { name := "relayIds", fn := fun _ => fun
  | [d1, d2] => { results := [.lit (.bool true)], args := [d1, d2] }
  | _ => none }
def relayIdsRow : OpenClaim := { program := "ytmpfgiffpdackaa", sum := "f1977d58203515b9824830c48cc9dd7a2d7c8826a3a90bd2f7a119154ddb5585", func := "missive/missivelaw27.RelayIds", spec := "relayIds", unfollowed := true, recurses := true, apart := false }
def RelayIdsSaid : Prop := relayIdsRow.holds Try.pinned (OpenSpec.ofChange relayIdsSpec)

/-- ITS FALSE NEIGHBOUR: 'it returns false'. Refute it at one input. -/
def relayIdsWrong : ChangeSpec := { name := "relayIds", fn := fun _ => fun
  | [d1, d2] => { results := [.lit (.bool false)], args := [d1, d2] }
  | _ => none }
def RelayIdsWrongFalsely : Prop := relayIdsRow.holds Try.pinned (OpenSpec.ofChange relayIdsWrong)

/- THE SECOND FORM. 'bulk': how many values and letters a reading holds, each counted each time it is reached (what is shared counts as often as it is met; a slice's spare places count too). A statement '..UptoSaid' is the law's where the arguments, and the package variables that the reading takes, are together of bulk at most 1048576: NARROWER than '..Said'. Prove '..Said' where nothing that the law and all that it calls make is longer than what came in: it says more and counts as full. Else prove '..UptoSaid'. A law counts once. -/
mutual
def uptoBulk {H : Type} : DataW H → Nat
  | .lit (.string bytes) => bytes.length + 1
  | .lit _ => 1
  | .nil => 1
  | .ptr d => uptoBulk d + 1
  | .slice elems spare => uptoBulkAll elems + uptoBulkAll spare + 1
  | .agg parts => uptoBulkAll parts + 1
  | .iface _ d => uptoBulk d + 1
  | .map entries => uptoBulkEntries entries + 1
  | .held _ => 1
def uptoBulkAll {H : Type} : List (DataW H) → Nat
  | [] => 0
  | d :: r => uptoBulk d + uptoBulkAll r
def uptoBulkEntries {H : Type} : List (Lit × DataW H) → Nat
  | [] => 0
  | x :: r => uptoBulkEntry x + uptoBulkEntries r
def uptoBulkEntry {H : Type} : Lit × DataW H → Nat
  | (.string bytes, d) => bytes.length + uptoBulk d + 1
  | (_, d) => uptoBulk d + 1
 end
def uptoSmall : (H : Type) → List (DataW H) → Bool := fun _ ds => decide (uptoBulkAll ds ≤ 1048576)
def OpenSpec.upto (s : _root_.Go.ChangeSpec) : _root_.Go.OpenSpec := { _root_.Go.OpenSpec.ofChange s with cond := some uptoSmall }

/-- 'missivelaw27.RelayTimes', WHERE WHAT IT READS IS OF BULK AT MOST 1048576: true; the input reads as it did. -/
def relayTimesUptoRow : OpenClaim := { program := "ytmpfgiffpdackaa", sum := "f1977d58203515b9824830c48cc9dd7a2d7c8826a3a90bd2f7a119154ddb5585", func := "missive/missivelaw27.RelayTimes", spec := "relayTimes", unfollowed := true, recurses := true, apart := false, narrowed := true }
def RelayTimesUptoSaid : Prop := relayTimesUptoRow.holds Try.pinned (OpenSpec.upto relayTimesSpec)

/-- 'missivelaw27.RelayQueues', WHERE WHAT IT READS IS OF BULK AT MOST 1048576: true; the input reads as it did. -/
def relayQueuesUptoRow : OpenClaim := { program := "ytmpfgiffpdackaa", sum := "f1977d58203515b9824830c48cc9dd7a2d7c8826a3a90bd2f7a119154ddb5585", func := "missive/missivelaw27.RelayQueues", spec := "relayQueues", unfollowed := true, recurses := true, apart := false, narrowed := true }
def RelayQueuesUptoSaid : Prop := relayQueuesUptoRow.holds Try.pinned (OpenSpec.upto relayQueuesSpec)

/-- 'missivelaw27.RelayPlays', WHERE WHAT IT READS IS OF BULK AT MOST 1048576: true; the input reads as it did. -/
def relayPlaysUptoRow : OpenClaim := { program := "ytmpfgiffpdackaa", sum := "f1977d58203515b9824830c48cc9dd7a2d7c8826a3a90bd2f7a119154ddb5585", func := "missive/missivelaw27.RelayPlays", spec := "relayPlays", unfollowed := true, recurses := true, apart := false, narrowed := true }
def RelayPlaysUptoSaid : Prop := relayPlaysUptoRow.holds Try.pinned (OpenSpec.upto relayPlaysSpec)

/-- 'missivelaw27.RelayNothing', WHERE WHAT IT READS IS OF BULK AT MOST 1048576: true; the input reads as it did. -/
def relayNothingUptoRow : OpenClaim := { program := "ytmpfgiffpdackaa", sum := "f1977d58203515b9824830c48cc9dd7a2d7c8826a3a90bd2f7a119154ddb5585", func := "missive/missivelaw27.RelayNothing", spec := "relayNothing", unfollowed := true, recurses := true, apart := false, narrowed := true }
def RelayNothingUptoSaid : Prop := relayNothingUptoRow.holds Try.pinned (OpenSpec.upto relayNothingSpec)

/-- 'missivelaw27.RelayIds', WHERE WHAT IT READS IS OF BULK AT MOST 1048576: true; the input reads as it did. -/
def relayIdsUptoRow : OpenClaim := { program := "ytmpfgiffpdackaa", sum := "f1977d58203515b9824830c48cc9dd7a2d7c8826a3a90bd2f7a119154ddb5585", func := "missive/missivelaw27.RelayIds", spec := "relayIds", unfollowed := true, recurses := true, apart := false, narrowed := true }
def RelayIdsUptoSaid : Prop := relayIdsUptoRow.holds Try.pinned (OpenSpec.upto relayIdsSpec)

end Rows
end Go.Proofs.Ytmpfgiffpdackaa
