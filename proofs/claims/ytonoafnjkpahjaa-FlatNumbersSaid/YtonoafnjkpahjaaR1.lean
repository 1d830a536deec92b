/-
  From what the row's form reads of the arguments to what the walks are told of them.
-/
import Derived.Test.YtonoafnjkpahjaaX6
import Derived.ProofKit
import Derived.OpenShut
import Derived.ShutString
import Derived.ChangeOld
set_option linter.unusedVariables false
namespace Go.X
open Go.RowKit Go.ChangeShapes
theorem wf_u8 {n : Int} (h : (Lit.int .u8 n).wf = true) : ∃ x : UInt8, n = (x.toNat : Int) := by
  have hb := bounds_u8 h
  refine ⟨UInt8.ofNat n.toNat, ?_⟩
  rw [UInt8.toNat_ofNat', Nat.mod_eq_of_lt (by omega)]; omega
theorem wf_u64 {n : Int} (h : (Lit.int .u64 n).wf = true) : ∃ x : UInt64, n = (x.toNat : Int) := by
  have hb := bounds_u64 h
  refine ⟨UInt64.ofNat n.toNat, ?_⟩
  rw [UInt64.toNat_ofNat', Nat.mod_eq_of_lt (by omega)]; omega
/-- A slice of integers, opened. -/
theorem rd_open {k : IntKind} {w : World} {x : Addr} {len cap : Nat} {zs : List Int} (hl : len ≤ cap) (hm : cap ≤ maxLen) (hz : zs.length = cap) (hcell : ∀ i, i < zs.length → w.cell? (x.add i) = some (.int k (zs.getD i 0))) :
    Rd w (.slice (some x) len cap) ((zs.take len).map fun z => .int k z) := by
  have hlen : ((zs.take len).map fun z => Value.int k z).length = len := by simp; omega
  refine ⟨some x, cap, by rw [hlen], by rw [hlen]; unfold maxLen at hm; exact ⟨hl, hm⟩, fun h => (by cases h), fun i v hv => ?_⟩
  have hi : i < len := by rw [← hlen]; exact (List.getElem?_eq_some_iff.1 hv).1
  have hc := hcell i (by omega)
  obtain ⟨b, o, sp⟩ := x
  have hsp : (Addr.add ⟨b, o, sp⟩ i).spot = none := World.cell?_spot hc
  have hsp0 : sp = none := by
    have hc0 := hcell 0 (by omega)
    have := World.cell?_spot hc0
    simpa [Addr.add] using this
  subst hsp0
  rw [add_at] at hc
  refine ⟨b, o, rfl, ?_⟩
  rw [hc]
  rw [List.getElem?_map, List.getElem?_take_of_lt hi, List.getElem?_eq_getElem (by omega)] at hv
  rw [List.getD_eq_getElem?_getD, List.getElem?_eq_getElem (by omega)]
  simpa using hv
theorem bs_of {w : World} {s : Value} {zs : List Int} (h : Rd w s (zs.map fun z => .int .u8 z)) (hwf : ∀ n ∈ zs, (Lit.int .u8 n).wf = true) : ∃ l : List UInt8, Bs w s l := by
  refine ⟨zs.map fun z => UInt8.ofNat z.toNat, ?_⟩
  have : zs.map (fun z => Value.int .u8 z) = (zs.map fun z => UInt8.ofNat z.toNat).map fun x => B x := by
    rw [List.map_map]
    apply List.map_congr_left
    intro z hz
    have hb := bounds_u8 (hwf z hz)
    show Value.int .u8 z = Value.int .u8 _
    congr 1
    rw [UInt8.toNat_ofNat', Nat.mod_eq_of_lt (by omega)]; omega
  unfold Bs
  rw [← this]; exact h
end Go.X
