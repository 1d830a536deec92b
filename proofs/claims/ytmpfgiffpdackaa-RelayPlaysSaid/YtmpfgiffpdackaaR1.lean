import Derived.Test.YtmpfgiffpdackaaXA
import Derived.ProofKit
import Derived.OpenShut
import Derived.Deep.Matrix
import Derived.ShutString
import Derived.ChangeOld
/-
  From what the row's form reads of the arguments to what the walks are told of them.
-/
set_option linter.unusedVariables false
namespace Go.X
open Go.RowKit Go.ChangeShapes
theorem wf_u8 {n : Int} (h : (Lit.int .u8 n).wf = true) : ∃ x : UInt8, n = (x.toNat : Int) := by
  have hb := bounds_u8 h
  refine ⟨UInt8.ofNat n.toNat, ?_⟩
  rw [UInt8.toNat_ofNat', Nat.mod_eq_of_lt (by omega)]; omega
theorem wf_u64 {n : Int} (h : (Lit.int .u64 n).wf = true) : ∃ x : UInt64, n = (x.toNat : Int) := by
  have hb := bounds_u64 h
  refine ⟨UInt64.ofNat n.toNat, ?_⟩
  rw [UInt64.toNat_ofNat', Nat.mod_eq_of_lt (by omega)]; omega
/-- A slice of integers, opened. -/
theorem rd_open {k : IntKind} {w : World} {x : Addr} {len cap : Nat} {zs : List Int} (hl : len ≤ cap) (hm : cap ≤ maxLen) (hz : zs.length = cap) (hcell : ∀ i, i < zs.length → w.cell? (x.add i) = some (.int k (zs.getD i 0))) :
    Rd w (.slice (some x) len cap) ((zs.take len).map fun z => .int k z) := by
  have hlen : ((zs.take len).map fun z => Value.int k z).length = len := by simp; omega
  refine ⟨some x, cap, by rw [hlen], by rw [hlen]; unfold maxLen at hm; exact ⟨hl, hm⟩, fun h => (by cases h), fun i v hv => ?_⟩
  have hi : i < len := by rw [← hlen]; exact (List.getElem?_eq_some_iff.1 hv).1
  have hc := hcell i (by omega)
  obtain ⟨b, o, sp⟩ := x
  have hsp : (Addr.add ⟨b, o, sp⟩ i).spot = none := World.cell?_spot hc
  have hsp0 : sp = none := by
    have hc0 := hcell 0 (by omega)
    have := World.cell?_spot hc0
    simpa [Addr.add] using this
  subst hsp0
  rw [add_at] at hc
  refine ⟨b, o, rfl, ?_⟩
  rw [hc]
  rw [List.getElem?_map, List.getElem?_take_of_lt hi, List.getElem?_eq_getElem (by omega)] at hv
  rw [List.getD_eq_getElem?_getD, List.getElem?_eq_getElem (by omega)]
  simpa using hv
theorem bs_of {w : World} {s : Value} {zs : List Int} (h : Rd w s (zs.map fun z => .int .u8 z)) (hwf : ∀ n ∈ zs, (Lit.int .u8 n).wf = true) : ∃ l : List UInt8, Bs w s l := by
  refine ⟨zs.map fun z => UInt8.ofNat z.toNat, ?_⟩
  have : zs.map (fun z => Value.int .u8 z) = (zs.map fun z => UInt8.ofNat z.toNat).map fun x => B x := by
    rw [List.map_map]
    apply List.map_congr_left
    intro z hz
    have hb := bounds_u8 (hwf z hz)
    show Value.int .u8 z = Value.int .u8 _
    congr 1
    rw [UInt8.toNat_ofNat', Nat.mod_eq_of_lt (by omega)]; omega
  unfold Bs
  rw [← this]; exact h
theorem w64s_of {w : World} {s : Value} {zs : List Int} (h : Rd w s (zs.map fun z => .int .u64 z)) (hwf : ∀ n ∈ zs, (Lit.int .u64 n).wf = true) : ∃ l : List UInt64, Rd w s (l.map fun x => W64 x) := by
  refine ⟨zs.map fun z => UInt64.ofNat z.toNat, ?_⟩
  have : zs.map (fun z => Value.int .u64 z) = (zs.map fun z => UInt64.ofNat z.toNat).map fun x => W64 x := by
    rw [List.map_map]
    apply List.map_congr_left
    intro z hz
    have hb := bounds_u64 (hwf z hz)
    show Value.int .u64 z = Value.int .u64 _
    congr 1
    rw [UInt64.toNat_ofNat', Nat.mod_eq_of_lt (by omega)]; omega
  rw [← this]; exact h
theorem rd_row {k : IntKind} {w : World} {A : Option Addr} {len cap : Nat} {zs : List Int} (hl : len ≤ cap) (hm : cap ≤ maxLen) (hz : zs.length = cap) (h0 : A = none → cap = 0) (hcell : ∀ a, A = some a → ∀ c, c < cap → w.cell? (a.add c) = some (.int k (zs.getD c 0))) :
    Rd w (.slice A len cap) ((zs.take len).map fun z => .int k z) := by
  cases A with
  | some x => exact rd_open hl hm hz (fun i hi => hcell x rfl i (by omega))
  | none =>
    have := h0 rfl
    subst this
    have : zs = [] := List.eq_nil_of_length_eq_zero hz
    subst this
    obtain rfl : len = 0 := by omega
    exact Rd.nil w
theorem rl_of {w : World} {a : Addr} {len cap : Nat} {A : Nat → Option Addr} {L C : Nat → Nat} {Z : Nat → List Int} (hl : len ≤ cap) (hm : cap ≤ maxLen)
    (h : ∀ r, r < cap → w.cell? (a.add r) = some (.slice (A r) (L r) (C r)) ∧ L r ≤ C r ∧ C r ≤ maxLen ∧ (Z r).length = C r ∧ (∀ n ∈ Z r, (Lit.int .u8 n).wf = true) ∧ (A r = none → C r = 0) ∧ ∀ a', A r = some a' → 0 ≤ a'.block ∧ ∀ c, c < C r → w.cell? (a'.add c) = some (.int .u8 ((Z r).getD c 0))) :
    ∃ vs ll, Rl w (.slice (some a) len cap) vs ll := by
  have each : ∀ r, r < cap → ∃ l : List UInt8, Bs w (.slice (A r) (L r) (C r)) l := fun r hr => by
    obtain ⟨_, h2, h3, h4, h5, h6, h7⟩ := h r hr
    exact bs_of (rd_row h2 h3 h4 h6 (fun a' ha c hc => (h7 a' ha).2 c hc)) (fun n hn => h5 n (List.mem_of_mem_take hn))
  let ls : Nat → List UInt8 := fun r => if hr : r < cap then Classical.choose (each r hr) else []
  have hls : ∀ r, r < cap → Bs w (.slice (A r) (L r) (C r)) (ls r) := fun r hr => by
    simp only [ls, hr, dif_pos]; exact Classical.choose_spec (each r hr)
  refine ⟨(List.range len).map fun r => .slice (A r) (L r) (C r), (List.range len).map ls, ?_, by simp, fun i hi => ?_⟩
  · have hlen : ((List.range len).map fun r => Value.slice (A r) (L r) (C r)).length = len := by simp
    refine ⟨some a, cap, by rw [hlen], by rw [hlen]; unfold maxLen at hm; exact ⟨hl, hm⟩, fun h => (by cases h), fun i v hv => ?_⟩
    have hi : i < len := by rw [← hlen]; exact (List.getElem?_eq_some_iff.1 hv).1
    have hc := (h i (by omega)).1
    obtain ⟨b, o, sp⟩ := a
    have hsp0 : sp = none := by
      have hc0 := (h 0 (by omega)).1
      have := World.cell?_spot hc0
      simpa [Addr.add] using this
    subst hsp0
    rw [add_at] at hc
    refine ⟨b, o, rfl, ?_⟩
    rw [hc, ← hv]
    simp [List.getElem?_map, List.getElem?_range hi]
  · have hi' : i < len := by simpa using hi
    have e1 : ((List.range len).map fun r => Value.slice (A r) (L r) (C r)).getD i nilS = .slice (A i) (L i) (C i) := by
      simp [List.getD_eq_getElem?_getD, List.getElem?_map, List.getElem?_range hi']
    have e2 : ((List.range len).map ls).getD i [] = ls i := by
      simp [List.getD_eq_getElem?_getD, List.getElem?_map, List.getElem?_range hi']
    rw [e1, e2]; exact hls i (by omega)
end Go.X
