import Derived.Test.YtghklimejpmpnaaQz
import Derived.Test.YtghklimejpmpnaaQo
/-
  Pieces put together again. No program here.
-/
set_option linter.unusedVariables false
namespace Go.X
theorem Els.more {rs w vs ll} {q : Option Nat} (h : Els rs w vs ll) (hf : Fr w.heap.size q) : Els (q :: rs) w vs ll :=
  ⟨h.len, fun i hi => by have := h.at_ i hi; exact ⟨this.1, this.2.1, fun r hr => (List.mem_cons.1 hr).elim (fun e => by subst e; exact Ap.mk this.2.2.2 hf) (this.2.2.1 r), this.2.2.2⟩⟩
theorem Els.sub {rs qs w vs ll} (h : Els rs w vs ll) (hs : ∀ r ∈ qs, r ∈ rs) : Els qs w vs ll :=
  ⟨h.len, fun i hi => by have := h.at_ i hi; exact ⟨this.1, this.2.1, fun r hr => this.2.2.1 r (hs r hr), this.2.2.2⟩⟩
def pcAt (l : List UInt8) (n j : Nat) : List UInt8 := (l.drop (j * n)).take n
def lsOf (l : List UInt8) (n M : Nat) (hv : List Bool) : List (List UInt8) := (List.range M).map fun j => if hv.getD j false then pcAt l n j else []
section
variable {l : List UInt8} {n M : Nat} {hv : List Bool}
theorem lsOf_len : (lsOf l n M hv).length = M := by simp [lsOf]
theorem lsOf_get {j : Nat} (h : j < M) : (lsOf l n M hv).getD j [] = if hv.getD j false then pcAt l n j else [] := by
  unfold lsOf
  rw [List.getD_eq_getElem?_getD, List.getElem?_map, List.getElem?_range h]; rfl
theorem pcAt_len {j : Nat} (h : j * n < l.length) : (pcAt l n j).length = min n (l.length - j * n) := by unfold pcAt; rw [List.length_take, List.length_drop]
theorem pcAt_ne {j : Nat} (hn : 1 ≤ n) (h : j * n < l.length) : pcAt l n j ≠ [] := fun e => by
  have h1 := pcAt_len h
  rw [e, List.length_nil] at h1; omega
theorem pcAt_int {j : Nat} (h : j * n < l.length) : ((pcAt l n j).length : Int) = if (l.length : Int) - (j : Int) * (n : Int) < (n : Int) then (l.length : Int) - (j : Int) * (n : Int) else (n : Int) := by
  rw [pcAt_len h]
  have h1 : (j : Int) * (n : Int) = ((j * n : Nat) : Int) := by rw [Int.natCast_mul]
  rw [h1]
  split <;> omega
theorem lsOf_set {k : Nat} (hk : k < M) (hl : hv.length = M) : (lsOf l n M hv).set k (pcAt l n k) = lsOf l n M (hv.set k true) := by
  apply List.ext_getElem?
  intro q
  rw [List.getElem?_set]
  unfold lsOf
  rcases Nat.lt_or_ge q M with h | h
  · rw [List.getElem?_map, List.getElem?_map, List.getElem?_range h, Option.map_some, Option.map_some, getD_set_b hv k q (by omega)]
    by_cases e : k = q
    · subst e; simp [hk]
    · rw [if_neg e]; simp only [if_neg (fun h : q = k => e h.symm)]
  · rw [if_neg (by omega)]
    rw [List.getElem?_eq_none (by simpa using h), List.getElem?_eq_none (by simpa using h)]
where getD_set_b (hv : List Bool) (k q : Nat) (hk : k < hv.length) : (hv.set k true).getD q false = if q = k then true else hv.getD q false := getD_set hv k q true false hk
theorem cnt_take : ∀ {k : Nat}, k < hv.length → (hv.take (k + 1)).count true = (hv.take k).count true + if hv.getD k false then 1 else 0 := fun {k} hk => by
  rw [List.take_succ_eq_append_getElem hk, List.count_append, List.getD_eq_getElem?_getD, List.getElem?_eq_getElem hk]
  cases hv[k] <;> simp
theorem missK_cnt (hn : 1 ≤ n) (hl : hv.length = M) (hM : ∀ j, j < M → j * n < l.length) : ∀ i, i ≤ M → (missK (lsOf l n M hv) i).length + (hv.take i).count true = i
  | 0, _ => by simp [missK]
  | i + 1, h => by
    have ih := missK_cnt hn hl hM i (by omega)
    rw [missK_succ, List.length_append, cnt_take (by omega), lsOf_get (by omega)]
    cases hb : hv.getD i false with
    | true => rw [if_pos rfl, if_neg (pcAt_ne hn (hM i (by omega)))]; simp; omega
    | false => simp only [Bool.false_eq_true, if_false, if_true, List.length_singleton]; omega
theorem missL_cnt (hn : 1 ≤ n) (hl : hv.length = M) (hM : ∀ j, j < M → j * n < l.length) : (missL (lsOf l n M hv)).length + hv.count true = M := by
  have h := missK_cnt hn hl hM M (Nat.le_refl _)
  rw [List.take_of_length_le (by omega)] at h
  unfold missL
  rw [lsOf_len]; exact h
theorem cnt_set : ∀ {hv : List Bool} {k : Nat}, k < hv.length → hv.getD k false = false → (hv.set k true).count true = hv.count true + 1
  | [], k, h, _ => by simp at h
  | b :: hv, 0, _, h0 => by
    have e : b = false := h0
    subst e; simp
  | b :: hv, k + 1, h, h0 => by
    have := cnt_set (hv := hv) (k := k) (by simpa using h) (by simpa using h0)
    simp only [List.set_cons_succ, List.count_cons, this]; omega
theorem set_same {k : Nat} (hk : k < hv.length) (h : hv.getD k false = true) : hv.set k true = hv := by
  rw [List.getD_eq_getElem?_getD, List.getElem?_eq_getElem hk] at h
  apply List.ext_getElem (by simp)
  intro i h1 h2
  rw [List.getElem_set]
  split
  · next e => subst e; exact h.symm
  · rfl
theorem miss_all (h : missL (lsOf l n M hv) = []) {j : Nat} (hj : j < M) : hv.getD j false = true := by
  unfold missL missK at h
  rw [lsOf_len, List.map_eq_nil_iff, List.filter_eq_nil_iff] at h
  have h1 := h j (List.mem_range.2 hj)
  rw [lsOf_get hj] at h1
  cases hb : hv.getD j false with
  | true => rfl
  | false => rw [hb] at h1; simp at h1
theorem lsOf_flat (h : missL (lsOf l n M hv) = []) (hM : l.length ≤ M * n) : (lsOf l n M hv).flatten = l := by
  have key : ∀ k, k ≤ M → ((List.range k).map fun j => if hv.getD j false then pcAt l n j else []).flatten = l.take (k * n) := by
    intro k
    induction k with
    | zero => intro _; simp
    | succ k ih =>
      intro hk
      rw [List.range_succ, List.map_append, List.flatten_append, ih (by omega)]
      simp only [List.map_cons, List.map_nil, List.flatten_cons, List.flatten_nil, List.append_nil]
      rw [miss_all h (show k < M by omega), if_pos rfl]
      unfold pcAt
      rw [Nat.succ_mul, List.take_add]
  unfold lsOf
  rw [key M (Nat.le_refl _), List.take_of_length_le hM]
theorem lsOf_none : lsOf l n M (List.replicate M false) = List.replicate M [] := by
  apply List.ext_getElem?
  intro q
  unfold lsOf
  rcases Nat.lt_or_ge q M with h | h
  · rw [List.getElem?_map, List.getElem?_range h, List.getElem?_replicate, if_pos h]
    simp [List.getD_eq_getElem?_getD, List.getElem?_replicate, h]
  · rw [List.getElem?_eq_none (by simpa using h), List.getElem?_eq_none (by simpa using h)]
end
theorem getB {hv : List Bool} {k : Nat} (h : k < hv.length) : hv[k]? = some (hv.getD k false) := by
  rw [List.getD_eq_getElem?_getD, List.getElem?_eq_getElem h]; rfl
/-! ### Written, and read again -/
theorem encB_assoc (i a c : Int) (d : List UInt8) : encB i a c d = putN (UInt64.ofNat i.toNat) ++ (putN (UInt64.ofNat a.toNat) ++ (putN (UInt64.ofNat c.toNat) ++ (putN (UInt64.ofNat d.length) ++ d))) := by
  simp [encB]
theorem decV_encB {i a c : Int} {d : List UInt8} (hb : ¬ badQ i a c d.length) (hd : d.length ≤ 1000) : decV (encB i a c d) = (i, a, c, d, 0) := by
  have hg := Classical.not_not.1 hb
  have h1 := rdT_put (t := 1073741824) (n := i.toNat) (r := putN (UInt64.ofNat a.toNat) ++ (putN (UInt64.ofNat c.toNat) ++ (putN (UInt64.ofNat d.length) ++ d))) (by omega) (by omega)
  have h2 := rdT_put (t := 1073741824) (n := a.toNat) (r := putN (UInt64.ofNat c.toNat) ++ (putN (UInt64.ofNat d.length) ++ d)) (by omega) (by omega)
  have h3 := rdT_put (t := 1073741824) (n := c.toNat) (r := putN (UInt64.ofNat d.length) ++ d) (by omega) (by omega)
  have h4 := rdT_put (t := 1000) (n := d.length) (r := d) hd (by omega)
  have h5 : rdN 3 (encB i a c d) = some ([i, a, c], putN (UInt64.ofNat d.length) ++ d) := by
    rw [encB_assoc, rdN_step h1, rdN_step h2, rdN_step h3]
    show some ([((i.toNat : Nat) : Int), ((a.toNat : Nat) : Int), ((c.toNat : Nat) : Int)], _) = _
    rw [Int.toNat_of_nonneg (by omega), Int.toNat_of_nonneg (by omega), Int.toNat_of_nonneg (by omega)]
  refine decV_yes ?_
  rw [decR_yes h5 h4, if_pos ⟨rfl, hb⟩]
end Go.X
