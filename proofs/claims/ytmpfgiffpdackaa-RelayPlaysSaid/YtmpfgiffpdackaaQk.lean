import Derived.Test.YtmpfgiffpdackaaPA
import Derived.Test.YtmpfgiffpdackaaX25
/-
  The skipped keys: entries, the first that is sought, what goes. No program here.
-/
set_option linter.unusedVariables false
namespace Go.X
/-- An entry: chain, number, the key's row. -/
abbrev Ent : Type := Int × Int × Value
def entS : Shp Ent := ⟨3, fun x => [I x.1, I x.2.1, x.2.2], fun _ => rfl, by decide⟩
def entD : Ent := (0, 0, nilS)
/-- The first place where p holds, or -1. -/
def idxI {α : Type} (p : α → Bool) (es : List α) : Int := match es.findIdx? p with | some i => (i : Int) | none => -1
theorem idxI_no {α : Type} {p : α → Bool} {es : List α} (h : ∀ x ∈ es, p x = false) : idxI p es = -1 := by
  unfold idxI; rw [List.findIdx?_eq_none_iff.2 (fun x hx => by simpa using h x hx)]
theorem idxI_at {α : Type} {p : α → Bool} {es : List α} (d : α) {k : Nat} (hk : k < es.length) (h1 : p (es.getD k d) = true) (h0 : ∀ j, j < k → p (es.getD j d) = false) : idxI p es = (k : Int) := by
  unfold idxI
  have : es.findIdx? p = some k := by
    rw [List.findIdx?_eq_some_iff_getElem]
    refine ⟨hk, ?_, ?_⟩
    · rw [List.getD_eq_getElem?_getD, List.getElem?_eq_getElem hk] at h1; exact h1
    · intro j hj
      have := h0 j hj
      rw [List.getD_eq_getElem?_getD, List.getElem?_eq_getElem (by omega)] at this
      simpa using this
  rw [this]
theorem idxI_none {α : Type} {p : α → Bool} {es : List α} (d : α) (h0 : ∀ j, j < es.length → p (es.getD j d) = false) : idxI p es = -1 :=
  idxI_no fun x hx => by
    obtain ⟨j, hj, rfl⟩ := List.getElem_of_mem hx
    have := h0 j hj
    rwa [List.getD_eq_getElem?_getD, List.getElem?_eq_getElem hj] at this
def eqE (i j : Int) (x : Ent) : Bool := decide (x.1 = i) && decide (x.2.1 = j)
theorem eqE_yes {i j : Int} {x : Ent} (h : x.1 = i) : decide (x.2.1 = j) = eqE i j x := by unfold eqE; simp [h]
theorem eqE_no {i j : Int} {x : Ent} (h : ¬ x.1 = i) : false = eqE i j x := by unfold eqE; simp [h]
def wiK (n : Int) : Prop := 0 ≤ n ∧ n ≤ 1099511627776
instance (n : Int) : Decidable (wiK n) := inferInstanceAs (Decidable (_ ∧ _))
theorem wiK_yes {n : Int} (h : n ≥ 0) : decide (n ≤ 1099511627776) = decide (wiK n) := decide_eq_decide.2 ⟨fun h2 => ⟨h, h2⟩, fun h2 => h2.2⟩
theorem wiK_no {n : Int} (h : ¬ n ≥ 0) : false = decide (wiK n) := (decide_eq_false fun h2 => h h2.1).symm
theorem ent_one {es : List Ent} (h : ∀ x ∈ es, x.2.2.oneCell' = true) : ∀ x ∈ es, ∀ v ∈ entS.c x, v.oneCell' = true := fun x hx v hv => by
  simp only [entS, List.mem_cons, List.mem_nil_iff, or_false] at hv
  rcases hv with rfl | rfl | rfl
  · rfl
  · rfl
  · exact h x hx
theorem ent_one1 {m1 m2 : Int} {v : Value} (h : v.oneCell' = true) : ∀ x ∈ [((m1, m2, v) : Ent)], ∀ u ∈ entS.c x, u.oneCell' = true := ent_one fun x hx => by rw [List.mem_singleton] at hx; subst hx; exact h
theorem ent_app {es : List Ent} {m1 m2 : Int} {v : Value} (h : ∀ x ∈ es, x.2.2.oneCell' = true) (hv : v.oneCell' = true) : ∀ x ∈ es ++ [((m1, m2, v) : Ent)], x.2.2.oneCell' = true := fun x hx => by
  rcases List.mem_append.1 hx with hx | hx
  · exact h x hx
  · rw [List.mem_singleton] at hx; subst hx; exact hv
def blkF (q : Int) (i : Nat) : UInt8 := UInt8.ofNat (((i : Int) * (i : Int) + q * 7 + 1) % 251).toNat
/-- A block of so many bytes, by a number. -/
def blkL (n : Nat) (q : Int) : List UInt8 := fillU (blkF q) (List.replicate n 0) n
theorem blkL_len (n : Nat) (q : Int) : (blkL n q).length = n := by rw [blkL, fillU_len, List.length_replicate]
theorem blk_mul {k : Nat} (h : k ≤ 1000) : -9223372036854775808 ≤ (k : Int) * (k : Int) ∧ (k : Int) * (k : Int) ≤ 9223372036854775807 := by
  have h1 := Int.mul_nonneg (show (0 : Int) ≤ k by omega) (show (0 : Int) ≤ k by omega)
  have h2 := Int.mul_le_mul (show (k : Int) ≤ 1000 by omega) (show (k : Int) ≤ 1000 by omega) (by omega) (by omega)
  omega
theorem blk_mul2 {k : Nat} (h : k ≤ 1000) : 0 ≤ (k : Int) * (k : Int) ∧ (k : Int) * (k : Int) ≤ 1000000 := by
  have h1 := Int.mul_nonneg (show (0 : Int) ≤ k by omega) (show (0 : Int) ≤ k by omega)
  have h2 := Int.mul_le_mul (show (k : Int) ≤ 1000 by omega) (show (k : Int) ≤ 1000 by omega) (by omega) (by omega)
  omega
theorem max_n {n : Int} (h : 0 ≤ n) : (if n < 0 then (0 : Int) else n) = n := if_neg (by omega)
def ltE (m : Int) (x : Ent) : Bool := decide (x.1 < m)
/-- Those that stay are moved ahead: so far. -/
structure Mv {α : Type} (p : α → Bool) (es cur : List α) (i j : Nat) : Prop where
  len : cur.length = es.length
  ij : i < j
  jl : j ≤ es.length
  pre : cur.take i = (es.take j).filter fun x => !p x
  post : cur.drop j = es.drop j
theorem take_succD {α : Type} (d : α) {es : List α} {j : Nat} (h : j < es.length) : es.take (j + 1) = es.take j ++ [es.getD j d] := by
  rw [List.take_succ_eq_append_getElem h, List.getD_eq_getElem?_getD, List.getElem?_eq_getElem h]; rfl
theorem drop_getD {α : Type} (d : α) {es cur : List α} {j : Nat} (hl : cur.length = es.length) (h : cur.drop j = es.drop j) (hj : j < es.length) : cur.getD j d = es.getD j d := by
  have h1 : (cur.drop j)[0]? = (es.drop j)[0]? := by rw [h]
  rw [List.getElem?_drop, List.getElem?_drop, Nat.add_zero] at h1
  rw [List.getD_eq_getElem?_getD, List.getD_eq_getElem?_getD, h1]
theorem drop_succ_eq {α : Type} {es cur : List α} {j : Nat} (h : cur.drop j = es.drop j) : cur.drop (j + 1) = es.drop (j + 1) := by
  rw [← List.drop_drop, ← List.drop_drop, h]
theorem flt_no {α : Type} {p : α → Bool} {x : α} (h : p x = true) : [x].filter (fun x => !p x) = [] := by simp [h]
theorem flt_yes {α : Type} {p : α → Bool} {x : α} (h : p x = false) : [x].filter (fun x => !p x) = [x] := by simp [h]
theorem Mv.start {α : Type} {p : α → Bool} (d : α) {es : List α} {k : Nat} (hk : k < es.length) (h1 : p (es.getD k d) = true) (h0 : ∀ j, j < k → p (es.getD j d) = false) : Mv p es es k (k + 1) := by
  refine ⟨rfl, Nat.lt_succ_self _, hk, ?_, rfl⟩
  rw [take_succD d hk, List.filter_append, List.filter_eq_self.2, flt_no h1, List.append_nil]
  · intro x hx
    obtain ⟨j, hj, rfl⟩ := List.getElem_of_mem hx
    have hjk : j < k := by simp at hj; omega
    have := h0 j hjk
    rw [List.getD_eq_getElem?_getD, List.getElem?_eq_getElem (by omega)] at this
    rw [List.getElem_take]
    simpa using this
theorem Mv.skip {α : Type} {p : α → Bool} (d : α) {es cur : List α} {i j : Nat} (h : Mv p es cur i j) (hj : j < es.length) (hp : p (cur.getD j d) = true) : Mv p es cur i (j + 1) := by
  refine ⟨h.len, by have := h.ij; omega, hj, ?_, drop_succ_eq h.post⟩
  rw [drop_getD d h.len h.post hj] at hp
  rw [take_succD d hj, List.filter_append, ← h.pre, flt_no hp, List.append_nil]
theorem Mv.keep {α : Type} {p : α → Bool} (d : α) {es cur : List α} {i j : Nat} (h : Mv p es cur i j) (hj : j < es.length) (hp : p (cur.getD j d) = false) : Mv p es (cur.set i (cur.getD j d)) (i + 1) (j + 1) := by
  have hij := h.ij
  have hc := h.len
  refine ⟨by rw [List.length_set, h.len], by omega, hj, ?_, ?_⟩
  · rw [take_succD d hj, List.filter_append, ← h.pre, drop_getD d h.len h.post hj]
    rw [drop_getD d h.len h.post hj] at hp
    rw [List.take_succ_eq_append_getElem (by rw [List.length_set]; omega), List.getElem_set_self, List.take_set_of_le (Nat.le_refl _), flt_yes hp]
  · rw [List.drop_set_of_lt (by omega)]; exact drop_succ_eq h.post
theorem Mv.done {α : Type} {p : α → Bool} {es cur : List α} {i : Nat} (h : Mv p es cur i es.length) : cur.take i = es.filter fun x => !p x := by
  rw [h.pre, List.take_length]
theorem getD_memE {α : Type} (d : α) {es : List α} {j : Nat} (h : j < es.length) : es.getD j d ∈ es := by
  rw [List.getD_eq_getElem?_getD, List.getElem?_eq_getElem h]; exact List.getElem_mem h
theorem one_set {es : List Ent} {i j : Nat} (h : ∀ x ∈ es, x.2.2.oneCell' = true) (hj : j < es.length) : ∀ x ∈ es.set i (es.getD j entD), x.2.2.oneCell' = true := fun x hx => by
  rcases List.mem_or_eq_of_mem_set hx with hx | rfl
  · exact h x hx
  · exact h _ (getD_memE entD hj)
theorem flt_none {α : Type} (d : α) {p : α → Bool} {es : List α} (h : ¬ ∃ k, k < es.length ∧ p (es.getD k d) = true ∧ ∀ j, j < k → p (es.getD j d) = false) : ∀ x ∈ es, p x = false := by
  have key : ∀ k, k ≤ es.length → ∀ j, j < k → p (es.getD j d) = false := by
    intro k
    induction k with
    | zero => intro _ j hj; omega
    | succ k ih =>
      intro hk j hj
      have ih' := ih (by omega)
      by_cases hjk : j < k
      · exact ih' j hjk
      · have e : j = k := by omega
        subst e
        cases hp : p (es.getD j d)
        · rfl
        · exact absurd ⟨j, by omega, hp, ih'⟩ h
  intro x hx
  obtain ⟨j, hj, rfl⟩ := List.getElem_of_mem hx
  have := key es.length (Nat.le_refl _) j hj
  rwa [List.getD_eq_getElem?_getD, List.getElem?_eq_getElem hj] at this
end Go.X
