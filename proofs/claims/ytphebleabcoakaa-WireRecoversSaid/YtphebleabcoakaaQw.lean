import Derived.Test.YtphebleabcoakaaPA
import Derived.Test.YtphebleabcoakaaX26
/-
  Rows of bytes: numbers in groups of seven bits, a writer's and a reader's state. No program here.
-/
set_option linter.unusedVariables false
namespace Go.X
/-! ### What stays: below a height nothing turned -/
def Th' (base : Nat) (w w' : World) : Prop := ∃ rs, (∀ q ∈ rs, Fr base q) ∧ Tn rs w w'
theorem Ext.th' {w0 w w' : World} (h : Ext w0 w) (ht : Th' w0.heap.size w w') : Ext w0 w' := by
  obtain ⟨rs, h1, h2⟩ := ht; exact Ext.tnk h h1 h2
theorem Th'.refl (base : Nat) (w : World) : Th' base w w := ⟨[], (fun _ h => by cases h), Tn.refl _ _⟩
theorem Th'.ext {base : Nat} {w w' w2 : World} (h : Th' base w w') (he : Ext w' w2) : Th' base w w2 := by
  obtain ⟨rs, h1, h2⟩ := h; exact ⟨rs, h1, h2.trans (he.tn _)⟩
theorem Th'.trans {base : Nat} {w w' w2 : World} (h : Th' base w w') (k : Th' base w' w2) : Th' base w w2 := by
  obtain ⟨rs, h1, h2⟩ := h
  obtain ⟨qs, k1, k2⟩ := k
  exact ⟨rs ++ qs, fun q hq => (List.mem_append.1 hq).elim (h1 q) (k1 q), (h2.mono fun r hr => by simp [hr]).trans (k2.mono fun r hr => by simp [hr])⟩
theorem Th'.le {base base' : Nat} {w w' : World} (h : Th' base w w') (hb : base' ≤ base) : Th' base' w w' := by
  obtain ⟨rs, h1, h2⟩ := h; exact ⟨rs, fun q hq => (h1 q hq).le hb, h2⟩
theorem Th'.one {base b : Nat} {w w' : World} (hb : base ≤ b) (h : Tn [some b] w w') : Th' base w w' :=
  ⟨_, fun q hq => by simp only [List.mem_singleton] at hq; subst hq; exact Fr.blk hb, h⟩
theorem Th'.two {base b : Nat} {s : Option Nat} {w w' : World} (hb : base ≤ b) (hs : Fr base s) (h : Tn [some b, s] w w') : Th' base w w' :=
  ⟨_, fun q hq => by
    simp only [List.mem_cons, List.mem_nil_iff, or_false] at hq
    rcases hq with rfl | rfl
    · exact Fr.blk hb
    · exact hs, h⟩
theorem Th'.size {base : Nat} {w w' : World} (h : Th' base w w') : w.heap.size ≤ w'.heap.size := by obtain ⟨rs, _, h2⟩ := h; exact h2.size
/-- What lies below base is not turned. -/
theorem Cel.th' {base : Nat} {w w' : World} {b T S} (h : Cel w b T S) (ht : Th' base w w') (hb : b < base) : Cel w' b T S := by
  obtain ⟨rs, h1, h2⟩ := ht
  exact h.tnk h2 fun r hr k e1 e2 => by cases e1; have := h1 r hr _ e2; omega
theorem Rd.th' {base : Nat} {w w' : World} {s xs} (h : Rd w s xs) (ht : Th' base w w') (hl : Lo base s.ownBlock) : Rd w' s xs := by
  obtain ⟨rs, h1, h2⟩ := ht
  exact Rd.tnk h h2 fun r hr k e1 e2 => by have := h1 r hr _ e2; have := hl k e1; omega
/-! ### A writer -/
def Wr (TW E base : Nat) (w : World) (b : Nat) (l : List UInt8) : Prop :=
  ∃ s, base ≤ b ∧ Cel w b TW [(0, 1, [s])] ∧ Ob 0 E w s l ∧ Fr base s.ownBlock ∧ Ap (some b) s.ownBlock
section
variable {TW TR E base0 : Nat} {w w' : World} {b : Nat} {l : List UInt8}
theorem Wr.ext (h : Wr TW E base0 w b l) (he : Ext w w') : Wr TW E base0 w' b l := by
  obtain ⟨s, h1, h2, h3, h4, h5⟩ := h
  exact ⟨s, h1, h2.ext he, Ow.ext h3 he, h4, h5⟩
theorem Wr.le {base'} (h : Wr TW E base0 w b l) (hb : base' ≤ base0) : Wr TW E base' w b l := by
  obtain ⟨s, h1, h2, h3, h4, h5⟩ := h
  exact ⟨s, Nat.le_trans hb h1, h2, h3, h4.le hb, h5⟩
theorem Wr.th (h : Wr TW E base0 w b l) (ht : Th' w.heap.size w w') : Wr TW E base0 w' b l := by
  obtain ⟨s, h1, h2, h3, h4, h5⟩ := h
  obtain ⟨rs, g1, g2⟩ := ht
  have lv := Ow.live h3
  refine ⟨s, h1, h2.tnk g2 fun r hr k e1 e2 => ?_, Ow.tnk h3 g2 fun r hr k e1 e2 => ?_, h4, h5⟩
  · cases e1; have := g1 r hr _ e2; have := h2.lt; omega
  · have := g1 r hr _ e2; have := lv k e1; omega
theorem Wr.new (hb : base0 ≤ b) (hc : Cel w b TW [(0, 1, [nilS])]) : Wr TW E base0 w b [] := ⟨nilS, hb, hc, Ow.nil _ _ _, Fr.nil, Ap.nil_r⟩
/-! ### A reader -/
def Rdr (TR base : Nat) (w : World) (b : Nat) (l : List UInt8) : Prop :=
  ∃ s, base ≤ b ∧ Cel w b TR [(0, 1, [s])] ∧ Bs w s l ∧ Fr base s.ownBlock ∧ Ap (some b) s.ownBlock
theorem Rdr.ext (h : Rdr TR base0 w b l) (he : Ext w w') : Rdr TR base0 w' b l := by
  obtain ⟨s, h1, h2, h3, h4, h5⟩ := h
  exact ⟨s, h1, h2.ext he, h3.ext he, h4, h5⟩
theorem Rdr.le {base'} (h : Rdr TR base0 w b l) (hb : base' ≤ base0) : Rdr TR base' w b l := by
  obtain ⟨s, h1, h2, h3, h4, h5⟩ := h
  exact ⟨s, Nat.le_trans hb h1, h2, h3, h4.le hb, h5⟩
theorem Rdr.live (h : Rdr TR base0 w b l) : Live w (some b) := by obtain ⟨s, h1, h2, _⟩ := h; exact h2.live
theorem Rdr.base (h : Rdr TR base0 w b l) : base0 ≤ b := by obtain ⟨s, h1, _⟩ := h; exact h1
theorem Rdr.max (h : Rdr TR base0 w b l) : l.length ≤ 9223372036854775807 := by obtain ⟨s, _, _, h3, _⟩ := h; have := Rd.max h3; rwa [List.length_map] at this
theorem Rdr.tnk {rs} (h : Rdr TR base0 w b l) (hg : Tn rs w w') (hl : LoL base0 rs) : Rdr TR base0 w' b l := by
  obtain ⟨s, h1, h2, h3, h4, h5⟩ := h
  exact ⟨s, h1, h2.tnk hg (hl.apl (Fr.blk h1)), Rd.tnk h3 hg (hl.apl h4), h4, h5⟩
theorem Rdr.gbk {r} (h : Rdr TR base0 w b l) (hg : w.grownBy w' r) (hl : Lo base0 r) : Rdr TR base0 w' b l := h.tnk (Tn.ofGB hg) (LoL.one hl)
end
/-! ### Numbers -/
theorem shr7_nat (n : UInt64) : (shr_u64 n 7).toNat = n.toNat / 128 := by
  unfold shr_u64
  rw [UInt64.toNat_ofNat']
  exact Nat.mod_eq_of_lt (by have := n.toNat_lt; omega)
def putN (n : UInt64) : List UInt8 := if h : (n.toNat : Int) ≥ 128 then (n.toUInt8 ||| 128) :: putN (shr_u64 n 7) else [n.toUInt8]
termination_by n.toNat
decreasing_by
  rw [shr7_nat]
  omega
theorem putN_more {n : UInt64} (h : (n.toNat : Int) ≥ 128) : putN n = (n.toUInt8 ||| 128) :: putN (shr_u64 n 7) := by rw [putN, dif_pos h]
theorem putN_last {n : UInt64} (h : ¬ (n.toNat : Int) ≥ 128) : putN n = [n.toUInt8] := by rw [putN, dif_neg h]
theorem putN_lenk : ∀ (k : Nat) (n : UInt64), n.toNat < 128 ^ (k + 1) → (putN n).length ≤ k + 1
  | 0, n, h => by
    rw [putN_last (by omega)]; simp
  | k + 1, n, h => by
    by_cases h2 : (n.toNat : Int) ≥ 128
    · rw [putN_more h2, List.length_cons]
      have := putN_lenk k (shr_u64 n 7) (by rw [shr7_nat]; rw [Nat.pow_succ] at h; omega)
      omega
    · rw [putN_last h2]; simp
theorem putN_pos (n : UInt64) : 1 ≤ (putN n).length := by
  by_cases h : (n.toNat : Int) ≥ 128
  · rw [putN_more h, List.length_cons]; omega
  · rw [putN_last h]; simp
theorem putN_len (n : UInt64) : (putN n).length ≤ 10 := putN_lenk 9 n (by have := n.toNat_lt; omega)
/-- A number that bytes begin with, from group i on. -/
def gV (i : Nat) (c : UInt8) (v : UInt64) : UInt64 := v ||| shl_u64 (c &&& ~~~128).toUInt64 (7 * i)
def gB (i : Nat) (c : UInt8) : Prop := (i = 9 ∧ (c.toNat : Int) > 1) ∨ (0 < i ∧ (c.toNat : Int) = 0)
instance (i : Nat) (c : UInt8) : Decidable (gB i c) := inferInstanceAs (Decidable (_ ∨ _))
def gN : Nat → List UInt8 → UInt64 → Option (UInt64 × Nat)
  | _, [], _ => none
  | i, c :: r, v =>
    if 10 ≤ i then none
    else if (c.toNat : Int) ≥ 128 then gN (i + 1) r (gV i c v)
    else if gB i c then none
    else some (gV i c v, i + 1)
theorem gN_nil {i v} : gN i [] v = none := rfl
theorem gN_cons {i c r v} : gN i (c :: r) v = if 10 ≤ i then none
    else if (c.toNat : Int) ≥ 128 then gN (i + 1) r (gV i c v)
    else if gB i c then none
    else some (gV i c v, i + 1) := rfl
theorem gN_far {i : Nat} {l : List UInt8} {v : UInt64} (h : 10 ≤ i) : gN i l v = none := by
  cases l with
  | nil => rfl
  | cons c r => rw [gN_cons, if_pos h]
theorem gN_le : ∀ (l : List UInt8) (i : Nat) (v u : UInt64) (k : Nat), gN i l v = some (u, k) → i < k ∧ k - i ≤ l.length ∧ k ≤ 10
  | [], i, v, u, k, h => by cases h
  | c :: r, i, v, u, k, h => by
    rw [gN_cons] at h
    split at h
    · cases h
    · split at h
      · have := gN_le r (i + 1) _ u k h
        rw [List.length_cons]; omega
      · split at h
        · cases h
        · cases h; rw [List.length_cons]; omega
/-- One group. -/
theorem drop_cons {l : List UInt8} {i : Nat} (h : i < l.length) : l.drop i = l.getD i 0 :: l.drop (i + 1) := by
  rw [List.drop_eq_getElem_cons h, List.getD_eq_getElem?_getD, List.getElem?_eq_getElem h]; rfl
theorem gN_step {i : Nat} {l : List UInt8} {v : UInt64} (h : i < l.length) (hi : i < 10) : gN i (l.drop i) v = if (l.getD i 0).toNat ≥ (128 : Int) then gN (i + 1) (l.drop (i + 1)) (gV i (l.getD i 0) v)
    else if gB i (l.getD i 0) then none else some (gV i (l.getD i 0) v, i + 1) := by
  rw [drop_cons h, gN_cons, if_neg (by omega)]
theorem gN_lt {i : Nat} {l : List UInt8} {v : UInt64} {p : UInt64 × Nat} (h : gN i (l.drop i) v = some p) : i < l.length := by
  rcases Nat.lt_or_ge i l.length with h1 | h1
  · exact h1
  · rw [List.drop_eq_nil_of_le h1] at h; cases h
theorem gN_i {i : Nat} {l : List UInt8} {v : UInt64} {p : UInt64 × Nat} (h : gN i l v = some p) : i < 10 := by
  rcases Nat.lt_or_ge i 10 with h1 | h1
  · exact h1
  · rw [gN_far h1] at h; cases h
theorem gN_end {i : Nat} {c : UInt8} {x q : UInt64} {j k : Nat} (h : (if gB i c then none else some (x, j)) = some (q, k)) : ¬ gB i c ∧ q = x ∧ k = j := by
  by_cases hb : gB i c
  · rw [if_pos hb] at h; cases h
  · rw [if_neg hb] at h; cases h; exact ⟨hb, rfl, rfl⟩
theorem gN_endn {i : Nat} {c : UInt8} {x : UInt64} {j : Nat} (h : (if gB i c then none else some (x, j)) = none) : gB i c := by
  by_cases hb : gB i c
  · exact hb
  · rw [if_neg hb] at h; cases h
theorem tk1 {l : List UInt8} {i : Nat} (h : i < l.length) : ((l.drop i).take 1).getD 0 0 = l.getD i 0 := by
  rw [drop_cons h]; rfl
theorem drop_one' {l : List UInt8} {i : Nat} : (l.drop i).drop 1 = l.drop (i + 1) := by rw [List.drop_drop]
theorem putN_300 : putN 300 = [172, 2] := by
  rw [putN_more (by decide), putN_last (by decide)]; decide
end Go.X
