import Derived.Test.YtmpfgiffpdackaaPA
import Derived.Test.YtmpfgiffpdackaaX26
/-
  Rows of bytes: numbers in groups of seven bits, a writer's and a reader's state. No program here.
-/
set_option linter.unusedVariables false
namespace Go.X
/-! ### What stays: below a height nothing turned -/
def Th' (base : Nat) (w w' : World) : Prop := ∃ rs, (∀ q ∈ rs, Fr base q) ∧ Tn rs w w'
theorem Ext.th' {w0 w w' : World} (h : Ext w0 w) (ht : Th' w0.heap.size w w') : Ext w0 w' := by
  obtain ⟨rs, h1, h2⟩ := ht; exact Ext.tnk h h1 h2
theorem Th'.refl (base : Nat) (w : World) : Th' base w w := ⟨[], (fun _ h => by cases h), Tn.refl _ _⟩
theorem Th'.ext {base : Nat} {w w' w2 : World} (h : Th' base w w') (he : Ext w' w2) : Th' base w w2 := by
  obtain ⟨rs, h1, h2⟩ := h; exact ⟨rs, h1, h2.trans (he.tn _)⟩
theorem Th'.trans {base : Nat} {w w' w2 : World} (h : Th' base w w') (k : Th' base w' w2) : Th' base w w2 := by
  obtain ⟨rs, h1, h2⟩ := h
  obtain ⟨qs, k1, k2⟩ := k
  exact ⟨rs ++ qs, fun q hq => (List.mem_append.1 hq).elim (h1 q) (k1 q), (h2.mono fun r hr => by simp [hr]).trans (k2.mono fun r hr => by simp [hr])⟩
theorem Th'.le {base base' : Nat} {w w' : World} (h : Th' base w w') (hb : base' ≤ base) : Th' base' w w' := by
  obtain ⟨rs, h1, h2⟩ := h; exact ⟨rs, fun q hq => (h1 q hq).le hb, h2⟩
theorem Th'.one {base b : Nat} {w w' : World} (hb : base ≤ b) (h : Tn [some b] w w') : Th' base w w' :=
  ⟨_, fun q hq => by simp only [List.mem_singleton] at hq; subst hq; exact Fr.blk hb, h⟩
theorem Th'.two {base b : Nat} {s : Option Nat} {w w' : World} (hb : base ≤ b) (hs : Fr base s) (h : Tn [some b, s] w w') : Th' base w w' :=
  ⟨_, fun q hq => by
    simp only [List.mem_cons, List.mem_nil_iff, or_false] at hq
    rcases hq with rfl | rfl
    · exact Fr.blk hb
    · exact hs, h⟩
theorem Th'.size {base : Nat} {w w' : World} (h : Th' base w w') : w.heap.size ≤ w'.heap.size := by obtain ⟨rs, _, h2⟩ := h; exact h2.size
/-- What lies below base is not turned. -/
theorem Cel.th' {base : Nat} {w w' : World} {b T S} (h : Cel w b T S) (ht : Th' base w w') (hb : b < base) : Cel w' b T S := by
  obtain ⟨rs, h1, h2⟩ := ht
  exact h.tnk h2 fun r hr k e1 e2 => by cases e1; have := h1 r hr _ e2; omega
theorem Rd.th' {base : Nat} {w w' : World} {s xs} (h : Rd w s xs) (ht : Th' base w w') (hl : Lo base s.ownBlock) : Rd w' s xs := by
  obtain ⟨rs, h1, h2⟩ := ht
  exact Rd.tnk h h2 fun r hr k e1 e2 => by have := h1 r hr _ e2; have := hl k e1; omega
/-! ### Blocks that lie where K says -/
def Ge (n : Nat) : Nat → Prop := fun k => n ≤ k
/-- What is new lies there. -/
def Hb (K : Nat → Prop) (w : World) : Prop := ∀ k, w.heap.size ≤ k → K k
theorem Hb.le {K : Nat → Prop} {w : World} (h : Hb K w) {w' : World} (hs : w.heap.size ≤ w'.heap.size) : Hb K w' := fun k hk => h k (Nat.le_trans hs hk)
theorem Hb.ge {n : Nat} {w : World} (h : n ≤ w.heap.size) : Hb (Ge n) w := fun k hk => Nat.le_trans h hk
def Kf (K : Nat → Prop) (a : Option Nat) : Prop := ∀ k, a = some k → K k
theorem Kf.sf {K : Nat → Prop} {w : World} {a b : Option Nat} (h : Kf K a) (hs : SF w a b) (hb : Hb K w) : Kf K b := fun k e => (hs k e).elim (h k) (hb k)
/-- Nothing outside K turned but the block b. -/
def Thb (K : Nat → Prop) (b : Nat) (w w' : World) : Prop := ∃ rs, (∀ q ∈ rs, q = some b ∨ Kf K q) ∧ Tn rs w w'
theorem Thb.refl (K : Nat → Prop) (b : Nat) (w : World) : Thb K b w w := ⟨[], (fun _ h => by cases h), Tn.refl _ _⟩
theorem Thb.ext {K : Nat → Prop} {b : Nat} {w w' w2 : World} (h : Thb K b w w') (he : Ext w' w2) : Thb K b w w2 := by
  obtain ⟨rs, h1, h2⟩ := h; exact ⟨rs, h1, h2.trans (he.tn _)⟩
theorem Thb.trans {K : Nat → Prop} {b : Nat} {w w' w2 : World} (h : Thb K b w w') (k : Thb K b w' w2) : Thb K b w w2 := by
  obtain ⟨rs, h1, h2⟩ := h
  obtain ⟨qs, k1, k2⟩ := k
  exact ⟨rs ++ qs, fun q hq => (List.mem_append.1 hq).elim (h1 q) (k1 q), (h2.mono fun r hr => by simp [hr]).trans (k2.mono fun r hr => by simp [hr])⟩
theorem Thb.two {K : Nat → Prop} {b : Nat} {s : Option Nat} {w w' : World} (hs : Kf K s) (h : Tn [some b, s] w w') : Thb K b w w' :=
  ⟨_, fun q hq => by
    simp only [List.mem_cons, List.mem_nil_iff, or_false] at hq
    rcases hq with rfl | rfl
    · exact .inl rfl
    · exact .inr hs, h⟩
theorem Thb.size {K : Nat → Prop} {b : Nat} {w w' : World} (h : Thb K b w w') : w.heap.size ≤ w'.heap.size := by obtain ⟨rs, _, h2⟩ := h; exact h2.size
theorem Thb.th {base b base' : Nat} {w w' : World} (h : Thb (Ge base) b w w') (hb : base' ≤ b) (hs : base' ≤ base) : Th' base' w w' := by
  obtain ⟨rs, h1, h2⟩ := h
  exact ⟨rs, fun q hq => (h1 q hq).elim (fun e => by subst e; exact Fr.blk hb) (fun h => Fr.le h hs), h2⟩
theorem Thb.apl {base b : Nat} {rs : List (Option Nat)} (h1 : ∀ q ∈ rs, q = some b ∨ Kf (Ge base) q) {a : Option Nat} (ha : Ap a (some b)) (hl : Lo base a) : ApL a rs := fun q hq => by
  rcases h1 q hq with rfl | h
  · exact ha
  · exact fun k e1 e2 => by have : base ≤ k := h k e2; have := hl k e1; omega
theorem Cel.thb {base b : Nat} {w w' : World} {c T S} (h : Cel w c T S) (ht : Thb (Ge base) b w w') (hc : c < base) (hn : c ≠ b) : Cel w' c T S := by
  obtain ⟨rs, h1, h2⟩ := ht
  exact h.tnk h2 (Thb.apl h1 (fun k e1 e2 => by cases e1; cases e2; exact hn rfl) (fun k e => by cases e; exact hc))
theorem Rd.thb {base b : Nat} {w w' : World} {s xs} (h : Rd w s xs) (ht : Thb (Ge base) b w w') (ha : Ap s.ownBlock (some b)) (hl : Lo base s.ownBlock) : Rd w' s xs := by
  obtain ⟨rs, h1, h2⟩ := ht; exact Rd.tnk h h2 (Thb.apl h1 ha hl)
theorem Ow.thb {base0 base b E : Nat} {w w' : World} {s xs} (h : Ow base0 E w s xs) (ht : Thb (Ge base) b w w') (ha : Ap s.ownBlock (some b)) (hl : Lo base s.ownBlock) : Ow base0 E w' s xs := by
  obtain ⟨rs, h1, h2⟩ := ht; exact Ow.tnk h h2 (Thb.apl h1 ha hl)
/-- One row and what is new. -/
def Kn (w : World) (a : Option Nat) : Nat → Prop := fun k => a = some k ∨ w.heap.size ≤ k
theorem Hb.kn (w : World) (a : Option Nat) : Hb (Kn w a) w := fun k hk => .inr hk
theorem Kf.kn (w : World) (a : Option Nat) : Kf (Kn w a) a := fun k e => .inl e
theorem Thb.tn {w w' : World} {a : Option Nat} {b : Nat} (h : Thb (Kn w a) b w w') : Tn [some b, a] w w' := by
  obtain ⟨rs, h1, h2⟩ := h
  refine Tn.tnk (Tn.refl _ _) (fun q hq => ?_) h2
  rcases h1 q hq with rfl | h3
  · exact .inl (by simp)
  · match q with
    | none => exact .inr fun k e => by cases e
    | some k =>
      rcases h3 k rfl with h4 | h4
      · exact .inl (by rw [← h4]; simp)
      · exact .inr (Fr.blk h4)
theorem Thb.kp {K : Nat → Prop} {b : Nat} {w w' w2 : World} {qs : List (Option Nat)} (h : Thb K b w w') (hq : ∀ q ∈ qs, q = some b ∨ Kf K q ∨ Fr w.heap.size q) (hg : Tn qs w' w2) : Thb K b w w2 := by
  obtain ⟨rs, h1, h2⟩ := h
  refine ⟨rs ++ qs.filter (fun q => match q with | some k => decide (k < w.heap.size) | none => false), fun q hm => ?_, ?_⟩
  · rcases List.mem_append.1 hm with h | h
    · exact h1 q h
    · rw [List.mem_filter] at h
      rcases hq q h.1 with h3 | h3 | h3
      · exact .inl h3
      · exact .inr h3
      · cases q with
        | none => exact .inr fun k e => by cases e
        | some k => exact absurd (h3 k rfl) (by have := h.2; simp at this; omega)
  · refine Tn.tnk (h2.mono fun r hr => List.mem_append.2 (.inl hr)) (fun q hm => ?_) hg
    cases q with
    | none => exact .inr fun k e => by cases e
    | some k =>
      by_cases hk : k < w.heap.size
      · exact .inl (List.mem_append.2 (.inr (List.mem_filter.2 ⟨hm, by simpa using hk⟩)))
      · exact .inr fun j e => by cases e; omega
/-! ### A writer -/
def Wr (TW E : Nat) (K : Nat → Prop) (w : World) (b : Nat) (l : List UInt8) : Prop :=
  ∃ s, Cel w b TW [(0, 1, [s])] ∧ Ob 0 E w s l ∧ Kf K s.ownBlock ∧ Ap (some b) s.ownBlock
section
variable {TW TR E : Nat} {K : Nat → Prop} {w w' : World} {b : Nat} {l : List UInt8}
theorem Wr.ext (h : Wr TW E K w b l) (he : Ext w w') : Wr TW E K w' b l := by
  obtain ⟨s, h2, h3, h4, h5⟩ := h
  exact ⟨s, h2.ext he, Ow.ext h3 he, h4, h5⟩
theorem Wr.lt (h : Wr TW E K w b l) : b < w.heap.size := by obtain ⟨s, h2, _⟩ := h; exact h2.lt
theorem Wr.new (K : Nat → Prop) (hc : Cel w b TW [(0, 1, [nilS])]) : Wr TW E K w b [] := ⟨nilS, hc, Ow.nil _ _ _, (fun k e => by cases e), Ap.nil_r⟩
theorem Wr.kn {s : Value} (h1 : Cel w b TW [(0, 1, [s])]) (h2 : Ob 0 E w s l) (h3 : Ap (some b) s.ownBlock) : Wr TW E (Kn w s.ownBlock) w b l := ⟨s, h1, h2, Kf.kn _ _, h3⟩
theorem Wr.raw {a : Option Nat} (h : Wr TW E (Kn w a) w' b l) : ∃ s, Cel w' b TW [(0, 1, [s])] ∧ Ob 0 E w' s l ∧ SF w a s.ownBlock ∧ Ap (some b) s.ownBlock := by
  obtain ⟨s, h2, h3, h4, h5⟩ := h
  exact ⟨s, h2, h3, h4, h5⟩
end
/-! ### A reader: its blocks lie where K says -/
def Rdr (TR : Nat) (K : Nat → Prop) (w : World) (b : Nat) (l : List UInt8) : Prop :=
  ∃ s, K b ∧ Cel w b TR [(0, 1, [s])] ∧ Bs w s l ∧ (∀ k, s.ownBlock = some k → K k) ∧ Ap (some b) s.ownBlock ∧ Live w s.ownBlock
def Out (K : Nat → Prop) (a : Option Nat) : Prop := ∀ k, a = some k → ¬ K k
def OutL (K : Nat → Prop) (rs : List (Option Nat)) : Prop := ∀ q ∈ rs, Out K q
theorem Lo.out {n : Nat} {a : Option Nat} (h : Lo n a) : Out (Ge n) a := fun k e h' => by have := h k e; unfold Ge at h'; omega
theorem LoL.out {n : Nat} {rs : List (Option Nat)} (h : LoL n rs) : OutL (Ge n) rs := fun q hq => (h q hq).out
theorem OutL.one {K : Nat → Prop} {a : Option Nat} (h : Out K a) : OutL K [a] := fun q hq => by simp only [List.mem_singleton] at hq; subst hq; exact h
theorem Out.ap {K : Nat → Prop} {a : Option Nat} {b : Nat} (h : Out K a) (hb : K b) : Ap (some b) a := fun k e1 e2 => by cases e1; exact h _ e2 hb
section
variable {TR : Nat} {K : Nat → Prop} {w w' : World} {b : Nat} {l : List UInt8}
theorem Rdr.ext (h : Rdr TR K w b l) (he : Ext w w') : Rdr TR K w' b l := by
  obtain ⟨s, h1, h2, h3, h4, h5, h6⟩ := h
  exact ⟨s, h1, h2.ext he, h3.ext he, h4, h5, h6.ext he.size⟩
theorem Rdr.mono {K' : Nat → Prop} (h : Rdr TR K w b l) (hk : ∀ k, K k → K' k) : Rdr TR K' w b l := by
  obtain ⟨s, h1, h2, h3, h4, h5, h6⟩ := h
  exact ⟨s, hk _ h1, h2, h3, fun k e => hk k (h4 k e), h5, h6⟩
theorem Rdr.le {n n' : Nat} (h : Rdr TR (Ge n) w b l) (hn : n' ≤ n) : Rdr TR (Ge n') w b l := h.mono fun k hk => Nat.le_trans hn hk
/-- .. and below a height. -/
theorem Rdr.lo (h : Rdr TR K w b l) : Rdr TR (fun k => K k ∧ k < w.heap.size) w b l := by
  obtain ⟨s, h1, h2, h3, h4, h5, h6⟩ := h
  exact ⟨s, ⟨h1, h2.lt⟩, h2, h3, fun k e => ⟨h4 k e, h6 k e⟩, h5, h6⟩
theorem Rdr.live (h : Rdr TR K w b l) : Live w (some b) := by obtain ⟨s, h1, h2, _⟩ := h; exact h2.live
theorem Rdr.max (h : Rdr TR K w b l) : l.length ≤ 9223372036854775807 := by obtain ⟨s, _, _, h3, _⟩ := h; have := Rd.max h3; rwa [List.length_map] at this
theorem Rdr.tnk {rs} (h : Rdr TR K w b l) (hg : Tn rs w w') (hl : OutL K rs) : Rdr TR K w' b l := by
  obtain ⟨s, h1, h2, h3, h4, h5, h6⟩ := h
  exact ⟨s, h1, h2.tnk hg (fun q hq k e1 e2 => by cases e1; exact hl q hq _ e2 h1), Rd.tnk h3 hg (fun q hq k e1 e2 => hl q hq _ e2 (h4 k e1)), h4, h5, h6.ext hg.size⟩
theorem Rdr.gbk {r} (h : Rdr TR K w b l) (hg : w.grownBy w' r) (hl : Out K r) : Rdr TR K w' b l := h.tnk (Tn.ofGB hg) (OutL.one hl)
end
/-! ### Numbers -/
theorem shr7_nat (n : UInt64) : (shr_u64 n 7).toNat = n.toNat / 128 := by
  unfold shr_u64
  rw [UInt64.toNat_ofNat']
  exact Nat.mod_eq_of_lt (by have := n.toNat_lt; omega)
def putN (n : UInt64) : List UInt8 := if h : (n.toNat : Int) ≥ 128 then (n.toUInt8 ||| 128) :: putN (shr_u64 n 7) else [n.toUInt8]
termination_by n.toNat
decreasing_by
  rw [shr7_nat]
  omega
theorem putN_more {n : UInt64} (h : (n.toNat : Int) ≥ 128) : putN n = (n.toUInt8 ||| 128) :: putN (shr_u64 n 7) := by rw [putN, dif_pos h]
theorem putN_last {n : UInt64} (h : ¬ (n.toNat : Int) ≥ 128) : putN n = [n.toUInt8] := by rw [putN, dif_neg h]
theorem putN_lenk : ∀ (k : Nat) (n : UInt64), n.toNat < 128 ^ (k + 1) → (putN n).length ≤ k + 1
  | 0, n, h => by
    rw [putN_last (by omega)]; simp
  | k + 1, n, h => by
    by_cases h2 : (n.toNat : Int) ≥ 128
    · rw [putN_more h2, List.length_cons]
      have := putN_lenk k (shr_u64 n 7) (by rw [shr7_nat]; rw [Nat.pow_succ] at h; omega)
      omega
    · rw [putN_last h2]; simp
theorem putN_pos (n : UInt64) : 1 ≤ (putN n).length := by
  by_cases h : (n.toNat : Int) ≥ 128
  · rw [putN_more h, List.length_cons]; omega
  · rw [putN_last h]; simp
theorem putN_len (n : UInt64) : (putN n).length ≤ 10 := putN_lenk 9 n (by have := n.toNat_lt; omega)
/-- A number that bytes begin with, from group i on. -/
def gV (i : Nat) (c : UInt8) (v : UInt64) : UInt64 := v ||| shl_u64 (c &&& ~~~128).toUInt64 (7 * i)
def gB (i : Nat) (c : UInt8) : Prop := (i = 9 ∧ (c.toNat : Int) > 1) ∨ (0 < i ∧ (c.toNat : Int) = 0)
instance (i : Nat) (c : UInt8) : Decidable (gB i c) := inferInstanceAs (Decidable (_ ∨ _))
def gN : Nat → List UInt8 → UInt64 → Option (UInt64 × Nat)
  | _, [], _ => none
  | i, c :: r, v =>
    if 10 ≤ i then none
    else if (c.toNat : Int) ≥ 128 then gN (i + 1) r (gV i c v)
    else if gB i c then none
    else some (gV i c v, i + 1)
theorem gN_nil {i v} : gN i [] v = none := rfl
theorem gN_cons {i c r v} : gN i (c :: r) v = if 10 ≤ i then none
    else if (c.toNat : Int) ≥ 128 then gN (i + 1) r (gV i c v)
    else if gB i c then none
    else some (gV i c v, i + 1) := rfl
theorem gN_far {i : Nat} {l : List UInt8} {v : UInt64} (h : 10 ≤ i) : gN i l v = none := by
  cases l with
  | nil => rfl
  | cons c r => rw [gN_cons, if_pos h]
theorem gN_le : ∀ (l : List UInt8) (i : Nat) (v u : UInt64) (k : Nat), gN i l v = some (u, k) → i < k ∧ k - i ≤ l.length ∧ k ≤ 10
  | [], i, v, u, k, h => by cases h
  | c :: r, i, v, u, k, h => by
    rw [gN_cons] at h
    split at h
    · cases h
    · split at h
      · have := gN_le r (i + 1) _ u k h
        rw [List.length_cons]; omega
      · split at h
        · cases h
        · cases h; rw [List.length_cons]; omega
/-- One group. -/
theorem drop_cons {l : List UInt8} {i : Nat} (h : i < l.length) : l.drop i = l.getD i 0 :: l.drop (i + 1) := by
  rw [List.drop_eq_getElem_cons h, List.getD_eq_getElem?_getD, List.getElem?_eq_getElem h]; rfl
theorem gN_step {i : Nat} {l : List UInt8} {v : UInt64} (h : i < l.length) (hi : i < 10) : gN i (l.drop i) v = if (l.getD i 0).toNat ≥ (128 : Int) then gN (i + 1) (l.drop (i + 1)) (gV i (l.getD i 0) v)
    else if gB i (l.getD i 0) then none else some (gV i (l.getD i 0) v, i + 1) := by
  rw [drop_cons h, gN_cons, if_neg (by omega)]
theorem gN_lt {i : Nat} {l : List UInt8} {v : UInt64} {p : UInt64 × Nat} (h : gN i (l.drop i) v = some p) : i < l.length := by
  rcases Nat.lt_or_ge i l.length with h1 | h1
  · exact h1
  · rw [List.drop_eq_nil_of_le h1] at h; cases h
theorem gN_i {i : Nat} {l : List UInt8} {v : UInt64} {p : UInt64 × Nat} (h : gN i l v = some p) : i < 10 := by
  rcases Nat.lt_or_ge i 10 with h1 | h1
  · exact h1
  · rw [gN_far h1] at h; cases h
theorem gN_end {i : Nat} {c : UInt8} {x q : UInt64} {j k : Nat} (h : (if gB i c then none else some (x, j)) = some (q, k)) : ¬ gB i c ∧ q = x ∧ k = j := by
  by_cases hb : gB i c
  · rw [if_pos hb] at h; cases h
  · rw [if_neg hb] at h; cases h; exact ⟨hb, rfl, rfl⟩
theorem gN_endn {i : Nat} {c : UInt8} {x : UInt64} {j : Nat} (h : (if gB i c then none else some (x, j)) = none) : gB i c := by
  by_cases hb : gB i c
  · exact hb
  · rw [if_neg hb] at h; cases h
theorem tk1 {l : List UInt8} {i : Nat} (h : i < l.length) : ((l.drop i).take 1).getD 0 0 = l.getD i 0 := by
  rw [drop_cons h]; rfl
theorem drop_one' {l : List UInt8} {i : Nat} : (l.drop i).drop 1 = l.drop (i + 1) := by rw [List.drop_drop]
theorem putN_300 : putN 300 = [172, 2] := by
  rw [putN_more (by decide), putN_last (by decide)]; decide
theorem u64_nat {n : Nat} (h : n < 18446744073709551616) : (UInt64.ofNat n).toNat = n := by
  rw [UInt64.toNat_ofNat']; exact Nat.mod_eq_of_lt h
theorem Ow.up {base base' E : Nat} {w : World} {s : Value} {xs : List Value} (h : Ow base E w s xs) (hf : Fr base' s.ownBlock) : Ow base' E w s xs := by
  obtain ⟨h1, h2⟩ := h
  refine ⟨h1, ?_⟩
  rcases h2 with h2 | ⟨g, cap, cur, hv, hbg, r⟩
  · exact .inl h2
  · subst hv
    exact .inr ⟨g, cap, cur, rfl, hf g rfl, r⟩
/-! ### What is written is read -/
theorem n127 : ~~~(128 : UInt8) = 127 := by decide
theorem and127 (c : UInt8) : (c &&& ~~~128).toNat = c.toNat % 128 := by
  rw [n127, UInt8.toNat_and]
  exact Nat.and_two_pow_sub_one_eq_mod c.toNat 7
theorem or128_mod (x : UInt8) : (x ||| 128).toNat % 128 = x.toNat % 128 := by
  rw [UInt8.toNat_or]
  have h1 := Nat.and_two_pow_sub_one_eq_mod (x.toNat ||| (128 : UInt8).toNat) 7
  have h2 := Nat.and_two_pow_sub_one_eq_mod x.toNat 7
  have h3 : (2 : Nat) ^ 7 = 128 := rfl
  rw [h3] at h1 h2
  rw [← h1, ← h2, Nat.and_or_distrib_right, show (128 : UInt8).toNat &&& (128 - 1) = 0 from rfl, Nat.or_zero]
theorem or128_ge (x : UInt8) : 128 ≤ (x ||| 128).toNat := by
  rw [UInt8.toNat_or]; exact Nat.right_le_or
theorem shl_nat {x : UInt64} {n : Nat} (h : x.toNat * 2 ^ n < 18446744073709551616) : (shl_u64 x n).toNat = x.toNat * 2 ^ n := by
  unfold shl_u64; exact u64_nat h
theorem grp_or {x k : Nat} : (x % 128 * 2 ^ k) ||| (x / 128 * 2 ^ (k + 7)) = x * 2 ^ k := by
  have h1 : x % 128 * 2 ^ k < 2 ^ (k + 7) := by
    rw [Nat.pow_add, Nat.mul_comm (2 ^ k)]
    exact Nat.mul_lt_mul_of_pos_right (Nat.mod_lt _ (by decide)) (Nat.two_pow_pos k)
  have h2 := Nat.two_pow_add_eq_or_of_lt h1 (x / 128)
  rw [Nat.or_comm, Nat.mul_comm (x / 128), ← h2, Nat.pow_add, show (2 : Nat) ^ 7 = 128 from rfl]
  have h3 := Nat.div_add_mod x 128
  calc 2 ^ k * 128 * (x / 128) + x % 128 * 2 ^ k = 2 ^ k * (128 * (x / 128) + x % 128) := by rw [Nat.mul_add, Nat.mul_assoc, Nat.mul_comm (x % 128)]
    _ = x * 2 ^ k := by rw [h3, Nat.mul_comm]
theorem toU8_nat (v : UInt64) : v.toUInt8.toNat = v.toNat % 256 := by simp
theorem u8_64_nat (c : UInt8) : c.toUInt64.toNat = c.toNat := by simp
theorem gV_eq {i : Nat} {c : UInt8} {a v : UInt64} (hc : c.toNat % 128 = v.toNat % 128) (h : v.toNat * 2 ^ (7 * i) < 18446744073709551616) : gV i c a ||| shl_u64 (shr_u64 v 7) (7 * (i + 1)) = a ||| shl_u64 v (7 * i) := by
  unfold gV
  rw [UInt64.or_assoc]
  congr 1
  apply UInt64.toNat_inj.1
  have hm : v.toNat % 128 * 2 ^ (7 * i) ≤ v.toNat * 2 ^ (7 * i) := Nat.mul_le_mul_right _ (Nat.mod_le _ _)
  have hd : v.toNat / 128 * 2 ^ (7 * (i + 1)) ≤ v.toNat * 2 ^ (7 * i) := by
    rw [show 7 * (i + 1) = 7 * i + 7 by omega, ← grp_or (x := v.toNat)]; exact Nat.right_le_or
  rw [UInt64.toNat_or, shl_nat (by rw [u8_64_nat, and127, hc]; omega), shl_nat (by rw [shr7_nat]; omega), shl_nat h, u8_64_nat, and127, hc, shr7_nat, show 7 * (i + 1) = 7 * i + 7 by omega, grp_or]
theorem gV_last {i : Nat} {c : UInt8} {a v : UInt64} (hc : c.toNat = v.toNat) (h8 : v.toNat < 128) : gV i c a = a ||| shl_u64 v (7 * i) := by
  unfold gV
  rw [show (c &&& ~~~128).toUInt64 = v from UInt64.toNat_inj.1 (by rw [u8_64_nat, and127, hc]; exact Nat.mod_eq_of_lt h8)]
theorem gN_putN : ∀ (n i : Nat) (v a : UInt64) (r : List UInt8), v.toNat ≤ n → i ≤ 9 → v.toNat * 2 ^ (7 * i) < 18446744073709551616 → (i = 0 ∨ 0 < v.toNat) → gN i (putN v ++ r) a = some (a ||| shl_u64 v (7 * i), i + (putN v).length) := by
  intro n
  induction n with
  | zero =>
    intro i v a r hv hi hb h0
    have hc : v.toUInt8.toNat = v.toNat := by rw [toU8_nat]; omega
    rw [putN_last (by omega), List.singleton_append, gN_cons, if_neg (by omega), if_neg (by omega), if_neg (by unfold gB; omega), gV_last hc (by omega)]; rfl
  | succ n ih =>
    intro i v a r hv hi hb h0
    by_cases h : (v.toNat : Int) ≥ 128
    · have hi8 : i ≤ 8 := by
        rcases Nat.lt_or_ge i 9 with h1 | h1
        · omega
        · have e : i = 9 := by omega
          subst e
          have h2 : 128 * 2 ^ (7 * 9) ≤ v.toNat * 2 ^ (7 * 9) := Nat.mul_le_mul_right _ (by omega)
          omega
      have hm : (v.toUInt8 ||| 128).toNat % 128 = v.toNat % 128 := by rw [or128_mod, toU8_nat]; omega
      have hg := or128_ge v.toUInt8
      have hd : v.toNat / 128 * 2 ^ (7 * (i + 1)) ≤ v.toNat * 2 ^ (7 * i) := by
        rw [show 7 * (i + 1) = 7 * i + 7 by omega, ← grp_or (x := v.toNat)]; exact Nat.right_le_or
      rw [putN_more h, List.cons_append, gN_cons, if_neg (by omega), if_pos (by omega), ih (i + 1) (shr_u64 v 7) _ r (by rw [shr7_nat]; omega) (by omega) (by rw [shr7_nat]; omega) (.inr (by rw [shr7_nat]; omega)), gV_eq hm hb, List.length_cons]
      congr 2; omega
    · have hc : v.toUInt8.toNat = v.toNat := by rw [toU8_nat]; omega
      have h9 : ¬ gB i v.toUInt8 := by
        unfold gB
        rw [hc]
        rintro (⟨h1, h2⟩ | ⟨h1, h2⟩)
        · subst h1
          have h3 : 2 * 2 ^ (7 * 9) ≤ v.toNat * 2 ^ (7 * 9) := Nat.mul_le_mul_right _ (by omega)
          omega
        · omega
      rw [putN_last h, List.singleton_append, gN_cons, if_neg (by omega), if_neg (by omega), if_neg h9, gV_last hc (by omega)]; rfl
theorem gN_put (v : UInt64) (r : List UInt8) : gN 0 (putN v ++ r) 0 = some (v, (putN v).length) := by
  rw [gN_putN v.toNat 0 v 0 r (Nat.le_refl _) (by omega) (by have := v.toNat_lt; simpa using this) (.inl rfl), Nat.zero_add]
  congr 2
  apply UInt64.toNat_inj.1
  rw [UInt64.toNat_or, shl_nat (by have := v.toNat_lt; simpa using this)]
  simp
theorem putN_0 : putN 0 = [0] := by rw [putN_last (by decide)]; decide
theorem gN_zero (r : List UInt8) : gN 0 (0 :: r) 0 = some (0, 1) := by have h := gN_put 0 r; rw [putN_0] at h; exact h
theorem rep_cons {α : Type} {x : α} {n : Nat} (h : 0 < n) : List.replicate n x = x :: List.replicate (n - 1) x := by
  cases n with
  | zero => omega
  | succ n => rfl
theorem rep_get {α : Type} {x d : α} {n i : Nat} (h : i < n) : (List.replicate n x).getD i d = x := by
  rw [List.getD_eq_getElem?_getD, List.getElem?_replicate, if_pos h]; rfl
theorem cutL {A B : List UInt8} {k : Nat} (hk : k = A.length + B.length - 1) (hB : 1 ≤ B.length) : ((A ++ B).take k).drop 0 = A ++ B.take (B.length - 1) := by
  rw [List.drop_zero, List.take_append, List.take_of_length_le (by omega), show k - A.length = B.length - 1 by omega]
end Go.X
