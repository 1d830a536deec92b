import Derived.Test.YtghklimejpmpnaaQy
import Derived.Test.YtghklimejpmpnaaQn
/-
  Pieces as bytes, and bytes as pieces. No program here.
-/
set_option linter.unusedVariables false
namespace Go.X
def badQ (i a c : Int) (n : Nat) : Prop := ¬ ((0 ≤ i ∧ i ≤ 1073741824) ∧ (0 ≤ c ∧ c ≤ 1073741824) ∧ (0 ≤ a ∧ a ≤ c - 1) ∧ ¬ (n : Int) = 0)
instance (i a c : Int) (n : Nat) : Decidable (badQ i a c n) := inferInstanceAs (Decidable (¬ _))
def encB (i a c : Int) (l : List UInt8) : List UInt8 := [] ++ putN (UInt64.ofNat i.toNat) ++ putN (UInt64.ofNat a.toNat) ++ putN (UInt64.ofNat c.toNat) ++ putN (UInt64.ofNat l.length) ++ l
theorem encB_flat (i a c : Int) (l : List UInt8) : [putN (UInt64.ofNat i.toNat), putN (UInt64.ofNat a.toNat), putN (UInt64.ofNat c.toNat), bF l].flatten = encB i a c l := by
  simp [encB, bF]
theorem encB_len (i a c : Int) (l : List UInt8) : (encB i a c l).length ≤ 40 + l.length := by
  have h1 := putN_len (UInt64.ofNat i.toNat)
  have h2 := putN_len (UInt64.ofNat a.toNat)
  have h3 := putN_len (UInt64.ofNat c.toNat)
  have h4 := putN_len (UInt64.ofNat l.length)
  simp only [encB, List.length_append, List.length_nil]
  omega
def encE (i a c : Int) (l : List UInt8) : Int := if badQ i a c l.length then 1 else if l.length ≤ 1000 then 0 else 11
def encL (i a c : Int) (l : List UInt8) : List UInt8 := if badQ i a c l.length then [] else if l.length ≤ 1000 then encB i a c l else []
theorem encE_bad {i a c : Int} {l : List UInt8} (h : badQ i a c l.length) : encE i a c l = 1 ∧ encL i a c l = [] := by unfold encE encL; rw [if_pos h, if_pos h]; exact ⟨rfl, rfl⟩
theorem encE_big {i a c : Int} {l : List UInt8} (h : ¬ badQ i a c l.length) (h2 : ¬ l.length ≤ 1000) : encE i a c l = 11 ∧ encL i a c l = [] := by unfold encE encL; rw [if_neg h, if_neg h, if_neg h2, if_neg h2]; exact ⟨rfl, rfl⟩
theorem encE_ok {i a c : Int} {l : List UInt8} (h : ¬ badQ i a c l.length) (h2 : l.length ≤ 1000) : encE i a c l = 0 ∧ encL i a c l = encB i a c l := by unfold encE encL; rw [if_neg h, if_neg h, if_pos h2, if_pos h2]; exact ⟨rfl, rfl⟩
/-! ### Three numbers -/
def rdN : Nat → List UInt8 → Option (List Int × List UInt8)
  | 0, l => some ([], l)
  | n + 1, l =>
    match rdT 1073741824 l with
    | none => none
    | some (v, r) =>
      match rdN n r with
      | none => none
      | some (vs, r2) => some ((v : Int) :: vs, r2)
theorem rdN_step {n : Nat} {l r : List UInt8} {v : Nat} (h : rdT 1073741824 l = some (v, r)) : rdN (n + 1) l = match rdN n r with
      | none => none
      | some (vs, r2) => some ((v : Int) :: vs, r2) := by
  show (match rdT 1073741824 l with
    | none => none
    | some (v, r) => _) = _
  rw [h]
theorem rdN_none {n : Nat} {l : List UInt8} (h : rdT 1073741824 l = none) : rdN (n + 1) l = none := by
  show (match rdT 1073741824 l with
    | none => none
    | some (v, r) => _) = _
  rw [h]
theorem rdN_cons {n : Nat} {l r : List UInt8} {z : Int} {zs : List Int} (h : rdN (n + 1) l = some (z :: zs, r)) : ∃ v r1, rdT 1073741824 l = some (v, r1) ∧ z = (v : Int) ∧ rdN n r1 = some (zs, r) := by
  cases h1 : rdT 1073741824 l with
  | none => rw [rdN_none h1] at h; cases h
  | some p =>
    obtain ⟨v, r1⟩ := p
    rw [rdN_step h1] at h
    cases h2 : rdN n r1 with
    | none => rw [h2] at h; cases h
    | some p2 =>
      obtain ⟨vs, r2⟩ := p2
      rw [h2] at h
      cases h
      exact ⟨v, r1, rfl, rfl, h2⟩
theorem rdN_len : ∀ {n : Nat} {l r : List UInt8} {zs : List Int}, rdN n l = some (zs, r) → zs.length = n ∧ r.length ≤ l.length
  | 0, l, r, zs, h => by cases h; exact ⟨rfl, Nat.le_refl _⟩
  | n + 1, l, r, zs, h => by
    cases h1 : rdT 1073741824 l with
    | none => rw [rdN_none h1] at h; cases h
    | some p =>
      obtain ⟨v, r1⟩ := p
      rw [rdN_step h1] at h
      cases h2 : rdN n r1 with
      | none => rw [h2] at h; cases h
      | some p2 =>
        obtain ⟨vs, r2⟩ := p2
        rw [h2] at h
        cases h
        have h3 := rdN_len h2
        have h4 := rdT_le h1
        exact ⟨by rw [List.length_cons, h3.1], by omega⟩
theorem rdN_three {l : List UInt8} : rdN 3 l = none ∨ ∃ z0 z1 z2 r, rdN 3 l = some ([z0, z1, z2], r) := by
  cases h : rdN 3 l with
  | none => exact .inl rfl
  | some p =>
    obtain ⟨zs, r⟩ := p
    have h1 := (rdN_len h).1
    match zs, h1 with
    | [z0, z1, z2], _ => exact .inr ⟨z0, z1, z2, r, rfl⟩
/-- One number of those that are wanting: none, too great, or there. -/
theorem rdN_cases {n : Nat} {l : List UInt8} (h : rdN (n + 1) l = none) : gN 0 l 0 = none ∨ (∃ q k, gN 0 l 0 = some (q, k) ∧ ¬ q.toNat ≤ 1073741824) ∨ ∃ q k, gN 0 l 0 = some (q, k) ∧ q.toNat ≤ 1073741824 ∧ k ≤ l.length ∧ rdN n (l.drop k) = none := by
  cases h1 : rdT 1073741824 l with
  | none =>
    rcases rdT_none h1 with h2 | ⟨q, k, h2, h3⟩
    · exact .inl h2
    · exact .inr (.inl ⟨q, k, h2, h3⟩)
  | some p =>
    obtain ⟨v, r⟩ := p
    rw [rdN_step h1] at h
    obtain ⟨q, k, h2, rfl, h4, rfl, _, h5⟩ := rdT_some h1
    refine .inr (.inr ⟨q, k, h2, h4, h5, ?_⟩)
    cases h6 : rdN n (l.drop k) with
    | none => rfl
    | some p2 => rw [h6] at h; cases h
theorem rdN_next {n : Nat} {l r : List UInt8} {z : Int} {zs : List Int} (h : rdN (n + 1) l = some (z :: zs, r)) : ∃ q k, gN 0 l 0 = some (q, k) ∧ q.toNat ≤ 1073741824 ∧ k ≤ l.length ∧ z = (q.toNat : Int) ∧ rdN n (l.drop k) = some (zs, r) := by
  obtain ⟨v, r1, h1, rfl, h2⟩ := rdN_cons h
  obtain ⟨q, k, h3, rfl, h4, rfl, _, h5⟩ := rdT_some h1
  exact ⟨q, k, h3, h4, h5, rfl, h2⟩
theorem rdN_back {l r : List UInt8} {z0 z1 z2 : Int} (h : rdN 3 l = some ([z0, z1, z2], r)) : (0 ≤ z0 ∧ z0 ≤ 1073741824) ∧ (0 ≤ z1 ∧ z1 ≤ 1073741824) ∧ (0 ≤ z2 ∧ z2 ≤ 1073741824) ∧ l = [] ++ putN (UInt64.ofNat z0.toNat) ++ putN (UInt64.ofNat z1.toNat) ++ putN (UInt64.ofNat z2.toNat) ++ r := by
  obtain ⟨v, r1, h1, rfl, h2⟩ := rdN_cons h
  obtain ⟨v2, r2, h3, rfl, h4⟩ := rdN_cons h2
  obtain ⟨v3, r3, h5, rfl, h6⟩ := rdN_cons h4
  cases h6
  obtain ⟨_, _, _, _, a1, _, a2, _⟩ := rdT_some h1
  obtain ⟨_, _, _, _, b1, _, b2, _⟩ := rdT_some h3
  obtain ⟨_, _, _, _, c1, _, c2, _⟩ := rdT_some h5
  refine ⟨by omega, by omega, by omega, ?_⟩
  simp only [Int.toNat_natCast, List.nil_append, List.append_assoc]
  rw [← c2, ← b2, ← a2]
/-! ### A piece read -/
def decR (l : List UInt8) : Option (Int × Int × Int × List UInt8) :=
  match rdN 3 l with
  | some ([i, a, c], r) =>
    match rdT 1000 r with
    | some (q, d) => if d.length = q ∧ ¬ badQ i a c q then some (i, a, c, d) else none
    | none => none
  | _ => none
theorem decR_no {l : List UInt8} (h : rdN 3 l = none) : decR l = none := by unfold decR; rw [h]
theorem decR_no2 {l r : List UInt8} {i a c : Int} (h : rdN 3 l = some ([i, a, c], r)) (h2 : rdT 1000 r = none) : decR l = none := by unfold decR; rw [h]; simp only; rw [h2]
theorem decR_yes {l r d : List UInt8} {i a c : Int} {q : Nat} (h : rdN 3 l = some ([i, a, c], r)) (h2 : rdT 1000 r = some (q, d)) : decR l = if d.length = q ∧ ¬ badQ i a c q then some (i, a, c, d) else none := by unfold decR; rw [h]; simp only; rw [h2]
/-- What is read of bytes, and how it ends: the error, the piece, its bytes. -/
def RdQ (l : List UInt8) (e i a c : Int) (d : List UInt8) : Prop :=
  (¬ e = 0 ∧ decR l = none) ∨ (e = 0 ∧ d.length ≤ 1000 ∧ l = encB i a c d ∧ decR l = if badQ i a c d.length then none else some (i, a, c, d))
theorem RdQ.ok {l r : List UInt8} {i a c : Int} {q : UInt64} {k : Nat} (h : rdN 3 l = some ([i, a, c], r)) (hg : gN 0 r 0 = some (q, k)) (hq : q.toNat ≤ 1000) (hk : k + q.toNat ≤ r.length) : RdQ l (if (r.drop (k + q.toNat)).length = 0 then 0 else 2) i a c ((r.drop k).take q.toNat) := by
  have h1 : rdT 1000 r = some (q.toNat, r.drop k) := by unfold rdT; rw [hg]; simp only; rw [if_pos hq]
  have h2 := decR_yes h h1
  rw [List.length_drop] at h2 ⊢
  by_cases h3 : r.length - (k + q.toNat) = 0
  · rw [if_pos h3]
    have h4 : (r.drop k).take q.toNat = r.drop k := List.take_of_length_le (by rw [List.length_drop]; omega)
    rw [h4]
    have h5 : (r.drop k).length = q.toNat := by rw [List.length_drop]; omega
    obtain ⟨_, _, _, h6⟩ := rdN_back h
    refine .inr ⟨rfl, by omega, ?_, ?_⟩
    · rw [h6]
      unfold encB
      have h7 := gN_back hg
      rw [h5, show UInt64.ofNat q.toNat = q from UInt64.toNat_inj.1 (u64_nat q.toNat_lt), List.append_assoc _ (putN q), ← h7]
    · rw [h2, h5]
      by_cases hb : badQ i a c q.toNat
      · rw [if_pos hb, if_neg (fun h => h.2 hb)]
      · rw [if_neg hb, if_pos ⟨by rw [← List.length_drop]; exact h5, hb⟩]
  · rw [if_neg h3]
    exact .inl ⟨by decide, by rw [h2, if_neg (by omega)]⟩
/-- What a reader of pieces answers. -/
def decV (l : List UInt8) : Int × Int × Int × List UInt8 × Int :=
  match decR l with
  | some (i, a, c, d) => (i, a, c, d, 0)
  | none => (0, 0, 0, [], 2)
theorem decV_no {l : List UInt8} (h : decR l = none) : decV l = (0, 0, 0, [], 2) := by unfold decV; rw [h]
theorem decV_yes {l d : List UInt8} {i a c : Int} (h : decR l = some (i, a, c, d)) : decV l = (i, a, c, d, 0) := by unfold decV; rw [h]
theorem RdQ.cases {l d : List UInt8} {e i a c : Int} (h : RdQ l e i a c d) : (¬ e = 0 ∧ decV l = (0, 0, 0, [], 2)) ∨ (e = 0 ∧ encE i a c d = 1 ∧ decV l = (0, 0, 0, [], 2)) ∨ (e = 0 ∧ encE i a c d = 0 ∧ encL i a c d = l ∧ decV l = (i, a, c, d, 0)) := by
  rcases h with ⟨h1, h2⟩ | ⟨h1, h2, h3, h4⟩
  · exact .inl ⟨h1, decV_no h2⟩
  · by_cases hb : badQ i a c d.length
    · rw [if_pos hb] at h4
      exact .inr (.inl ⟨h1, (encE_bad hb).1, decV_no h4⟩)
    · rw [if_neg hb] at h4
      exact .inr (.inr ⟨h1, (encE_ok hb h2).1, by rw [(encE_ok hb h2).2, ← h3], decV_yes h4⟩)
/-! ### The document's readers -/
def numV (l : List UInt8) (t : Nat) : Int × List UInt8 × Bool :=
  match rdT t l with
  | some (n, r) => ((n : Int), r, true)
  | none => (0, [], false)
theorem numV_yes {l r : List UInt8} {t n : Nat} (h : rdT t l = some (n, r)) : numV l t = ((n : Int), r, true) := by unfold numV; rw [h]
theorem numV_no {l : List UInt8} {t : Nat} (h : rdT t l = none) : numV l t = (0, [], false) := by unfold numV; rw [h]
theorem nums_cases (l : List UInt8) : (rdN 3 l = none ∧ (numV l 1073741824).2.2 = false) ∨ (rdN 3 l = none ∧ (numV l 1073741824).2.2 = true ∧ (numV (numV l 1073741824).2.1 1073741824).2.2 = false) ∨
    (rdN 3 l = none ∧ (numV l 1073741824).2.2 = true ∧ (numV (numV l 1073741824).2.1 1073741824).2.2 = true ∧ (numV (numV (numV l 1073741824).2.1 1073741824).2.1 1073741824).2.2 = false) ∨
    ∃ z0 z1 z2 r1 r2 r, rdN 3 l = some ([z0, z1, z2], r) ∧ numV l 1073741824 = (z0, r1, true) ∧ numV r1 1073741824 = (z1, r2, true) ∧ numV r2 1073741824 = (z2, r, true) := by
  cases h1 : rdT 1073741824 l with
  | none => exact .inl ⟨rdN_none h1, by rw [numV_no h1]⟩
  | some p1 =>
    obtain ⟨v1, r1⟩ := p1
    rw [rdN_step h1, numV_yes h1]
    cases h2 : rdT 1073741824 r1 with
    | none => exact .inr (.inl ⟨by rw [rdN_none h2], rfl, by simp only; rw [numV_no h2]⟩)
    | some p2 =>
      obtain ⟨v2, r2⟩ := p2
      rw [rdN_step h2]
      cases h3 : rdT 1073741824 r2 with
      | none => exact .inr (.inr (.inl ⟨by rw [rdN_none h3], rfl, by simp only; rw [numV_yes h2], by simp only; rw [numV_yes h2]; simp only; rw [numV_no h3]⟩))
      | some p3 =>
        obtain ⟨v3, r3⟩ := p3
        rw [rdN_step h3]
        exact .inr (.inr (.inr ⟨_, _, _, r1, r2, r3, rfl, rfl, numV_yes h2, numV_yes h3⟩))
theorem gN_ok9 {i : Nat} {l : List UInt8} {v : UInt64} {p : UInt64 × Nat} (h : gN i (l.drop i) v = some p) : ¬ (i = 9 ∧ ((l.getD i 0).toNat : Int) > 1) := by
  rintro ⟨rfl, h1⟩
  rw [gN_step (gN_lt h) (by omega)] at h
  split at h
  · rw [gN_far (by omega)] at h; cases h
  · rw [if_pos (.inl ⟨rfl, h1⟩)] at h; cases h
theorem gV127 {i : Nat} {c : UInt8} {v : UInt64} : v ||| shl_u64 (c &&& 127).toUInt64 (7 * i) = gV i c v := rfl
/-- One number of those that are wanting, at place n of three. -/
theorem stepN {n : Nat} {r : List UInt8} (hn : n < 3) (h : rdN (3 - n) r = none) : gN 0 r 0 = none ∨ (∃ q k, gN 0 r 0 = some (q, k) ∧ ¬ q.toNat ≤ 1073741824) ∨ ∃ q k, gN 0 r 0 = some (q, k) ∧ q.toNat ≤ 1073741824 ∧ k ≤ r.length ∧ rdN (3 - (n + 1)) (r.drop k) = none := by
  rw [show 3 - n = (3 - (n + 1)) + 1 by omega] at h
  exact rdN_cases h
theorem stepS {n : Nat} {r rf : List UInt8} {z0 z1 z2 : Int} (hn : n < 3) (h : rdN (3 - n) r = some ([z0, z1, z2].drop n, rf)) : ∃ q k, gN 0 r 0 = some (q, k) ∧ q.toNat ≤ 1073741824 ∧ k ≤ r.length ∧ [z0, z1, z2].getD n 0 = (q.toNat : Int) ∧ rdN (3 - (n + 1)) (r.drop k) = some ([z0, z1, z2].drop (n + 1), rf) := by
  rw [show 3 - n = (3 - (n + 1)) + 1 by omega] at h
  rcases (show n = 0 ∨ n = 1 ∨ n = 2 by omega) with rfl | rfl | rfl <;> exact rdN_next h
theorem get3 {a b c : Value} {n : Nat} (h : n < 3) : ([a, b, c] : List Value)[n]? = some ([a, b, c].getD n nilS) := by
  rcases (show n = 0 ∨ n = 1 ∨ n = 2 by omega) with rfl | rfl | rfl <;> rfl
/-- How bytes behind their number fail. -/
def byF (r : List UInt8) (e : Int) : Prop := (gN 0 r 0 = none ∧ e = 2) ∨ ∃ q k, gN 0 r 0 = some (q, k) ∧ ((¬ q.toNat ≤ 1000 ∧ e = 11) ∨ (q.toNat ≤ 1000 ∧ r.length < k + q.toNat ∧ e = 2))
theorem byF_cases (r : List UInt8) : (∃ e, byF r e) ∨ ∃ q k, gN 0 r 0 = some (q, k) ∧ q.toNat ≤ 1000 ∧ k + q.toNat ≤ r.length := by
  cases h : gN 0 r 0 with
  | none => exact .inl ⟨2, .inl ⟨h, rfl⟩⟩
  | some p =>
    obtain ⟨q, k⟩ := p
    by_cases h1 : q.toNat ≤ 1000
    · by_cases h2 : k + q.toNat ≤ r.length
      · exact .inr ⟨q, k, rfl, h1, h2⟩
      · exact .inl ⟨2, .inr ⟨q, k, h, .inr ⟨h1, by omega, rfl⟩⟩⟩
    · exact .inl ⟨11, .inr ⟨q, k, h, .inl ⟨h1, rfl⟩⟩⟩
theorem byF_ne {r : List UInt8} {e : Int} (h : byF r e) : ¬ e = 0 := by
  rcases h with ⟨_, rfl⟩ | ⟨q, k, _, ⟨_, rfl⟩ | ⟨_, _, rfl⟩⟩ <;> decide
theorem byF_dec {l r : List UInt8} {i a c e : Int} (h : rdN 3 l = some ([i, a, c], r)) (hb : byF r e) : decR l = none := by
  rcases hb with ⟨h1, _⟩ | ⟨q, k, h1, ⟨h2, _⟩ | ⟨h2, h3, _⟩⟩
  · exact decR_no2 h (by unfold rdT; rw [h1])
  · exact decR_no2 h (by unfold rdT; rw [h1]; simp only; rw [if_neg h2])
  · rw [decR_yes h (by unfold rdT; rw [h1]; simp only; rw [if_pos h2])]
    have h9 := gN_le _ _ _ _ _ h1
    rw [if_neg]
    rw [List.length_drop]; omega
theorem decV_len {l r : List UInt8} {i a c : Int} {q : UInt64} {k : Nat} (h : rdN 3 l = some ([i, a, c], r)) (hg : gN 0 r 0 = some (q, k)) (hq : q.toNat ≤ 1000) (hk : k + q.toNat ≤ r.length) : (¬ k + q.toNat = r.length ∧ decV l = (0, 0, 0, [], 2)) ∨
    (k + q.toNat = r.length ∧ ((encE i a c ((r.drop k).take q.toNat) = 1 ∧ decV l = (0, 0, 0, [], 2)) ∨ (encE i a c ((r.drop k).take q.toNat) = 0 ∧ decV l = (i, a, c, (r.drop k).take q.toNat, 0)))) := by
  have h1 := RdQ.ok h hg hq hk
  by_cases h2 : k + q.toNat = r.length
  · refine .inr ⟨h2, ?_⟩
    rw [List.length_drop, if_pos (by omega)] at h1
    rcases h1.cases with ⟨h3, _⟩ | ⟨_, h3, h4⟩ | ⟨_, h3, _, h4⟩
    · exact absurd rfl h3
    · exact .inl ⟨h3, h4⟩
    · exact .inr ⟨h3, h4⟩
  · refine .inl ⟨h2, ?_⟩
    rw [List.length_drop, if_neg (by omega)] at h1
    rcases h1.cases with ⟨_, h4⟩ | ⟨h3, _⟩ | ⟨h3, _⟩
    · exact h4
    · cases h3
    · cases h3
theorem n3c {n : Nat} {r : List UInt8} (h : rdN (3 - n) r = none) (hn : n < 3) : gN 0 r 0 = none ∨ (∃ q k, gN 0 r 0 = some (q, k) ∧ ¬ q.toNat ≤ 1073741824) ∨ (∃ q k, gN 0 r 0 = some (q, k) ∧ q.toNat ≤ 1073741824 ∧ k ≤ r.length ∧ n = 0 ∧ rdN (3 - 1) (r.drop k) = none) ∨
    (∃ q k, gN 0 r 0 = some (q, k) ∧ q.toNat ≤ 1073741824 ∧ k ≤ r.length ∧ n = 1 ∧ rdN (3 - 2) (r.drop k) = none) ∨ (∃ q k, gN 0 r 0 = some (q, k) ∧ q.toNat ≤ 1073741824 ∧ k ≤ r.length ∧ n = 2 ∧ rdN (3 - 3) (r.drop k) = none) := by
  rcases stepN hn h with h | h | ⟨q, k, h1, h2, h3, h4⟩
  · exact .inl h
  · exact .inr (.inl h)
  · rcases (show n = 0 ∨ n = 1 ∨ n = 2 by omega) with rfl | rfl | rfl
    · exact .inr (.inr (.inl ⟨q, k, h1, h2, h3, rfl, h4⟩))
    · exact .inr (.inr (.inr (.inl ⟨q, k, h1, h2, h3, rfl, h4⟩)))
    · exact .inr (.inr (.inr (.inr ⟨q, k, h1, h2, h3, rfl, h4⟩)))
theorem n3s {n : Nat} {r rf : List UInt8} {z0 z1 z2 y0 y1 y2 : Int} (h : ∃ q k, gN 0 r 0 = some (q, k) ∧ q.toNat ≤ 1073741824 ∧ k ≤ r.length ∧ [z0, z1, z2].getD n 0 = (q.toNat : Int) ∧ rdN (3 - (n + 1)) (r.drop k) = some ([z0, z1, z2].drop (n + 1), rf)) (hn : n < 3) (hz : (1 ≤ n → y0 = z0) ∧ (2 ≤ n → y1 = z1) ∧ (3 ≤ n → y2 = z2)) :
    (∃ (q : UInt64) (k : Nat), gN 0 r 0 = some (q, k) ∧ q.toNat ≤ 1073741824 ∧ k ≤ r.length ∧ n = 0 ∧ rdN (3 - 1) (r.drop k) = some ([z0, z1, z2].drop 1, rf) ∧ (1 ≤ 1 → (q.toNat : Int) = z0) ∧ (2 ≤ 1 → y1 = z1) ∧ (3 ≤ 1 → y2 = z2)) ∨
    (∃ (q : UInt64) (k : Nat), gN 0 r 0 = some (q, k) ∧ q.toNat ≤ 1073741824 ∧ k ≤ r.length ∧ n = 1 ∧ rdN (3 - 2) (r.drop k) = some ([z0, z1, z2].drop 2, rf) ∧ (1 ≤ 2 → y0 = z0) ∧ (2 ≤ 2 → (q.toNat : Int) = z1) ∧ (3 ≤ 2 → y2 = z2)) ∨
    (∃ (q : UInt64) (k : Nat), gN 0 r 0 = some (q, k) ∧ q.toNat ≤ 1073741824 ∧ k ≤ r.length ∧ n = 2 ∧ rdN (3 - 3) (r.drop k) = some ([z0, z1, z2].drop 3, rf) ∧ (1 ≤ 3 → y0 = z0) ∧ (2 ≤ 3 → y1 = z1) ∧ (3 ≤ 3 → (q.toNat : Int) = z2)) := by
  obtain ⟨q, k, h1, h2, h3, h4, h5⟩ := h
  rcases (show n = 0 ∨ n = 1 ∨ n = 2 by omega) with rfl | rfl | rfl
  · exact .inl ⟨q, k, h1, h2, h3, rfl, h5, fun _ => h4.symm, fun h => by omega, fun h => by omega⟩
  · exact .inr (.inl ⟨q, k, h1, h2, h3, rfl, h5, fun _ => hz.1 (by omega), fun _ => h4.symm, fun h => by omega⟩)
  · exact .inr (.inr ⟨q, k, h1, h2, h3, rfl, h5, fun _ => hz.1 (by omega), fun _ => hz.2.1 (by omega), fun _ => h4.symm⟩)
theorem numV_len (l : List UInt8) (t : Nat) : (numV l t).2.1.length ≤ l.length := by
  cases h : rdT t l with
  | none => rw [numV_no h]; exact Nat.zero_le _
  | some p =>
    obtain ⟨n, r⟩ := p
    rw [numV_yes h]; exact rdT_le h
theorem dec_cases {l r : List UInt8} {i a c : Int} (h : rdN 3 l = some ([i, a, c], r)) : (∃ e, byF r e ∧ decV l = (0, 0, 0, [], 2)) ∨ (∃ q k, gN 0 r 0 = some (q, k) ∧ q.toNat ≤ 1000 ∧ k + q.toNat ≤ r.length ∧ ¬ k + q.toNat = r.length ∧ decV l = (0, 0, 0, [], 2)) ∨
    (∃ q k, gN 0 r 0 = some (q, k) ∧ q.toNat ≤ 1000 ∧ k + q.toNat ≤ r.length ∧ k + q.toNat = r.length ∧ encE i a c ((r.drop k).take q.toNat) = 1 ∧ decV l = (0, 0, 0, [], 2)) ∨
    (∃ q k, gN 0 r 0 = some (q, k) ∧ q.toNat ≤ 1000 ∧ k + q.toNat ≤ r.length ∧ k + q.toNat = r.length ∧ encE i a c ((r.drop k).take q.toNat) = 0 ∧ decV l = (i, a, c, (r.drop k).take q.toNat, 0)) := by
  rcases byF_cases r with ⟨e, he⟩ | ⟨q, k, hg, hq, hk⟩
  · exact .inl ⟨e, he, decV_no (byF_dec h he)⟩
  · rcases decV_len h hg hq hk with ⟨h1, h2⟩ | ⟨h1, ⟨h2, h3⟩ | ⟨h2, h3⟩⟩
    · exact .inr (.inl ⟨q, k, hg, hq, hk, h1, h2⟩)
    · exact .inr (.inr (.inl ⟨q, k, hg, hq, hk, h1, h2, h3⟩))
    · exact .inr (.inr (.inr ⟨q, k, hg, hq, hk, h1, h2, h3⟩))
/-! ### The document's pieces -/
def rpL (id : Int) (s : Value) (n len M k : Nat) : List Pc := (List.range k).map fun (i : Nat) => (id, (i : Int), (M : Int), slc s (i * n) (min ((i + 1) * n) len))
theorem rpL_len {id s n len M k} : (rpL id s n len M k).length = k := by simp [rpL]
theorem rpL_succ {id s n len M k} : rpL id s n len M (k + 1) = rpL id s n len M k ++ [(id, (k : Int), (M : Int), slc s (k * n) (min ((k + 1) * n) len))] := by unfold rpL; rw [List.range_succ, List.map_append]; rfl
theorem rpL_get {id s n len M k i} (h : i < k) : (rpL id s n len M k).getD i pcD = (id, (i : Int), (M : Int), slc s (i * n) (min ((i + 1) * n) len)) := by
  unfold rpL
  rw [List.getD_eq_getElem?_getD, List.getElem?_map, List.getElem?_range h]; rfl
theorem rp_bs {w : World} {s : Value} {l : List UInt8} {n i : Nat} (h : Bs w s l) (hi : i * n < l.length) : Bs w (slc s (i * n) (min ((i + 1) * n) l.length)) ((l.drop (i * n)).take n) := by
  have hm : (i + 1) * n = i * n + n := Nat.succ_mul i n
  have h1 := Bs.slc h (l := i * n) (k := min ((i + 1) * n) l.length) (by omega) (by omega)
  have e : (l.take (min ((i + 1) * n) l.length)).drop (i * n) = (l.drop (i * n)).take n := by
    rw [List.drop_take, List.take_eq_take_iff, List.length_drop]; omega
  rw [e] at h1; exact h1
theorem mul_succI (i n : Nat) : ((i : Int) + 1) * (n : Int) = (((i + 1) * n : Nat) : Int) := by rw [Int.natCast_mul]; rfl
end Go.X
