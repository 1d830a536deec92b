import Derived.Test.YtfefphcmfhabiaaQx
/-
  Numbers that bytes begin with are written as they stood; pieces as bytes. No program here.
-/
set_option linter.unusedVariables false
namespace Go.X
/-! ### A number read, written again -/
theorem add_or {a b i : Nat} (h : a < 2 ^ i) : a ||| b * 2 ^ i = a + b * 2 ^ i := by
  have h1 := Nat.two_pow_add_eq_or_of_lt h b
  rw [Nat.mul_comm (2 ^ i) b] at h1
  rw [Nat.or_comm, ← h1, Nat.add_comm]
theorem gV_nat {i : Nat} {c : UInt8} {a : UInt64} (ha : a.toNat < 2 ^ (7 * i)) (hb : c.toNat % 128 * 2 ^ (7 * i) < 18446744073709551616) : (gV i c a).toNat = a.toNat + c.toNat % 128 * 2 ^ (7 * i) := by
  unfold gV
  rw [UInt64.toNat_or, shl_nat (by rw [u8_64_nat, and127]; exact hb), u8_64_nat, and127, add_or ha]
theorem or128_nat (x : UInt8) : (x ||| 128).toNat = x.toNat % 128 + 128 := by
  have h1 := or128_mod x
  have h2 := or128_ge x
  have h3 := (x ||| 128).toNat_lt
  omega
theorem gN_inv : ∀ (l : List UInt8) (i : Nat) (a q : UInt64) (k : Nat), gN i l a = some (q, k) → a.toNat < 2 ^ (7 * i) → i ≤ 9 → ∃ v : UInt64, q.toNat = a.toNat + v.toNat * 2 ^ (7 * i) ∧ l = putN v ++ l.drop (k - i) ∧ (i = 0 ∨ 0 < v.toNat)
  | [], i, a, q, k, h, _, _ => by cases h
  | c :: r, i, a, q, k, h, ha, hi => by
    rw [gN_cons, if_neg (by omega)] at h
    have hc := c.toNat_lt
    have hq := q.toNat_lt
    by_cases h8 : (c.toNat : Int) ≥ 128
    · rw [if_pos h8] at h
      have hi8 : i ≤ 8 := by
        rcases Nat.lt_or_ge i 9 with h1 | h1
        · omega
        · rw [gN_far (by omega)] at h; cases h
      have hp : 2 ^ (7 * i) ≤ 2 ^ 56 := Nat.pow_le_pow_right (by decide) (by omega)
      have hm : c.toNat % 128 * 2 ^ (7 * i) ≤ 127 * 2 ^ 56 := Nat.mul_le_mul (by omega) hp
      have h128 : (2 : Nat) ^ (7 * (i + 1)) = 128 * 2 ^ (7 * i) := by rw [show 7 * (i + 1) = 7 * i + 7 by omega, Nat.pow_add, Nat.mul_comm]
      have hg := gV_nat (i := i) (c := c) ha (by omega)
      have hg2 : (gV i c a).toNat < 2 ^ (7 * (i + 1)) := by
        rw [hg, h128]
        have : c.toNat % 128 * 2 ^ (7 * i) ≤ 127 * 2 ^ (7 * i) := Nat.mul_le_mul_right _ (by omega)
        omega
      obtain ⟨v', h1, h2, h3⟩ := gN_inv r (i + 1) _ q k h hg2 (by omega)
      have hk := gN_le _ _ _ _ _ h
      rw [hg, h128] at h1
      have hv' : v'.toNat * 128 + c.toNat % 128 < 18446744073709551616 := by
        have e1 : v'.toNat * (128 * 2 ^ (7 * i)) = v'.toNat * 128 * 2 ^ (7 * i) := by rw [Nat.mul_assoc]
        have e2 : v'.toNat * 128 * 2 ^ (7 * i) + c.toNat % 128 * 2 ^ (7 * i) = (v'.toNat * 128 + c.toNat % 128) * 2 ^ (7 * i) := by rw [Nat.add_mul]
        have e3 : (v'.toNat * 128 + c.toNat % 128) * 1 ≤ (v'.toNat * 128 + c.toNat % 128) * 2 ^ (7 * i) := Nat.mul_le_mul_left _ (Nat.two_pow_pos _)
        omega
      have hv : (UInt64.ofNat (v'.toNat * 128 + c.toNat % 128)).toNat = v'.toNat * 128 + c.toNat % 128 := u64_nat hv'
      refine ⟨UInt64.ofNat (v'.toNat * 128 + c.toNat % 128), ?_, ?_, .inr (by omega)⟩
      · rw [hv, h1, Nat.add_mul, Nat.mul_assoc]; omega
      · rw [putN_more (by rw [hv]; omega), show shr_u64 (UInt64.ofNat (v'.toNat * 128 + c.toNat % 128)) 7 = v' from UInt64.toNat_inj.1 (by rw [shr7_nat, hv]; omega),
          show (UInt64.ofNat (v'.toNat * 128 + c.toNat % 128)).toUInt8 ||| 128 = c from UInt8.toNat_inj.1 (by rw [or128_nat, toU8_nat, hv]; omega), List.cons_append, show k - i = (k - (i + 1)) + 1 by omega, List.drop_succ_cons, ← h2]
    · rw [if_neg h8] at h
      obtain ⟨h1, rfl, rfl⟩ := gN_end h
      have h9 : c.toNat % 128 * 2 ^ (7 * i) < 18446744073709551616 := by
        rcases Nat.lt_or_ge i 9 with h2 | h2
        · have hp : 2 ^ (7 * i) ≤ 2 ^ 56 := Nat.pow_le_pow_right (by decide) (by omega)
          have hm : c.toNat % 128 * 2 ^ (7 * i) ≤ 127 * 2 ^ 56 := Nat.mul_le_mul (by omega) hp
          omega
        · have e : i = 9 := by omega
          subst e
          have h3 : c.toNat ≤ 1 := by
            rcases Nat.lt_or_ge c.toNat 2 with h4 | h4
            · omega
            · exact absurd (.inl ⟨rfl, by omega⟩) h1
          have : c.toNat % 128 * 2 ^ (7 * 9) ≤ 1 * 2 ^ (7 * 9) := Nat.mul_le_mul_right _ (by omega)
          omega
      have hcv : c.toUInt64.toNat = c.toNat := u8_64_nat c
      refine ⟨c.toUInt64, by rw [gV_nat ha h9, hcv]; congr 2; omega, ?_, ?_⟩
      · rw [putN_last (by rw [hcv]; omega), show c.toUInt64.toUInt8 = c from UInt8.toNat_inj.1 (by rw [toU8_nat, hcv]; omega), show i + 1 - i = 1 by omega]; rfl
      · rcases Nat.eq_zero_or_pos i with h2 | h2
        · exact .inl h2
        · refine .inr ?_
          rw [hcv]
          rcases Nat.eq_zero_or_pos c.toNat with h3 | h3
          · exact absurd (.inr ⟨h2, by omega⟩) h1
          · exact h3
theorem gN_back {l : List UInt8} {q : UInt64} {k : Nat} (h : gN 0 l 0 = some (q, k)) : l = putN q ++ l.drop k := by
  obtain ⟨v, h1, h2, _⟩ := gN_inv l 0 0 q k h (by decide) (by omega)
  have e : v = q := UInt64.toNat_inj.1 (by rw [h1]; simp)
  rw [e] at h2
  exact h2
/-! ### A number that may be -/
def rdT (t : Nat) (l : List UInt8) : Option (Nat × List UInt8) :=
  match gN 0 l 0 with
  | some (q, k) => if q.toNat ≤ t then some (q.toNat, l.drop k) else none
  | none => none
theorem rdT_some {t : Nat} {l r : List UInt8} {n : Nat} (h : rdT t l = some (n, r)) : ∃ q k, gN 0 l 0 = some (q, k) ∧ q.toNat = n ∧ n ≤ t ∧ r = l.drop k ∧ l = putN (UInt64.ofNat n) ++ r ∧ k ≤ l.length := by
  unfold rdT at h
  cases hg : gN 0 l 0 with
  | none => rw [hg] at h; cases h
  | some p =>
    obtain ⟨q, k⟩ := p
    rw [hg] at h
    simp only at h
    split at h
    · next h1 =>
      cases h
      have h2 := gN_back hg
      have h3 := gN_le _ _ _ _ _ hg
      refine ⟨q, k, rfl, rfl, h1, rfl, ?_, by omega⟩
      rw [show UInt64.ofNat q.toNat = q from UInt64.toNat_inj.1 (u64_nat q.toNat_lt)]
      exact h2
    · cases h
theorem rdT_none {t : Nat} {l : List UInt8} (h : rdT t l = none) : gN 0 l 0 = none ∨ ∃ q k, gN 0 l 0 = some (q, k) ∧ ¬ q.toNat ≤ t := by
  unfold rdT at h
  cases hg : gN 0 l 0 with
  | none => exact .inl rfl
  | some p =>
    obtain ⟨q, k⟩ := p
    rw [hg] at h
    simp only at h
    split at h
    · cases h
    · next h1 => exact .inr ⟨q, k, rfl, h1⟩
theorem rdT_put {t n : Nat} {r : List UInt8} (hn : n ≤ t) (ht : t < 18446744073709551616) : rdT t (putN (UInt64.ofNat n) ++ r) = some (n, r) := by
  unfold rdT
  rw [gN_put]
  simp only
  rw [u64_nat (by omega), if_pos hn, List.drop_left]
theorem rdT_le {t : Nat} {l r : List UInt8} {n : Nat} (h : rdT t l = some (n, r)) : r.length ≤ l.length := by
  obtain ⟨q, k, _, _, _, rfl, _⟩ := rdT_some h
  rw [List.length_drop]; omega
/-! ### The document's readers -/
def numV (l : List UInt8) (t : Nat) : Int × List UInt8 × Bool :=
  match rdT t l with
  | some (n, r) => ((n : Int), r, true)
  | none => (0, [], false)
theorem numV_yes {l r : List UInt8} {t n : Nat} (h : rdT t l = some (n, r)) : numV l t = ((n : Int), r, true) := by unfold numV; rw [h]
theorem numV_no {l : List UInt8} {t : Nat} (h : rdT t l = none) : numV l t = (0, [], false) := by unfold numV; rw [h]
theorem gN_ok9 {i : Nat} {l : List UInt8} {v : UInt64} {p : UInt64 × Nat} (h : gN i (l.drop i) v = some p) : ¬ (i = 9 ∧ ((l.getD i 0).toNat : Int) > 1) := by
  rintro ⟨rfl, h1⟩
  rw [gN_step (gN_lt h) (by omega)] at h
  split at h
  · rw [gN_far (by omega)] at h; cases h
  · rw [if_pos (.inl ⟨rfl, h1⟩)] at h; cases h
theorem gV127 {i : Nat} {c : UInt8} {v : UInt64} : v ||| shl_u64 (c &&& 127).toUInt64 (7 * i) = gV i c v := rfl
theorem numV_len (l : List UInt8) (t : Nat) : (numV l t).2.1.length ≤ l.length := by
  cases h : rdT t l with
  | none => rw [numV_no h]; exact Nat.zero_le _
  | some p =>
    obtain ⟨n, r⟩ := p
    rw [numV_yes h]; exact rdT_le h
end Go.X
