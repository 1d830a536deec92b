/-
  Plain laws of the layer flat: numbers laid and read back, bytes over bytes. No program here.
-/
import Derived.Test.YtipbmjbdmpcgoaaPf
set_option linter.unusedVariables false
namespace Go.X
theorem shl_or (x : UInt64) (b : UInt8) (h : x.toNat < 72057594037927936) : (shl_u64 x 8 ||| b.toUInt64).toNat = x.toNat * 256 + b.toNat := by
  have hb := b.toNat_lt
  rw [UInt64.toNat_or, shl_u64, UInt64.toNat_ofNat', UInt8.toNat_toUInt64, Nat.mod_eq_of_lt (by omega)]
  have := Nat.shiftLeft_add_eq_or_of_lt (show b.toNat < 2 ^ 8 from hb) x.toNat
  rw [Nat.shiftLeft_eq] at this
  rw [← this]
theorem leN_get (n : UInt64) (k i : Nat) (h : i < k) : ((leN n k).getD i 0).toNat = n.toNat / 2 ^ (8 * i) % 256 := by
  have hn := n.toNat_lt
  have hd : n.toNat / 2 ^ (8 * i) ≤ n.toNat := Nat.div_le_self _ _
  rw [List.getD_eq_getElem?_getD]
  simp only [leN, List.getElem?_map, List.getElem?_range h, Option.map_some, Option.getD_some]
  rw [UInt64.toNat_toUInt8, shr_u64, UInt64.toNat_ofNat', Nat.mod_eq_of_lt (show n.toNat / 2 ^ (8 * i) < 2 ^ 64 by omega)]
theorem beN_get (n : UInt64) (k i : Nat) (h : i < k) : ((beN n k).getD i 0).toNat = n.toNat / 2 ^ (8 * (k - 1 - i)) % 256 := by
  have hl := leN_len n k
  have : (beN n k).getD i 0 = (leN n k).getD (k - 1 - i) 0 := by
    rw [List.getD_eq_getElem?_getD, List.getD_eq_getElem?_getD, beN, List.getElem?_reverse (by omega), hl]
  rw [this, leN_get n k _ (by omega)]
/-- What is read of bytes that are as those of n, for the first k. -/
theorem get64_toNat (l : List UInt8) (n : Nat) (hn : n < 2 ^ 64) : ∀ (k : Nat), k ≤ 8 → (∀ i, i < k → (l.getD i 0).toNat = n / 2 ^ (8 * (7 - i)) % 256) → (get64N l k).toNat = n / 2 ^ (8 * (8 - k))
  | 0, _, _ => by
    have : n / 2 ^ (8 * (8 - 0)) = 0 := Nat.div_eq_of_lt hn
    rw [this]; rfl
  | k + 1, hk, hl => by
    have ih := get64_toNat l n hn k (by omega) (fun i hi => hl i (by omega))
    have hlt : n / 2 ^ (8 * (8 - k)) < 72057594037927936 := by
      have h1 : 2 ^ (8 * (8 - k)) * 72057594037927936 ≥ 2 ^ 64 := by
        have : 2 ^ 8 ≤ 2 ^ (8 * (8 - k)) := Nat.pow_le_pow_right (by decide) (by omega)
        omega
      exact Nat.div_lt_of_lt_mul (Nat.lt_of_lt_of_le hn h1)
    rw [get64N, shl_or _ _ (by rw [ih]; exact hlt), ih, hl k (by omega)]
    have e : 8 * (8 - k) = 8 * (7 - k) + 8 := by omega
    rw [e, Nat.pow_add, ← Nat.div_div_eq_div_mul, show 8 * (8 - (k + 1)) = 8 * (7 - k) by omega]
    omega
theorem get64_beN (n : UInt64) : get64N (beN n 8) 8 = n := by
  apply UInt64.toNat_inj.1
  have := get64_toNat (beN n 8) n.toNat n.toNat_lt 8 (by omega) (fun i hi => by rw [beN_get n 8 i hi])
  rw [this]; simp
theorem getD_drop (l : List UInt8) (j i : Nat) : (l.drop j).getD i 0 = l.getD (j + i) 0 := by
  simp [List.getD_eq_getElem?_getD, List.getElem?_drop]
theorem getD_nil_of {l : List UInt8} {i : Nat} (h : l.length ≤ i) : l.getD i 0 = 0 := by
  rw [List.getD_eq_getElem?_getD, List.getElem?_eq_none h]; rfl
theorem put32_take (n : UInt64) : ((beN n 8).take 8).drop 4 = (beN n 8).drop 4 := by rw [List.take_of_length_le (by rw [beN_len]; decide)]
theorem beN_drop4 (n : UInt64) : (beN n 8).drop 4 = beN n 4 := by
  unfold beN
  rw [List.drop_reverse, leN_len]
  simp [leN, ← List.map_take, List.take_range]
theorem get32_put32 (n : UInt32) : (shr_u64 (get64N (((beN n.toUInt64 8).take 8).drop 4) 8) 32).toUInt32 = n := by
  have hn := n.toNat_lt
  rw [put32_take]
  have h := get64_toNat ((beN n.toUInt64 8).drop 4) (n.toNat * 2 ^ 32) (by omega) 8 (by omega) (fun i hi => by
    rw [getD_drop]
    by_cases h4 : i < 4
    · rw [beN_get _ 8 _ (by omega), UInt32.toNat_toUInt64]
      rw [show 8 * (7 - i) = 8 * (3 - i) + 32 by omega, Nat.pow_add, Nat.mul_div_mul_right _ _ (by decide), show 8 - 1 - (4 + i) = 3 - i by omega]
    · rw [getD_nil_of (by rw [beN_len]; omega)]
      have e : n.toNat * 2 ^ 32 / 2 ^ (8 * (7 - i)) = n.toNat * 2 ^ (32 - 8 * (7 - i) - 8) * 256 := by
        rw [show (2 : Nat) ^ 32 = 2 ^ (32 - 8 * (7 - i) - 8) * 256 * 2 ^ (8 * (7 - i)) by
          rw [show (256 : Nat) = 2 ^ 8 from rfl, ← Nat.pow_add, ← Nat.pow_add]; congr 1; omega]
        rw [← Nat.mul_assoc, Nat.mul_div_cancel _ (Nat.two_pow_pos _), Nat.mul_assoc]
      rw [e, Nat.mul_mod_left]; rfl)
  apply UInt32.toNat_inj.1
  rw [UInt64.toNat_toUInt32, shr_u64, UInt64.toNat_ofNat', h]
  simp only [Nat.sub_self, Nat.mul_zero, Nat.pow_zero, Nat.div_one, Nat.mul_div_cancel _ (show 0 < 2 ^ 32 by decide)]
  omega
theorem xorL_xorL (l m : List UInt8) : xorL (xorL l m) m = l.take (min l.length m.length) := by
  apply List.ext_getElem
  · simp [xorL]
  · intro i h1 h2
    simp [xorL, UInt8.xor_assoc]
theorem xorL_self (l : List UInt8) : xorL l l = List.replicate l.length 0 := by
  apply List.ext_getElem
  · simp [xorL]
  · intro i h1 h2
    simp [xorL]
theorem tt {p : Prop} [Decidable p] (h : p) : Value.bool (decide p) = .bool true := congrArg Value.bool (decide_eq_true h)
theorem ff {p : Prop} [Decidable p] (h : ¬ p) : Value.bool (decide p) = .bool false := congrArg Value.bool (decide_eq_false h)
theorem hexB {n : Nat} (h : n < 16) : 0 ≤ (n : Int) ∧ (n : Int) < ((hexD.length : Nat) : Int) := by
  have : hexD.length = 16 := rfl
  omega
end Go.X
