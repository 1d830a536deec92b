import Derived.Test.YtmpfgiffpdackaaXA
/-
  Plain functions of the layer flat, and their laws. No program here.
-/
set_option linter.unusedVariables false
namespace Go.X

/-- The number of the first k bytes, the greatest first. -/
def get64N (l : List UInt8) : Nat → UInt64
  | 0 => 0
  | k + 1 => shl_u64 (get64N l k) 8 ||| (l.getD k 0).toUInt64
theorem get64_no {l : List UInt8} {k : Nat} (h : ¬ (k : Int) < (l.length : Int)) : some (W64 (shl_u64 (get64N l k) 8)) = some (W64 (get64N l (k + 1))) := by
  have : l.getD k 0 = 0 := by rw [List.getD_eq_getElem?_getD, List.getElem?_eq_none (by omega)]; rfl
  simp only [get64N, this]
  congr 2
  simp

/-- The k least bytes of a number, the least first. -/
def leN (n : UInt64) (k : Nat) : List UInt8 := (List.range k).map fun i => (shr_u64 n (8 * i)).toUInt8
theorem leN_len (n : UInt64) (k : Nat) : (leN n k).length = k := by simp [leN]
theorem leN_succ (n : UInt64) (k : Nat) : leN n (k + 1) = leN n k ++ [(shr_u64 n (8 * k)).toUInt8] := by simp [leN, List.range_succ]
/-- The greatest first. -/
def beN (n : UInt64) (k : Nat) : List UInt8 := (leN n k).reverse
theorem beN_len (n : UInt64) (k : Nat) : (beN n k).length = k := by simp [beN, leN_len]
theorem set_front {α : Type} (A : List α) (m : Nat) (z b : α) {i : Nat} (hi : i = A.length) : (A ++ List.replicate (m + 1) z).set i b = (A ++ [b]) ++ List.replicate m z := by
  subst hi
  rw [List.set_append_right _ _ (Nat.le_refl _), Nat.sub_self]
  simp [List.replicate_succ]
theorem set_back {α : Type} (A : List α) (m : Nat) (z b : α) {i : Nat} (hi : i = m) : (List.replicate (m + 1) z ++ A).set i b = List.replicate m z ++ (b :: A) := by
  subst hi
  rw [List.set_append_left _ _ (by simp), show List.replicate (i + 1) z = List.replicate i z ++ [z] by simp [List.replicate_succ'], List.set_append_right _ _ (by simp)]
  simp

theorem minI (a b : Nat) : (if (b : Int) < (a : Int) then (b : Int) else (a : Int)) = ((min a b : Nat) : Int) := by
  split <;> omega

/-- Bytes over bytes. -/
def xorL (a b : List UInt8) : List UInt8 := List.zipWith (fun x y => x ^^^ y) a b
theorem xorL_len (a b : List UInt8) : (xorL a b).length = min a.length b.length := by simp [xorL]
theorem xorL_take (a b : List UInt8) (k : Nat) (ha : k < a.length) (hb : k < b.length) : (xorL a b).take (k + 1) = (xorL a b).take k ++ [a.getD k 0 ^^^ b.getD k 0] := by
  have hk : k < (xorL a b).length := by rw [xorL_len]; omega
  rw [List.take_succ_eq_append_getElem hk]
  simp [xorL, List.getD_eq_getElem?_getD, List.getElem?_eq_getElem ha, List.getElem?_eq_getElem hb]

/-- Reversed by k exchanges. -/
def revN (l : List UInt8) : Nat → List UInt8
  | 0 => l
  | k + 1 => ((revN l k).set k ((revN l k).getD (l.length - 1 - k) 0)).set (l.length - 1 - k) ((revN l k).getD k 0)
theorem revN_len (l : List UInt8) (k : Nat) : (revN l k).length = l.length := by
  induction k with
  | zero => rfl
  | succ k ih => simp [revN, ih]
theorem revN_get (l : List UInt8) : ∀ (k : Nat), 2 * k ≤ l.length + 1 → ∀ i, (revN l k).getD i 0 = if i < k ∨ (l.length - k ≤ i ∧ i < l.length) then l.getD (l.length - 1 - i) 0 else l.getD i 0
  | 0, _, i => by
    rw [if_neg (by omega)]; rfl
  | k + 1, hk, i => by
    have ih := revN_get l k (by omega)
    have hlen := revN_len l k
    simp only [revN, List.getD_eq_getElem?_getD, List.getElem?_set, List.length_set, hlen]
    simp only [← List.getD_eq_getElem?_getD]
    by_cases h1 : l.length - 1 - k = i
    · by_cases hl : i < l.length
      · rw [if_pos h1, if_pos (by omega)]
        simp only [Option.getD_some]
        rw [ih k, if_neg (by omega), if_pos (by omega)]
        try (congr 1; omega)
      · rw [if_pos h1, if_neg (by omega), if_neg (by omega)]
        rw [List.getD_eq_getElem?_getD, List.getElem?_eq_none (by omega)]
        try rfl
    · rw [if_neg h1]
      by_cases h2 : k = i
      · rw [if_pos h2]
        by_cases hl : k < l.length
        · rw [if_pos (by omega)]
          simp only [Option.getD_some]
          rw [ih (l.length - 1 - k), if_neg (by omega), if_pos (by omega)]
          subst h2; rfl
        · rw [if_neg (by omega), if_pos (by omega)]
          rw [List.getD_eq_getElem?_getD, List.getElem?_eq_none (by omega)]
          try rfl
      · rw [if_neg h2, ← List.getD_eq_getElem?_getD, ih i]
        by_cases h3 : i < k ∨ (l.length - k ≤ i ∧ i < l.length)
        · rw [if_pos h3, if_pos (by omega)]
        · rw [if_neg h3, if_neg (by omega)]
theorem revN_rev (l : List UInt8) (k : Nat) (hk : 2 * k ≤ l.length + 1) (hk2 : l.length ≤ 2 * k + 1) : revN l k = l.reverse := by
  apply List.ext_getElem
  · simp [revN_len]
  · intro i h1 h2
    have := revN_get l k hk i
    rw [revN_len] at h1
    simp only [List.getD_eq_getElem?_getD] at this
    rw [List.getElem?_eq_getElem (by rw [revN_len]; exact h1)] at this
    simp only [Option.getD_some] at this
    rw [this, List.getElem_reverse]
    by_cases h3 : i < k ∨ (l.length - k ≤ i ∧ i < l.length)
    · rw [if_pos h3, List.getElem?_eq_getElem (by omega)]; rfl
    · rw [if_neg h3, List.getElem?_eq_getElem (by omega)]
      have : i = l.length - 1 - i := by omega
      simp only [Option.getD_some]
      congr 1

theorem eqB_ret {l m : List UInt8} {b : Bool} (h : b = decide (l = m)) : Value.bool b = Value.bool (decide (l = m)) := by rw [h]
theorem eqB_len {l m : List UInt8} (h : (l.length : Int) ≠ (m.length : Int)) : false = decide (l = m) := by
  symm; rw [decide_eq_false_iff_not]; intro e; subst e; exact h rfl
theorem eqB_diff {l m : List UInt8} {k : Nat} (h : ((l.getD k 0).toNat : Int) ≠ ((m.getD k 0).toNat : Int)) : false = decide (l = m) := by
  symm; rw [decide_eq_false_iff_not]; intro e; subst e; exact h rfl
theorem eqB_all {l m : List UInt8} {k : Nat} (h : ¬ (l.length : Int) ≠ (m.length : Int)) (hk : l.length ≤ k) (ht : l.take k = m.take k) : true = decide (l = m) := by
  symm; rw [decide_eq_true_eq]
  rwa [List.take_of_length_le hk, List.take_of_length_le (by omega)] at ht
theorem take_eq_succ {l m : List UInt8} {k : Nat} (hl : k < l.length) (hm : k < m.length) (ht : l.take k = m.take k) (h : ¬ ((l.getD k 0).toNat : Int) ≠ ((m.getD k 0).toNat : Int)) : l.take (k + 1) = m.take (k + 1) := by
  have e : l[k] = m[k] := by
    apply UInt8.toNat_inj.1
    simp only [List.getD_eq_getElem?_getD, List.getElem?_eq_getElem hl, List.getElem?_eq_getElem hm, Option.getD_some] at h
    omega
  rw [List.take_succ_eq_append_getElem hl, List.take_succ_eq_append_getElem hm, ht, e]

/-- A byte's two digits. -/
def hexD : List UInt8 := [48, 49, 50, 51, 52, 53, 54, 55, 56, 57, 97, 98, 99, 100, 101, 102]
def hexL (l : List UInt8) : List UInt8 := l.flatMap fun c => [hexD.getD (shr_u8 c 4).toNat 0, hexD.getD (c &&& 15).toNat 0]
theorem hexL_take (l : List UInt8) (k : Nat) (h : k < l.length) : hexL (l.take (k + 1)) = hexL (l.take k) ++ [hexD.getD (shr_u8 (l.getD k 0) 4).toNat 0, hexD.getD (l.getD k 0 &&& 15).toNat 0] := by
  have hg : l.getD k 0 = l[k] := by rw [List.getD_eq_getElem?_getD, List.getElem?_eq_getElem h]; rfl
  rw [hg]
  unfold hexL
  rw [List.take_succ_eq_append_getElem h, List.flatMap_append, List.flatMap_singleton]
theorem hexL_len (l : List UInt8) : (hexL l).length = 2 * l.length := by
  induction l with
  | nil => rfl
  | cons x l ih => simp only [hexL, List.flatMap_cons, List.length_append, List.length_cons, List.length_nil] at *; omega
theorem hi_lt (c : UInt8) : (shr_u8 c 4).toNat < 16 := by
  have := c.toNat_lt
  simp only [shr_u8, UInt8.toNat_ofNat']
  omega
theorem lo_lt (c : UInt8) : (c &&& 15).toNat < 16 := by
  rw [UInt8.toNat_and]
  exact Nat.lt_of_le_of_lt Nat.and_le_right (by decide)
end Go.X

/-
  Plain laws of the layer flat: numbers laid and read back, bytes over bytes. No program here.
-/
set_option linter.unusedVariables false
namespace Go.X
theorem shl_or (x : UInt64) (b : UInt8) (h : x.toNat < 72057594037927936) : (shl_u64 x 8 ||| b.toUInt64).toNat = x.toNat * 256 + b.toNat := by
  have hb := b.toNat_lt
  rw [UInt64.toNat_or, shl_u64, UInt64.toNat_ofNat', UInt8.toNat_toUInt64, Nat.mod_eq_of_lt (by omega)]
  have := Nat.shiftLeft_add_eq_or_of_lt (show b.toNat < 2 ^ 8 from hb) x.toNat
  rw [Nat.shiftLeft_eq] at this
  rw [← this]
theorem leN_get (n : UInt64) (k i : Nat) (h : i < k) : ((leN n k).getD i 0).toNat = n.toNat / 2 ^ (8 * i) % 256 := by
  have hn := n.toNat_lt
  have hd : n.toNat / 2 ^ (8 * i) ≤ n.toNat := Nat.div_le_self _ _
  rw [List.getD_eq_getElem?_getD]
  simp only [leN, List.getElem?_map, List.getElem?_range h, Option.map_some, Option.getD_some]
  rw [UInt64.toNat_toUInt8, shr_u64, UInt64.toNat_ofNat', Nat.mod_eq_of_lt (show n.toNat / 2 ^ (8 * i) < 2 ^ 64 by omega)]
theorem beN_get (n : UInt64) (k i : Nat) (h : i < k) : ((beN n k).getD i 0).toNat = n.toNat / 2 ^ (8 * (k - 1 - i)) % 256 := by
  have hl := leN_len n k
  have : (beN n k).getD i 0 = (leN n k).getD (k - 1 - i) 0 := by
    rw [List.getD_eq_getElem?_getD, List.getD_eq_getElem?_getD, beN, List.getElem?_reverse (by omega), hl]
  rw [this, leN_get n k _ (by omega)]
/-- What is read of bytes that are as those of n, for the first k. -/
theorem get64_toNat (l : List UInt8) (n : Nat) (hn : n < 2 ^ 64) : ∀ (k : Nat), k ≤ 8 → (∀ i, i < k → (l.getD i 0).toNat = n / 2 ^ (8 * (7 - i)) % 256) → (get64N l k).toNat = n / 2 ^ (8 * (8 - k))
  | 0, _, _ => by
    have : n / 2 ^ (8 * (8 - 0)) = 0 := Nat.div_eq_of_lt hn
    rw [this]; rfl
  | k + 1, hk, hl => by
    have ih := get64_toNat l n hn k (by omega) (fun i hi => hl i (by omega))
    have hlt : n / 2 ^ (8 * (8 - k)) < 72057594037927936 := by
      have h1 : 2 ^ (8 * (8 - k)) * 72057594037927936 ≥ 2 ^ 64 := by
        have : 2 ^ 8 ≤ 2 ^ (8 * (8 - k)) := Nat.pow_le_pow_right (by decide) (by omega)
        omega
      exact Nat.div_lt_of_lt_mul (Nat.lt_of_lt_of_le hn h1)
    rw [get64N, shl_or _ _ (by rw [ih]; exact hlt), ih, hl k (by omega)]
    have e : 8 * (8 - k) = 8 * (7 - k) + 8 := by omega
    rw [e, Nat.pow_add, ← Nat.div_div_eq_div_mul, show 8 * (8 - (k + 1)) = 8 * (7 - k) by omega]
    omega
theorem get64_beN (n : UInt64) : get64N (beN n 8) 8 = n := by
  apply UInt64.toNat_inj.1
  have := get64_toNat (beN n 8) n.toNat n.toNat_lt 8 (by omega) (fun i hi => by rw [beN_get n 8 i hi])
  rw [this]; simp
theorem getD_drop (l : List UInt8) (j i : Nat) : (l.drop j).getD i 0 = l.getD (j + i) 0 := by
  simp [List.getD_eq_getElem?_getD, List.getElem?_drop]
theorem getD_nil_of {l : List UInt8} {i : Nat} (h : l.length ≤ i) : l.getD i 0 = 0 := by
  rw [List.getD_eq_getElem?_getD, List.getElem?_eq_none h]; rfl
theorem put32_take (n : UInt64) : ((beN n 8).take 8).drop 4 = (beN n 8).drop 4 := by rw [List.take_of_length_le (by rw [beN_len]; decide)]
theorem beN_drop4 (n : UInt64) : (beN n 8).drop 4 = beN n 4 := by
  unfold beN
  rw [List.drop_reverse, leN_len]
  simp [leN, ← List.map_take, List.take_range]
theorem get32_put32 (n : UInt32) : (shr_u64 (get64N (((beN n.toUInt64 8).take 8).drop 4) 8) 32).toUInt32 = n := by
  have hn := n.toNat_lt
  rw [put32_take]
  have h := get64_toNat ((beN n.toUInt64 8).drop 4) (n.toNat * 2 ^ 32) (by omega) 8 (by omega) (fun i hi => by
    rw [getD_drop]
    by_cases h4 : i < 4
    · rw [beN_get _ 8 _ (by omega), UInt32.toNat_toUInt64]
      rw [show 8 * (7 - i) = 8 * (3 - i) + 32 by omega, Nat.pow_add, Nat.mul_div_mul_right _ _ (by decide), show 8 - 1 - (4 + i) = 3 - i by omega]
    · rw [getD_nil_of (by rw [beN_len]; omega)]
      have e : n.toNat * 2 ^ 32 / 2 ^ (8 * (7 - i)) = n.toNat * 2 ^ (32 - 8 * (7 - i) - 8) * 256 := by
        rw [show (2 : Nat) ^ 32 = 2 ^ (32 - 8 * (7 - i) - 8) * 256 * 2 ^ (8 * (7 - i)) by
          rw [show (256 : Nat) = 2 ^ 8 from rfl, ← Nat.pow_add, ← Nat.pow_add]; congr 1; omega]
        rw [← Nat.mul_assoc, Nat.mul_div_cancel _ (Nat.two_pow_pos _), Nat.mul_assoc]
      rw [e, Nat.mul_mod_left]; rfl)
  apply UInt32.toNat_inj.1
  rw [UInt64.toNat_toUInt32, shr_u64, UInt64.toNat_ofNat', h]
  simp only [Nat.sub_self, Nat.mul_zero, Nat.pow_zero, Nat.div_one, Nat.mul_div_cancel _ (show 0 < 2 ^ 32 by decide)]
  omega
theorem xorL_xorL (l m : List UInt8) : xorL (xorL l m) m = l.take (min l.length m.length) := by
  apply List.ext_getElem
  · simp [xorL]
  · intro i h1 h2
    simp [xorL, UInt8.xor_assoc]
theorem xorL_self (l : List UInt8) : xorL l l = List.replicate l.length 0 := by
  apply List.ext_getElem
  · simp [xorL]
  · intro i h1 h2
    simp [xorL]
theorem tt {p : Prop} [Decidable p] (h : p) : Value.bool (decide p) = .bool true := congrArg Value.bool (decide_eq_true h)
theorem ff {p : Prop} [Decidable p] (h : ¬ p) : Value.bool (decide p) = .bool false := congrArg Value.bool (decide_eq_false h)
theorem hexB {n : Nat} (h : n < 16) : 0 ≤ (n : Int) ∧ (n : Int) < ((hexD.length : Nat) : Int) := by
  have : hexD.length = 16 := rfl
  omega
end Go.X

/-
  Plain laws of the layer flat, more: rows one behind the other, remainders, turned bits, digits read. No program here.
-/
set_option linter.unusedVariables false
namespace Go.X
theorem tmod_bd (k n : Int) (hn : 1 ≤ n) : -n < k.tmod n ∧ k.tmod n < n := by
  have h1 := Int.tmod_lt_of_pos k (show 0 < n by omega)
  have h2 : -n < k.tmod n := by
    have := Int.tmod_lt_of_pos (-k) (show 0 < n by omega)
    rw [Int.neg_tmod] at this; omega
  exact ⟨h2, h1⟩
theorem tmod_em (k n : Int) : (k.tmod n) % n = k % n := by rw [Int.tmod_def, Int.sub_mul_emod_self_left]
theorem tmod_neg {k n : Int} (hn : 1 ≤ n) (h : k.tmod n < 0) : k.tmod n + n = k % n := by
  have hb := tmod_bd k n hn
  have h1 : (k.tmod n + n) % n = k % n := by rw [Int.add_emod_right, tmod_em]
  rw [← h1, Int.emod_eq_of_lt (by omega) (by omega)]
theorem tmod_pos {k n : Int} (hn : 1 ≤ n) (h : ¬ k.tmod n < 0) : k.tmod n = k % n := by
  have hb := tmod_bd k n hn
  have h1 : (k.tmod n) % n = k % n := tmod_em k n
  rw [← h1, Int.emod_eq_of_lt (by omega) (by omega)]

theorem flat_take (ll : List (List UInt8)) (k : Nat) (h : k < ll.length) : (ll.take (k + 1)).flatten = (ll.take k).flatten ++ ll.getD k [] := by
  rw [List.take_succ_eq_append_getElem h, List.flatten_append, List.getD_eq_getElem?_getD, List.getElem?_eq_getElem h]
  simp
theorem flat_le (ll : List (List UInt8)) (k : Nat) : (ll.take k).flatten.length ≤ ll.flatten.length := by
  conv => rhs; rw [← List.take_append_drop k ll, List.flatten_append, List.length_append]
  omega
theorem flat_step (ll : List (List UInt8)) (k : Nat) (h : k < ll.length) : (ll.take (k + 1)).flatten.length = (ll.take k).flatten.length + (ll.getD k []).length := by
  rw [flat_take ll k h, List.length_append]

theorem beN_succ (n : UInt64) (k : Nat) : beN n (k + 1) = (shr_u64 n (8 * k)).toUInt8 :: beN n k := by simp [beN, leN_succ]

theorem get64_app (n : UInt64) (x : List UInt8) : get64N (beN n 8 ++ x) 8 = n := by
  apply UInt64.toNat_inj.1
  have hl := beN_len n 8
  have := get64_toNat (beN n 8 ++ x) n.toNat n.toNat_lt 8 (by omega) (fun i hi => by
    rw [List.getD_eq_getElem?_getD, List.getElem?_append_left (by omega), ← List.getD_eq_getElem?_getD, beN_get n 8 i hi])
  rw [this]; simp
theorem beN_leN (n : UInt64) (k : Nat) (h : k < 8) : (beN n 8).getD k 0 = (leN n 8).getD (7 - k) 0 := by
  apply UInt8.toNat_inj.1
  rw [beN_get n 8 k h, leN_get n 8 _ (by omega)]
theorem beN_shr (n : UInt64) (k : Nat) (h : k < 8) : (beN n 8).getD k 0 = (shr_u64 n (8 * (7 - k))).toUInt8 := by
  apply UInt8.toNat_inj.1
  have hn := n.toNat_lt
  have hd : n.toNat / 2 ^ (8 * (7 - k)) ≤ n.toNat := Nat.div_le_self _ _
  rw [beN_get n 8 k h, UInt64.toNat_toUInt8, shr_u64, UInt64.toNat_ofNat', Nat.mod_eq_of_lt (show n.toNat / 2 ^ (8 * (7 - k)) < 2 ^ 64 by omega)]
theorem shl_shr_toNat (n : UInt64) (m : Nat) : (shl_u64 (shr_u64 n m) m).toNat = n.toNat / 2 ^ m * 2 ^ m := by
  have hn := n.toNat_lt
  have hd : n.toNat / 2 ^ m ≤ n.toNat := Nat.div_le_self _ _
  have hm : n.toNat / 2 ^ m * 2 ^ m ≤ n.toNat := Nat.div_mul_le_self _ _
  rw [shl_u64, shr_u64, UInt64.toNat_ofNat', UInt64.toNat_ofNat', Nat.mod_eq_of_lt (show n.toNat / 2 ^ m < 2 ^ 64 by omega), Nat.mod_eq_of_lt (by omega)]
theorem get64_take (n : UInt64) (k : Nat) (hk : k ≤ 8) : get64N ((beN n 8).take k) 8 = shl_u64 (shr_u64 n (64 - 8 * k)) (64 - 8 * k) := by
  apply UInt64.toNat_inj.1
  have hn := n.toNat_lt
  have hm : n.toNat / 2 ^ (64 - 8 * k) * 2 ^ (64 - 8 * k) ≤ n.toNat := Nat.div_mul_le_self _ _
  have hl := beN_len n 8
  rw [shl_shr_toNat]
  have := get64_toNat ((beN n 8).take k) (n.toNat / 2 ^ (64 - 8 * k) * 2 ^ (64 - 8 * k)) (by omega) 8 (by omega) (fun i hi => by
    by_cases hik : i < k
    · rw [List.getD_eq_getElem?_getD, List.getElem?_take_of_lt hik, ← List.getD_eq_getElem?_getD, beN_get n 8 i hi]
      rw [show 8 * (7 - i) = (64 - 8 * k) + 8 * (k - 1 - i) by omega, Nat.pow_add, ← Nat.div_div_eq_div_mul, ← Nat.div_div_eq_div_mul, Nat.mul_div_cancel _ (Nat.two_pow_pos _)]
    · rw [List.getD_eq_getElem?_getD, List.getElem?_eq_none (by simp; omega)]
      have e : n.toNat / 2 ^ (64 - 8 * k) * 2 ^ (64 - 8 * k) / 2 ^ (8 * (7 - i)) = n.toNat / 2 ^ (64 - 8 * k) * 2 ^ (64 - 8 * k - 8 * (7 - i) - 8) * 256 := by
        have : (2 : Nat) ^ (64 - 8 * k) = 2 ^ (64 - 8 * k - 8 * (7 - i) - 8) * 256 * 2 ^ (8 * (7 - i)) := by
          rw [show (256 : Nat) = 2 ^ 8 from rfl, ← Nat.pow_add, ← Nat.pow_add]; congr 1; omega
        conv => lhs; rw [show n.toNat / 2 ^ (64 - 8 * k) * 2 ^ (64 - 8 * k) = n.toNat / 2 ^ (64 - 8 * k) * (2 ^ (64 - 8 * k - 8 * (7 - i) - 8) * 256 * 2 ^ (8 * (7 - i))) by rw [← this]]
        rw [← Nat.mul_assoc, Nat.mul_div_cancel _ (Nat.two_pow_pos _), Nat.mul_assoc]
      rw [e, Nat.mul_mod_left]; rfl)
  rw [this]; simp
theorem cut_bytes (n : UInt64) (k : Int) (h0 : 0 ≤ k) (h1 : k ≤ 8) : get64N (((beN n 8).take k.toNat).drop 0) 8 = shl_u64 (shr_u64 n (64 - 8 * k).toNat) (64 - 8 * k).toNat := by
  rw [List.drop_zero, get64_take n k.toNat (by omega), show 64 - 8 * k.toNat = (64 - 8 * k).toNat by omega]
theorem shl_shr_all (n : UInt64) (k : Int) (h0 : 8 ≤ k) (h1 : k ≤ 8) : shl_u64 (shr_u64 n (64 - 8 * k).toNat) (64 - 8 * k).toNat = n := by
  obtain rfl : k = 8 := by omega
  apply UInt64.toNat_inj.1
  rw [shl_shr_toNat]; simp

/-- One bit turned. -/
def flipL (l : List UInt8) (bit : Int) : List UInt8 :=
  if l.length = 0 then [] else
    let k := bit % (8 * l.length : Int)
    l.set (k / 8).toNat (l.getD (k / 8).toNat 0 ^^^ shl_u8 1 (k % 8).toNat)
theorem flipL_len (l : List UInt8) (bit : Int) : (flipL l bit).length = l.length := by
  unfold flipL; split <;> simp_all
theorem shl1_ne (j : Nat) (h : j < 8) : shl_u8 1 j ≠ 0 := by
  have : ∀ j : _root_.Fin 8, shl_u8 1 j.val ≠ 0 := by decide
  exact this ⟨j, h⟩
theorem flipL_ne (l : List UInt8) (bit : Int) (h : l.length ≠ 0) : flipL l bit ≠ l := by
  unfold flipL
  rw [if_neg h]
  intro e
  have hpos : (0 : Int) < 8 * l.length := by omega
  have h0 := Int.emod_nonneg bit (show (8 * l.length : Int) ≠ 0 by omega)
  have h1 := Int.emod_lt_of_pos bit hpos
  generalize bit % (8 * l.length : Int) = k at *
  have hk : (k / 8).toNat < l.length := by omega
  have := congrArg (fun m => m.getD (k / 8).toNat 0) e
  simp only [List.getD_eq_getElem?_getD, List.getElem?_set_self hk, List.getElem?_eq_getElem hk, Option.getD_some] at this
  have h2 : l[(k / 8).toNat] ^^^ (l[(k / 8).toNat] ^^^ shl_u8 1 (k % 8).toNat) = l[(k / 8).toNat] ^^^ l[(k / 8).toNat] := by rw [this]
  rw [← UInt8.xor_assoc, UInt8.xor_self, UInt8.zero_xor] at h2
  exact shl1_ne _ (by omega) h2

theorem getD_mem {p : Int → Prop} {l : List Int} (h : ∀ x ∈ l, p x) {k : Nat} (hk : k < l.length) : p (l.getD k 0) := by
  rw [List.getD_eq_getElem?_getD, List.getElem?_eq_getElem hk]; exact h _ (List.getElem_mem hk)
/-- The sum of the first k. -/
theorem sum_take (l : List Int) (k : Nat) (h : k < l.length) : (l.take (k + 1)).sum = (l.take k).sum + l.getD k 0 := by
  rw [List.take_succ_eq_append_getElem h, List.sum_append, List.getD_eq_getElem?_getD, List.getElem?_eq_getElem h]
  simp
end Go.X

/-
  Plain laws of the layer flat: the first four of eight bytes read. No program here.
-/
set_option linter.unusedVariables false
namespace Go.X
theorem get64_step (l : List UInt8) (k : Nat) (h : (get64N l k).toNat < 256 ^ k) (hk : k < 8) : (get64N l (k + 1)).toNat = (get64N l k).toNat * 256 + (l.getD k 0).toNat := by
  have h7 : 256 ^ k ≤ 256 ^ 7 := Nat.pow_le_pow_right (by decide) (by omega)
  rw [get64N, shl_or _ _ (by omega)]
theorem get64_lt (l : List UInt8) : ∀ (k : Nat), k ≤ 8 → (get64N l k).toNat < 256 ^ k
  | 0, _ => by simp [get64N]
  | k + 1, hk => by
    have ih := get64_lt l k (by omega)
    have hb := (l.getD k 0).toNat_lt
    rw [get64_step l k ih (by omega), Nat.pow_succ]
    omega
theorem get64_top4 (l : List UInt8) : (shr_u64 (get64N l 8) 32).toUInt32 = (get64N l 4).toUInt32 := by
  have h4 := get64_step l 4 (get64_lt l 4 (by omega)) (by omega)
  have h5 := get64_step l 5 (get64_lt l 5 (by omega)) (by omega)
  have h6 := get64_step l 6 (get64_lt l 6 (by omega)) (by omega)
  have h7 := get64_step l 7 (get64_lt l 7 (by omega)) (by omega)
  have b4 := (l.getD 4 0).toNat_lt
  have b5 := (l.getD 5 0).toNat_lt
  have b6 := (l.getD 6 0).toNat_lt
  have b7 := (l.getD 7 0).toNat_lt
  have l4 := get64_lt l 4 (by omega)
  simp only [Nat.reduceAdd] at h4 h5 h6 h7
  apply congrArg UInt64.toUInt32
  apply UInt64.toNat_inj.1
  rw [shr_u64, UInt64.toNat_ofNat', Nat.mod_eq_of_lt]
  · simp only [Nat.reducePow] at l4 ⊢; omega
  · simp only [Nat.reducePow] at l4 ⊢; omega
end Go.X

/-
  Plain laws of digits: text read as bytes. No program here.
-/
set_option linter.unusedVariables false
namespace Go.X
def dig (c : UInt8) : Int := if 48 ≤ c.toNat ∧ c.toNat ≤ 57 then c.toNat - 48 else if 97 ≤ c.toNat ∧ c.toNat ≤ 102 then c.toNat - 87 else -1
theorem dig_index (c : UInt8) : Lib.indexByte hexD c = dig c := by
  have h : ∀ n : _root_.Fin 256, Lib.indexByte hexD (UInt8.ofNat n.val) = dig (UInt8.ofNat n.val) := by decide +kernel
  have := h ⟨c.toNat, c.toNat_lt⟩
  simpa using this
theorem dig_bd (c : UInt8) : -1 ≤ dig c ∧ dig c ≤ 15 := by
  unfold dig; split
  · omega
  · split <;> omega
theorem dig_num {c : UInt8} (h0 : (48 : Int) ≤ (c.toNat : Int)) (h1 : (c.toNat : Int) ≤ 57) : ((c - 48).toNat : Int) = dig c := by
  unfold dig
  rw [if_pos (by omega), UInt8.toNat_sub_of_le _ _ (UInt8.le_iff_toNat_le.2 (by show 48 ≤ c.toNat; omega)), show (48 : UInt8).toNat = 48 from rfl]
  omega
theorem dig_let {c : UInt8} (h0 : (97 : Int) ≤ (c.toNat : Int)) (h1 : (c.toNat : Int) ≤ 102) : ((c - 97).toNat : Int) + 10 = dig c := by
  unfold dig
  rw [if_neg (by omega), if_pos (by omega), UInt8.toNat_sub_of_le _ _ (UInt8.le_iff_toNat_le.2 (by show 97 ≤ c.toNat; omega)), show (97 : UInt8).toNat = 97 from rfl]
  omega
theorem dig_no {c : UInt8} (h0 : ¬ ((48 : Int) ≤ (c.toNat : Int) ∧ (c.toNat : Int) ≤ 57)) (h1 : ¬ ((97 : Int) ≤ (c.toNat : Int) ∧ (c.toNat : Int) ≤ 102)) : dig c = -1 := by
  unfold dig
  rw [if_neg (by omega), if_neg (by omega)]
def okH (l : List UInt8) : Bool := decide (l.length % 2 = 0 ∧ ∀ j, j < l.length → 0 ≤ dig (l.getD j 0))
def unT (l : List UInt8) (k : Nat) : List UInt8 := (List.range k).map fun i => UInt8.ofNat (16 * dig (l.getD (2 * i) 0) + dig (l.getD (2 * i + 1) 0)).toNat
theorem unT_len (l : List UInt8) (k : Nat) : (unT l k).length = k := by simp [unT]
theorem unT_succ (l : List UInt8) (k : Nat) : unT l (k + 1) = unT l k ++ [UInt8.ofNat (16 * dig (l.getD (2 * k) 0) + dig (l.getD (2 * k + 1) 0)).toNat] := by simp [unT, List.range_succ]
def unH (l : List UInt8) : List UInt8 := if okH l then unT l (l.length / 2) else []
theorem okH_odd {l : List UInt8} (h : (l.length : Int) % 2 ≠ 0) : okH l = false := by
  unfold okH; exact decide_eq_false fun h' => by omega
theorem okH_bad {l : List UInt8} {j : Nat} (hj : j < l.length) (h : dig (l.getD j 0) < 0) : okH l = false := by
  unfold okH; exact decide_eq_false fun h' => by have := h'.2 j hj; omega
theorem okH_yes {l : List UInt8} {k : Nat} (h : (l.length : Int) % 2 = 0) (hk : ∀ j, j < 2 * k → 0 ≤ dig (l.getD j 0)) (hl : l.length ≤ 2 * k) : okH l = true := by
  unfold okH; exact decide_eq_true ⟨by omega, fun j hj => hk j (by omega)⟩
theorem un_no {w : World} {l : List UInt8} (h : okH l = false) : ∃ s, Value.tuple #[nilS, .bool false] = .tuple #[s, .bool (okH l)] ∧ Bs w s (unH l) :=
  ⟨nilS, by rw [h], by unfold unH; rw [h]; exact Rd.nilM _ _⟩
theorem un_yes {w : World} {l : List UInt8} {s : Value} {k : Nat} (h : okH l = true) (hk : k = l.length / 2) (hs : Bs w s (unT l k)) : ∃ s', Value.tuple #[s, .bool true] = .tuple #[s', .bool (okH l)] ∧ Bs w s' (unH l) :=
  ⟨s, by rw [h], by unfold unH; rw [h]; subst hk; exact hs⟩
theorem or_dig {a b : Int} (ha : 0 ≤ a) (hb : 0 ≤ b) (hb' : b ≤ 15) : (((a * 2 ^ (4 : Int).toNat).toNat ||| b.toNat : Nat) : Int).toNat = (16 * a + b).toNat := by
  have h1 : (a * 2 ^ (4 : Int).toNat).toNat = 2 ^ 4 * a.toNat := by
    rw [show (2 : Int) ^ (4 : Int).toNat = 16 from rfl]; omega
  rw [h1, ← Nat.two_pow_add_eq_or_of_lt (show b.toNat < 2 ^ 4 by omega)]
  simp only [Int.toNat_natCast]
  omega
theorem dig_hexD (n : Nat) (h : n < 16) : dig (hexD.getD n 0) = n := by
  have : ∀ n : _root_.Fin 16, dig (hexD.getD n.val 0) = n.val := by decide +kernel
  exact this ⟨n, h⟩
theorem hexL_get (l : List UInt8) : ∀ (i : Nat), i < l.length → (hexL l).getD (2 * i) 0 = hexD.getD (shr_u8 (l.getD i 0) 4).toNat 0 ∧ (hexL l).getD (2 * i + 1) 0 = hexD.getD (l.getD i 0 &&& 15).toNat 0 := by
  induction l with
  | nil => intro i hi; cases hi
  | cons x l ih =>
    intro i hi
    cases i with
    | zero => exact ⟨rfl, rfl⟩
    | succ i =>
      have := ih i (by simpa using hi)
      exact this
theorem okH_hex (l : List UInt8) : okH (hexL l) = true := by
  have hl := hexL_len l
  unfold okH
  refine decide_eq_true ⟨by omega, fun j hj => ?_⟩
  have hg := hexL_get l (j / 2) (by omega)
  rcases Nat.mod_two_eq_zero_or_one j with h | h
  · rw [show j = 2 * (j / 2) by omega, hg.1, dig_hexD _ (hi_lt _)]; omega
  · rw [show j = 2 * (j / 2) + 1 by omega, hg.2, dig_hexD _ (lo_lt _)]; omega
theorem unH_hex (l : List UInt8) : unH (hexL l) = l := by
  have hl := hexL_len l
  unfold unH
  rw [okH_hex, if_pos rfl, show (hexL l).length / 2 = l.length by omega]
  apply List.ext_getElem
  · rw [unT_len]
  · intro i h1 h2
    have hg := hexL_get l i h2
    have e : l.getD i 0 = l[i] := by rw [List.getD_eq_getElem?_getD, List.getElem?_eq_getElem h2]; rfl
    simp only [unT, List.getElem_map, List.getElem_range]
    rw [hg.1, hg.2, dig_hexD _ (hi_lt _), dig_hexD _ (lo_lt _), e]
    generalize l[i] = c
    have : ∀ n : _root_.Fin 256, UInt8.ofNat (16 * (((shr_u8 (UInt8.ofNat n.val) 4).toNat : Nat) : Int) + (((UInt8.ofNat n.val) &&& 15).toNat : Nat)).toNat = UInt8.ofNat n.val := by decide +kernel
    have := this ⟨c.toNat, c.toNat_lt⟩
    simpa using this
/-- What stands of a pair behind its first j digits. -/
def pv (l : List UInt8) (k j : Nat) : Int := if j = 0 then 0 else if j = 1 then dig (l.getD (2 * k) 0) else 16 * dig (l.getD (2 * k) 0) + dig (l.getD (2 * k + 1) 0)
theorem pv_succ (l : List UInt8) (k j : Nat) (h : j < 2) : 16 * pv l k j + dig (l.getD (2 * k + j) 0) = pv l k (j + 1) := by
  rcases (show j = 0 ∨ j = 1 by omega) with h | h <;> subst h
  · simp [pv]
  · simp [pv]
theorem pv_bd (l : List UInt8) (k j : Nat) : -32 ≤ pv l k j ∧ pv l k j ≤ 255 := by
  have h1 := dig_bd (l.getD (2 * k) 0)
  have h2 := dig_bd (l.getD (2 * k + 1) 0)
  unfold pv; split
  · omega
  · split <;> omega
end Go.X
