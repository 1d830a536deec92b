/-
  Plain functions of the layer flat, and their laws. No program here.
-/
import Derived.Test.YtipbmjbdmpcgoaaX6
set_option linter.unusedVariables false
namespace Go.X

/-- The number of the first k bytes, the greatest first. -/
def get64N (l : List UInt8) : Nat → UInt64
  | 0 => 0
  | k + 1 => shl_u64 (get64N l k) 8 ||| (l.getD k 0).toUInt64
theorem get64_no {l : List UInt8} {k : Nat} (h : ¬ (k : Int) < (l.length : Int)) : some (W64 (shl_u64 (get64N l k) 8)) = some (W64 (get64N l (k + 1))) := by
  have : l.getD k 0 = 0 := by rw [List.getD_eq_getElem?_getD, List.getElem?_eq_none (by omega)]; rfl
  simp only [get64N, this]
  congr 2
  simp

/-- The k least bytes of a number, the least first. -/
def leN (n : UInt64) (k : Nat) : List UInt8 := (List.range k).map fun i => (shr_u64 n (8 * i)).toUInt8
theorem leN_len (n : UInt64) (k : Nat) : (leN n k).length = k := by simp [leN]
theorem leN_succ (n : UInt64) (k : Nat) : leN n (k + 1) = leN n k ++ [(shr_u64 n (8 * k)).toUInt8] := by simp [leN, List.range_succ]
/-- The greatest first. -/
def beN (n : UInt64) (k : Nat) : List UInt8 := (leN n k).reverse
theorem beN_len (n : UInt64) (k : Nat) : (beN n k).length = k := by simp [beN, leN_len]
theorem set_front {α : Type} (A : List α) (m : Nat) (z b : α) {i : Nat} (hi : i = A.length) : (A ++ List.replicate (m + 1) z).set i b = (A ++ [b]) ++ List.replicate m z := by
  subst hi
  rw [List.set_append_right _ _ (Nat.le_refl _), Nat.sub_self]
  simp [List.replicate_succ]
theorem set_back {α : Type} (A : List α) (m : Nat) (z b : α) {i : Nat} (hi : i = m) : (List.replicate (m + 1) z ++ A).set i b = List.replicate m z ++ (b :: A) := by
  subst hi
  rw [List.set_append_left _ _ (by simp), show List.replicate (i + 1) z = List.replicate i z ++ [z] by simp [List.replicate_succ'], List.set_append_right _ _ (by simp)]
  simp

theorem minI (a b : Nat) : (if (b : Int) < (a : Int) then (b : Int) else (a : Int)) = ((min a b : Nat) : Int) := by
  split <;> omega

/-- Bytes over bytes. -/
def xorL (a b : List UInt8) : List UInt8 := List.zipWith (fun x y => x ^^^ y) a b
theorem xorL_len (a b : List UInt8) : (xorL a b).length = min a.length b.length := by simp [xorL]
theorem xorL_take (a b : List UInt8) (k : Nat) (ha : k < a.length) (hb : k < b.length) : (xorL a b).take (k + 1) = (xorL a b).take k ++ [a.getD k 0 ^^^ b.getD k 0] := by
  have hk : k < (xorL a b).length := by rw [xorL_len]; omega
  rw [List.take_succ_eq_append_getElem hk]
  simp [xorL, List.getD_eq_getElem?_getD, List.getElem?_eq_getElem ha, List.getElem?_eq_getElem hb]

/-- Reversed by k exchanges. -/
def revN (l : List UInt8) : Nat → List UInt8
  | 0 => l
  | k + 1 => ((revN l k).set k ((revN l k).getD (l.length - 1 - k) 0)).set (l.length - 1 - k) ((revN l k).getD k 0)
theorem revN_len (l : List UInt8) (k : Nat) : (revN l k).length = l.length := by
  induction k with
  | zero => rfl
  | succ k ih => simp [revN, ih]
theorem revN_get (l : List UInt8) : ∀ (k : Nat), 2 * k ≤ l.length + 1 → ∀ i, (revN l k).getD i 0 = if i < k ∨ (l.length - k ≤ i ∧ i < l.length) then l.getD (l.length - 1 - i) 0 else l.getD i 0
  | 0, _, i => by
    rw [if_neg (by omega)]; rfl
  | k + 1, hk, i => by
    have ih := revN_get l k (by omega)
    have hlen := revN_len l k
    simp only [revN, List.getD_eq_getElem?_getD, List.getElem?_set, List.length_set, hlen]
    simp only [← List.getD_eq_getElem?_getD]
    by_cases h1 : l.length - 1 - k = i
    · by_cases hl : i < l.length
      · rw [if_pos h1, if_pos (by omega)]
        simp only [Option.getD_some]
        rw [ih k, if_neg (by omega), if_pos (by omega)]
        try (congr 1; omega)
      · rw [if_pos h1, if_neg (by omega), if_neg (by omega)]
        rw [List.getD_eq_getElem?_getD, List.getElem?_eq_none (by omega)]
        try rfl
    · rw [if_neg h1]
      by_cases h2 : k = i
      · rw [if_pos h2]
        by_cases hl : k < l.length
        · rw [if_pos (by omega)]
          simp only [Option.getD_some]
          rw [ih (l.length - 1 - k), if_neg (by omega), if_pos (by omega)]
          subst h2; rfl
        · rw [if_neg (by omega), if_pos (by omega)]
          rw [List.getD_eq_getElem?_getD, List.getElem?_eq_none (by omega)]
          try rfl
      · rw [if_neg h2, ← List.getD_eq_getElem?_getD, ih i]
        by_cases h3 : i < k ∨ (l.length - k ≤ i ∧ i < l.length)
        · rw [if_pos h3, if_pos (by omega)]
        · rw [if_neg h3, if_neg (by omega)]
theorem revN_rev (l : List UInt8) (k : Nat) (hk : 2 * k ≤ l.length + 1) (hk2 : l.length ≤ 2 * k + 1) : revN l k = l.reverse := by
  apply List.ext_getElem
  · simp [revN_len]
  · intro i h1 h2
    have := revN_get l k hk i
    rw [revN_len] at h1
    simp only [List.getD_eq_getElem?_getD] at this
    rw [List.getElem?_eq_getElem (by rw [revN_len]; exact h1)] at this
    simp only [Option.getD_some] at this
    rw [this, List.getElem_reverse]
    by_cases h3 : i < k ∨ (l.length - k ≤ i ∧ i < l.length)
    · rw [if_pos h3, List.getElem?_eq_getElem (by omega)]; rfl
    · rw [if_neg h3, List.getElem?_eq_getElem (by omega)]
      have : i = l.length - 1 - i := by omega
      simp only [Option.getD_some]
      congr 1

theorem eqB_ret {l m : List UInt8} {b : Bool} (h : b = decide (l = m)) : Value.bool b = Value.bool (decide (l = m)) := by rw [h]
theorem eqB_len {l m : List UInt8} (h : (l.length : Int) ≠ (m.length : Int)) : false = decide (l = m) := by
  symm; rw [decide_eq_false_iff_not]; intro e; subst e; exact h rfl
theorem eqB_diff {l m : List UInt8} {k : Nat} (h : ((l.getD k 0).toNat : Int) ≠ ((m.getD k 0).toNat : Int)) : false = decide (l = m) := by
  symm; rw [decide_eq_false_iff_not]; intro e; subst e; exact h rfl
theorem eqB_all {l m : List UInt8} {k : Nat} (h : ¬ (l.length : Int) ≠ (m.length : Int)) (hk : l.length ≤ k) (ht : l.take k = m.take k) : true = decide (l = m) := by
  symm; rw [decide_eq_true_eq]
  rwa [List.take_of_length_le hk, List.take_of_length_le (by omega)] at ht
theorem take_eq_succ {l m : List UInt8} {k : Nat} (hl : k < l.length) (hm : k < m.length) (ht : l.take k = m.take k) (h : ¬ ((l.getD k 0).toNat : Int) ≠ ((m.getD k 0).toNat : Int)) : l.take (k + 1) = m.take (k + 1) := by
  have e : l[k] = m[k] := by
    apply UInt8.toNat_inj.1
    simp only [List.getD_eq_getElem?_getD, List.getElem?_eq_getElem hl, List.getElem?_eq_getElem hm, Option.getD_some] at h
    omega
  rw [List.take_succ_eq_append_getElem hl, List.take_succ_eq_append_getElem hm, ht, e]

/-- A byte's two digits. -/
def hexD : List UInt8 := [48, 49, 50, 51, 52, 53, 54, 55, 56, 57, 97, 98, 99, 100, 101, 102]
def hexL (l : List UInt8) : List UInt8 := l.flatMap fun c => [hexD.getD (shr_u8 c 4).toNat 0, hexD.getD (c &&& 15).toNat 0]
theorem hexL_take (l : List UInt8) (k : Nat) (h : k < l.length) : hexL (l.take (k + 1)) = hexL (l.take k) ++ [hexD.getD (shr_u8 (l.getD k 0) 4).toNat 0, hexD.getD (l.getD k 0 &&& 15).toNat 0] := by
  have hg : l.getD k 0 = l[k] := by rw [List.getD_eq_getElem?_getD, List.getElem?_eq_getElem h]; rfl
  rw [hg]
  unfold hexL
  rw [List.take_succ_eq_append_getElem h, List.flatMap_append, List.flatMap_singleton]
theorem hexL_len (l : List UInt8) : (hexL l).length = 2 * l.length := by
  induction l with
  | nil => rfl
  | cons x l ih => simp only [hexL, List.flatMap_cons, List.length_append, List.length_cons, List.length_nil] at *; omega
theorem hi_lt (c : UInt8) : (shr_u8 c 4).toNat < 16 := by
  have := c.toNat_lt
  simp only [shr_u8, UInt8.toNat_ofNat']
  omega
theorem lo_lt (c : UInt8) : (c &&& 15).toNat < 16 := by
  rw [UInt8.toNat_and]
  exact Nat.lt_of_le_of_lt Nat.and_le_right (by decide)
end Go.X
