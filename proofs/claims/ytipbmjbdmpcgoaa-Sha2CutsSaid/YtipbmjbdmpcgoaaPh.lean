/-
  Plain laws of the layer flat, more: rows one behind the other, remainders, turned bits, digits read. No program here.
-/
import Derived.Test.YtipbmjbdmpcgoaaPg
set_option linter.unusedVariables false
namespace Go.X
theorem tmod_bd (k n : Int) (hn : 1 ≤ n) : -n < k.tmod n ∧ k.tmod n < n := by
  have h1 := Int.tmod_lt_of_pos k (show 0 < n by omega)
  have h2 : -n < k.tmod n := by
    have := Int.tmod_lt_of_pos (-k) (show 0 < n by omega)
    rw [Int.neg_tmod] at this; omega
  exact ⟨h2, h1⟩
theorem tmod_em (k n : Int) : (k.tmod n) % n = k % n := by rw [Int.tmod_def, Int.sub_mul_emod_self_left]
theorem tmod_neg {k n : Int} (hn : 1 ≤ n) (h : k.tmod n < 0) : k.tmod n + n = k % n := by
  have hb := tmod_bd k n hn
  have h1 : (k.tmod n + n) % n = k % n := by rw [Int.add_emod_right, tmod_em]
  rw [← h1, Int.emod_eq_of_lt (by omega) (by omega)]
theorem tmod_pos {k n : Int} (hn : 1 ≤ n) (h : ¬ k.tmod n < 0) : k.tmod n = k % n := by
  have hb := tmod_bd k n hn
  have h1 : (k.tmod n) % n = k % n := tmod_em k n
  rw [← h1, Int.emod_eq_of_lt (by omega) (by omega)]

theorem flat_take (ll : List (List UInt8)) (k : Nat) (h : k < ll.length) : (ll.take (k + 1)).flatten = (ll.take k).flatten ++ ll.getD k [] := by
  rw [List.take_succ_eq_append_getElem h, List.flatten_append, List.getD_eq_getElem?_getD, List.getElem?_eq_getElem h]
  simp
theorem flat_le (ll : List (List UInt8)) (k : Nat) : (ll.take k).flatten.length ≤ ll.flatten.length := by
  conv => rhs; rw [← List.take_append_drop k ll, List.flatten_append, List.length_append]
  omega
theorem flat_step (ll : List (List UInt8)) (k : Nat) (h : k < ll.length) : (ll.take (k + 1)).flatten.length = (ll.take k).flatten.length + (ll.getD k []).length := by
  rw [flat_take ll k h, List.length_append]

theorem beN_succ (n : UInt64) (k : Nat) : beN n (k + 1) = (shr_u64 n (8 * k)).toUInt8 :: beN n k := by simp [beN, leN_succ]

theorem get64_app (n : UInt64) (x : List UInt8) : get64N (beN n 8 ++ x) 8 = n := by
  apply UInt64.toNat_inj.1
  have hl := beN_len n 8
  have := get64_toNat (beN n 8 ++ x) n.toNat n.toNat_lt 8 (by omega) (fun i hi => by
    rw [List.getD_eq_getElem?_getD, List.getElem?_append_left (by omega), ← List.getD_eq_getElem?_getD, beN_get n 8 i hi])
  rw [this]; simp
theorem beN_leN (n : UInt64) (k : Nat) (h : k < 8) : (beN n 8).getD k 0 = (leN n 8).getD (7 - k) 0 := by
  apply UInt8.toNat_inj.1
  rw [beN_get n 8 k h, leN_get n 8 _ (by omega)]
theorem beN_shr (n : UInt64) (k : Nat) (h : k < 8) : (beN n 8).getD k 0 = (shr_u64 n (8 * (7 - k))).toUInt8 := by
  apply UInt8.toNat_inj.1
  have hn := n.toNat_lt
  have hd : n.toNat / 2 ^ (8 * (7 - k)) ≤ n.toNat := Nat.div_le_self _ _
  rw [beN_get n 8 k h, UInt64.toNat_toUInt8, shr_u64, UInt64.toNat_ofNat', Nat.mod_eq_of_lt (show n.toNat / 2 ^ (8 * (7 - k)) < 2 ^ 64 by omega)]
theorem shl_shr_toNat (n : UInt64) (m : Nat) : (shl_u64 (shr_u64 n m) m).toNat = n.toNat / 2 ^ m * 2 ^ m := by
  have hn := n.toNat_lt
  have hd : n.toNat / 2 ^ m ≤ n.toNat := Nat.div_le_self _ _
  have hm : n.toNat / 2 ^ m * 2 ^ m ≤ n.toNat := Nat.div_mul_le_self _ _
  rw [shl_u64, shr_u64, UInt64.toNat_ofNat', UInt64.toNat_ofNat', Nat.mod_eq_of_lt (show n.toNat / 2 ^ m < 2 ^ 64 by omega), Nat.mod_eq_of_lt (by omega)]
theorem get64_take (n : UInt64) (k : Nat) (hk : k ≤ 8) : get64N ((beN n 8).take k) 8 = shl_u64 (shr_u64 n (64 - 8 * k)) (64 - 8 * k) := by
  apply UInt64.toNat_inj.1
  have hn := n.toNat_lt
  have hm : n.toNat / 2 ^ (64 - 8 * k) * 2 ^ (64 - 8 * k) ≤ n.toNat := Nat.div_mul_le_self _ _
  have hl := beN_len n 8
  rw [shl_shr_toNat]
  have := get64_toNat ((beN n 8).take k) (n.toNat / 2 ^ (64 - 8 * k) * 2 ^ (64 - 8 * k)) (by omega) 8 (by omega) (fun i hi => by
    by_cases hik : i < k
    · rw [List.getD_eq_getElem?_getD, List.getElem?_take_of_lt hik, ← List.getD_eq_getElem?_getD, beN_get n 8 i hi]
      rw [show 8 * (7 - i) = (64 - 8 * k) + 8 * (k - 1 - i) by omega, Nat.pow_add, ← Nat.div_div_eq_div_mul, ← Nat.div_div_eq_div_mul, Nat.mul_div_cancel _ (Nat.two_pow_pos _)]
    · rw [List.getD_eq_getElem?_getD, List.getElem?_eq_none (by simp; omega)]
      have e : n.toNat / 2 ^ (64 - 8 * k) * 2 ^ (64 - 8 * k) / 2 ^ (8 * (7 - i)) = n.toNat / 2 ^ (64 - 8 * k) * 2 ^ (64 - 8 * k - 8 * (7 - i) - 8) * 256 := by
        have : (2 : Nat) ^ (64 - 8 * k) = 2 ^ (64 - 8 * k - 8 * (7 - i) - 8) * 256 * 2 ^ (8 * (7 - i)) := by
          rw [show (256 : Nat) = 2 ^ 8 from rfl, ← Nat.pow_add, ← Nat.pow_add]; congr 1; omega
        conv => lhs; rw [show n.toNat / 2 ^ (64 - 8 * k) * 2 ^ (64 - 8 * k) = n.toNat / 2 ^ (64 - 8 * k) * (2 ^ (64 - 8 * k - 8 * (7 - i) - 8) * 256 * 2 ^ (8 * (7 - i))) by rw [← this]]
        rw [← Nat.mul_assoc, Nat.mul_div_cancel _ (Nat.two_pow_pos _), Nat.mul_assoc]
      rw [e, Nat.mul_mod_left]; rfl)
  rw [this]; simp
theorem cut_bytes (n : UInt64) (k : Int) (h0 : 0 ≤ k) (h1 : k ≤ 8) : get64N (((beN n 8).take k.toNat).drop 0) 8 = shl_u64 (shr_u64 n (64 - 8 * k).toNat) (64 - 8 * k).toNat := by
  rw [List.drop_zero, get64_take n k.toNat (by omega), show 64 - 8 * k.toNat = (64 - 8 * k).toNat by omega]
theorem shl_shr_all (n : UInt64) (k : Int) (h0 : 8 ≤ k) (h1 : k ≤ 8) : shl_u64 (shr_u64 n (64 - 8 * k).toNat) (64 - 8 * k).toNat = n := by
  obtain rfl : k = 8 := by omega
  apply UInt64.toNat_inj.1
  rw [shl_shr_toNat]; simp

/-- One bit turned. -/
def flipL (l : List UInt8) (bit : Int) : List UInt8 :=
  if l.length = 0 then [] else
    let k := bit % (8 * l.length : Int)
    l.set (k / 8).toNat (l.getD (k / 8).toNat 0 ^^^ shl_u8 1 (k % 8).toNat)
theorem flipL_len (l : List UInt8) (bit : Int) : (flipL l bit).length = l.length := by
  unfold flipL; split <;> simp_all
theorem shl1_ne (j : Nat) (h : j < 8) : shl_u8 1 j ≠ 0 := by
  have : ∀ j : _root_.Fin 8, shl_u8 1 j.val ≠ 0 := by decide
  exact this ⟨j, h⟩
theorem flipL_ne (l : List UInt8) (bit : Int) (h : l.length ≠ 0) : flipL l bit ≠ l := by
  unfold flipL
  rw [if_neg h]
  intro e
  have hpos : (0 : Int) < 8 * l.length := by omega
  have h0 := Int.emod_nonneg bit (show (8 * l.length : Int) ≠ 0 by omega)
  have h1 := Int.emod_lt_of_pos bit hpos
  generalize bit % (8 * l.length : Int) = k at *
  have hk : (k / 8).toNat < l.length := by omega
  have := congrArg (fun m => m.getD (k / 8).toNat 0) e
  simp only [List.getD_eq_getElem?_getD, List.getElem?_set_self hk, List.getElem?_eq_getElem hk, Option.getD_some] at this
  have h2 : l[(k / 8).toNat] ^^^ (l[(k / 8).toNat] ^^^ shl_u8 1 (k % 8).toNat) = l[(k / 8).toNat] ^^^ l[(k / 8).toNat] := by rw [this]
  rw [← UInt8.xor_assoc, UInt8.xor_self, UInt8.zero_xor] at h2
  exact shl1_ne _ (by omega) h2

theorem getD_mem {p : Int → Prop} {l : List Int} (h : ∀ x ∈ l, p x) {k : Nat} (hk : k < l.length) : p (l.getD k 0) := by
  rw [List.getD_eq_getElem?_getD, List.getElem?_eq_getElem hk]; exact h _ (List.getElem_mem hk)
/-- The sum of the first k. -/
theorem sum_take (l : List Int) (k : Nat) (h : k < l.length) : (l.take (k + 1)).sum = (l.take k).sum + l.getD k 0 := by
  rw [List.take_succ_eq_append_getElem h, List.sum_append, List.getD_eq_getElem?_getD, List.getElem?_eq_getElem h]
  simp
end Go.X
