/-
  Plain functions of Keccak: what the laws ask. No program here.
-/
import Derived.Test.YtpcbkeikhojmbaaQb
set_option linter.unusedVariables false
namespace Go.X
theorem k_aw : (sqL (soakK 136 6 ([] : List UInt8)) 136 32).take 3 = [167, 255, 198] := by decide +kernel
theorem shN_no {n : Int} (h : n < 1) : shN n = 0 := by unfold shN; omega
theorem sqL_zero (s : List UInt64) (R : Nat) : sqL s R 0 = [] := rfl
theorem sqL_take (s : List UInt64) (R : Nat) {n m : Nat} (h : n ≤ m) : (sqL s R m).take n = sqL s R n := sqF_take s R 0 h
theorem lim_law (n : Int) : (if (65536 : Int) < (if n < 0 then 0 else n) then (65536 : Int) else (if n < 0 then 0 else n)) = (shN n : Int) := by
  unfold shN
  by_cases h : n < 0
  · rw [if_pos h, if_neg (by decide)]; omega
  · rw [if_neg h]; split <;> omega
theorem rd_lim (n : Int) (h : ¬ 65536 < n) : (rdN n : Int) = (shN n : Int) := by
  unfold rdN shN; split <;> omega
theorem cut2_law {l : List UInt8} {p N : Nat} (h : p ≤ l.length) (hN : N = l.length) : ([List.drop 0 (List.take (p : Int).toNat l), List.drop (p : Int).toNat (List.take N l)] : List (List UInt8)).flatten = l := by
  subst hN
  rw [Int.toNat_natCast, List.take_length, List.drop_zero]; simp
theorem cut3_law {l : List UInt8} {p N : Nat} (h : p ≤ l.length) (hN : N = l.length) : ([List.drop 0 (List.take (p : Int).toNat l), [], List.drop (p : Int).toNat (List.take N l)] : List (List UInt8)).flatten = l := by
  subst hN
  rw [Int.toNat_natCast, List.take_length, List.drop_zero]; simp
end Go.X
