/-
  Plain functions of Keccak: what the laws ask. No program here.
-/
import Derived.Test.YtpcbkeikhojmbaaQb
set_option linter.unusedVariables false
namespace Go.X
theorem k_aw : (sqL (soakK 136 6 ([] : List UInt8)) 136 32).take 3 = [167, 255, 198] := by decide +kernel
theorem shN_no {n : Int} (h : n < 1) : shN n = 0 := by unfold shN; omega
theorem sqL_zero (s : List UInt64) (R : Nat) : sqL s R 0 = [] := rfl
theorem sqL_take (s : List UInt64) (R : Nat) {n m : Nat} (h : n ≤ m) : (sqL s R m).take n = sqL s R n := sqF_take s R 0 h
theorem lim_law (n : Int) : (if (65536 : Int) < (if n < 0 then 0 else n) then (65536 : Int) else (if n < 0 then 0 else n)) = (shN n : Int) := by
  unfold shN
  by_cases h : n < 0
  · rw [if_pos h, if_neg (by decide)]; omega
  · rw [if_neg h]; split <;> omega
theorem rd_lim (n : Int) (h : ¬ 65536 < n) : (rdN n : Int) = (shN n : Int) := by
  unfold rdN shN; split <;> omega
end Go.X
