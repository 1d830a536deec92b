/-
  Plain functions of Keccak: what the laws ask. No program here.
-/
import Derived.Test.YtpcbkeikhojmbaaQb
set_option linter.unusedVariables false
namespace Go.X
theorem k_aw : (sqL (soakK 136 6 ([] : List UInt8)) 136 32).take 3 = [167, 255, 198] := by decide +kernel
theorem shN_no {n : Int} (h : n < 1) : shN n = 0 := by unfold shN; omega
theorem sqL_zero (s : List UInt64) (R : Nat) : sqL s R 0 = [] := rfl
theorem sqL_take (s : List UInt64) (R : Nat) {n m : Nat} (h : n ≤ m) : (sqL s R m).take n = sqL s R n := sqF_take s R 0 h
end Go.X
