/-
  Plain laws of the layer flat: the first four of eight bytes read. No program here.
-/
import Derived.Test.YtipbmjbdmpcgoaaPh
set_option linter.unusedVariables false
namespace Go.X
theorem get64_step (l : List UInt8) (k : Nat) (h : (get64N l k).toNat < 256 ^ k) (hk : k < 8) : (get64N l (k + 1)).toNat = (get64N l k).toNat * 256 + (l.getD k 0).toNat := by
  have h7 : 256 ^ k ≤ 256 ^ 7 := Nat.pow_le_pow_right (by decide) (by omega)
  rw [get64N, shl_or _ _ (by omega)]
theorem get64_lt (l : List UInt8) : ∀ (k : Nat), k ≤ 8 → (get64N l k).toNat < 256 ^ k
  | 0, _ => by simp [get64N]
  | k + 1, hk => by
    have ih := get64_lt l k (by omega)
    have hb := (l.getD k 0).toNat_lt
    rw [get64_step l k ih (by omega), Nat.pow_succ]
    omega
theorem get64_top4 (l : List UInt8) : (shr_u64 (get64N l 8) 32).toUInt32 = (get64N l 4).toUInt32 := by
  have h4 := get64_step l 4 (get64_lt l 4 (by omega)) (by omega)
  have h5 := get64_step l 5 (get64_lt l 5 (by omega)) (by omega)
  have h6 := get64_step l 6 (get64_lt l 6 (by omega)) (by omega)
  have h7 := get64_step l 7 (get64_lt l 7 (by omega)) (by omega)
  have b4 := (l.getD 4 0).toNat_lt
  have b5 := (l.getD 5 0).toNat_lt
  have b6 := (l.getD 6 0).toNat_lt
  have b7 := (l.getD 7 0).toNat_lt
  have l4 := get64_lt l 4 (by omega)
  simp only [Nat.reduceAdd] at h4 h5 h6 h7
  apply congrArg UInt64.toUInt32
  apply UInt64.toNat_inj.1
  rw [shr_u64, UInt64.toNat_ofNat', Nat.mod_eq_of_lt]
  · simp only [Nat.reducePow] at l4 ⊢; omega
  · simp only [Nat.reducePow] at l4 ⊢; omega
end Go.X
