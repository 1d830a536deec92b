/-
  Plain functions of SHA-512: the schedule, a block. No program here.
-/
import Derived.Test.YtipbmjbdmpcgoaaPt
set_option linter.unusedVariables false
namespace Go.X
/-- The next word of a schedule. -/
def next512 (b : List UInt8) (l : List UInt64) (t : Nat) : UInt64 :=
  if t < 16 then get64N (b.drop (8 * t)) 8
  else l.getD (t - 16) 0 + (rotR64 (l.getD (t - 15) 0) 1 ^^^ rotR64 (l.getD (t - 15) 0) 8 ^^^ shr_u64 (l.getD (t - 15) 0) 7) + l.getD (t - 7) 0 + (rotR64 (l.getD (t - 2) 0) 19 ^^^ rotR64 (l.getD (t - 2) 0) 61 ^^^ shr_u64 (l.getD (t - 2) 0) 6)
def sched512 (b : List UInt8) : Nat → List UInt64
  | 0 => []
  | t + 1 => sched512 b t ++ [next512 b (sched512 b t) t]
theorem sched512_len (b : List UInt8) : ∀ t, (sched512 b t).length = t
  | 0 => rfl
  | t + 1 => by simp [sched512, sched512_len b t]
/-- One round. -/
def step512 (v : List UInt64) (k w : UInt64) : List UInt64 :=
  let e := v.getD 4 0
  let a := v.getD 0 0
  let x := v.getD 7 0 + (rotR64 e 14 ^^^ rotR64 e 18 ^^^ rotR64 e 41) + ((e &&& v.getD 5 0) ^^^ (~~~ e &&& v.getD 6 0)) + k + w
  let y := (rotR64 a 28 ^^^ rotR64 a 34 ^^^ rotR64 a 39) + (((a &&& v.getD 1 0) ^^^ (a &&& v.getD 2 0)) ^^^ (v.getD 1 0 &&& v.getD 2 0))
  [x + y, a, v.getD 1 0, v.getD 2 0, v.getD 3 0 + x, e, v.getD 5 0, v.getD 6 0]
def rnd512 (h : List UInt64) (ws : List UInt64) : Nat → List UInt64
  | 0 => h
  | t + 1 => step512 (rnd512 h ws t) (roundsL.getD t 0) (ws.getD t 0)
/-- A hash value behind a block. -/
def turn512L (h : List UInt64) (b : List UInt8) : List UInt64 := (List.range 8).map fun i => h.getD i 0 + (rnd512 h (sched512 b 80) 80).getD i 0
def arr512 (b : List UInt8) (t : Nat) : List UInt64 := sched512 b t ++ List.replicate (80 - t) 0
theorem arr512_len (b : List UInt8) (t : Nat) (h : t ≤ 80) : (arr512 b t).length = 80 := by simp [arr512, sched512_len]; omega
theorem arr512_set (b : List UInt8) (t : Nat) (h : t < 80) : (arr512 b t).set t (next512 b (sched512 b t) t) = arr512 b (t + 1) := by
  unfold arr512
  rw [show 80 - t = (80 - (t + 1)) + 1 by omega, set_front (sched512 b t) _ 0 _ (sched512_len b t).symm]
  rfl
theorem arr512_get (b : List UInt8) (t i : Nat) (h : i < t) : (arr512 b t).getD i 0 = (sched512 b t).getD i 0 := getD_app _ _ _ _ (by rw [sched512_len]; exact h)
theorem next512_lo (b : List UInt8) (l : List UInt64) (t : Nat) (h : t < 16) : next512 b l t = get64N (b.drop (8 * t)) 8 := by
  unfold next512; rw [if_pos h]
theorem next512_hi (b : List UInt8) (t : Nat) (h : ¬ t < 16) (ht : t ≤ 80) :
    (arr512 b t).getD (t - 16) 0 + (rotR64 ((arr512 b t).getD (t - 15) 0) 1 ^^^ rotR64 ((arr512 b t).getD (t - 15) 0) 8 ^^^ shr_u64 ((arr512 b t).getD (t - 15) 0) 7) + (arr512 b t).getD (t - 7) 0 + (rotR64 ((arr512 b t).getD (t - 2) 0) 19 ^^^ rotR64 ((arr512 b t).getD (t - 2) 0) 61 ^^^ shr_u64 ((arr512 b t).getD (t - 2) 0) 6) = next512 b (sched512 b t) t := by
  unfold next512
  rw [if_neg h, arr512_get b t _ (by omega), arr512_get b t _ (by omega), arr512_get b t _ (by omega), arr512_get b t _ (by omega)]
theorem rnd512_len (h : List UInt64) (ws : List UInt64) (hh : h.length = 8) : ∀ t, (rnd512 h ws t).length = 8
  | 0 => hh
  | t + 1 => rfl
theorem turn256L_len (h : List UInt32) (b : List UInt8) : (turn256L h b).length = 8 := by simp [turn256L]
theorem turn512L_len (h : List UInt64) (b : List UInt8) : (turn512L h b).length = 8 := by simp [turn512L]
end Go.X
