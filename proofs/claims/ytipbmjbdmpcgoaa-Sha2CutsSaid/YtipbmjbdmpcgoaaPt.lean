/-
  Plain functions of SHA-256: the schedule, a block. No program here.
-/
import Derived.Test.YtipbmjbdmpcgoaaPs
set_option linter.unusedVariables false
namespace Go.X
/-- The next word of a schedule. -/
def next256 (b : List UInt8) (l : List UInt32) (t : Nat) : UInt32 :=
  if t < 16 then (get64N (b.drop (4 * t)) 4).toUInt32
  else l.getD (t - 16) 0 + (rotR32 (l.getD (t - 15) 0) 7 ^^^ rotR32 (l.getD (t - 15) 0) 18 ^^^ shr_u32 (l.getD (t - 15) 0) 3) + l.getD (t - 7) 0 + (rotR32 (l.getD (t - 2) 0) 17 ^^^ rotR32 (l.getD (t - 2) 0) 19 ^^^ shr_u32 (l.getD (t - 2) 0) 10)
/-- The first words of a block's schedule. -/
def sched256 (b : List UInt8) : Nat → List UInt32
  | 0 => []
  | t + 1 => sched256 b t ++ [next256 b (sched256 b t) t]
theorem sched256_len (b : List UInt8) : ∀ t, (sched256 b t).length = t
  | 0 => rfl
  | t + 1 => by simp [sched256, sched256_len b t]
/-- One round. -/
def step256 (v : List UInt32) (k w : UInt32) : List UInt32 :=
  let e := v.getD 4 0
  let a := v.getD 0 0
  let x := v.getD 7 0 + (rotR32 e 6 ^^^ rotR32 e 11 ^^^ rotR32 e 25) + ((e &&& v.getD 5 0) ^^^ (~~~ e &&& v.getD 6 0)) + k + w
  let y := (rotR32 a 2 ^^^ rotR32 a 13 ^^^ rotR32 a 22) + (((a &&& v.getD 1 0) ^^^ (a &&& v.getD 2 0)) ^^^ (v.getD 1 0 &&& v.getD 2 0))
  [x + y, a, v.getD 1 0, v.getD 2 0, v.getD 3 0 + x, e, v.getD 5 0, v.getD 6 0]
def rnd256 (h : List UInt32) (ws : List UInt32) : Nat → List UInt32
  | 0 => h
  | t + 1 => step256 (rnd256 h ws t) (shr_u64 (roundsL.getD t 0) 32).toUInt32 (ws.getD t 0)
/-- A hash value behind a block. -/
def turn256L (h : List UInt32) (b : List UInt8) : List UInt32 := (List.range 8).map fun i => h.getD i 0 + (rnd256 h (sched256 b 64) 64).getD i 0
theorem getD_app {α : Type} (A Z : List α) (i : Nat) (d : α) (h : i < A.length) : (A ++ Z).getD i d = A.getD i d := by
  rw [List.getD_eq_getElem?_getD, List.getD_eq_getElem?_getD, List.getElem?_append_left h]
theorem getD_map_range {α : Type} (n : Nat) (f : Nat → α) (i : Nat) (d : α) (h : i < n) : ((List.range n).map f).getD i d = f i := by
  rw [List.getD_eq_getElem?_getD, List.getElem?_map, List.getElem?_range h]; rfl
/-- What stands in the array of the schedule when t words are laid. -/
def arr256 (b : List UInt8) (t : Nat) : List UInt32 := sched256 b t ++ List.replicate (64 - t) 0
theorem arr256_len (b : List UInt8) (t : Nat) (h : t ≤ 64) : (arr256 b t).length = 64 := by simp [arr256, sched256_len]; omega
theorem arr256_set (b : List UInt8) (t : Nat) (h : t < 64) : (arr256 b t).set t (next256 b (sched256 b t) t) = arr256 b (t + 1) := by
  unfold arr256
  rw [show 64 - t = (64 - (t + 1)) + 1 by omega, set_front (sched256 b t) _ 0 _ (sched256_len b t).symm]
  rfl
theorem arr256_get (b : List UInt8) (t i : Nat) (h : i < t) : (arr256 b t).getD i 0 = (sched256 b t).getD i 0 := getD_app _ _ _ _ (by rw [sched256_len]; exact h)
theorem next256_lo (b : List UInt8) (l : List UInt32) (t : Nat) (h : t < 16) : next256 b l t = (shr_u64 (get64N (b.drop (4 * t)) 8) 32).toUInt32 := by
  unfold next256; rw [if_pos h, get64_top4]
theorem next256_hi (b : List UInt8) (t : Nat) (h : ¬ t < 16) (ht : t ≤ 64) :
    (arr256 b t).getD (t - 16) 0 + (rotR32 ((arr256 b t).getD (t - 15) 0) 7 ^^^ rotR32 ((arr256 b t).getD (t - 15) 0) 18 ^^^ shr_u32 ((arr256 b t).getD (t - 15) 0) 3) + (arr256 b t).getD (t - 7) 0 + (rotR32 ((arr256 b t).getD (t - 2) 0) 17 ^^^ rotR32 ((arr256 b t).getD (t - 2) 0) 19 ^^^ shr_u32 ((arr256 b t).getD (t - 2) 0) 10) = next256 b (sched256 b t) t := by
  unfold next256
  rw [if_neg h, arr256_get b t _ (by omega), arr256_get b t _ (by omega), arr256_get b t _ (by omega), arr256_get b t _ (by omega)]
theorem step256_len (v : List UInt32) (k w : UInt32) : (step256 v k w).length = 8 := rfl
theorem rnd256_len (h : List UInt32) (ws : List UInt32) (hh : h.length = 8) : ∀ t, (rnd256 h ws t).length = 8
  | 0 => hh
  | t + 1 => rfl
def overF (h : List UInt32) (i : Nat) : UInt32 := h.getD i 0 ^^^ (shr_u64 (startL.getD i 0) 32).toUInt32
/-- A hash value over the first one. -/
def overL (h : List UInt32) : List UInt32 := (List.range 8).map (overF h)
theorem overL_len (h : List UInt32) : (overL h).length = 8 := by simp [overL]
end Go.X
