/-
  Plain laws of SHA-256 that goes on: what a block looks at; over and back. No program here.
-/
import Derived.Test.YtipbmjbdmpcgoaaPv
set_option linter.unusedVariables false
namespace Go.X
theorem next256_congr {b b' : List UInt8} (h : ∀ i, i < 64 → b.getD i 0 = b'.getD i 0) (l : List UInt32) (t : Nat) : next256 b l t = next256 b' l t := by
  unfold next256
  by_cases ht : t < 16
  · rw [if_pos ht, if_pos ht, get64_congr (l := b.drop (4 * t)) (m := b'.drop (4 * t)) 4 (fun i hi => by rw [getD_drop, getD_drop]; exact h _ (by omega))]
  · rw [if_neg ht, if_neg ht]
theorem sched256_congr {b b' : List UInt8} (h : ∀ i, i < 64 → b.getD i 0 = b'.getD i 0) : ∀ t, sched256 b t = sched256 b' t
  | 0 => rfl
  | t + 1 => by rw [sched256, sched256, sched256_congr h t, next256_congr h]
theorem turn256L_congr {b b' : List UInt8} (h : ∀ i, i < 64 → b.getD i 0 = b'.getD i 0) (v : List UInt32) : turn256L v b = turn256L v b' := by
  unfold turn256L; rw [sched256_congr h]
theorem blk256_congr (v : List UInt32) {m m' : List UInt8} : ∀ k, (∀ i, i < 64 * k → m.getD i 0 = m'.getD i 0) → blk256 v m k = blk256 v m' k
  | 0, _ => rfl
  | k + 1, h => by
    rw [blk256, blk256, blk256_congr v k (fun i hi => h i (by omega)), turn256L_congr (b := m.drop (64 * k)) (b' := m'.drop (64 * k)) (fun i hi => by rw [getD_drop, getD_drop]; exact h _ (by omega))]
theorem blk256_app (v : List UInt32) (a x : List UInt8) (k : Nat) (h : 64 * k ≤ a.length) : blk256 v (a ++ x) k = blk256 v a k :=
  blk256_congr v k fun i hi => getD_app a x i 0 (by omega)
/-- Blocks of what stands behind the first j blocks. -/
theorem blk256_drop (v : List UInt32) (m : List UInt8) (j : Nat) : ∀ k, blk256 (blk256 v m j) (m.drop (64 * j)) k = blk256 v m (j + k)
  | 0 => rfl
  | k + 1 => by rw [blk256, blk256_drop v m j k, List.drop_drop, ← Nat.add_assoc, blk256, show 64 * j + 64 * k = 64 * (j + k) by omega]
theorem xor_back (x c : UInt32) : (x ^^^ c) ^^^ c = x := by
  apply UInt32.toNat_inj.1
  rw [UInt32.toNat_xor, UInt32.toNat_xor, Nat.xor_assoc, Nat.xor_self, Nat.xor_zero]
theorem over_over {h : List UInt32} (hh : h.length = 8) : overL (overL h) = h := by
  apply List.ext_getElem
  · simp [overL, hh]
  · intro i h1 h2
    have hi : i < 8 := by simpa [overL] using h1
    have e : (overL h).getD i 0 = overF h i := getD_map_range 8 (overF h) i 0 hi
    have e2 : h.getD i 0 = h[i] := by rw [List.getD_eq_getElem?_getD, List.getElem?_eq_getElem h2]; rfl
    refine (show (overL (overL h))[i] = overF (overL h) i by simp [overL]).trans ?_
    unfold overF
    rw [e]
    unfold overF
    rw [xor_back, e2]
end Go.X
