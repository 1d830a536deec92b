/-
  A SHA-256 that goes on, as it lies in memory.
-/
import Derived.Test.YtipbmjbdmpcgoaaPw
import Derived.Test.YtipbmjbdmpcgoaaX14
set_option linter.unusedVariables false
namespace Go.X
/-- What a struct of Hash256 holds when a was added. -/
def hseg (a : List UInt8) (s : Value) : Segs := [(0, 8, (overL (blk256 start256L a (a.length / 64))).map fun x => W32 x), (8, 1, [s]), (9, 1, [W64 (UInt64.ofNat a.length)])]
/-- What is kept of it. -/
def restL (a : List UInt8) : List UInt8 := a.drop (64 * (a.length / 64))
theorem restL_len (a : List UInt8) : (restL a).length = a.length - 64 * (a.length / 64) := by simp [restL]
/-- More bytes: where the blocks stand. -/
theorem hs_blk (a x : List UInt8) (j : Nat) (hj : 64 * j ≤ (restL a ++ x).length) (hj2 : (restL a ++ x).length < 64 * (j + 1)) :
    blk256 (blk256 start256L a (a.length / 64)) (restL a ++ x) j = blk256 start256L (a ++ x) ((a ++ x).length / 64) ∧
    (restL a ++ x).drop (64 * j) = restL (a ++ x) := by
  have hd : restL a ++ x = (a ++ x).drop (64 * (a.length / 64)) := (List.drop_append_of_le_length (by omega)).symm
  have hq : a.length / 64 + j = (a ++ x).length / 64 := by simp only [List.length_append, restL_len] at *; omega
  constructor
  · rw [hd, ← hq, ← blk256_app start256L a x (a.length / 64) (by omega), blk256_drop]
  · rw [hd, List.drop_drop, restL, ← hq]; congr 1; omega
theorem hseg_next {a x : List UInt8} {s : Value} {j : Nat} (hj : 64 * j ≤ (restL a ++ x).length) (hj2 : (restL a ++ x).length < 64 * (j + 1)) :
    ([(0, 8, (overL (blk256 (blk256 start256L a (a.length / 64)) (restL a ++ x) j)).map fun x => W32 x), (8, 1, [s]), (9, 1, [W64 (UInt64.ofNat a.length + UInt64.ofNat x.length)])] : Segs) = hseg (a ++ x) s := by
  obtain ⟨h1, h2⟩ := hs_blk a x j hj hj2
  rw [h1, ← UInt64.ofNat_add, ← List.length_append]; rfl
theorem hs_sum (a : List UInt8) {j : Nat} (hj : 64 * j = (pad64L (restL a) (UInt64.ofNat a.length)).length) :
    out256 (blk256 (blk256 start256L a (a.length / 64)) (pad64L (restL a) (UInt64.ofNat a.length)) j) = sha256L a := by
  have hd : (pad64L a (UInt64.ofNat a.length)).drop (64 * (a.length / 64)) = pad64L (restL a) (UInt64.ofNat a.length) := by
    unfold pad64L
    rw [show (restL a).length + 1 = a.length - 64 * (a.length / 64) + 1 by rw [restL_len], List.append_assoc, List.append_assoc, List.append_assoc, List.append_assoc, List.drop_append_of_le_length (by omega)]
    rw [show (a.length - 64 * (a.length / 64) + 1) % 64 = (a.length + 1) % 64 by omega]; rfl
  have hl : (pad64L a (UInt64.ofNat a.length)).length / 64 = a.length / 64 + j := by
    rw [← hd] at hj
    have h3 := pad64_mod a (UInt64.ofNat a.length)
    have h4 := pad64L_len a (UInt64.ofNat a.length)
    simp only [List.length_drop] at hj; omega
  have ha : blk256 start256L a (a.length / 64) = blk256 start256L (pad64L a (UInt64.ofNat a.length)) (a.length / 64) := by
    unfold pad64L
    rw [List.append_assoc, List.append_assoc, blk256_app _ _ _ _ (by omega)]
  rw [ha, ← hd, blk256_drop, sha256L, hl]
theorem hseg_nil : hseg [] nilS = [(0, 8, (List.replicate 8 0).map fun x => W32 x), (8, 1, [nilS]), (9, 1, [W64 0])] := by
  have : overL (blk256 start256L [] 0) = List.replicate 8 0 := by decide +kernel
  simp only [hseg, List.length_nil, Nat.zero_div, this]; rfl
theorem sha256L_len (a : List UInt8) : (sha256L a).length = 32 := by rw [sha256L, out256_len, blk256_len _ _ rfl]
theorem sha512L_len (a : List UInt8) : (sha512L a).length = 64 := by rw [sha512L, out512_len, blk512_len _ _ rfl]
end Go.X
