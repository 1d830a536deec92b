/-
  Plain functions of SHA-2: the last bytes filled up. No program here.
-/
import Derived.Test.YtipbmjbdmpcgoaaPu
set_option linter.unusedVariables false
namespace Go.X
def pad64L (l : List UInt8) (n : UInt64) : List UInt8 := l ++ [128] ++ List.replicate ((120 - (l.length + 1) % 64) % 64) 0 ++ beN (8 * n) 8
def pad128L (l : List UInt8) (n : UInt64) : List UInt8 := l ++ [128] ++ List.replicate ((240 - (l.length + 1) % 128) % 128) 0 ++ List.replicate 8 0 ++ beN (8 * n) 8
theorem pad64L_len (l : List UInt8) (n : UInt64) : (pad64L l n).length = (l.length + 9) + (120 - (l.length + 1) % 64) % 64 := by simp [pad64L, beN_len]; omega
theorem pad128L_len (l : List UInt8) (n : UInt64) : (pad128L l n).length = (l.length + 17) + (240 - (l.length + 1) % 128) % 128 := by simp [pad128L, beN_len]; omega
theorem pad64_law (l : List UInt8) (n : UInt64) :
    l ++ [128] ++ List.replicate ((2 * 64 - 64 / 8 - ((l ++ [128]).length : Int) % 64) % 64).toNat 0 ++ List.replicate ((64 : Int) / 8 - 8).toNat 0 ++ beN (8 * n) 8 = pad64L l n := by
  unfold pad64L
  rw [show ((2 * 64 - 64 / 8 - ((l ++ [128] : List UInt8).length : Int) % 64) % 64).toNat = (120 - (l.length + 1) % 64) % 64 by simp; omega, show ((64 : Int) / 8 - 8).toNat = 0 by decide, List.replicate_zero, List.append_nil]
theorem pad128_law (l : List UInt8) (n : UInt64) :
    l ++ [128] ++ List.replicate ((2 * 128 - 128 / 8 - ((l ++ [128]).length : Int) % 128) % 128).toNat 0 ++ List.replicate ((128 : Int) / 8 - 8).toNat 0 ++ beN (8 * n) 8 = pad128L l n := by
  unfold pad128L
  rw [show ((2 * 128 - 128 / 8 - ((l ++ [128] : List UInt8).length : Int) % 128) % 128).toNat = (240 - (l.length + 1) % 128) % 128 by simp; omega, show ((128 : Int) / 8 - 8).toNat = 8 by decide]
def blk256 (h : List UInt32) (m : List UInt8) : Nat → List UInt32
  | 0 => h
  | i + 1 => turn256L (blk256 h m i) (m.drop (64 * i))
def blk512 (h : List UInt64) (m : List UInt8) : Nat → List UInt64
  | 0 => h
  | i + 1 => turn512L (blk512 h m i) (m.drop (128 * i))
theorem blk256_len (h : List UInt32) (m : List UInt8) (hh : h.length = 8) : ∀ i, (blk256 h m i).length = 8
  | 0 => hh
  | i + 1 => turn256L_len _ _
theorem blk512_len (h : List UInt64) (m : List UInt8) (hh : h.length = 8) : ∀ i, (blk512 h m i).length = 8
  | 0 => hh
  | i + 1 => turn512L_len _ _
def out512 (h : List UInt64) : List UInt8 := h.flatMap fun x => beN x 8
def out256 (h : List UInt32) : List UInt8 := h.flatMap fun x => beN x.toUInt64 4
theorem flatMap_take {α : Type} (f : α → List UInt8) (l : List α) (k : Nat) (d : α) (h : k < l.length) : (l.take (k + 1)).flatMap f = (l.take k).flatMap f ++ f (l.getD k d) := by
  rw [List.take_succ_eq_append_getElem h, List.flatMap_append, List.flatMap_singleton, List.getD_eq_getElem?_getD, List.getElem?_eq_getElem h]; rfl
theorem out512_len (h : List UInt64) : (out512 h).length = 8 * h.length := by
  induction h with
  | nil => rfl
  | cons x l ih => simp only [out512, List.flatMap_cons, List.length_append, beN_len, List.length_cons] at *; omega
theorem out256_len (h : List UInt32) : (out256 h).length = 4 * h.length := by
  induction h with
  | nil => rfl
  | cons x l ih => simp only [out256, List.flatMap_cons, List.length_append, beN_len, List.length_cons] at *; omega
/-- SHA-512. -/
def sha512L (l : List UInt8) : List UInt8 := out512 (blk512 startL (pad128L l (UInt64.ofNat l.length)) ((pad128L l (UInt64.ofNat l.length)).length / 128))
def start256L : List UInt32 := startL.map fun x => (shr_u64 x 32).toUInt32
/-- SHA-256. -/
def sha256L (l : List UInt8) : List UInt8 := out256 (blk256 start256L (pad64L l (UInt64.ofNat l.length)) ((pad64L l (UInt64.ofNat l.length)).length / 64))
theorem pad128_mod (l : List UInt8) (n : UInt64) : (pad128L l n).length % 128 = 0 := by rw [pad128L_len]; omega
theorem pad64_mod (l : List UInt8) (n : UInt64) : (pad64L l n).length % 64 = 0 := by rw [pad64L_len]; omega
theorem get64_congr {l m : List UInt8} : ∀ (k : Nat), (∀ i, i < k → l.getD i 0 = m.getD i 0) → get64N l k = get64N m k
  | 0, _ => rfl
  | k + 1, h => by rw [get64N, get64N, get64_congr k (fun i hi => h i (by omega)), h k (by omega)]
theorem get64_cut (p : List UInt8) (a k : Nat) : get64N ((p.take (a + k)).drop a) k = get64N (p.drop a) k := by
  refine get64_congr k fun i hi => ?_
  rw [getD_drop, getD_drop, List.getD_eq_getElem?_getD, List.getD_eq_getElem?_getD, List.getElem?_take_of_lt (by omega)]
theorem next256_lo' (b : List UInt8) (l : List UInt32) (t : Nat) (h : t < 16) : next256 b l t = (get64N (b.drop (4 * t)) 4).toUInt32 := by
  unfold next256; rw [if_pos h]
theorem rpad128_law (l : List UInt8) (n : UInt64) {k : Nat} (h : k = (240 - (l.length + 1) % 128) % 128) : l ++ [128] ++ List.replicate k 0 ++ List.replicate (Int.toNat 8) 0 ++ beN (n * 8) 8 = pad128L l n := by
  subst h; unfold pad128L; rw [UInt64.mul_comm n 8]; rfl
theorem rpad64_law (l : List UInt8) (n : UInt64) {k : Nat} (h : k = (120 - (l.length + 1) % 64) % 64) : l ++ [128] ++ List.replicate k 0 ++ beN (n * 8) 8 = pad64L l n := by
  subst h; unfold pad64L; rw [UInt64.mul_comm n 8]
end Go.X
