import Derived.Test.YtpkpicnldpbomaaPB
import Derived.Test.YtpkpicnldpbomaaPA
import Derived.Test.YtpkpicnldpbomaaXB
/-
  Plain functions of AES and their laws: products of the field, the box, the keys of rounds, a block, streams. No program here.
-/
set_option linter.unusedVariables false
set_option maxRecDepth 100000
namespace Go.X
def powT : List UInt8 := [1, 3, 5, 15, 17, 51, 85, 255, 26, 46, 114, 150, 161, 248, 19, 53, 95, 225, 56, 72, 216, 115, 149, 164, 247, 2, 6, 10, 30, 34, 102, 170, 229, 52, 92, 228, 55, 89, 235, 38, 106, 190, 217, 112, 144, 171, 230, 49, 83, 245, 4, 12, 20, 60, 68, 204, 79, 209, 104, 184, 211, 110, 178, 205, 76, 212, 103, 169, 224, 59, 77, 215, 98, 166, 241, 8, 24, 40, 120, 136, 131, 158, 185, 208, 107, 189, 220, 127, 129, 152, 179, 206, 73, 219, 118, 154, 181, 196, 87, 249, 16, 48, 80, 240, 11, 29, 39, 105, 187, 214, 97, 163, 254, 25, 43, 125, 135, 146, 173, 236, 47, 113, 147, 174, 233, 32, 96, 160, 251, 22, 58, 78, 210, 109, 183, 194, 93, 231, 50, 86, 250, 21, 63, 65, 195, 94, 226, 61, 71, 201, 64, 192, 91, 237, 44, 116, 156, 191, 218, 117, 159, 186, 213, 100, 172, 239, 42, 126, 130, 157, 188, 223, 122, 142, 137, 128, 155, 182, 193, 88, 232, 35, 101, 175, 234, 37, 111, 177, 200, 67, 197, 84, 252, 31, 33, 99, 165, 244, 7, 9, 27, 45, 119, 153, 176, 203, 70, 202, 69, 207, 74, 222, 121, 139, 134, 145, 168, 227, 62, 66, 198, 81, 243, 14, 18, 54, 90, 238, 41, 123, 141, 140, 143, 138, 133, 148, 167, 242, 13, 23, 57, 75, 221, 124, 132, 151, 162, 253, 28, 36, 108, 180, 199, 82, 246]
def atT : List Nat := [0, 0, 25, 1, 50, 2, 26, 198, 75, 199, 27, 104, 51, 238, 223, 3, 100, 4, 224, 14, 52, 141, 129, 239, 76, 113, 8, 200, 248, 105, 28, 193, 125, 194, 29, 181, 249, 185, 39, 106, 77, 228, 166, 114, 154, 201, 9, 120, 101, 47, 138, 5, 33, 15, 225, 36, 18, 240, 130, 69, 53, 147, 218, 142, 150, 143, 219, 189, 54, 208, 206, 148, 19, 92, 210, 241, 64, 70, 131, 56, 102, 221, 253, 48, 191, 6, 139, 98, 179, 37, 226, 152, 34, 136, 145, 16, 126, 110, 72, 195, 163, 182, 30, 66, 58, 107, 40, 84, 250, 133, 61, 186, 43, 121, 10, 21, 155, 159, 94, 202, 78, 212, 172, 229, 243, 115, 167, 87, 175, 88, 168, 80, 244, 234, 214, 116, 79, 174, 233, 213, 231, 230, 173, 232, 44, 215, 117, 122, 235, 22, 11, 245, 89, 203, 95, 176, 156, 169, 81, 160, 127, 12, 246, 111, 23, 196, 73, 236, 216, 67, 31, 45, 164, 118, 123, 183, 204, 187, 62, 90, 251, 96, 177, 134, 59, 82, 161, 108, 170, 85, 41, 157, 151, 178, 135, 144, 97, 190, 220, 252, 188, 149, 207, 205, 55, 63, 91, 209, 83, 57, 132, 60, 65, 162, 109, 71, 20, 42, 158, 93, 86, 242, 211, 171, 68, 17, 146, 217, 35, 32, 46, 137, 180, 124, 184, 38, 119, 153, 227, 165, 103, 74, 237, 222, 197, 49, 254, 24, 13, 99, 140, 128, 192, 247, 112, 7]
def boxT : List UInt8 := [99, 124, 119, 123, 242, 107, 111, 197, 48, 1, 103, 43, 254, 215, 171, 118, 202, 130, 201, 125, 250, 89, 71, 240, 173, 212, 162, 175, 156, 164, 114, 192, 183, 253, 147, 38, 54, 63, 247, 204, 52, 165, 229, 241, 113, 216, 49, 21, 4, 199, 35, 195, 24, 150, 5, 154, 7, 18, 128, 226, 235, 39, 178, 117, 9, 131, 44, 26, 27, 110, 90, 160, 82, 59, 214, 179, 41, 227, 47, 132, 83, 209, 0, 237, 32, 252, 177, 91, 106, 203, 190, 57, 74, 76, 88, 207, 208, 239, 170, 251, 67, 77, 51, 133, 69, 249, 2, 127, 80, 60, 159, 168, 81, 163, 64, 143, 146, 157, 56, 245, 188, 182, 218, 33, 16, 255, 243, 210, 205, 12, 19, 236, 95, 151, 68, 23, 196, 167, 126, 61, 100, 93, 25, 115, 96, 129, 79, 220, 34, 42, 144, 136, 70, 238, 184, 20, 222, 94, 11, 219, 224, 50, 58, 10, 73, 6, 36, 92, 194, 211, 172, 98, 145, 149, 228, 121, 231, 200, 55, 109, 141, 213, 78, 169, 108, 86, 244, 234, 101, 122, 174, 8, 186, 120, 37, 46, 28, 166, 180, 198, 232, 221, 116, 31, 75, 189, 139, 138, 112, 62, 181, 102, 72, 3, 246, 14, 97, 53, 87, 185, 134, 193, 29, 158, 225, 248, 152, 17, 105, 217, 142, 148, 155, 30, 135, 233, 206, 85, 40, 223, 140, 161, 137, 13, 191, 230, 66, 104, 65, 153, 45, 15, 176, 84, 187, 22]

/-- Twice a byte, in the field. -/
def tw (b : UInt8) : UInt8 := shl_u8 b 1 ^^^ shr_u8 b 7 * 27
def gmF : Nat → UInt8 → UInt8 → UInt8 → UInt8
  | 0, _, _, r => r
  | k + 1, a, b, r => gmF k (tw a) (shr_u8 b 1) (r ^^^ a * (b &&& 1))
/-- A product of the field, put over r. -/
def gm (a b r : UInt8) : UInt8 := gmF 8 a b r
theorem shr1_toNat (b : UInt8) : (shr_u8 b 1).toNat = b.toNat / 2 := by
  unfold shr_u8
  rw [UInt8.toNat_ofNat']
  have := b.toNat_lt
  rw [Nat.mod_eq_of_lt (by simp; omega)]
theorem u8_mul_zero (a : UInt8) : a * 0 = 0 := by simp
theorem u8_xor_zero (a : UInt8) : a ^^^ 0 = a := by simp
theorem gmF_zero : ∀ (k : Nat) (a r : UInt8), gmF k a 0 r = r
  | 0, _, _ => rfl
  | k + 1, a, r => by
    rw [gmF, show shr_u8 0 1 = 0 from rfl, gmF_zero k, show (0 : UInt8) &&& 1 = 0 from rfl, u8_mul_zero, u8_xor_zero]
theorem gmF_more : ∀ (k : Nat) (a b r : UInt8), b.toNat < 2 ^ k → gmF (k + 1) a b r = gmF k a b r
  | 0, a, b, r, h => by
    have : b = 0 := by apply UInt8.toNat_inj.1; simpa using h
    subst this; rw [gmF_zero, gmF_zero]
  | k + 1, a, b, r, h => by
    rw [gmF, gmF_more k _ _ _ (by rw [shr1_toNat]; rw [Nat.pow_succ] at h; omega)]; rfl
theorem gm_zero (a r : UInt8) : gm a 0 r = r := gmF_zero 8 a r
theorem gm_step (a b r : UInt8) : gm (tw a) (shr_u8 b 1) (r ^^^ a * (b &&& 1)) = gm a b r := by
  unfold gm
  rw [gmF_more 7 _ _ _ (by rw [shr1_toNat]; have := b.toNat_lt; omega)]; rfl
theorem all8 {p : UInt8 → Prop} [DecidablePred p] (h : ∀ i : _root_.Fin 256, p (UInt8.ofNat i.1)) (x : UInt8) : p x := by
  have := h ⟨x.toNat, x.toNat_lt⟩
  rwa [show UInt8.ofNat x.toNat = x from UInt8.ofNat_toNat] at this
theorem bit1 : ∀ (b : UInt8), b &&& 1 = 0 ∨ b &&& 1 = 1 := all8 (by decide +kernel)
theorem gm_bit1 {a b r : UInt8} (h : b &&& 1 = 1) : r ^^^ a = r ^^^ a * (b &&& 1) := by rw [h]; simp
theorem gm_bit0 {a b r : UInt8} (h : b &&& 1 ≠ 1) : r = r ^^^ a * (b &&& 1) := by
  rcases bit1 b with h0 | h0
  · rw [h0]; simp
  · exact absurd h0 h
theorem tw_high : ∀ (a : UInt8), tw a = if shr_u8 a 7 = 1 then shl_u8 a 1 ^^^ 27 else shl_u8 a 1 := all8 (by decide +kernel)
theorem gm_2 : ∀ (a : UInt8), gm a 2 0 = tw a := all8 (by decide +kernel)
theorem gm_3 : ∀ (a : UInt8), gm a 3 0 = tw a ^^^ a := all8 (by decide +kernel)
def bt (b : UInt8) (i : Nat) : UInt8 := b &&& UInt8.ofNat (2 ^ i)
theorem bt_repr : ∀ (b : UInt8), b = bt b 0 ^^^ bt b 1 ^^^ bt b 2 ^^^ bt b 3 ^^^ bt b 4 ^^^ bt b 5 ^^^ bt b 6 ^^^ bt b 7 := all8 (by decide +kernel)
theorem bt_or : ∀ (i : _root_.Fin 8) (b : _root_.Fin 256), bt (UInt8.ofNat b.1) i.1 = 0 ∨ bt (UInt8.ofNat b.1) i.1 = UInt8.ofNat (2 ^ i.1) := by decide +kernel
theorem tw_bit : ∀ (i : _root_.Fin 8) (a : _root_.Fin 256), tw (UInt8.ofNat a.1 ^^^ UInt8.ofNat (2 ^ i.1)) = tw (UInt8.ofNat a.1) ^^^ tw (UInt8.ofNat (2 ^ i.1)) := by decide +kernel
theorem tw_step (a b : UInt8) (i : Nat) (hi : i < 8) : tw (a ^^^ bt b i) = tw a ^^^ tw (bt b i) := by
  have h1 := bt_or ⟨i, hi⟩ ⟨b.toNat, b.toNat_lt⟩
  have h2 := tw_bit ⟨i, hi⟩ ⟨a.toNat, a.toNat_lt⟩
  simp only [UInt8.ofNat_toNat] at h1 h2
  rcases h1 with h | h
  · rw [h, u8_xor_zero, show tw 0 = 0 from rfl, u8_xor_zero]
  · rw [h]; exact h2
theorem tw_xor (a b : UInt8) : tw (a ^^^ b) = tw a ^^^ tw b := by
  have key : ∀ x : UInt8, tw (x ^^^ b) = tw x ^^^ tw (bt b 0) ^^^ tw (bt b 1) ^^^ tw (bt b 2) ^^^ tw (bt b 3) ^^^ tw (bt b 4) ^^^ tw (bt b 5) ^^^ tw (bt b 6) ^^^ tw (bt b 7) := fun x => by
    have e : x ^^^ b = x ^^^ bt b 0 ^^^ bt b 1 ^^^ bt b 2 ^^^ bt b 3 ^^^ bt b 4 ^^^ bt b 5 ^^^ bt b 6 ^^^ bt b 7 := by
      conv => lhs; rw [bt_repr b]
      simp only [UInt8.xor_assoc]
    rw [e, tw_step _ b 7 (by decide), tw_step _ b 6 (by decide), tw_step _ b 5 (by decide), tw_step _ b 4 (by decide), tw_step _ b 3 (by decide), tw_step _ b 2 (by decide), tw_step _ b 1 (by decide), tw_step _ b 0 (by decide)]
  have h0 := key 0
  rw [UInt8.zero_xor, show tw 0 = 0 from rfl, UInt8.zero_xor] at h0
  rw [key a, h0]
  simp only [UInt8.xor_assoc]
/-- The inverse, by its power. -/
def invP (b : UInt8) : Nat → UInt8
  | 0 => 1
  | k + 1 => if k < 7 then gm (gm (invP b k) (invP b k) 0) b 0 else gm (invP b k) (invP b k) 0
def rot8 (x : UInt8) (m : Nat) : UInt8 := shl_u8 x m ||| shr_u8 x (8 - m)
def rotX (x : UInt8) : Nat → UInt8
  | 0 => x
  | k + 1 => rotX x k ^^^ rot8 x (k + 1)
def boxP (b : UInt8) : UInt8 := rotX (invP b 8) 4 ^^^ 99
theorem boxP_tab : ∀ (b : UInt8), boxP b = boxT.getD b.toNat 0 := all8 (by decide +kernel)
/-- The document's: of each number its inverse by powers of 3. -/
def invT (i : Nat) : UInt8 := if i = 0 then 0 else powT.getD ((255 - atT.getD i 0) % 255) 0
def rotR (x : UInt8) : Nat → UInt8
  | 0 => 99
  | k + 1 => rotR x k ^^^ (shl_u8 x k ||| shr_u8 x (8 - k))
theorem refbox_tab : ∀ i : _root_.Fin 256, rotR (invT i.1) 5 = boxT.getD i.1 0 := by decide +kernel
theorem pow_next : ∀ i : _root_.Fin 254, gm (powT.getD i.1 0) 3 0 = powT.getD (i.1 + 1) 0 := by decide +kernel
theorem pow_last : gm (powT.getD 254 0) 3 0 = 1 := by decide +kernel
theorem at_pow : ∀ i : _root_.Fin 255, atT.getD (powT.getD i.1 0).toNat 0 = i.1 ∧ powT.getD i.1 0 ≠ 0 := by decide +kernel
theorem at_inj : ∀ i : _root_.Fin 256, 0 < i.1 → (powT.getD (atT.getD i.1 0) 0).toNat = i.1 ∧ atT.getD i.1 0 < 255 := by decide +kernel
theorem boxT_len : boxT.length = 256 := rfl
theorem powT_len : powT.length = 255 := rfl
theorem atT_len : atT.length = 256 := rfl
def S8 (x : UInt8) : UInt8 := boxT.getD x.toNat 0
/-- The number of a round's key. -/
def rc : Nat → UInt8
  | 0 => 1
  | n + 1 => tw (rc n)
/-- The next word of the keys of rounds: behind i words, l. -/
def kword (l : List UInt8) (i : Nat) : List UInt8 :=
  let t := l.drop (4 * i - 4)
  let u := if i % 8 = 0 then [S8 (t.getD 1 0) ^^^ rc ((i - 1) / 8), S8 (t.getD 2 0), S8 (t.getD 3 0), S8 (t.getD 0 0)]
    else if i % 8 = 4 then [S8 (t.getD 0 0), S8 (t.getD 1 0), S8 (t.getD 2 0), S8 (t.getD 3 0)]
    else [t.getD 0 0, t.getD 1 0, t.getD 2 0, t.getD 3 0]
  (List.range 4).map fun k => l.getD (4 * i - 32 + k) 0 ^^^ u.getD k 0
/-- The keys of rounds: n words behind the key's eight. -/
def kx (key : List UInt8) : Nat → List UInt8
  | 0 => key
  | n + 1 => kx key n ++ kword (kx key n) (n + 8)
theorem kword_len (l : List UInt8) (i : Nat) : (kword l i).length = 4 := by simp [kword]
theorem kx_len (key : List UInt8) (h : key.length = 32) : ∀ n, (kx key n).length = 4 * (n + 8)
  | 0 => by rw [kx, h]
  | n + 1 => by rw [kx, List.length_append, kx_len key h n, kword_len]; omega
theorem u8_one {a : UInt8} (h : (a.toNat : Int) = 1) : a = 1 := by apply UInt8.toNat_inj.1; show a.toNat = 1; omega
theorem u8_one_ne {a : UInt8} (h : ¬ (a.toNat : Int) = 1) : a ≠ 1 := by intro e; subst e; exact h rfl
theorem tw_pos {a : UInt8} (h : shr_u8 a 7 = 1) : shl_u8 a 1 ^^^ 27 = tw a := by rw [tw_high, if_pos h]
theorem tw_neg {a : UInt8} (h : shr_u8 a 7 ≠ 1) : shl_u8 a 1 = tw a := by rw [tw_high, if_neg h]
theorem gm_next {a b r x y z : UInt8} (h : gm x y z = gm a b r) : gm (tw x) (shr_u8 y 1) (z ^^^ x * (y &&& 1)) = gm a b r := by rw [gm_step]; exact h
theorem gm_end {a b r x y z : UInt8} (h : gm x y z = gm a b r) (hy : ¬ 0 < (y.toNat : Int)) : z = gm a b r := by
  have : y = 0 := by apply UInt8.toNat_inj.1; show y.toNat = 0; omega
  subst this; rw [gm_zero] at h; exact h
theorem shr1_lt {y : UInt8} (hy : 0 < (y.toNat : Int)) : (shr_u8 y 1).toNat < y.toNat := by rw [shr1_toNat]; omega
theorem rot8_law (x : UInt8) {m : Nat} (h : 1 ≤ m ∧ m ≤ 7) :
    (shl_u8 x ((UInt64.ofNat (m : Int).toNat &&& 7).toNat : Int).toNat ||| shr_u8 x ((8 - (UInt64.ofNat (m : Int).toNat &&& 7)).toNat : Int).toNat) = rot8 x m := by
  rcases (by omega : m = 1 ∨ m = 2 ∨ m = 3 ∨ m = 4 ∨ m = 5 ∨ m = 6 ∨ m = 7) with rfl | rfl | rfl | rfl | rfl | rfl | rfl <;> rfl
def boxF (j : Nat) : UInt8 := S8 (UInt8.ofNat j)
theorem boxF_all : (List.range 256).map boxF = boxT := by decide +kernel
theorem boxF_fill : fillU boxF (List.replicate 256 0) 256 = boxT := by rw [fillU_all _ _ _ (by simp), List.length_replicate, boxF_all]
/-- What a word is put over. -/
def kU (l : List UInt8) (i : Nat) : List UInt8 :=
  let t := l.drop (4 * i - 4)
  if i % 8 = 0 then [S8 (t.getD 1 0) ^^^ rc ((i - 1) / 8), S8 (t.getD 2 0), S8 (t.getD 3 0), S8 (t.getD 0 0)]
    else if i % 8 = 4 then [S8 (t.getD 0 0), S8 (t.getD 1 0), S8 (t.getD 2 0), S8 (t.getD 3 0)]
    else [t.getD 0 0, t.getD 1 0, t.getD 2 0, t.getD 3 0]
theorem kU_len (l : List UInt8) (i : Nat) : (kU l i).length = 4 := by 
  unfold kU; simp only; split
  · rfl
  · split <;> rfl
theorem kword_get (l : List UInt8) (i k : Nat) (hk : k < 4) : (kword l i).getD k 0 = l.getD (4 * i - 32 + k) 0 ^^^ (kU l i).getD k 0 := by
  rcases (by omega : k = 0 ∨ k = 1 ∨ k = 2 ∨ k = 3) with rfl | rfl | rfl | rfl <;> rfl
/-- The 240 bytes while the n-th word behind the key comes, k of its bytes there. -/
def kP (key : List UInt8) (n k : Nat) : List UInt8 := (kx key n ++ (kword (kx key n) (n + 8)).take k) ++ List.replicate (240 - 4 * (n + 8) - k) 0
theorem kP_len (key : List UInt8) (h : key.length = 32) (n k : Nat) (hn : n < 52) (hk : k ≤ 4) : (kP key n k).length = 240 := by
  simp [kP, kx_len key h, kword_len]; omega
theorem getD_left {α : Type} (A Z : List α) (i : Nat) (d : α) (h : i < A.length) : (A ++ Z).getD i d = A.getD i d := by
  rw [List.getD_eq_getElem?_getD, List.getElem?_append_left h, List.getD_eq_getElem?_getD]
theorem kP_set (key : List UInt8) (h : key.length = 32) (n k : Nat) (hn : n < 52) (hk : k < 4) :
    (kP key n k).set (4 * (n + 8) + k) ((kP key n k).getD (4 * (n + 8) + k - 32) 0 ^^^ (kU (kx key n) (n + 8)).getD k 0) = kP key n (k + 1) := by
  have hl := kx_len key h n
  have hg : (kP key n k).getD (4 * (n + 8) + k - 32) 0 = (kx key n).getD (4 * (n + 8) - 32 + k) 0 := by
    unfold kP
    rw [List.append_assoc, getD_left _ _ _ _ (by omega)]
    congr 1; omega
  rw [hg, ← kword_get _ _ _ hk]
  unfold kP
  rw [show 240 - 4 * (n + 8) - k = (240 - 4 * (n + 8) - (k + 1)) + 1 by omega, set_front _ _ _ _ (by simp [hl, kword_len]; omega)]
  congr 1
  rw [List.append_assoc]
  congr 1
  rw [List.take_add_one, List.getElem?_eq_getElem (by rw [kword_len]; exact hk)]
  rw [List.getD_eq_getElem?_getD, List.getElem?_eq_getElem (by rw [kword_len]; exact hk)]; rfl
theorem kP_next (key : List UInt8) (n : Nat) (hn : n < 52) : kP key n 4 = kP key (n + 1) 0 := by
  unfold kP
  rw [List.take_of_length_le (by rw [kword_len]; exact Nat.le_refl _), List.take_zero, List.append_nil, kx, show 240 - 4 * (n + 8) - 4 = 240 - 4 * (n + 1 + 8) - 0 by omega]
theorem kP_end (key : List UInt8) : kP key 52 0 = kx key 52 := by simp [kP]
theorem kP_last (key : List UInt8) (h : key.length = 32) (n : Nat) : (((kP key n 0).take (4 * (n + 8))).drop (4 * (n + 8) - 4)).take 4 = (kx key n).drop (4 * (n + 8) - 4) := by
  have hl := kx_len key h n
  unfold kP
  rw [List.take_zero, List.append_nil, List.take_append_of_le_length (by omega), List.take_of_length_le (l := kx key n) (by omega)]
  exact List.take_of_length_le (by simp [hl]; omega)
theorem copy_keys (key : List UInt8) (h : key.length = 32) :
    (List.take 0 (List.map (fun x : UInt8 => B x) (List.replicate 240 0)) ++ List.take (240 - 0) (List.map (fun x : UInt8 => B x) key) ++ List.drop (0 + min (List.map (fun x : UInt8 => B x) key).length (240 - 0)) (List.map (fun x : UInt8 => B x) (List.replicate 240 0))) = (kP key 0 0).map fun x => B x := by
  have e1 : List.take (240 - 0) (List.map (fun x : UInt8 => B x) key) = List.map (fun x => B x) key := List.take_of_length_le (by simp [h])
  rw [List.take_zero, List.nil_append, e1]
  simp [kP, kx, h]
theorem rc_up {n : Nat} (h : n % 8 = 0) : tw (rc ((n + 7) / 8)) = rc ((n + 1 + 7) / 8) := by rw [show (n + 1 + 7) / 8 = (n + 7) / 8 + 1 by omega]; rfl
theorem rc_same {n : Nat} (h : n % 8 ≠ 0) : rc ((n + 7) / 8) = rc ((n + 1 + 7) / 8) := by rw [show (n + 1 + 7) / 8 = (n + 7) / 8 by omega]
theorem drop4_eq {t : List UInt8} (h : t.length = 4) : t = [t.getD 0 0, t.getD 1 0, t.getD 2 0, t.getD 3 0] := by
  match t, h with
  | [a, b, c, d], _ => rfl
theorem kU_0 {l : List UInt8} {i : Nat} (h : i % 8 = 0) : kU l i = [S8 ((l.drop (4 * i - 4)).getD 1 0) ^^^ rc ((i - 1) / 8), S8 ((l.drop (4 * i - 4)).getD 2 0), S8 ((l.drop (4 * i - 4)).getD 3 0), S8 ((l.drop (4 * i - 4)).getD 0 0)] := by unfold kU; simp only; rw [if_pos h]
theorem kU_4 {l : List UInt8} {i : Nat} (h : i % 8 = 4) : kU l i = [S8 ((l.drop (4 * i - 4)).getD 0 0), S8 ((l.drop (4 * i - 4)).getD 1 0), S8 ((l.drop (4 * i - 4)).getD 2 0), S8 ((l.drop (4 * i - 4)).getD 3 0)] := by unfold kU; simp only; rw [if_neg (by omega), if_pos h]
theorem kU_e {l : List UInt8} {i : Nat} (hl : l.length = 4 * i) (hi : 1 ≤ i) (h : ¬ i % 8 = 0) (h' : ¬ i % 8 = 4) : kU l i = l.drop (4 * i - 4) := by
  unfold kU; simp only; rw [if_neg h, if_neg h']; exact (drop4_eq (by rw [List.length_drop, hl]; omega)).symm
def xor16 (s w : List UInt8) (at_ : Nat) : List UInt8 := (List.range 16).map fun i => s.getD i 0 ^^^ w.getD (at_ + i) 0
def sub16 (s : List UInt8) : List UInt8 := (List.range 16).map fun i => S8 (s.getD ((i + i % 4 * 4) % 16) 0)
/-- A byte of a mixed column: itself and the three behind it. -/
def mixB (a b c d : UInt8) : UInt8 := gm a 2 0 ^^^ gm b 3 0 ^^^ c ^^^ d
def mix16 (t : List UInt8) : List UInt8 := (List.range 16).map fun i => mixB (t.getD (i / 4 * 4 + i % 4) 0) (t.getD (i / 4 * 4 + (i % 4 + 1) % 4) 0) (t.getD (i / 4 * 4 + (i % 4 + 2) % 4) 0) (t.getD (i / 4 * 4 + (i % 4 + 3) % 4) 0)
theorem u8_xor_comm (a b : UInt8) : a ^^^ b = b ^^^ a := UInt8.xor_comm a b
theorem u8_xor_assoc (a b c : UInt8) : a ^^^ b ^^^ c = a ^^^ (b ^^^ c) := UInt8.xor_assoc a b c
theorem mix_law (a b c d : UInt8) : a ^^^ (a ^^^ b ^^^ c ^^^ d) ^^^ tw (a ^^^ b) = mixB a b c d := by
  unfold mixB
  rw [gm_2, gm_3, tw_xor]
  have h : a ^^^ (a ^^^ b ^^^ c ^^^ d) = b ^^^ c ^^^ d := by
    rw [u8_xor_assoc a b, u8_xor_assoc a, ← u8_xor_assoc a a, UInt8.xor_self, UInt8.zero_xor]
  rw [h]
  generalize tw a = x
  generalize tw b = y
  apply UInt8.toNat_inj.1
  simp only [UInt8.toNat_xor]
  ac_rfl
theorem mix_law2 (a b c d : UInt8) : b ^^^ (a ^^^ b ^^^ c ^^^ d) ^^^ tw (b ^^^ c) = mixB b c d a := by
  rw [← mix_law b c d a]; congr 2
  apply UInt8.toNat_inj.1; simp only [UInt8.toNat_xor]; ac_rfl
theorem mix_law3 (a b c d : UInt8) : c ^^^ (a ^^^ b ^^^ c ^^^ d) ^^^ tw (c ^^^ d) = mixB c d a b := by
  rw [← mix_law c d a b]; congr 2
  apply UInt8.toNat_inj.1; simp only [UInt8.toNat_xor]; ac_rfl
theorem mix_law4 (a b c d : UInt8) : d ^^^ (a ^^^ b ^^^ c ^^^ d) ^^^ tw (d ^^^ a) = mixB d a b c := by
  rw [← mix_law d a b c]; congr 2
  apply UInt8.toNat_inj.1; simp only [UInt8.toNat_xor]; ac_rfl
def xorF (s w : List UInt8) (a i : Nat) : UInt8 := s.getD i 0 ^^^ w.getD (a + i) 0
theorem xor16_fill (s w x : List UInt8) (a : Nat) (hx : x.length = 16) : fillU (xorF s w a) x 16 = xor16 s w a := by rw [fillU_all _ _ _ (by omega), hx]; rfl
def subF (s : List UInt8) (i : Nat) : UInt8 := S8 (s.getD ((i + i % 4 * 4) % 16) 0)
theorem sub16_fill (s x : List UInt8) (hx : x.length = 16) : fillU (subF s) x 16 = sub16 s := by rw [fillU_all _ _ _ (by omega), hx]; rfl
theorem sub16_len (s : List UInt8) : (sub16 s).length = 16 := by simp [sub16]
theorem mix16_len (s : List UInt8) : (mix16 s).length = 16 := by simp [mix16]
/-- The columns, the first c of them mixed. -/
def mixP (t : List UInt8) (c : Nat) : List UInt8 := (mix16 t).take (4 * c) ++ t.drop (4 * c)
theorem mixP_len (t : List UInt8) (h : t.length = 16) (c : Nat) (hc : c ≤ 4) : (mixP t c).length = 16 := by simp [mixP, mix16_len, h]; omega
theorem mixP_get (t : List UInt8) (h : t.length = 16) (c i : Nat) (hc : c ≤ 4) (hi : 4 * c ≤ i) : (mixP t c).getD i 0 = t.getD i 0 := by
  unfold mixP
  rw [List.getD_eq_getElem?_getD, List.getElem?_append_right (by simp [mix16_len]; omega), List.getElem?_drop, List.getD_eq_getElem?_getD]
  congr 2; simp [mix16_len]; omega
theorem mix16_col (t : List UInt8) (c : Nat) (hc : c < 4) : ((mix16 t).drop (4 * c)).take 4 = [mixB (t.getD (4 * c) 0) (t.getD (4 * c + 1) 0) (t.getD (4 * c + 2) 0) (t.getD (4 * c + 3) 0), mixB (t.getD (4 * c + 1) 0) (t.getD (4 * c + 2) 0) (t.getD (4 * c + 3) 0) (t.getD (4 * c) 0), mixB (t.getD (4 * c + 2) 0) (t.getD (4 * c + 3) 0) (t.getD (4 * c) 0) (t.getD (4 * c + 1) 0), mixB (t.getD (4 * c + 3) 0) (t.getD (4 * c) 0) (t.getD (4 * c + 1) 0) (t.getD (4 * c + 2) 0)] := by
  rcases (by omega : c = 0 ∨ c = 1 ∨ c = 2 ∨ c = 3) with rfl | rfl | rfl | rfl <;> rfl
theorem mixP_next (t : List UInt8) (h : t.length = 16) (c : Nat) (hc : c < 4) :
    (mixP t c).take (4 * c) ++ ((mix16 t).drop (4 * c)).take 4 ++ (mixP t c).drop (4 * c + 4) = mixP t (c + 1) := by
  have hl := mix16_len t
  unfold mixP
  have e1 : ((mix16 t).take (4 * c) ++ t.drop (4 * c)).take (4 * c) = (mix16 t).take (4 * c) := by
    rw [List.take_append_of_le_length (by simp [hl]; omega), List.take_of_length_le (by simp [hl]; omega)]
  have e2 : ((mix16 t).take (4 * c) ++ t.drop (4 * c)).drop (4 * c + 4) = t.drop (4 * (c + 1)) := by
    rw [List.drop_append, List.drop_of_length_le (by simp [hl]; omega), List.nil_append, List.drop_drop]
    congr 1; simp [hl]; omega
  rw [e1, e2]
  congr 1
  rw [show 4 * (c + 1) = 4 * c + 4 by omega, List.take_add]
theorem mixP_zero (t : List UInt8) : mixP t 0 = t := by simp [mixP]
theorem mixP_four (t : List UInt8) (h : t.length = 16) : mixP t 4 = mix16 t := by
  unfold mixP
  rw [List.take_of_length_le (by simp [mix16_len]), List.drop_of_length_le (by omega), List.append_nil]
/-- A block behind n rounds. -/
def encR (w s : List UInt8) : Nat → List UInt8
  | 0 => xor16 s w 0
  | n + 1 => xor16 (if n + 1 < 14 then mix16 (sub16 (encR w s n)) else sub16 (encR w s n)) w (16 * (n + 1))
theorem copy_col (t : List UInt8) (h : t.length = 16) (k : Nat) (hk : k < 4) (C : List UInt8)
    (hC : C = [mixB ((mixP t k).getD (4 * (k : Int)).toNat 0) ((mixP t k).getD (4 * (k : Int) + 1).toNat 0) ((mixP t k).getD (4 * (k : Int) + 2).toNat 0) ((mixP t k).getD (4 * (k : Int) + 3).toNat 0), mixB ((mixP t k).getD (4 * (k : Int) + 1).toNat 0) ((mixP t k).getD (4 * (k : Int) + 2).toNat 0) ((mixP t k).getD (4 * (k : Int) + 3).toNat 0) ((mixP t k).getD (4 * (k : Int)).toNat 0), mixB ((mixP t k).getD (4 * (k : Int) + 2).toNat 0) ((mixP t k).getD (4 * (k : Int) + 3).toNat 0) ((mixP t k).getD (4 * (k : Int)).toNat 0) ((mixP t k).getD (4 * (k : Int) + 1).toNat 0), mixB ((mixP t k).getD (4 * (k : Int) + 3).toNat 0) ((mixP t k).getD (4 * (k : Int)).toNat 0) ((mixP t k).getD (4 * (k : Int) + 1).toNat 0) ((mixP t k).getD (4 * (k : Int) + 2).toNat 0)]) (D : List Value) (hD : D = List.map (fun x : UInt8 => B x) C) :
    (List.take (4 * k) (List.map (fun x : UInt8 => B x) (mixP t k)) ++ List.take (16 - 4 * k) D ++ List.drop (4 * k + min D.length (16 - 4 * k)) (List.map (fun x : UInt8 => B x) (mixP t k))) = (mixP t (k + 1)).map fun x => B x := by
  subst hD
  have e0 : (4 * (k : Int)).toNat = 4 * k := by omega
  have e1 : (4 * (k : Int) + 1).toNat = 4 * k + 1 := by omega
  have e2 : (4 * (k : Int) + 2).toNat = 4 * k + 2 := by omega
  have e3 : (4 * (k : Int) + 3).toNat = 4 * k + 3 := by omega
  have g : ∀ j, (mixP t k).getD (4 * k + j) 0 = t.getD (4 * k + j) 0 := fun j => mixP_get t h k _ (by omega) (by omega)
  have g0 : (mixP t k).getD (4 * k) 0 = t.getD (4 * k) 0 := g 0
  rw [e0, e1, e2, e3, g0, g 1, g 2, g 3, ← mix16_col t k hk] at hC
  subst hC
  have hl : (((mix16 t).drop (4 * k)).take 4).length = 4 := by simp [mix16_len]; omega
  rw [← mixP_next t h k hk]
  rw [List.length_map, hl, Nat.min_eq_left (by omega), List.take_of_length_le (l := List.map _ (List.take 4 _)) (by rw [List.length_map, hl]; omega)]
  simp [List.map_take, List.map_drop]
theorem encR_next (w s : List UInt8) (n : Nat) : encR w s (n + 1) = xor16 (if n + 1 < 14 then mix16 (sub16 (encR w s n)) else sub16 (encR w s n)) w (16 * (n + 1)) := rfl
/-- AES-256 of a block. -/
def aesL (key s : List UInt8) : List UInt8 := encR (kx key 52) s 14
theorem xor16_len (s w : List UInt8) (a : Nat) : (xor16 s w a).length = 16 := by simp [xor16]
theorem encR_len (w s : List UInt8) : ∀ n, (encR w s n).length = 16
  | 0 => xor16_len _ _ _
  | n + 1 => xor16_len _ _ _
theorem aesL_len (key s : List UInt8) : (aesL key s).length = 16 := encR_len _ _ _
/-- So many blocks of the stream. -/
def strB (key nonce : List UInt8) : Nat → List UInt8
  | 0 => []
  | k + 1 => strB key nonce k ++ aesL key (nonce ++ beN (UInt64.ofNat k) 4)
theorem strB_len (key nonce : List UInt8) : ∀ k, (strB key nonce k).length = 16 * k
  | 0 => rfl
  | k + 1 => by rw [strB, List.length_append, strB_len key nonce k, aesL_len]; omega
/-- So many bytes of the stream. -/
def strL (key nonce : List UInt8) (n : Nat) : List UInt8 := (strB key nonce ((n + 15) / 16)).take n
theorem strL_len (key nonce : List UInt8) (n : Nat) : (strL key nonce n).length = n := by rw [strL, List.length_take, strB_len]; omega
theorem strB_pre (key nonce : List UInt8) (k : Nat) : ∀ j, ∃ t, strB key nonce (k + j) = strB key nonce k ++ t
  | 0 => ⟨[], by simp⟩
  | j + 1 => by
    obtain ⟨t, h⟩ := strB_pre key nonce k j
    exact ⟨t ++ aesL key (nonce ++ beN (UInt64.ofNat (k + j)) 4), by rw [← Nat.add_assoc, strB, h, List.append_assoc]⟩
theorem strL_of (key nonce : List UInt8) {n k : Nat} (h : n ≤ 16 * k) : (strB key nonce k).take n = strL key nonce n := by
  unfold strL
  obtain ⟨t, ht⟩ := strB_pre key nonce ((n + 15) / 16) (k - (n + 15) / 16)
  rw [show (n + 15) / 16 + (k - (n + 15) / 16) = k by omega] at ht
  rw [ht, List.take_append_of_le_length (by rw [strB_len]; omega)]
theorem strL_take (key nonce : List UInt8) {n m : Nat} (h : n ≤ m) : (strL key nonce m).take n = strL key nonce n := by
  rw [← strL_of key nonce (n := m) (k := (m + 15) / 16) (by omega), List.take_take, Nat.min_eq_left h, strL_of _ _ (by omega)]
theorem strL_block (key nonce : List UInt8) {k m : Nat} (h : 16 * k + 16 ≤ m) : ((strL key nonce m).take (16 * k + 16)).drop (16 * k) = aesL key (nonce ++ beN (UInt64.ofNat k) 4) := by
  rw [strL_take _ _ h, ← strL_of key nonce (k := k + 1) (by omega), strB, List.take_of_length_le (by rw [List.length_append, strB_len, aesL_len]; omega), List.drop_left' (strB_len _ _ _)]
end Go.X

/-
  Plain laws of AES: what the layer's calls answer. No program here.
-/
set_option linter.unusedVariables false
set_option maxRecDepth 100000
namespace Go.X
def blkL (key b : List UInt8) : List UInt8 := if key.length = 32 ∧ b.length = 16 then aesL key b else []
def blkE (key b : List UInt8) : Int := if key.length = 32 ∧ b.length = 16 then 0 else 1
theorem blkL_no {key b : List UInt8} (h : ¬ (key.length = 32 ∧ b.length = 16)) : blkL key b = [] := if_neg h
theorem blkE_no {key b : List UInt8} (h : ¬ (key.length = 32 ∧ b.length = 16)) : blkE key b = 1 := if_neg h
theorem blkL_yes {key b : List UInt8} (h : key.length = 32 ∧ b.length = 16) : blkL key b = aesL key b := if_pos h
theorem blkE_yes {key b : List UInt8} (h : key.length = 32 ∧ b.length = 16) : blkE key b = 0 := if_pos h
theorem blk_fin {key b : List UInt8} (h : key.length = 32 ∧ b.length = 16) : List.drop 0 (List.take 16 (encR (kx key 52) (List.take 16 b) 14)) = blkL key b := by
  rw [blkL_yes h, List.drop_zero, List.take_of_length_le (by rw [encR_len]; exact Nat.le_refl _), List.take_of_length_le (by omega)]; rfl
def strE (key nonce : List UInt8) (n : Int) : Int := if key.length = 32 ∧ nonce.length = 12 ∧ 0 ≤ n ∧ n ≤ 1048576 then 0 else 1
def strQ (key nonce : List UInt8) (n : Int) : List UInt8 := if key.length = 32 ∧ nonce.length = 12 ∧ 0 ≤ n ∧ n ≤ 1048576 then strL key nonce n.toNat else []
theorem strE_no {key nonce : List UInt8} {n : Int} (h : ¬ (key.length = 32 ∧ nonce.length = 12 ∧ 0 ≤ n ∧ n ≤ 1048576)) : strE key nonce n = 1 := if_neg h
theorem strQ_no {key nonce : List UInt8} {n : Int} (h : ¬ (key.length = 32 ∧ nonce.length = 12 ∧ 0 ≤ n ∧ n ≤ 1048576)) : strQ key nonce n = [] := if_neg h
theorem strE_yes {key nonce : List UInt8} {n : Int} (h : key.length = 32 ∧ nonce.length = 12 ∧ 0 ≤ n ∧ n ≤ 1048576) : strE key nonce n = 0 := if_pos h
theorem strQ_yes {key nonce : List UInt8} {n : Int} (h : key.length = 32 ∧ nonce.length = 12 ∧ 0 ≤ n ∧ n ≤ 1048576) : strQ key nonce n = strL key nonce n.toNat := if_pos h
def cryE (key nonce b : List UInt8) : Int := strE key nonce b.length
def cryL (key nonce b : List UInt8) : List UInt8 := if strE key nonce b.length = 0 then xorL b (strL key nonce b.length) else []
theorem strE_zero {key nonce : List UInt8} {n : Int} (h : strE key nonce n = 0) : key.length = 32 ∧ nonce.length = 12 ∧ 0 ≤ n ∧ n ≤ 1048576 := by
  unfold strE at h; split at h
  · assumption
  · cases h
theorem cry_fin {key nonce b : List UInt8} (h : strE key nonce b.length = 0) : xorL b (strQ key nonce b.length) = cryL key nonce b := by
  rw [cryL, if_pos h, strQ_yes (strE_zero h), Int.toNat_natCast]
theorem cry_no {key nonce b : List UInt8} (h : strE key nonce b.length ≠ 0) : cryL key nonce b = [] := if_neg h
/-- so many bytes, noughts for those that are wanting -/
theorem firstL_take {l : List UInt8} {n : Nat} (h : n ≤ l.length) : firstL l n = l.take n := by
  unfold firstL; rw [show n - l.length = 0 by omega]; simp
theorem u32_succ (k : Nat) : UInt32.ofNat k + 1 = UInt32.ofNat (k + 1) := by
  apply UInt32.toNat_inj.1; simp
theorem str_next (key nonce p : List UInt8) (k : Nat) (hn : nonce.length = 12) (hp : p = ((beN (UInt32.ofNat k).toUInt64 8).take 8).drop 4) (hk : k < 4294967296) :
    strB key nonce k ++ List.drop 0 (List.take 16 (encR (kx key 52) (List.take 16 ([nonce, p] : List (List UInt8)).flatten) 14)) = strB key nonce (k + 1) := by
  subst hp
  have e : (UInt32.ofNat k).toUInt64 = UInt64.ofNat k := by
    apply UInt64.toNat_inj.1
    simp
    omega
  rw [strB, put32_take, beN_drop4, e, List.drop_zero, List.take_of_length_le (by rw [encR_len]; exact Nat.le_refl _)]
  congr 1
  have hf : ([nonce, beN (UInt64.ofNat k) 4] : List (List UInt8)).flatten = nonce ++ beN (UInt64.ofNat k) 4 := by simp
  rw [hf, List.take_of_length_le (by simp [hn, beN_len])]; rfl
theorem rstr_next (key nonce : List UInt8) (k : Nat) (hn : nonce.length = 12) :
    strB key nonce k ++ aesL key ([nonce, beN (UInt64.ofNat k) 4] : List (List UInt8)).flatten = strB key nonce (k + 1) := by
  rw [strB, show ([nonce, beN (UInt64.ofNat k) 4] : List (List UInt8)).flatten = nonce ++ beN (UInt64.ofNat k) 4 by simp]
def ibT : List UInt8 := [82, 9, 106, 213, 48, 54, 165, 56, 191, 64, 163, 158, 129, 243, 215, 251, 124, 227, 57, 130, 155, 47, 255, 135, 52, 142, 67, 68, 196, 222, 233, 203, 84, 123, 148, 50, 166, 194, 35, 61, 238, 76, 149, 11, 66, 250, 195, 78, 8, 46, 161, 102, 40, 217, 36, 178, 118, 91, 162, 73, 109, 139, 209, 37, 114, 248, 246, 100, 134, 104, 152, 22, 212, 164, 92, 204, 93, 101, 182, 146, 108, 112, 72, 80, 253, 237, 185, 218, 94, 21, 70, 87, 167, 141, 157, 132, 144, 216, 171, 0, 140, 188, 211, 10, 247, 228, 88, 5, 184, 179, 69, 6, 208, 44, 30, 143, 202, 63, 15, 2, 193, 175, 189, 3, 1, 19, 138, 107, 58, 145, 17, 65, 79, 103, 220, 234, 151, 242, 207, 206, 240, 180, 230, 115, 150, 172, 116, 34, 231, 173, 53, 133, 226, 249, 55, 232, 28, 117, 223, 110, 71, 241, 26, 113, 29, 41, 197, 137, 111, 183, 98, 14, 170, 24, 190, 27, 252, 86, 62, 75, 198, 210, 121, 32, 154, 219, 192, 254, 120, 205, 90, 244, 31, 221, 168, 51, 136, 7, 199, 49, 177, 18, 16, 89, 39, 128, 236, 95, 96, 81, 127, 169, 25, 181, 74, 13, 45, 229, 122, 159, 147, 201, 156, 239, 160, 224, 59, 77, 174, 42, 245, 176, 200, 235, 187, 60, 131, 83, 153, 97, 23, 43, 4, 126, 186, 119, 214, 38, 225, 105, 20, 99, 85, 33, 12, 125]
theorem ib_box : ∀ (x : UInt8), ibT.getD (S8 x).toNat 0 = x := all8 (by decide +kernel)
theorem S8_inj {a b : UInt8} (h : S8 a = S8 b) : a = b := by rw [← ib_box a, h, ib_box b]
theorem S8_ne : ∀ (x : UInt8), (S8 x).toNat ≠ x.toNat := all8 (by decide +kernel)
theorem S8_nn : ∀ (x : UInt8), (S8 x).toNat ≠ (~~~ x).toNat := all8 (by decide +kernel)
theorem box_iff (x y : UInt8) : decide (((S8 x).toNat : Int) = ((S8 y).toNat : Int)) = decide ((x.toNat : Int) = (y.toNat : Int)) := by
  by_cases h : x = y
  · subst h; simp
  · have h2 : S8 x ≠ S8 y := fun e => h (S8_inj e)
    have e1 : ¬ ((x.toNat : Int) = (y.toNat : Int)) := fun e => h (UInt8.toNat_inj.1 (by omega))
    have e2 : ¬ (((S8 x).toNat : Int) = ((S8 y).toNat : Int)) := fun e => h2 (UInt8.toNat_inj.1 (by omega))
    rw [decide_eq_false e1, decide_eq_false e2]
def kA : List UInt8 := fillU (fun i => UInt8.ofNat i) (List.replicate 32 0) 32
def bA : List UInt8 := fillU (fun i => UInt8.ofNat (17 * i)) (List.replicate 16 0) 16
theorem kA_len : kA.length = 32 := by simp [kA, fillU_len]
theorem bA_len : bA.length = 16 := by simp [bA, fillU_len]
theorem aes_awake : (blkL kA bA).take 4 = [142, 162, 183, 202] := by decide +kernel
theorem blkL_len {key b : List UInt8} (h : key.length = 32 ∧ b.length = 16) : (blkL key b).length = 16 := by rw [blkL_yes h, aesL_len]
theorem strQ_len {key nonce : List UInt8} {n : Int} (h : key.length = 32 ∧ nonce.length = 12 ∧ 0 ≤ n ∧ n ≤ 1048576) : (strQ key nonce n).length = n.toNat := by rw [strQ_yes h, strL_len]
/-! ### The document's keys -/
theorem rc_up2 {n : Nat} (h : n % 8 = 0) : gm (rc ((n + 7) / 8)) 2 0 = rc ((n + 1 + 7) / 8) := by rw [gm_2]; exact rc_up h
def kxk (key : List UInt8) (n k : Nat) : List UInt8 := kx key n ++ (kword (kx key n) (n + 8)).take k
theorem kxk_len (key : List UInt8) (h : key.length = 32) (n k : Nat) (hk : k ≤ 4) : (kxk key n k).length = 4 * (n + 8) + k := by simp [kxk, kx_len key h, kword_len]; omega
theorem kxk_zero (key : List UInt8) (n : Nat) : kxk key n 0 = kx key n := by simp [kxk]
theorem kxk_four (key : List UInt8) (n : Nat) : kxk key n 4 = kx key (n + 1) := by
  unfold kxk; rw [List.take_of_length_le (by rw [kword_len]; exact Nat.le_refl _), kx]
theorem kxk_app (key : List UInt8) (h : key.length = 32) (n k : Nat) (hk : k < 4) :
    kxk key n k ++ [(kxk key n k).getD (4 * (n + 8) - 32 + k) 0 ^^^ (kU (kx key n) (n + 8)).getD k 0] = kxk key n (k + 1) := by
  have hl := kx_len key h n
  have hg : (kxk key n k).getD (4 * (n + 8) - 32 + k) 0 = (kx key n).getD (4 * (n + 8) - 32 + k) 0 := by
    unfold kxk; rw [getD_left _ _ _ _ (by omega)]
  rw [hg, ← kword_get _ _ _ hk]
  unfold kxk
  rw [List.append_assoc, List.take_add_one, List.getElem?_eq_getElem (by rw [kword_len]; exact hk), List.getD_eq_getElem?_getD, List.getElem?_eq_getElem (by rw [kword_len]; exact hk)]; rfl
theorem kx_cut (key : List UInt8) (h : key.length = 32) (n : Nat) : List.drop (4 * (n + 8) - 4) (List.take (4 * (n + 8)) (kx key n)) = (kx key n).drop (4 * (n + 8) - 4) := by
  rw [List.take_of_length_le (by rw [kx_len key h]; exact Nat.le_refl _)]
/-! ### The document's tables -/
def powX (i : Nat) : UInt8 := if i < 255 then powT.getD i 0 else 1
theorem powX_zero : powX 0 = 1 := rfl
theorem powX_lt {i : Nat} (h : i < 255) : powX i = powT.getD i 0 := if_pos h
theorem powX_next {i : Nat} (h : i < 255) : gm (powX i) 3 0 = powX (i + 1) := by
  rw [powX_lt h]
  by_cases h1 : i < 254
  · rw [powX_lt (by omega)]; exact pow_next ⟨i, h1⟩
  · obtain rfl : i = 254 := by omega
    exact pow_last
def powF (j : Nat) : UInt8 := powT.getD j 0
theorem powF_all : fillU powF (List.replicate 255 0) 255 = powT := by rw [fillU_all _ _ _ (by simp), List.length_replicate]; decide +kernel
def boxG (j : Nat) : UInt8 := boxT.getD j 0
theorem boxG_all : fillU boxG (List.replicate 256 0) 256 = boxT := by rw [fillU_all _ _ _ (by simp), List.length_replicate]; decide +kernel
def atP (i : Nat) : List Int := (List.range 256).map fun x => if 0 < x ∧ atT.getD x 0 < i then (atT.getD x 0 : Int) else 0
theorem atP_len (i : Nat) : (atP i).length = 256 := by simp [atP]
theorem atP_zero : List.replicate 256 (0 : Int) = atP 0 := by simp [atP]; rfl
theorem atP_get (i x : Nat) (h : x < 256) : (atP i).getD x 0 = if 0 < x ∧ atT.getD x 0 < i then (atT.getD x 0 : Int) else 0 := by
  rw [List.getD_eq_getElem?_getD]; simp [atP, h]
theorem atP_set {i : Nat} (h : i < 255) : (atP i).set (powX i).toNat (i : Int) = atP (i + 1) := by
  rw [powX_lt h]
  obtain ⟨h1, h2⟩ := at_pow ⟨i, h⟩
  simp only at h1 h2
  have hp : 0 < (powT.getD i 0).toNat := by
    rcases Nat.eq_zero_or_pos (powT.getD i 0).toNat with e | e
    · exact absurd (UInt8.toNat_inj.1 e) h2
    · exact e
  apply List.ext_getElem
  · simp [atP]
  · intro x hx hx2
    have hx' : x < 256 := by simpa [atP_len] using hx2
    rw [List.getElem_set]
    simp only [atP, List.getElem_map, List.getElem_range]
    by_cases e : (powT.getD i 0).toNat = x
    · rw [if_pos e, ← e, h1, if_pos ⟨hp, by omega⟩]
    · rw [if_neg e]
      by_cases h0 : 0 < x
      · have h3 := at_inj ⟨x, hx'⟩ h0
        simp only at h3
        have : atT.getD x 0 ≠ i := by intro e2; rw [e2] at h3; exact e h3.1
        by_cases h4 : atT.getD x 0 < i
        · rw [if_pos ⟨h0, h4⟩, if_pos ⟨h0, by omega⟩]
        · rw [if_neg (by omega), if_neg (by omega)]
      · rw [if_neg (by omega), if_neg (by omega)]
theorem at_bd {x : Nat} (h : x < 256) : 0 ≤ (atP 255).getD x 0 ∧ (atP 255).getD x 0 ≤ 254 := by
  rw [atP_get _ _ h]; split <;> omega
theorem inv_get {x : Nat} (h : x < 256) (h0 : 0 < x) : powT.getD ((255 - (atP 255).getD x 0) % 255).toNat 0 = invT x := by
  have h3 := at_inj ⟨x, h⟩ h0
  simp only at h3
  rw [atP_get _ _ h, if_pos ⟨h0, h3.2⟩, invT, if_neg (by omega)]
  congr 1; omega
theorem refbox {x : Nat} (h : x < 256) : rotR (invT x) 5 = boxG x := refbox_tab ⟨x, h⟩
theorem getD_mr {α : Type} (n : Nat) (f : Nat → α) (i : Nat) (d : α) (h : i < n) : ((List.range n).map f).getD i d = f i := by
  rw [List.getD_eq_getElem?_getD, List.getElem?_map, List.getElem?_range h]; rfl
/-! ### Mixing, byte by byte -/
def mixQ (t : List UInt8) (j : Nat) : List UInt8 := (mix16 t).take j ++ t.drop j
theorem mixQ_len (t : List UInt8) (h : t.length = 16) (j : Nat) (hj : j ≤ 16) : (mixQ t j).length = 16 := by simp [mixQ, mix16_len, h]; omega
theorem mixQ_get (t : List UInt8) (h : t.length = 16) (j i : Nat) (hj : j ≤ i) (hi : j ≤ 16) : (mixQ t j).getD i 0 = t.getD i 0 := by
  unfold mixQ
  rw [List.getD_eq_getElem?_getD, List.getElem?_append_right (by simp [mix16_len]; omega), List.getElem?_drop, List.getD_eq_getElem?_getD]
  congr 2; simp [mix16_len]; omega
theorem mixQ_set (t : List UInt8) (h : t.length = 16) (j : Nat) (hj : j < 16) : (mixQ t j).set j ((mix16 t).getD j 0) = mixQ t (j + 1) := by
  have hl := mix16_len t
  unfold mixQ
  rw [List.drop_eq_getElem_cons (by omega)]
  rw [List.set_append_right _ _ (by simp [hl]; omega), show j - ((mix16 t).take j).length = 0 by simp [hl]; omega, List.set_cons_zero]
  rw [List.take_add_one, List.getElem?_eq_getElem (by omega), List.getD_eq_getElem?_getD, List.getElem?_eq_getElem (by omega), List.append_assoc]
  rfl
theorem mixQ_zero (t : List UInt8) : mixQ t 0 = t := by simp [mixQ]
theorem mixQ_all (t : List UInt8) (h : t.length = 16) : mixQ t 16 = mix16 t := by
  unfold mixQ
  rw [List.take_of_length_le (by simp [mix16_len]), List.drop_of_length_le (by omega), List.append_nil]
theorem mixQ_cut (t : List UInt8) (h : t.length = 16) (c r : Nat) (hc : c < 4) (hr : r < 4) : (((mixQ t (4 * c)).take (4 * c + 4)).drop (4 * c)).getD r 0 = t.getD (4 * c + r) 0 := by
  rw [List.getD_eq_getElem?_getD, List.getElem?_drop, List.getElem?_take_of_lt (by omega), ← List.getD_eq_getElem?_getD, mixQ_get t h _ _ (by omega) (by omega)]
theorem mix16_get (t : List UInt8) (c r : Nat) (hc : c < 4) (hr : r < 4) :
    (mix16 t).getD (4 * c + r) 0 = gm (t.getD (4 * c + r) 0) 2 0 ^^^ gm (t.getD (4 * c + (r + 1) % 4) 0) 3 0 ^^^ t.getD (4 * c + (r + 2) % 4) 0 ^^^ t.getD (4 * c + (r + 3) % 4) 0 := by
  have : (mix16 t).getD (4 * c + r) 0 = mixB (t.getD ((4 * c + r) / 4 * 4 + (4 * c + r) % 4) 0) (t.getD ((4 * c + r) / 4 * 4 + ((4 * c + r) % 4 + 1) % 4) 0) (t.getD ((4 * c + r) / 4 * 4 + ((4 * c + r) % 4 + 2) % 4) 0) (t.getD ((4 * c + r) / 4 * 4 + ((4 * c + r) % 4 + 3) % 4) 0) := by
    exact getD_mr 16 (fun i => mixB (t.getD (i / 4 * 4 + i % 4) 0) (t.getD (i / 4 * 4 + (i % 4 + 1) % 4) 0) (t.getD (i / 4 * 4 + (i % 4 + 2) % 4) 0) (t.getD (i / 4 * 4 + (i % 4 + 3) % 4) 0)) _ 0 (by omega)
  rw [this, show (4 * c + r) / 4 * 4 = 4 * c by omega, show (4 * c + r) % 4 = r by omega]; rfl
theorem cr_law (c r : Nat) : (4 * (((c : Int) + (r : Int)) % 4) + (r : Int)).toNat = 4 * ((c + r) % 4) + r := by
  rw [← Int.natCast_add]; omega
theorem cr_bd (c r : Nat) (hr : r < 4) : 0 ≤ 4 * (((c : Int) + (r : Int)) % 4) + (r : Int) ∧ 4 * (((c : Int) + (r : Int)) % 4) + (r : Int) < 16 := by omega
theorem subF_cr (s : List UInt8) (c r : Nat) (hc : c < 4) (hr : r < 4) : S8 (s.getD (4 * ((c + r) % 4) + r) 0) = subF s (4 * c + r) := by
  unfold subF; congr 2; omega
theorem cry_ref (key nonce m : List UInt8) : cryL key nonce m = xorL m (strQ key nonce m.length) := by
  by_cases h : strE key nonce m.length = 0
  · exact (cry_fin h).symm
  · rw [cry_no h]
    have : strQ key nonce m.length = [] := strQ_no (fun h2 => h (strE_yes h2))
    rw [this]; simp [xorL]
end Go.X

/-
  Plain laws of AES's streams. No program here.
-/
set_option linter.unusedVariables false
namespace Go.X
theorem xorL_zero (l : List UInt8) (n : Nat) (h : n = l.length) : xorL (List.replicate n 0) l = l := by
  subst h
  induction l with
  | nil => rfl
  | cons a l ih =>
    show (0 ^^^ a) :: xorL (List.replicate l.length 0) l = a :: l
    rw [UInt8.zero_xor, ih]
theorem cry_zero {key nonce : List UInt8} {N : Nat} (h : key.length = 32 ∧ nonce.length = 12 ∧ 0 ≤ (N : Int) ∧ (N : Int) ≤ 1048576) : cryL key nonce (List.replicate (N : Int).toNat 0) = strQ key nonce (N : Int) := by
  rw [Int.toNat_natCast, cry_ref, List.length_replicate, xorL_zero _ _ (by rw [strQ_len h, Int.toNat_natCast])]
theorem blk_of {key nonce : List UInt8} {k : Nat} (h1 : key.length = 32) (h2 : nonce.length = 12) : blkL key ([nonce, beN (UInt64.ofNat k) 4] : List (List UInt8)).flatten = aesL key (nonce ++ beN (UInt64.ofNat k) 4) := by
  rw [show ([nonce, beN (UInt64.ofNat k) 4] : List (List UInt8)).flatten = nonce ++ beN (UInt64.ofNat k) 4 by simp, blkL_yes ⟨h1, by simp [beN_len, h2]⟩]
theorem cnt_law {key nonce : List UInt8} {N k : Nat} (h1 : key.length = 32) (h2 : nonce.length = 12) (h3 : (N : Int) ≤ 1048576) (hk : 16 * k + 16 ≤ N) :
    blkL key ([nonce, beN (UInt64.ofNat (k : Int).toNat) 4] : List (List UInt8)).flatten = List.drop (16 * (k : Int)).toNat (List.take (16 * (k : Int) + 16).toNat (strQ key nonce (N : Int))) := by
  rw [Int.toNat_natCast, blk_of h1 h2, strQ_yes ⟨h1, h2, by omega, h3⟩, Int.toNat_natCast, show (16 * (k : Int)).toNat = 16 * k by omega, show (16 * (k : Int) + 16).toNat = 16 * k + 16 by omega, strL_block _ _ hk]
theorem cry_len {key nonce b : List UInt8} (h : key.length = 32 ∧ nonce.length = 12 ∧ 0 ≤ (b.length : Int) ∧ (b.length : Int) ≤ 1048576) : (cryL key nonce b).length = b.length := by
  rw [cry_ref, xorL_len, strQ_len h, Int.toNat_natCast, Nat.min_self]
theorem cry_cry {key nonce b : List UInt8} (h : key.length = 32 ∧ nonce.length = 12 ∧ 0 ≤ (b.length : Int) ∧ (b.length : Int) ≤ 1048576) : cryL key nonce (cryL key nonce b) = b := by
  have hl := cry_len h
  rw [cry_ref key nonce (cryL key nonce b), hl, cry_ref key nonce b, xorL_xorL, strQ_len h, Int.toNat_natCast, Nat.min_self, List.take_length]
theorem strQ_take {key nonce : List UInt8} {n m : Nat} (h1 : key.length = 32) (h2 : nonce.length = 12) (hn : n ≤ m) (hm : m ≤ 1048576) : List.drop 0 (List.take (n : Int).toNat (strQ key nonce (m : Int))) = strQ key nonce (n : Int) := by
  rw [List.drop_zero, strQ_yes ⟨h1, h2, by omega, by omega⟩, strQ_yes ⟨h1, h2, by omega, by omega⟩, Int.toNat_natCast, Int.toNat_natCast, strL_take _ _ hn]
theorem back_law {key nonce : List UInt8} {m : Nat} {k : Int} (h1 : key.length = 32) (h2 : nonce.length = 12) (h3 : (m : Int) ≤ 1048576) (h0 : 0 ≤ k) (hk : 16 * k + 16 ≤ (m : Int)) :
    blkL key ([nonce, beN (UInt64.ofNat k.toNat) 4] : List (List UInt8)).flatten = List.drop (16 * k).toNat (List.take (16 * k + 16).toNat (strQ key nonce (m : Int))) := by
  obtain ⟨K, rfl⟩ := Int.eq_ofNat_of_zero_le h0
  exact cnt_law h1 h2 h3 (by omega)
theorem strE0 (key nonce : List UInt8) (n : Int) : decide (strE key nonce n = 0) = decide (key.length = 32 ∧ nonce.length = 12 ∧ 0 ≤ n ∧ n ≤ 1048576) := by
  by_cases h : key.length = 32 ∧ nonce.length = 12 ∧ 0 ≤ n ∧ n ≤ 1048576
  · rw [strE_yes h, decide_eq_true h]; rfl
  · rw [strE_no h, decide_eq_false h]; rfl
theorem blkE0 (key b : List UInt8) : decide (blkE key b = 0) = decide (key.length = 32 ∧ b.length = 16) := by
  by_cases h : key.length = 32 ∧ b.length = 16
  · rw [blkE_yes h, decide_eq_true h]; rfl
  · rw [blkE_no h, decide_eq_false h]; rfl
theorem lim_len (K M : Nat) (n : Int) (h : K = 32 ∧ M = 12 ∧ 0 ≤ n) : ((strQ (List.replicate K 0) (List.replicate M 0) n).length : Int) = (if n < 0 then 0 else n) * (if decide (n ≤ 1048576) = true then 1 else 0) := by
  rw [if_neg (by omega)]
  by_cases hz : n ≤ 1048576
  · rw [strQ_len (by simp only [List.length_replicate]; omega), decide_eq_true hz, if_pos rfl]; omega
  · rw [strQ_no (by simp only [List.length_replicate]; omega), decide_eq_false hz, if_neg (by decide)]; simp
end Go.X
