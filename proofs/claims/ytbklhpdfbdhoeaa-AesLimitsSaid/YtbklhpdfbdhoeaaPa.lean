/-
  Plain functions of AES and their laws: products of the field, the box, the keys of rounds, a block, streams. No program here.
-/
import Derived.Test.YtbklhpdfbdhoeaaPl
import Derived.Test.YtbklhpdfbdhoeaaX15
set_option linter.unusedVariables false
set_option maxRecDepth 100000
namespace Go.X
def powT : List UInt8 := [1, 3, 5, 15, 17, 51, 85, 255, 26, 46, 114, 150, 161, 248, 19, 53, 95, 225, 56, 72, 216, 115, 149, 164, 247, 2, 6, 10, 30, 34, 102, 170, 229, 52, 92, 228, 55, 89, 235, 38, 106, 190, 217, 112, 144, 171, 230, 49, 83, 245, 4, 12, 20, 60, 68, 204, 79, 209, 104, 184, 211, 110, 178, 205, 76, 212, 103, 169, 224, 59, 77, 215, 98, 166, 241, 8, 24, 40, 120, 136, 131, 158, 185, 208, 107, 189, 220, 127, 129, 152, 179, 206, 73, 219, 118, 154, 181, 196, 87, 249, 16, 48, 80, 240, 11, 29, 39, 105, 187, 214, 97, 163, 254, 25, 43, 125, 135, 146, 173, 236, 47, 113, 147, 174, 233, 32, 96, 160, 251, 22, 58, 78, 210, 109, 183, 194, 93, 231, 50, 86, 250, 21, 63, 65, 195, 94, 226, 61, 71, 201, 64, 192, 91, 237, 44, 116, 156, 191, 218, 117, 159, 186, 213, 100, 172, 239, 42, 126, 130, 157, 188, 223, 122, 142, 137, 128, 155, 182, 193, 88, 232, 35, 101, 175, 234, 37, 111, 177, 200, 67, 197, 84, 252, 31, 33, 99, 165, 244, 7, 9, 27, 45, 119, 153, 176, 203, 70, 202, 69, 207, 74, 222, 121, 139, 134, 145, 168, 227, 62, 66, 198, 81, 243, 14, 18, 54, 90, 238, 41, 123, 141, 140, 143, 138, 133, 148, 167, 242, 13, 23, 57, 75, 221, 124, 132, 151, 162, 253, 28, 36, 108, 180, 199, 82, 246]
def atT : List Nat := [0, 0, 25, 1, 50, 2, 26, 198, 75, 199, 27, 104, 51, 238, 223, 3, 100, 4, 224, 14, 52, 141, 129, 239, 76, 113, 8, 200, 248, 105, 28, 193, 125, 194, 29, 181, 249, 185, 39, 106, 77, 228, 166, 114, 154, 201, 9, 120, 101, 47, 138, 5, 33, 15, 225, 36, 18, 240, 130, 69, 53, 147, 218, 142, 150, 143, 219, 189, 54, 208, 206, 148, 19, 92, 210, 241, 64, 70, 131, 56, 102, 221, 253, 48, 191, 6, 139, 98, 179, 37, 226, 152, 34, 136, 145, 16, 126, 110, 72, 195, 163, 182, 30, 66, 58, 107, 40, 84, 250, 133, 61, 186, 43, 121, 10, 21, 155, 159, 94, 202, 78, 212, 172, 229, 243, 115, 167, 87, 175, 88, 168, 80, 244, 234, 214, 116, 79, 174, 233, 213, 231, 230, 173, 232, 44, 215, 117, 122, 235, 22, 11, 245, 89, 203, 95, 176, 156, 169, 81, 160, 127, 12, 246, 111, 23, 196, 73, 236, 216, 67, 31, 45, 164, 118, 123, 183, 204, 187, 62, 90, 251, 96, 177, 134, 59, 82, 161, 108, 170, 85, 41, 157, 151, 178, 135, 144, 97, 190, 220, 252, 188, 149, 207, 205, 55, 63, 91, 209, 83, 57, 132, 60, 65, 162, 109, 71, 20, 42, 158, 93, 86, 242, 211, 171, 68, 17, 146, 217, 35, 32, 46, 137, 180, 124, 184, 38, 119, 153, 227, 165, 103, 74, 237, 222, 197, 49, 254, 24, 13, 99, 140, 128, 192, 247, 112, 7]
def boxT : List UInt8 := [99, 124, 119, 123, 242, 107, 111, 197, 48, 1, 103, 43, 254, 215, 171, 118, 202, 130, 201, 125, 250, 89, 71, 240, 173, 212, 162, 175, 156, 164, 114, 192, 183, 253, 147, 38, 54, 63, 247, 204, 52, 165, 229, 241, 113, 216, 49, 21, 4, 199, 35, 195, 24, 150, 5, 154, 7, 18, 128, 226, 235, 39, 178, 117, 9, 131, 44, 26, 27, 110, 90, 160, 82, 59, 214, 179, 41, 227, 47, 132, 83, 209, 0, 237, 32, 252, 177, 91, 106, 203, 190, 57, 74, 76, 88, 207, 208, 239, 170, 251, 67, 77, 51, 133, 69, 249, 2, 127, 80, 60, 159, 168, 81, 163, 64, 143, 146, 157, 56, 245, 188, 182, 218, 33, 16, 255, 243, 210, 205, 12, 19, 236, 95, 151, 68, 23, 196, 167, 126, 61, 100, 93, 25, 115, 96, 129, 79, 220, 34, 42, 144, 136, 70, 238, 184, 20, 222, 94, 11, 219, 224, 50, 58, 10, 73, 6, 36, 92, 194, 211, 172, 98, 145, 149, 228, 121, 231, 200, 55, 109, 141, 213, 78, 169, 108, 86, 244, 234, 101, 122, 174, 8, 186, 120, 37, 46, 28, 166, 180, 198, 232, 221, 116, 31, 75, 189, 139, 138, 112, 62, 181, 102, 72, 3, 246, 14, 97, 53, 87, 185, 134, 193, 29, 158, 225, 248, 152, 17, 105, 217, 142, 148, 155, 30, 135, 233, 206, 85, 40, 223, 140, 161, 137, 13, 191, 230, 66, 104, 65, 153, 45, 15, 176, 84, 187, 22]

/-- Twice a byte, in the field. -/
def tw (b : UInt8) : UInt8 := shl_u8 b 1 ^^^ shr_u8 b 7 * 27
def gmF : Nat → UInt8 → UInt8 → UInt8 → UInt8
  | 0, _, _, r => r
  | k + 1, a, b, r => gmF k (tw a) (shr_u8 b 1) (r ^^^ a * (b &&& 1))
/-- A product of the field, put over r. -/
def gm (a b r : UInt8) : UInt8 := gmF 8 a b r
theorem shr1_toNat (b : UInt8) : (shr_u8 b 1).toNat = b.toNat / 2 := by
  unfold shr_u8
  rw [UInt8.toNat_ofNat']
  have := b.toNat_lt
  rw [Nat.mod_eq_of_lt (by simp; omega)]
theorem u8_mul_zero (a : UInt8) : a * 0 = 0 := by simp
theorem u8_xor_zero (a : UInt8) : a ^^^ 0 = a := by simp
theorem gmF_zero : ∀ (k : Nat) (a r : UInt8), gmF k a 0 r = r
  | 0, _, _ => rfl
  | k + 1, a, r => by
    rw [gmF, show shr_u8 0 1 = 0 from rfl, gmF_zero k, show (0 : UInt8) &&& 1 = 0 from rfl, u8_mul_zero, u8_xor_zero]
theorem gmF_more : ∀ (k : Nat) (a b r : UInt8), b.toNat < 2 ^ k → gmF (k + 1) a b r = gmF k a b r
  | 0, a, b, r, h => by
    have : b = 0 := by apply UInt8.toNat_inj.1; simpa using h
    subst this; rw [gmF_zero, gmF_zero]
  | k + 1, a, b, r, h => by
    rw [gmF, gmF_more k _ _ _ (by rw [shr1_toNat]; rw [Nat.pow_succ] at h; omega)]; rfl
theorem gm_zero (a r : UInt8) : gm a 0 r = r := gmF_zero 8 a r
theorem gm_step (a b r : UInt8) : gm (tw a) (shr_u8 b 1) (r ^^^ a * (b &&& 1)) = gm a b r := by
  unfold gm
  rw [gmF_more 7 _ _ _ (by rw [shr1_toNat]; have := b.toNat_lt; omega)]; rfl
theorem all8 {p : UInt8 → Prop} [DecidablePred p] (h : ∀ i : _root_.Fin 256, p (UInt8.ofNat i.1)) (x : UInt8) : p x := by
  have := h ⟨x.toNat, x.toNat_lt⟩
  rwa [show UInt8.ofNat x.toNat = x from UInt8.ofNat_toNat] at this
theorem bit1 : ∀ (b : UInt8), b &&& 1 = 0 ∨ b &&& 1 = 1 := all8 (by decide +kernel)
theorem gm_bit1 {a b r : UInt8} (h : b &&& 1 = 1) : r ^^^ a = r ^^^ a * (b &&& 1) := by rw [h]; simp
theorem gm_bit0 {a b r : UInt8} (h : b &&& 1 ≠ 1) : r = r ^^^ a * (b &&& 1) := by
  rcases bit1 b with h0 | h0
  · rw [h0]; simp
  · exact absurd h0 h
theorem tw_high : ∀ (a : UInt8), tw a = if shr_u8 a 7 = 1 then shl_u8 a 1 ^^^ 27 else shl_u8 a 1 := all8 (by decide +kernel)
theorem gm_2 : ∀ (a : UInt8), gm a 2 0 = tw a := all8 (by decide +kernel)
theorem gm_3 : ∀ (a : UInt8), gm a 3 0 = tw a ^^^ a := all8 (by decide +kernel)
def bt (b : UInt8) (i : Nat) : UInt8 := b &&& UInt8.ofNat (2 ^ i)
theorem bt_repr : ∀ (b : UInt8), b = bt b 0 ^^^ bt b 1 ^^^ bt b 2 ^^^ bt b 3 ^^^ bt b 4 ^^^ bt b 5 ^^^ bt b 6 ^^^ bt b 7 := all8 (by decide +kernel)
theorem bt_or : ∀ (i : _root_.Fin 8) (b : _root_.Fin 256), bt (UInt8.ofNat b.1) i.1 = 0 ∨ bt (UInt8.ofNat b.1) i.1 = UInt8.ofNat (2 ^ i.1) := by decide +kernel
theorem tw_bit : ∀ (i : _root_.Fin 8) (a : _root_.Fin 256), tw (UInt8.ofNat a.1 ^^^ UInt8.ofNat (2 ^ i.1)) = tw (UInt8.ofNat a.1) ^^^ tw (UInt8.ofNat (2 ^ i.1)) := by decide +kernel
theorem tw_step (a b : UInt8) (i : Nat) (hi : i < 8) : tw (a ^^^ bt b i) = tw a ^^^ tw (bt b i) := by
  have h1 := bt_or ⟨i, hi⟩ ⟨b.toNat, b.toNat_lt⟩
  have h2 := tw_bit ⟨i, hi⟩ ⟨a.toNat, a.toNat_lt⟩
  simp only [UInt8.ofNat_toNat] at h1 h2
  rcases h1 with h | h
  · rw [h, u8_xor_zero, show tw 0 = 0 from rfl, u8_xor_zero]
  · rw [h]; exact h2
theorem tw_xor (a b : UInt8) : tw (a ^^^ b) = tw a ^^^ tw b := by
  have key : ∀ x : UInt8, tw (x ^^^ b) = tw x ^^^ tw (bt b 0) ^^^ tw (bt b 1) ^^^ tw (bt b 2) ^^^ tw (bt b 3) ^^^ tw (bt b 4) ^^^ tw (bt b 5) ^^^ tw (bt b 6) ^^^ tw (bt b 7) := fun x => by
    have e : x ^^^ b = x ^^^ bt b 0 ^^^ bt b 1 ^^^ bt b 2 ^^^ bt b 3 ^^^ bt b 4 ^^^ bt b 5 ^^^ bt b 6 ^^^ bt b 7 := by
      conv => lhs; rw [bt_repr b]
      simp only [UInt8.xor_assoc]
    rw [e, tw_step _ b 7 (by decide), tw_step _ b 6 (by decide), tw_step _ b 5 (by decide), tw_step _ b 4 (by decide), tw_step _ b 3 (by decide), tw_step _ b 2 (by decide), tw_step _ b 1 (by decide), tw_step _ b 0 (by decide)]
  have h0 := key 0
  rw [UInt8.zero_xor, show tw 0 = 0 from rfl, UInt8.zero_xor] at h0
  rw [key a, h0]
  simp only [UInt8.xor_assoc]
/-- The inverse, by its power. -/
def invP (b : UInt8) : Nat → UInt8
  | 0 => 1
  | k + 1 => if k < 7 then gm (gm (invP b k) (invP b k) 0) b 0 else gm (invP b k) (invP b k) 0
def rot8 (x : UInt8) (m : Nat) : UInt8 := shl_u8 x m ||| shr_u8 x (8 - m)
def rotX (x : UInt8) : Nat → UInt8
  | 0 => x
  | k + 1 => rotX x k ^^^ rot8 x (k + 1)
def boxP (b : UInt8) : UInt8 := rotX (invP b 8) 4 ^^^ 99
theorem boxP_tab : ∀ (b : UInt8), boxP b = boxT.getD b.toNat 0 := all8 (by decide +kernel)
/-- The document's: of each number its inverse by powers of 3. -/
def invT (i : Nat) : UInt8 := if i = 0 then 0 else powT.getD ((255 - atT.getD i 0) % 255) 0
def rotR (x : UInt8) : Nat → UInt8
  | 0 => 99
  | k + 1 => rotR x k ^^^ (shl_u8 x k ||| shr_u8 x (8 - k))
theorem refbox_tab : ∀ i : _root_.Fin 256, rotR (invT i.1) 5 = boxT.getD i.1 0 := by decide +kernel
theorem pow_next : ∀ i : _root_.Fin 254, gm (powT.getD i.1 0) 3 0 = powT.getD (i.1 + 1) 0 := by decide +kernel
theorem pow_last : gm (powT.getD 254 0) 3 0 = 1 := by decide +kernel
theorem at_pow : ∀ i : _root_.Fin 255, atT.getD (powT.getD i.1 0).toNat 0 = i.1 ∧ powT.getD i.1 0 ≠ 0 := by decide +kernel
theorem at_inj : ∀ i : _root_.Fin 256, 0 < i.1 → (powT.getD (atT.getD i.1 0) 0).toNat = i.1 ∧ atT.getD i.1 0 < 255 := by decide +kernel
theorem boxT_len : boxT.length = 256 := rfl
theorem powT_len : powT.length = 255 := rfl
theorem atT_len : atT.length = 256 := rfl
def S8 (x : UInt8) : UInt8 := boxT.getD x.toNat 0
/-- The number of a round's key. -/
def rc : Nat → UInt8
  | 0 => 1
  | n + 1 => tw (rc n)
/-- The next word of the keys of rounds: behind i words, l. -/
def kword (l : List UInt8) (i : Nat) : List UInt8 :=
  let t := l.drop (4 * i - 4)
  let u := if i % 8 = 0 then [S8 (t.getD 1 0) ^^^ rc ((i - 1) / 8), S8 (t.getD 2 0), S8 (t.getD 3 0), S8 (t.getD 0 0)]
    else if i % 8 = 4 then [S8 (t.getD 0 0), S8 (t.getD 1 0), S8 (t.getD 2 0), S8 (t.getD 3 0)]
    else [t.getD 0 0, t.getD 1 0, t.getD 2 0, t.getD 3 0]
  (List.range 4).map fun k => l.getD (4 * i - 32 + k) 0 ^^^ u.getD k 0
/-- The keys of rounds: n words behind the key's eight. -/
def kx (key : List UInt8) : Nat → List UInt8
  | 0 => key
  | n + 1 => kx key n ++ kword (kx key n) (n + 8)
theorem kword_len (l : List UInt8) (i : Nat) : (kword l i).length = 4 := by simp [kword]
theorem kx_len (key : List UInt8) (h : key.length = 32) : ∀ n, (kx key n).length = 4 * (n + 8)
  | 0 => by rw [kx, h]
  | n + 1 => by rw [kx, List.length_append, kx_len key h n, kword_len]; omega
theorem u8_one {a : UInt8} (h : (a.toNat : Int) = 1) : a = 1 := by apply UInt8.toNat_inj.1; show a.toNat = 1; omega
theorem u8_one_ne {a : UInt8} (h : ¬ (a.toNat : Int) = 1) : a ≠ 1 := by intro e; subst e; exact h rfl
theorem tw_pos {a : UInt8} (h : shr_u8 a 7 = 1) : shl_u8 a 1 ^^^ 27 = tw a := by rw [tw_high, if_pos h]
theorem tw_neg {a : UInt8} (h : shr_u8 a 7 ≠ 1) : shl_u8 a 1 = tw a := by rw [tw_high, if_neg h]
theorem gm_next {a b r x y z : UInt8} (h : gm x y z = gm a b r) : gm (tw x) (shr_u8 y 1) (z ^^^ x * (y &&& 1)) = gm a b r := by rw [gm_step]; exact h
theorem gm_end {a b r x y z : UInt8} (h : gm x y z = gm a b r) (hy : ¬ 0 < (y.toNat : Int)) : z = gm a b r := by
  have : y = 0 := by apply UInt8.toNat_inj.1; show y.toNat = 0; omega
  subst this; rw [gm_zero] at h; exact h
theorem shr1_lt {y : UInt8} (hy : 0 < (y.toNat : Int)) : (shr_u8 y 1).toNat < y.toNat := by rw [shr1_toNat]; omega
theorem rot8_law (x : UInt8) {m : Nat} (h : 1 ≤ m ∧ m ≤ 7) :
    (shl_u8 x ((UInt64.ofNat (m : Int).toNat &&& 7).toNat : Int).toNat ||| shr_u8 x ((8 - (UInt64.ofNat (m : Int).toNat &&& 7)).toNat : Int).toNat) = rot8 x m := by
  rcases (by omega : m = 1 ∨ m = 2 ∨ m = 3 ∨ m = 4 ∨ m = 5 ∨ m = 6 ∨ m = 7) with rfl | rfl | rfl | rfl | rfl | rfl | rfl <;> rfl
def boxF (j : Nat) : UInt8 := S8 (UInt8.ofNat j)
theorem boxF_all : (List.range 256).map boxF = boxT := by decide +kernel
theorem boxF_fill : fillU boxF (List.replicate 256 0) 256 = boxT := by rw [fillU_all _ _ _ (by simp), List.length_replicate, boxF_all]
/-- What a word is put over. -/
def kU (l : List UInt8) (i : Nat) : List UInt8 :=
  let t := l.drop (4 * i - 4)
  if i % 8 = 0 then [S8 (t.getD 1 0) ^^^ rc ((i - 1) / 8), S8 (t.getD 2 0), S8 (t.getD 3 0), S8 (t.getD 0 0)]
    else if i % 8 = 4 then [S8 (t.getD 0 0), S8 (t.getD 1 0), S8 (t.getD 2 0), S8 (t.getD 3 0)]
    else [t.getD 0 0, t.getD 1 0, t.getD 2 0, t.getD 3 0]
theorem kU_len (l : List UInt8) (i : Nat) : (kU l i).length = 4 := by 
  unfold kU; simp only; split
  · rfl
  · split <;> rfl
theorem kword_get (l : List UInt8) (i k : Nat) (hk : k < 4) : (kword l i).getD k 0 = l.getD (4 * i - 32 + k) 0 ^^^ (kU l i).getD k 0 := by
  rcases (by omega : k = 0 ∨ k = 1 ∨ k = 2 ∨ k = 3) with rfl | rfl | rfl | rfl <;> rfl
/-- The 240 bytes while the n-th word behind the key comes, k of its bytes there. -/
def kP (key : List UInt8) (n k : Nat) : List UInt8 := (kx key n ++ (kword (kx key n) (n + 8)).take k) ++ List.replicate (240 - 4 * (n + 8) - k) 0
theorem kP_len (key : List UInt8) (h : key.length = 32) (n k : Nat) (hn : n < 52) (hk : k ≤ 4) : (kP key n k).length = 240 := by
  simp [kP, kx_len key h, kword_len]; omega
theorem getD_left {α : Type} (A Z : List α) (i : Nat) (d : α) (h : i < A.length) : (A ++ Z).getD i d = A.getD i d := by
  rw [List.getD_eq_getElem?_getD, List.getElem?_append_left h, List.getD_eq_getElem?_getD]
theorem kP_set (key : List UInt8) (h : key.length = 32) (n k : Nat) (hn : n < 52) (hk : k < 4) :
    (kP key n k).set (4 * (n + 8) + k) ((kP key n k).getD (4 * (n + 8) + k - 32) 0 ^^^ (kU (kx key n) (n + 8)).getD k 0) = kP key n (k + 1) := by
  have hl := kx_len key h n
  have hg : (kP key n k).getD (4 * (n + 8) + k - 32) 0 = (kx key n).getD (4 * (n + 8) - 32 + k) 0 := by
    unfold kP
    rw [List.append_assoc, getD_left _ _ _ _ (by omega)]
    congr 1; omega
  rw [hg, ← kword_get _ _ _ hk]
  unfold kP
  rw [show 240 - 4 * (n + 8) - k = (240 - 4 * (n + 8) - (k + 1)) + 1 by omega, set_front _ _ _ _ (by simp [hl, kword_len]; omega)]
  congr 1
  rw [List.append_assoc]
  congr 1
  rw [List.take_add_one, List.getElem?_eq_getElem (by rw [kword_len]; exact hk)]
  rw [List.getD_eq_getElem?_getD, List.getElem?_eq_getElem (by rw [kword_len]; exact hk)]; rfl
theorem kP_next (key : List UInt8) (n : Nat) (hn : n < 52) : kP key n 4 = kP key (n + 1) 0 := by
  unfold kP
  rw [List.take_of_length_le (by rw [kword_len]; exact Nat.le_refl _), List.take_zero, List.append_nil, kx, show 240 - 4 * (n + 8) - 4 = 240 - 4 * (n + 1 + 8) - 0 by omega]
theorem kP_end (key : List UInt8) : kP key 52 0 = kx key 52 := by simp [kP]
theorem kP_last (key : List UInt8) (h : key.length = 32) (n : Nat) : (((kP key n 0).take (4 * (n + 8))).drop (4 * (n + 8) - 4)).take 4 = (kx key n).drop (4 * (n + 8) - 4) := by
  have hl := kx_len key h n
  unfold kP
  rw [List.take_zero, List.append_nil, List.take_append_of_le_length (by omega), List.take_of_length_le (l := kx key n) (by omega)]
  exact List.take_of_length_le (by simp [hl]; omega)
theorem copy_keys (key : List UInt8) (h : key.length = 32) :
    (List.take 0 (List.map (fun x : UInt8 => B x) (List.replicate 240 0)) ++ List.take (240 - 0) (List.map (fun x : UInt8 => B x) key) ++ List.drop (0 + min (List.map (fun x : UInt8 => B x) key).length (240 - 0)) (List.map (fun x : UInt8 => B x) (List.replicate 240 0))) = (kP key 0 0).map fun x => B x := by
  have e1 : List.take (240 - 0) (List.map (fun x : UInt8 => B x) key) = List.map (fun x => B x) key := List.take_of_length_le (by simp [h])
  rw [List.take_zero, List.nil_append, e1]
  simp [kP, kx, h]
theorem rc_up {n : Nat} (h : n % 8 = 0) : tw (rc ((n + 7) / 8)) = rc ((n + 1 + 7) / 8) := by rw [show (n + 1 + 7) / 8 = (n + 7) / 8 + 1 by omega]; rfl
theorem rc_same {n : Nat} (h : n % 8 ≠ 0) : rc ((n + 7) / 8) = rc ((n + 1 + 7) / 8) := by rw [show (n + 1 + 7) / 8 = (n + 7) / 8 by omega]
theorem drop4_eq {t : List UInt8} (h : t.length = 4) : t = [t.getD 0 0, t.getD 1 0, t.getD 2 0, t.getD 3 0] := by
  match t, h with
  | [a, b, c, d], _ => rfl
theorem kU_0 {l : List UInt8} {i : Nat} (h : i % 8 = 0) : kU l i = [S8 ((l.drop (4 * i - 4)).getD 1 0) ^^^ rc ((i - 1) / 8), S8 ((l.drop (4 * i - 4)).getD 2 0), S8 ((l.drop (4 * i - 4)).getD 3 0), S8 ((l.drop (4 * i - 4)).getD 0 0)] := by unfold kU; simp only; rw [if_pos h]
theorem kU_4 {l : List UInt8} {i : Nat} (h : i % 8 = 4) : kU l i = [S8 ((l.drop (4 * i - 4)).getD 0 0), S8 ((l.drop (4 * i - 4)).getD 1 0), S8 ((l.drop (4 * i - 4)).getD 2 0), S8 ((l.drop (4 * i - 4)).getD 3 0)] := by unfold kU; simp only; rw [if_neg (by omega), if_pos h]
theorem kU_e {l : List UInt8} {i : Nat} (hl : l.length = 4 * i) (hi : 1 ≤ i) (h : ¬ i % 8 = 0) (h' : ¬ i % 8 = 4) : kU l i = l.drop (4 * i - 4) := by
  unfold kU; simp only; rw [if_neg h, if_neg h']; exact (drop4_eq (by rw [List.length_drop, hl]; omega)).symm
def xor16 (s w : List UInt8) (at_ : Nat) : List UInt8 := (List.range 16).map fun i => s.getD i 0 ^^^ w.getD (at_ + i) 0
def sub16 (s : List UInt8) : List UInt8 := (List.range 16).map fun i => S8 (s.getD ((i + i % 4 * 4) % 16) 0)
/-- A byte of a mixed column: itself and the three behind it. -/
def mixB (a b c d : UInt8) : UInt8 := gm a 2 0 ^^^ gm b 3 0 ^^^ c ^^^ d
def mix16 (t : List UInt8) : List UInt8 := (List.range 16).map fun i => mixB (t.getD (i / 4 * 4 + i % 4) 0) (t.getD (i / 4 * 4 + (i % 4 + 1) % 4) 0) (t.getD (i / 4 * 4 + (i % 4 + 2) % 4) 0) (t.getD (i / 4 * 4 + (i % 4 + 3) % 4) 0)
theorem u8_xor_comm (a b : UInt8) : a ^^^ b = b ^^^ a := UInt8.xor_comm a b
theorem u8_xor_assoc (a b c : UInt8) : a ^^^ b ^^^ c = a ^^^ (b ^^^ c) := UInt8.xor_assoc a b c
theorem mix_law (a b c d : UInt8) : a ^^^ (a ^^^ b ^^^ c ^^^ d) ^^^ tw (a ^^^ b) = mixB a b c d := by
  unfold mixB
  rw [gm_2, gm_3, tw_xor]
  have h : a ^^^ (a ^^^ b ^^^ c ^^^ d) = b ^^^ c ^^^ d := by
    rw [u8_xor_assoc a b, u8_xor_assoc a, ← u8_xor_assoc a a, UInt8.xor_self, UInt8.zero_xor]
  rw [h]
  generalize tw a = x
  generalize tw b = y
  apply UInt8.toNat_inj.1
  simp only [UInt8.toNat_xor]
  ac_rfl
theorem mix_law2 (a b c d : UInt8) : b ^^^ (a ^^^ b ^^^ c ^^^ d) ^^^ tw (b ^^^ c) = mixB b c d a := by
  rw [← mix_law b c d a]; congr 2
  apply UInt8.toNat_inj.1; simp only [UInt8.toNat_xor]; ac_rfl
theorem mix_law3 (a b c d : UInt8) : c ^^^ (a ^^^ b ^^^ c ^^^ d) ^^^ tw (c ^^^ d) = mixB c d a b := by
  rw [← mix_law c d a b]; congr 2
  apply UInt8.toNat_inj.1; simp only [UInt8.toNat_xor]; ac_rfl
theorem mix_law4 (a b c d : UInt8) : d ^^^ (a ^^^ b ^^^ c ^^^ d) ^^^ tw (d ^^^ a) = mixB d a b c := by
  rw [← mix_law d a b c]; congr 2
  apply UInt8.toNat_inj.1; simp only [UInt8.toNat_xor]; ac_rfl
def xorF (s w : List UInt8) (a i : Nat) : UInt8 := s.getD i 0 ^^^ w.getD (a + i) 0
theorem xor16_fill (s w x : List UInt8) (a : Nat) (hx : x.length = 16) : fillU (xorF s w a) x 16 = xor16 s w a := by rw [fillU_all _ _ _ (by omega), hx]; rfl
def subF (s : List UInt8) (i : Nat) : UInt8 := S8 (s.getD ((i + i % 4 * 4) % 16) 0)
theorem sub16_fill (s x : List UInt8) (hx : x.length = 16) : fillU (subF s) x 16 = sub16 s := by rw [fillU_all _ _ _ (by omega), hx]; rfl
theorem sub16_len (s : List UInt8) : (sub16 s).length = 16 := by simp [sub16]
theorem mix16_len (s : List UInt8) : (mix16 s).length = 16 := by simp [mix16]
/-- The columns, the first c of them mixed. -/
def mixP (t : List UInt8) (c : Nat) : List UInt8 := (mix16 t).take (4 * c) ++ t.drop (4 * c)
theorem mixP_len (t : List UInt8) (h : t.length = 16) (c : Nat) (hc : c ≤ 4) : (mixP t c).length = 16 := by simp [mixP, mix16_len, h]; omega
theorem mixP_get (t : List UInt8) (h : t.length = 16) (c i : Nat) (hc : c ≤ 4) (hi : 4 * c ≤ i) : (mixP t c).getD i 0 = t.getD i 0 := by
  unfold mixP
  rw [List.getD_eq_getElem?_getD, List.getElem?_append_right (by simp [mix16_len]; omega), List.getElem?_drop, List.getD_eq_getElem?_getD]
  congr 2; simp [mix16_len]; omega
theorem mix16_col (t : List UInt8) (c : Nat) (hc : c < 4) : ((mix16 t).drop (4 * c)).take 4 = [mixB (t.getD (4 * c) 0) (t.getD (4 * c + 1) 0) (t.getD (4 * c + 2) 0) (t.getD (4 * c + 3) 0), mixB (t.getD (4 * c + 1) 0) (t.getD (4 * c + 2) 0) (t.getD (4 * c + 3) 0) (t.getD (4 * c) 0), mixB (t.getD (4 * c + 2) 0) (t.getD (4 * c + 3) 0) (t.getD (4 * c) 0) (t.getD (4 * c + 1) 0), mixB (t.getD (4 * c + 3) 0) (t.getD (4 * c) 0) (t.getD (4 * c + 1) 0) (t.getD (4 * c + 2) 0)] := by
  rcases (by omega : c = 0 ∨ c = 1 ∨ c = 2 ∨ c = 3) with rfl | rfl | rfl | rfl <;> rfl
theorem mixP_next (t : List UInt8) (h : t.length = 16) (c : Nat) (hc : c < 4) :
    (mixP t c).take (4 * c) ++ ((mix16 t).drop (4 * c)).take 4 ++ (mixP t c).drop (4 * c + 4) = mixP t (c + 1) := by
  have hl := mix16_len t
  unfold mixP
  have e1 : ((mix16 t).take (4 * c) ++ t.drop (4 * c)).take (4 * c) = (mix16 t).take (4 * c) := by
    rw [List.take_append_of_le_length (by simp [hl]; omega), List.take_of_length_le (by simp [hl]; omega)]
  have e2 : ((mix16 t).take (4 * c) ++ t.drop (4 * c)).drop (4 * c + 4) = t.drop (4 * (c + 1)) := by
    rw [List.drop_append, List.drop_of_length_le (by simp [hl]; omega), List.nil_append, List.drop_drop]
    congr 1; simp [hl]; omega
  rw [e1, e2]
  congr 1
  rw [show 4 * (c + 1) = 4 * c + 4 by omega, List.take_add]
theorem mixP_zero (t : List UInt8) : mixP t 0 = t := by simp [mixP]
theorem mixP_four (t : List UInt8) (h : t.length = 16) : mixP t 4 = mix16 t := by
  unfold mixP
  rw [List.take_of_length_le (by simp [mix16_len]), List.drop_of_length_le (by omega), List.append_nil]
/-- A block behind n rounds. -/
def encR (w s : List UInt8) : Nat → List UInt8
  | 0 => xor16 s w 0
  | n + 1 => xor16 (if n + 1 < 14 then mix16 (sub16 (encR w s n)) else sub16 (encR w s n)) w (16 * (n + 1))
theorem copy_col (t : List UInt8) (h : t.length = 16) (k : Nat) (hk : k < 4) (C : List UInt8)
    (hC : C = [mixB ((mixP t k).getD (4 * (k : Int)).toNat 0) ((mixP t k).getD (4 * (k : Int) + 1).toNat 0) ((mixP t k).getD (4 * (k : Int) + 2).toNat 0) ((mixP t k).getD (4 * (k : Int) + 3).toNat 0), mixB ((mixP t k).getD (4 * (k : Int) + 1).toNat 0) ((mixP t k).getD (4 * (k : Int) + 2).toNat 0) ((mixP t k).getD (4 * (k : Int) + 3).toNat 0) ((mixP t k).getD (4 * (k : Int)).toNat 0), mixB ((mixP t k).getD (4 * (k : Int) + 2).toNat 0) ((mixP t k).getD (4 * (k : Int) + 3).toNat 0) ((mixP t k).getD (4 * (k : Int)).toNat 0) ((mixP t k).getD (4 * (k : Int) + 1).toNat 0), mixB ((mixP t k).getD (4 * (k : Int) + 3).toNat 0) ((mixP t k).getD (4 * (k : Int)).toNat 0) ((mixP t k).getD (4 * (k : Int) + 1).toNat 0) ((mixP t k).getD (4 * (k : Int) + 2).toNat 0)]) (D : List Value) (hD : D = List.map (fun x : UInt8 => B x) C) :
    (List.take (4 * k) (List.map (fun x : UInt8 => B x) (mixP t k)) ++ List.take (16 - 4 * k) D ++ List.drop (4 * k + min D.length (16 - 4 * k)) (List.map (fun x : UInt8 => B x) (mixP t k))) = (mixP t (k + 1)).map fun x => B x := by
  subst hD
  have e0 : (4 * (k : Int)).toNat = 4 * k := by omega
  have e1 : (4 * (k : Int) + 1).toNat = 4 * k + 1 := by omega
  have e2 : (4 * (k : Int) + 2).toNat = 4 * k + 2 := by omega
  have e3 : (4 * (k : Int) + 3).toNat = 4 * k + 3 := by omega
  have g : ∀ j, (mixP t k).getD (4 * k + j) 0 = t.getD (4 * k + j) 0 := fun j => mixP_get t h k _ (by omega) (by omega)
  have g0 : (mixP t k).getD (4 * k) 0 = t.getD (4 * k) 0 := g 0
  rw [e0, e1, e2, e3, g0, g 1, g 2, g 3, ← mix16_col t k hk] at hC
  subst hC
  have hl : (((mix16 t).drop (4 * k)).take 4).length = 4 := by simp [mix16_len]; omega
  rw [← mixP_next t h k hk]
  rw [List.length_map, hl, Nat.min_eq_left (by omega), List.take_of_length_le (l := List.map _ (List.take 4 _)) (by rw [List.length_map, hl]; omega)]
  simp [List.map_take, List.map_drop]
theorem encR_next (w s : List UInt8) (n : Nat) : encR w s (n + 1) = xor16 (if n + 1 < 14 then mix16 (sub16 (encR w s n)) else sub16 (encR w s n)) w (16 * (n + 1)) := rfl
/-- AES-256 of a block. -/
def aesL (key s : List UInt8) : List UInt8 := encR (kx key 52) s 14
theorem xor16_len (s w : List UInt8) (a : Nat) : (xor16 s w a).length = 16 := by simp [xor16]
theorem encR_len (w s : List UInt8) : ∀ n, (encR w s n).length = 16
  | 0 => xor16_len _ _ _
  | n + 1 => xor16_len _ _ _
theorem aesL_len (key s : List UInt8) : (aesL key s).length = 16 := encR_len _ _ _
/-- So many blocks of the stream. -/
def strB (key nonce : List UInt8) : Nat → List UInt8
  | 0 => []
  | k + 1 => strB key nonce k ++ aesL key (nonce ++ beN (UInt64.ofNat k) 4)
theorem strB_len (key nonce : List UInt8) : ∀ k, (strB key nonce k).length = 16 * k
  | 0 => rfl
  | k + 1 => by rw [strB, List.length_append, strB_len key nonce k, aesL_len]; omega
/-- So many bytes of the stream. -/
def strL (key nonce : List UInt8) (n : Nat) : List UInt8 := (strB key nonce ((n + 15) / 16)).take n
theorem strL_len (key nonce : List UInt8) (n : Nat) : (strL key nonce n).length = n := by rw [strL, List.length_take, strB_len]; omega
theorem strB_pre (key nonce : List UInt8) (k : Nat) : ∀ j, ∃ t, strB key nonce (k + j) = strB key nonce k ++ t
  | 0 => ⟨[], by simp⟩
  | j + 1 => by
    obtain ⟨t, h⟩ := strB_pre key nonce k j
    exact ⟨t ++ aesL key (nonce ++ beN (UInt64.ofNat (k + j)) 4), by rw [← Nat.add_assoc, strB, h, List.append_assoc]⟩
theorem strL_of (key nonce : List UInt8) {n k : Nat} (h : n ≤ 16 * k) : (strB key nonce k).take n = strL key nonce n := by
  unfold strL
  obtain ⟨t, ht⟩ := strB_pre key nonce ((n + 15) / 16) (k - (n + 15) / 16)
  rw [show (n + 15) / 16 + (k - (n + 15) / 16) = k by omega] at ht
  rw [ht, List.take_append_of_le_length (by rw [strB_len]; omega)]
theorem strL_take (key nonce : List UInt8) {n m : Nat} (h : n ≤ m) : (strL key nonce m).take n = strL key nonce n := by
  rw [← strL_of key nonce (n := m) (k := (m + 15) / 16) (by omega), List.take_take, Nat.min_eq_left h, strL_of _ _ (by omega)]
theorem strL_block (key nonce : List UInt8) {k m : Nat} (h : 16 * k + 16 ≤ m) : ((strL key nonce m).take (16 * k + 16)).drop (16 * k) = aesL key (nonce ++ beN (UInt64.ofNat k) 4) := by
  rw [strL_take _ _ h, ← strL_of key nonce (k := k + 1) (by omega), strB, List.take_of_length_le (by rw [List.length_append, strB_len, aesL_len]; omega), List.drop_left' (strB_len _ _ _)]
end Go.X
