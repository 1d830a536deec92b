/-
  Plain laws of AES: what the layer's calls answer. No program here.
-/
import Derived.Test.YtbklhpdfbdhoeaaPa
set_option linter.unusedVariables false
set_option maxRecDepth 100000
namespace Go.X
def blkL (key b : List UInt8) : List UInt8 := if key.length = 32 ∧ b.length = 16 then aesL key b else []
def blkE (key b : List UInt8) : Int := if key.length = 32 ∧ b.length = 16 then 0 else 1
theorem blkL_no {key b : List UInt8} (h : ¬ (key.length = 32 ∧ b.length = 16)) : blkL key b = [] := if_neg h
theorem blkE_no {key b : List UInt8} (h : ¬ (key.length = 32 ∧ b.length = 16)) : blkE key b = 1 := if_neg h
theorem blkL_yes {key b : List UInt8} (h : key.length = 32 ∧ b.length = 16) : blkL key b = aesL key b := if_pos h
theorem blkE_yes {key b : List UInt8} (h : key.length = 32 ∧ b.length = 16) : blkE key b = 0 := if_pos h
theorem blk_fin {key b : List UInt8} (h : key.length = 32 ∧ b.length = 16) : List.drop 0 (List.take 16 (encR (kx key 52) (List.take 16 b) 14)) = blkL key b := by
  rw [blkL_yes h, List.drop_zero, List.take_of_length_le (by rw [encR_len]; exact Nat.le_refl _), List.take_of_length_le (by omega)]; rfl
def strE (key nonce : List UInt8) (n : Int) : Int := if key.length = 32 ∧ nonce.length = 12 ∧ 0 ≤ n ∧ n ≤ 1048576 then 0 else 1
def strQ (key nonce : List UInt8) (n : Int) : List UInt8 := if key.length = 32 ∧ nonce.length = 12 ∧ 0 ≤ n ∧ n ≤ 1048576 then strL key nonce n.toNat else []
theorem strE_no {key nonce : List UInt8} {n : Int} (h : ¬ (key.length = 32 ∧ nonce.length = 12 ∧ 0 ≤ n ∧ n ≤ 1048576)) : strE key nonce n = 1 := if_neg h
theorem strQ_no {key nonce : List UInt8} {n : Int} (h : ¬ (key.length = 32 ∧ nonce.length = 12 ∧ 0 ≤ n ∧ n ≤ 1048576)) : strQ key nonce n = [] := if_neg h
theorem strE_yes {key nonce : List UInt8} {n : Int} (h : key.length = 32 ∧ nonce.length = 12 ∧ 0 ≤ n ∧ n ≤ 1048576) : strE key nonce n = 0 := if_pos h
theorem strQ_yes {key nonce : List UInt8} {n : Int} (h : key.length = 32 ∧ nonce.length = 12 ∧ 0 ≤ n ∧ n ≤ 1048576) : strQ key nonce n = strL key nonce n.toNat := if_pos h
def cryE (key nonce b : List UInt8) : Int := strE key nonce b.length
def cryL (key nonce b : List UInt8) : List UInt8 := if strE key nonce b.length = 0 then xorL b (strL key nonce b.length) else []
theorem strE_zero {key nonce : List UInt8} {n : Int} (h : strE key nonce n = 0) : key.length = 32 ∧ nonce.length = 12 ∧ 0 ≤ n ∧ n ≤ 1048576 := by
  unfold strE at h; split at h
  · assumption
  · cases h
theorem cry_fin {key nonce b : List UInt8} (h : strE key nonce b.length = 0) : xorL b (strQ key nonce b.length) = cryL key nonce b := by
  rw [cryL, if_pos h, strQ_yes (strE_zero h), Int.toNat_natCast]
theorem cry_no {key nonce b : List UInt8} (h : strE key nonce b.length ≠ 0) : cryL key nonce b = [] := if_neg h
/-- so many bytes, noughts for those that are wanting -/
def firstL (l : List UInt8) (n : Nat) : List UInt8 := l.take n ++ List.replicate (n - l.length) 0
theorem firstL_take {l : List UInt8} {n : Nat} (h : n ≤ l.length) : firstL l n = l.take n := by
  unfold firstL; rw [show n - l.length = 0 by omega]; simp
theorem first_law {l : List UInt8} {n : Nat} : List.take (List.replicate n (0 : UInt8)).length l ++ List.drop (min l.length (List.replicate n (0 : UInt8)).length) (List.replicate n 0) = firstL l n := by
  unfold firstL
  simp
  omega
theorem u32_succ (k : Nat) : UInt32.ofNat k + 1 = UInt32.ofNat (k + 1) := by
  apply UInt32.toNat_inj.1; simp
theorem str_next (key nonce p : List UInt8) (k : Nat) (hn : nonce.length = 12) (hp : p = ((beN (UInt32.ofNat k).toUInt64 8).take 8).drop 4) (hk : k < 4294967296) :
    strB key nonce k ++ List.drop 0 (List.take 16 (encR (kx key 52) (List.take 16 ([nonce, p] : List (List UInt8)).flatten) 14)) = strB key nonce (k + 1) := by
  subst hp
  have e : (UInt32.ofNat k).toUInt64 = UInt64.ofNat k := by
    apply UInt64.toNat_inj.1
    simp
    omega
  rw [strB, put32_take, beN_drop4, e, List.drop_zero, List.take_of_length_le (by rw [encR_len]; exact Nat.le_refl _)]
  congr 1
  have hf : ([nonce, beN (UInt64.ofNat k) 4] : List (List UInt8)).flatten = nonce ++ beN (UInt64.ofNat k) 4 := by simp
  rw [hf, List.take_of_length_le (by simp [hn, beN_len])]; rfl
theorem rstr_next (key nonce : List UInt8) (k : Nat) (hn : nonce.length = 12) :
    strB key nonce k ++ aesL key ([nonce, beN (UInt64.ofNat k) 4] : List (List UInt8)).flatten = strB key nonce (k + 1) := by
  rw [strB, show ([nonce, beN (UInt64.ofNat k) 4] : List (List UInt8)).flatten = nonce ++ beN (UInt64.ofNat k) 4 by simp]
def ibT : List UInt8 := [82, 9, 106, 213, 48, 54, 165, 56, 191, 64, 163, 158, 129, 243, 215, 251, 124, 227, 57, 130, 155, 47, 255, 135, 52, 142, 67, 68, 196, 222, 233, 203, 84, 123, 148, 50, 166, 194, 35, 61, 238, 76, 149, 11, 66, 250, 195, 78, 8, 46, 161, 102, 40, 217, 36, 178, 118, 91, 162, 73, 109, 139, 209, 37, 114, 248, 246, 100, 134, 104, 152, 22, 212, 164, 92, 204, 93, 101, 182, 146, 108, 112, 72, 80, 253, 237, 185, 218, 94, 21, 70, 87, 167, 141, 157, 132, 144, 216, 171, 0, 140, 188, 211, 10, 247, 228, 88, 5, 184, 179, 69, 6, 208, 44, 30, 143, 202, 63, 15, 2, 193, 175, 189, 3, 1, 19, 138, 107, 58, 145, 17, 65, 79, 103, 220, 234, 151, 242, 207, 206, 240, 180, 230, 115, 150, 172, 116, 34, 231, 173, 53, 133, 226, 249, 55, 232, 28, 117, 223, 110, 71, 241, 26, 113, 29, 41, 197, 137, 111, 183, 98, 14, 170, 24, 190, 27, 252, 86, 62, 75, 198, 210, 121, 32, 154, 219, 192, 254, 120, 205, 90, 244, 31, 221, 168, 51, 136, 7, 199, 49, 177, 18, 16, 89, 39, 128, 236, 95, 96, 81, 127, 169, 25, 181, 74, 13, 45, 229, 122, 159, 147, 201, 156, 239, 160, 224, 59, 77, 174, 42, 245, 176, 200, 235, 187, 60, 131, 83, 153, 97, 23, 43, 4, 126, 186, 119, 214, 38, 225, 105, 20, 99, 85, 33, 12, 125]
theorem ib_box : ∀ (x : UInt8), ibT.getD (S8 x).toNat 0 = x := all8 (by decide +kernel)
theorem S8_inj {a b : UInt8} (h : S8 a = S8 b) : a = b := by rw [← ib_box a, h, ib_box b]
theorem S8_ne : ∀ (x : UInt8), (S8 x).toNat ≠ x.toNat := all8 (by decide +kernel)
theorem S8_nn : ∀ (x : UInt8), (S8 x).toNat ≠ (~~~ x).toNat := all8 (by decide +kernel)
theorem box_iff (x y : UInt8) : decide (((S8 x).toNat : Int) = ((S8 y).toNat : Int)) = decide ((x.toNat : Int) = (y.toNat : Int)) := by
  by_cases h : x = y
  · subst h; simp
  · have h2 : S8 x ≠ S8 y := fun e => h (S8_inj e)
    have e1 : ¬ ((x.toNat : Int) = (y.toNat : Int)) := fun e => h (UInt8.toNat_inj.1 (by omega))
    have e2 : ¬ (((S8 x).toNat : Int) = ((S8 y).toNat : Int)) := fun e => h2 (UInt8.toNat_inj.1 (by omega))
    rw [decide_eq_false e1, decide_eq_false e2]
def kA : List UInt8 := fillU (fun i => UInt8.ofNat i) (List.replicate 32 0) 32
def bA : List UInt8 := fillU (fun i => UInt8.ofNat (17 * i)) (List.replicate 16 0) 16
theorem kA_len : kA.length = 32 := by simp [kA, fillU_len]
theorem bA_len : bA.length = 16 := by simp [bA, fillU_len]
theorem aes_awake : (blkL kA bA).take 4 = [142, 162, 183, 202] := by decide +kernel
theorem blkL_len {key b : List UInt8} (h : key.length = 32 ∧ b.length = 16) : (blkL key b).length = 16 := by rw [blkL_yes h, aesL_len]
theorem strQ_len {key nonce : List UInt8} {n : Int} (h : key.length = 32 ∧ nonce.length = 12 ∧ 0 ≤ n ∧ n ≤ 1048576) : (strQ key nonce n).length = n.toNat := by rw [strQ_yes h, strL_len]
/-! ### The document's keys -/
theorem rc_up2 {n : Nat} (h : n % 8 = 0) : gm (rc ((n + 7) / 8)) 2 0 = rc ((n + 1 + 7) / 8) := by rw [gm_2]; exact rc_up h
def kxk (key : List UInt8) (n k : Nat) : List UInt8 := kx key n ++ (kword (kx key n) (n + 8)).take k
theorem kxk_len (key : List UInt8) (h : key.length = 32) (n k : Nat) (hk : k ≤ 4) : (kxk key n k).length = 4 * (n + 8) + k := by simp [kxk, kx_len key h, kword_len]; omega
theorem kxk_zero (key : List UInt8) (n : Nat) : kxk key n 0 = kx key n := by simp [kxk]
theorem kxk_four (key : List UInt8) (n : Nat) : kxk key n 4 = kx key (n + 1) := by
  unfold kxk; rw [List.take_of_length_le (by rw [kword_len]; exact Nat.le_refl _), kx]
theorem kxk_app (key : List UInt8) (h : key.length = 32) (n k : Nat) (hk : k < 4) :
    kxk key n k ++ [(kxk key n k).getD (4 * (n + 8) - 32 + k) 0 ^^^ (kU (kx key n) (n + 8)).getD k 0] = kxk key n (k + 1) := by
  have hl := kx_len key h n
  have hg : (kxk key n k).getD (4 * (n + 8) - 32 + k) 0 = (kx key n).getD (4 * (n + 8) - 32 + k) 0 := by
    unfold kxk; rw [getD_left _ _ _ _ (by omega)]
  rw [hg, ← kword_get _ _ _ hk]
  unfold kxk
  rw [List.append_assoc, List.take_add_one, List.getElem?_eq_getElem (by rw [kword_len]; exact hk), List.getD_eq_getElem?_getD, List.getElem?_eq_getElem (by rw [kword_len]; exact hk)]; rfl
theorem kx_cut (key : List UInt8) (h : key.length = 32) (n : Nat) : List.drop (4 * (n + 8) - 4) (List.take (4 * (n + 8)) (kx key n)) = (kx key n).drop (4 * (n + 8) - 4) := by
  rw [List.take_of_length_le (by rw [kx_len key h]; exact Nat.le_refl _)]
/-! ### The document's tables -/
def powX (i : Nat) : UInt8 := if i < 255 then powT.getD i 0 else 1
theorem powX_zero : powX 0 = 1 := rfl
theorem powX_lt {i : Nat} (h : i < 255) : powX i = powT.getD i 0 := if_pos h
theorem powX_next {i : Nat} (h : i < 255) : gm (powX i) 3 0 = powX (i + 1) := by
  rw [powX_lt h]
  by_cases h1 : i < 254
  · rw [powX_lt (by omega)]; exact pow_next ⟨i, h1⟩
  · obtain rfl : i = 254 := by omega
    exact pow_last
def powF (j : Nat) : UInt8 := powT.getD j 0
theorem powF_all : fillU powF (List.replicate 255 0) 255 = powT := by rw [fillU_all _ _ _ (by simp), List.length_replicate]; decide +kernel
def boxG (j : Nat) : UInt8 := boxT.getD j 0
theorem boxG_all : fillU boxG (List.replicate 256 0) 256 = boxT := by rw [fillU_all _ _ _ (by simp), List.length_replicate]; decide +kernel
def atP (i : Nat) : List Int := (List.range 256).map fun x => if 0 < x ∧ atT.getD x 0 < i then (atT.getD x 0 : Int) else 0
theorem atP_len (i : Nat) : (atP i).length = 256 := by simp [atP]
theorem atP_zero : List.replicate 256 (0 : Int) = atP 0 := by simp [atP]; rfl
theorem atP_get (i x : Nat) (h : x < 256) : (atP i).getD x 0 = if 0 < x ∧ atT.getD x 0 < i then (atT.getD x 0 : Int) else 0 := by
  rw [List.getD_eq_getElem?_getD]; simp [atP, h]
theorem atP_set {i : Nat} (h : i < 255) : (atP i).set (powX i).toNat (i : Int) = atP (i + 1) := by
  rw [powX_lt h]
  obtain ⟨h1, h2⟩ := at_pow ⟨i, h⟩
  simp only at h1 h2
  have hp : 0 < (powT.getD i 0).toNat := by
    rcases Nat.eq_zero_or_pos (powT.getD i 0).toNat with e | e
    · exact absurd (UInt8.toNat_inj.1 e) h2
    · exact e
  apply List.ext_getElem
  · simp [atP]
  · intro x hx hx2
    have hx' : x < 256 := by simpa [atP_len] using hx2
    rw [List.getElem_set]
    simp only [atP, List.getElem_map, List.getElem_range]
    by_cases e : (powT.getD i 0).toNat = x
    · rw [if_pos e, ← e, h1, if_pos ⟨hp, by omega⟩]
    · rw [if_neg e]
      by_cases h0 : 0 < x
      · have h3 := at_inj ⟨x, hx'⟩ h0
        simp only at h3
        have : atT.getD x 0 ≠ i := by intro e2; rw [e2] at h3; exact e h3.1
        by_cases h4 : atT.getD x 0 < i
        · rw [if_pos ⟨h0, h4⟩, if_pos ⟨h0, by omega⟩]
        · rw [if_neg (by omega), if_neg (by omega)]
      · rw [if_neg (by omega), if_neg (by omega)]
theorem at_bd {x : Nat} (h : x < 256) : 0 ≤ (atP 255).getD x 0 ∧ (atP 255).getD x 0 ≤ 254 := by
  rw [atP_get _ _ h]; split <;> omega
theorem inv_get {x : Nat} (h : x < 256) (h0 : 0 < x) : powT.getD ((255 - (atP 255).getD x 0) % 255).toNat 0 = invT x := by
  have h3 := at_inj ⟨x, h⟩ h0
  simp only at h3
  rw [atP_get _ _ h, if_pos ⟨h0, h3.2⟩, invT, if_neg (by omega)]
  congr 1; omega
theorem refbox {x : Nat} (h : x < 256) : rotR (invT x) 5 = boxG x := refbox_tab ⟨x, h⟩
theorem getD_mr {α : Type} (n : Nat) (f : Nat → α) (i : Nat) (d : α) (h : i < n) : ((List.range n).map f).getD i d = f i := by
  rw [List.getD_eq_getElem?_getD, List.getElem?_map, List.getElem?_range h]; rfl
/-! ### Mixing, byte by byte -/
def mixQ (t : List UInt8) (j : Nat) : List UInt8 := (mix16 t).take j ++ t.drop j
theorem mixQ_len (t : List UInt8) (h : t.length = 16) (j : Nat) (hj : j ≤ 16) : (mixQ t j).length = 16 := by simp [mixQ, mix16_len, h]; omega
theorem mixQ_get (t : List UInt8) (h : t.length = 16) (j i : Nat) (hj : j ≤ i) (hi : j ≤ 16) : (mixQ t j).getD i 0 = t.getD i 0 := by
  unfold mixQ
  rw [List.getD_eq_getElem?_getD, List.getElem?_append_right (by simp [mix16_len]; omega), List.getElem?_drop, List.getD_eq_getElem?_getD]
  congr 2; simp [mix16_len]; omega
theorem mixQ_set (t : List UInt8) (h : t.length = 16) (j : Nat) (hj : j < 16) : (mixQ t j).set j ((mix16 t).getD j 0) = mixQ t (j + 1) := by
  have hl := mix16_len t
  unfold mixQ
  rw [List.drop_eq_getElem_cons (by omega)]
  rw [List.set_append_right _ _ (by simp [hl]; omega), show j - ((mix16 t).take j).length = 0 by simp [hl]; omega, List.set_cons_zero]
  rw [List.take_add_one, List.getElem?_eq_getElem (by omega), List.getD_eq_getElem?_getD, List.getElem?_eq_getElem (by omega), List.append_assoc]
  rfl
theorem mixQ_zero (t : List UInt8) : mixQ t 0 = t := by simp [mixQ]
theorem mixQ_all (t : List UInt8) (h : t.length = 16) : mixQ t 16 = mix16 t := by
  unfold mixQ
  rw [List.take_of_length_le (by simp [mix16_len]), List.drop_of_length_le (by omega), List.append_nil]
theorem mixQ_cut (t : List UInt8) (h : t.length = 16) (c r : Nat) (hc : c < 4) (hr : r < 4) : (((mixQ t (4 * c)).take (4 * c + 4)).drop (4 * c)).getD r 0 = t.getD (4 * c + r) 0 := by
  rw [List.getD_eq_getElem?_getD, List.getElem?_drop, List.getElem?_take_of_lt (by omega), ← List.getD_eq_getElem?_getD, mixQ_get t h _ _ (by omega) (by omega)]
theorem mix16_get (t : List UInt8) (c r : Nat) (hc : c < 4) (hr : r < 4) :
    (mix16 t).getD (4 * c + r) 0 = gm (t.getD (4 * c + r) 0) 2 0 ^^^ gm (t.getD (4 * c + (r + 1) % 4) 0) 3 0 ^^^ t.getD (4 * c + (r + 2) % 4) 0 ^^^ t.getD (4 * c + (r + 3) % 4) 0 := by
  have : (mix16 t).getD (4 * c + r) 0 = mixB (t.getD ((4 * c + r) / 4 * 4 + (4 * c + r) % 4) 0) (t.getD ((4 * c + r) / 4 * 4 + ((4 * c + r) % 4 + 1) % 4) 0) (t.getD ((4 * c + r) / 4 * 4 + ((4 * c + r) % 4 + 2) % 4) 0) (t.getD ((4 * c + r) / 4 * 4 + ((4 * c + r) % 4 + 3) % 4) 0) := by
    exact getD_mr 16 (fun i => mixB (t.getD (i / 4 * 4 + i % 4) 0) (t.getD (i / 4 * 4 + (i % 4 + 1) % 4) 0) (t.getD (i / 4 * 4 + (i % 4 + 2) % 4) 0) (t.getD (i / 4 * 4 + (i % 4 + 3) % 4) 0)) _ 0 (by omega)
  rw [this, show (4 * c + r) / 4 * 4 = 4 * c by omega, show (4 * c + r) % 4 = r by omega]; rfl
theorem cr_law (c r : Nat) : (4 * (((c : Int) + (r : Int)) % 4) + (r : Int)).toNat = 4 * ((c + r) % 4) + r := by
  rw [← Int.natCast_add]; omega
theorem cr_bd (c r : Nat) (hr : r < 4) : 0 ≤ 4 * (((c : Int) + (r : Int)) % 4) + (r : Int) ∧ 4 * (((c : Int) + (r : Int)) % 4) + (r : Int) < 16 := by omega
theorem subF_cr (s : List UInt8) (c r : Nat) (hc : c < 4) (hr : r < 4) : S8 (s.getD (4 * ((c + r) % 4) + r) 0) = subF s (4 * c + r) := by
  unfold subF; congr 2; omega
theorem cry_ref (key nonce m : List UInt8) : cryL key nonce m = xorL m (strQ key nonce m.length) := by
  by_cases h : strE key nonce m.length = 0
  · exact (cry_fin h).symm
  · rw [cry_no h]
    have : strQ key nonce m.length = [] := strQ_no (fun h2 => h (strE_yes h2))
    rw [this]; simp [xorL]
end Go.X
