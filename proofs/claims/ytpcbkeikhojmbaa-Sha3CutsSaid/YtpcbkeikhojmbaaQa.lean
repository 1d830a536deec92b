import Derived.Test.YtpcbkeikhojmbaaPA
import Derived.Test.YtpcbkeikhojmbaaXB
/-
  Plain functions of Keccak: the permutation, its rounds. No program here.
-/
set_option linter.unusedVariables false
set_option maxRecDepth 100000
namespace Go.X
/-- Turned to the left. -/
def rolU (x : UInt64) (n : Nat) : UInt64 := shl_u64 x (n % 64) ||| shr_u64 x (64 - n % 64)
theorem rolU_zero (x : UInt64) (n : Nat) (h : n % 64 = 0) : rolU x n = x := by
  unfold rolU
  rw [h]
  apply UInt64.toNat_inj.1
  have e1 : (shl_u64 x 0).toNat = x.toNat := by unfold shl_u64; simp
  have e2 : (shr_u64 x 64).toNat = 0 := by
    unfold shr_u64
    have := x.toNat_lt
    rw [Nat.div_eq_of_lt (by omega)]; rfl
  rw [UInt64.toNat_or, e1, show 64 - 0 = 64 from rfl, e2, Nat.or_zero]
/-- A column's sum. -/
def thC (a : List UInt64) (x : Nat) : UInt64 := a.getD x 0 ^^^ a.getD (x + 5) 0 ^^^ a.getD (x + 10) 0 ^^^ a.getD (x + 15) 0 ^^^ a.getD (x + 20) 0
def thD (a : List UInt64) (x : Nat) : UInt64 := thC a ((x + 4) % 5) ^^^ rolU (thC a ((x + 1) % 5)) 1
def thF (a : List UInt64) (i : Nat) : UInt64 := a.getD i 0 ^^^ thD a (i % 5)
def thL (a : List UInt64) : List UInt64 := (List.range 25).map (thF a)
theorem thL_len (a : List UInt64) : (thL a).length = 25 := by simp [thL]
/-- The sums of columns, lane by lane. -/
def pcK (a : List UInt64) (x : Nat) : Nat → UInt64
  | 0 => 0
  | i + 1 => if i % 5 = x then pcK a x i ^^^ a.getD i 0 else pcK a x i
def cN (a : List UInt64) (i : Nat) : List UInt64 := (List.range 5).map fun x => pcK a x i
theorem cN_len (a : List UInt64) (i : Nat) : (cN a i).length = 5 := by simp [cN]
theorem cN_zero (a : List UInt64) : cN a 0 = List.replicate 5 0 := rfl
theorem cN_get (a : List UInt64) (i x : Nat) (h : x < 5) : (cN a i).getD x 0 = pcK a x i := by
  rw [cN, List.getD_eq_getElem?_getD, List.getElem?_map, List.getElem?_range h]; rfl
theorem cN_set (a : List UInt64) (i : Nat) : (cN a i).set (i % 5) ((cN a i).getD (i % 5) 0 ^^^ a.getD i 0) = cN a (i + 1) := by
  rw [cN_get _ _ _ (Nat.mod_lt _ (by decide))]
  apply List.ext_getElem (by simp [cN])
  intro k h1 h2
  rw [List.getElem_set]
  simp only [cN, List.getElem_map, List.getElem_range, pcK]
  by_cases e : i % 5 = k
  · rw [if_pos e, if_pos e, e]
  · rw [if_neg e, if_neg e]
def cAll (a : List UInt64) : List UInt64 := (List.range 5).map (thC a)
theorem cAll_len (a : List UInt64) : (cAll a).length = 5 := by simp [cAll]
theorem cN_all (a : List UInt64) : cN a 25 = cAll a := by
  have h : ∀ x : Nat, x < 5 → pcK a x 25 = thC a x := by
    intro x hx
    rcases (show x = 0 ∨ x = 1 ∨ x = 2 ∨ x = 3 ∨ x = 4 by omega) with rfl | rfl | rfl | rfl | rfl <;> simp [pcK, thC]
  apply List.ext_getElem (by simp [cN, cAll])
  intro k h1 h2
  simp [cN] at h1
  simp [cN, cAll, h k h1]
theorem cAll_get (a : List UInt64) {x : Nat} (h : x < 5) : (cAll a).getD x 0 = thC a x := by
  rw [cAll, List.getD_eq_getElem?_getD, List.getElem?_map, List.getElem?_range h]; rfl
/-- Where the lanes go. -/
def xT : List Nat := [1, 0, 2, 1, 2, 3, 3, 0, 1, 3, 1, 4, 4, 0, 3, 4, 3, 2, 2, 0, 4, 2, 4, 1, 1]
def yT : List Nat := [0, 2, 1, 2, 3, 3, 0, 1, 3, 1, 4, 4, 0, 3, 4, 3, 2, 2, 0, 4, 2, 4, 1, 1, 0]
def xK (t : Nat) : Nat := xT.getD t 0
def yK (t : Nat) : Nat := yT.getD t 0
theorem xy_tab : ∀ t : _root_.Fin 24, xK (t.val + 1) = yK t.val ∧ yK (t.val + 1) = (2 * xK t.val + 3 * yK t.val) % 5 := by decide +kernel
theorem xK_next {t : Nat} (h : t < 24) : xK (t + 1) = yK t := (xy_tab ⟨t, h⟩).1
theorem yK_next {t : Nat} (h : t < 24) : yK (t + 1) = (2 * xK t + 3 * yK t) % 5 := (xy_tab ⟨t, h⟩).2
theorem xy_lt_tab : ∀ t : _root_.Fin 25, xK t.val < 5 ∧ yK t.val < 5 := by decide +kernel
theorem xK_lt {t : Nat} (h : t ≤ 24) : xK t < 5 := (xy_lt_tab ⟨t, by omega⟩).1
theorem yK_lt {t : Nat} (h : t ≤ 24) : yK t < 5 := (xy_lt_tab ⟨t, by omega⟩).2
def posK (t : Nat) : Nat := xK t + 5 * yK t
theorem posK_lt {t : Nat} (h : t ≤ 24) : posK t < 25 := by have := xK_lt h; have := yK_lt h; unfold posK; omega
def rhN (o a : List UInt64) : Nat → List UInt64
  | 0 => o
  | t + 1 => (rhN o a t).set (posK (t + 1)) (rolU (a.getD (posK t) 0) ((t + 1) * (t + 2) / 2))
theorem rhN_len (o a : List UInt64) : ∀ t, (rhN o a t).length = o.length
  | 0 => rfl
  | t + 1 => by simp [rhN, rhN_len o a t]
def rhL (a : List UInt64) : List UInt64 := rhN a a 24
theorem rhL_len (a : List UInt64) (h : a.length = 25) : (rhL a).length = 25 := by rw [rhL, rhN_len, h]
/-- The lanes of p are those of g. -/
def fillP {α : Type} (p : Nat → Bool) (g : Nat → α) (l : List α) : List α := l.mapIdx fun j x => if p j = true then g j else x
theorem fillP_len {α : Type} (p : Nat → Bool) (g : Nat → α) (l : List α) : (fillP p g l).length = l.length := by simp [fillP]
theorem fillP_no {α : Type} (p : Nat → Bool) (g : Nat → α) (l : List α) (h : ∀ j, j < l.length → p j = false) : fillP p g l = l := by
  apply List.ext_getElem (by simp [fillP])
  intro i h1 h2
  simp [fillP, h i h2]
theorem fillP_all {α : Type} (p : Nat → Bool) (g : Nat → α) (l : List α) (h : ∀ j, j < l.length → p j = true) : fillP p g l = (List.range l.length).map g := by
  apply List.ext_getElem (by simp [fillP])
  intro i h1 h2
  simp [fillP] at h1
  simp [fillP, h i h1]
theorem fillP_get {α : Type} (p : Nat → Bool) (g : Nat → α) (l : List α) (i : Nat) (d : α) (h : p i = false) : (fillP p g l).getD i d = l.getD i d := by
  simp only [fillP, List.getD_eq_getElem?_getD, List.getElem?_mapIdx]
  cases l[i]? <;> simp [h]
theorem fillP_set {α : Type} (p q : Nat → Bool) (g : Nat → α) (l : List α) (k : Nat) (h : ∀ j, j < l.length → q j = (p j || j == k)) : (fillP p g l).set k (g k) = fillP q g l := by
  apply List.ext_getElem (by simp [fillP])
  intro i h1 h2
  simp [fillP] at h2
  rw [List.getElem_set]
  by_cases e : k = i
  · subst e; simp [fillP, h k h2]
  · have e' : (i == k) = false := by simp; omega
    simp [fillP, h i h2, e, e']
/-- When a lane is laid. -/
def stT : List Nat := [0, 24, 18, 6, 12, 7, 23, 2, 9, 22, 1, 3, 17, 16, 20, 13, 8, 4, 5, 15, 19, 10, 21, 14, 11]
def stK' (j : Nat) : Nat := stT.getD j 0
def rhP (t j : Nat) : Bool := Nat.ble 1 (stK' j) && Nat.ble (stK' j) t
def rhG (a : List UInt64) (i : Nat) : UInt64 := rolU (a.getD (posK (stK' i - 1)) 0) (stK' i * (stK' i + 1) / 2)
theorem st_pos : ∀ t : _root_.Fin 24, stK' (posK (t.val + 1)) = t.val + 1 := by decide +kernel
theorem rhP_tab : ∀ t : _root_.Fin 24, ∀ j : _root_.Fin 25, rhP (t.val + 1) j.val = (rhP t.val j.val || j.val == posK (t.val + 1)) := by decide +kernel
theorem rhP_all : ∀ j : _root_.Fin 25, rhP 24 j.val = !(j.val == 0) := by decide +kernel
theorem rhN_fill (o a : List UInt64) (h : o.length = 25) : ∀ t, t ≤ 24 → rhN o a t = fillP (rhP t) (rhG a) o
  | 0, _ => by
    rw [fillP_no]
    · rfl
    · intro j hj
      unfold rhP
      rw [Bool.and_eq_false_iff]
      rcases Nat.eq_zero_or_pos (stK' j) with e | e
      · left; rw [e]; rfl
      · right; rw [Bool.eq_false_iff]; simp; omega
  | t + 1, ht => by
    rw [rhN, rhN_fill o a h t (by omega), ← fillP_set (rhP t) (rhP (t + 1)) (rhG a) o (posK (t + 1)) (fun j hj => rhP_tab ⟨t, by omega⟩ ⟨j, by omega⟩)]
    congr 1
    unfold rhG
    rw [st_pos ⟨t, by omega⟩]
    rfl
theorem rh_ref (a : List UInt64) (h : a.length = 25) : rhN ((List.replicate 25 0).set 0 (a.getD 0 0)) a 24 = rhL a := by
  unfold rhL
  rw [rhN_fill _ _ (by simp) 24 (by omega), rhN_fill a a h 24 (by omega)]
  apply List.ext_getElem (by simp [fillP, h])
  intro i h1 h2
  simp only [fillP, List.length_mapIdx, List.length_set, List.length_replicate] at h1
  simp only [fillP, List.getElem_mapIdx]
  rw [rhP_all ⟨i, h1⟩]
  by_cases e : i = 0
  · subst e
    simp
    rw [List.getElem?_eq_getElem (by omega)]; rfl
  · simp [e]
def chF (a : List UInt64) (i : Nat) : UInt64 := a.getD i 0 ^^^ (~~~ a.getD (i - i % 5 + (i + 1) % 5) 0 &&& a.getD (i - i % 5 + (i + 2) % 5) 0)
def chL (a : List UInt64) : List UInt64 := (List.range 25).map (chF a)
theorem chL_len (a : List UInt64) : (chL a).length = 25 := by simp [chL]
/-- The constants of rounds. -/
def rcL : List UInt64 := [0x0000000000000001, 0x0000000000008082, 0x800000000000808a, 0x8000000080008000, 0x000000000000808b, 0x0000000080000001, 0x8000000080008081, 0x8000000000008009, 0x000000000000008a, 0x0000000000000088, 0x0000000080008009, 0x000000008000000a,
  0x000000008000808b, 0x800000000000008b, 0x8000000000008089, 0x8000000000008003, 0x8000000000008002, 0x8000000000000080, 0x000000000000800a, 0x800000008000000a, 0x8000000080008081, 0x8000000000008080, 0x0000000080000001, 0x8000000080008008]
def stK (a : List UInt64) : List UInt64 := chL (rhL (thL a))
theorem stK_len (a : List UInt64) : (stK a).length = 25 := chL_len _
def rndK (a : List UInt64) (c : UInt64) : List UInt64 := (stK a).set 0 ((stK a).getD 0 0 ^^^ c)
theorem rndK_len (a : List UInt64) (c : UInt64) : (rndK a c).length = 25 := by simp [rndK, stK_len]
def permN (a : List UInt64) : Nat → List UInt64
  | 0 => a
  | n + 1 => rndK (permN a n) (rcL.getD n 0)
theorem permN_len (a : List UInt64) (h : a.length = 25) : ∀ n, (permN a n).length = 25
  | 0 => h
  | n + 1 => rndK_len _ _
def permL (a : List UInt64) : List UInt64 := permN a 24
theorem permL_len (a : List UInt64) : (permL a).length = 25 := rndK_len _ _
/-! ### The reference's order -/
/-- The lanes of the columns ahead of x, and the first y of it. -/
def colP (x y : Nat) (j : Nat) : Bool := Nat.blt (j % 5) x || (Nat.beq (j % 5) x && Nat.blt (j / 5) y)
theorem colP_zero (j : Nat) : colP 0 0 j = false := by
  unfold colP
  rw [Bool.eq_false_iff]
  simp only [ne_eq, Bool.or_eq_true, Bool.and_eq_true, Nat.blt_eq, Nat.beq_eq]
  omega
theorem colP_all (j : Nat) : colP 5 0 j = true := by
  have : Nat.blt (j % 5) 5 = true := by rw [Nat.blt_eq]; omega
  simp [colP, this]
theorem colP_next (x j : Nat) (hj : j < 25) : colP (x + 1) 0 j = colP x 5 j := by
  unfold colP
  rw [Bool.eq_iff_iff]
  simp only [Bool.or_eq_true, Bool.and_eq_true, Nat.blt_eq, Nat.beq_eq]
  omega
theorem colP_step (x y j : Nat) (hx : x < 5) (hy : y < 5) (hj : j < 25) : colP x (y + 1) j = (colP x y j || j == x + 5 * y) := by
  unfold colP
  rw [Bool.eq_iff_iff]
  simp only [Bool.or_eq_true, Bool.and_eq_true, Nat.blt_eq, Nat.beq_eq, beq_iff_eq]
  omega
theorem colP_no (x y : Nat) (hx : x < 5) : colP x y (x + 5 * y) = false := by
  unfold colP
  rw [Bool.eq_false_iff]
  simp only [ne_eq, Bool.or_eq_true, Bool.and_eq_true, Nat.blt_eq, Nat.beq_eq]
  omega
theorem thF_at (a : List UInt64) {x y : Nat} (hx : x < 5) : thF a (x + 5 * y) = a.getD (x + 5 * y) 0 ^^^ thD a x := by
  unfold thF; rw [show (x + 5 * y) % 5 = x by omega]
theorem chF_at (a : List UInt64) {x y : Nat} (hx : x < 5) : chF a (x + 5 * y) = a.getD (x + 5 * y) 0 ^^^ (~~~ a.getD ((x + 1) % 5 + 5 * y) 0 &&& a.getD ((x + 2) % 5 + 5 * y) 0) := by
  unfold chF
  rw [show x + 5 * y - (x + 5 * y) % 5 + (x + 5 * y + 1) % 5 = (x + 1) % 5 + 5 * y by omega, show x + 5 * y - (x + 5 * y) % 5 + (x + 5 * y + 2) % 5 = (x + 2) % 5 + 5 * y by omega]
/-- The bits that make the constants. -/
def lfK : Nat → UInt8
  | 0 => 1
  | n + 1 => if shr_u8 (lfK n) 7 = 1 then shl_u8 (lfK n) 1 ^^^ 0x71 else shl_u8 (lfK n) 1
def ioK (r : Nat) : Nat → UInt64
  | 0 => 0
  | j + 1 => if lfK (7 * r + j) &&& 1 = 1 then ioK r j ^^^ shl_u64 1 (2 ^ j - 1) else ioK r j
theorem ioK_tab : ∀ r : _root_.Fin 24, ioK r.val 7 = rcL.getD r.val 0 := by decide +kernel
theorem ioK_rc {r : Nat} (h : r < 24) : ioK r 7 = rcL.getD r 0 := ioK_tab ⟨r, h⟩
def ioS (a : List UInt64) (r j : Nat) : List UInt64 := (stK a).set 0 ((stK a).getD 0 0 ^^^ ioK r j)
theorem ioS_len (a : List UInt64) (r j : Nat) : (ioS a r j).length = 25 := by simp [ioS, stK_len]
theorem ioS_get (a : List UInt64) (r j : Nat) : (ioS a r j).getD 0 0 = (stK a).getD 0 0 ^^^ ioK r j := by
  unfold ioS
  rw [List.getD_eq_getElem?_getD, List.getElem?_set_self (by rw [stK_len]; decide)]; rfl
theorem ioS_zero (a : List UInt64) (r : Nat) : ioS a r 0 = stK a := by
  unfold ioS
  have h := stK_len a
  generalize stK a = l at h ⊢
  cases l with
  | nil => cases h
  | cons x l => simp [ioK]
theorem ioS_yes (a : List UInt64) (r j : Nat) (h : lfK (7 * r + j) &&& 1 = 1) : (ioS a r j).set 0 ((ioS a r j).getD 0 0 ^^^ shl_u64 1 (2 ^ j - 1)) = ioS a r (j + 1) := by
  rw [ioS_get]
  unfold ioS
  rw [List.set_set, ioK, if_pos h, UInt64.xor_assoc]
theorem ioS_no (a : List UInt64) (r j : Nat) (h : ¬ lfK (7 * r + j) &&& 1 = 1) : ioS a r j = ioS a r (j + 1) := by
  unfold ioS; rw [show ioK r (j + 1) = ioK r j by rw [ioK, if_neg h]]
theorem ioS_all (a : List UInt64) {r : Nat} (h : r < 24) : ioS a r 7 = rndK a (rcL.getD r 0) := by unfold ioS rndK; rw [ioK_rc h]
theorem rolU_law (x : UInt64) (m : Nat) : shl_u64 x ((((UInt64.ofNat (m : Int).toNat) &&& 63).toNat : Int)).toNat ||| shr_u64 x (((64 - ((UInt64.ofNat (m : Int).toNat) &&& 63)).toNat : Int)).toNat = rolU x m := by
  rw [Int.toNat_natCast m]
  have e : ((UInt64.ofNat m) &&& 63).toNat = m % 64 := by
    rw [UInt64.toNat_and, UInt64.toNat_ofNat', show (63 : UInt64).toNat = 2 ^ 6 - 1 from rfl, Nat.and_two_pow_sub_one_eq_mod]
    omega
  have e2 : (64 - ((UInt64.ofNat m) &&& 63)).toNat = 64 - m % 64 := by
    rw [UInt64.toNat_sub_of_le]
    · rw [e]; rfl
    · rw [UInt64.le_iff_toNat_le, e]; have := Nat.mod_lt m (show 0 < 64 by decide); show m % 64 ≤ 64; omega
  rw [Int.toNat_natCast, Int.toNat_natCast, e, e2]; rfl
theorem u8_one1 {a : UInt8} (h : (a.toNat : Int) = 1) : a = 1 := by apply UInt8.toNat_inj.1; show a.toNat = 1; omega
theorem u8_one0 {a : UInt8} (h : ¬ (a.toNat : Int) = 1) : ¬ a = 1 := by intro e; subst e; exact h rfl
/-- Behind so many of a round's steps. -/
def stpK (a : List UInt64) : Nat → List UInt64
  | 0 => a
  | 1 => thL a
  | 2 => rhL (thL a)
  | _ + 3 => stK a
theorem stpK_len (a : List UInt64) (h : a.length = 25) : ∀ j, (stpK a j).length = 25
  | 0 => h
  | 1 => thL_len _
  | 2 => rhL_len _ (thL_len _)
  | _ + 3 => stK_len _
theorem shl1_tab : ∀ j : _root_.Fin 7, shl_u64 1 ((shl_u64 1 j.val - 1).toNat) = shl_u64 1 (2 ^ j.val - 1) := by decide +kernel
theorem shl1_law {j : Nat} (h : j ≤ 6) : shl_u64 1 (((shl_u64 1 (j : Int).toNat - 1).toNat : Int)).toNat = shl_u64 1 (2 ^ j - 1) := by
  rw [Int.toNat_natCast, Int.toNat_natCast]; exact shl1_tab ⟨j, by omega⟩
theorem lfK_yes {n : Nat} (h : shr_u8 (lfK n) 7 = 1) : shl_u8 (lfK n) 1 ^^^ 113 = lfK (n + 1) := by rw [lfK, if_pos h]
theorem lfK_no {n : Nat} (h : ¬ shr_u8 (lfK n) 7 = 1) : shl_u8 (lfK n) 1 = lfK (n + 1) := by rw [lfK, if_neg h]
theorem rho_ix (x y : Nat) : ((y : Int) + 5 * ((2 * (x : Int) + 3 * (y : Int)) % 5)).toNat = y + 5 * ((2 * x + 3 * y) % 5) := by
  have e : ((2 * x + 3 * y : Nat) : Int) = 2 * (x : Int) + 3 * (y : Int) := by omega
  rw [← e]
  generalize 2 * x + 3 * y = z
  omega
theorem permN_step (a : List UInt64) (k : Nat) : (stpK (permN a k) 3).set 0 ((stpK (permN a k) 3).getD 0 0 ^^^ rcL.getD k 0) = permN a (k + 1) := by
  rw [permN]
  generalize permN a k = l
  generalize rcL.getD k 0 = c
  rw [rndK, show stpK l 3 = stK l from rfl]
theorem stp0 (a : List UInt64) : thL (stpK a 0) = stpK a 1 := by simp only [stpK]
theorem stp1 (a : List UInt64) : rhL (stpK a 1) = stpK a 2 := by simp only [stpK]
theorem stp2 (a : List UInt64) : chL (stpK a 2) = stpK a 3 := by simp only [stpK, stK]
theorem fillP_congr {α : Type} (p q : Nat → Bool) (g : Nat → α) (l : List α) (h : ∀ j, j < l.length → p j = q j) : fillP p g l = fillP q g l := by
  apply List.ext_getElem (by simp [fillP])
  intro i h1 h2
  simp [fillP] at h1
  simp [fillP, h i h1]
theorem rolU_ref {v : UInt64} {m : Nat} (h : 0 < m % 64) : shl_u64 v ((m % 64 : Nat) : Int).toNat ||| shr_u64 v (64 - ((m % 64 : Nat) : Int)).toNat = rolU v m := by
  rw [Int.toNat_natCast, show (64 - ((m % 64 : Nat) : Int)).toNat = 64 - m % 64 by omega]; rfl
theorem rhN_next (o a : List UInt64) (t : Nat) {i : Nat} {v : UInt64} (hi : i = posK (t + 1)) (hv : v = rolU (a.getD (posK t) 0) ((t + 1) * (t + 2) / 2)) : (rhN o a t).set i v = rhN o a (t + 1) := by rw [hi, hv, rhN]
theorem pos_ix {k : Nat} (h : k < 24) : ((yK k : Int) + 5 * ((2 * (xK k : Int) + 3 * (yK k : Int)) % 5)).toNat = posK (k + 1) := by
  unfold posK; rw [xK_next h, yK_next h]; exact rho_ix _ _
theorem pos_ix0 (k : Nat) : ((xK k : Int) + 5 * (yK k : Int)).toNat = posK k := by unfold posK; omega
theorem chi_all (a : List UInt64) : (List.range 25).map (chF (rhL (thL a))) = stK a := by rw [stK, chL]
theorem permN_succ (a : List UInt64) (n : Nat) : permN a (n + 1) = rndK (permN a n) (rcL.getD n 0) := by rw [permN]
end Go.X
