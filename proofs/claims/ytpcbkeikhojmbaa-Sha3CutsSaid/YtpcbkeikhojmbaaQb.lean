import Derived.Test.YtpcbkeikhojmbaaQa
import Derived.Test.YtpcbkeikhojmbaaXB
/-
  Plain functions of Keccak: the sponge. No program here.
-/
set_option linter.unusedVariables false
set_option maxRecDepth 100000
namespace Go.X
/-- A block's first bytes over a state. -/
def abK (s : List UInt64) (m : List UInt8) (off : Nat) : Nat → List UInt64
  | 0 => s
  | i + 1 => (abK s m off i).set (i / 8) ((abK s m off i).getD (i / 8) 0 ^^^ shl_u64 (m.getD (off + i) 0).toUInt64 (8 * (i % 8)))
theorem abK_len (s : List UInt64) (m : List UInt8) (off : Nat) : ∀ i, (abK s m off i).length = s.length
  | 0 => rfl
  | i + 1 => by simp [abK, abK_len s m off i]
/-- The state behind so many blocks. -/
def skK (rate : Nat) (m : List UInt8) : Nat → List UInt64
  | 0 => List.replicate 25 0
  | j + 1 => permL (abK (skK rate m j) m (rate * j) rate)
theorem skK_len (rate : Nat) (m : List UInt8) : ∀ j, (skK rate m j).length = 25
  | 0 => by simp [skK]
  | j + 1 => permL_len _
def zpK (rate n : Nat) : Nat := (rate - n % rate) % rate
theorem zpK_mod {rate n : Nat} (hr : 0 < rate) : (n + zpK rate n) % rate = 0 := by
  unfold zpK
  have h1 := Nat.mod_lt n hr
  rcases Nat.eq_zero_or_pos (n % rate) with h | h
  · rw [h, Nat.sub_zero, Nat.mod_self, Nat.add_zero, h]
  · rw [Nat.mod_eq_of_lt (a := rate - n % rate) (by omega)]
    have e := Nat.div_add_mod n rate
    have : n + (rate - n % rate) = rate * (n / rate + 1) := by rw [Nat.mul_add, Nat.mul_one]; omega
    rw [this]; exact Nat.mul_mod_right _ _
theorem zpK_no {rate n k : Nat} (hr : 0 < rate) (hk : k < zpK rate n) : (n + k) % rate ≠ 0 := by
  unfold zpK at hk
  have h1 := Nat.mod_lt n hr
  rcases Nat.eq_zero_or_pos (n % rate) with h | h
  · rw [h, Nat.sub_zero, Nat.mod_self] at hk; omega
  · rw [Nat.mod_eq_of_lt (a := rate - n % rate) (by omega)] at hk
    have e := Nat.div_add_mod n rate
    have : n + k = rate * (n / rate) + (n % rate + k) := by omega
    rw [this, Nat.mul_add_mod, Nat.mod_eq_of_lt (by omega)]; omega
theorem zpK_lt {rate n : Nat} (hr : 0 < rate) : zpK rate n < rate := Nat.mod_lt _ hr
/-- What is soaked up: the bytes, an end, noughts. -/
def pzK (rate : Nat) (e : UInt8) (b : List UInt8) : List UInt8 := b ++ [e] ++ List.replicate (zpK rate (b.length + 1)) 0
theorem pzK_len (rate : Nat) (e : UInt8) (b : List UInt8) : (pzK rate e b).length = b.length + 1 + zpK rate (b.length + 1) := by simp [pzK]; omega
theorem pzK_mod {rate : Nat} (hr : 0 < rate) (e : UInt8) (b : List UInt8) : (pzK rate e b).length % rate = 0 := by rw [pzK_len]; exact zpK_mod hr
def padK (rate : Nat) (e : UInt8) (b : List UInt8) : List UInt8 := (pzK rate e b).set ((pzK rate e b).length - 1) ((pzK rate e b).getD ((pzK rate e b).length - 1) 0 ||| 128)
theorem padK_len (rate : Nat) (e : UInt8) (b : List UInt8) : (padK rate e b).length = b.length + 1 + zpK rate (b.length + 1) := by rw [padK, List.length_set, pzK_len]
theorem padK_mod {rate : Nat} (hr : 0 < rate) (e : UInt8) (b : List UInt8) : (padK rate e b).length % rate = 0 := by rw [padK, List.length_set]; exact pzK_mod hr e b
theorem padK_pos {rate : Nat} (hr : 0 < rate) (e : UInt8) (b : List UInt8) : 0 < (padK rate e b).length := by rw [padK_len]; omega
def soakK (rate : Nat) (e : UInt8) (b : List UInt8) : List UInt64 := skK rate (padK rate e b) ((padK rate e b).length / rate)
theorem soakK_len (rate : Nat) (e : UInt8) (b : List UInt8) : (soakK rate e b).length = 25 := skK_len _ _ _
theorem soak_of {rate : Nat} (hr : 0 < rate) {e : UInt8} {b : List UInt8} {j : Nat} (h : rate * j = (padK rate e b).length) : skK rate (padK rate e b) j = soakK rate e b := by
  unfold soakK; rw [← h, Nat.mul_div_cancel_left _ hr]
/-- A state turned so often. -/
def sqS (s : List UInt64) : Nat → List UInt64
  | 0 => s
  | q + 1 => permL (sqS s q)
theorem sqS_len (s : List UInt64) (h : s.length = 25) : ∀ q, (sqS s q).length = 25
  | 0 => h
  | q + 1 => permL_len _
def sqB (s : List UInt64) (rate i : Nat) : UInt8 := (shr_u64 ((sqS s (i / rate)).getD (i % rate / 8) 0) (8 * (i % rate % 8))).toUInt8
/-- So many bytes of a sponge, from one on. -/
def sqF (s : List UInt64) (rate t n : Nat) : List UInt8 := (List.range n).map fun i => sqB s rate (t + i)
def sqL (s : List UInt64) (rate n : Nat) : List UInt8 := sqF s rate 0 n
theorem sqF_len (s : List UInt64) (rate t n : Nat) : (sqF s rate t n).length = n := by simp [sqF]
theorem sqL_len (s : List UInt64) (rate n : Nat) : (sqL s rate n).length = n := sqF_len _ _ _ _
theorem sqF_succ (s : List UInt64) (rate t n : Nat) : sqF s rate t (n + 1) = sqF s rate t n ++ [sqB s rate (t + n)] := by simp [sqF, List.range_succ]
theorem sqF_app (s : List UInt64) (rate t n m : Nat) : sqF s rate t n ++ sqF s rate (t + n) m = sqF s rate t (n + m) := by
  induction m with
  | zero => simp [sqF]
  | succ m ih => rw [sqF_succ, ← List.append_assoc, ih, show n + (m + 1) = n + m + 1 by omega, sqF_succ, Nat.add_assoc]
theorem sqF_take (s : List UInt64) (rate t : Nat) {n m : Nat} (h : n ≤ m) : (sqF s rate t m).take n = sqF s rate t n := by
  obtain ⟨k, rfl⟩ := Nat.exists_eq_add_of_le h
  rw [← sqF_app, List.take_left' (sqF_len _ _ _ _)]
/-- How often it was turned when so many bytes were told. -/
def qK (rate t : Nat) : Nat := (t - 1) / rate
def atK (rate t : Nat) : Nat := t - rate * qK rate t
theorem qK_zero (rate : Nat) : qK rate 0 = 0 := by simp [qK]
theorem atK_zero (rate : Nat) : atK rate 0 = 0 := by simp [atK]
theorem qK_succ (rate t : Nat) : qK rate (t + 1) = t / rate := by simp [qK]
theorem atK_succ {rate : Nat} (hr : 0 < rate) (t : Nat) : atK rate (t + 1) = t % rate + 1 := by
  unfold atK; rw [qK_succ]; have := Nat.div_add_mod t rate; omega
theorem atK_le {rate : Nat} (hr : 0 < rate) (t : Nat) : atK rate t ≤ rate := by
  cases t with
  | zero => rw [atK_zero]; omega
  | succ t => rw [atK_succ hr]; have := Nat.mod_lt t hr; omega
theorem at_full {rate : Nat} (hr : 0 < rate) {t : Nat} (h : atK rate t = rate) : t / rate = qK rate t + 1 ∧ t % rate = 0 := by
  cases t with
  | zero => rw [atK_zero] at h; omega
  | succ t =>
    rw [atK_succ hr] at h
    rw [qK_succ]
    have e := Nat.div_add_mod t rate
    have : t + 1 = rate * (t / rate + 1) := by rw [Nat.mul_add, Nat.mul_one]; omega
    rw [this, Nat.mul_div_cancel_left _ hr, Nat.mul_mod_right]
    exact ⟨rfl, rfl⟩
theorem at_part {rate : Nat} (hr : 0 < rate) {t : Nat} (h : atK rate t ≠ rate) : t / rate = qK rate t ∧ t % rate = atK rate t := by
  cases t with
  | zero => simp [qK_zero, atK_zero]
  | succ t =>
    rw [atK_succ hr] at h ⊢
    rw [qK_succ]
    have e := Nat.div_add_mod t rate
    have hl := Nat.mod_lt t hr
    have : t + 1 = rate * (t / rate) + (t % rate + 1) := by omega
    constructor
    · rw [this, Nat.mul_add_div hr, Nat.div_eq_of_lt (show t % rate + 1 < rate by omega), Nat.add_zero]
    · conv => lhs; rw [this, Nat.mul_add_mod, Nat.mod_eq_of_lt (show t % rate + 1 < rate by omega)]
/-- What a sponge holds that told t bytes. -/
def spS (s : List UInt64) (rate t : Nat) : Segs := [(0, 25, (sqS s (qK rate t)).map fun x => W64 x), (25, 1, [I (rate : Int)]), (26, 1, [I (atK rate t : Int)])]
theorem spS_full {s : List UInt64} {rate t : Nat} (hr : 0 < rate) (h : atK rate t = rate) :
    [(0, 25, (permL (sqS s (qK rate t))).map fun x => W64 x), (25, 1, [I (rate : Int)]), (26, 1, [I ((0 : Int) + 1)])] = spS s rate (t + 1) ∧ sqB s rate t = (shr_u64 ((permL (sqS s (qK rate t))).getD (0 / 8) 0) (8 * (0 % 8))).toUInt8 := by
  have h1 := at_full hr h
  unfold spS sqB
  rw [qK_succ, atK_succ hr, h1.1, h1.2]
  exact ⟨rfl, rfl⟩
theorem spS_part {s : List UInt64} {rate t : Nat} (hr : 0 < rate) (h : atK rate t ≠ rate) :
    [(0, 25, (sqS s (qK rate t)).map fun x => W64 x), (25, 1, [I (rate : Int)]), (26, 1, [I ((atK rate t : Int) + 1)])] = spS s rate (t + 1) ∧ sqB s rate t = (shr_u64 ((sqS s (qK rate t)).getD (atK rate t / 8) 0) (8 * (atK rate t % 8))).toUInt8 := by
  have h1 := at_part hr h
  unfold spS sqB
  rw [qK_succ, atK_succ hr, h1.1, h1.2]
  exact ⟨by rw [show ((atK rate t + 1 : Nat) : Int) = (atK rate t : Int) + 1 from rfl], rfl⟩
theorem getD_dropK (m : List UInt8) (off i : Nat) : (m.drop off).getD i 0 = m.getD (off + i) 0 := by
  simp only [List.getD_eq_getElem?_getD, List.getElem?_drop]
theorem abK_next (s : List UInt64) (m : List UInt8) (off i : Nat) {j : Nat} {v : UInt64} (hj : j = i / 8) (hv : v = (abK s m off i).getD (i / 8) 0 ^^^ shl_u64 (m.getD (off + i) 0).toUInt64 (8 * (i % 8))) : (abK s m off i).set j v = abK s m off (i + 1) := by rw [hj, hv, abK]
theorem ab_ix (i : Nat) : ((i : Int) / 8).toNat = i / 8 := by omega
theorem ab_sh (i : Nat) : (8 * ((i : Int) % 8)).toNat = 8 * (i % 8) := by omega
theorem skK_next {rate j : Nat} {m : List UInt8} (h : j = rate) (k : Nat) : permL (abK (skK rate m k) m (rate * k) j) = skK rate m (k + 1) := by rw [h, skK]
theorem spS_zero (s : List UInt64) (rate : Nat) : [(0, 25, s.map fun x => W64 x), (25, 1, [I (rate : Int)]), (26, 1, [I 0])] = spS s rate 0 := by
  unfold spS; rw [qK_zero, atK_zero, sqS]; rfl
theorem blk_in {R k n j : Nat} (h : R * k < n) (hm : n % R = 0) (hj : j < R) : R * k + j < n ∧ R * (k + 1) ≤ n := by
  have e := Nat.div_add_mod n R
  rw [hm, Nat.add_zero] at e
  have h1 : k < n / R := by
    rcases Nat.lt_or_ge k (n / R) with h1 | h1
    · exact h1
    · have := Nat.mul_le_mul_left R h1; omega
  have h2 : R * (k + 1) ≤ R * (n / R) := Nat.mul_le_mul_left R h1
  have h3 : R * (k + 1) = R * k + R := Nat.mul_succ _ _
  omega
theorem zp_int {R n : Nat} (h : ((n : Nat) : Int) % (R : Int) ≠ 0) : n % R ≠ 0 := fun e => h (by rw [← Int.natCast_emod, e]; rfl)
theorem zp_int0 {R n : Nat} (h : ¬ ((n : Nat) : Int) % (R : Int) ≠ 0) : n % R = 0 := by
  have h2 : ((n : Nat) : Int) % (R : Int) = 0 := Classical.not_not.1 h
  rw [← Int.natCast_emod] at h2; omega
theorem zp_of {R n : Nat} (hr : 0 < R) : (((R : Int) - (n : Int) % (R : Int)) % (R : Int)).toNat = zpK R n := by
  unfold zpK
  have h1 := Nat.mod_lt n hr
  rw [← Int.natCast_emod, show (R : Int) - ((n % R : Nat) : Int) = ((R - n % R : Nat) : Int) by omega, ← Int.natCast_emod, Int.toNat_natCast]
theorem sqB_at (s : List UInt64) {R i : Nat} (q : Nat) (h : i < R) : sqB s R (R * q + i) = (shr_u64 ((sqS s q).getD (i / 8) 0) (8 * (i % 8))).toUInt8 := by
  unfold sqB
  have hr : 0 < R := by omega
  rw [Nat.mul_add_div hr, Nat.div_eq_of_lt h, Nat.add_zero, Nat.mul_add_mod, Nat.mod_eq_of_lt h]
def rdN (n : Int) : Nat := if 1 ≤ n ∧ n ≤ 65536 then n.toNat else 0
theorem rdN_yes {n : Int} (h : 1 ≤ n ∧ n ≤ 65536) : rdN n = n.toNat := if_pos h
theorem rdN_no {n : Int} (h : ¬ (1 ≤ n ∧ n ≤ 65536)) : rdN n = 0 := if_neg h
/-- How many bytes of a sponge are told. -/
def shN (n : Int) : Nat := (min n 65536).toNat
theorem shk_n (n : Int) : (if (65536 : Int) < n then (65536 : Int) else n).toNat = shN n := by
  unfold shN; split <;> omega
theorem shN_of {n : Int} (h : n ≤ 65536) : shN n = n.toNat := by unfold shN; omega
end Go.X
