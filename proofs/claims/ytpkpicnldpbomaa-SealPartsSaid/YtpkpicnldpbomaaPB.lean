import Derived.Test.YtpkpicnldpbomaaPA
import Derived.Test.YtpkpicnldpbomaaXB
/-
  Plain functions of the layer sha2 and their laws: turning, the schedule, the rounds, blocks. No program here.
-/
set_option linter.unusedVariables false
namespace Go.X
def roundsL : List UInt64 := [4794697086780616226, 8158064640168781261, 13096744586834688815, 16840607885511220156, 4131703408338449720, 6480981068601479193, 10538285296894168987, 12329834152419229976, 15566598209576043074, 1334009975649890238, 2608012711638119052, 6128411473006802146, 8268148722764581231, 9286055187155687089, 11230858885718282805, 13951009754708518548, 16472876342353939154, 17275323862435702243, 1135362057144423861, 2597628984639134821, 3308224258029322869, 5365058923640841347, 6679025012923562964, 8573033837759648693, 10970295158949994411, 12119686244451234320, 12683024718118986047, 13788192230050041572, 14330467153632333762, 15395433587784984357, 489312712824947311, 1452737877330783856, 2861767655752347644, 3322285676063803686, 5560940570517711597, 5996557281743188959, 7280758554555802590, 8532644243296465576, 9350256976987008742, 10552545826968843579, 11727347734174303076, 12113106623233404929, 14000437183269869457, 14369950271660146224, 15101387698204529176, 15463397548674623760, 17586052441742319658, 1182934255886127544, 1847814050463011016, 2177327727835720531, 2830643537854262169, 3796741975233480872, 4115178125766777443, 5681478168544905931, 6601373596472566643, 7507060721942968483, 8399075790359081724, 8693463985226723168, 9568029438360202098, 10144078919501101548, 10430055236837252648, 11840083180663258601, 13761210420658862357, 14299343276471374635, 14566680578165727644, 15097957966210449927, 16922976911328602910, 17689382322260857208, 500013540394364858, 748580250866718886, 1242879168328830382, 1977374033974150939, 2944078676154940804, 3659926193048069267, 4368137639120453308, 4836135668995329356, 5532061633213252278, 6448918945643986474, 6902733635092675308, 7801388544844847127]
def startL : List UInt64 := [7640891576956012808, 13503953896175478587, 4354685564936845355, 11912009170470909681, 5840696475078001361, 11170449401992604703, 2270897969802886507, 6620516959819538809]
def rotR32 (x : UInt32) (m : Nat) : UInt32 := shr_u32 x m ||| shl_u32 x (32 - m)
def rotR64 (x : UInt64) (m : Nat) : UInt64 := shr_u64 x m ||| shl_u64 x (64 - m)
theorem UInt32.or_comm' (a b : UInt32) : a ||| b = b ||| a := by apply UInt32.toNat_inj.1; rw [UInt32.toNat_or, UInt32.toNat_or, Nat.or_comm]
theorem UInt64.or_comm' (a b : UInt64) : a ||| b = b ||| a := by apply UInt64.toNat_inj.1; rw [UInt64.toNat_or, UInt64.toNat_or, Nat.or_comm]
theorem neg_and31 {m : Nat} (h : 1 ≤ m ∧ m ≤ 31) : (UInt64.ofNat (-(m : Int) + 18446744073709551616).toNat &&& 31).toNat = 32 - m := by
  rw [UInt64.toNat_and, UInt64.toNat_ofNat', show (31 : UInt64).toNat = 2 ^ 5 - 1 from rfl, Nat.and_two_pow_sub_one_eq_mod]
  omega
theorem neg_and63 {m : Nat} (h : 1 ≤ m ∧ m ≤ 63) : (UInt64.ofNat (-(m : Int) + 18446744073709551616).toNat &&& 63).toNat = 64 - m := by
  rw [UInt64.toNat_and, UInt64.toNat_ofNat', show (63 : UInt64).toNat = 2 ^ 6 - 1 from rfl, Nat.and_two_pow_sub_one_eq_mod]
  omega
theorem sub_toNat {a : Nat} {s : UInt64} {c : UInt64} (hs : s.toNat = a) (hc : a ≤ c.toNat) : (c - s).toNat = c.toNat - a := by
  rw [UInt64.toNat_sub_of_le _ _ (UInt64.le_iff_toNat_le.2 (by omega)), hs]
/-- RotateLeft32 by less than nothing. -/
theorem rot32_law (x : UInt32) {m : Nat} (h : 1 ≤ m ∧ m ≤ 31) :
    (shl_u32 x ((UInt64.ofNat (-(m : Int) + 18446744073709551616).toNat &&& 31).toNat : Int).toNat ||| shr_u32 x ((32 - (UInt64.ofNat (-(m : Int) + 18446744073709551616).toNat &&& 31)).toNat : Int).toNat) = rotR32 x m := by
  have h1 := neg_and31 h
  rw [sub_toNat h1 (show 32 - m ≤ (32 : UInt64).toNat by show 32 - m ≤ 32; omega), h1, Int.toNat_natCast, Int.toNat_natCast, UInt32.or_comm']
  unfold rotR32
  rw [show (32 : UInt64).toNat - (32 - m) = m by show 32 - (32 - m) = m; omega]
theorem rot64_law (x : UInt64) {m : Nat} (h : 1 ≤ m ∧ m ≤ 63) :
    (shl_u64 x ((UInt64.ofNat (-(m : Int) + 18446744073709551616).toNat &&& 63).toNat : Int).toNat ||| shr_u64 x ((64 - (UInt64.ofNat (-(m : Int) + 18446744073709551616).toNat &&& 63)).toNat : Int).toNat) = rotR64 x m := by
  have h1 := neg_and63 h
  rw [sub_toNat h1 (show 64 - m ≤ (64 : UInt64).toNat by show 64 - m ≤ 64; omega), h1, Int.toNat_natCast, Int.toNat_natCast, UInt64.or_comm']
  unfold rotR64
  rw [show (64 : UInt64).toNat - (64 - m) = m by show 64 - (64 - m) = m; omega]
theorem rotR32_law (x : UInt32) {m : Nat} (h : 1 ≤ m ∧ m ≤ 31) : (shr_u32 x (m : Int).toNat ||| shl_u32 x (32 - (m : Int)).toNat) = rotR32 x m := by
  unfold rotR32; rw [Int.toNat_natCast, show (32 - (m : Int)).toNat = 32 - m by omega]
theorem rotR64_law (x : UInt64) {m : Nat} (h : 1 ≤ m ∧ m ≤ 63) : (shr_u64 x (m : Int).toNat ||| shl_u64 x (64 - (m : Int)).toNat) = rotR64 x m := by
  unfold rotR64; rw [Int.toNat_natCast, show (64 - (m : Int)).toNat = 64 - m by omega]
section
variable {P : Program} {σ : Env} {w : World}
theorem cv_i_64n {n : Int} (h : -9223372036854775808 ≤ n ∧ n < 0) : IntKind.u64.wrap n = ((UInt64.ofNat (n + 18446744073709551616).toNat).toNat : Int) := by
  unfold IntKind.wrap
  simp only [IntKind.bits, IntKind.signed, Bool.false_and, UInt64.toNat_ofNat']
  simp only [Bool.false_eq_true, if_false]
  omega
theorem Yd.cv_i_64n {ty s d x n} (hs : P.underlying s = some (.int .i64)) (hd : P.underlying d = some (.int .u64)) (hx : ev σ x = some (I n)) (h : -9223372036854775808 ≤ n ∧ n < 0) : Yd P σ (.convert s d x) ty (W64 (UInt64.ofNat (n + 18446744073709551616).toNat)) w := .conv hs hd hx (Go.X.cv_i_64n h)
end
end Go.X

/-
  Plain functions of SHA-256: the schedule, a block. No program here.
-/
set_option linter.unusedVariables false
namespace Go.X
/-- The next word of a schedule. -/
def next256 (b : List UInt8) (l : List UInt32) (t : Nat) : UInt32 :=
  if t < 16 then (get64N (b.drop (4 * t)) 4).toUInt32
  else l.getD (t - 16) 0 + (rotR32 (l.getD (t - 15) 0) 7 ^^^ rotR32 (l.getD (t - 15) 0) 18 ^^^ shr_u32 (l.getD (t - 15) 0) 3) + l.getD (t - 7) 0 + (rotR32 (l.getD (t - 2) 0) 17 ^^^ rotR32 (l.getD (t - 2) 0) 19 ^^^ shr_u32 (l.getD (t - 2) 0) 10)
/-- The first words of a block's schedule. -/
def sched256 (b : List UInt8) : Nat → List UInt32
  | 0 => []
  | t + 1 => sched256 b t ++ [next256 b (sched256 b t) t]
theorem sched256_len (b : List UInt8) : ∀ t, (sched256 b t).length = t
  | 0 => rfl
  | t + 1 => by simp [sched256, sched256_len b t]
/-- One round. -/
def step256 (v : List UInt32) (k w : UInt32) : List UInt32 :=
  let e := v.getD 4 0
  let a := v.getD 0 0
  let x := v.getD 7 0 + (rotR32 e 6 ^^^ rotR32 e 11 ^^^ rotR32 e 25) + ((e &&& v.getD 5 0) ^^^ (~~~ e &&& v.getD 6 0)) + k + w
  let y := (rotR32 a 2 ^^^ rotR32 a 13 ^^^ rotR32 a 22) + (((a &&& v.getD 1 0) ^^^ (a &&& v.getD 2 0)) ^^^ (v.getD 1 0 &&& v.getD 2 0))
  [x + y, a, v.getD 1 0, v.getD 2 0, v.getD 3 0 + x, e, v.getD 5 0, v.getD 6 0]
def rnd256 (h : List UInt32) (ws : List UInt32) : Nat → List UInt32
  | 0 => h
  | t + 1 => step256 (rnd256 h ws t) (shr_u64 (roundsL.getD t 0) 32).toUInt32 (ws.getD t 0)
/-- A hash value behind a block. -/
def turn256L (h : List UInt32) (b : List UInt8) : List UInt32 := (List.range 8).map fun i => h.getD i 0 + (rnd256 h (sched256 b 64) 64).getD i 0
theorem getD_app {α : Type} (A Z : List α) (i : Nat) (d : α) (h : i < A.length) : (A ++ Z).getD i d = A.getD i d := by
  rw [List.getD_eq_getElem?_getD, List.getD_eq_getElem?_getD, List.getElem?_append_left h]
theorem getD_map_range {α : Type} (n : Nat) (f : Nat → α) (i : Nat) (d : α) (h : i < n) : ((List.range n).map f).getD i d = f i := by
  rw [List.getD_eq_getElem?_getD, List.getElem?_map, List.getElem?_range h]; rfl
/-- What stands in the array of the schedule when t words are laid. -/
def arr256 (b : List UInt8) (t : Nat) : List UInt32 := sched256 b t ++ List.replicate (64 - t) 0
theorem arr256_len (b : List UInt8) (t : Nat) (h : t ≤ 64) : (arr256 b t).length = 64 := by simp [arr256, sched256_len]; omega
theorem arr256_set (b : List UInt8) (t : Nat) (h : t < 64) : (arr256 b t).set t (next256 b (sched256 b t) t) = arr256 b (t + 1) := by
  unfold arr256
  rw [show 64 - t = (64 - (t + 1)) + 1 by omega, set_front (sched256 b t) _ 0 _ (sched256_len b t).symm]
  rfl
theorem arr256_get (b : List UInt8) (t i : Nat) (h : i < t) : (arr256 b t).getD i 0 = (sched256 b t).getD i 0 := getD_app _ _ _ _ (by rw [sched256_len]; exact h)
theorem next256_lo (b : List UInt8) (l : List UInt32) (t : Nat) (h : t < 16) : next256 b l t = (shr_u64 (get64N (b.drop (4 * t)) 8) 32).toUInt32 := by
  unfold next256; rw [if_pos h, get64_top4]
theorem next256_hi (b : List UInt8) (t : Nat) (h : ¬ t < 16) (ht : t ≤ 64) :
    (arr256 b t).getD (t - 16) 0 + (rotR32 ((arr256 b t).getD (t - 15) 0) 7 ^^^ rotR32 ((arr256 b t).getD (t - 15) 0) 18 ^^^ shr_u32 ((arr256 b t).getD (t - 15) 0) 3) + (arr256 b t).getD (t - 7) 0 + (rotR32 ((arr256 b t).getD (t - 2) 0) 17 ^^^ rotR32 ((arr256 b t).getD (t - 2) 0) 19 ^^^ shr_u32 ((arr256 b t).getD (t - 2) 0) 10) = next256 b (sched256 b t) t := by
  unfold next256
  rw [if_neg h, arr256_get b t _ (by omega), arr256_get b t _ (by omega), arr256_get b t _ (by omega), arr256_get b t _ (by omega)]
theorem step256_len (v : List UInt32) (k w : UInt32) : (step256 v k w).length = 8 := rfl
theorem rnd256_len (h : List UInt32) (ws : List UInt32) (hh : h.length = 8) : ∀ t, (rnd256 h ws t).length = 8
  | 0 => hh
  | t + 1 => rfl
def overF (h : List UInt32) (i : Nat) : UInt32 := h.getD i 0 ^^^ (shr_u64 (startL.getD i 0) 32).toUInt32
/-- A hash value over the first one. -/
def overL (h : List UInt32) : List UInt32 := (List.range 8).map (overF h)
theorem overL_len (h : List UInt32) : (overL h).length = 8 := by simp [overL]
end Go.X

/-
  Plain functions of SHA-512: the schedule, a block. No program here.
-/
set_option linter.unusedVariables false
namespace Go.X
/-- The next word of a schedule. -/
def next512 (b : List UInt8) (l : List UInt64) (t : Nat) : UInt64 :=
  if t < 16 then get64N (b.drop (8 * t)) 8
  else l.getD (t - 16) 0 + (rotR64 (l.getD (t - 15) 0) 1 ^^^ rotR64 (l.getD (t - 15) 0) 8 ^^^ shr_u64 (l.getD (t - 15) 0) 7) + l.getD (t - 7) 0 + (rotR64 (l.getD (t - 2) 0) 19 ^^^ rotR64 (l.getD (t - 2) 0) 61 ^^^ shr_u64 (l.getD (t - 2) 0) 6)
def sched512 (b : List UInt8) : Nat → List UInt64
  | 0 => []
  | t + 1 => sched512 b t ++ [next512 b (sched512 b t) t]
theorem sched512_len (b : List UInt8) : ∀ t, (sched512 b t).length = t
  | 0 => rfl
  | t + 1 => by simp [sched512, sched512_len b t]
/-- One round. -/
def step512 (v : List UInt64) (k w : UInt64) : List UInt64 :=
  let e := v.getD 4 0
  let a := v.getD 0 0
  let x := v.getD 7 0 + (rotR64 e 14 ^^^ rotR64 e 18 ^^^ rotR64 e 41) + ((e &&& v.getD 5 0) ^^^ (~~~ e &&& v.getD 6 0)) + k + w
  let y := (rotR64 a 28 ^^^ rotR64 a 34 ^^^ rotR64 a 39) + (((a &&& v.getD 1 0) ^^^ (a &&& v.getD 2 0)) ^^^ (v.getD 1 0 &&& v.getD 2 0))
  [x + y, a, v.getD 1 0, v.getD 2 0, v.getD 3 0 + x, e, v.getD 5 0, v.getD 6 0]
def rnd512 (h : List UInt64) (ws : List UInt64) : Nat → List UInt64
  | 0 => h
  | t + 1 => step512 (rnd512 h ws t) (roundsL.getD t 0) (ws.getD t 0)
/-- A hash value behind a block. -/
def turn512L (h : List UInt64) (b : List UInt8) : List UInt64 := (List.range 8).map fun i => h.getD i 0 + (rnd512 h (sched512 b 80) 80).getD i 0
def arr512 (b : List UInt8) (t : Nat) : List UInt64 := sched512 b t ++ List.replicate (80 - t) 0
theorem arr512_len (b : List UInt8) (t : Nat) (h : t ≤ 80) : (arr512 b t).length = 80 := by simp [arr512, sched512_len]; omega
theorem arr512_set (b : List UInt8) (t : Nat) (h : t < 80) : (arr512 b t).set t (next512 b (sched512 b t) t) = arr512 b (t + 1) := by
  unfold arr512
  rw [show 80 - t = (80 - (t + 1)) + 1 by omega, set_front (sched512 b t) _ 0 _ (sched512_len b t).symm]
  rfl
theorem arr512_get (b : List UInt8) (t i : Nat) (h : i < t) : (arr512 b t).getD i 0 = (sched512 b t).getD i 0 := getD_app _ _ _ _ (by rw [sched512_len]; exact h)
theorem next512_lo (b : List UInt8) (l : List UInt64) (t : Nat) (h : t < 16) : next512 b l t = get64N (b.drop (8 * t)) 8 := by
  unfold next512; rw [if_pos h]
theorem next512_hi (b : List UInt8) (t : Nat) (h : ¬ t < 16) (ht : t ≤ 80) :
    (arr512 b t).getD (t - 16) 0 + (rotR64 ((arr512 b t).getD (t - 15) 0) 1 ^^^ rotR64 ((arr512 b t).getD (t - 15) 0) 8 ^^^ shr_u64 ((arr512 b t).getD (t - 15) 0) 7) + (arr512 b t).getD (t - 7) 0 + (rotR64 ((arr512 b t).getD (t - 2) 0) 19 ^^^ rotR64 ((arr512 b t).getD (t - 2) 0) 61 ^^^ shr_u64 ((arr512 b t).getD (t - 2) 0) 6) = next512 b (sched512 b t) t := by
  unfold next512
  rw [if_neg h, arr512_get b t _ (by omega), arr512_get b t _ (by omega), arr512_get b t _ (by omega), arr512_get b t _ (by omega)]
theorem rnd512_len (h : List UInt64) (ws : List UInt64) (hh : h.length = 8) : ∀ t, (rnd512 h ws t).length = 8
  | 0 => hh
  | t + 1 => rfl
theorem turn256L_len (h : List UInt32) (b : List UInt8) : (turn256L h b).length = 8 := by simp [turn256L]
theorem turn512L_len (h : List UInt64) (b : List UInt8) : (turn512L h b).length = 8 := by simp [turn512L]
end Go.X

/-
  Plain functions of SHA-2: the last bytes filled up. No program here.
-/
set_option linter.unusedVariables false
namespace Go.X
def pad64L (l : List UInt8) (n : UInt64) : List UInt8 := l ++ [128] ++ List.replicate ((120 - (l.length + 1) % 64) % 64) 0 ++ beN (8 * n) 8
def pad128L (l : List UInt8) (n : UInt64) : List UInt8 := l ++ [128] ++ List.replicate ((240 - (l.length + 1) % 128) % 128) 0 ++ List.replicate 8 0 ++ beN (8 * n) 8
theorem pad64L_len (l : List UInt8) (n : UInt64) : (pad64L l n).length = (l.length + 9) + (120 - (l.length + 1) % 64) % 64 := by simp [pad64L, beN_len]; omega
theorem pad128L_len (l : List UInt8) (n : UInt64) : (pad128L l n).length = (l.length + 17) + (240 - (l.length + 1) % 128) % 128 := by simp [pad128L, beN_len]; omega
theorem pad64_law (l : List UInt8) (n : UInt64) :
    l ++ [128] ++ List.replicate ((2 * 64 - 64 / 8 - ((l ++ [128]).length : Int) % 64) % 64).toNat 0 ++ List.replicate ((64 : Int) / 8 - 8).toNat 0 ++ beN (8 * n) 8 = pad64L l n := by
  unfold pad64L
  rw [show ((2 * 64 - 64 / 8 - ((l ++ [128] : List UInt8).length : Int) % 64) % 64).toNat = (120 - (l.length + 1) % 64) % 64 by simp; omega, show ((64 : Int) / 8 - 8).toNat = 0 by decide, List.replicate_zero, List.append_nil]
theorem pad128_law (l : List UInt8) (n : UInt64) :
    l ++ [128] ++ List.replicate ((2 * 128 - 128 / 8 - ((l ++ [128]).length : Int) % 128) % 128).toNat 0 ++ List.replicate ((128 : Int) / 8 - 8).toNat 0 ++ beN (8 * n) 8 = pad128L l n := by
  unfold pad128L
  rw [show ((2 * 128 - 128 / 8 - ((l ++ [128] : List UInt8).length : Int) % 128) % 128).toNat = (240 - (l.length + 1) % 128) % 128 by simp; omega, show ((128 : Int) / 8 - 8).toNat = 8 by decide]
def blk256 (h : List UInt32) (m : List UInt8) : Nat → List UInt32
  | 0 => h
  | i + 1 => turn256L (blk256 h m i) (m.drop (64 * i))
def blk512 (h : List UInt64) (m : List UInt8) : Nat → List UInt64
  | 0 => h
  | i + 1 => turn512L (blk512 h m i) (m.drop (128 * i))
theorem blk256_len (h : List UInt32) (m : List UInt8) (hh : h.length = 8) : ∀ i, (blk256 h m i).length = 8
  | 0 => hh
  | i + 1 => turn256L_len _ _
theorem blk512_len (h : List UInt64) (m : List UInt8) (hh : h.length = 8) : ∀ i, (blk512 h m i).length = 8
  | 0 => hh
  | i + 1 => turn512L_len _ _
def out512 (h : List UInt64) : List UInt8 := h.flatMap fun x => beN x 8
def out256 (h : List UInt32) : List UInt8 := h.flatMap fun x => beN x.toUInt64 4
theorem flatMap_take {α : Type} (f : α → List UInt8) (l : List α) (k : Nat) (d : α) (h : k < l.length) : (l.take (k + 1)).flatMap f = (l.take k).flatMap f ++ f (l.getD k d) := by
  rw [List.take_succ_eq_append_getElem h, List.flatMap_append, List.flatMap_singleton, List.getD_eq_getElem?_getD, List.getElem?_eq_getElem h]; rfl
theorem out512_len (h : List UInt64) : (out512 h).length = 8 * h.length := by
  induction h with
  | nil => rfl
  | cons x l ih => simp only [out512, List.flatMap_cons, List.length_append, beN_len, List.length_cons] at *; omega
theorem out256_len (h : List UInt32) : (out256 h).length = 4 * h.length := by
  induction h with
  | nil => rfl
  | cons x l ih => simp only [out256, List.flatMap_cons, List.length_append, beN_len, List.length_cons] at *; omega
/-- SHA-512. -/
def sha512L (l : List UInt8) : List UInt8 := out512 (blk512 startL (pad128L l (UInt64.ofNat l.length)) ((pad128L l (UInt64.ofNat l.length)).length / 128))
def start256L : List UInt32 := startL.map fun x => (shr_u64 x 32).toUInt32
/-- SHA-256. -/
def sha256L (l : List UInt8) : List UInt8 := out256 (blk256 start256L (pad64L l (UInt64.ofNat l.length)) ((pad64L l (UInt64.ofNat l.length)).length / 64))
theorem pad128_mod (l : List UInt8) (n : UInt64) : (pad128L l n).length % 128 = 0 := by rw [pad128L_len]; omega
theorem pad64_mod (l : List UInt8) (n : UInt64) : (pad64L l n).length % 64 = 0 := by rw [pad64L_len]; omega
theorem get64_congr {l m : List UInt8} : ∀ (k : Nat), (∀ i, i < k → l.getD i 0 = m.getD i 0) → get64N l k = get64N m k
  | 0, _ => rfl
  | k + 1, h => by rw [get64N, get64N, get64_congr k (fun i hi => h i (by omega)), h k (by omega)]
theorem get64_cut (p : List UInt8) (a k : Nat) : get64N ((p.take (a + k)).drop a) k = get64N (p.drop a) k := by
  refine get64_congr k fun i hi => ?_
  rw [getD_drop, getD_drop, List.getD_eq_getElem?_getD, List.getD_eq_getElem?_getD, List.getElem?_take_of_lt (by omega)]
theorem next256_lo' (b : List UInt8) (l : List UInt32) (t : Nat) (h : t < 16) : next256 b l t = (get64N (b.drop (4 * t)) 4).toUInt32 := by
  unfold next256; rw [if_pos h]
theorem rpad128_law (l : List UInt8) (n : UInt64) {k : Nat} (h : k = (240 - (l.length + 1) % 128) % 128) : l ++ [128] ++ List.replicate k 0 ++ List.replicate (Int.toNat 8) 0 ++ beN (n * 8) 8 = pad128L l n := by
  subst h; unfold pad128L; rw [UInt64.mul_comm n 8]; rfl
theorem rpad64_law (l : List UInt8) (n : UInt64) {k : Nat} (h : k = (120 - (l.length + 1) % 64) % 64) : l ++ [128] ++ List.replicate k 0 ++ beN (n * 8) 8 = pad64L l n := by
  subst h; unfold pad64L; rw [UInt64.mul_comm n 8]
end Go.X

/-
  Plain laws of SHA-256 that goes on: what a block looks at; over and back. No program here.
-/
set_option linter.unusedVariables false
namespace Go.X
theorem next256_congr {b b' : List UInt8} (h : ∀ i, i < 64 → b.getD i 0 = b'.getD i 0) (l : List UInt32) (t : Nat) : next256 b l t = next256 b' l t := by
  unfold next256
  by_cases ht : t < 16
  · rw [if_pos ht, if_pos ht, get64_congr (l := b.drop (4 * t)) (m := b'.drop (4 * t)) 4 (fun i hi => by rw [getD_drop, getD_drop]; exact h _ (by omega))]
  · rw [if_neg ht, if_neg ht]
theorem sched256_congr {b b' : List UInt8} (h : ∀ i, i < 64 → b.getD i 0 = b'.getD i 0) : ∀ t, sched256 b t = sched256 b' t
  | 0 => rfl
  | t + 1 => by rw [sched256, sched256, sched256_congr h t, next256_congr h]
theorem turn256L_congr {b b' : List UInt8} (h : ∀ i, i < 64 → b.getD i 0 = b'.getD i 0) (v : List UInt32) : turn256L v b = turn256L v b' := by
  unfold turn256L; rw [sched256_congr h]
theorem blk256_congr (v : List UInt32) {m m' : List UInt8} : ∀ k, (∀ i, i < 64 * k → m.getD i 0 = m'.getD i 0) → blk256 v m k = blk256 v m' k
  | 0, _ => rfl
  | k + 1, h => by
    rw [blk256, blk256, blk256_congr v k (fun i hi => h i (by omega)), turn256L_congr (b := m.drop (64 * k)) (b' := m'.drop (64 * k)) (fun i hi => by rw [getD_drop, getD_drop]; exact h _ (by omega))]
theorem blk256_app (v : List UInt32) (a x : List UInt8) (k : Nat) (h : 64 * k ≤ a.length) : blk256 v (a ++ x) k = blk256 v a k :=
  blk256_congr v k fun i hi => getD_app a x i 0 (by omega)
/-- Blocks of what stands behind the first j blocks. -/
theorem blk256_drop (v : List UInt32) (m : List UInt8) (j : Nat) : ∀ k, blk256 (blk256 v m j) (m.drop (64 * j)) k = blk256 v m (j + k)
  | 0 => rfl
  | k + 1 => by rw [blk256, blk256_drop v m j k, List.drop_drop, ← Nat.add_assoc, blk256, show 64 * j + 64 * k = 64 * (j + k) by omega]
theorem xor_back (x c : UInt32) : (x ^^^ c) ^^^ c = x := by
  apply UInt32.toNat_inj.1
  rw [UInt32.toNat_xor, UInt32.toNat_xor, Nat.xor_assoc, Nat.xor_self, Nat.xor_zero]
theorem over_over {h : List UInt32} (hh : h.length = 8) : overL (overL h) = h := by
  apply List.ext_getElem
  · simp [overL, hh]
  · intro i h1 h2
    have hi : i < 8 := by simpa [overL] using h1
    have e : (overL h).getD i 0 = overF h i := getD_map_range 8 (overF h) i 0 hi
    have e2 : h.getD i 0 = h[i] := by rw [List.getD_eq_getElem?_getD, List.getElem?_eq_getElem h2]; rfl
    refine (show (overL (overL h))[i] = overF (overL h) i by simp [overL]).trans ?_
    unfold overF
    rw [e]
    unfold overF
    rw [xor_back, e2]
end Go.X

/-
  A SHA-256 that goes on, as it lies in memory.
-/
set_option linter.unusedVariables false
namespace Go.X
/-- What a struct of Hash256 holds when a was added. -/
def hseg (a : List UInt8) (s : Value) : Segs := [(0, 8, (overL (blk256 start256L a (a.length / 64))).map fun x => W32 x), (8, 1, [s]), (9, 1, [W64 (UInt64.ofNat a.length)])]
/-- What is kept of it. -/
def restL (a : List UInt8) : List UInt8 := a.drop (64 * (a.length / 64))
theorem restL_len (a : List UInt8) : (restL a).length = a.length - 64 * (a.length / 64) := by simp [restL]
/-- More bytes: where the blocks stand. -/
theorem hs_blk (a x : List UInt8) (j : Nat) (hj : 64 * j ≤ (restL a ++ x).length) (hj2 : (restL a ++ x).length < 64 * (j + 1)) :
    blk256 (blk256 start256L a (a.length / 64)) (restL a ++ x) j = blk256 start256L (a ++ x) ((a ++ x).length / 64) ∧
    (restL a ++ x).drop (64 * j) = restL (a ++ x) := by
  have hd : restL a ++ x = (a ++ x).drop (64 * (a.length / 64)) := (List.drop_append_of_le_length (by omega)).symm
  have hq : a.length / 64 + j = (a ++ x).length / 64 := by simp only [List.length_append, restL_len] at *; omega
  constructor
  · rw [hd, ← hq, ← blk256_app start256L a x (a.length / 64) (by omega), blk256_drop]
  · rw [hd, List.drop_drop, restL, ← hq]; congr 1; omega
theorem hseg_next {a x : List UInt8} {s : Value} {j : Nat} (hj : 64 * j ≤ (restL a ++ x).length) (hj2 : (restL a ++ x).length < 64 * (j + 1)) :
    ([(0, 8, (overL (blk256 (blk256 start256L a (a.length / 64)) (restL a ++ x) j)).map fun x => W32 x), (8, 1, [s]), (9, 1, [W64 (UInt64.ofNat a.length + UInt64.ofNat x.length)])] : Segs) = hseg (a ++ x) s := by
  obtain ⟨h1, h2⟩ := hs_blk a x j hj hj2
  rw [h1, ← UInt64.ofNat_add, ← List.length_append]; rfl
theorem hs_sum (a : List UInt8) {j : Nat} (hj : 64 * j = (pad64L (restL a) (UInt64.ofNat a.length)).length) :
    out256 (blk256 (blk256 start256L a (a.length / 64)) (pad64L (restL a) (UInt64.ofNat a.length)) j) = sha256L a := by
  have hd : (pad64L a (UInt64.ofNat a.length)).drop (64 * (a.length / 64)) = pad64L (restL a) (UInt64.ofNat a.length) := by
    unfold pad64L
    rw [show (restL a).length + 1 = a.length - 64 * (a.length / 64) + 1 by rw [restL_len], List.append_assoc, List.append_assoc, List.append_assoc, List.append_assoc, List.drop_append_of_le_length (by omega)]
    rw [show (a.length - 64 * (a.length / 64) + 1) % 64 = (a.length + 1) % 64 by omega]; rfl
  have hl : (pad64L a (UInt64.ofNat a.length)).length / 64 = a.length / 64 + j := by
    rw [← hd] at hj
    have h3 := pad64_mod a (UInt64.ofNat a.length)
    have h4 := pad64L_len a (UInt64.ofNat a.length)
    simp only [List.length_drop] at hj; omega
  have ha : blk256 start256L a (a.length / 64) = blk256 start256L (pad64L a (UInt64.ofNat a.length)) (a.length / 64) := by
    unfold pad64L
    rw [List.append_assoc, List.append_assoc, blk256_app _ _ _ _ (by omega)]
  rw [ha, ← hd, blk256_drop, sha256L, hl]
theorem hseg_nil : hseg [] nilS = [(0, 8, (List.replicate 8 0).map fun x => W32 x), (8, 1, [nilS]), (9, 1, [W64 0])] := by
  have : overL (blk256 start256L [] 0) = List.replicate 8 0 := by decide +kernel
  simp only [hseg, List.length_nil, Nat.zero_div, this]; rfl
theorem sha256L_len (a : List UInt8) : (sha256L a).length = 32 := by rw [sha256L, out256_len, blk256_len _ _ rfl]
theorem sha512L_len (a : List UInt8) : (sha512L a).length = 64 := by rw [sha512L, out512_len, blk512_len _ _ rfl]
end Go.X

/-
  SHA-2 of "abc". No program here.
-/
set_option linter.unusedVariables false
set_option maxRecDepth 100000
namespace Go.X
theorem sha_abc256 : ((sha256L [97, 98, 99]).take 4) = [186, 120, 22, 191] := by decide +kernel
theorem sha_abc512 : ((sha512L [97, 98, 99]).take 4) = [221, 175, 53, 161] := by decide +kernel
end Go.X

/-
  HMAC and HKDF as plain functions; a key that is ready, as it lies in memory.
-/
set_option linter.unusedVariables false
set_option maxRecDepth 100000
namespace Go.X
def firstL (l : List UInt8) (n : Nat) : List UInt8 := l.take n ++ List.replicate (n - l.length) 0
theorem firstL_len (l : List UInt8) (n : Nat) : (firstL l n).length = n := by simp [firstL]; omega
theorem first_law {l : List UInt8} {n : Nat} : List.take (List.replicate n (0 : UInt8)).length l ++ List.drop (min l.length (List.replicate n (0 : UInt8)).length) (List.replicate n 0) = firstL l n := by
  unfold firstL
  simp
  omega
theorem copy64 (K : List UInt8) :
    (List.take 0 (List.map (fun x : UInt8 => B x) (List.replicate 64 0)) ++ List.take (64 - 0) (List.map (fun x : UInt8 => B x) K) ++ List.drop (0 + min (List.map (fun x : UInt8 => B x) K).length (64 - 0)) (List.map (fun x : UInt8 => B x) (List.replicate 64 0))) = (firstL K 64).map fun x => B x := by
  rw [List.take_zero, List.nil_append, firstL, List.map_append, List.map_take, ← List.map_drop, List.drop_replicate, List.length_map]
  congr 3
  omega
def key1 (key : List UInt8) : List UInt8 := if 64 < key.length then sha256L key else key
theorem key1_yes {key : List UInt8} (h : 64 < key.length) : key1 key = sha256L key := if_pos h
theorem key1_no {key : List UInt8} (h : ¬ 64 < key.length) : key1 key = key := if_neg h
def key64 (key : List UInt8) : List UInt8 := firstL (key1 key) 64
theorem key64_len (key : List UInt8) : (key64 key).length = 64 := firstL_len _ _
def padF (c : UInt8) (K : List UInt8) (i : Nat) : UInt8 := K.getD i 0 ^^^ c
def padL (c : UInt8) (key : List UInt8) : List UInt8 := (List.range 64).map (padF c (key64 key))
theorem padL_len (c : UInt8) (key : List UInt8) : (padL c key).length = 64 := by simp [padL]
theorem pad_fill (c : UInt8) (key x : List UInt8) (hx : x.length = 64) : fillU (padF c (key64 key)) x 64 = padL c key := by rw [fillU_all _ _ _ (by omega), hx]; rfl
theorem pad_in (c : UInt8) (key x : List UInt8) (hx : x.length = 64) (k : Nat) (hk : k = 64) : ([] ++ List.drop 0 (List.take 64 (fillU (padF c (key64 key)) x k)) : List UInt8) = padL c key := by
  subst hk
  rw [List.nil_append, List.drop_zero, pad_fill c key x hx, List.take_of_length_le (by rw [padL_len]; exact Nat.le_refl _)]
theorem u8_succ (k : Nat) : UInt8.ofNat k + 1 = UInt8.ofNat (k + 1) := by
  apply UInt8.toNat_inj.1; simp
/-- HMAC with SHA-256. -/
def macL (key b : List UInt8) : List UInt8 := sha256L (padL 92 key ++ sha256L (padL 54 key ++ b))
theorem macL_len (key b : List UInt8) : (macL key b).length = 32 := sha256L_len _
def KeyP (TK TH E : Nat) (w : World) (bk : Nat) (key : List UInt8) : Prop :=
  ∃ bi si bo so, Cel w bk TK [(0, 1, [.pointer (some ⟨bi, 0, none⟩)]), (1, 1, [.pointer (some ⟨bo, 0, none⟩)])] ∧ Cel w bi TH (hseg (padL 54 key) si) ∧ Ob 0 E w si (restL (padL 54 key)) ∧ Ap (some bi) si.ownBlock ∧
    Cel w bo TH (hseg (padL 92 key) so) ∧ Ob 0 E w so (restL (padL 92 key)) ∧ Ap (some bo) so.ownBlock
theorem KeyP.ext {TK TH E w w' bk key} (h : KeyP TK TH E w bk key) (he : Ext w w') : KeyP TK TH E w' bk key := by
  obtain ⟨bi, si, bo, so, h1, h2, h3, h4, h5, h6, h7⟩ := h
  exact ⟨bi, si, bo, so, h1.ext he, h2.ext he, Ow.ext h3 he, h4, h5.ext he, Ow.ext h6 he, h7⟩
/-- HKDF's second half: what k rounds draw; the last of them. -/
def exT (prk info : List UInt8) : Nat → List UInt8
  | 0 => []
  | k + 1 => macL prk (exT prk info k ++ info ++ [UInt8.ofNat (k + 1)])
def exO (prk info : List UInt8) : Nat → List UInt8
  | 0 => []
  | k + 1 => exO prk info k ++ exT prk info (k + 1)
theorem exT_len (prk info : List UInt8) (k : Nat) (h : 0 < k) : (exT prk info k).length = 32 := by
  cases k with
  | zero => omega
  | succ k => exact macL_len _ _
theorem exT_le (prk info : List UInt8) (k : Nat) : (exT prk info k).length ≤ 32 := by
  cases k with
  | zero => simp [exT]
  | succ k => rw [exT_len _ _ _ (by omega)]; exact Nat.le_refl _
theorem exO_len (prk info : List UInt8) : ∀ k, (exO prk info k).length = 32 * k
  | 0 => rfl
  | k + 1 => by rw [exO, List.length_append, exO_len prk info k, exT_len _ _ _ (by omega)]; omega
def exL (prk info : List UInt8) (n : Nat) : List UInt8 := (exO prk info ((n + 31) / 32)).take n
theorem exO_pre (prk info : List UInt8) (k : Nat) : ∀ j, ∃ t, exO prk info (k + j) = exO prk info k ++ t
  | 0 => ⟨[], by simp⟩
  | j + 1 => by
    obtain ⟨t, h⟩ := exO_pre prk info k j
    exact ⟨t ++ exT prk info (k + j + 1), by rw [← Nat.add_assoc, exO, h, List.append_assoc]⟩
theorem exL_of (prk info : List UInt8) {n k : Nat} (h : n ≤ 32 * k) : (exO prk info k).take n = exL prk info n := by
  unfold exL
  obtain ⟨t, ht⟩ := exO_pre prk info ((n + 31) / 32) (k - (n + 31) / 32)
  rw [show (n + 31) / 32 + (k - (n + 31) / 32) = k by omega] at ht
  rw [ht, List.take_append_of_le_length (by rw [exO_len]; omega)]
theorem exL_len (prk info : List UInt8) (n : Nat) : (exL prk info n).length = n := by rw [exL, List.length_take, exO_len]; omega
theorem exL_take (prk info : List UInt8) {n m : Nat} (h : n ≤ m) : (exL prk info m).take n = exL prk info n := by
  rw [← exL_of prk info (n := m) (k := (m + 31) / 32) (by omega), List.take_take, Nat.min_eq_left h, exL_of _ _ (by omega)]
def exQ (prk info : List UInt8) (n : Int) : List UInt8 := if 1 ≤ n ∧ n ≤ 8160 then exL prk info n.toNat else []
theorem exQ_yes {prk info : List UInt8} {n : Int} (h : 1 ≤ n ∧ n ≤ 8160) : exQ prk info n = exL prk info n.toNat := if_pos h
theorem exQ_no {prk info : List UInt8} {n : Int} (h : ¬ (1 ≤ n ∧ n ≤ 8160)) : exQ prk info n = [] := if_neg h
theorem exQ_len {prk info : List UInt8} {n : Int} (h : 1 ≤ n ∧ n ≤ 8160) : (exQ prk info n).length = n.toNat := by rw [exQ_yes h, exL_len]
theorem mac_nil : (macL [] []).take 4 = [182, 19, 103, 154] := by decide +kernel
theorem mac_zeros (b : List UInt8) : macL (List.replicate 32 0) b = macL [] b := by
  have : key64 (List.replicate 32 0) = key64 [] := by decide +kernel
  unfold macL padL
  rw [this]
theorem mac_long {k b : List UInt8} (h : 64 < k.length) : macL k b = macL (sha256L k) b := by
  have e : key64 k = key64 (sha256L k) := by
    unfold key64; rw [key1_yes h, key1_no (by rw [sha256L_len]; omega)]
  unfold macL padL; rw [e]
end Go.X
