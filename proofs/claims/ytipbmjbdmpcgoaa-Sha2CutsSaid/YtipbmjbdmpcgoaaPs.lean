/-
  Plain functions of the layer sha2 and their laws: turning, the schedule, the rounds, blocks. No program here.
-/
import Derived.Test.YtipbmjbdmpcgoaaPl
import Derived.Test.YtipbmjbdmpcgoaaX11
set_option linter.unusedVariables false
namespace Go.X
def roundsL : List UInt64 := [4794697086780616226, 8158064640168781261, 13096744586834688815, 16840607885511220156, 4131703408338449720, 6480981068601479193, 10538285296894168987, 12329834152419229976, 15566598209576043074, 1334009975649890238, 2608012711638119052, 6128411473006802146, 8268148722764581231, 9286055187155687089, 11230858885718282805, 13951009754708518548, 16472876342353939154, 17275323862435702243, 1135362057144423861, 2597628984639134821, 3308224258029322869, 5365058923640841347, 6679025012923562964, 8573033837759648693, 10970295158949994411, 12119686244451234320, 12683024718118986047, 13788192230050041572, 14330467153632333762, 15395433587784984357, 489312712824947311, 1452737877330783856, 2861767655752347644, 3322285676063803686, 5560940570517711597, 5996557281743188959, 7280758554555802590, 8532644243296465576, 9350256976987008742, 10552545826968843579, 11727347734174303076, 12113106623233404929, 14000437183269869457, 14369950271660146224, 15101387698204529176, 15463397548674623760, 17586052441742319658, 1182934255886127544, 1847814050463011016, 2177327727835720531, 2830643537854262169, 3796741975233480872, 4115178125766777443, 5681478168544905931, 6601373596472566643, 7507060721942968483, 8399075790359081724, 8693463985226723168, 9568029438360202098, 10144078919501101548, 10430055236837252648, 11840083180663258601, 13761210420658862357, 14299343276471374635, 14566680578165727644, 15097957966210449927, 16922976911328602910, 17689382322260857208, 500013540394364858, 748580250866718886, 1242879168328830382, 1977374033974150939, 2944078676154940804, 3659926193048069267, 4368137639120453308, 4836135668995329356, 5532061633213252278, 6448918945643986474, 6902733635092675308, 7801388544844847127]
def startL : List UInt64 := [7640891576956012808, 13503953896175478587, 4354685564936845355, 11912009170470909681, 5840696475078001361, 11170449401992604703, 2270897969802886507, 6620516959819538809]
def rotR32 (x : UInt32) (m : Nat) : UInt32 := shr_u32 x m ||| shl_u32 x (32 - m)
def rotR64 (x : UInt64) (m : Nat) : UInt64 := shr_u64 x m ||| shl_u64 x (64 - m)
theorem UInt32.or_comm' (a b : UInt32) : a ||| b = b ||| a := by apply UInt32.toNat_inj.1; rw [UInt32.toNat_or, UInt32.toNat_or, Nat.or_comm]
theorem UInt64.or_comm' (a b : UInt64) : a ||| b = b ||| a := by apply UInt64.toNat_inj.1; rw [UInt64.toNat_or, UInt64.toNat_or, Nat.or_comm]
theorem neg_and31 {m : Nat} (h : 1 ≤ m ∧ m ≤ 31) : (UInt64.ofNat (-(m : Int) + 18446744073709551616).toNat &&& 31).toNat = 32 - m := by
  rw [UInt64.toNat_and, UInt64.toNat_ofNat', show (31 : UInt64).toNat = 2 ^ 5 - 1 from rfl, Nat.and_two_pow_sub_one_eq_mod]
  omega
theorem neg_and63 {m : Nat} (h : 1 ≤ m ∧ m ≤ 63) : (UInt64.ofNat (-(m : Int) + 18446744073709551616).toNat &&& 63).toNat = 64 - m := by
  rw [UInt64.toNat_and, UInt64.toNat_ofNat', show (63 : UInt64).toNat = 2 ^ 6 - 1 from rfl, Nat.and_two_pow_sub_one_eq_mod]
  omega
theorem sub_toNat {a : Nat} {s : UInt64} {c : UInt64} (hs : s.toNat = a) (hc : a ≤ c.toNat) : (c - s).toNat = c.toNat - a := by
  rw [UInt64.toNat_sub_of_le _ _ (UInt64.le_iff_toNat_le.2 (by omega)), hs]
/-- RotateLeft32 by less than nothing. -/
theorem rot32_law (x : UInt32) {m : Nat} (h : 1 ≤ m ∧ m ≤ 31) :
    (shl_u32 x ((UInt64.ofNat (-(m : Int) + 18446744073709551616).toNat &&& 31).toNat : Int).toNat ||| shr_u32 x ((32 - (UInt64.ofNat (-(m : Int) + 18446744073709551616).toNat &&& 31)).toNat : Int).toNat) = rotR32 x m := by
  have h1 := neg_and31 h
  rw [sub_toNat h1 (show 32 - m ≤ (32 : UInt64).toNat by show 32 - m ≤ 32; omega), h1, Int.toNat_natCast, Int.toNat_natCast, UInt32.or_comm']
  unfold rotR32
  rw [show (32 : UInt64).toNat - (32 - m) = m by show 32 - (32 - m) = m; omega]
theorem rot64_law (x : UInt64) {m : Nat} (h : 1 ≤ m ∧ m ≤ 63) :
    (shl_u64 x ((UInt64.ofNat (-(m : Int) + 18446744073709551616).toNat &&& 63).toNat : Int).toNat ||| shr_u64 x ((64 - (UInt64.ofNat (-(m : Int) + 18446744073709551616).toNat &&& 63)).toNat : Int).toNat) = rotR64 x m := by
  have h1 := neg_and63 h
  rw [sub_toNat h1 (show 64 - m ≤ (64 : UInt64).toNat by show 64 - m ≤ 64; omega), h1, Int.toNat_natCast, Int.toNat_natCast, UInt64.or_comm']
  unfold rotR64
  rw [show (64 : UInt64).toNat - (64 - m) = m by show 64 - (64 - m) = m; omega]
theorem rotR32_law (x : UInt32) {m : Nat} (h : 1 ≤ m ∧ m ≤ 31) : (shr_u32 x (m : Int).toNat ||| shl_u32 x (32 - (m : Int)).toNat) = rotR32 x m := by
  unfold rotR32; rw [Int.toNat_natCast, show (32 - (m : Int)).toNat = 32 - m by omega]
theorem rotR64_law (x : UInt64) {m : Nat} (h : 1 ≤ m ∧ m ≤ 63) : (shr_u64 x (m : Int).toNat ||| shl_u64 x (64 - (m : Int)).toNat) = rotR64 x m := by
  unfold rotR64; rw [Int.toNat_natCast, show (64 - (m : Int)).toNat = 64 - m by omega]
section
variable {P : Program} {σ : Env} {w : World}
theorem cv_i_64n {n : Int} (h : -9223372036854775808 ≤ n ∧ n < 0) : IntKind.u64.wrap n = ((UInt64.ofNat (n + 18446744073709551616).toNat).toNat : Int) := by
  unfold IntKind.wrap
  simp only [IntKind.bits, IntKind.signed, Bool.false_and, UInt64.toNat_ofNat']
  simp only [Bool.false_eq_true, if_false]
  omega
theorem Yd.cv_i_64n {ty s d x n} (hs : P.underlying s = some (.int .i64)) (hd : P.underlying d = some (.int .u64)) (hx : ev σ x = some (I n)) (h : -9223372036854775808 ≤ n ∧ n < 0) : Yd P σ (.convert s d x) ty (W64 (UInt64.ofNat (n + 18446744073709551616).toNat)) w := .conv hs hd hx (Go.X.cv_i_64n h)
end
end Go.X
