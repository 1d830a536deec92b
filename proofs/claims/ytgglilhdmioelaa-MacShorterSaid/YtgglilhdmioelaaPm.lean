/-
  HMAC and HKDF as plain functions; a key that is ready, as it lies in memory.
-/
import Derived.Test.YtgglilhdmioelaaPy
import Derived.Test.YtgglilhdmioelaaX17
set_option linter.unusedVariables false
set_option maxRecDepth 100000
namespace Go.X
def firstL (l : List UInt8) (n : Nat) : List UInt8 := l.take n ++ List.replicate (n - l.length) 0
theorem firstL_len (l : List UInt8) (n : Nat) : (firstL l n).length = n := by simp [firstL]; omega
theorem first_law {l : List UInt8} {n : Nat} : List.take (List.replicate n (0 : UInt8)).length l ++ List.drop (min l.length (List.replicate n (0 : UInt8)).length) (List.replicate n 0) = firstL l n := by
  unfold firstL
  simp
  omega
theorem copy64 (K : List UInt8) :
    (List.take 0 (List.map (fun x : UInt8 => B x) (List.replicate 64 0)) ++ List.take (64 - 0) (List.map (fun x : UInt8 => B x) K) ++ List.drop (0 + min (List.map (fun x : UInt8 => B x) K).length (64 - 0)) (List.map (fun x : UInt8 => B x) (List.replicate 64 0))) = (firstL K 64).map fun x => B x := by
  rw [List.take_zero, List.nil_append, firstL, List.map_append, List.map_take, ← List.map_drop, List.drop_replicate, List.length_map]
  congr 3
  omega
def key1 (key : List UInt8) : List UInt8 := if 64 < key.length then sha256L key else key
theorem key1_yes {key : List UInt8} (h : 64 < key.length) : key1 key = sha256L key := if_pos h
theorem key1_no {key : List UInt8} (h : ¬ 64 < key.length) : key1 key = key := if_neg h
def key64 (key : List UInt8) : List UInt8 := firstL (key1 key) 64
theorem key64_len (key : List UInt8) : (key64 key).length = 64 := firstL_len _ _
def padF (c : UInt8) (K : List UInt8) (i : Nat) : UInt8 := K.getD i 0 ^^^ c
def padL (c : UInt8) (key : List UInt8) : List UInt8 := (List.range 64).map (padF c (key64 key))
theorem padL_len (c : UInt8) (key : List UInt8) : (padL c key).length = 64 := by simp [padL]
theorem pad_fill (c : UInt8) (key x : List UInt8) (hx : x.length = 64) : fillU (padF c (key64 key)) x 64 = padL c key := by rw [fillU_all _ _ _ (by omega), hx]; rfl
theorem pad_in (c : UInt8) (key x : List UInt8) (hx : x.length = 64) (k : Nat) (hk : k = 64) : ([] ++ List.drop 0 (List.take 64 (fillU (padF c (key64 key)) x k)) : List UInt8) = padL c key := by
  subst hk
  rw [List.nil_append, List.drop_zero, pad_fill c key x hx, List.take_of_length_le (by rw [padL_len]; exact Nat.le_refl _)]
theorem u8_succ (k : Nat) : UInt8.ofNat k + 1 = UInt8.ofNat (k + 1) := by
  apply UInt8.toNat_inj.1; simp
/-- HMAC with SHA-256. -/
def macL (key b : List UInt8) : List UInt8 := sha256L (padL 92 key ++ sha256L (padL 54 key ++ b))
theorem macL_len (key b : List UInt8) : (macL key b).length = 32 := sha256L_len _
def KeyP (TK TH E : Nat) (w : World) (bk : Nat) (key : List UInt8) : Prop :=
  ∃ bi si bo so, Cel w bk TK [(0, 1, [.pointer (some ⟨bi, 0, none⟩)]), (1, 1, [.pointer (some ⟨bo, 0, none⟩)])] ∧ Cel w bi TH (hseg (padL 54 key) si) ∧ Ob 0 E w si (restL (padL 54 key)) ∧ Ap (some bi) si.ownBlock ∧
    Cel w bo TH (hseg (padL 92 key) so) ∧ Ob 0 E w so (restL (padL 92 key)) ∧ Ap (some bo) so.ownBlock
theorem KeyP.ext {TK TH E w w' bk key} (h : KeyP TK TH E w bk key) (he : Ext w w') : KeyP TK TH E w' bk key := by
  obtain ⟨bi, si, bo, so, h1, h2, h3, h4, h5, h6, h7⟩ := h
  exact ⟨bi, si, bo, so, h1.ext he, h2.ext he, Ow.ext h3 he, h4, h5.ext he, Ow.ext h6 he, h7⟩
/-- HKDF's second half: what k rounds draw; the last of them. -/
def exT (prk info : List UInt8) : Nat → List UInt8
  | 0 => []
  | k + 1 => macL prk (exT prk info k ++ info ++ [UInt8.ofNat (k + 1)])
def exO (prk info : List UInt8) : Nat → List UInt8
  | 0 => []
  | k + 1 => exO prk info k ++ exT prk info (k + 1)
theorem exT_len (prk info : List UInt8) (k : Nat) (h : 0 < k) : (exT prk info k).length = 32 := by
  cases k with
  | zero => omega
  | succ k => exact macL_len _ _
theorem exT_le (prk info : List UInt8) (k : Nat) : (exT prk info k).length ≤ 32 := by
  cases k with
  | zero => simp [exT]
  | succ k => rw [exT_len _ _ _ (by omega)]; exact Nat.le_refl _
theorem exO_len (prk info : List UInt8) : ∀ k, (exO prk info k).length = 32 * k
  | 0 => rfl
  | k + 1 => by rw [exO, List.length_append, exO_len prk info k, exT_len _ _ _ (by omega)]; omega
def exL (prk info : List UInt8) (n : Nat) : List UInt8 := (exO prk info ((n + 31) / 32)).take n
theorem exO_pre (prk info : List UInt8) (k : Nat) : ∀ j, ∃ t, exO prk info (k + j) = exO prk info k ++ t
  | 0 => ⟨[], by simp⟩
  | j + 1 => by
    obtain ⟨t, h⟩ := exO_pre prk info k j
    exact ⟨t ++ exT prk info (k + j + 1), by rw [← Nat.add_assoc, exO, h, List.append_assoc]⟩
theorem exL_of (prk info : List UInt8) {n k : Nat} (h : n ≤ 32 * k) : (exO prk info k).take n = exL prk info n := by
  unfold exL
  obtain ⟨t, ht⟩ := exO_pre prk info ((n + 31) / 32) (k - (n + 31) / 32)
  rw [show (n + 31) / 32 + (k - (n + 31) / 32) = k by omega] at ht
  rw [ht, List.take_append_of_le_length (by rw [exO_len]; omega)]
theorem exL_len (prk info : List UInt8) (n : Nat) : (exL prk info n).length = n := by rw [exL, List.length_take, exO_len]; omega
theorem exL_take (prk info : List UInt8) {n m : Nat} (h : n ≤ m) : (exL prk info m).take n = exL prk info n := by
  rw [← exL_of prk info (n := m) (k := (m + 31) / 32) (by omega), List.take_take, Nat.min_eq_left h, exL_of _ _ (by omega)]
def exQ (prk info : List UInt8) (n : Int) : List UInt8 := if 1 ≤ n ∧ n ≤ 8160 then exL prk info n.toNat else []
theorem exQ_yes {prk info : List UInt8} {n : Int} (h : 1 ≤ n ∧ n ≤ 8160) : exQ prk info n = exL prk info n.toNat := if_pos h
theorem exQ_no {prk info : List UInt8} {n : Int} (h : ¬ (1 ≤ n ∧ n ≤ 8160)) : exQ prk info n = [] := if_neg h
theorem exQ_len {prk info : List UInt8} {n : Int} (h : 1 ≤ n ∧ n ≤ 8160) : (exQ prk info n).length = n.toNat := by rw [exQ_yes h, exL_len]
theorem mac_nil : (macL [] []).take 4 = [182, 19, 103, 154] := by decide +kernel
theorem mac_zeros (b : List UInt8) : macL (List.replicate 32 0) b = macL [] b := by
  have : key64 (List.replicate 32 0) = key64 [] := by decide +kernel
  unfold macL padL
  rw [this]
theorem mac_long {k b : List UInt8} (h : 64 < k.length) : macL k b = macL (sha256L k) b := by
  have e : key64 k = key64 (sha256L k) := by
    unfold key64; rw [key1_yes h, key1_no (by rw [sha256L_len]; omega)]
  unfold macL padL; rw [e]
end Go.X
