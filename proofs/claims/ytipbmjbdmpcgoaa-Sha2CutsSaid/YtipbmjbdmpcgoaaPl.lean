/-
  Plain laws of digits: text read as bytes. No program here.
-/
import Derived.Test.YtipbmjbdmpcgoaaPk
import Derived.Test.YtipbmjbdmpcgoaaX7
set_option linter.unusedVariables false
namespace Go.X
def dig (c : UInt8) : Int := if 48 ≤ c.toNat ∧ c.toNat ≤ 57 then c.toNat - 48 else if 97 ≤ c.toNat ∧ c.toNat ≤ 102 then c.toNat - 87 else -1
theorem dig_index (c : UInt8) : Lib.indexByte hexD c = dig c := by
  have h : ∀ n : _root_.Fin 256, Lib.indexByte hexD (UInt8.ofNat n.val) = dig (UInt8.ofNat n.val) := by decide +kernel
  have := h ⟨c.toNat, c.toNat_lt⟩
  simpa using this
theorem dig_bd (c : UInt8) : -1 ≤ dig c ∧ dig c ≤ 15 := by
  unfold dig; split
  · omega
  · split <;> omega
theorem dig_num {c : UInt8} (h0 : (48 : Int) ≤ (c.toNat : Int)) (h1 : (c.toNat : Int) ≤ 57) : ((c - 48).toNat : Int) = dig c := by
  unfold dig
  rw [if_pos (by omega), UInt8.toNat_sub_of_le _ _ (UInt8.le_iff_toNat_le.2 (by show 48 ≤ c.toNat; omega)), show (48 : UInt8).toNat = 48 from rfl]
  omega
theorem dig_let {c : UInt8} (h0 : (97 : Int) ≤ (c.toNat : Int)) (h1 : (c.toNat : Int) ≤ 102) : ((c - 97).toNat : Int) + 10 = dig c := by
  unfold dig
  rw [if_neg (by omega), if_pos (by omega), UInt8.toNat_sub_of_le _ _ (UInt8.le_iff_toNat_le.2 (by show 97 ≤ c.toNat; omega)), show (97 : UInt8).toNat = 97 from rfl]
  omega
theorem dig_no {c : UInt8} (h0 : ¬ ((48 : Int) ≤ (c.toNat : Int) ∧ (c.toNat : Int) ≤ 57)) (h1 : ¬ ((97 : Int) ≤ (c.toNat : Int) ∧ (c.toNat : Int) ≤ 102)) : dig c = -1 := by
  unfold dig
  rw [if_neg (by omega), if_neg (by omega)]
def okH (l : List UInt8) : Bool := decide (l.length % 2 = 0 ∧ ∀ j, j < l.length → 0 ≤ dig (l.getD j 0))
def unT (l : List UInt8) (k : Nat) : List UInt8 := (List.range k).map fun i => UInt8.ofNat (16 * dig (l.getD (2 * i) 0) + dig (l.getD (2 * i + 1) 0)).toNat
theorem unT_len (l : List UInt8) (k : Nat) : (unT l k).length = k := by simp [unT]
theorem unT_succ (l : List UInt8) (k : Nat) : unT l (k + 1) = unT l k ++ [UInt8.ofNat (16 * dig (l.getD (2 * k) 0) + dig (l.getD (2 * k + 1) 0)).toNat] := by simp [unT, List.range_succ]
def unH (l : List UInt8) : List UInt8 := if okH l then unT l (l.length / 2) else []
theorem okH_odd {l : List UInt8} (h : (l.length : Int) % 2 ≠ 0) : okH l = false := by
  unfold okH; exact decide_eq_false fun h' => by omega
theorem okH_bad {l : List UInt8} {j : Nat} (hj : j < l.length) (h : dig (l.getD j 0) < 0) : okH l = false := by
  unfold okH; exact decide_eq_false fun h' => by have := h'.2 j hj; omega
theorem okH_yes {l : List UInt8} {k : Nat} (h : (l.length : Int) % 2 = 0) (hk : ∀ j, j < 2 * k → 0 ≤ dig (l.getD j 0)) (hl : l.length ≤ 2 * k) : okH l = true := by
  unfold okH; exact decide_eq_true ⟨by omega, fun j hj => hk j (by omega)⟩
theorem un_no {w : World} {l : List UInt8} (h : okH l = false) : ∃ s, Value.tuple #[nilS, .bool false] = .tuple #[s, .bool (okH l)] ∧ Bs w s (unH l) :=
  ⟨nilS, by rw [h], by unfold unH; rw [h]; exact Rd.nilM _ _⟩
theorem un_yes {w : World} {l : List UInt8} {s : Value} {k : Nat} (h : okH l = true) (hk : k = l.length / 2) (hs : Bs w s (unT l k)) : ∃ s', Value.tuple #[s, .bool true] = .tuple #[s', .bool (okH l)] ∧ Bs w s' (unH l) :=
  ⟨s, by rw [h], by unfold unH; rw [h]; subst hk; exact hs⟩
theorem or_dig {a b : Int} (ha : 0 ≤ a) (hb : 0 ≤ b) (hb' : b ≤ 15) : (((a * 2 ^ (4 : Int).toNat).toNat ||| b.toNat : Nat) : Int).toNat = (16 * a + b).toNat := by
  have h1 : (a * 2 ^ (4 : Int).toNat).toNat = 2 ^ 4 * a.toNat := by
    rw [show (2 : Int) ^ (4 : Int).toNat = 16 from rfl]; omega
  rw [h1, ← Nat.two_pow_add_eq_or_of_lt (show b.toNat < 2 ^ 4 by omega)]
  simp only [Int.toNat_natCast]
  omega
theorem dig_hexD (n : Nat) (h : n < 16) : dig (hexD.getD n 0) = n := by
  have : ∀ n : _root_.Fin 16, dig (hexD.getD n.val 0) = n.val := by decide +kernel
  exact this ⟨n, h⟩
theorem hexL_get (l : List UInt8) : ∀ (i : Nat), i < l.length → (hexL l).getD (2 * i) 0 = hexD.getD (shr_u8 (l.getD i 0) 4).toNat 0 ∧ (hexL l).getD (2 * i + 1) 0 = hexD.getD (l.getD i 0 &&& 15).toNat 0 := by
  induction l with
  | nil => intro i hi; cases hi
  | cons x l ih =>
    intro i hi
    cases i with
    | zero => exact ⟨rfl, rfl⟩
    | succ i =>
      have := ih i (by simpa using hi)
      exact this
theorem okH_hex (l : List UInt8) : okH (hexL l) = true := by
  have hl := hexL_len l
  unfold okH
  refine decide_eq_true ⟨by omega, fun j hj => ?_⟩
  have hg := hexL_get l (j / 2) (by omega)
  rcases Nat.mod_two_eq_zero_or_one j with h | h
  · rw [show j = 2 * (j / 2) by omega, hg.1, dig_hexD _ (hi_lt _)]; omega
  · rw [show j = 2 * (j / 2) + 1 by omega, hg.2, dig_hexD _ (lo_lt _)]; omega
theorem unH_hex (l : List UInt8) : unH (hexL l) = l := by
  have hl := hexL_len l
  unfold unH
  rw [okH_hex, if_pos rfl, show (hexL l).length / 2 = l.length by omega]
  apply List.ext_getElem
  · rw [unT_len]
  · intro i h1 h2
    have hg := hexL_get l i h2
    have e : l.getD i 0 = l[i] := by rw [List.getD_eq_getElem?_getD, List.getElem?_eq_getElem h2]; rfl
    simp only [unT, List.getElem_map, List.getElem_range]
    rw [hg.1, hg.2, dig_hexD _ (hi_lt _), dig_hexD _ (lo_lt _), e]
    generalize l[i] = c
    have : ∀ n : _root_.Fin 256, UInt8.ofNat (16 * (((shr_u8 (UInt8.ofNat n.val) 4).toNat : Nat) : Int) + (((UInt8.ofNat n.val) &&& 15).toNat : Nat)).toNat = UInt8.ofNat n.val := by decide +kernel
    have := this ⟨c.toNat, c.toNat_lt⟩
    simpa using this
/-- What stands of a pair behind its first j digits. -/
def pv (l : List UInt8) (k j : Nat) : Int := if j = 0 then 0 else if j = 1 then dig (l.getD (2 * k) 0) else 16 * dig (l.getD (2 * k) 0) + dig (l.getD (2 * k + 1) 0)
theorem pv_succ (l : List UInt8) (k j : Nat) (h : j < 2) : 16 * pv l k j + dig (l.getD (2 * k + j) 0) = pv l k (j + 1) := by
  rcases (show j = 0 ∨ j = 1 by omega) with h | h <;> subst h
  · simp [pv]
  · simp [pv]
theorem pv_bd (l : List UInt8) (k j : Nat) : -32 ≤ pv l k j ∧ pv l k j ≤ 255 := by
  have h1 := dig_bd (l.getD (2 * k) 0)
  have h2 := dig_bd (l.getD (2 * k + 1) 0)
  unfold pv; split
  · omega
  · split <;> omega
end Go.X
