import Derived.Test.YtpkpicnldpbomaaPB
import Derived.Test.YtpkpicnldpbomaaPC
/-
  Plain functions of sealed texts. No program here.
-/
set_option linter.unusedVariables false
set_option maxRecDepth 100000
namespace Go.X
def sealB : List UInt8 := [115, 101, 97, 108]
/-- Both keys of a box. -/
def skQ (key : List UInt8) : List UInt8 := exQ (macL [] key) sealB 64
theorem skQ_len (key : List UInt8) : (skQ key).length = 64 := exQ_len ⟨by decide, by decide⟩
def tagL (key nonce data c : List UInt8) : List UInt8 := macL ((skQ key).drop 32) (nonce ++ beN (UInt64.ofNat data.length) 8 ++ data ++ c)
theorem tagL_len (key nonce data c : List UInt8) : (tagL key nonce data c).length = 32 := macL_len _ _
def mayE (nonce data text : List UInt8) (lim : Nat) : Int := if nonce.length ≠ 12 then 1 else if text.length > lim ∨ data.length > 65536 then 11 else 0
theorem mayE_arg {nonce data text : List UInt8} {lim : Nat} (h : nonce.length ≠ 12) : mayE nonce data text lim = 1 := if_pos h
theorem mayE_big {nonce data text : List UInt8} {lim : Nat} (h : nonce.length = 12) (h2 : text.length > lim ∨ data.length > 65536) : mayE nonce data text lim = 11 := by rw [mayE, if_neg (by omega), if_pos h2]
theorem mayE_ok {nonce data text : List UInt8} {lim : Nat} (h : nonce.length = 12) (h2 : ¬ (text.length > lim ∨ data.length > 65536)) : mayE nonce data text lim = 0 := by rw [mayE, if_neg (by omega), if_neg h2]
theorem mayE_zero {nonce data text : List UInt8} {lim : Nat} (h : mayE nonce data text lim = 0) : nonce.length = 12 ∧ text.length ≤ lim ∧ data.length ≤ 65536 := by
  unfold mayE at h
  split at h
  · cases h
  · split at h
    · cases h
    · omega
theorem mayE_bd (nonce data text : List UInt8) (lim : Nat) : 0 ≤ mayE nonce data text lim ∧ mayE nonce data text lim ≤ 11 := by
  unfold mayE
  split
  · decide
  · split <;> decide
/-- What is crypted. -/
def seC (key nonce text : List UInt8) : List UInt8 := cryL ((skQ key).take 32) nonce text
theorem sk32 (key : List UInt8) : ((skQ key).take 32).length = 32 := by rw [List.length_take, skQ_len]; rfl
theorem seC_ok {key nonce text : List UInt8} (h : nonce.length = 12) (h2 : text.length ≤ 1048576) : cryE ((skQ key).take 32) nonce text = 0 := strE_yes ⟨sk32 key, h, by omega, by omega⟩
theorem seC_len {key nonce text : List UInt8} (h : nonce.length = 12) (h2 : text.length ≤ 1048576) : (seC key nonce text).length = text.length := cry_len ⟨sk32 key, h, by omega, by omega⟩
theorem seC_back {key nonce text : List UInt8} (h : nonce.length = 12) (h2 : text.length ≤ 1048576) : seC key nonce (seC key nonce text) = text := cry_cry ⟨sk32 key, h, by omega, by omega⟩
/-- Sealed, by a box of a key. -/
def seQ (key nonce data text : List UInt8) : List UInt8 := if mayE nonce data text 65536 = 0 then seC key nonce text ++ tagL key nonce data (seC key nonce text) else []
theorem seQ_yes {key nonce data text : List UInt8} (h : mayE nonce data text 65536 = 0) : seQ key nonce data text = seC key nonce text ++ tagL key nonce data (seC key nonce text) := if_pos h
theorem seQ_no {key nonce data text : List UInt8} (h : mayE nonce data text 65536 ≠ 0) : seQ key nonce data text = [] := if_neg h
theorem seQ_len {key nonce data text : List UInt8} (h : mayE nonce data text 65536 = 0) : (seQ key nonce data text).length = text.length + 32 := by
  have h3 := mayE_zero h
  rw [seQ_yes h, List.length_append, tagL_len, seC_len h3.1 (by omega)]
def badB (key nonce data box : List UInt8) : Prop := box.length < 32 ∨ tagL key nonce data (box.take (box.length - 32)) ≠ box.drop (box.length - 32)
instance (key nonce data box : List UInt8) : Decidable (badB key nonce data box) := by unfold badB; infer_instance
def opE (key nonce data box : List UInt8) : Int := if mayE nonce data box 65568 ≠ 0 then mayE nonce data box 65568 else if badB key nonce data box then 2 else 0
def opQ (key nonce data box : List UInt8) : List UInt8 := if opE key nonce data box = 0 then seC key nonce (box.take (box.length - 32)) else []
theorem opE_may {key nonce data box : List UInt8} (h : mayE nonce data box 65568 ≠ 0) : opE key nonce data box = mayE nonce data box 65568 := if_pos h
theorem opE_bad {key nonce data box : List UInt8} (h : mayE nonce data box 65568 = 0) (h2 : badB key nonce data box) : opE key nonce data box = 2 := by rw [opE, if_neg (fun e => e h), if_pos h2]
theorem opE_ok {key nonce data box : List UInt8} (h : mayE nonce data box 65568 = 0) (h2 : ¬ badB key nonce data box) : opE key nonce data box = 0 := by rw [opE, if_neg (fun e => e h), if_neg h2]
theorem opQ_no {key nonce data box : List UInt8} (h : opE key nonce data box ≠ 0) : opQ key nonce data box = [] := if_neg h
theorem opQ_yes {key nonce data box : List UInt8} (h : opE key nonce data box = 0) : opQ key nonce data box = seC key nonce (box.take (box.length - 32)) := if_pos h
theorem op_se {key nonce data text : List UInt8} (h : mayE nonce data text 65536 = 0) : opE key nonce data (seQ key nonce data text) = 0 ∧ opQ key nonce data (seQ key nonce data text) = text := by
  have h3 := mayE_zero h
  have hl := seQ_len (key := key) h
  have hc := seC_len (key := key) (text := text) h3.1 (by omega)
  have ht : (seQ key nonce data text).take ((seQ key nonce data text).length - 32) = seC key nonce text := by
    rw [hl, Nat.add_sub_cancel, seQ_yes h, List.take_left' hc]
  have hd : (seQ key nonce data text).drop ((seQ key nonce data text).length - 32) = tagL key nonce data (seC key nonce text) := by
    rw [hl, Nat.add_sub_cancel, seQ_yes h, List.drop_left' hc]
  have hb : ¬ badB key nonce data (seQ key nonce data text) := by
    unfold badB
    rw [ht, hd, hl]
    intro h
    rcases h with h | h
    · omega
    · exact h rfl
  have he := opE_ok (key := key) (mayE_ok (data := data) (text := seQ key nonce data text) (lim := 65568) h3.1 (by omega)) hb
  exact ⟨he, by rw [opQ_yes he, ht, seC_back h3.1 (by omega)]⟩
/-- Sealed with a key. -/
def sealE (key nonce data text : List UInt8) : Int := if key.length = 32 then mayE nonce data text 65536 else 1
def sealL (key nonce data text : List UInt8) : List UInt8 := if key.length = 32 then seQ key nonce data text else []
def openE (key nonce data box : List UInt8) : Int := if key.length = 32 then opE key nonce data box else 1
def openL (key nonce data box : List UInt8) : List UInt8 := if key.length = 32 then opQ key nonce data box else []
theorem sealE_arg {key nonce data text : List UInt8} (h : key.length ≠ 32 ∨ nonce.length ≠ 12) : sealE key nonce data text = 1 := by
  unfold sealE
  split
  · exact mayE_arg (by omega)
  · rfl
theorem sealE_big {key nonce data text : List UInt8} (h : key.length = 32) (h2 : nonce.length = 12) (h3 : text.length > 65536 ∨ data.length > 65536) : sealE key nonce data text = 11 := by rw [sealE, if_pos h, mayE_big h2 h3]
theorem sealE_ok {key nonce data text : List UInt8} (h : key.length = 32) (h2 : nonce.length = 12) (h3 : ¬ (text.length > 65536 ∨ data.length > 65536)) : sealE key nonce data text = 0 := by rw [sealE, if_pos h, mayE_ok h2 h3]
theorem sealL_no {key nonce data text : List UInt8} (h : sealE key nonce data text ≠ 0) : sealL key nonce data text = [] := by
  unfold sealL
  split
  · next h1 => exact seQ_no (by rw [sealE, if_pos h1] at h; exact h)
  · rfl
theorem sealL_ok {key nonce data text : List UInt8} (h : key.length = 32) (h2 : nonce.length = 12) (h3 : ¬ (text.length > 65536 ∨ data.length > 65536)) : sealL key nonce data text = seC key nonce text ++ tagL key nonce data (seC key nonce text) := by
  rw [sealL, if_pos h, seQ_yes (mayE_ok h2 h3)]
theorem openE_arg {key nonce data box : List UInt8} (h : key.length ≠ 32 ∨ nonce.length ≠ 12) : openE key nonce data box = 1 := by
  unfold openE
  split
  · rw [opE, mayE_arg (by omega)]; rfl
  · rfl
theorem openE_big {key nonce data box : List UInt8} (h : key.length = 32) (h2 : nonce.length = 12) (h3 : box.length > 65568 ∨ data.length > 65536) : openE key nonce data box = 11 := by rw [openE, if_pos h, opE, mayE_big h2 h3]; rfl
theorem openE_bad {key nonce data box : List UInt8} (h : key.length = 32) (h2 : nonce.length = 12) (h3 : ¬ (box.length > 65568 ∨ data.length > 65536)) (h4 : badB key nonce data box) : openE key nonce data box = 2 := by rw [openE, if_pos h, opE_bad (mayE_ok h2 h3) h4]
theorem openE_ok {key nonce data box : List UInt8} (h : key.length = 32) (h2 : nonce.length = 12) (h3 : ¬ (box.length > 65568 ∨ data.length > 65536)) (h4 : ¬ badB key nonce data box) : openE key nonce data box = 0 := by rw [openE, if_pos h, opE_ok (mayE_ok h2 h3) h4]
theorem openL_no {key nonce data box : List UInt8} (h : openE key nonce data box ≠ 0) : openL key nonce data box = [] := by
  unfold openL
  split
  · next h1 => exact opQ_no (by rw [openE, if_pos h1] at h; exact h)
  · rfl
theorem openL_ok {key nonce data box : List UInt8} (h : key.length = 32) (h1 : openE key nonce data box = 0) : openL key nonce data box = seC key nonce (box.take (box.length - 32)) := by
  rw [openL, if_pos h, opQ_yes (by rw [openE, if_pos h] at h1; exact h1)]
theorem seC_ref (key nonce text : List UInt8) : xorL text (strQ (List.drop 0 (List.take 32 (skQ key))) nonce text.length) = seC key nonce text := by rw [List.drop_zero, ← cry_ref]; rfl
theorem sealL_len {key nonce data text : List UInt8} (h : sealE key nonce data text = 0) : (sealL key nonce data text).length = text.length + 32 := by
  unfold sealE at h
  split at h
  · next h1 => rw [sealL, if_pos h1, seQ_len h]
  · cases h
theorem Bs.live {w : World} {s : Value} {l : List UInt8} (h : Bs w s l) (hl : 0 < l.length) : Live w s.ownBlock := fun k hk => Rd.own_lt h (by simpa using hl) hk
/-- A box in memory. -/
def BoxP (TB TK TH E : Nat) (w : World) (b : Nat) (key : List UInt8) : Prop :=
  ∃ s bk, Cel w b TB [(0, 1, [s]), (1, 1, [.pointer (some ⟨bk, 0, none⟩)])] ∧ Bs w s ((skQ key).take 32) ∧ KeyP TK TH E w bk ((skQ key).drop 32)
theorem BoxP.ext {TB TK TH E w w' b key} (h : BoxP TB TK TH E w b key) (he : Ext w w') : BoxP TB TK TH E w' b key := by
  obtain ⟨s, bk, h1, h2, h3⟩ := h
  exact ⟨s, bk, h1.ext he, h2.ext he, h3.ext he⟩
end Go.X
