/-
  Plain laws of AES's streams. No program here.
-/
import Derived.Test.YtbklhpdfbdhoeaaPb
set_option linter.unusedVariables false
namespace Go.X
theorem xorL_zero (l : List UInt8) (n : Nat) (h : n = l.length) : xorL (List.replicate n 0) l = l := by
  subst h
  induction l with
  | nil => rfl
  | cons a l ih =>
    show (0 ^^^ a) :: xorL (List.replicate l.length 0) l = a :: l
    rw [UInt8.zero_xor, ih]
theorem cry_zero {key nonce : List UInt8} {N : Nat} (h : key.length = 32 ∧ nonce.length = 12 ∧ 0 ≤ (N : Int) ∧ (N : Int) ≤ 1048576) : cryL key nonce (List.replicate (N : Int).toNat 0) = strQ key nonce (N : Int) := by
  rw [Int.toNat_natCast, cry_ref, List.length_replicate, xorL_zero _ _ (by rw [strQ_len h, Int.toNat_natCast])]
theorem blk_of {key nonce : List UInt8} {k : Nat} (h1 : key.length = 32) (h2 : nonce.length = 12) : blkL key ([nonce, beN (UInt64.ofNat k) 4] : List (List UInt8)).flatten = aesL key (nonce ++ beN (UInt64.ofNat k) 4) := by
  rw [show ([nonce, beN (UInt64.ofNat k) 4] : List (List UInt8)).flatten = nonce ++ beN (UInt64.ofNat k) 4 by simp, blkL_yes ⟨h1, by simp [beN_len, h2]⟩]
theorem cnt_law {key nonce : List UInt8} {N k : Nat} (h1 : key.length = 32) (h2 : nonce.length = 12) (h3 : (N : Int) ≤ 1048576) (hk : 16 * k + 16 ≤ N) :
    blkL key ([nonce, beN (UInt64.ofNat (k : Int).toNat) 4] : List (List UInt8)).flatten = List.drop (16 * (k : Int)).toNat (List.take (16 * (k : Int) + 16).toNat (strQ key nonce (N : Int))) := by
  rw [Int.toNat_natCast, blk_of h1 h2, strQ_yes ⟨h1, h2, by omega, h3⟩, Int.toNat_natCast, show (16 * (k : Int)).toNat = 16 * k by omega, show (16 * (k : Int) + 16).toNat = 16 * k + 16 by omega, strL_block _ _ hk]
theorem cry_len {key nonce b : List UInt8} (h : key.length = 32 ∧ nonce.length = 12 ∧ 0 ≤ (b.length : Int) ∧ (b.length : Int) ≤ 1048576) : (cryL key nonce b).length = b.length := by
  rw [cry_ref, xorL_len, strQ_len h, Int.toNat_natCast, Nat.min_self]
theorem cry_cry {key nonce b : List UInt8} (h : key.length = 32 ∧ nonce.length = 12 ∧ 0 ≤ (b.length : Int) ∧ (b.length : Int) ≤ 1048576) : cryL key nonce (cryL key nonce b) = b := by
  have hl := cry_len h
  rw [cry_ref key nonce (cryL key nonce b), hl, cry_ref key nonce b, xorL_xorL, strQ_len h, Int.toNat_natCast, Nat.min_self, List.take_length]
theorem strQ_take {key nonce : List UInt8} {n m : Nat} (h1 : key.length = 32) (h2 : nonce.length = 12) (hn : n ≤ m) (hm : m ≤ 1048576) : List.drop 0 (List.take (n : Int).toNat (strQ key nonce (m : Int))) = strQ key nonce (n : Int) := by
  rw [List.drop_zero, strQ_yes ⟨h1, h2, by omega, by omega⟩, strQ_yes ⟨h1, h2, by omega, by omega⟩, Int.toNat_natCast, Int.toNat_natCast, strL_take _ _ hn]
theorem back_law {key nonce : List UInt8} {m : Nat} {k : Int} (h1 : key.length = 32) (h2 : nonce.length = 12) (h3 : (m : Int) ≤ 1048576) (h0 : 0 ≤ k) (hk : 16 * k + 16 ≤ (m : Int)) :
    blkL key ([nonce, beN (UInt64.ofNat k.toNat) 4] : List (List UInt8)).flatten = List.drop (16 * k).toNat (List.take (16 * k + 16).toNat (strQ key nonce (m : Int))) := by
  obtain ⟨K, rfl⟩ := Int.eq_ofNat_of_zero_le h0
  exact cnt_law h1 h2 h3 (by omega)
theorem strE0 (key nonce : List UInt8) (n : Int) : decide (strE key nonce n = 0) = decide (key.length = 32 ∧ nonce.length = 12 ∧ 0 ≤ n ∧ n ≤ 1048576) := by
  by_cases h : key.length = 32 ∧ nonce.length = 12 ∧ 0 ≤ n ∧ n ≤ 1048576
  · rw [strE_yes h, decide_eq_true h]; rfl
  · rw [strE_no h, decide_eq_false h]; rfl
theorem blkE0 (key b : List UInt8) : decide (blkE key b = 0) = decide (key.length = 32 ∧ b.length = 16) := by
  by_cases h : key.length = 32 ∧ b.length = 16
  · rw [blkE_yes h, decide_eq_true h]; rfl
  · rw [blkE_no h, decide_eq_false h]; rfl
theorem lim_len (K M : Nat) (n : Int) (h : K = 32 ∧ M = 12 ∧ 0 ≤ n) : ((strQ (List.replicate K 0) (List.replicate M 0) n).length : Int) = (if n < 0 then 0 else n) * (if decide (n ≤ 1048576) = true then 1 else 0) := by
  rw [if_neg (by omega)]
  by_cases hz : n ≤ 1048576
  · rw [strQ_len (by simp only [List.length_replicate]; omega), decide_eq_true hz, if_pos rfl]; omega
  · rw [strQ_no (by simp only [List.length_replicate]; omega), decide_eq_false hz, if_neg (by decide)]; simp
end Go.X
