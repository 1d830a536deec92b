import Derived.Test.YtghklimejpmpnaaT
import Derived.Test.YtghklimejpmpnaaW9
set_option linter.unusedVariables false
set_option linter.unusedSimpArgs false
set_option maxRecDepth 100000
set_option maxHeartbeats 4000000
namespace Go.Proofs
open Go.X Go.RowKit
namespace Ytghklimejpmpnaa
theorem RNumP {K : Nat → Prop} {b : Nat} {r : List UInt8} {w : World} {v : UInt64} (hr : Rdr 103 K w b (putN v ++ r)) (hl : r.length ≤ 900000000) : C Try.prog 40 [.pointer (some ⟨b, 0, none⟩)] w (Ret fun u w' => u = W64 v ∧ Rdr 103 K w' b r ∧ Tn [some b] w w') := by
  have h9 := putN_len v
  refine (RNum_ok hr (by rw [List.length_append]; omega) (gN_put _ _)).ret fun u w' h => ?_
  obtain ⟨h1, h2, h3⟩ := h
  rw [List.drop_left] at h2
  exact ⟨h1, h2, h3⟩
theorem RFixedP {K : Nat → Prop} {b : Nat} {r : List UInt8} {w : World} {m : List UInt8} (hr : Rdr 103 K w b (m ++ r)) (hl : m.length + r.length ≤ 900000000) : C Try.prog 51 [.pointer (some ⟨b, 0, none⟩), I (m.length : Int)] w (Ret fun u w' => (Ob 0 5 w' u m ∧ Fr w.heap.size u.ownBlock) ∧ Rdr 103 K w' b r ∧ Tn [some b] w w') := by
  refine (RFixed_ok hr (by rw [List.length_append]; omega) (by rw [List.length_append]; omega)).ret fun u w' h => ?_
  obtain ⟨h1, h2, h3⟩ := h
  rw [Int.toNat_natCast, List.drop_left] at h2
  rw [Int.toNat_natCast, List.take_left] at h1
  exact ⟨⟨Ow.base h1 (Nat.zero_le _), Ow.fr h1⟩, h2, h3⟩
theorem RBytesP {K : Nat → Prop} {b : Nat} {r : List UInt8} {w : World} {m : List UInt8} {t : Int} (hr : Rdr 103 K w b (bF m ++ r)) (hl : m.length + r.length ≤ 900000000) (ht : (m.length : Int) ≤ t ∧ t ≤ 1000000000) : C Try.prog 41 [.pointer (some ⟨b, 0, none⟩), I t] w (Ret fun u w' => (Ob 0 5 w' u m ∧ Fr w.heap.size u.ownBlock) ∧ Rdr 103 K w' b r ∧ Tn [some b] w w') := by
  have h9 := putN_len (UInt64.ofNat m.length)
  have hn : (UInt64.ofNat m.length).toNat = m.length := u64_nat (by omega)
  unfold bF at hr
  rw [List.append_assoc] at hr
  refine (RBytes_ok (q := UInt64.ofNat m.length) hr (by simp only [List.length_append]; omega) (by omega) (gN_put _ _) (by rw [hn]; exact ht.1) (by simp only [List.length_append]; omega)).ret fun u w' h => ?_
  obtain ⟨h1, h2, h3, h4⟩ := h
  rw [List.drop_left, hn, List.take_left] at h1
  rw [hn, ← List.append_assoc, show (putN (UInt64.ofNat m.length)).length + m.length = (putN (UInt64.ofNat m.length) ++ m).length by rw [List.length_append], List.drop_left] at h3
  exact ⟨⟨h1, h2⟩, h3, h4⟩
theorem RSmallP {K : Nat → Prop} {b : Nat} {r : List UInt8} {w : World} {n : Nat} {t : Int} (hr : Rdr 103 K w b (putN (UInt64.ofNat n) ++ r)) (hl : r.length ≤ 900000000) (ht : (n : Int) ≤ t ∧ t ≤ 1000000000) : C Try.prog 52 [.pointer (some ⟨b, 0, none⟩), I t] w (Ret fun u w' => u = I (n : Int) ∧ Rdr 103 K w' b r ∧ Tn [some b] w w') := by
  have h9 := putN_len (UInt64.ofNat n)
  have hn : (UInt64.ofNat n).toNat = n := u64_nat (by omega)
  refine (RSmall_ok (q := UInt64.ofNat n) hr (by simp only [List.length_append]; omega) (by omega) (gN_put _ _) (by rw [hn]; exact ht.1)).ret fun u w' h => ?_
  obtain ⟨h1, h2, h3⟩ := h
  rw [List.drop_left] at h2
  rw [hn] at h1
  exact ⟨h1, h2, h3⟩
end Ytghklimejpmpnaa
end Go.Proofs
