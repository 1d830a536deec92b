import Derived.Test.YtfefphcmfhabiaaT
import Derived.Test.YtfefphcmfhabiaaJ5
set_option linter.unusedVariables false
set_option linter.unusedSimpArgs false
set_option maxRecDepth 100000
set_option maxHeartbeats 4000000
namespace Go.Proofs
open Go.X Go.RowKit
namespace Ytfefphcmfhabiaa
theorem Block_ok {n q : Int} {w : World} (hn : 0 ≤ n ∧ n ≤ 1000) (hq : 0 ≤ q ∧ q ≤ 1000000000) : C Try.prog 11 [I n, I q] w (Ret fun v w' => Ob w.heap.size 5 w' v (blkL n.toNat q) ∧ Ext w w') := by
  have e0 := Ext.refl w
  refine C.enter Try.func11 rfl Try.ntmps11 rfl ?_
  refine J.seq ?_
  refine J.region ?_
  refine J.op (Yd.assign rfl) rfl ?_
  refine J.nil ?_
  refine J.n_then ?_
  refine J.seq ?_
  refine J.region ?_
  refine J.op (Yd.move rfl) rfl ?_
  refine J.op (Yd.maxi rfl rfl) rfl ?_
  refine J.eff (Ye.make (base := w.heap.size) Try.underlying29 ti5 rfl rfl (by first | omega | exact idx_u8' _ | (simp only [Int.toNat_natCast]; omega) | (simp only [List.length_map, List.length_drop, List.length_take, List.length_append, List.length_replicate]; omega) | (simp <;> omega)) (by first | omega | exact idx_u8' _ | (simp only [Int.toNat_natCast]; omega) | (simp only [List.length_map, List.length_drop, List.length_take, List.length_append, List.length_replicate]; omega) | (simp <;> omega)) (by unfold maxLen; omega) rfl (Nat.le_refl _)) rfl ?_
  rintro s9_1 w1 ⟨o9_1, x1⟩
  have fr_s9_1 : Fr w.heap.size s9_1.ownBlock := Fr.le (Ow.fr o9_1) e0.size
  replace o9_1 := Ow.base o9_1 e0.size
  have e0 := e0.trans x1
  clear x1
  rw [rep_B] at o9_1
  refine J.op (Yd.assign rfl) rfl ?_
  refine J.nil ?_
  refine J.n_then ?_
  refine J.seq ?_
  refine J.seq ?_
  refine J.region ?_
  refine J.op (Yd.assign rfl) rfl ?_
  refine J.nil ?_
  refine J.n_then ?_
  refine J.block ?_
  refine J.loop (ι := Nat) (fun i => [(0, I n), (1, I q), (6, I i), (5, s9_1)]) (fun i w' => i ≤ n.toNat ∧ Ob w.heap.size 5 w' s9_1 (fillU (blkF q) (List.replicate n.toNat 0) i) ∧ Ext w w') (fun i => n.toNat - i) (0) ⟨rfl, rfl, rfl, rfl, trivial⟩ (⟨Nat.zero_le _, (by rw [fillU_zero]; have h9 := o9_1; rw [max_n (by omega)] at h9; exact h9), e0⟩) ?_
  rintro k w2 ⟨hk, ho5, e0⟩
  have hfl := fillU_len (blkF q) (List.replicate n.toNat 0) k
  rw [List.length_replicate] at hfl
  have hkk := blk_mul2 (k := k) (by omega)
  refine J.seq ?_
  refine J.seq ?_
  refine J.region ?_
  refine J.op (Yd.move rfl) rfl ?_
  refine J.op (Yd.move rfl) rfl ?_
  refine J.op (Yd.len_b Try.underlying29 rfl (Ow.rd ho5)) rfl ?_
  refine J.op (Yd.lss rfl rfl) rfl ?_
  refine J.nil ?_
  refine J.n_then ?_
  refine J.cond_dec rfl (fun hc0 => ?_) (fun hc0 => ?_)
  · skip
    refine J.skip ?_
    refine J.n_then ?_
    refine J.seq ?_
    refine J.block ?_
    refine J.region ?_
    refine J.op (Yd.move rfl) rfl ?_
    refine J.op (Yd.move rfl) rfl ?_
    refine J.op (Yd.move rfl) rfl ?_
    refine J.op (Yd.move rfl) rfl ?_
    refine J.op (Yd.mul rfl rfl (blk_mul (by omega))) rfl ?_
    refine J.op (Yd.move rfl) rfl ?_
    refine J.op (Yd.mul rfl rfl (by first | omega | exact idx_u8' _ | (simp only [Int.toNat_natCast]; omega) | (simp only [List.length_map, List.length_drop, List.length_take, List.length_append, List.length_replicate]; omega) | (simp <;> omega))) rfl ?_
    refine J.op (Yd.add rfl rfl (by first | omega | exact idx_u8' _ | (simp only [Int.toNat_natCast]; omega) | (simp only [List.length_map, List.length_drop, List.length_take, List.length_append, List.length_replicate]; omega) | (simp <;> omega))) rfl ?_
    refine J.op (Yd.add rfl rfl (by first | omega | exact idx_u8' _ | (simp only [Int.toNat_natCast]; omega) | (simp only [List.length_map, List.length_drop, List.length_take, List.length_append, List.length_replicate]; omega) | (simp <;> omega))) rfl ?_
    refine J.eff (Ye.call cl14 rfl (Round_ok (by omega) (by omega))) rfl ?_
    rintro _ w3 ⟨rfl, x1⟩
    have e0 := e0.trans x1
    have ho5 := ho5.ext x1
    clear x1
    refine J.op (Yd.cv_i_8 Try.underlying3 Try.underlying5 rfl (by first | omega | exact idx_u8' _ | (simp only [Int.toNat_natCast]; omega) | (simp only [List.length_map, List.length_drop, List.length_take, List.length_append, List.length_replicate]; omega) | (simp <;> omega))) rfl ?_
    refine J.op (Yd.idx_b Try.underlying29 ti5 rfl rfl (Ow.rd ho5) (by first | omega | exact idx_u8' _ | (simp only [Int.toNat_natCast]; omega) | (simp only [List.length_map, List.length_drop, List.length_take, List.length_append, List.length_replicate]; omega) | (simp <;> omega))) rfl ?_
    refine J.eff0 (Ye.storeOwM ti5 ho5 rfl rfl (by first | omega | exact idx_u8' _ | (simp only [Int.toNat_natCast]; omega) | (simp only [List.length_map, List.length_drop, List.length_take, List.length_append, List.length_replicate]; omega) | (simp <;> omega)) (fun _ => rfl) (fun _ => rfl)) ?_
    rintro _ w4 ⟨o', hg⟩
    have e0 := Ext.gbk e0 fr_s9_1 hg
    replace ho5 := o'
    clear hg o'
    refine J.nil ?_
    refine J.n_block ?_
    refine J.n_then ?_
    refine J.region ?_
    refine J.op (Yd.move rfl) rfl ?_
    refine J.op (Yd.add rfl rfl (by first | omega | exact idx_u8' _ | (simp only [Int.toNat_natCast]; omega) | (simp only [List.length_map, List.length_drop, List.length_take, List.length_append, List.length_replicate]; omega) | (simp <;> omega))) rfl ?_
    refine J.op (Yd.assign rfl) rfl ?_
    refine J.nil ?_
    refine J.n_then ?_
    exact J.round (k + 1) ⟨rfl, rfl, rfl, rfl, trivial⟩ (⟨by omega, (by rw [← fillU_set]; have h9 := ho5; rw [Int.toNat_natCast] at h9; exact h9), e0⟩) (by omega)
  · skip
    refine J.exit ?_
    refine J.x_then ?_
    refine J.x_then ?_
    refine J.x_block ?_
    refine J.n_then ?_
    refine J.seq ?_
    refine J.region ?_
    refine J.op (Yd.move rfl) rfl ?_
    refine J.op (Yd.assign rfl) rfl ?_
    refine J.nil ?_
    refine J.n_then ?_
    refine J.ret ?_
    exact J.ret1 rfl rfl (⟨_, rfl, (by have h9 := ho5; rw [show k = n.toNat by omega] at h9; exact h9), e0⟩)
end Ytfefphcmfhabiaa
end Go.Proofs
