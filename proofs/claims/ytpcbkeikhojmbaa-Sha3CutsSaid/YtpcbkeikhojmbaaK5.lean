import Derived.Test.YtpcbkeikhojmbaaT
import Derived.Test.YtpcbkeikhojmbaaK4
set_option linter.unusedVariables false
set_option linter.unusedSimpArgs false
set_option maxRecDepth 100000
set_option maxHeartbeats 4000000
namespace Go.Proofs
open Go.X Go.RowKit
namespace Ytpcbkeikhojmbaa
theorem Read_ok {b R t : Nat} {s : List UInt64} {n : Int} {w : World} (hR : 0 < R ∧ R ≤ 200) (hs : s.length = 25) (hc : Cel w b 61 (spS s R t)) (hn : n ≤ 1000000) : C Try.prog 28 [.pointer (some ⟨b, 0, none⟩), I n] w (Ret fun v w' => Ob w.heap.size 5 w' v (sqF s R t n.toNat) ∧ Cel w' b 61 (spS s R (t + n.toNat)) ∧ Tn [some b] w w') := by
  have e0 := Tn.refl [(some b)] w
  refine C.enter Try.func28 rfl Try.ntmps28 rfl ?_
  refine J.seq ?_
  refine J.region ?_
  refine J.op (Yd.assign rfl) rfl ?_
  refine J.nil ?_
  refine J.n_then ?_
  refine J.seq ?_
  refine J.block ?_
  refine J.loop (ι := Nat × Value) (fun i => [(1, I n), (0, .pointer (some ⟨b, 0, none⟩)), (4, i.2)]) (fun i w' => i.1 ≤ n.toNat ∧ Cel w' b 61 (spS s R (t + i.1)) ∧ Ob w.heap.size 5 w' i.2 (sqF s R t i.1) ∧ Fr w.heap.size (i.2).ownBlock ∧ Ap (some b) (i.2).ownBlock ∧ Tn [(some b)] w w') (fun i => n.toNat - i.1) ((0, nilS)) ⟨rfl, rfl, rfl, trivial⟩ (⟨Nat.zero_le _, hc, Ow.nil _ _ _, Fr.nil, Ap.nil_r, e0⟩) ?_
  rintro ⟨k, v4⟩ w1 ⟨hk, hc, ho4, fr_v4, ap_b_v4, e0⟩
  dsimp only at *
  have hql := sqS_len s hs (qK R (t + k))
  have hal := atK_le hR.1 (t + k)
  have hfl := sqF_len s R t k
  unfold spS at hc
  refine J.seq ?_
  refine J.seq ?_
  refine J.region ?_
  refine J.op (Yd.move rfl) rfl ?_
  refine J.op (Yd.len_b Try.underlying31 rfl (Ow.rd ho4)) rfl ?_
  refine J.op (Yd.move rfl) rfl ?_
  refine J.op (Yd.lss rfl rfl) rfl ?_
  refine J.nil ?_
  refine J.n_then ?_
  refine J.cond_dec rfl (fun hc0 => ?_) (fun hc0 => ?_)
  · skip
    refine J.skip ?_
    refine J.n_then ?_
    refine J.block ?_
    refine J.seq ?_
    refine J.seq ?_
    refine J.regionO [(0, true), (1, true), (2, true), (4, true), (5, true), (6, true)] [(3, 1), (7, 1)] [(8, true)] mix (by kernel_rfl) ?_
    refine J.s_op rfl (fun _ => Yd.move rfl) rfl ?_
    refine J.s_op rfl (fun _ => Yd.nilCheck rfl) rfl ?_
    refine J.s_op rfl (fun _ => Yd.cast (Yd.fieldA Try.underlying61 rfl ti3 rfl rfl) (show _ = Value.pointer (some ⟨b, 26, none⟩) from rfl)) rfl ?_
    refine J.s_op rfl (fun _ => Yd.move rfl) rfl ?_
    refine J.s_op rfl (fun _ => Yd.nilCheck rfl) rfl ?_
    refine J.s_op rfl (fun _ => Yd.cast (Yd.fieldA Try.underlying61 rfl ti3 rfl rfl) (show _ = Value.pointer (some ⟨b, 25, none⟩) from rfl)) rfl ?_
    refine J.s_nil ?_
    refine J.o_op rfl (Yd.load pl3 rfl (Cel.cell1 hc 2 rfl)) rfl ?_
    refine J.o_op rfl (Yd.load pl3 rfl (Cel.cell1 hc 1 rfl)) rfl ?_
    refine J.o_nil ?_
    refine J.s_op rfl (fun _ => Yd.eql rfl rfl) rfl ?_
    refine J.s_nil ?_
    refine J.n_np ?_
    refine J.n_then ?_
    refine J.cond_dec rfl (fun hc1 => ?_) (fun hc1 => ?_)
    · skip
      have hat : atK R (t + k) = R := by omega
      refine J.region ?_
      refine J.op (Yd.move rfl) rfl ?_
      refine J.op (Yd.move rfl) rfl ?_
      refine J.op (Yd.move rfl) rfl ?_
      refine J.op (Yd.nilCheck rfl) rfl ?_
      refine J.op (Yd.cast (Yd.fieldA Try.underlying61 rfl ti24 rfl rfl) (show _ = Value.pointer (some ⟨b, 0, none⟩) from rfl)) rfl ?_
      refine J.op (Yd.loadA ag24 ti24 rfl hc 0 rfl) rfl ?_
      refine J.eff (Ye.call cl9 rfl (Permute_ok hql)) rfl ?_
      rintro _ w2 ⟨rfl, x1⟩
      have e0 := Tn.ext e0 x1
      have hc := hc.ext x1
      have ho4 := ho4.ext x1
      clear x1
      refine J.op (Yd.nilCheck rfl) rfl ?_
      refine J.op (Yd.cast (Yd.fieldA Try.underlying61 rfl ti24 rfl rfl) (show _ = Value.pointer (some ⟨b, 0, none⟩) from rfl)) rfl ?_
      refine J.eff0 (Ye.storeA (ys := List.map (fun x : UInt64 => W64 x) _) ti24 hc 0 rfl rfl rfl rfl (by rw [List.length_map]; exact permL_len _) (one_M _ (fun _ => rfl))) ?_
      rintro _ w3 ⟨cX, hu⟩
      simp only [List.set_cons_zero, List.set_cons_succ] at cX
      have hg := hu.gb
      have ho4 := Ow.gbk ho4 hg (Ap.symm ap_b_v4)
      have e0 := Tn.gbk e0 (.inl (by simp)) hg
      clear hg
      replace hc := cX
      clear cX hu
      refine J.op (Yd.nilCheck rfl) rfl ?_
      refine J.op (Yd.cast (Yd.fieldA Try.underlying61 rfl ti3 rfl rfl) (show _ = Value.pointer (some ⟨b, 26, none⟩) from rfl)) rfl ?_
      refine J.eff0 (Ye.store1 ti3 hc 2 rfl rfl rfl rfl rfl rfl) ?_
      rintro _ w4 ⟨cX, hu⟩
      simp only [List.set_cons_zero, List.set_cons_succ] at cX
      have hg := hu.gb
      have ho4 := Ow.gbk ho4 hg (Ap.symm ap_b_v4)
      have e0 := Tn.gbk e0 (.inl (by simp)) hg
      clear hg
      replace hc := cX
      clear cX hu
      refine J.nil ?_
      refine J.n_then ?_
      refine J.seq ?_
      refine J.regionO [(0, true), (1, true), (2, true), (3, true), (4, true), (7, true), (8, true), (11, true), (12, true), (13, true)] [(5, 1), (14, 1), (6, 1), (9, 1), (10, 1), (15, 1), (16, 1)] [(17, true), (18, true), (19, false), (20, false), (21, true)] mix (by kernel_rfl) ?_
      refine J.s_op rfl (fun _ => Yd.move rfl) rfl ?_
      refine J.s_op rfl (fun _ => Yd.move rfl) rfl ?_
      refine J.s_op rfl (fun _ => Yd.move rfl) rfl ?_
      refine J.s_op rfl (fun _ => Yd.nilCheck rfl) rfl ?_
      refine J.s_op rfl (fun _ => Yd.cast (Yd.fieldA Try.underlying61 rfl ti3 rfl rfl) (show _ = Value.pointer (some ⟨b, 26, none⟩) from rfl)) rfl ?_
      refine J.s_op rfl (fun _ => Yd.nilCheck rfl) rfl ?_
      refine J.s_op rfl (fun _ => Yd.cast (Yd.fieldA Try.underlying61 rfl ti24 rfl rfl) (show _ = Value.pointer (some ⟨b, 0, none⟩) from rfl)) rfl ?_
      refine J.s_op rfl (fun _ => Yd.move rfl) rfl ?_
      refine J.s_op rfl (fun _ => Yd.nilCheck rfl) rfl ?_
      refine J.s_op rfl (fun _ => Yd.cast (Yd.fieldA Try.underlying61 rfl ti3 rfl rfl) (show _ = Value.pointer (some ⟨b, 26, none⟩) from rfl)) rfl ?_
      refine J.s_nil ?_
      refine J.o_op rfl (Yd.load pl3 rfl (Cel.cell1 hc 2 rfl)) rfl ?_
      refine J.o_op rfl (Yd.load pl3 rfl (Cel.cell1 hc 2 rfl)) rfl ?_
      refine J.o_op rfl (Yd.quo rfl rfl (by first | omega | exact idx_u8' _ | (simp only [Int.toNat_natCast]; omega) | (simp only [List.length_map, List.length_drop, List.length_take, List.length_append, List.length_replicate]; omega) | (simp <;> omega)) (by first | omega | exact idx_u8' _ | (simp only [Int.toNat_natCast]; omega) | (simp only [List.length_map, List.length_drop, List.length_take, List.length_append, List.length_replicate]; omega) | (simp <;> omega)) (by first | omega | exact idx_u8' _ | (simp only [Int.toNat_natCast]; omega) | (simp only [List.length_map, List.length_drop, List.length_take, List.length_append, List.length_replicate]; omega) | (simp <;> omega))) rfl ?_
      refine J.o_op rfl (Yd.idxA Try.underlying24 ti23 rfl rfl (by first | omega | exact idx_u8' _ | (simp only [Int.toNat_natCast]; omega) | (simp only [List.length_map, List.length_drop, List.length_take, List.length_append, List.length_replicate]; omega) | (simp <;> omega))) rfl ?_
      refine J.o_op rfl (Yd.load pl23 rfl (Cel.cellM hc 0 rfl 0 (by have hl_ := Cel.lenM hc 0 rfl; first | omega | (rw [hl_]; exact idx_u8' _) | (simp only [Int.toNat_natCast]; omega) | (simp at hl_ ⊢ <;> omega)))) rfl ?_
      refine J.o_op rfl (Yd.rem rfl rfl (by first | omega | exact idx_u8' _ | (simp only [Int.toNat_natCast]; omega) | (simp only [List.length_map, List.length_drop, List.length_take, List.length_append, List.length_replicate]; omega) | (simp <;> omega)) (by first | omega | exact idx_u8' _ | (simp only [Int.toNat_natCast]; omega) | (simp only [List.length_map, List.length_drop, List.length_take, List.length_append, List.length_replicate]; omega) | (simp <;> omega))) rfl ?_
      refine J.o_op rfl (Yd.mul rfl rfl (by first | omega | exact idx_u8' _ | (simp only [Int.toNat_natCast]; omega) | (simp only [List.length_map, List.length_drop, List.length_take, List.length_append, List.length_replicate]; omega) | (simp <;> omega))) rfl ?_
      refine J.o_nil ?_
      refine J.s_op rfl (fun _ => Yd.shr_u64 rfl rfl (by first | omega | exact idx_u8' _ | (simp only [Int.toNat_natCast]; omega) | (simp only [List.length_map, List.length_drop, List.length_take, List.length_append, List.length_replicate]; omega) | (simp <;> omega))) rfl ?_
      refine J.s_op rfl (fun _ => Yd.cv_64_8 Try.underlying23 Try.underlying5 rfl) rfl ?_
      refine J.s_eff rfl (Ye.lit1 (base := w4.heap.size) (f := (fun x : UInt8 => B x)) Try.underlying31 ti5 rfl rfl (fun _ => rfl) (Nat.le_refl _)) rfl ?_
      rintro s48_5 w5 ⟨o48_5, x1⟩
      have ap_b_s48_5 : Ap (some b) s48_5.ownBlock := Ap.mk (Cel.live hc) (Ow.fr o48_5)
      have ap_v4_s48_5 : Ap v4.ownBlock s48_5.ownBlock := Ap.mk (Ow.live ho4) (Ow.fr o48_5)
      have fr_s48_5 : Fr w.heap.size s48_5.ownBlock := Fr.le (Ow.fr o48_5) e0.size
      replace o48_5 := Ow.base o48_5 e0.size
      have e0 := Tn.ext e0 x1
      have hc := hc.ext x1
      have ho4 := ho4.ext x1
      clear x1
      refine J.s_eff rfl (Ye.appendS Try.underlying31 ti5 rfl rfl rfl rfl ho4 (Ow.rd o48_5) (fun _ => rfl) (by first | omega | exact idx_u8' _ | (simp only [Int.toNat_natCast]; omega) | (simp only [List.length_map, List.length_drop, List.length_take, List.length_append, List.length_replicate]; omega) | (simp <;> omega)) e0.size) rfl ?_
      rintro s49_6 w6 ⟨o49_6, hg, hsf⟩
      have ap_b_s49_6 : Ap (some b) s49_6.ownBlock := Ap.sf ap_b_v4 (Cel.live hc) hsf
      have ap_s48_5_s49_6 : Ap s48_5.ownBlock s49_6.ownBlock := Ap.sf (Ap.symm ap_v4_s48_5) (Ow.live o48_5) hsf
      have fr_s49_6 : Fr w.heap.size s49_6.ownBlock := Fr.sf fr_v4 hsf e0.size
      have hc := Cel.gbk hc hg ap_b_v4
      have o48_5 := Ow.gbk o48_5 hg (Ap.symm ap_v4_s48_5)
      have e0 := Tn.gbk e0 (.inr fr_v4) hg
      clear hg hsf
      refine J.s_op rfl (fun _ => Yd.assign rfl) rfl ?_
      refine J.s_nil ?_
      refine J.n_np ?_
      refine J.n_then ?_
      refine J.region ?_
      refine J.op (Yd.move rfl) rfl ?_
      refine J.op (Yd.nilCheck rfl) rfl ?_
      refine J.op (Yd.cast (Yd.fieldA Try.underlying61 rfl ti3 rfl rfl) (show _ = Value.pointer (some ⟨b, 26, none⟩) from rfl)) rfl ?_
      refine J.op (Yd.load pl3 rfl (Cel.cell1 hc 2 rfl)) rfl ?_
      refine J.op (Yd.add rfl rfl (by first | omega | exact idx_u8' _ | (simp only [Int.toNat_natCast]; omega) | (simp only [List.length_map, List.length_drop, List.length_take, List.length_append, List.length_replicate]; omega) | (simp <;> omega))) rfl ?_
      refine J.op (Yd.nilCheck rfl) rfl ?_
      refine J.op (Yd.cast (Yd.fieldA Try.underlying61 rfl ti3 rfl rfl) (show _ = Value.pointer (some ⟨b, 26, none⟩) from rfl)) rfl ?_
      refine J.eff0 (Ye.store1 ti3 hc 2 rfl rfl rfl rfl rfl rfl) ?_
      rintro _ w7 ⟨cX, hu⟩
      simp only [List.set_cons_zero, List.set_cons_succ] at cX
      have hg := hu.gb
      have o48_5 := Ow.gbk o48_5 hg (Ap.symm ap_b_s48_5)
      have o49_6 := Ow.gbk o49_6 hg (Ap.symm ap_b_s49_6)
      have e0 := Tn.gbk e0 (.inl (by simp)) hg
      clear hg
      replace hc := cX
      clear cX hu
      refine J.nil ?_
      refine J.n_block ?_
      refine J.n_then ?_
      exact J.round ((k + 1, s49_6)) ⟨rfl, rfl, rfl, trivial⟩ (⟨by show k + 1 ≤ n.toNat; omega, Cel.eq hc (spS_full hR.1 hat).1, (by show Ob _ _ _ _ (sqF s R t (k + 1)); rw [sqF_succ, (spS_full hR.1 hat).2]; have h9 := o49_6; exact h9), fr_s49_6, ap_b_s49_6, e0⟩) (by show n.toNat - (k + 1) < n.toNat - k; omega)
    · skip
      have hat : atK R (t + k) ≠ R := by omega
      refine J.skip ?_
      refine J.n_then ?_
      refine J.seq ?_
      refine J.regionO [(0, true), (1, true), (2, true), (3, true), (4, true), (7, true), (8, true), (11, true), (12, true), (13, true)] [(5, 1), (14, 1), (6, 1), (9, 1), (10, 1), (15, 1), (16, 1)] [(17, true), (18, true), (19, false), (20, false), (21, true)] mix (by kernel_rfl) ?_
      refine J.s_op rfl (fun _ => Yd.move rfl) rfl ?_
      refine J.s_op rfl (fun _ => Yd.move rfl) rfl ?_
      refine J.s_op rfl (fun _ => Yd.move rfl) rfl ?_
      refine J.s_op rfl (fun _ => Yd.nilCheck rfl) rfl ?_
      refine J.s_op rfl (fun _ => Yd.cast (Yd.fieldA Try.underlying61 rfl ti3 rfl rfl) (show _ = Value.pointer (some ⟨b, 26, none⟩) from rfl)) rfl ?_
      refine J.s_op rfl (fun _ => Yd.nilCheck rfl) rfl ?_
      refine J.s_op rfl (fun _ => Yd.cast (Yd.fieldA Try.underlying61 rfl ti24 rfl rfl) (show _ = Value.pointer (some ⟨b, 0, none⟩) from rfl)) rfl ?_
      refine J.s_op rfl (fun _ => Yd.move rfl) rfl ?_
      refine J.s_op rfl (fun _ => Yd.nilCheck rfl) rfl ?_
      refine J.s_op rfl (fun _ => Yd.cast (Yd.fieldA Try.underlying61 rfl ti3 rfl rfl) (show _ = Value.pointer (some ⟨b, 26, none⟩) from rfl)) rfl ?_
      refine J.s_nil ?_
      refine J.o_op rfl (Yd.load pl3 rfl (Cel.cell1 hc 2 rfl)) rfl ?_
      refine J.o_op rfl (Yd.load pl3 rfl (Cel.cell1 hc 2 rfl)) rfl ?_
      refine J.o_op rfl (Yd.quo rfl rfl (by first | omega | exact idx_u8' _ | (simp only [Int.toNat_natCast]; omega) | (simp only [List.length_map, List.length_drop, List.length_take, List.length_append, List.length_replicate]; omega) | (simp <;> omega)) (by first | omega | exact idx_u8' _ | (simp only [Int.toNat_natCast]; omega) | (simp only [List.length_map, List.length_drop, List.length_take, List.length_append, List.length_replicate]; omega) | (simp <;> omega)) (by first | omega | exact idx_u8' _ | (simp only [Int.toNat_natCast]; omega) | (simp only [List.length_map, List.length_drop, List.length_take, List.length_append, List.length_replicate]; omega) | (simp <;> omega))) rfl ?_
      refine J.o_op rfl (Yd.idxA Try.underlying24 ti23 rfl rfl (by first | omega | exact idx_u8' _ | (simp only [Int.toNat_natCast]; omega) | (simp only [List.length_map, List.length_drop, List.length_take, List.length_append, List.length_replicate]; omega) | (simp <;> omega))) rfl ?_
      refine J.o_op rfl (Yd.load pl23 rfl (Cel.cellM hc 0 rfl 0 (by have hl_ := Cel.lenM hc 0 rfl; first | omega | (rw [hl_]; exact idx_u8' _) | (simp only [Int.toNat_natCast]; omega) | (simp at hl_ ⊢ <;> omega)))) rfl ?_
      refine J.o_op rfl (Yd.rem rfl rfl (by first | omega | exact idx_u8' _ | (simp only [Int.toNat_natCast]; omega) | (simp only [List.length_map, List.length_drop, List.length_take, List.length_append, List.length_replicate]; omega) | (simp <;> omega)) (by first | omega | exact idx_u8' _ | (simp only [Int.toNat_natCast]; omega) | (simp only [List.length_map, List.length_drop, List.length_take, List.length_append, List.length_replicate]; omega) | (simp <;> omega))) rfl ?_
      refine J.o_op rfl (Yd.mul rfl rfl (by first | omega | exact idx_u8' _ | (simp only [Int.toNat_natCast]; omega) | (simp only [List.length_map, List.length_drop, List.length_take, List.length_append, List.length_replicate]; omega) | (simp <;> omega))) rfl ?_
      refine J.o_nil ?_
      refine J.s_op rfl (fun _ => Yd.shr_u64 rfl rfl (by first | omega | exact idx_u8' _ | (simp only [Int.toNat_natCast]; omega) | (simp only [List.length_map, List.length_drop, List.length_take, List.length_append, List.length_replicate]; omega) | (simp <;> omega))) rfl ?_
      refine J.s_op rfl (fun _ => Yd.cv_64_8 Try.underlying23 Try.underlying5 rfl) rfl ?_
      refine J.s_eff rfl (Ye.lit1 (base := w1.heap.size) (f := (fun x : UInt8 => B x)) Try.underlying31 ti5 rfl rfl (fun _ => rfl) (Nat.le_refl _)) rfl ?_
      rintro s48_8 w8 ⟨o48_8, x1⟩
      have ap_b_s48_8 : Ap (some b) s48_8.ownBlock := Ap.mk (Cel.live hc) (Ow.fr o48_8)
      have ap_v4_s48_8 : Ap v4.ownBlock s48_8.ownBlock := Ap.mk (Ow.live ho4) (Ow.fr o48_8)
      have fr_s48_8 : Fr w.heap.size s48_8.ownBlock := Fr.le (Ow.fr o48_8) e0.size
      replace o48_8 := Ow.base o48_8 e0.size
      have e0 := Tn.ext e0 x1
      have hc := hc.ext x1
      have ho4 := ho4.ext x1
      clear x1
      refine J.s_eff rfl (Ye.appendS Try.underlying31 ti5 rfl rfl rfl rfl ho4 (Ow.rd o48_8) (fun _ => rfl) (by first | omega | exact idx_u8' _ | (simp only [Int.toNat_natCast]; omega) | (simp only [List.length_map, List.length_drop, List.length_take, List.length_append, List.length_replicate]; omega) | (simp <;> omega)) e0.size) rfl ?_
      rintro s49_9 w9 ⟨o49_9, hg, hsf⟩
      have ap_b_s49_9 : Ap (some b) s49_9.ownBlock := Ap.sf ap_b_v4 (Cel.live hc) hsf
      have ap_s48_8_s49_9 : Ap s48_8.ownBlock s49_9.ownBlock := Ap.sf (Ap.symm ap_v4_s48_8) (Ow.live o48_8) hsf
      have fr_s49_9 : Fr w.heap.size s49_9.ownBlock := Fr.sf fr_v4 hsf e0.size
      have hc := Cel.gbk hc hg ap_b_v4
      have o48_8 := Ow.gbk o48_8 hg (Ap.symm ap_v4_s48_8)
      have e0 := Tn.gbk e0 (.inr fr_v4) hg
      clear hg hsf
      refine J.s_op rfl (fun _ => Yd.assign rfl) rfl ?_
      refine J.s_nil ?_
      refine J.n_np ?_
      refine J.n_then ?_
      refine J.region ?_
      refine J.op (Yd.move rfl) rfl ?_
      refine J.op (Yd.nilCheck rfl) rfl ?_
      refine J.op (Yd.cast (Yd.fieldA Try.underlying61 rfl ti3 rfl rfl) (show _ = Value.pointer (some ⟨b, 26, none⟩) from rfl)) rfl ?_
      refine J.op (Yd.load pl3 rfl (Cel.cell1 hc 2 rfl)) rfl ?_
      refine J.op (Yd.add rfl rfl (by first | omega | exact idx_u8' _ | (simp only [Int.toNat_natCast]; omega) | (simp only [List.length_map, List.length_drop, List.length_take, List.length_append, List.length_replicate]; omega) | (simp <;> omega))) rfl ?_
      refine J.op (Yd.nilCheck rfl) rfl ?_
      refine J.op (Yd.cast (Yd.fieldA Try.underlying61 rfl ti3 rfl rfl) (show _ = Value.pointer (some ⟨b, 26, none⟩) from rfl)) rfl ?_
      refine J.eff0 (Ye.store1 ti3 hc 2 rfl rfl rfl rfl rfl rfl) ?_
      rintro _ w10 ⟨cX, hu⟩
      simp only [List.set_cons_zero, List.set_cons_succ] at cX
      have hg := hu.gb
      have o48_8 := Ow.gbk o48_8 hg (Ap.symm ap_b_s48_8)
      have o49_9 := Ow.gbk o49_9 hg (Ap.symm ap_b_s49_9)
      have e0 := Tn.gbk e0 (.inl (by simp)) hg
      clear hg
      replace hc := cX
      clear cX hu
      refine J.nil ?_
      refine J.n_block ?_
      refine J.n_then ?_
      exact J.round ((k + 1, s49_9)) ⟨rfl, rfl, rfl, trivial⟩ (⟨by show k + 1 ≤ n.toNat; omega, Cel.eq hc (spS_part hR.1 hat).1, (by show Ob _ _ _ _ (sqF s R t (k + 1)); rw [sqF_succ, (spS_part hR.1 hat).2]; have h9 := o49_9; rw [show ((atK R (t + k) : Int) / 8).toNat = atK R (t + k) / 8 by omega, show (8 * ((atK R (t + k) : Int) % 8)).toNat = 8 * (atK R (t + k) % 8) by omega] at h9; exact h9), fr_s49_9, ap_b_s49_9, e0⟩) (by show n.toNat - (k + 1) < n.toNat - k; omega)
  · skip
    refine J.exit ?_
    refine J.x_then ?_
    refine J.x_then ?_
    refine J.x_block ?_
    refine J.n_then ?_
    refine J.seq ?_
    refine J.region ?_
    refine J.op (Yd.move rfl) rfl ?_
    refine J.op (Yd.assign rfl) rfl ?_
    refine J.nil ?_
    refine J.n_then ?_
    refine J.ret ?_
    exact J.ret1 rfl rfl (⟨_, rfl, (by rw [show n.toNat = k by omega]; exact ho4), (by rw [show n.toNat = k by omega]; exact hc), e0⟩)
end Ytpcbkeikhojmbaa
end Go.Proofs
