import Derived.Test.YtpcbkeikhojmbaaT
import Derived.Test.YtpcbkeikhojmbaaK2
set_option linter.unusedVariables false
set_option linter.unusedSimpArgs false
set_option maxRecDepth 100000
set_option maxHeartbeats 4000000
namespace Go.Proofs
open Go.X Go.RowKit
namespace Ytpcbkeikhojmbaa
theorem RPermute_ok {a : List UInt64} {w : World} (ha : a.length = 25) : C Try.prog 10 [Ag (fun x : UInt64 => W64 x) a] w (Ret fun v w' => v = Ag (fun x : UInt64 => W64 x) (permL a) ∧ Ext w w') := by
  have e0 := Ext.refl w
  refine C.enter Try.func10 rfl Try.ntmps10 rfl ?_
  refine J.seq ?_
  refine J.region ?_
  refine J.eff (Ye.box rfl (Ag.all _ _ (n := 25) (by first | omega | exact idx_u8' _ | (simp only [Int.toNat_natCast]; omega) | (simp only [List.length_map, List.length_drop, List.length_take, List.length_append, List.length_replicate]; omega) | (simp <;> omega)))) rfl ?_
  rintro _ w1 ⟨b1_0, rfl, hb_, c1_0, x1⟩
  have fr_b1_0 : Fr w.heap.size (some b1_0) := Fr.le (Fr.blk hb_) e0.size
  have e0 := e0.trans x1
  clear x1 hb_
  refine J.eff (Ye.alloc ti24 (S := [(0, 25, (List.replicate 25 0).map (fun x : UInt64 => W64 x))]) (by simp [SegAll, SegOK, Value.cells])) rfl ?_
  rintro _ w2 ⟨b2_1, rfl, hb_, c2_1, x1⟩
  have ap_b1_0_b2_1 : Ap (some b1_0) (some b2_1) := Ap.mk (Cel.live c1_0) (Fr.blk hb_)
  have fr_b2_1 : Fr w.heap.size (some b2_1) := Fr.le (Fr.blk hb_) e0.size
  have e0 := e0.trans x1
  have c1_0 := c1_0.ext x1
  clear x1 hb_
  refine J.nil ?_
  refine J.n_then ?_
  refine J.seq ?_
  refine J.region ?_
  refine J.op (Yd.assign rfl) rfl ?_
  refine J.nil ?_
  refine J.n_then ?_
  refine J.seq ?_
  refine J.seq ?_
  refine J.region ?_
  refine J.op (Yd.assign rfl) rfl ?_
  refine J.nil ?_
  refine J.n_then ?_
  refine J.block ?_
  refine J.loop (ι := Nat) (fun i => [(3, B (lfK (7 * i))), (4, I i), (1, .pointer (some ⟨b1_0, 0, none⟩)), (2, .pointer (some ⟨b2_1, 0, none⟩))]) (fun i w' => i ≤ 24 ∧ Cel w' b1_0 24 [(0, 25, (permN a i).map (fun x : UInt64 => W64 x))] ∧ Cel w' b2_1 24 [(0, 25, (List.replicate 25 0).map (fun x : UInt64 => W64 x))] ∧ Ext w w') (fun i => 24 - i) (0) ⟨rfl, rfl, rfl, rfl, trivial⟩ (⟨by omega, Cel.eq c1_0 (by rfl), c2_1, e0⟩) ?_
  rintro r w3 ⟨hr, c1_0, c2_1, e0⟩
  have hl0 := permN_len a ha r
  refine J.seq ?_
  refine J.seq ?_
  refine J.region ?_
  refine J.op (Yd.move rfl) rfl ?_
  refine J.op (Yd.lss rfl rfl) rfl ?_
  refine J.nil ?_
  refine J.n_then ?_
  refine J.cond_dec rfl (fun hc0 => ?_) (fun hc0 => ?_)
  · skip
    refine J.skip ?_
    refine J.n_then ?_
    refine J.seq ?_
    refine J.block ?_
    refine J.seq ?_
    refine J.region ?_
    refine J.eff (Ye.alloc ti51 (S := [(0, 5, (List.replicate 5 0).map (fun x : UInt64 => W64 x))]) (by simp [SegAll, SegOK, Value.cells])) rfl ?_
    rintro _ w4 ⟨b5_3, rfl, hb_, c5_3, x1⟩
    have ap_b1_0_b5_3 : Ap (some b1_0) (some b5_3) := Ap.mk (Cel.live c1_0) (Fr.blk hb_)
    have ap_b2_1_b5_3 : Ap (some b2_1) (some b5_3) := Ap.mk (Cel.live c2_1) (Fr.blk hb_)
    have fr_b5_3 : Fr w.heap.size (some b5_3) := Fr.le (Fr.blk hb_) e0.size
    have e0 := e0.trans x1
    have c1_0 := c1_0.ext x1
    have c2_1 := c2_1.ext x1
    clear x1 hb_
    refine J.nil ?_
    refine J.n_then ?_
    refine J.seq ?_
    refine J.seq ?_
    refine J.region ?_
    refine J.op (Yd.assign rfl) rfl ?_
    refine J.nil ?_
    refine J.n_then ?_
    refine J.block ?_
    refine J.loop (ι := Nat) (fun i => [(3, B (lfK (7 * r))), (4, I (r : Int)), (6, I i), (1, .pointer (some ⟨b1_0, 0, none⟩)), (2, .pointer (some ⟨b2_1, 0, none⟩)), (5, .pointer (some ⟨b5_3, 0, none⟩))]) (fun i w' => i ≤ 5 ∧ Cel w' b1_0 24 [(0, 25, ((permN a r)).map (fun x : UInt64 => W64 x))] ∧ Cel w' b2_1 24 [(0, 25, (List.replicate 25 0).map (fun x : UInt64 => W64 x))] ∧ Cel w' b5_3 51 [(0, 5, (fillU (thC (permN a r)) (List.replicate 5 0) i).map (fun x : UInt64 => W64 x))] ∧ Ext w w') (fun i => 5 - i) (0) ⟨rfl, rfl, rfl, rfl, rfl, rfl, trivial⟩ (⟨by omega, c1_0, c2_1, Cel.eq c5_3 (by rw [fillU_zero]), e0⟩) ?_
    rintro x w5 ⟨hx, c1_0, c2_1, c5_3, e0⟩
    have hl0 := permN_len a ha r
    have hfl := fillU_len (thC (permN a r)) (List.replicate 5 0) x
    rw [List.length_replicate] at hfl
    refine J.seq ?_
    refine J.seq ?_
    refine J.region ?_
    refine J.op (Yd.move rfl) rfl ?_
    refine J.op (Yd.lss rfl rfl) rfl ?_
    refine J.nil ?_
    refine J.n_then ?_
    refine J.cond_dec rfl (fun hc1 => ?_) (fun hc1 => ?_)
    · skip
      refine J.skip ?_
      refine J.n_then ?_
      refine J.seq ?_
      refine J.block ?_
      refine J.regionO [(0, true), (1, true), (2, true), (4, true), (5, true), (6, true), (9, true), (10, true), (11, true), (14, true), (15, true), (16, true), (19, true), (20, true), (21, true)] [(3, 1), (7, 1), (12, 1), (17, 1), (22, 1), (8, 1), (13, 1), (18, 1)] [(23, true), (24, true), (25, false)] mix (by kernel_rfl) ?_
      refine J.s_op rfl (fun _ => Yd.move rfl) rfl ?_
      refine J.s_op rfl (fun _ => Yd.move rfl) rfl ?_
      refine J.s_op rfl (fun _ => Yd.idxA Try.underlying24 ti23 rfl rfl (by first | omega | exact idx_u8' _ | (simp only [Int.toNat_natCast]; omega) | (simp only [List.length_map, List.length_drop, List.length_take, List.length_append, List.length_replicate]; omega) | (simp <;> omega))) rfl ?_
      refine J.s_op rfl (fun _ => Yd.move rfl) rfl ?_
      refine J.s_op rfl (fun _ => Yd.add rfl rfl (by first | omega | exact idx_u8' _ | (simp only [Int.toNat_natCast]; omega) | (simp only [List.length_map, List.length_drop, List.length_take, List.length_append, List.length_replicate]; omega) | (simp <;> omega))) rfl ?_
      refine J.s_op rfl (fun _ => Yd.idxA Try.underlying24 ti23 rfl rfl (by first | omega | exact idx_u8' _ | (simp only [Int.toNat_natCast]; omega) | (simp only [List.length_map, List.length_drop, List.length_take, List.length_append, List.length_replicate]; omega) | (simp <;> omega))) rfl ?_
      refine J.s_op rfl (fun _ => Yd.move rfl) rfl ?_
      refine J.s_op rfl (fun _ => Yd.add rfl rfl (by first | omega | exact idx_u8' _ | (simp only [Int.toNat_natCast]; omega) | (simp only [List.length_map, List.length_drop, List.length_take, List.length_append, List.length_replicate]; omega) | (simp <;> omega))) rfl ?_
      refine J.s_op rfl (fun _ => Yd.idxA Try.underlying24 ti23 rfl rfl (by first | omega | exact idx_u8' _ | (simp only [Int.toNat_natCast]; omega) | (simp only [List.length_map, List.length_drop, List.length_take, List.length_append, List.length_replicate]; omega) | (simp <;> omega))) rfl ?_
      refine J.s_op rfl (fun _ => Yd.move rfl) rfl ?_
      refine J.s_op rfl (fun _ => Yd.add rfl rfl (by first | omega | exact idx_u8' _ | (simp only [Int.toNat_natCast]; omega) | (simp only [List.length_map, List.length_drop, List.length_take, List.length_append, List.length_replicate]; omega) | (simp <;> omega))) rfl ?_
      refine J.s_op rfl (fun _ => Yd.idxA Try.underlying24 ti23 rfl rfl (by first | omega | exact idx_u8' _ | (simp only [Int.toNat_natCast]; omega) | (simp only [List.length_map, List.length_drop, List.length_take, List.length_append, List.length_replicate]; omega) | (simp <;> omega))) rfl ?_
      refine J.s_op rfl (fun _ => Yd.move rfl) rfl ?_
      refine J.s_op rfl (fun _ => Yd.add rfl rfl (by first | omega | exact idx_u8' _ | (simp only [Int.toNat_natCast]; omega) | (simp only [List.length_map, List.length_drop, List.length_take, List.length_append, List.length_replicate]; omega) | (simp <;> omega))) rfl ?_
      refine J.s_op rfl (fun _ => Yd.idxA Try.underlying24 ti23 rfl rfl (by first | omega | exact idx_u8' _ | (simp only [Int.toNat_natCast]; omega) | (simp only [List.length_map, List.length_drop, List.length_take, List.length_append, List.length_replicate]; omega) | (simp <;> omega))) rfl ?_
      refine J.s_nil ?_
      refine J.o_op rfl (Yd.load pl23 rfl (Cel.cellM c1_0 0 rfl 0 (by have hl_ := Cel.lenM c1_0 0 rfl; first | omega | (rw [hl_]; exact idx_u8' _) | (simp only [Int.toNat_natCast]; omega) | (simp at hl_ ⊢ <;> omega)))) rfl ?_
      refine J.o_op rfl (Yd.load pl23 rfl (Cel.cellM c1_0 0 rfl 0 (by have hl_ := Cel.lenM c1_0 0 rfl; first | omega | (rw [hl_]; exact idx_u8' _) | (simp only [Int.toNat_natCast]; omega) | (simp at hl_ ⊢ <;> omega)))) rfl ?_
      refine J.o_op rfl (Yd.load pl23 rfl (Cel.cellM c1_0 0 rfl 0 (by have hl_ := Cel.lenM c1_0 0 rfl; first | omega | (rw [hl_]; exact idx_u8' _) | (simp only [Int.toNat_natCast]; omega) | (simp at hl_ ⊢ <;> omega)))) rfl ?_
      refine J.o_op rfl (Yd.load pl23 rfl (Cel.cellM c1_0 0 rfl 0 (by have hl_ := Cel.lenM c1_0 0 rfl; first | omega | (rw [hl_]; exact idx_u8' _) | (simp only [Int.toNat_natCast]; omega) | (simp at hl_ ⊢ <;> omega)))) rfl ?_
      refine J.o_op rfl (Yd.load pl23 rfl (Cel.cellM c1_0 0 rfl 0 (by have hl_ := Cel.lenM c1_0 0 rfl; first | omega | (rw [hl_]; exact idx_u8' _) | (simp only [Int.toNat_natCast]; omega) | (simp at hl_ ⊢ <;> omega)))) rfl ?_
      refine J.o_op rfl (Yd.xor_u64 rfl rfl) rfl ?_
      refine J.o_op rfl (Yd.xor_u64 rfl rfl) rfl ?_
      refine J.o_op rfl (Yd.xor_u64 rfl rfl) rfl ?_
      refine J.o_nil ?_
      refine J.s_op rfl (fun _ => Yd.xor_u64 rfl rfl) rfl ?_
      refine J.s_op rfl (fun _ => Yd.idxA Try.underlying51 ti23 rfl rfl (by first | omega | exact idx_u8' _ | (simp only [Int.toNat_natCast]; omega) | (simp only [List.length_map, List.length_drop, List.length_take, List.length_append, List.length_replicate]; omega) | (simp <;> omega))) rfl ?_
      refine J.s_eff0 rfl (Ye.storeM ti23 c5_3 0 rfl rfl rfl rfl (by first | omega | exact idx_u8' _ | (simp only [Int.toNat_natCast]; omega) | (simp only [List.length_map, List.length_drop, List.length_take, List.length_append, List.length_replicate]; omega) | (simp <;> omega)) (fun _ => rfl) (fun _ => rfl)) ?_
      rintro _ w6 ⟨cX, hu⟩
      simp only [List.set_cons_zero, List.set_cons_succ] at cX
      have hg := hu.gb
      have c1_0 := Cel.gbk c1_0 hg ap_b1_0_b5_3
      have c2_1 := Cel.gbk c2_1 hg ap_b2_1_b5_3
      have e0 := Ext.gbk e0 fr_b5_3 hg
      clear hg
      replace c5_3 := cX
      clear cX hu
      refine J.s_nil ?_
      refine J.n_np ?_
      refine J.n_block ?_
      refine J.n_then ?_
      refine J.region ?_
      refine J.op (Yd.move rfl) rfl ?_
      refine J.op (Yd.add rfl rfl (by first | omega | exact idx_u8' _ | (simp only [Int.toNat_natCast]; omega) | (simp only [List.length_map, List.length_drop, List.length_take, List.length_append, List.length_replicate]; omega) | (simp <;> omega))) rfl ?_
      refine J.op (Yd.assign rfl) rfl ?_
      refine J.nil ?_
      refine J.n_then ?_
      exact J.round (x + 1) ⟨rfl, rfl, rfl, rfl, rfl, rfl, trivial⟩ (⟨by omega, c1_0, c2_1, Cel.eq c5_3 (by rw [Int.toNat_natCast, show ((x : Int) + 5).toNat = x + 5 by omega, show ((x : Int) + 10).toNat = x + 10 by omega, show ((x : Int) + 15).toNat = x + 15 by omega, show ((x : Int) + 20).toNat = x + 20 by omega]; exact congrArg (fun l => [(0, 5, List.map (fun x : UInt64 => W64 x) l)]) (fillU_set (thC (permN a r)) _ x)), e0⟩) (by omega)
    · skip
      refine J.exit ?_
      refine J.x_then ?_
      refine J.x_then ?_
      refine J.x_block ?_
      refine J.n_then ?_
      refine J.seq ?_
      refine J.seq ?_
      refine J.region ?_
      refine J.op (Yd.assign rfl) rfl ?_
      refine J.nil ?_
      refine J.n_then ?_
      refine J.block ?_
      refine J.loop (ι := Nat) (fun i => [(3, B (lfK (7 * r))), (4, I (r : Int)), (7, I i), (1, .pointer (some ⟨b1_0, 0, none⟩)), (2, .pointer (some ⟨b2_1, 0, none⟩)), (5, .pointer (some ⟨b5_3, 0, none⟩))]) (fun i w' => i ≤ 5 ∧ Cel w' b1_0 24 [(0, 25, (fillP (colP i 0) (thF (permN a r)) (permN a r)).map (fun x : UInt64 => W64 x))] ∧ Cel w' b2_1 24 [(0, 25, (List.replicate 25 0).map (fun x : UInt64 => W64 x))] ∧ Cel w' b5_3 51 [(0, 5, (cAll (permN a r)).map (fun x : UInt64 => W64 x))] ∧ Ext w w') (fun i => 5 - i) (0) ⟨rfl, rfl, rfl, rfl, rfl, rfl, trivial⟩ (⟨by omega, Cel.eq c1_0 (by rw [fillP_no _ _ _ (fun j _ => colP_zero j)]), c2_1, Cel.eq c5_3 (by rw [show x = 5 by omega, fillU_all _ _ _ (by simp), List.length_replicate]; rfl), e0⟩) ?_
      rintro x w7 ⟨hx, c1_0, c2_1, c5_3, e0⟩
      have hl0 := permN_len a ha r
      have hfl := fillP_len (colP x 0) (thF (permN a r)) (permN a r)
      have hcl := cAll_len (permN a r)
      refine J.seq ?_
      refine J.seq ?_
      refine J.region ?_
      refine J.op (Yd.move rfl) rfl ?_
      refine J.op (Yd.lss rfl rfl) rfl ?_
      refine J.nil ?_
      refine J.n_then ?_
      refine J.cond_dec rfl (fun hc2 => ?_) (fun hc2 => ?_)
      · skip
        refine J.skip ?_
        refine J.n_then ?_
        refine J.seq ?_
        refine J.block ?_
        refine J.seq ?_
        refine J.regionO [(0, true), (1, true), (2, true), (3, true), (5, true), (6, true), (7, true), (8, true), (11, true), (12, true), (13, true), (14, true)] [(4, 1), (9, 1), (15, 1), (10, 1), (16, 1), (17, 1)] [(18, true), (19, true)] mix (by kernel_rfl) ?_
        refine J.s_op rfl (fun _ => Yd.move rfl) rfl ?_
        refine J.s_op rfl (fun _ => Yd.add rfl rfl (by first | omega | exact idx_u8' _ | (simp only [Int.toNat_natCast]; omega) | (simp only [List.length_map, List.length_drop, List.length_take, List.length_append, List.length_replicate]; omega) | (simp <;> omega))) rfl ?_
        refine J.s_op rfl (fun _ => Yd.rem rfl rfl (by first | omega | exact idx_u8' _ | (simp only [Int.toNat_natCast]; omega) | (simp only [List.length_map, List.length_drop, List.length_take, List.length_append, List.length_replicate]; omega) | (simp <;> omega)) (by first | omega | exact idx_u8' _ | (simp only [Int.toNat_natCast]; omega) | (simp only [List.length_map, List.length_drop, List.length_take, List.length_append, List.length_replicate]; omega) | (simp <;> omega))) rfl ?_
        refine J.s_op rfl (fun _ => Yd.idxA Try.underlying51 ti23 rfl rfl (by first | omega | exact idx_u8' _ | (simp only [Int.toNat_natCast]; omega) | (simp only [List.length_map, List.length_drop, List.length_take, List.length_append, List.length_replicate]; omega) | (simp <;> omega))) rfl ?_
        refine J.s_op rfl (fun _ => Yd.move rfl) rfl ?_
        refine J.s_op rfl (fun _ => Yd.add rfl rfl (by first | omega | exact idx_u8' _ | (simp only [Int.toNat_natCast]; omega) | (simp only [List.length_map, List.length_drop, List.length_take, List.length_append, List.length_replicate]; omega) | (simp <;> omega))) rfl ?_
        refine J.s_op rfl (fun _ => Yd.rem rfl rfl (by first | omega | exact idx_u8' _ | (simp only [Int.toNat_natCast]; omega) | (simp only [List.length_map, List.length_drop, List.length_take, List.length_append, List.length_replicate]; omega) | (simp <;> omega)) (by first | omega | exact idx_u8' _ | (simp only [Int.toNat_natCast]; omega) | (simp only [List.length_map, List.length_drop, List.length_take, List.length_append, List.length_replicate]; omega) | (simp <;> omega))) rfl ?_
        refine J.s_op rfl (fun _ => Yd.idxA Try.underlying51 ti23 rfl rfl (by first | omega | exact idx_u8' _ | (simp only [Int.toNat_natCast]; omega) | (simp only [List.length_map, List.length_drop, List.length_take, List.length_append, List.length_replicate]; omega) | (simp <;> omega))) rfl ?_
        refine J.s_op rfl (fun _ => Yd.move rfl) rfl ?_
        refine J.s_op rfl (fun _ => Yd.add rfl rfl (by first | omega | exact idx_u8' _ | (simp only [Int.toNat_natCast]; omega) | (simp only [List.length_map, List.length_drop, List.length_take, List.length_append, List.length_replicate]; omega) | (simp <;> omega))) rfl ?_
        refine J.s_op rfl (fun _ => Yd.rem rfl rfl (by first | omega | exact idx_u8' _ | (simp only [Int.toNat_natCast]; omega) | (simp only [List.length_map, List.length_drop, List.length_take, List.length_append, List.length_replicate]; omega) | (simp <;> omega)) (by first | omega | exact idx_u8' _ | (simp only [Int.toNat_natCast]; omega) | (simp only [List.length_map, List.length_drop, List.length_take, List.length_append, List.length_replicate]; omega) | (simp <;> omega))) rfl ?_
        refine J.s_op rfl (fun _ => Yd.idxA Try.underlying51 ti23 rfl rfl (by first | omega | exact idx_u8' _ | (simp only [Int.toNat_natCast]; omega) | (simp only [List.length_map, List.length_drop, List.length_take, List.length_append, List.length_replicate]; omega) | (simp <;> omega))) rfl ?_
        refine J.s_nil ?_
        refine J.o_op rfl (Yd.load pl23 rfl (Cel.cellM c5_3 0 rfl 0 (by have hl_ := Cel.lenM c5_3 0 rfl; first | omega | (rw [hl_]; exact idx_u8' _) | (simp only [Int.toNat_natCast]; omega) | (simp at hl_ ⊢ <;> omega)))) rfl ?_
        refine J.o_op rfl (Yd.load pl23 rfl (Cel.cellM c5_3 0 rfl 0 (by have hl_ := Cel.lenM c5_3 0 rfl; first | omega | (rw [hl_]; exact idx_u8' _) | (simp only [Int.toNat_natCast]; omega) | (simp at hl_ ⊢ <;> omega)))) rfl ?_
        refine J.o_op rfl (Yd.load pl23 rfl (Cel.cellM c5_3 0 rfl 0 (by have hl_ := Cel.lenM c5_3 0 rfl; first | omega | (rw [hl_]; exact idx_u8' _) | (simp only [Int.toNat_natCast]; omega) | (simp at hl_ ⊢ <;> omega)))) rfl ?_
        refine J.o_op rfl (Yd.shl_u64 rfl rfl (by first | omega | exact idx_u8' _ | (simp only [Int.toNat_natCast]; omega) | (simp only [List.length_map, List.length_drop, List.length_take, List.length_append, List.length_replicate]; omega) | (simp <;> omega))) rfl ?_
        refine J.o_op rfl (Yd.shr_u64 rfl rfl (by first | omega | exact idx_u8' _ | (simp only [Int.toNat_natCast]; omega) | (simp only [List.length_map, List.length_drop, List.length_take, List.length_append, List.length_replicate]; omega) | (simp <;> omega))) rfl ?_
        refine J.o_op rfl (Yd.or_u64 rfl rfl) rfl ?_
        refine J.o_nil ?_
        refine J.s_op rfl (fun _ => Yd.xor_u64 rfl rfl) rfl ?_
        refine J.s_op rfl (fun _ => Yd.assign rfl) rfl ?_
        refine J.s_nil ?_
        refine J.n_np ?_
        refine J.n_then ?_
        refine J.seq ?_
        refine J.region ?_
        refine J.op (Yd.assign rfl) rfl ?_
        refine J.nil ?_
        refine J.n_then ?_
        refine J.block ?_
        refine J.loop (ι := Nat) (fun i => [(3, B (lfK (7 * r))), (4, I (r : Int)), (7, I (x : Int)), (8, W64 (thD (permN a r) x)), (9, I i), (1, .pointer (some ⟨b1_0, 0, none⟩)), (2, .pointer (some ⟨b2_1, 0, none⟩)), (5, .pointer (some ⟨b5_3, 0, none⟩))]) (fun i w' => i ≤ 5 ∧ Cel w' b1_0 24 [(0, 25, (fillP (colP x i) (thF (permN a r)) (permN a r)).map (fun x : UInt64 => W64 x))] ∧ Cel w' b2_1 24 [(0, 25, (List.replicate 25 0).map (fun x : UInt64 => W64 x))] ∧ Cel w' b5_3 51 [(0, 5, (cAll (permN a r)).map (fun x : UInt64 => W64 x))] ∧ Ext w w') (fun i => 5 - i) (0) ⟨rfl, rfl, rfl, (by rw [show (((x : Int) + 4) % 5).toNat = (x + 4) % 5 by omega, show (((x : Int) + 1) % 5).toNat = (x + 1) % 5 by omega, cAll_get _ (Nat.mod_lt _ (by decide)), cAll_get _ (Nat.mod_lt _ (by decide))]; rfl), rfl, rfl, rfl, rfl, trivial⟩ (⟨by omega, c1_0, c2_1, c5_3, e0⟩) ?_
        rintro y w8 ⟨hy, c1_0, c2_1, c5_3, e0⟩
        have hl0 := permN_len a ha r
        have hfl := fillP_len (colP x y) (thF (permN a r)) (permN a r)
        have hcl := cAll_len (permN a r)
        refine J.seq ?_
        refine J.seq ?_
        refine J.region ?_
        refine J.op (Yd.move rfl) rfl ?_
        refine J.op (Yd.lss rfl rfl) rfl ?_
        refine J.nil ?_
        refine J.n_then ?_
        refine J.cond_dec rfl (fun hc3 => ?_) (fun hc3 => ?_)
        · skip
          refine J.skip ?_
          refine J.n_then ?_
          refine J.seq ?_
          refine J.block ?_
          refine J.region ?_
          refine J.op (Yd.move rfl) rfl ?_
          refine J.op (Yd.move rfl) rfl ?_
          refine J.op (Yd.mul rfl rfl (by first | omega | exact idx_u8' _ | (simp only [Int.toNat_natCast]; omega) | (simp only [List.length_map, List.length_drop, List.length_take, List.length_append, List.length_replicate]; omega) | (simp <;> omega))) rfl ?_
          refine J.op (Yd.add rfl rfl (by first | omega | exact idx_u8' _ | (simp only [Int.toNat_natCast]; omega) | (simp only [List.length_map, List.length_drop, List.length_take, List.length_append, List.length_replicate]; omega) | (simp <;> omega))) rfl ?_
          refine J.op (Yd.move rfl) rfl ?_
          refine J.op (Yd.move rfl) rfl ?_
          refine J.op (Yd.mul rfl rfl (by first | omega | exact idx_u8' _ | (simp only [Int.toNat_natCast]; omega) | (simp only [List.length_map, List.length_drop, List.length_take, List.length_append, List.length_replicate]; omega) | (simp <;> omega))) rfl ?_
          refine J.op (Yd.add rfl rfl (by first | omega | exact idx_u8' _ | (simp only [Int.toNat_natCast]; omega) | (simp only [List.length_map, List.length_drop, List.length_take, List.length_append, List.length_replicate]; omega) | (simp <;> omega))) rfl ?_
          refine J.op (Yd.idxA Try.underlying24 ti23 rfl rfl (by first | omega | exact idx_u8' _ | (simp only [Int.toNat_natCast]; omega) | (simp only [List.length_map, List.length_drop, List.length_take, List.length_append, List.length_replicate]; omega) | (simp <;> omega))) rfl ?_
          refine J.op (Yd.load pl23 rfl (Cel.cellM c1_0 0 rfl 0 (by have hl_ := Cel.lenM c1_0 0 rfl; first | omega | (rw [hl_]; exact idx_u8' _) | (simp only [Int.toNat_natCast]; omega) | (simp at hl_ ⊢ <;> omega)))) rfl ?_
          refine J.op (Yd.move rfl) rfl ?_
          refine J.op (Yd.xor_u64 rfl rfl) rfl ?_
          refine J.op (Yd.idxA Try.underlying24 ti23 rfl rfl (by first | omega | exact idx_u8' _ | (simp only [Int.toNat_natCast]; omega) | (simp only [List.length_map, List.length_drop, List.length_take, List.length_append, List.length_replicate]; omega) | (simp <;> omega))) rfl ?_
          refine J.eff0 (Ye.storeM ti23 c1_0 0 rfl rfl rfl rfl (by first | omega | exact idx_u8' _ | (simp only [Int.toNat_natCast]; omega) | (simp only [List.length_map, List.length_drop, List.length_take, List.length_append, List.length_replicate]; omega) | (simp <;> omega)) (fun _ => rfl) (fun _ => rfl)) ?_
          rintro _ w9 ⟨cX, hu⟩
          simp only [List.set_cons_zero, List.set_cons_succ] at cX
          have hg := hu.gb
          have c2_1 := Cel.gbk c2_1 hg (Ap.symm ap_b1_0_b2_1)
          have c5_3 := Cel.gbk c5_3 hg (Ap.symm ap_b1_0_b5_3)
          have e0 := Ext.gbk e0 fr_b1_0 hg
          clear hg
          replace c1_0 := cX
          clear cX hu
          refine J.nil ?_
          refine J.n_block ?_
          refine J.n_then ?_
          refine J.region ?_
          refine J.op (Yd.move rfl) rfl ?_
          refine J.op (Yd.add rfl rfl (by first | omega | exact idx_u8' _ | (simp only [Int.toNat_natCast]; omega) | (simp only [List.length_map, List.length_drop, List.length_take, List.length_append, List.length_replicate]; omega) | (simp <;> omega))) rfl ?_
          refine J.op (Yd.assign rfl) rfl ?_
          refine J.nil ?_
          refine J.n_then ?_
          exact J.round (y + 1) ⟨rfl, rfl, rfl, rfl, rfl, rfl, rfl, rfl, trivial⟩ (⟨by omega, Cel.eq c1_0 (by rw [show ((x : Int) + 5 * (y : Int)).toNat = x + 5 * y by omega, fillP_get _ _ _ _ _ (colP_no x y (by omega)), ← thF_at (permN a r) (by omega)]; exact congrArg (fun l => [(0, 25, List.map (fun x : UInt64 => W64 x) l)]) (fillP_set (colP x y) (colP x (y + 1)) (thF (permN a r)) _ (x + 5 * y) (fun j hj => colP_step x y j (by omega) (by omega) (by rw [hl0] at hj; exact hj)))), c2_1, c5_3, e0⟩) (by omega)
        · skip
          refine J.exit ?_
          refine J.x_then ?_
          refine J.x_then ?_
          refine J.x_block ?_
          refine J.n_block ?_
          refine J.n_then ?_
          refine J.region ?_
          refine J.op (Yd.move rfl) rfl ?_
          refine J.op (Yd.add rfl rfl (by first | omega | exact idx_u8' _ | (simp only [Int.toNat_natCast]; omega) | (simp only [List.length_map, List.length_drop, List.length_take, List.length_append, List.length_replicate]; omega) | (simp <;> omega))) rfl ?_
          refine J.op (Yd.assign rfl) rfl ?_
          refine J.nil ?_
          refine J.n_then ?_
          exact J.round (x + 1) ⟨rfl, rfl, rfl, rfl, rfl, rfl, trivial⟩ (⟨by omega, Cel.eq c1_0 (by rw [show y = 5 by omega]; exact congrArg (fun l => [(0, 25, List.map (fun x : UInt64 => W64 x) l)]) (fillP_congr _ _ _ _ (fun j hj => (colP_next x j (by rw [hl0] at hj; exact hj)).symm))), c2_1, c5_3, e0⟩) (by omega)
      · skip
        refine J.exit ?_
        refine J.x_then ?_
        refine J.x_then ?_
        refine J.x_block ?_
        refine J.n_then ?_
        refine J.seq ?_
        refine J.region ?_
        refine J.eff (Ye.alloc ti24 (S := [(0, 25, (List.replicate 25 0).map (fun x : UInt64 => W64 x))]) (by simp [SegAll, SegOK, Value.cells])) rfl ?_
        rintro _ w10 ⟨b10_9, rfl, hb_, c10_9, x1⟩
        have ap_b1_0_b10_9 : Ap (some b1_0) (some b10_9) := Ap.mk (Cel.live c1_0) (Fr.blk hb_)
        have ap_b2_1_b10_9 : Ap (some b2_1) (some b10_9) := Ap.mk (Cel.live c2_1) (Fr.blk hb_)
        have ap_b5_3_b10_9 : Ap (some b5_3) (some b10_9) := Ap.mk (Cel.live c5_3) (Fr.blk hb_)
        have fr_b10_9 : Fr w.heap.size (some b10_9) := Fr.le (Fr.blk hb_) e0.size
        have e0 := e0.trans x1
        have c1_0 := c1_0.ext x1
        have c2_1 := c2_1.ext x1
        have c5_3 := c5_3.ext x1
        clear x1 hb_
        refine J.nil ?_
        refine J.n_then ?_
        refine J.seq ?_
        refine J.region ?_
        refine J.op (Yd.idxA Try.underlying24 ti23 rfl rfl (by first | omega | exact idx_u8' _ | (simp only [Int.toNat_natCast]; omega) | (simp only [List.length_map, List.length_drop, List.length_take, List.length_append, List.length_replicate]; omega) | (simp <;> omega))) rfl ?_
        refine J.op (Yd.load pl23 rfl (Cel.cellM c1_0 0 rfl 0 (by have hl_ := Cel.lenM c1_0 0 rfl; first | omega | (rw [hl_]; exact idx_u8' _) | (simp only [Int.toNat_natCast]; omega) | (simp at hl_ ⊢ <;> omega)))) rfl ?_
        refine J.op (Yd.idxA Try.underlying24 ti23 rfl rfl (by first | omega | exact idx_u8' _ | (simp only [Int.toNat_natCast]; omega) | (simp only [List.length_map, List.length_drop, List.length_take, List.length_append, List.length_replicate]; omega) | (simp <;> omega))) rfl ?_
        refine J.eff0 (Ye.storeM ti23 c10_9 0 rfl rfl rfl rfl (by first | omega | exact idx_u8' _ | (simp only [Int.toNat_natCast]; omega) | (simp only [List.length_map, List.length_drop, List.length_take, List.length_append, List.length_replicate]; omega) | (simp <;> omega)) (fun _ => rfl) (fun _ => rfl)) ?_
        rintro _ w11 ⟨cX, hu⟩
        simp only [List.set_cons_zero, List.set_cons_succ] at cX
        have hg := hu.gb
        have c1_0 := Cel.gbk c1_0 hg ap_b1_0_b10_9
        have c2_1 := Cel.gbk c2_1 hg ap_b2_1_b10_9
        have c5_3 := Cel.gbk c5_3 hg ap_b5_3_b10_9
        have e0 := Ext.gbk e0 fr_b10_9 hg
        clear hg
        replace c10_9 := cX
        clear cX hu
        refine J.nil ?_
        refine J.n_then ?_
        refine J.seq ?_
        refine J.region ?_
        refine J.op (Yd.assign rfl) rfl ?_
        refine J.op (Yd.assign rfl) rfl ?_
        refine J.nil ?_
        refine J.n_then ?_
        refine J.seq ?_
        refine J.seq ?_
        refine J.region ?_
        refine J.op (Yd.assign rfl) rfl ?_
        refine J.nil ?_
        refine J.n_then ?_
        refine J.block ?_
        refine J.loop (ι := Nat) (fun i => [(3, B (lfK (7 * r))), (4, I (r : Int)), (11, I (xK i : Int)), (12, I (yK i : Int)), (13, I i), (1, .pointer (some ⟨b1_0, 0, none⟩)), (2, .pointer (some ⟨b2_1, 0, none⟩)), (10, .pointer (some ⟨b10_9, 0, none⟩))]) (fun i w' => i ≤ 24 ∧ Cel w' b1_0 24 [(0, 25, ((thL (permN a r))).map (fun x : UInt64 => W64 x))] ∧ Cel w' b2_1 24 [(0, 25, (List.replicate 25 0).map (fun x : UInt64 => W64 x))] ∧ Cel w' b10_9 24 [(0, 25, (rhN ((List.replicate 25 0).set 0 ((thL (permN a r)).getD 0 0)) (thL (permN a r)) i).map (fun x : UInt64 => W64 x))] ∧ Ext w w') (fun i => 24 - i) (0) ⟨rfl, rfl, rfl, rfl, rfl, rfl, rfl, rfl, trivial⟩ (⟨by omega, Cel.eq c1_0 (by rw [show x = 5 by omega, fillP_all _ _ _ (fun j _ => colP_all j), permN_len a ha r]; rfl), c2_1, Cel.eq c10_9 (by rw [show x = 5 by omega, fillP_all _ _ _ (fun j _ => colP_all j), permN_len a ha r]; rfl), e0⟩) ?_
        rintro k w12 ⟨hk, c1_0, c2_1, c10_9, e0⟩
        have hx := xK_lt (t := k) (by omega)
        have hy := yK_lt (t := k) (by omega)
        have hrl := rhN_len ((List.replicate 25 0).set 0 ((thL (permN a r)).getD 0 0)) (thL (permN a r)) k
        rw [List.length_set, List.length_replicate] at hrl
        have hl1 := thL_len (permN a r)
        have hm0 := Int.mul_nonneg (show 0 ≤ (k : Int) + 1 by omega) (show 0 ≤ (k : Int) + 2 by omega)
        have hm1 := Int.mul_le_mul (show (k : Int) + 1 ≤ 25 by omega) (show (k : Int) + 2 ≤ 26 by omega) (by omega) (by omega)
        refine J.seq ?_
        refine J.seq ?_
        refine J.region ?_
        refine J.op (Yd.move rfl) rfl ?_
        refine J.op (Yd.lss rfl rfl) rfl ?_
        refine J.nil ?_
        refine J.n_then ?_
        refine J.cond_dec rfl (fun hc4 => ?_) (fun hc4 => ?_)
        · skip
          refine J.skip ?_
          refine J.n_then ?_
          refine J.seq ?_
          refine J.block ?_
          refine J.seq ?_
          refine J.region ?_
          refine J.op (Yd.move rfl) rfl ?_
          refine J.op (Yd.add rfl rfl (by first | omega | exact idx_u8' _ | (simp only [Int.toNat_natCast]; omega) | (simp only [List.length_map, List.length_drop, List.length_take, List.length_append, List.length_replicate]; omega) | (simp <;> omega))) rfl ?_
          refine J.op (Yd.move rfl) rfl ?_
          refine J.op (Yd.add rfl rfl (by first | omega | exact idx_u8' _ | (simp only [Int.toNat_natCast]; omega) | (simp only [List.length_map, List.length_drop, List.length_take, List.length_append, List.length_replicate]; omega) | (simp <;> omega))) rfl ?_
          refine J.op (Yd.mul rfl rfl (by omega)) rfl ?_
          refine J.op (Yd.quo rfl rfl (by first | omega | exact idx_u8' _ | (simp only [Int.toNat_natCast]; omega) | (simp only [List.length_map, List.length_drop, List.length_take, List.length_append, List.length_replicate]; omega) | (simp <;> omega)) (by first | omega | exact idx_u8' _ | (simp only [Int.toNat_natCast]; omega) | (simp only [List.length_map, List.length_drop, List.length_take, List.length_append, List.length_replicate]; omega) | (simp <;> omega)) (by first | omega | exact idx_u8' _ | (simp only [Int.toNat_natCast]; omega) | (simp only [List.length_map, List.length_drop, List.length_take, List.length_append, List.length_replicate]; omega) | (simp <;> omega))) rfl ?_
          refine J.op (Yd.cast (Yd.rem rfl rfl (by omega) (by omega)) (congrArg (fun x => I x) (show ((k : Int) + 1) * ((k : Int) + 2) / 2 % 64 = (((k + 1) * (k + 2) / 2 % 64 : Nat) : Int) from by rw [Int.natCast_emod, Int.natCast_ediv, Int.natCast_mul]; rfl))) rfl ?_
          refine J.op (Yd.assign rfl) rfl ?_
          refine J.nil ?_
          refine J.n_then ?_
          refine J.seq ?_
          refine J.region ?_
          refine J.op (Yd.move rfl) rfl ?_
          refine J.op (Yd.move rfl) rfl ?_
          refine J.op (Yd.mul rfl rfl (by first | omega | exact idx_u8' _ | (simp only [Int.toNat_natCast]; omega) | (simp only [List.length_map, List.length_drop, List.length_take, List.length_append, List.length_replicate]; omega) | (simp <;> omega))) rfl ?_
          refine J.op (Yd.add rfl rfl (by first | omega | exact idx_u8' _ | (simp only [Int.toNat_natCast]; omega) | (simp only [List.length_map, List.length_drop, List.length_take, List.length_append, List.length_replicate]; omega) | (simp <;> omega))) rfl ?_
          refine J.op (Yd.idxA Try.underlying24 ti23 rfl rfl (by first | omega | exact idx_u8' _ | (simp only [Int.toNat_natCast]; omega) | (simp only [List.length_map, List.length_drop, List.length_take, List.length_append, List.length_replicate]; omega) | (simp <;> omega))) rfl ?_
          refine J.op (Yd.load pl23 rfl (Cel.cellM c1_0 0 rfl 0 (by have hl_ := Cel.lenM c1_0 0 rfl; first | omega | (rw [hl_]; exact idx_u8' _) | (simp only [Int.toNat_natCast]; omega) | (simp at hl_ ⊢ <;> omega)))) rfl ?_
          refine J.op (Yd.assign rfl) rfl ?_
          refine J.nil ?_
          refine J.n_then ?_
          refine J.seq ?_
          refine J.region ?_
          refine J.op (Yd.move rfl) rfl ?_
          refine J.op (Yd.assign rfl) rfl ?_
          refine J.nil ?_
          refine J.n_then ?_
          refine J.seq ?_
          refine J.seq ?_
          refine J.region ?_
          refine J.op (Yd.move rfl) rfl ?_
          refine J.op (Yd.gtr rfl rfl) rfl ?_
          refine J.nil ?_
          refine J.n_then ?_
          refine J.cond_dec rfl (fun hc5 => ?_) (fun hc5 => ?_)
          · skip
            refine J.regionO [(0, true), (1, true), (2, true), (3, true), (4, true), (5, true), (6, true), (7, true), (8, true)] [] [] mix (by kernel_rfl) ?_
            refine J.s_op rfl (fun _ => Yd.move rfl) rfl ?_
            refine J.s_op rfl (fun _ => Yd.move rfl) rfl ?_
            refine J.s_op rfl (fun _ => Yd.shl_u64 rfl rfl (by first | omega | exact idx_u8' _ | (simp only [Int.toNat_natCast]; omega) | (simp only [List.length_map, List.length_drop, List.length_take, List.length_append, List.length_replicate]; omega) | (simp <;> omega))) rfl ?_
            refine J.s_op rfl (fun _ => Yd.move rfl) rfl ?_
            refine J.s_op rfl (fun _ => Yd.move rfl) rfl ?_
            refine J.s_op rfl (fun _ => Yd.sub rfl rfl (by first | omega | exact idx_u8' _ | (simp only [Int.toNat_natCast]; omega) | (simp only [List.length_map, List.length_drop, List.length_take, List.length_append, List.length_replicate]; omega) | (simp <;> omega))) rfl ?_
            refine J.s_op rfl (fun _ => Yd.shr_u64 rfl rfl (by first | omega | exact idx_u8' _ | (simp only [Int.toNat_natCast]; omega) | (simp only [List.length_map, List.length_drop, List.length_take, List.length_append, List.length_replicate]; omega) | (simp <;> omega))) rfl ?_
            refine J.s_op rfl (fun _ => Yd.or_u64 rfl rfl) rfl ?_
            refine J.s_op rfl (fun _ => Yd.assign rfl) rfl ?_
            refine J.s_nil ?_
            refine J.o_nil ?_
            refine J.s_nil ?_
            refine J.n_np ?_
            refine J.n_then ?_
            refine J.seq ?_
            refine J.region ?_
            refine J.op (Yd.move rfl) rfl ?_
            refine J.op (Yd.move rfl) rfl ?_
            refine J.op (Yd.mul rfl rfl (by first | omega | exact idx_u8' _ | (simp only [Int.toNat_natCast]; omega) | (simp only [List.length_map, List.length_drop, List.length_take, List.length_append, List.length_replicate]; omega) | (simp <;> omega))) rfl ?_
            refine J.op (Yd.move rfl) rfl ?_
            refine J.op (Yd.mul rfl rfl (by first | omega | exact idx_u8' _ | (simp only [Int.toNat_natCast]; omega) | (simp only [List.length_map, List.length_drop, List.length_take, List.length_append, List.length_replicate]; omega) | (simp <;> omega))) rfl ?_
            refine J.op (Yd.add rfl rfl (by first | omega | exact idx_u8' _ | (simp only [Int.toNat_natCast]; omega) | (simp only [List.length_map, List.length_drop, List.length_take, List.length_append, List.length_replicate]; omega) | (simp <;> omega))) rfl ?_
            refine J.op (Yd.rem rfl rfl (by first | omega | exact idx_u8' _ | (simp only [Int.toNat_natCast]; omega) | (simp only [List.length_map, List.length_drop, List.length_take, List.length_append, List.length_replicate]; omega) | (simp <;> omega)) (by first | omega | exact idx_u8' _ | (simp only [Int.toNat_natCast]; omega) | (simp only [List.length_map, List.length_drop, List.length_take, List.length_append, List.length_replicate]; omega) | (simp <;> omega))) rfl ?_
            refine J.op (Yd.mul rfl rfl (by first | omega | exact idx_u8' _ | (simp only [Int.toNat_natCast]; omega) | (simp only [List.length_map, List.length_drop, List.length_take, List.length_append, List.length_replicate]; omega) | (simp <;> omega))) rfl ?_
            refine J.op (Yd.add rfl rfl (by first | omega | exact idx_u8' _ | (simp only [Int.toNat_natCast]; omega) | (simp only [List.length_map, List.length_drop, List.length_take, List.length_append, List.length_replicate]; omega) | (simp <;> omega))) rfl ?_
            refine J.op (Yd.move rfl) rfl ?_
            refine J.op (Yd.idxA Try.underlying24 ti23 rfl rfl (by first | omega | exact idx_u8' _ | (simp only [Int.toNat_natCast]; omega) | (simp only [List.length_map, List.length_drop, List.length_take, List.length_append, List.length_replicate]; omega) | (simp <;> omega))) rfl ?_
            refine J.eff0 (Ye.storeM ti23 c10_9 0 rfl rfl rfl rfl (by first | omega | exact idx_u8' _ | (simp only [Int.toNat_natCast]; omega) | (simp only [List.length_map, List.length_drop, List.length_take, List.length_append, List.length_replicate]; omega) | (simp <;> omega)) (fun _ => rfl) (fun _ => rfl)) ?_
            rintro _ w13 ⟨cX, hu⟩
            simp only [List.set_cons_zero, List.set_cons_succ] at cX
            have hg := hu.gb
            have c1_0 := Cel.gbk c1_0 hg ap_b1_0_b10_9
            have c2_1 := Cel.gbk c2_1 hg ap_b2_1_b10_9
            have e0 := Ext.gbk e0 fr_b10_9 hg
            clear hg
            replace c10_9 := cX
            clear cX hu
            refine J.nil ?_
            refine J.n_then ?_
            refine J.region ?_
            refine J.op (Yd.move rfl) rfl ?_
            refine J.op (Yd.move rfl) rfl ?_
            refine J.op (Yd.mul rfl rfl (by first | omega | exact idx_u8' _ | (simp only [Int.toNat_natCast]; omega) | (simp only [List.length_map, List.length_drop, List.length_take, List.length_append, List.length_replicate]; omega) | (simp <;> omega))) rfl ?_
            refine J.op (Yd.move rfl) rfl ?_
            refine J.op (Yd.mul rfl rfl (by first | omega | exact idx_u8' _ | (simp only [Int.toNat_natCast]; omega) | (simp only [List.length_map, List.length_drop, List.length_take, List.length_append, List.length_replicate]; omega) | (simp <;> omega))) rfl ?_
            refine J.op (Yd.add rfl rfl (by first | omega | exact idx_u8' _ | (simp only [Int.toNat_natCast]; omega) | (simp only [List.length_map, List.length_drop, List.length_take, List.length_append, List.length_replicate]; omega) | (simp <;> omega))) rfl ?_
            refine J.op (Yd.rem rfl rfl (by first | omega | exact idx_u8' _ | (simp only [Int.toNat_natCast]; omega) | (simp only [List.length_map, List.length_drop, List.length_take, List.length_append, List.length_replicate]; omega) | (simp <;> omega)) (by first | omega | exact idx_u8' _ | (simp only [Int.toNat_natCast]; omega) | (simp only [List.length_map, List.length_drop, List.length_take, List.length_append, List.length_replicate]; omega) | (simp <;> omega))) rfl ?_
            refine J.op (Yd.assign rfl) rfl ?_
            refine J.op (Yd.assign rfl) rfl ?_
            refine J.nil ?_
            refine J.n_block ?_
            refine J.n_then ?_
            refine J.region ?_
            refine J.op (Yd.move rfl) rfl ?_
            refine J.op (Yd.add rfl rfl (by first | omega | exact idx_u8' _ | (simp only [Int.toNat_natCast]; omega) | (simp only [List.length_map, List.length_drop, List.length_take, List.length_append, List.length_replicate]; omega) | (simp <;> omega))) rfl ?_
            refine J.op (Yd.assign rfl) rfl ?_
            refine J.nil ?_
            refine J.n_then ?_
            exact J.round (k + 1) ⟨rfl, rfl, (someI (by rw [xK_next (by omega)])), (someI (by rw [yK_next (by omega)]; omega)), rfl, rfl, rfl, rfl, trivial⟩ (⟨by omega, c1_0, c2_1, Cel.eq c10_9 (by exact congrArg (fun l => [(0, 25, List.map (fun x : UInt64 => W64 x) l)]) (rhN_next _ _ k (pos_ix (by omega)) (by rw [pos_ix0]; exact rolU_ref (by omega)))), e0⟩) (by omega)
          · skip
            refine J.skip ?_
            refine J.n_then ?_
            refine J.seq ?_
            refine J.region ?_
            refine J.op (Yd.move rfl) rfl ?_
            refine J.op (Yd.move rfl) rfl ?_
            refine J.op (Yd.mul rfl rfl (by first | omega | exact idx_u8' _ | (simp only [Int.toNat_natCast]; omega) | (simp only [List.length_map, List.length_drop, List.length_take, List.length_append, List.length_replicate]; omega) | (simp <;> omega))) rfl ?_
            refine J.op (Yd.move rfl) rfl ?_
            refine J.op (Yd.mul rfl rfl (by first | omega | exact idx_u8' _ | (simp only [Int.toNat_natCast]; omega) | (simp only [List.length_map, List.length_drop, List.length_take, List.length_append, List.length_replicate]; omega) | (simp <;> omega))) rfl ?_
            refine J.op (Yd.add rfl rfl (by first | omega | exact idx_u8' _ | (simp only [Int.toNat_natCast]; omega) | (simp only [List.length_map, List.length_drop, List.length_take, List.length_append, List.length_replicate]; omega) | (simp <;> omega))) rfl ?_
            refine J.op (Yd.rem rfl rfl (by first | omega | exact idx_u8' _ | (simp only [Int.toNat_natCast]; omega) | (simp only [List.length_map, List.length_drop, List.length_take, List.length_append, List.length_replicate]; omega) | (simp <;> omega)) (by first | omega | exact idx_u8' _ | (simp only [Int.toNat_natCast]; omega) | (simp only [List.length_map, List.length_drop, List.length_take, List.length_append, List.length_replicate]; omega) | (simp <;> omega))) rfl ?_
            refine J.op (Yd.mul rfl rfl (by first | omega | exact idx_u8' _ | (simp only [Int.toNat_natCast]; omega) | (simp only [List.length_map, List.length_drop, List.length_take, List.length_append, List.length_replicate]; omega) | (simp <;> omega))) rfl ?_
            refine J.op (Yd.add rfl rfl (by first | omega | exact idx_u8' _ | (simp only [Int.toNat_natCast]; omega) | (simp only [List.length_map, List.length_drop, List.length_take, List.length_append, List.length_replicate]; omega) | (simp <;> omega))) rfl ?_
            refine J.op (Yd.move rfl) rfl ?_
            refine J.op (Yd.idxA Try.underlying24 ti23 rfl rfl (by first | omega | exact idx_u8' _ | (simp only [Int.toNat_natCast]; omega) | (simp only [List.length_map, List.length_drop, List.length_take, List.length_append, List.length_replicate]; omega) | (simp <;> omega))) rfl ?_
            refine J.eff0 (Ye.storeM ti23 c10_9 0 rfl rfl rfl rfl (by first | omega | exact idx_u8' _ | (simp only [Int.toNat_natCast]; omega) | (simp only [List.length_map, List.length_drop, List.length_take, List.length_append, List.length_replicate]; omega) | (simp <;> omega)) (fun _ => rfl) (fun _ => rfl)) ?_
            rintro _ w14 ⟨cX, hu⟩
            simp only [List.set_cons_zero, List.set_cons_succ] at cX
            have hg := hu.gb
            have c1_0 := Cel.gbk c1_0 hg ap_b1_0_b10_9
            have c2_1 := Cel.gbk c2_1 hg ap_b2_1_b10_9
            have e0 := Ext.gbk e0 fr_b10_9 hg
            clear hg
            replace c10_9 := cX
            clear cX hu
            refine J.nil ?_
            refine J.n_then ?_
            refine J.region ?_
            refine J.op (Yd.move rfl) rfl ?_
            refine J.op (Yd.move rfl) rfl ?_
            refine J.op (Yd.mul rfl rfl (by first | omega | exact idx_u8' _ | (simp only [Int.toNat_natCast]; omega) | (simp only [List.length_map, List.length_drop, List.length_take, List.length_append, List.length_replicate]; omega) | (simp <;> omega))) rfl ?_
            refine J.op (Yd.move rfl) rfl ?_
            refine J.op (Yd.mul rfl rfl (by first | omega | exact idx_u8' _ | (simp only [Int.toNat_natCast]; omega) | (simp only [List.length_map, List.length_drop, List.length_take, List.length_append, List.length_replicate]; omega) | (simp <;> omega))) rfl ?_
            refine J.op (Yd.add rfl rfl (by first | omega | exact idx_u8' _ | (simp only [Int.toNat_natCast]; omega) | (simp only [List.length_map, List.length_drop, List.length_take, List.length_append, List.length_replicate]; omega) | (simp <;> omega))) rfl ?_
            refine J.op (Yd.rem rfl rfl (by first | omega | exact idx_u8' _ | (simp only [Int.toNat_natCast]; omega) | (simp only [List.length_map, List.length_drop, List.length_take, List.length_append, List.length_replicate]; omega) | (simp <;> omega)) (by first | omega | exact idx_u8' _ | (simp only [Int.toNat_natCast]; omega) | (simp only [List.length_map, List.length_drop, List.length_take, List.length_append, List.length_replicate]; omega) | (simp <;> omega))) rfl ?_
            refine J.op (Yd.assign rfl) rfl ?_
            refine J.op (Yd.assign rfl) rfl ?_
            refine J.nil ?_
            refine J.n_block ?_
            refine J.n_then ?_
            refine J.region ?_
            refine J.op (Yd.move rfl) rfl ?_
            refine J.op (Yd.add rfl rfl (by first | omega | exact idx_u8' _ | (simp only [Int.toNat_natCast]; omega) | (simp only [List.length_map, List.length_drop, List.length_take, List.length_append, List.length_replicate]; omega) | (simp <;> omega))) rfl ?_
            refine J.op (Yd.assign rfl) rfl ?_
            refine J.nil ?_
            refine J.n_then ?_
            exact J.round (k + 1) ⟨rfl, rfl, (someI (by rw [xK_next (by omega)])), (someI (by rw [yK_next (by omega)]; omega)), rfl, rfl, rfl, rfl, trivial⟩ (⟨by omega, c1_0, c2_1, Cel.eq c10_9 (by exact congrArg (fun l => [(0, 25, List.map (fun x : UInt64 => W64 x) l)]) (rhN_next _ _ k (pos_ix (by omega)) (by rw [pos_ix0]; exact (rolU_zero _ _ (by omega)).symm))), e0⟩) (by omega)
        · skip
          refine J.exit ?_
          refine J.x_then ?_
          refine J.x_then ?_
          refine J.x_block ?_
          refine J.n_then ?_
          refine J.seq ?_
          refine J.seq ?_
          refine J.region ?_
          refine J.op (Yd.assign rfl) rfl ?_
          refine J.nil ?_
          refine J.n_then ?_
          refine J.block ?_
          refine J.loop (ι := Nat) (fun i => [(3, B (lfK (7 * r))), (4, I (r : Int)), (17, I i), (1, .pointer (some ⟨b1_0, 0, none⟩)), (2, .pointer (some ⟨b2_1, 0, none⟩)), (10, .pointer (some ⟨b10_9, 0, none⟩))]) (fun i w' => i ≤ 5 ∧ Cel w' b1_0 24 [(0, 25, (fillU (chF (rhL (thL (permN a r)))) (thL (permN a r)) (5 * i)).map (fun x : UInt64 => W64 x))] ∧ Cel w' b2_1 24 [(0, 25, (List.replicate 25 0).map (fun x : UInt64 => W64 x))] ∧ Cel w' b10_9 24 [(0, 25, ((rhL (thL (permN a r)))).map (fun x : UInt64 => W64 x))] ∧ Ext w w') (fun i => 5 - i) (0) ⟨rfl, rfl, rfl, rfl, rfl, rfl, trivial⟩ (⟨by omega, Cel.eq c1_0 (by rw [Nat.mul_zero, fillU_zero]), c2_1, Cel.eq c10_9 (by rw [show k = 24 by omega, rh_ref _ (thL_len _)]), e0⟩) ?_
          rintro y w15 ⟨hy, c1_0, c2_1, c10_9, e0⟩
          have hl1 := thL_len (permN a r)
          have hl2 := rhL_len (thL (permN a r)) hl1
          refine J.seq ?_
          refine J.seq ?_
          refine J.region ?_
          refine J.op (Yd.move rfl) rfl ?_
          refine J.op (Yd.lss rfl rfl) rfl ?_
          refine J.nil ?_
          refine J.n_then ?_
          refine J.cond_dec rfl (fun hc6 => ?_) (fun hc6 => ?_)
          · skip
            refine J.skip ?_
            refine J.n_then ?_
            refine J.seq ?_
            refine J.block ?_
            refine J.seq ?_
            refine J.region ?_
            refine J.op (Yd.assign rfl) rfl ?_
            refine J.nil ?_
            refine J.n_then ?_
            refine J.block ?_
            refine J.loop (ι := Nat) (fun i => [(3, B (lfK (7 * r))), (4, I (r : Int)), (17, I (y : Int)), (18, I i), (1, .pointer (some ⟨b1_0, 0, none⟩)), (2, .pointer (some ⟨b2_1, 0, none⟩)), (10, .pointer (some ⟨b10_9, 0, none⟩))]) (fun i w' => i ≤ 5 ∧ Cel w' b1_0 24 [(0, 25, (fillU (chF (rhL (thL (permN a r)))) (thL (permN a r)) (i + 5 * y)).map (fun x : UInt64 => W64 x))] ∧ Cel w' b2_1 24 [(0, 25, (List.replicate 25 0).map (fun x : UInt64 => W64 x))] ∧ Cel w' b10_9 24 [(0, 25, ((rhL (thL (permN a r)))).map (fun x : UInt64 => W64 x))] ∧ Ext w w') (fun i => 5 - i) (0) ⟨rfl, rfl, rfl, rfl, rfl, rfl, rfl, trivial⟩ (⟨by omega, Cel.eq c1_0 (by rw [Nat.zero_add]), c2_1, c10_9, e0⟩) ?_
            rintro x w16 ⟨hx, c1_0, c2_1, c10_9, e0⟩
            have hl1 := thL_len (permN a r)
            have hl2 := rhL_len (thL (permN a r)) hl1
            have hfl := fillU_len (chF (rhL (thL (permN a r)))) (thL (permN a r)) (x + 5 * y)
            refine J.seq ?_
            refine J.seq ?_
            refine J.region ?_
            refine J.op (Yd.move rfl) rfl ?_
            refine J.op (Yd.lss rfl rfl) rfl ?_
            refine J.nil ?_
            refine J.n_then ?_
            refine J.cond_dec rfl (fun hc7 => ?_) (fun hc7 => ?_)
            · skip
              refine J.skip ?_
              refine J.n_then ?_
              refine J.seq ?_
              refine J.block ?_
              refine J.regionO [(0, true), (1, true), (2, true), (3, true), (4, true), (5, true), (6, true), (7, true), (8, true), (10, true), (11, true), (12, true), (13, true), (14, true), (15, true), (16, true), (19, true), (20, true), (21, true), (22, true), (23, true), (24, true), (25, true)] [(9, 1), (17, 1), (26, 1), (18, 1), (27, 1)] [(28, true), (29, true), (30, false)] mix (by kernel_rfl) ?_
              refine J.s_op rfl (fun _ => Yd.move rfl) rfl ?_
              refine J.s_op rfl (fun _ => Yd.move rfl) rfl ?_
              refine J.s_op rfl (fun _ => Yd.mul rfl rfl (by first | omega | exact idx_u8' _ | (simp only [Int.toNat_natCast]; omega) | (simp only [List.length_map, List.length_drop, List.length_take, List.length_append, List.length_replicate]; omega) | (simp <;> omega))) rfl ?_
              refine J.s_op rfl (fun _ => Yd.add rfl rfl (by first | omega | exact idx_u8' _ | (simp only [Int.toNat_natCast]; omega) | (simp only [List.length_map, List.length_drop, List.length_take, List.length_append, List.length_replicate]; omega) | (simp <;> omega))) rfl ?_
              refine J.s_op rfl (fun _ => Yd.move rfl) rfl ?_
              refine J.s_op rfl (fun _ => Yd.move rfl) rfl ?_
              refine J.s_op rfl (fun _ => Yd.mul rfl rfl (by first | omega | exact idx_u8' _ | (simp only [Int.toNat_natCast]; omega) | (simp only [List.length_map, List.length_drop, List.length_take, List.length_append, List.length_replicate]; omega) | (simp <;> omega))) rfl ?_
              refine J.s_op rfl (fun _ => Yd.add rfl rfl (by first | omega | exact idx_u8' _ | (simp only [Int.toNat_natCast]; omega) | (simp only [List.length_map, List.length_drop, List.length_take, List.length_append, List.length_replicate]; omega) | (simp <;> omega))) rfl ?_
              refine J.s_op rfl (fun _ => Yd.idxA Try.underlying24 ti23 rfl rfl (by first | omega | exact idx_u8' _ | (simp only [Int.toNat_natCast]; omega) | (simp only [List.length_map, List.length_drop, List.length_take, List.length_append, List.length_replicate]; omega) | (simp <;> omega))) rfl ?_
              refine J.s_op rfl (fun _ => Yd.move rfl) rfl ?_
              refine J.s_op rfl (fun _ => Yd.add rfl rfl (by first | omega | exact idx_u8' _ | (simp only [Int.toNat_natCast]; omega) | (simp only [List.length_map, List.length_drop, List.length_take, List.length_append, List.length_replicate]; omega) | (simp <;> omega))) rfl ?_
              refine J.s_op rfl (fun _ => Yd.rem rfl rfl (by first | omega | exact idx_u8' _ | (simp only [Int.toNat_natCast]; omega) | (simp only [List.length_map, List.length_drop, List.length_take, List.length_append, List.length_replicate]; omega) | (simp <;> omega)) (by first | omega | exact idx_u8' _ | (simp only [Int.toNat_natCast]; omega) | (simp only [List.length_map, List.length_drop, List.length_take, List.length_append, List.length_replicate]; omega) | (simp <;> omega))) rfl ?_
              refine J.s_op rfl (fun _ => Yd.move rfl) rfl ?_
              refine J.s_op rfl (fun _ => Yd.mul rfl rfl (by first | omega | exact idx_u8' _ | (simp only [Int.toNat_natCast]; omega) | (simp only [List.length_map, List.length_drop, List.length_take, List.length_append, List.length_replicate]; omega) | (simp <;> omega))) rfl ?_
              refine J.s_op rfl (fun _ => Yd.add rfl rfl (by first | omega | exact idx_u8' _ | (simp only [Int.toNat_natCast]; omega) | (simp only [List.length_map, List.length_drop, List.length_take, List.length_append, List.length_replicate]; omega) | (simp <;> omega))) rfl ?_
              refine J.s_op rfl (fun _ => Yd.idxA Try.underlying24 ti23 rfl rfl (by first | omega | exact idx_u8' _ | (simp only [Int.toNat_natCast]; omega) | (simp only [List.length_map, List.length_drop, List.length_take, List.length_append, List.length_replicate]; omega) | (simp <;> omega))) rfl ?_
              refine J.s_op rfl (fun _ => Yd.move rfl) rfl ?_
              refine J.s_op rfl (fun _ => Yd.add rfl rfl (by first | omega | exact idx_u8' _ | (simp only [Int.toNat_natCast]; omega) | (simp only [List.length_map, List.length_drop, List.length_take, List.length_append, List.length_replicate]; omega) | (simp <;> omega))) rfl ?_
              refine J.s_op rfl (fun _ => Yd.rem rfl rfl (by first | omega | exact idx_u8' _ | (simp only [Int.toNat_natCast]; omega) | (simp only [List.length_map, List.length_drop, List.length_take, List.length_append, List.length_replicate]; omega) | (simp <;> omega)) (by first | omega | exact idx_u8' _ | (simp only [Int.toNat_natCast]; omega) | (simp only [List.length_map, List.length_drop, List.length_take, List.length_append, List.length_replicate]; omega) | (simp <;> omega))) rfl ?_
              refine J.s_op rfl (fun _ => Yd.move rfl) rfl ?_
              refine J.s_op rfl (fun _ => Yd.mul rfl rfl (by first | omega | exact idx_u8' _ | (simp only [Int.toNat_natCast]; omega) | (simp only [List.length_map, List.length_drop, List.length_take, List.length_append, List.length_replicate]; omega) | (simp <;> omega))) rfl ?_
              refine J.s_op rfl (fun _ => Yd.add rfl rfl (by first | omega | exact idx_u8' _ | (simp only [Int.toNat_natCast]; omega) | (simp only [List.length_map, List.length_drop, List.length_take, List.length_append, List.length_replicate]; omega) | (simp <;> omega))) rfl ?_
              refine J.s_op rfl (fun _ => Yd.idxA Try.underlying24 ti23 rfl rfl (by first | omega | exact idx_u8' _ | (simp only [Int.toNat_natCast]; omega) | (simp only [List.length_map, List.length_drop, List.length_take, List.length_append, List.length_replicate]; omega) | (simp <;> omega))) rfl ?_
              refine J.s_nil ?_
              refine J.o_op rfl (Yd.load pl23 rfl (Cel.cellM c10_9 0 rfl 0 (by have hl_ := Cel.lenM c10_9 0 rfl; first | omega | (rw [hl_]; exact idx_u8' _) | (simp only [Int.toNat_natCast]; omega) | (simp at hl_ ⊢ <;> omega)))) rfl ?_
              refine J.o_op rfl (Yd.load pl23 rfl (Cel.cellM c10_9 0 rfl 0 (by have hl_ := Cel.lenM c10_9 0 rfl; first | omega | (rw [hl_]; exact idx_u8' _) | (simp only [Int.toNat_natCast]; omega) | (simp at hl_ ⊢ <;> omega)))) rfl ?_
              refine J.o_op rfl (Yd.load pl23 rfl (Cel.cellM c10_9 0 rfl 0 (by have hl_ := Cel.lenM c10_9 0 rfl; first | omega | (rw [hl_]; exact idx_u8' _) | (simp only [Int.toNat_natCast]; omega) | (simp at hl_ ⊢ <;> omega)))) rfl ?_
              refine J.o_op rfl (Yd.xor1_u64 rfl) rfl ?_
              refine J.o_op rfl (Yd.and_u64 rfl rfl) rfl ?_
              refine J.o_nil ?_
              refine J.s_op rfl (fun _ => Yd.xor_u64 rfl rfl) rfl ?_
              refine J.s_op rfl (fun _ => Yd.idxA Try.underlying24 ti23 rfl rfl (by first | omega | exact idx_u8' _ | (simp only [Int.toNat_natCast]; omega) | (simp only [List.length_map, List.length_drop, List.length_take, List.length_append, List.length_replicate]; omega) | (simp <;> omega))) rfl ?_
              refine J.s_eff0 rfl (Ye.storeM ti23 c1_0 0 rfl rfl rfl rfl (by first | omega | exact idx_u8' _ | (simp only [Int.toNat_natCast]; omega) | (simp only [List.length_map, List.length_drop, List.length_take, List.length_append, List.length_replicate]; omega) | (simp <;> omega)) (fun _ => rfl) (fun _ => rfl)) ?_
              rintro _ w17 ⟨cX, hu⟩
              simp only [List.set_cons_zero, List.set_cons_succ] at cX
              have hg := hu.gb
              have c2_1 := Cel.gbk c2_1 hg (Ap.symm ap_b1_0_b2_1)
              have c10_9 := Cel.gbk c10_9 hg (Ap.symm ap_b1_0_b10_9)
              have e0 := Ext.gbk e0 fr_b1_0 hg
              clear hg
              replace c1_0 := cX
              clear cX hu
              refine J.s_nil ?_
              refine J.n_np ?_
              refine J.n_block ?_
              refine J.n_then ?_
              refine J.region ?_
              refine J.op (Yd.move rfl) rfl ?_
              refine J.op (Yd.add rfl rfl (by first | omega | exact idx_u8' _ | (simp only [Int.toNat_natCast]; omega) | (simp only [List.length_map, List.length_drop, List.length_take, List.length_append, List.length_replicate]; omega) | (simp <;> omega))) rfl ?_
              refine J.op (Yd.assign rfl) rfl ?_
              refine J.nil ?_
              refine J.n_then ?_
              exact J.round (x + 1) ⟨rfl, rfl, rfl, rfl, rfl, rfl, rfl, trivial⟩ (⟨by omega, Cel.eq c1_0 (by rw [show ((x : Int) + 5 * (y : Int)).toNat = x + 5 * y by omega, show (((x : Int) + 1) % 5 + 5 * (y : Int)).toNat = (x + 1) % 5 + 5 * y by omega, show (((x : Int) + 2) % 5 + 5 * (y : Int)).toNat = (x + 2) % 5 + 5 * y by omega, ← chF_at (rhL (thL (permN a r))) (by omega), show x + 1 + 5 * y = x + 5 * y + 1 by omega]; exact congrArg (fun l => [(0, 25, List.map (fun x : UInt64 => W64 x) l)]) (fillU_set (chF (rhL (thL (permN a r)))) _ (x + 5 * y))), c2_1, c10_9, e0⟩) (by omega)
            · skip
              refine J.exit ?_
              refine J.x_then ?_
              refine J.x_then ?_
              refine J.x_block ?_
              refine J.n_block ?_
              refine J.n_then ?_
              refine J.region ?_
              refine J.op (Yd.move rfl) rfl ?_
              refine J.op (Yd.add rfl rfl (by first | omega | exact idx_u8' _ | (simp only [Int.toNat_natCast]; omega) | (simp only [List.length_map, List.length_drop, List.length_take, List.length_append, List.length_replicate]; omega) | (simp <;> omega))) rfl ?_
              refine J.op (Yd.assign rfl) rfl ?_
              refine J.nil ?_
              refine J.n_then ?_
              exact J.round (y + 1) ⟨rfl, rfl, rfl, rfl, rfl, rfl, trivial⟩ (⟨by omega, Cel.eq c1_0 (by rw [show x = 5 by omega, show 5 + 5 * y = 5 * (y + 1) by omega]), c2_1, c10_9, e0⟩) (by omega)
          · skip
            refine J.exit ?_
            refine J.x_then ?_
            refine J.x_then ?_
            refine J.x_block ?_
            refine J.n_then ?_
            refine J.seq ?_
            refine J.region ?_
            refine J.op (Yd.assign rfl) rfl ?_
            refine J.nil ?_
            refine J.n_then ?_
            refine J.block ?_
            refine J.loop (ι := Nat) (fun i => [(3, B (lfK (7 * r + i))), (4, I (r : Int)), (19, I i), (1, .pointer (some ⟨b1_0, 0, none⟩)), (2, .pointer (some ⟨b2_1, 0, none⟩))]) (fun i w' => i ≤ 7 ∧ Cel w' b1_0 24 [(0, 25, (ioS (permN a r) r i).map (fun x : UInt64 => W64 x))] ∧ Cel w' b2_1 24 [(0, 25, (List.replicate 25 0).map (fun x : UInt64 => W64 x))] ∧ Ext w w') (fun i => 7 - i) (0) ⟨rfl, rfl, rfl, rfl, rfl, trivial⟩ (⟨by omega, Cel.eq c1_0 (by rw [ioS_zero, show y = 5 by omega, fillU_all _ _ _ (by rw [thL_len]; decide), thL_len]; exact congrArg (fun l => [(0, 25, List.map (fun x : UInt64 => W64 x) l)]) (chi_all (permN a r))), c2_1, e0⟩) ?_
            rintro j w18 ⟨hj, c1_0, c2_1, e0⟩
            have hl7 := ioS_len (permN a r) r j
            refine J.seq ?_
            refine J.seq ?_
            refine J.region ?_
            refine J.op (Yd.move rfl) rfl ?_
            refine J.op (Yd.leq rfl rfl) rfl ?_
            refine J.nil ?_
            refine J.n_then ?_
            refine J.cond_dec rfl (fun hc8 => ?_) (fun hc8 => ?_)
            · skip
              refine J.skip ?_
              refine J.n_then ?_
              refine J.seq ?_
              refine J.block ?_
              refine J.seq ?_
              refine J.seq ?_
              refine J.region ?_
              refine J.op (Yd.move rfl) rfl ?_
              refine J.op (Yd.and_u8 (n := 1) rfl rfl) rfl ?_
              refine J.op (Yd.eql rfl rfl) rfl ?_
              refine J.nil ?_
              refine J.n_then ?_
              refine J.cond_dec rfl (fun hc9 => ?_) (fun hc9 => ?_)
              · skip
                refine J.regionO [(0, true), (2, true), (3, true), (4, true), (5, true), (1, false), (6, true), (7, true), (8, false)] [] [] mix (by kernel_rfl) ?_
                refine J.s_op rfl (fun _ => Yd.idxA Try.underlying24 ti23 rfl rfl (by first | omega | exact idx_u8' _ | (simp only [Int.toNat_natCast]; omega) | (simp only [List.length_map, List.length_drop, List.length_take, List.length_append, List.length_replicate]; omega) | (simp <;> omega))) rfl ?_
                refine J.s_op rfl (fun _ => Yd.move rfl) rfl ?_
                refine J.s_op rfl (fun _ => Yd.shl_u64 (m := 1) rfl rfl (by first | omega | exact idx_u8' _ | (simp only [Int.toNat_natCast]; omega) | (simp only [List.length_map, List.length_drop, List.length_take, List.length_append, List.length_replicate]; omega) | (simp <;> omega))) rfl ?_
                refine J.s_op rfl (fun _ => Yd.sub_u64 (n := 1) rfl rfl) rfl ?_
                refine J.s_op rfl (fun _ => Yd.shl_u64 (m := 1) rfl rfl (by first | omega | exact idx_u8' _ | (simp only [Int.toNat_natCast]; omega) | (simp only [List.length_map, List.length_drop, List.length_take, List.length_append, List.length_replicate]; omega) | (simp <;> omega))) rfl ?_
                refine J.s_one rfl (Yd.load pl23 rfl (Cel.cellM c1_0 0 rfl 0 (by have hl_ := Cel.lenM c1_0 0 rfl; first | omega | (rw [hl_]; exact idx_u8' _) | (simp only [Int.toNat_natCast]; omega) | (simp at hl_ ⊢ <;> omega)))) rfl ?_
                refine J.s_op rfl (fun _ => Yd.xor_u64 rfl rfl) rfl ?_
                refine J.s_op rfl (fun _ => Yd.idxA Try.underlying24 ti23 rfl rfl (by first | omega | exact idx_u8' _ | (simp only [Int.toNat_natCast]; omega) | (simp only [List.length_map, List.length_drop, List.length_take, List.length_append, List.length_replicate]; omega) | (simp <;> omega))) rfl ?_
                refine J.s_eff0 rfl (Ye.storeM ti23 c1_0 0 rfl rfl rfl rfl (by first | omega | exact idx_u8' _ | (simp only [Int.toNat_natCast]; omega) | (simp only [List.length_map, List.length_drop, List.length_take, List.length_append, List.length_replicate]; omega) | (simp <;> omega)) (fun _ => rfl) (fun _ => rfl)) ?_
                rintro _ w19 ⟨cX, hu⟩
                simp only [List.set_cons_zero, List.set_cons_succ] at cX
                have hg := hu.gb
                have c2_1 := Cel.gbk c2_1 hg (Ap.symm ap_b1_0_b2_1)
                have e0 := Ext.gbk e0 fr_b1_0 hg
                clear hg
                replace c1_0 := cX
                clear cX hu
                refine J.s_nil ?_
                refine J.o_nil ?_
                refine J.s_nil ?_
                refine J.n_np ?_
                refine J.n_then ?_
                refine J.seq ?_
                refine J.region ?_
                refine J.op (Yd.move rfl) rfl ?_
                refine J.op (Yd.shr_u8 rfl rfl (by first | omega | exact idx_u8' _ | (simp only [Int.toNat_natCast]; omega) | (simp only [List.length_map, List.length_drop, List.length_take, List.length_append, List.length_replicate]; omega) | (simp <;> omega))) rfl ?_
                refine J.op (Yd.assign rfl) rfl ?_
                refine J.nil ?_
                refine J.n_then ?_
                refine J.seq ?_
                refine J.region ?_
                refine J.op (Yd.move rfl) rfl ?_
                refine J.op (Yd.shl_u8 rfl rfl (by first | omega | exact idx_u8' _ | (simp only [Int.toNat_natCast]; omega) | (simp only [List.length_map, List.length_drop, List.length_take, List.length_append, List.length_replicate]; omega) | (simp <;> omega))) rfl ?_
                refine J.op (Yd.assign rfl) rfl ?_
                refine J.nil ?_
                refine J.n_then ?_
                refine J.seq ?_
                refine J.region ?_
                refine J.op (Yd.move rfl) rfl ?_
                refine J.op (Yd.eql rfl rfl) rfl ?_
                refine J.nil ?_
                refine J.n_then ?_
                refine J.cond_dec rfl (fun hc10 => ?_) (fun hc10 => ?_)
                · skip
                  refine J.region ?_
                  refine J.op (Yd.move rfl) rfl ?_
                  refine J.op (Yd.xor_u8 (n := 113) rfl rfl) rfl ?_
                  refine J.op (Yd.assign rfl) rfl ?_
                  refine J.nil ?_
                  refine J.n_block ?_
                  refine J.n_then ?_
                  refine J.region ?_
                  refine J.op (Yd.move rfl) rfl ?_
                  refine J.op (Yd.add rfl rfl (by first | omega | exact idx_u8' _ | (simp only [Int.toNat_natCast]; omega) | (simp only [List.length_map, List.length_drop, List.length_take, List.length_append, List.length_replicate]; omega) | (simp <;> omega))) rfl ?_
                  refine J.op (Yd.assign rfl) rfl ?_
                  refine J.nil ?_
                  refine J.n_then ?_
                  exact J.round (j + 1) ⟨(by first | exact congrArg (fun z => some (B z)) (lfK_yes (u8_one1 hc10)) | exact congrArg (fun z => some (B z)) (lfK_no (u8_one0 hc10))), rfl, rfl, rfl, rfl, trivial⟩ (⟨by omega, Cel.eq c1_0 (by rw [show (0 : Int).toNat = 0 from rfl, shl1_law (by omega)]; exact congrArg (fun l => [(0, 25, List.map (fun x : UInt64 => W64 x) l)]) (ioS_yes (permN a r) r j (u8_one1 hc9))), c2_1, e0⟩) (by omega)
                · skip
                  refine J.skip ?_
                  refine J.n_block ?_
                  refine J.n_then ?_
                  refine J.region ?_
                  refine J.op (Yd.move rfl) rfl ?_
                  refine J.op (Yd.add rfl rfl (by first | omega | exact idx_u8' _ | (simp only [Int.toNat_natCast]; omega) | (simp only [List.length_map, List.length_drop, List.length_take, List.length_append, List.length_replicate]; omega) | (simp <;> omega))) rfl ?_
                  refine J.op (Yd.assign rfl) rfl ?_
                  refine J.nil ?_
                  refine J.n_then ?_
                  exact J.round (j + 1) ⟨(by first | exact congrArg (fun z => some (B z)) (lfK_yes (u8_one1 hc10)) | exact congrArg (fun z => some (B z)) (lfK_no (u8_one0 hc10))), rfl, rfl, rfl, rfl, trivial⟩ (⟨by omega, Cel.eq c1_0 (by rw [show (0 : Int).toNat = 0 from rfl, shl1_law (by omega)]; exact congrArg (fun l => [(0, 25, List.map (fun x : UInt64 => W64 x) l)]) (ioS_yes (permN a r) r j (u8_one1 hc9))), c2_1, e0⟩) (by omega)
              · skip
                refine J.skip ?_
                refine J.n_then ?_
                refine J.seq ?_
                refine J.region ?_
                refine J.op (Yd.move rfl) rfl ?_
                refine J.op (Yd.shr_u8 rfl rfl (by first | omega | exact idx_u8' _ | (simp only [Int.toNat_natCast]; omega) | (simp only [List.length_map, List.length_drop, List.length_take, List.length_append, List.length_replicate]; omega) | (simp <;> omega))) rfl ?_
                refine J.op (Yd.assign rfl) rfl ?_
                refine J.nil ?_
                refine J.n_then ?_
                refine J.seq ?_
                refine J.region ?_
                refine J.op (Yd.move rfl) rfl ?_
                refine J.op (Yd.shl_u8 rfl rfl (by first | omega | exact idx_u8' _ | (simp only [Int.toNat_natCast]; omega) | (simp only [List.length_map, List.length_drop, List.length_take, List.length_append, List.length_replicate]; omega) | (simp <;> omega))) rfl ?_
                refine J.op (Yd.assign rfl) rfl ?_
                refine J.nil ?_
                refine J.n_then ?_
                refine J.seq ?_
                refine J.region ?_
                refine J.op (Yd.move rfl) rfl ?_
                refine J.op (Yd.eql rfl rfl) rfl ?_
                refine J.nil ?_
                refine J.n_then ?_
                refine J.cond_dec rfl (fun hc10 => ?_) (fun hc10 => ?_)
                · skip
                  refine J.region ?_
                  refine J.op (Yd.move rfl) rfl ?_
                  refine J.op (Yd.xor_u8 (n := 113) rfl rfl) rfl ?_
                  refine J.op (Yd.assign rfl) rfl ?_
                  refine J.nil ?_
                  refine J.n_block ?_
                  refine J.n_then ?_
                  refine J.region ?_
                  refine J.op (Yd.move rfl) rfl ?_
                  refine J.op (Yd.add rfl rfl (by first | omega | exact idx_u8' _ | (simp only [Int.toNat_natCast]; omega) | (simp only [List.length_map, List.length_drop, List.length_take, List.length_append, List.length_replicate]; omega) | (simp <;> omega))) rfl ?_
                  refine J.op (Yd.assign rfl) rfl ?_
                  refine J.nil ?_
                  refine J.n_then ?_
                  exact J.round (j + 1) ⟨(by first | exact congrArg (fun z => some (B z)) (lfK_yes (u8_one1 hc10)) | exact congrArg (fun z => some (B z)) (lfK_no (u8_one0 hc10))), rfl, rfl, rfl, rfl, trivial⟩ (⟨by omega, Cel.eq c1_0 (by exact congrArg (fun l => [(0, 25, List.map (fun x : UInt64 => W64 x) l)]) (ioS_no (permN a r) r j (u8_one0 hc9))), c2_1, e0⟩) (by omega)
                · skip
                  refine J.skip ?_
                  refine J.n_block ?_
                  refine J.n_then ?_
                  refine J.region ?_
                  refine J.op (Yd.move rfl) rfl ?_
                  refine J.op (Yd.add rfl rfl (by first | omega | exact idx_u8' _ | (simp only [Int.toNat_natCast]; omega) | (simp only [List.length_map, List.length_drop, List.length_take, List.length_append, List.length_replicate]; omega) | (simp <;> omega))) rfl ?_
                  refine J.op (Yd.assign rfl) rfl ?_
                  refine J.nil ?_
                  refine J.n_then ?_
                  exact J.round (j + 1) ⟨(by first | exact congrArg (fun z => some (B z)) (lfK_yes (u8_one1 hc10)) | exact congrArg (fun z => some (B z)) (lfK_no (u8_one0 hc10))), rfl, rfl, rfl, rfl, trivial⟩ (⟨by omega, Cel.eq c1_0 (by exact congrArg (fun l => [(0, 25, List.map (fun x : UInt64 => W64 x) l)]) (ioS_no (permN a r) r j (u8_one0 hc9))), c2_1, e0⟩) (by omega)
            · skip
              refine J.exit ?_
              refine J.x_then ?_
              refine J.x_then ?_
              refine J.x_block ?_
              refine J.n_block ?_
              refine J.n_then ?_
              refine J.region ?_
              refine J.op (Yd.move rfl) rfl ?_
              refine J.op (Yd.add rfl rfl (by first | omega | exact idx_u8' _ | (simp only [Int.toNat_natCast]; omega) | (simp only [List.length_map, List.length_drop, List.length_take, List.length_append, List.length_replicate]; omega) | (simp <;> omega))) rfl ?_
              refine J.op (Yd.assign rfl) rfl ?_
              refine J.nil ?_
              refine J.n_then ?_
              exact J.round (r + 1) ⟨(congrArg (fun z => some (B (lfK z))) (show 7 * r + j = 7 * (r + 1) by omega)), rfl, rfl, rfl, trivial⟩ (⟨by omega, Cel.eq c1_0 (by rw [show j = 7 by omega]; exact congrArg (fun l => [(0, 25, List.map (fun x : UInt64 => W64 x) l)]) ((ioS_all (permN a r) (by omega)).trans (permN_succ a r).symm)), c2_1, e0⟩) (by omega)
  · skip
    refine J.exit ?_
    refine J.x_then ?_
    refine J.x_then ?_
    refine J.x_block ?_
    refine J.n_then ?_
    refine J.seq ?_
    refine J.region ?_
    refine J.op (Yd.loadA ag24 ti24 rfl c1_0 0 rfl) rfl ?_
    refine J.eff0 (Ye.storeA (ys := List.map (fun x : UInt64 => W64 x) _) ti24 c2_1 0 rfl rfl rfl rfl (by rw [List.length_map]; exact permN_len a ha _) (one_M _ (fun _ => rfl))) ?_
    rintro _ w20 ⟨cX, hu⟩
    simp only [List.set_cons_zero, List.set_cons_succ] at cX
    have hg := hu.gb
    have c1_0 := Cel.gbk c1_0 hg ap_b1_0_b2_1
    have e0 := Ext.gbk e0 fr_b2_1 hg
    clear hg
    replace c2_1 := cX
    clear cX hu
    refine J.nil ?_
    refine J.n_then ?_
    refine J.ret ?_
    exact J.ret1c rfl rfl ag24 ti24 c2_1 0 rfl (⟨_, rfl, by rw [show r = 24 by omega]; rfl, e0⟩)
end Ytpcbkeikhojmbaa
end Go.Proofs
