import Derived.Test.YtpcbkeikhojmbaaT
import Derived.Test.YtpcbkeikhojmbaaX21
import Derived.Test.YtpcbkeikhojmbaaQb
import Derived.Test.YtpcbkeikhojmbaaF5
set_option linter.unusedVariables false
set_option linter.unusedSimpArgs false
set_option maxRecDepth 100000
set_option maxHeartbeats 4000000
namespace Go.Proofs
open Go.X Go.RowKit
namespace Ytpcbkeikhojmbaa
theorem RotLU_ok {x : UInt64} {m : Nat} {w : World} : C Try.prog 30 [W64 x, I (m : Int)] w (Ret fun v w' => v = W64 (rolU x m) ∧ Ext w w') := by
  have e0 := Ext.refl w
  refine C.enter Try.func30 rfl Try.ntmps30 rfl ?_
  refine J.seq ?_
  refine J.region ?_
  refine J.op (Yd.assign rfl) rfl ?_
  refine J.nil ?_
  refine J.n_then ?_
  refine J.seq ?_
  refine J.region ?_
  refine J.op (Yd.move rfl) rfl ?_
  refine J.op (Yd.cv_i_64 Try.underlying3 Try.underlying52 rfl (by omega)) rfl ?_
  refine J.op (Yd.and_u64 (n := 63) rfl rfl) rfl ?_
  refine J.op (Yd.assign rfl) rfl ?_
  refine J.nil ?_
  refine J.n_then ?_
  refine J.seq ?_
  refine J.region ?_
  refine J.op (Yd.move rfl) rfl ?_
  refine J.op (Yd.move rfl) rfl ?_
  refine J.op (Yd.shl_u64 rfl rfl (by first | omega | exact idx_u8' _ | (simp only [Int.toNat_natCast]; omega) | (simp only [List.length_map, List.length_drop, List.length_take, List.length_append, List.length_replicate]; omega) | (simp <;> omega))) rfl ?_
  refine J.op (Yd.move rfl) rfl ?_
  refine J.op (Yd.move rfl) rfl ?_
  refine J.op (Yd.sub_u64 (m := 64) rfl rfl) rfl ?_
  refine J.op (Yd.shr_u64 rfl rfl (by first | omega | exact idx_u8' _ | (simp only [Int.toNat_natCast]; omega) | (simp only [List.length_map, List.length_drop, List.length_take, List.length_append, List.length_replicate]; omega) | (simp <;> omega))) rfl ?_
  refine J.op (Yd.or_u64 rfl rfl) rfl ?_
  refine J.op (Yd.assign rfl) rfl ?_
  refine J.nil ?_
  refine J.n_then ?_
  refine J.ret ?_
  exact J.ret1 rfl rfl (⟨_, rfl, congrArg (fun x => W64 x) (rolU_law x m), e0⟩)

theorem Theta_ok {a : List UInt64} {w : World} (ha : a.length = 25) : C Try.prog 22 [Ag (fun x : UInt64 => W64 x) a] w (Ret fun v w' => v = Ag (fun x : UInt64 => W64 x) (thL a) ∧ Ext w w') := by
  have e0 := Ext.refl w
  refine C.enter Try.func22 rfl Try.ntmps22 rfl ?_
  refine J.seq ?_
  refine J.region ?_
  refine J.eff (Ye.box rfl (Ag.all _ _ (n := 25) (by first | omega | exact idx_u8' _ | (simp only [Int.toNat_natCast]; omega) | (simp only [List.length_map, List.length_drop, List.length_take, List.length_append, List.length_replicate]; omega) | (simp <;> omega)))) rfl ?_
  rintro _ w1 ⟨b1_0, rfl, hb_, c1_0, x1⟩
  have fr_b1_0 : Fr w.heap.size (some b1_0) := Fr.le (Fr.blk hb_) e0.size
  have e0 := e0.trans x1
  clear x1 hb_
  refine J.eff (Ye.alloc ti45 (S := [(0, 25, (List.replicate 25 0).map (fun x : UInt64 => W64 x))]) (by simp [SegAll, SegOK, Value.cells])) rfl ?_
  rintro _ w2 ⟨b2_1, rfl, hb_, c2_1, x1⟩
  have ap_b1_0_b2_1 : Ap (some b1_0) (some b2_1) := Ap.mk (Cel.live c1_0) (Fr.blk hb_)
  have fr_b2_1 : Fr w.heap.size (some b2_1) := Fr.le (Fr.blk hb_) e0.size
  have e0 := e0.trans x1
  have c1_0 := c1_0.ext x1
  clear x1 hb_
  refine J.nil ?_
  refine J.n_then ?_
  refine J.seq ?_
  refine J.region ?_
  refine J.eff (Ye.alloc ti51 (S := [(0, 5, (List.replicate 5 0).map (fun x : UInt64 => W64 x))]) (by simp [SegAll, SegOK, Value.cells])) rfl ?_
  rintro _ w3 ⟨b3_2, rfl, hb_, c3_2, x1⟩
  have ap_b1_0_b3_2 : Ap (some b1_0) (some b3_2) := Ap.mk (Cel.live c1_0) (Fr.blk hb_)
  have ap_b2_1_b3_2 : Ap (some b2_1) (some b3_2) := Ap.mk (Cel.live c2_1) (Fr.blk hb_)
  have fr_b3_2 : Fr w.heap.size (some b3_2) := Fr.le (Fr.blk hb_) e0.size
  have e0 := e0.trans x1
  have c1_0 := c1_0.ext x1
  have c2_1 := c2_1.ext x1
  clear x1 hb_
  refine J.nil ?_
  refine J.n_then ?_
  refine J.seq ?_
  refine J.seq ?_
  refine J.region ?_
  refine J.op (Yd.loadA ag45 ti45 rfl c1_0 0 rfl) rfl ?_
  refine J.op (Yd.move rfl) rfl ?_
  refine J.nil ?_
  refine J.n_then ?_
  refine J.block ?_
  refine J.loop (ι := Nat) (fun i => [(8, Ag (fun x : UInt64 => W64 x) a), (9, I i), (1, .pointer (some ⟨b1_0, 0, none⟩)), (2, .pointer (some ⟨b2_1, 0, none⟩)), (3, .pointer (some ⟨b3_2, 0, none⟩))]) (fun i w' => i ≤ 25 ∧ Cel w' b1_0 45 [(0, 25, (a).map (fun x : UInt64 => W64 x))] ∧ Cel w' b2_1 45 [(0, 25, (List.replicate 25 0).map (fun x : UInt64 => W64 x))] ∧ Cel w' b3_2 51 [(0, 5, (cN a i).map (fun x : UInt64 => W64 x))] ∧ Ext w w') (fun i => 25 - i) (0) ⟨rfl, rfl, rfl, rfl, rfl, trivial⟩ (⟨by omega, c1_0, c2_1, Cel.eq c3_2 (by rfl), e0⟩) ?_
  rintro k w4 ⟨hk, c1_0, c2_1, c3_2, e0⟩
  have hcl := cN_len a k
  refine J.seq ?_
  refine J.region ?_
  refine J.op (Yd.lss rfl rfl) rfl ?_
  refine J.nil ?_
  refine J.n_then ?_
  refine J.seq ?_
  refine J.cond_dec rfl (fun hc0 => ?_) (fun hc0 => ?_)
  · skip
    refine J.skip ?_
    refine J.n_then ?_
    refine J.seq ?_
    refine J.block ?_
    refine J.seq ?_
    refine J.region ?_
    refine J.op (Yd.move rfl) rfl ?_
    refine J.op (Yd.idxV Try.underlying45 pl23 ti23 rfl rfl (by first | omega | exact idx_u8' _ | (simp only [Int.toNat_natCast]; omega) | (simp only [List.length_map, List.length_drop, List.length_take, List.length_append, List.length_replicate]; omega) | (simp <;> omega)) (Ag.get (fun x : UInt64 => W64 x) _ 0 (by first | omega | exact idx_u8' _ | (simp only [Int.toNat_natCast]; omega) | (simp only [List.length_map, List.length_drop, List.length_take, List.length_append, List.length_replicate]; omega) | (simp <;> omega)))) rfl ?_
    refine J.op (Yd.assign rfl) rfl ?_
    refine J.op (Yd.assign rfl) rfl ?_
    refine J.nil ?_
    refine J.n_then ?_
    refine J.region ?_
    refine J.op (Yd.move rfl) rfl ?_
    refine J.op (Yd.rem rfl rfl (by first | omega | exact idx_u8' _ | (simp only [Int.toNat_natCast]; omega) | (simp only [List.length_map, List.length_drop, List.length_take, List.length_append, List.length_replicate]; omega) | (simp <;> omega)) (by first | omega | exact idx_u8' _ | (simp only [Int.toNat_natCast]; omega) | (simp only [List.length_map, List.length_drop, List.length_take, List.length_append, List.length_replicate]; omega) | (simp <;> omega))) rfl ?_
    refine J.op (Yd.idxA Try.underlying51 ti23 rfl rfl (by first | omega | exact idx_u8' _ | (simp only [Int.toNat_natCast]; omega) | (simp only [List.length_map, List.length_drop, List.length_take, List.length_append, List.length_replicate]; omega) | (simp <;> omega))) rfl ?_
    refine J.op (Yd.load pl23 rfl (Cel.cellM c3_2 0 rfl 0 (by have hl_ := Cel.lenM c3_2 0 rfl; first | omega | (rw [hl_]; exact idx_u8' _) | (simp only [Int.toNat_natCast]; omega) | (simp at hl_ ⊢ <;> omega)))) rfl ?_
    refine J.op (Yd.move rfl) rfl ?_
    refine J.op (Yd.xor_u64 rfl rfl) rfl ?_
    refine J.op (Yd.idxA Try.underlying51 ti23 rfl rfl (by first | omega | exact idx_u8' _ | (simp only [Int.toNat_natCast]; omega) | (simp only [List.length_map, List.length_drop, List.length_take, List.length_append, List.length_replicate]; omega) | (simp <;> omega))) rfl ?_
    refine J.eff0 (Ye.storeM ti23 c3_2 0 rfl rfl rfl rfl (by first | omega | exact idx_u8' _ | (simp only [Int.toNat_natCast]; omega) | (simp only [List.length_map, List.length_drop, List.length_take, List.length_append, List.length_replicate]; omega) | (simp <;> omega)) (fun _ => rfl) (fun _ => rfl)) ?_
    rintro _ w5 ⟨cX, hu⟩
    simp only [List.set_cons_zero, List.set_cons_succ] at cX
    have hg := hu.gb
    have c1_0 := Cel.gbk c1_0 hg ap_b1_0_b3_2
    have c2_1 := Cel.gbk c2_1 hg ap_b2_1_b3_2
    have e0 := Ext.gbk e0 fr_b3_2 hg
    clear hg
    replace c3_2 := cX
    clear cX hu
    refine J.nil ?_
    refine J.n_block ?_
    refine J.n_then ?_
    refine J.region ?_
    refine J.op (Yd.add rfl rfl (by first | omega | exact idx_u8' _ | (simp only [Int.toNat_natCast]; omega) | (simp only [List.length_map, List.length_drop, List.length_take, List.length_append, List.length_replicate]; omega) | (simp <;> omega))) rfl ?_
    refine J.op (Yd.move rfl) rfl ?_
    refine J.nil ?_
    refine J.n_then ?_
    exact J.round (k + 1) ⟨rfl, rfl, rfl, rfl, rfl, trivial⟩ (⟨by omega, c1_0, c2_1, Cel.eq c3_2 (by rw [show ((k : Int) % 5).toNat = k % 5 by omega, Int.toNat_natCast]; exact congrArg (fun l => [(0, 5, List.map (fun x : UInt64 => W64 x) l)]) (cN_set a k)), e0⟩) (by omega)
  · skip
    refine J.exit ?_
    refine J.x_then ?_
    refine J.x_then ?_
    refine J.x_block ?_
    refine J.n_then ?_
    refine J.seq ?_
    refine J.seq ?_
    refine J.region ?_
    refine J.op (Yd.move rfl) rfl ?_
    refine J.nil ?_
    refine J.n_then ?_
    refine J.block ?_
    refine J.loop (ι := Nat) (fun i => [(21, I i), (1, .pointer (some ⟨b1_0, 0, none⟩)), (2, .pointer (some ⟨b2_1, 0, none⟩)), (3, .pointer (some ⟨b3_2, 0, none⟩))]) (fun i w' => i ≤ 25 ∧ Cel w' b1_0 45 [(0, 25, (fillU (thF a) a i).map (fun x : UInt64 => W64 x))] ∧ Cel w' b2_1 45 [(0, 25, (List.replicate 25 0).map (fun x : UInt64 => W64 x))] ∧ Cel w' b3_2 51 [(0, 5, (cAll a).map (fun x : UInt64 => W64 x))] ∧ Ext w w') (fun i => 25 - i) (0) ⟨rfl, rfl, rfl, rfl, trivial⟩ (⟨by omega, Cel.eq c1_0 (by rw [fillU_zero]), c2_1, Cel.eq c3_2 (by rw [show k = 25 by omega, cN_all]), e0⟩) ?_
    rintro k w6 ⟨hk, c1_0, c2_1, c3_2, e0⟩
    have hfl := fillU_len (thF a) a k
    have hcl := cAll_len a
    refine J.seq ?_
    refine J.region ?_
    refine J.op (Yd.lss rfl rfl) rfl ?_
    refine J.nil ?_
    refine J.n_then ?_
    refine J.seq ?_
    refine J.cond_dec rfl (fun hc1 => ?_) (fun hc1 => ?_)
    · skip
      refine J.skip ?_
      refine J.n_then ?_
      refine J.seq ?_
      refine J.block ?_
      refine J.seq ?_
      refine J.region ?_
      refine J.op (Yd.move rfl) rfl ?_
      refine J.op (Yd.assign rfl) rfl ?_
      refine J.nil ?_
      refine J.n_then ?_
      refine J.seq ?_
      refine J.region ?_
      refine J.op (Yd.move rfl) rfl ?_
      refine J.op (Yd.rem rfl rfl (by first | omega | exact idx_u8' _ | (simp only [Int.toNat_natCast]; omega) | (simp only [List.length_map, List.length_drop, List.length_take, List.length_append, List.length_replicate]; omega) | (simp <;> omega)) (by first | omega | exact idx_u8' _ | (simp only [Int.toNat_natCast]; omega) | (simp only [List.length_map, List.length_drop, List.length_take, List.length_append, List.length_replicate]; omega) | (simp <;> omega))) rfl ?_
      refine J.op (Yd.assign rfl) rfl ?_
      refine J.nil ?_
      refine J.n_then ?_
      refine J.regionO [(0, true), (1, true), (3, true), (4, true), (5, true), (6, true), (7, true), (9, true), (10, true), (11, true), (12, true)] [(2, 1), (8, 1), (13, 1), (14, 0), (15, 1)] [(16, true), (17, true), (18, false)] mix (by kernel_rfl) ?_
      refine J.s_op rfl (fun _ => Yd.move rfl) rfl ?_
      refine J.s_op rfl (fun _ => Yd.idxA Try.underlying45 ti23 rfl rfl (by first | omega | exact idx_u8' _ | (simp only [Int.toNat_natCast]; omega) | (simp only [List.length_map, List.length_drop, List.length_take, List.length_append, List.length_replicate]; omega) | (simp <;> omega))) rfl ?_
      refine J.s_op rfl (fun _ => Yd.move rfl) rfl ?_
      refine J.s_op rfl (fun _ => Yd.add rfl rfl (by first | omega | exact idx_u8' _ | (simp only [Int.toNat_natCast]; omega) | (simp only [List.length_map, List.length_drop, List.length_take, List.length_append, List.length_replicate]; omega) | (simp <;> omega))) rfl ?_
      refine J.s_op rfl (fun _ => Yd.sub rfl rfl (by first | omega | exact idx_u8' _ | (simp only [Int.toNat_natCast]; omega) | (simp only [List.length_map, List.length_drop, List.length_take, List.length_append, List.length_replicate]; omega) | (simp <;> omega))) rfl ?_
      refine J.s_op rfl (fun _ => Yd.rem rfl rfl (by first | omega | exact idx_u8' _ | (simp only [Int.toNat_natCast]; omega) | (simp only [List.length_map, List.length_drop, List.length_take, List.length_append, List.length_replicate]; omega) | (simp <;> omega)) (by first | omega | exact idx_u8' _ | (simp only [Int.toNat_natCast]; omega) | (simp only [List.length_map, List.length_drop, List.length_take, List.length_append, List.length_replicate]; omega) | (simp <;> omega))) rfl ?_
      refine J.s_op rfl (fun _ => Yd.idxA Try.underlying51 ti23 rfl rfl (by first | omega | exact idx_u8' _ | (simp only [Int.toNat_natCast]; omega) | (simp only [List.length_map, List.length_drop, List.length_take, List.length_append, List.length_replicate]; omega) | (simp <;> omega))) rfl ?_
      refine J.s_op rfl (fun _ => Yd.move rfl) rfl ?_
      refine J.s_op rfl (fun _ => Yd.add rfl rfl (by first | omega | exact idx_u8' _ | (simp only [Int.toNat_natCast]; omega) | (simp only [List.length_map, List.length_drop, List.length_take, List.length_append, List.length_replicate]; omega) | (simp <;> omega))) rfl ?_
      refine J.s_op rfl (fun _ => Yd.rem rfl rfl (by first | omega | exact idx_u8' _ | (simp only [Int.toNat_natCast]; omega) | (simp only [List.length_map, List.length_drop, List.length_take, List.length_append, List.length_replicate]; omega) | (simp <;> omega)) (by first | omega | exact idx_u8' _ | (simp only [Int.toNat_natCast]; omega) | (simp only [List.length_map, List.length_drop, List.length_take, List.length_append, List.length_replicate]; omega) | (simp <;> omega))) rfl ?_
      refine J.s_op rfl (fun _ => Yd.idxA Try.underlying51 ti23 rfl rfl (by first | omega | exact idx_u8' _ | (simp only [Int.toNat_natCast]; omega) | (simp only [List.length_map, List.length_drop, List.length_take, List.length_append, List.length_replicate]; omega) | (simp <;> omega))) rfl ?_
      refine J.s_nil ?_
      refine J.o_op rfl (Yd.load pl23 rfl (Cel.cellM c1_0 0 rfl 0 (by have hl_ := Cel.lenM c1_0 0 rfl; first | omega | (rw [hl_]; exact idx_u8' _) | (simp only [Int.toNat_natCast]; omega) | (simp at hl_ ⊢ <;> omega)))) rfl ?_
      refine J.o_op rfl (Yd.load pl23 rfl (Cel.cellM c3_2 0 rfl 0 (by have hl_ := Cel.lenM c3_2 0 rfl; first | omega | (rw [hl_]; exact idx_u8' _) | (simp only [Int.toNat_natCast]; omega) | (simp at hl_ ⊢ <;> omega)))) rfl ?_
      refine J.o_op rfl (Yd.load pl23 rfl (Cel.cellM c3_2 0 rfl 0 (by have hl_ := Cel.lenM c3_2 0 rfl; first | omega | (rw [hl_]; exact idx_u8' _) | (simp only [Int.toNat_natCast]; omega) | (simp at hl_ ⊢ <;> omega)))) rfl ?_
      refine J.o_eff rfl (Ye.call cl30 rfl (RotLU_ok (m := 1))) rfl (fun _ _ h => h.2) ?_
      rintro _ w7 ⟨rfl, x1⟩
      have e0 := e0.trans x1
      have c1_0 := c1_0.ext x1
      have c2_1 := c2_1.ext x1
      have c3_2 := c3_2.ext x1
      clear x1
      refine J.o_op rfl (Yd.xor_u64 rfl rfl) rfl ?_
      refine J.o_nil ?_
      refine J.s_op rfl (fun _ => Yd.xor_u64 rfl rfl) rfl ?_
      refine J.s_op rfl (fun _ => Yd.idxA Try.underlying45 ti23 rfl rfl (by first | omega | exact idx_u8' _ | (simp only [Int.toNat_natCast]; omega) | (simp only [List.length_map, List.length_drop, List.length_take, List.length_append, List.length_replicate]; omega) | (simp <;> omega))) rfl ?_
      refine J.s_eff0 rfl (Ye.storeM ti23 c1_0 0 rfl rfl rfl rfl (by first | omega | exact idx_u8' _ | (simp only [Int.toNat_natCast]; omega) | (simp only [List.length_map, List.length_drop, List.length_take, List.length_append, List.length_replicate]; omega) | (simp <;> omega)) (fun _ => rfl) (fun _ => rfl)) ?_
      rintro _ w8 ⟨cX, hu⟩
      simp only [List.set_cons_zero, List.set_cons_succ] at cX
      have hg := hu.gb
      have c2_1 := Cel.gbk c2_1 hg (Ap.symm ap_b1_0_b2_1)
      have c3_2 := Cel.gbk c3_2 hg (Ap.symm ap_b1_0_b3_2)
      have e0 := Ext.gbk e0 fr_b1_0 hg
      clear hg
      replace c1_0 := cX
      clear cX hu
      refine J.s_nil ?_
      refine J.n_np ?_
      refine J.n_block ?_
      refine J.n_then ?_
      refine J.region ?_
      refine J.op (Yd.add rfl rfl (by first | omega | exact idx_u8' _ | (simp only [Int.toNat_natCast]; omega) | (simp only [List.length_map, List.length_drop, List.length_take, List.length_append, List.length_replicate]; omega) | (simp <;> omega))) rfl ?_
      refine J.op (Yd.move rfl) rfl ?_
      refine J.nil ?_
      refine J.n_then ?_
      exact J.round (k + 1) ⟨rfl, rfl, rfl, rfl, trivial⟩ (⟨by omega, Cel.eq c1_0 (by rw [Int.toNat_natCast, fillU_get _ _ _ _ _ (Nat.le_refl _), show (((k : Int) % 5 + 5 - 1) % 5).toNat = (k % 5 + 4) % 5 by omega, show (((k : Int) % 5 + 1) % 5).toNat = (k % 5 + 1) % 5 by omega, cAll_get _ (Nat.mod_lt _ (by decide)), cAll_get _ (Nat.mod_lt _ (by decide))]; exact congrArg (fun l => [(0, 25, List.map (fun x : UInt64 => W64 x) l)]) (fillU_set (thF a) _ k)), c2_1, c3_2, e0⟩) (by omega)
    · skip
      refine J.exit ?_
      refine J.x_then ?_
      refine J.x_then ?_
      refine J.x_block ?_
      refine J.n_then ?_
      refine J.seq ?_
      refine J.region ?_
      refine J.op (Yd.loadA ag45 ti45 rfl c1_0 0 rfl) rfl ?_
      refine J.eff0 (Ye.storeA (ys := List.map (fun x : UInt64 => W64 x) _) ti45 c2_1 0 rfl rfl rfl rfl (by first | (rw [List.length_map]; omega) | (simp; done) | rfl | (simp <;> omega)) (one_M _ (fun _ => rfl))) ?_
      rintro _ w9 ⟨cX, hu⟩
      simp only [List.set_cons_zero, List.set_cons_succ] at cX
      have hg := hu.gb
      have c1_0 := Cel.gbk c1_0 hg ap_b1_0_b2_1
      have c3_2 := Cel.gbk c3_2 hg (Ap.symm ap_b2_1_b3_2)
      have e0 := Ext.gbk e0 fr_b2_1 hg
      clear hg
      replace c2_1 := cX
      clear cX hu
      refine J.nil ?_
      refine J.n_then ?_
      refine J.ret ?_
      exact J.ret1c rfl rfl ag45 ti45 c2_1 0 rfl (⟨_, rfl, by rw [show k = 25 by omega, fillU_all _ _ _ (by omega), ha]; rfl, e0⟩)

theorem Rho_ok {a : List UInt64} {w : World} (ha : a.length = 25) : C Try.prog 23 [Ag (fun x : UInt64 => W64 x) a] w (Ret fun v w' => v = Ag (fun x : UInt64 => W64 x) (rhL a) ∧ Ext w w') := by
  have e0 := Ext.refl w
  refine C.enter Try.func23 rfl Try.ntmps23 rfl ?_
  refine J.seq ?_
  refine J.region ?_
  refine J.eff (Ye.box rfl (Ag.all _ _ (n := 25) (by first | omega | exact idx_u8' _ | (simp only [Int.toNat_natCast]; omega) | (simp only [List.length_map, List.length_drop, List.length_take, List.length_append, List.length_replicate]; omega) | (simp <;> omega)))) rfl ?_
  rintro _ w1 ⟨b1_0, rfl, hb_, c1_0, x1⟩
  have fr_b1_0 : Fr w.heap.size (some b1_0) := Fr.le (Fr.blk hb_) e0.size
  have e0 := e0.trans x1
  clear x1 hb_
  refine J.eff (Ye.alloc ti45 (S := [(0, 25, (List.replicate 25 0).map (fun x : UInt64 => W64 x))]) (by simp [SegAll, SegOK, Value.cells])) rfl ?_
  rintro _ w2 ⟨b2_1, rfl, hb_, c2_1, x1⟩
  have ap_b1_0_b2_1 : Ap (some b1_0) (some b2_1) := Ap.mk (Cel.live c1_0) (Fr.blk hb_)
  have fr_b2_1 : Fr w.heap.size (some b2_1) := Fr.le (Fr.blk hb_) e0.size
  have e0 := e0.trans x1
  have c1_0 := c1_0.ext x1
  clear x1 hb_
  refine J.nil ?_
  refine J.n_then ?_
  refine J.seq ?_
  refine J.region ?_
  refine J.op (Yd.loadA ag45 ti45 rfl c1_0 0 rfl) rfl ?_
  refine J.eff (Ye.alloc ti45 (S := [(0, 25, (List.replicate 25 0).map (fun x : UInt64 => W64 x))]) (by simp [SegAll, SegOK, Value.cells])) rfl ?_
  rintro _ w3 ⟨b3_2, rfl, hb_, c3_2, x1⟩
  have ap_b1_0_b3_2 : Ap (some b1_0) (some b3_2) := Ap.mk (Cel.live c1_0) (Fr.blk hb_)
  have ap_b2_1_b3_2 : Ap (some b2_1) (some b3_2) := Ap.mk (Cel.live c2_1) (Fr.blk hb_)
  have fr_b3_2 : Fr w.heap.size (some b3_2) := Fr.le (Fr.blk hb_) e0.size
  have e0 := e0.trans x1
  have c1_0 := c1_0.ext x1
  have c2_1 := c2_1.ext x1
  clear x1 hb_
  refine J.eff0 (Ye.storeA (ys := List.map (fun x : UInt64 => W64 x) _) ti45 c3_2 0 rfl rfl rfl rfl (by first | (rw [List.length_map]; omega) | (simp; done) | rfl | (simp <;> omega)) (one_M _ (fun _ => rfl))) ?_
  rintro _ w4 ⟨cX, hu⟩
  simp only [List.set_cons_zero, List.set_cons_succ] at cX
  have hg := hu.gb
  have c1_0 := Cel.gbk c1_0 hg ap_b1_0_b3_2
  have c2_1 := Cel.gbk c2_1 hg ap_b2_1_b3_2
  have e0 := Ext.gbk e0 fr_b3_2 hg
  clear hg
  replace c3_2 := cX
  clear cX hu
  refine J.nil ?_
  refine J.n_then ?_
  refine J.seq ?_
  refine J.region ?_
  refine J.op (Yd.assign rfl) rfl ?_
  refine J.op (Yd.assign rfl) rfl ?_
  refine J.nil ?_
  refine J.n_then ?_
  refine J.seq ?_
  refine J.seq ?_
  refine J.region ?_
  refine J.op (Yd.move rfl) rfl ?_
  refine J.nil ?_
  refine J.n_then ?_
  refine J.block ?_
  refine J.loop (ι := Nat) (fun i => [(4, I (xK i : Int)), (5, I (yK i : Int)), (9, I i), (1, .pointer (some ⟨b1_0, 0, none⟩)), (2, .pointer (some ⟨b2_1, 0, none⟩)), (3, .pointer (some ⟨b3_2, 0, none⟩))]) (fun i w' => i ≤ 24 ∧ Cel w' b1_0 45 [(0, 25, (a).map (fun x : UInt64 => W64 x))] ∧ Cel w' b2_1 45 [(0, 25, (List.replicate 25 0).map (fun x : UInt64 => W64 x))] ∧ Cel w' b3_2 45 [(0, 25, (rhN a a i).map (fun x : UInt64 => W64 x))] ∧ Ext w w') (fun i => 24 - i) (0) ⟨rfl, rfl, rfl, rfl, rfl, rfl, trivial⟩ (⟨by omega, c1_0, c2_1, Cel.eq c3_2 (by rfl), e0⟩) ?_
  rintro k w5 ⟨hk, c1_0, c2_1, c3_2, e0⟩
  have hx := xK_lt (t := k) (by omega)
  have hy := yK_lt (t := k) (by omega)
  have hrl := rhN_len a a k
  have hm0 := Int.mul_nonneg (show 0 ≤ (k : Int) + 1 by omega) (show 0 ≤ (k : Int) + 2 by omega)
  have hm1 := Int.mul_le_mul (show (k : Int) + 1 ≤ 25 by omega) (show (k : Int) + 2 ≤ 26 by omega) (by omega) (by omega)
  refine J.seq ?_
  refine J.region ?_
  refine J.op (Yd.lss rfl rfl) rfl ?_
  refine J.nil ?_
  refine J.n_then ?_
  refine J.seq ?_
  refine J.cond_dec rfl (fun hc0 => ?_) (fun hc0 => ?_)
  · skip
    refine J.skip ?_
    refine J.n_then ?_
    refine J.seq ?_
    refine J.block ?_
    refine J.seq ?_
    refine J.region ?_
    refine J.op (Yd.move rfl) rfl ?_
    refine J.op (Yd.assign rfl) rfl ?_
    refine J.nil ?_
    refine J.n_then ?_
    refine J.seq ?_
    refine J.region ?_
    refine J.op (Yd.move rfl) rfl ?_
    refine J.op (Yd.move rfl) rfl ?_
    refine J.op (Yd.mul rfl rfl (by first | omega | exact idx_u8' _ | (simp only [Int.toNat_natCast]; omega) | (simp only [List.length_map, List.length_drop, List.length_take, List.length_append, List.length_replicate]; omega) | (simp <;> omega))) rfl ?_
    refine J.op (Yd.add rfl rfl (by first | omega | exact idx_u8' _ | (simp only [Int.toNat_natCast]; omega) | (simp only [List.length_map, List.length_drop, List.length_take, List.length_append, List.length_replicate]; omega) | (simp <;> omega))) rfl ?_
    refine J.op (Yd.idxA Try.underlying45 ti23 rfl rfl (by first | omega | exact idx_u8' _ | (simp only [Int.toNat_natCast]; omega) | (simp only [List.length_map, List.length_drop, List.length_take, List.length_append, List.length_replicate]; omega) | (simp <;> omega))) rfl ?_
    refine J.op (Yd.load pl23 rfl (Cel.cellM c1_0 0 rfl 0 (by have hl_ := Cel.lenM c1_0 0 rfl; first | omega | (rw [hl_]; exact idx_u8' _) | (simp only [Int.toNat_natCast]; omega) | (simp at hl_ ⊢ <;> omega)))) rfl ?_
    refine J.op (Yd.move rfl) rfl ?_
    refine J.op (Yd.add rfl rfl (by first | omega | exact idx_u8' _ | (simp only [Int.toNat_natCast]; omega) | (simp only [List.length_map, List.length_drop, List.length_take, List.length_append, List.length_replicate]; omega) | (simp <;> omega))) rfl ?_
    refine J.op (Yd.move rfl) rfl ?_
    refine J.op (Yd.add rfl rfl (by first | omega | exact idx_u8' _ | (simp only [Int.toNat_natCast]; omega) | (simp only [List.length_map, List.length_drop, List.length_take, List.length_append, List.length_replicate]; omega) | (simp <;> omega))) rfl ?_
    refine J.op (Yd.mul rfl rfl (by omega)) rfl ?_
    refine J.op (Yd.cast (Yd.quo rfl rfl (by omega) (by omega) (by omega)) (congrArg (fun x => I x) (show ((k : Int) + 1) * ((k : Int) + 2) / 2 = (((k + 1) * (k + 2) / 2 : Nat) : Int) from by rw [Int.natCast_ediv, Int.natCast_mul]; rfl))) rfl ?_
    refine J.eff (Ye.call cl30 rfl (RotLU_ok (m := (k + 1) * (k + 2) / 2))) rfl ?_
    rintro _ w6 ⟨rfl, x1⟩
    have e0 := e0.trans x1
    have c1_0 := c1_0.ext x1
    have c2_1 := c2_1.ext x1
    have c3_2 := c3_2.ext x1
    clear x1
    refine J.op (Yd.assign rfl) rfl ?_
    refine J.nil ?_
    refine J.n_then ?_
    refine J.seq ?_
    refine J.region ?_
    refine J.op (Yd.move rfl) rfl ?_
    refine J.op (Yd.move rfl) rfl ?_
    refine J.op (Yd.mul rfl rfl (by first | omega | exact idx_u8' _ | (simp only [Int.toNat_natCast]; omega) | (simp only [List.length_map, List.length_drop, List.length_take, List.length_append, List.length_replicate]; omega) | (simp <;> omega))) rfl ?_
    refine J.op (Yd.move rfl) rfl ?_
    refine J.op (Yd.mul rfl rfl (by first | omega | exact idx_u8' _ | (simp only [Int.toNat_natCast]; omega) | (simp only [List.length_map, List.length_drop, List.length_take, List.length_append, List.length_replicate]; omega) | (simp <;> omega))) rfl ?_
    refine J.op (Yd.add rfl rfl (by first | omega | exact idx_u8' _ | (simp only [Int.toNat_natCast]; omega) | (simp only [List.length_map, List.length_drop, List.length_take, List.length_append, List.length_replicate]; omega) | (simp <;> omega))) rfl ?_
    refine J.op (Yd.rem rfl rfl (by first | omega | exact idx_u8' _ | (simp only [Int.toNat_natCast]; omega) | (simp only [List.length_map, List.length_drop, List.length_take, List.length_append, List.length_replicate]; omega) | (simp <;> omega)) (by first | omega | exact idx_u8' _ | (simp only [Int.toNat_natCast]; omega) | (simp only [List.length_map, List.length_drop, List.length_take, List.length_append, List.length_replicate]; omega) | (simp <;> omega))) rfl ?_
    refine J.op (Yd.assign rfl) rfl ?_
    refine J.op (Yd.assign rfl) rfl ?_
    refine J.nil ?_
    refine J.n_then ?_
    refine J.region ?_
    refine J.op (Yd.move rfl) rfl ?_
    refine J.op (Yd.move rfl) rfl ?_
    refine J.op (Yd.mul rfl rfl (by first | omega | exact idx_u8' _ | (simp only [Int.toNat_natCast]; omega) | (simp only [List.length_map, List.length_drop, List.length_take, List.length_append, List.length_replicate]; omega) | (simp <;> omega))) rfl ?_
    refine J.op (Yd.add rfl rfl (by first | omega | exact idx_u8' _ | (simp only [Int.toNat_natCast]; omega) | (simp only [List.length_map, List.length_drop, List.length_take, List.length_append, List.length_replicate]; omega) | (simp <;> omega))) rfl ?_
    refine J.op (Yd.move rfl) rfl ?_
    refine J.op (Yd.idxA Try.underlying45 ti23 rfl rfl (by first | omega | exact idx_u8' _ | (simp only [Int.toNat_natCast]; omega) | (simp only [List.length_map, List.length_drop, List.length_take, List.length_append, List.length_replicate]; omega) | (simp <;> omega))) rfl ?_
    refine J.eff0 (Ye.storeM ti23 c3_2 0 rfl rfl rfl rfl (by first | omega | exact idx_u8' _ | (simp only [Int.toNat_natCast]; omega) | (simp only [List.length_map, List.length_drop, List.length_take, List.length_append, List.length_replicate]; omega) | (simp <;> omega)) (fun _ => rfl) (fun _ => rfl)) ?_
    rintro _ w7 ⟨cX, hu⟩
    simp only [List.set_cons_zero, List.set_cons_succ] at cX
    have hg := hu.gb
    have c1_0 := Cel.gbk c1_0 hg ap_b1_0_b3_2
    have c2_1 := Cel.gbk c2_1 hg ap_b2_1_b3_2
    have e0 := Ext.gbk e0 fr_b3_2 hg
    clear hg
    replace c3_2 := cX
    clear cX hu
    refine J.nil ?_
    refine J.n_block ?_
    refine J.n_then ?_
    refine J.region ?_
    refine J.op (Yd.add rfl rfl (by first | omega | exact idx_u8' _ | (simp only [Int.toNat_natCast]; omega) | (simp only [List.length_map, List.length_drop, List.length_take, List.length_append, List.length_replicate]; omega) | (simp <;> omega))) rfl ?_
    refine J.op (Yd.move rfl) rfl ?_
    refine J.nil ?_
    refine J.n_then ?_
    exact J.round (k + 1) ⟨(someI (by rw [xK_next (by omega)])), (someI (by rw [yK_next (by omega)]; omega)), rfl, rfl, rfl, rfl, trivial⟩ (⟨by omega, c1_0, c2_1, Cel.eq c3_2 (by rw [show ((yK k : Int) + 5 * ((2 * (xK k : Int) + 3 * (yK k : Int)) % 5)).toNat = posK (k + 1) by unfold posK; rw [xK_next (by omega), yK_next (by omega)]; exact rho_ix _ _, show ((xK k : Int) + 5 * (yK k : Int)).toNat = posK k by unfold posK; omega]; rfl), e0⟩) (by omega)
  · skip
    refine J.exit ?_
    refine J.x_then ?_
    refine J.x_then ?_
    refine J.x_block ?_
    refine J.n_then ?_
    refine J.seq ?_
    refine J.region ?_
    refine J.op (Yd.loadA ag45 ti45 rfl c3_2 0 rfl) rfl ?_
    refine J.eff0 (Ye.storeA (ys := List.map (fun x : UInt64 => W64 x) _) ti45 c2_1 0 rfl rfl rfl rfl (by first | (rw [List.length_map]; omega) | (simp; done) | rfl | (simp <;> omega)) (one_M _ (fun _ => rfl))) ?_
    rintro _ w8 ⟨cX, hu⟩
    simp only [List.set_cons_zero, List.set_cons_succ] at cX
    have hg := hu.gb
    have c1_0 := Cel.gbk c1_0 hg ap_b1_0_b2_1
    have c3_2 := Cel.gbk c3_2 hg (Ap.symm ap_b2_1_b3_2)
    have e0 := Ext.gbk e0 fr_b2_1 hg
    clear hg
    replace c2_1 := cX
    clear cX hu
    refine J.nil ?_
    refine J.n_then ?_
    refine J.ret ?_
    exact J.ret1c rfl rfl ag45 ti45 c2_1 0 rfl (⟨_, rfl, by rw [show k = 24 by omega]; rfl, e0⟩)

theorem Chi_ok {a : List UInt64} {w : World} (ha : a.length = 25) : C Try.prog 24 [Ag (fun x : UInt64 => W64 x) a] w (Ret fun v w' => v = Ag (fun x : UInt64 => W64 x) (chL a) ∧ Ext w w') := by
  have e0 := Ext.refl w
  refine C.enter Try.func24 rfl Try.ntmps24 rfl ?_
  refine J.seq ?_
  refine J.region ?_
  refine J.eff (Ye.box rfl (Ag.all _ _ (n := 25) (by first | omega | exact idx_u8' _ | (simp only [Int.toNat_natCast]; omega) | (simp only [List.length_map, List.length_drop, List.length_take, List.length_append, List.length_replicate]; omega) | (simp <;> omega)))) rfl ?_
  rintro _ w1 ⟨b1_0, rfl, hb_, c1_0, x1⟩
  have fr_b1_0 : Fr w.heap.size (some b1_0) := Fr.le (Fr.blk hb_) e0.size
  have e0 := e0.trans x1
  clear x1 hb_
  refine J.eff (Ye.alloc ti45 (S := [(0, 25, (List.replicate 25 0).map (fun x : UInt64 => W64 x))]) (by simp [SegAll, SegOK, Value.cells])) rfl ?_
  rintro _ w2 ⟨b2_1, rfl, hb_, c2_1, x1⟩
  have ap_b1_0_b2_1 : Ap (some b1_0) (some b2_1) := Ap.mk (Cel.live c1_0) (Fr.blk hb_)
  have fr_b2_1 : Fr w.heap.size (some b2_1) := Fr.le (Fr.blk hb_) e0.size
  have e0 := e0.trans x1
  have c1_0 := c1_0.ext x1
  clear x1 hb_
  refine J.nil ?_
  refine J.n_then ?_
  refine J.seq ?_
  refine J.region ?_
  refine J.op (Yd.loadA ag45 ti45 rfl c1_0 0 rfl) rfl ?_
  refine J.eff (Ye.alloc ti45 (S := [(0, 25, (List.replicate 25 0).map (fun x : UInt64 => W64 x))]) (by simp [SegAll, SegOK, Value.cells])) rfl ?_
  rintro _ w3 ⟨b3_2, rfl, hb_, c3_2, x1⟩
  have ap_b1_0_b3_2 : Ap (some b1_0) (some b3_2) := Ap.mk (Cel.live c1_0) (Fr.blk hb_)
  have ap_b2_1_b3_2 : Ap (some b2_1) (some b3_2) := Ap.mk (Cel.live c2_1) (Fr.blk hb_)
  have fr_b3_2 : Fr w.heap.size (some b3_2) := Fr.le (Fr.blk hb_) e0.size
  have e0 := e0.trans x1
  have c1_0 := c1_0.ext x1
  have c2_1 := c2_1.ext x1
  clear x1 hb_
  refine J.eff0 (Ye.storeA (ys := List.map (fun x : UInt64 => W64 x) _) ti45 c3_2 0 rfl rfl rfl rfl (by first | (rw [List.length_map]; omega) | (simp; done) | rfl | (simp <;> omega)) (one_M _ (fun _ => rfl))) ?_
  rintro _ w4 ⟨cX, hu⟩
  simp only [List.set_cons_zero, List.set_cons_succ] at cX
  have hg := hu.gb
  have c1_0 := Cel.gbk c1_0 hg ap_b1_0_b3_2
  have c2_1 := Cel.gbk c2_1 hg ap_b2_1_b3_2
  have e0 := Ext.gbk e0 fr_b3_2 hg
  clear hg
  replace c3_2 := cX
  clear cX hu
  refine J.nil ?_
  refine J.n_then ?_
  refine J.seq ?_
  refine J.seq ?_
  refine J.region ?_
  refine J.op (Yd.move rfl) rfl ?_
  refine J.nil ?_
  refine J.n_then ?_
  refine J.block ?_
  refine J.loop (ι := Nat) (fun i => [(7, I i), (1, .pointer (some ⟨b1_0, 0, none⟩)), (2, .pointer (some ⟨b2_1, 0, none⟩)), (3, .pointer (some ⟨b3_2, 0, none⟩))]) (fun i w' => i ≤ 25 ∧ Cel w' b1_0 45 [(0, 25, (a).map (fun x : UInt64 => W64 x))] ∧ Cel w' b2_1 45 [(0, 25, (List.replicate 25 0).map (fun x : UInt64 => W64 x))] ∧ Cel w' b3_2 45 [(0, 25, (fillU (chF a) a i).map (fun x : UInt64 => W64 x))] ∧ Ext w w') (fun i => 25 - i) (0) ⟨rfl, rfl, rfl, rfl, trivial⟩ (⟨by omega, c1_0, c2_1, Cel.eq c3_2 (by rw [fillU_zero]), e0⟩) ?_
  rintro k w5 ⟨hk, c1_0, c2_1, c3_2, e0⟩
  have hfl := fillU_len (chF a) a k
  refine J.seq ?_
  refine J.region ?_
  refine J.op (Yd.lss rfl rfl) rfl ?_
  refine J.nil ?_
  refine J.n_then ?_
  refine J.seq ?_
  refine J.cond_dec rfl (fun hc0 => ?_) (fun hc0 => ?_)
  · skip
    refine J.skip ?_
    refine J.n_then ?_
    refine J.seq ?_
    refine J.block ?_
    refine J.seq ?_
    refine J.region ?_
    refine J.op (Yd.move rfl) rfl ?_
    refine J.op (Yd.assign rfl) rfl ?_
    refine J.nil ?_
    refine J.n_then ?_
    refine J.seq ?_
    refine J.region ?_
    refine J.op (Yd.move rfl) rfl ?_
    refine J.op (Yd.move rfl) rfl ?_
    refine J.op (Yd.rem rfl rfl (by first | omega | exact idx_u8' _ | (simp only [Int.toNat_natCast]; omega) | (simp only [List.length_map, List.length_drop, List.length_take, List.length_append, List.length_replicate]; omega) | (simp <;> omega)) (by first | omega | exact idx_u8' _ | (simp only [Int.toNat_natCast]; omega) | (simp only [List.length_map, List.length_drop, List.length_take, List.length_append, List.length_replicate]; omega) | (simp <;> omega))) rfl ?_
    refine J.op (Yd.sub rfl rfl (by first | omega | exact idx_u8' _ | (simp only [Int.toNat_natCast]; omega) | (simp only [List.length_map, List.length_drop, List.length_take, List.length_append, List.length_replicate]; omega) | (simp <;> omega))) rfl ?_
    refine J.op (Yd.assign rfl) rfl ?_
    refine J.nil ?_
    refine J.n_then ?_
    refine J.regionO [(0, true), (1, true), (3, true), (4, true), (5, true), (6, true), (7, true), (8, true), (11, true), (12, true), (13, true), (14, true), (15, true), (16, true)] [(2, 1), (9, 1), (17, 1), (10, 1), (18, 1)] [(19, true), (20, true), (21, false)] mix (by kernel_rfl) ?_
    refine J.s_op rfl (fun _ => Yd.move rfl) rfl ?_
    refine J.s_op rfl (fun _ => Yd.idxA Try.underlying45 ti23 rfl rfl (by first | omega | exact idx_u8' _ | (simp only [Int.toNat_natCast]; omega) | (simp only [List.length_map, List.length_drop, List.length_take, List.length_append, List.length_replicate]; omega) | (simp <;> omega))) rfl ?_
    refine J.s_op rfl (fun _ => Yd.move rfl) rfl ?_
    refine J.s_op rfl (fun _ => Yd.move rfl) rfl ?_
    refine J.s_op rfl (fun _ => Yd.add rfl rfl (by first | omega | exact idx_u8' _ | (simp only [Int.toNat_natCast]; omega) | (simp only [List.length_map, List.length_drop, List.length_take, List.length_append, List.length_replicate]; omega) | (simp <;> omega))) rfl ?_
    refine J.s_op rfl (fun _ => Yd.rem rfl rfl (by first | omega | exact idx_u8' _ | (simp only [Int.toNat_natCast]; omega) | (simp only [List.length_map, List.length_drop, List.length_take, List.length_append, List.length_replicate]; omega) | (simp <;> omega)) (by first | omega | exact idx_u8' _ | (simp only [Int.toNat_natCast]; omega) | (simp only [List.length_map, List.length_drop, List.length_take, List.length_append, List.length_replicate]; omega) | (simp <;> omega))) rfl ?_
    refine J.s_op rfl (fun _ => Yd.add rfl rfl (by first | omega | exact idx_u8' _ | (simp only [Int.toNat_natCast]; omega) | (simp only [List.length_map, List.length_drop, List.length_take, List.length_append, List.length_replicate]; omega) | (simp <;> omega))) rfl ?_
    refine J.s_op rfl (fun _ => Yd.idxA Try.underlying45 ti23 rfl rfl (by first | omega | exact idx_u8' _ | (simp only [Int.toNat_natCast]; omega) | (simp only [List.length_map, List.length_drop, List.length_take, List.length_append, List.length_replicate]; omega) | (simp <;> omega))) rfl ?_
    refine J.s_op rfl (fun _ => Yd.move rfl) rfl ?_
    refine J.s_op rfl (fun _ => Yd.move rfl) rfl ?_
    refine J.s_op rfl (fun _ => Yd.add rfl rfl (by first | omega | exact idx_u8' _ | (simp only [Int.toNat_natCast]; omega) | (simp only [List.length_map, List.length_drop, List.length_take, List.length_append, List.length_replicate]; omega) | (simp <;> omega))) rfl ?_
    refine J.s_op rfl (fun _ => Yd.rem rfl rfl (by first | omega | exact idx_u8' _ | (simp only [Int.toNat_natCast]; omega) | (simp only [List.length_map, List.length_drop, List.length_take, List.length_append, List.length_replicate]; omega) | (simp <;> omega)) (by first | omega | exact idx_u8' _ | (simp only [Int.toNat_natCast]; omega) | (simp only [List.length_map, List.length_drop, List.length_take, List.length_append, List.length_replicate]; omega) | (simp <;> omega))) rfl ?_
    refine J.s_op rfl (fun _ => Yd.add rfl rfl (by first | omega | exact idx_u8' _ | (simp only [Int.toNat_natCast]; omega) | (simp only [List.length_map, List.length_drop, List.length_take, List.length_append, List.length_replicate]; omega) | (simp <;> omega))) rfl ?_
    refine J.s_op rfl (fun _ => Yd.idxA Try.underlying45 ti23 rfl rfl (by first | omega | exact idx_u8' _ | (simp only [Int.toNat_natCast]; omega) | (simp only [List.length_map, List.length_drop, List.length_take, List.length_append, List.length_replicate]; omega) | (simp <;> omega))) rfl ?_
    refine J.s_nil ?_
    refine J.o_op rfl (Yd.load pl23 rfl (Cel.cellM c3_2 0 rfl 0 (by have hl_ := Cel.lenM c3_2 0 rfl; first | omega | (rw [hl_]; exact idx_u8' _) | (simp only [Int.toNat_natCast]; omega) | (simp at hl_ ⊢ <;> omega)))) rfl ?_
    refine J.o_op rfl (Yd.load pl23 rfl (Cel.cellM c1_0 0 rfl 0 (by have hl_ := Cel.lenM c1_0 0 rfl; first | omega | (rw [hl_]; exact idx_u8' _) | (simp only [Int.toNat_natCast]; omega) | (simp at hl_ ⊢ <;> omega)))) rfl ?_
    refine J.o_op rfl (Yd.load pl23 rfl (Cel.cellM c1_0 0 rfl 0 (by have hl_ := Cel.lenM c1_0 0 rfl; first | omega | (rw [hl_]; exact idx_u8' _) | (simp only [Int.toNat_natCast]; omega) | (simp at hl_ ⊢ <;> omega)))) rfl ?_
    refine J.o_op rfl (Yd.xor1_u64 rfl) rfl ?_
    refine J.o_op rfl (Yd.and_u64 rfl rfl) rfl ?_
    refine J.o_nil ?_
    refine J.s_op rfl (fun _ => Yd.xor_u64 rfl rfl) rfl ?_
    refine J.s_op rfl (fun _ => Yd.idxA Try.underlying45 ti23 rfl rfl (by first | omega | exact idx_u8' _ | (simp only [Int.toNat_natCast]; omega) | (simp only [List.length_map, List.length_drop, List.length_take, List.length_append, List.length_replicate]; omega) | (simp <;> omega))) rfl ?_
    refine J.s_eff0 rfl (Ye.storeM ti23 c3_2 0 rfl rfl rfl rfl (by first | omega | exact idx_u8' _ | (simp only [Int.toNat_natCast]; omega) | (simp only [List.length_map, List.length_drop, List.length_take, List.length_append, List.length_replicate]; omega) | (simp <;> omega)) (fun _ => rfl) (fun _ => rfl)) ?_
    rintro _ w6 ⟨cX, hu⟩
    simp only [List.set_cons_zero, List.set_cons_succ] at cX
    have hg := hu.gb
    have c1_0 := Cel.gbk c1_0 hg ap_b1_0_b3_2
    have c2_1 := Cel.gbk c2_1 hg ap_b2_1_b3_2
    have e0 := Ext.gbk e0 fr_b3_2 hg
    clear hg
    replace c3_2 := cX
    clear cX hu
    refine J.s_nil ?_
    refine J.n_np ?_
    refine J.n_block ?_
    refine J.n_then ?_
    refine J.region ?_
    refine J.op (Yd.add rfl rfl (by first | omega | exact idx_u8' _ | (simp only [Int.toNat_natCast]; omega) | (simp only [List.length_map, List.length_drop, List.length_take, List.length_append, List.length_replicate]; omega) | (simp <;> omega))) rfl ?_
    refine J.op (Yd.move rfl) rfl ?_
    refine J.nil ?_
    refine J.n_then ?_
    exact J.round (k + 1) ⟨rfl, rfl, rfl, rfl, trivial⟩ (⟨by omega, c1_0, c2_1, Cel.eq c3_2 (by rw [Int.toNat_natCast, fillU_get _ _ _ _ _ (Nat.le_refl _), show ((k : Int) - (k : Int) % 5 + ((k : Int) + 1) % 5).toNat = k - k % 5 + (k + 1) % 5 by omega, show ((k : Int) - (k : Int) % 5 + ((k : Int) + 2) % 5).toNat = k - k % 5 + (k + 2) % 5 by omega]; exact congrArg (fun l => [(0, 25, List.map (fun x : UInt64 => W64 x) l)]) (fillU_set (chF a) _ k)), e0⟩) (by omega)
  · skip
    refine J.exit ?_
    refine J.x_then ?_
    refine J.x_then ?_
    refine J.x_block ?_
    refine J.n_then ?_
    refine J.seq ?_
    refine J.region ?_
    refine J.op (Yd.loadA ag45 ti45 rfl c3_2 0 rfl) rfl ?_
    refine J.eff0 (Ye.storeA (ys := List.map (fun x : UInt64 => W64 x) _) ti45 c2_1 0 rfl rfl rfl rfl (by first | (rw [List.length_map]; omega) | (simp; done) | rfl | (simp <;> omega)) (one_M _ (fun _ => rfl))) ?_
    rintro _ w7 ⟨cX, hu⟩
    simp only [List.set_cons_zero, List.set_cons_succ] at cX
    have hg := hu.gb
    have c1_0 := Cel.gbk c1_0 hg ap_b1_0_b2_1
    have c3_2 := Cel.gbk c3_2 hg (Ap.symm ap_b2_1_b3_2)
    have e0 := Ext.gbk e0 fr_b2_1 hg
    clear hg
    replace c2_1 := cX
    clear cX hu
    refine J.nil ?_
    refine J.n_then ?_
    refine J.ret ?_
    exact J.ret1c rfl rfl ag45 ti45 c2_1 0 rfl (⟨_, rfl, by rw [show k = 25 by omega, fillU_all _ _ _ (by omega), ha]; rfl, e0⟩)
end Ytpcbkeikhojmbaa
end Go.Proofs
