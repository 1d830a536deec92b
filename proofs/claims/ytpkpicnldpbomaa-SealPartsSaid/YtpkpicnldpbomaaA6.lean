import Derived.Test.YtpkpicnldpbomaaT
import Derived.Test.YtpkpicnldpbomaaA5
set_option linter.unusedVariables false
set_option linter.unusedSimpArgs false
set_option maxRecDepth 100000
set_option maxHeartbeats 4000000
namespace Go.Proofs
open Go.X Go.RowKit
namespace Ytpkpicnldpbomaa
theorem Crypt_ok {a v u : Value} {key nonce l : List UInt8} {w : World} (hk : Bs w a key) (ho : Bs w v nonce) (hb : Bs w u l) : C Try.prog 25 [a, v, u] w (Ret fun u w' => ∃ s, u = .tuple #[s, I (cryE key nonce l)] ∧ Bs w' s (cryL key nonce l) ∧ Ext w w') := by
  have e0 := Ext.refl w
  refine C.enter Try.func25 rfl Try.ntmps25 rfl ?_
  refine J.seq ?_
  refine J.region ?_
  refine J.op (Yd.assign rfl) rfl ?_
  refine J.op (Yd.assign rfl) rfl ?_
  refine J.nil ?_
  refine J.n_then ?_
  refine J.seq ?_
  refine J.region ?_
  refine J.op (Yd.move rfl) rfl ?_
  refine J.op (Yd.move rfl) rfl ?_
  refine J.op (Yd.move rfl) rfl ?_
  refine J.op (Yd.len_b Try.underlying22 rfl hb) rfl ?_
  refine J.eff (Ye.call cl38 rfl (Stream_ok hk ho)) rfl ?_
  rintro _ w1 ⟨s15_1, rfl, rs15_1, x1⟩
  have e0 := e0.trans x1
  clear x1
  refine J.op (Yd.move rfl) rfl ?_
  refine J.op (Yd.extract rfl rfl) rfl ?_
  refine J.op (Yd.extract rfl rfl) rfl ?_
  refine J.op (Yd.assign rfl) rfl ?_
  refine J.op (Yd.assign rfl) rfl ?_
  refine J.nil ?_
  refine J.n_then ?_
  refine J.seq ?_
  refine J.seq ?_
  refine J.region ?_
  refine J.op (Yd.move rfl) rfl ?_
  refine J.op (Yd.neq rfl rfl) rfl ?_
  refine J.nil ?_
  refine J.n_then ?_
  refine J.cond_dec rfl (fun hc0 => ?_) (fun hc0 => ?_)
  · skip
    refine J.seq ?_
    refine J.region ?_
    refine J.op (Yd.move rfl) rfl ?_
    refine J.op (Yd.assign rfl) rfl ?_
    refine J.op (Yd.assign rfl) rfl ?_
    refine J.nil ?_
    refine J.n_then ?_
    refine J.ret ?_
    refine J.r_then ?_
    exact J.ret2 rfl rfl rfl (⟨_, rfl, nilS, rfl, by rw [cry_no hc0]; exact Rd.nilM _ _, e0⟩)
  · skip
    have hsz := strE_zero (Classical.not_not.1 hc0)
    refine J.skip ?_
    refine J.n_then ?_
    refine J.seq ?_
    refine J.region ?_
    refine J.op (Yd.move rfl) rfl ?_
    refine J.op (Yd.move rfl) rfl ?_
    refine J.eff (Ye.call cl39 rfl (Xor_ok (Rd.ext hb e0) rs15_1 (by first | omega | (simp [xorL_len] <;> omega)))) rfl ?_
    rintro s23_2 w2 ⟨os23_2, x1⟩
    have fr_s23_2 : Fr w.heap.size s23_2.ownBlock := Fr.le (Ow.fr os23_2) e0.size
    replace os23_2 := Ow.base os23_2 e0.size
    have e0 := e0.trans x1
    have rs15_1 := rs15_1.ext x1
    clear x1
    refine J.op (Yd.assign rfl) rfl ?_
    refine J.op (Yd.assign rfl) rfl ?_
    refine J.nil ?_
    refine J.n_then ?_
    refine J.ret ?_
    exact J.ret2 rfl rfl rfl (⟨_, rfl, _, by rw [cryE, Classical.not_not.1 hc0]; try rfl, by have h9 := (Ow.rd os23_2); rw [cry_fin (Classical.not_not.1 hc0)] at h9; exact h9, e0⟩)

theorem Boxes_ok {w : World} : C Try.prog 29 [] w (Ret fun v w' => v = Ag (fun x => B x) boxT ∧ Ext w w') := by
  have e0 := Ext.refl w
  refine C.enter Try.func29 rfl Try.ntmps29 rfl ?_
  refine J.seq ?_
  refine J.region ?_
  refine J.eff (Ye.alloc ti51 (S := [(0, 256, (List.replicate 256 0).map (fun x : UInt8 => B x))]) (by simp [SegAll, SegOK, Value.cells])) rfl ?_
  rintro _ w1 ⟨b0_0, rfl, hb_, c0_0, x1⟩
  have fr_b0_0 : Fr w.heap.size (some b0_0) := Fr.le (Fr.blk hb_) e0.size
  have e0 := e0.trans x1
  clear x1 hb_
  refine J.nil ?_
  refine J.n_then ?_
  refine J.seq ?_
  refine J.region ?_
  refine J.eff (Ye.alloc ti69 (S := [(0, 255, (List.replicate 255 0).map (fun x : UInt8 => B x))]) (by simp [SegAll, SegOK, Value.cells])) rfl ?_
  rintro _ w2 ⟨b1_1, rfl, hb_, c1_1, x1⟩
  have ap_b0_0_b1_1 : Ap (some b0_0) (some b1_1) := Ap.mk (Cel.live c0_0) (Fr.blk hb_)
  have fr_b1_1 : Fr w.heap.size (some b1_1) := Fr.le (Fr.blk hb_) e0.size
  have e0 := e0.trans x1
  have c0_0 := c0_0.ext x1
  clear x1 hb_
  refine J.nil ?_
  refine J.n_then ?_
  refine J.seq ?_
  refine J.region ?_
  refine J.eff (Ye.alloc ti70 (S := [(0, 256, (List.replicate 256 0).map (fun x : Int => I x))]) (by simp [SegAll, SegOK, Value.cells])) rfl ?_
  rintro _ w3 ⟨b2_2, rfl, hb_, c2_2, x1⟩
  have ap_b0_0_b2_2 : Ap (some b0_0) (some b2_2) := Ap.mk (Cel.live c0_0) (Fr.blk hb_)
  have ap_b1_1_b2_2 : Ap (some b1_1) (some b2_2) := Ap.mk (Cel.live c1_1) (Fr.blk hb_)
  have fr_b2_2 : Fr w.heap.size (some b2_2) := Fr.le (Fr.blk hb_) e0.size
  have e0 := e0.trans x1
  have c0_0 := c0_0.ext x1
  have c1_1 := c1_1.ext x1
  clear x1 hb_
  refine J.nil ?_
  refine J.n_then ?_
  refine J.seq ?_
  refine J.region ?_
  refine J.op (Yd.assign rfl) rfl ?_
  refine J.nil ?_
  refine J.n_then ?_
  refine J.seq ?_
  refine J.seq ?_
  refine J.region ?_
  refine J.op (Yd.assign rfl) rfl ?_
  refine J.nil ?_
  refine J.n_then ?_
  refine J.block ?_
  refine J.loop (ι := Nat) (fun i => [(3, B (powX i)), (4, I i), (0, .pointer (some ⟨b0_0, 0, none⟩)), (1, .pointer (some ⟨b1_1, 0, none⟩)), (2, .pointer (some ⟨b2_2, 0, none⟩))]) (fun i w' => i ≤ 255 ∧ Cel w' b0_0 51 [(0, 256, (List.replicate 256 0).map (fun x : UInt8 => B x))] ∧ Cel w' b1_1 69 [(0, 255, (fillU powF (List.replicate 255 0) i).map (fun x : UInt8 => B x))] ∧ Cel w' b2_2 70 [(0, 256, (atP i).map (fun x : Int => I x))] ∧ Ext w w') (fun i => 255 - i) (0) ⟨rfl, rfl, rfl, rfl, rfl, trivial⟩ (⟨by omega, c0_0, Cel.eq c1_1 (by rw [fillU_zero]), Cel.eq c2_2 (by rw [atP_zero]), e0⟩) ?_
  rintro k w4 ⟨hk, c0_0, c1_1, c2_2, e0⟩
  have hfl := fillU_len powF (List.replicate 255 0) k
  rw [List.length_replicate] at hfl
  refine J.seq ?_
  refine J.seq ?_
  refine J.region ?_
  refine J.op (Yd.move rfl) rfl ?_
  refine J.op (Yd.lss rfl rfl) rfl ?_
  refine J.nil ?_
  refine J.n_then ?_
  refine J.cond_dec rfl (fun hc0 => ?_) (fun hc0 => ?_)
  · skip
    refine J.skip ?_
    refine J.n_then ?_
    refine J.seq ?_
    refine J.block ?_
    refine J.seq ?_
    refine J.region ?_
    refine J.op (Yd.move rfl) rfl ?_
    refine J.op (Yd.move rfl) rfl ?_
    refine J.op (Yd.idxA Try.underlying69 ti5 rfl rfl (by first | omega | exact idx_u8' _ | (simp only [Int.toNat_natCast]; omega) | (simp only [List.length_map, List.length_drop, List.length_take, List.length_append, List.length_replicate]; omega) | (simp <;> omega))) rfl ?_
    refine J.eff0 (Ye.storeM ti5 c1_1 0 rfl rfl rfl rfl (by first | omega | exact idx_u8' _ | (simp only [Int.toNat_natCast]; omega) | (simp only [List.length_map, List.length_drop, List.length_take, List.length_append, List.length_replicate]; omega) | (simp <;> omega)) (fun _ => rfl) (fun _ => rfl)) ?_
    rintro _ w5 ⟨cX, hu⟩
    simp only [List.set_cons_zero, List.set_cons_succ] at cX
    have hg := hu.gb
    have c0_0 := Cel.gbk c0_0 hg ap_b0_0_b1_1
    have c2_2 := Cel.gbk c2_2 hg (Ap.symm ap_b1_1_b2_2)
    have e0 := Ext.gbk e0 fr_b1_1 hg
    clear hg
    replace c1_1 := cX
    clear cX hu
    refine J.nil ?_
    refine J.n_then ?_
    refine J.seq ?_
    refine J.region ?_
    refine J.op (Yd.move rfl) rfl ?_
    refine J.op (Yd.move rfl) rfl ?_
    refine J.op (Yd.idxA Try.underlying70 ti3 rfl rfl (idx_u8 _)) rfl ?_
    refine J.eff0 (Ye.storeM ti3 c2_2 0 rfl rfl rfl rfl (by first | omega | exact idx_u8' _ | (simp only [Int.toNat_natCast]; omega) | (simp only [List.length_map, List.length_drop, List.length_take, List.length_append, List.length_replicate]; omega) | (simp <;> omega)) (fun _ => rfl) (fun _ => rfl)) ?_
    rintro _ w6 ⟨cX, hu⟩
    simp only [List.set_cons_zero, List.set_cons_succ] at cX
    have hg := hu.gb
    have c0_0 := Cel.gbk c0_0 hg ap_b0_0_b2_2
    have c1_1 := Cel.gbk c1_1 hg ap_b1_1_b2_2
    have e0 := Ext.gbk e0 fr_b2_2 hg
    clear hg
    replace c2_2 := cX
    clear cX hu
    refine J.nil ?_
    refine J.n_then ?_
    refine J.region ?_
    refine J.op (Yd.move rfl) rfl ?_
    refine J.eff (Ye.call cl43 rfl (Gmul_ok (b := 3))) rfl ?_
    rintro _ w7 ⟨rfl, x1⟩
    have e0 := e0.trans x1
    have c0_0 := c0_0.ext x1
    have c1_1 := c1_1.ext x1
    have c2_2 := c2_2.ext x1
    clear x1
    refine J.op (Yd.assign rfl) rfl ?_
    refine J.nil ?_
    refine J.n_block ?_
    refine J.n_then ?_
    refine J.region ?_
    refine J.op (Yd.move rfl) rfl ?_
    refine J.op (Yd.add rfl rfl (by first | omega | exact idx_u8' _ | (simp only [Int.toNat_natCast]; omega) | (simp only [List.length_map, List.length_drop, List.length_take, List.length_append, List.length_replicate]; omega) | (simp <;> omega))) rfl ?_
    refine J.op (Yd.assign rfl) rfl ?_
    refine J.nil ?_
    refine J.n_then ?_
    exact J.round (k + 1) ⟨(congrArg (fun z => some (B z)) (powX_next (by omega))), rfl, rfl, rfl, rfl, trivial⟩ (⟨by omega, c0_0, Cel.eq c1_1 (by rw [Int.toNat_natCast, powX_lt (by omega)]; exact congrArg (fun l => [(0, 255, List.map (fun x : UInt8 => B x) l)]) (fillU_set powF _ k)), Cel.eq c2_2 (by rw [Int.toNat_natCast, atP_set (by omega)]), e0⟩) (by omega)
  · skip
    refine J.exit ?_
    refine J.x_then ?_
    refine J.x_then ?_
    refine J.x_block ?_
    refine J.n_then ?_
    refine J.seq ?_
    refine J.region ?_
    refine J.eff (Ye.alloc ti51 (S := [(0, 256, (List.replicate 256 0).map (fun x : UInt8 => B x))]) (by simp [SegAll, SegOK, Value.cells])) rfl ?_
    rintro _ w8 ⟨b5_7, rfl, hb_, c5_7, x1⟩
    have ap_b0_0_b5_7 : Ap (some b0_0) (some b5_7) := Ap.mk (Cel.live c0_0) (Fr.blk hb_)
    have ap_b1_1_b5_7 : Ap (some b1_1) (some b5_7) := Ap.mk (Cel.live c1_1) (Fr.blk hb_)
    have ap_b2_2_b5_7 : Ap (some b2_2) (some b5_7) := Ap.mk (Cel.live c2_2) (Fr.blk hb_)
    have fr_b5_7 : Fr w.heap.size (some b5_7) := Fr.le (Fr.blk hb_) e0.size
    have e0 := e0.trans x1
    have c0_0 := c0_0.ext x1
    have c1_1 := c1_1.ext x1
    have c2_2 := c2_2.ext x1
    clear x1 hb_
    refine J.nil ?_
    refine J.n_then ?_
    refine J.seq ?_
    refine J.seq ?_
    refine J.region ?_
    refine J.op (Yd.assign rfl) rfl ?_
    refine J.nil ?_
    refine J.n_then ?_
    refine J.block ?_
    refine J.loop (ι := Nat) (fun i => [(6, I i), (0, .pointer (some ⟨b0_0, 0, none⟩)), (1, .pointer (some ⟨b1_1, 0, none⟩)), (2, .pointer (some ⟨b2_2, 0, none⟩)), (5, .pointer (some ⟨b5_7, 0, none⟩))]) (fun i w' => i ≤ 256 ∧ Cel w' b0_0 51 [(0, 256, (List.replicate 256 0).map (fun x : UInt8 => B x))] ∧ Cel w' b1_1 69 [(0, 255, (powT).map (fun x : UInt8 => B x))] ∧ Cel w' b2_2 70 [(0, 256, (atP 255).map (fun x : Int => I x))] ∧ Cel w' b5_7 51 [(0, 256, (fillU boxG (List.replicate 256 0) i).map (fun x : UInt8 => B x))] ∧ Ext w w') (fun i => 256 - i) (0) ⟨rfl, rfl, rfl, rfl, rfl, trivial⟩ (⟨by omega, c0_0, Cel.eq c1_1 (by rw [show k = 255 by omega, powF_all]), Cel.eq c2_2 (by rw [show k = 255 by omega]), Cel.eq c5_7 (by rw [fillU_zero]), e0⟩) ?_
    rintro k w9 ⟨hk, c0_0, c1_1, c2_2, c5_7, e0⟩
    have hfl := fillU_len boxG (List.replicate 256 0) k
    rw [List.length_replicate] at hfl
    refine J.seq ?_
    refine J.seq ?_
    refine J.region ?_
    refine J.op (Yd.move rfl) rfl ?_
    refine J.op (Yd.lss rfl rfl) rfl ?_
    refine J.nil ?_
    refine J.n_then ?_
    refine J.cond_dec rfl (fun hc1 => ?_) (fun hc1 => ?_)
    · skip
      refine J.skip ?_
      refine J.n_then ?_
      refine J.seq ?_
      refine J.block ?_
      refine J.seq ?_
      refine J.region ?_
      refine J.op (Yd.assign rfl) rfl ?_
      refine J.nil ?_
      refine J.n_then ?_
      refine J.seq ?_
      refine J.seq ?_
      refine J.region ?_
      refine J.op (Yd.move rfl) rfl ?_
      refine J.op (Yd.gtr rfl rfl) rfl ?_
      refine J.nil ?_
      refine J.n_then ?_
      refine J.cond_dec rfl (fun hc2 => ?_) (fun hc2 => ?_)
      · skip
        refine J.region ?_
        refine J.op (Yd.move rfl) rfl ?_
        refine J.op (Yd.idxA Try.underlying70 ti3 rfl rfl (by first | omega | exact idx_u8' _ | (simp only [Int.toNat_natCast]; omega) | (simp only [List.length_map, List.length_drop, List.length_take, List.length_append, List.length_replicate]; omega) | (simp <;> omega))) rfl ?_
        refine J.op (Yd.load pl3 rfl (Cel.cellM c2_2 0 rfl 0 (by have hl_ := Cel.lenM c2_2 0 rfl; first | omega | (rw [hl_]; exact idx_u8' _) | (simp only [Int.toNat_natCast]; omega) | (simp at hl_ ⊢ <;> omega)))) rfl ?_
        refine J.op (Yd.sub rfl rfl (by have := at_bd (x := k) (by omega); simp only [Int.toNat_natCast]; omega)) rfl ?_
        refine J.op (Yd.rem rfl rfl (by have := at_bd (x := k) (by omega); simp only [Int.toNat_natCast]; omega) (by omega)) rfl ?_
        refine J.op (Yd.idxA Try.underlying69 ti5 rfl rfl (by have := at_bd (x := k) (by omega); simp only [Int.toNat_natCast]; omega)) rfl ?_
        refine J.op (Yd.load pl5 rfl (Cel.cellM c1_1 0 rfl 0 (by have := at_bd (x := k) (by omega); have := powT_len; simp only [Int.toNat_natCast]; omega))) rfl ?_
        refine J.op (Yd.assign rfl) rfl ?_
        refine J.nil ?_
        refine J.n_then ?_
        refine J.seq ?_
        refine J.region ?_
        refine J.op (Yd.assign rfl) rfl ?_
        refine J.nil ?_
        refine J.n_then ?_
        refine J.seq ?_
        refine J.seq ?_
        refine J.region ?_
        refine J.op (Yd.assign rfl) rfl ?_
        refine J.nil ?_
        refine J.n_then ?_
        refine J.block ?_
        refine J.loop (ι := Nat) (fun i => [(6, I k), (7, B (invT k)), (8, B (rotR (invT k) i)), (9, I i), (0, .pointer (some ⟨b0_0, 0, none⟩)), (1, .pointer (some ⟨b1_1, 0, none⟩)), (2, .pointer (some ⟨b2_2, 0, none⟩)), (5, .pointer (some ⟨b5_7, 0, none⟩))]) (fun i w' => i ≤ 5 ∧ Cel w' b0_0 51 [(0, 256, (List.replicate 256 0).map (fun x : UInt8 => B x))] ∧ Cel w' b1_1 69 [(0, 255, (powT).map (fun x : UInt8 => B x))] ∧ Cel w' b2_2 70 [(0, 256, (atP 255).map (fun x : Int => I x))] ∧ Cel w' b5_7 51 [(0, 256, (fillU boxG (List.replicate 256 0) k).map (fun x : UInt8 => B x))] ∧ Ext w w') (fun i => 5 - i) (0) ⟨rfl, (congrArg (fun z => some (B z)) (by rw [Int.toNat_natCast, inv_get (by omega) (by omega)])), rfl, rfl, rfl, rfl, rfl, rfl, trivial⟩ (⟨by omega, c0_0, c1_1, c2_2, c5_7, e0⟩) ?_
        rintro j w10 ⟨hj, c0_0, c1_1, c2_2, c5_7, e0⟩
        refine J.seq ?_
        refine J.seq ?_
        refine J.region ?_
        refine J.op (Yd.move rfl) rfl ?_
        refine J.op (Yd.lss rfl rfl) rfl ?_
        refine J.nil ?_
        refine J.n_then ?_
        refine J.cond_dec rfl (fun hc3 => ?_) (fun hc3 => ?_)
        · skip
          refine J.skip ?_
          refine J.n_then ?_
          refine J.seq ?_
          refine J.block ?_
          refine J.regionO [(0, true), (1, true), (2, true), (3, true), (4, true), (5, true), (6, true), (7, true), (8, true), (9, true), (10, true)] [] [] mix (by kernel_rfl) ?_
          refine J.s_op rfl (fun _ => Yd.move rfl) rfl ?_
          refine J.s_op rfl (fun _ => Yd.move rfl) rfl ?_
          refine J.s_op rfl (fun _ => Yd.move rfl) rfl ?_
          refine J.s_op rfl (fun _ => Yd.shl_u8 rfl rfl (by first | omega | exact idx_u8' _ | (simp only [Int.toNat_natCast]; omega) | (simp only [List.length_map, List.length_drop, List.length_take, List.length_append, List.length_replicate]; omega) | (simp <;> omega))) rfl ?_
          refine J.s_op rfl (fun _ => Yd.move rfl) rfl ?_
          refine J.s_op rfl (fun _ => Yd.move rfl) rfl ?_
          refine J.s_op rfl (fun _ => Yd.sub rfl rfl (by first | omega | exact idx_u8' _ | (simp only [Int.toNat_natCast]; omega) | (simp only [List.length_map, List.length_drop, List.length_take, List.length_append, List.length_replicate]; omega) | (simp <;> omega))) rfl ?_
          refine J.s_op rfl (fun _ => Yd.shr_u8 rfl rfl (by first | omega | exact idx_u8' _ | (simp only [Int.toNat_natCast]; omega) | (simp only [List.length_map, List.length_drop, List.length_take, List.length_append, List.length_replicate]; omega) | (simp <;> omega))) rfl ?_
          refine J.s_op rfl (fun _ => Yd.or_u8 rfl rfl) rfl ?_
          refine J.s_op rfl (fun _ => Yd.xor_u8 rfl rfl) rfl ?_
          refine J.s_op rfl (fun _ => Yd.assign rfl) rfl ?_
          refine J.s_nil ?_
          refine J.o_nil ?_
          refine J.s_nil ?_
          refine J.n_np ?_
          refine J.n_block ?_
          refine J.n_then ?_
          refine J.region ?_
          refine J.op (Yd.move rfl) rfl ?_
          refine J.op (Yd.add rfl rfl (by first | omega | exact idx_u8' _ | (simp only [Int.toNat_natCast]; omega) | (simp only [List.length_map, List.length_drop, List.length_take, List.length_append, List.length_replicate]; omega) | (simp <;> omega))) rfl ?_
          refine J.op (Yd.assign rfl) rfl ?_
          refine J.nil ?_
          refine J.n_then ?_
          exact J.round (j + 1) ⟨rfl, rfl, (congrArg (fun z => some (B z)) (by rw [Int.toNat_natCast, show (8 - (j : Int)).toNat = 8 - j by omega]; rfl)), rfl, rfl, rfl, rfl, rfl, trivial⟩ (⟨by omega, c0_0, c1_1, c2_2, c5_7, e0⟩) (by omega)
        · skip
          refine J.exit ?_
          refine J.x_then ?_
          refine J.x_then ?_
          refine J.x_block ?_
          refine J.n_then ?_
          refine J.region ?_
          refine J.op (Yd.move rfl) rfl ?_
          refine J.op (Yd.move rfl) rfl ?_
          refine J.op (Yd.idxA Try.underlying51 ti5 rfl rfl (by first | omega | exact idx_u8' _ | (simp only [Int.toNat_natCast]; omega) | (simp only [List.length_map, List.length_drop, List.length_take, List.length_append, List.length_replicate]; omega) | (simp <;> omega))) rfl ?_
          refine J.eff0 (Ye.storeM ti5 c5_7 0 rfl rfl rfl rfl (by first | omega | exact idx_u8' _ | (simp only [Int.toNat_natCast]; omega) | (simp only [List.length_map, List.length_drop, List.length_take, List.length_append, List.length_replicate]; omega) | (simp <;> omega)) (fun _ => rfl) (fun _ => rfl)) ?_
          rintro _ w11 ⟨cX, hu⟩
          simp only [List.set_cons_zero, List.set_cons_succ] at cX
          have hg := hu.gb
          have c0_0 := Cel.gbk c0_0 hg ap_b0_0_b5_7
          have c1_1 := Cel.gbk c1_1 hg ap_b1_1_b5_7
          have c2_2 := Cel.gbk c2_2 hg ap_b2_2_b5_7
          have e0 := Ext.gbk e0 fr_b5_7 hg
          clear hg
          replace c5_7 := cX
          clear cX hu
          refine J.nil ?_
          refine J.n_block ?_
          refine J.n_then ?_
          refine J.region ?_
          refine J.op (Yd.move rfl) rfl ?_
          refine J.op (Yd.add rfl rfl (by first | omega | exact idx_u8' _ | (simp only [Int.toNat_natCast]; omega) | (simp only [List.length_map, List.length_drop, List.length_take, List.length_append, List.length_replicate]; omega) | (simp <;> omega))) rfl ?_
          refine J.op (Yd.assign rfl) rfl ?_
          refine J.nil ?_
          refine J.n_then ?_
          exact J.round (k + 1) ⟨rfl, rfl, rfl, rfl, rfl, trivial⟩ (⟨by omega, c0_0, c1_1, c2_2, Cel.eq c5_7 (by rw [Int.toNat_natCast, show j = 5 by omega, refbox (by omega)]; exact congrArg (fun l => [(0, 256, List.map (fun x : UInt8 => B x) l)]) (fillU_set boxG _ k)), e0⟩) (by omega)
      · skip
        refine J.skip ?_
        refine J.n_then ?_
        refine J.seq ?_
        refine J.region ?_
        refine J.op (Yd.assign rfl) rfl ?_
        refine J.nil ?_
        refine J.n_then ?_
        refine J.seq ?_
        refine J.seq ?_
        refine J.region ?_
        refine J.op (Yd.assign rfl) rfl ?_
        refine J.nil ?_
        refine J.n_then ?_
        refine J.block ?_
        refine J.loop (ι := Nat) (fun i => [(6, I k), (7, B (invT k)), (8, B (rotR (invT k) i)), (9, I i), (0, .pointer (some ⟨b0_0, 0, none⟩)), (1, .pointer (some ⟨b1_1, 0, none⟩)), (2, .pointer (some ⟨b2_2, 0, none⟩)), (5, .pointer (some ⟨b5_7, 0, none⟩))]) (fun i w' => i ≤ 5 ∧ Cel w' b0_0 51 [(0, 256, (List.replicate 256 0).map (fun x : UInt8 => B x))] ∧ Cel w' b1_1 69 [(0, 255, (powT).map (fun x : UInt8 => B x))] ∧ Cel w' b2_2 70 [(0, 256, (atP 255).map (fun x : Int => I x))] ∧ Cel w' b5_7 51 [(0, 256, (fillU boxG (List.replicate 256 0) k).map (fun x : UInt8 => B x))] ∧ Ext w w') (fun i => 5 - i) (0) ⟨rfl, (show some (B 0) = some (B (invT k)) by rw [show k = 0 by omega]; rfl), rfl, rfl, rfl, rfl, rfl, rfl, trivial⟩ (⟨by omega, c0_0, c1_1, c2_2, c5_7, e0⟩) ?_
        rintro j w12 ⟨hj, c0_0, c1_1, c2_2, c5_7, e0⟩
        refine J.seq ?_
        refine J.seq ?_
        refine J.region ?_
        refine J.op (Yd.move rfl) rfl ?_
        refine J.op (Yd.lss rfl rfl) rfl ?_
        refine J.nil ?_
        refine J.n_then ?_
        refine J.cond_dec rfl (fun hc3 => ?_) (fun hc3 => ?_)
        · skip
          refine J.skip ?_
          refine J.n_then ?_
          refine J.seq ?_
          refine J.block ?_
          refine J.regionO [(0, true), (1, true), (2, true), (3, true), (4, true), (5, true), (6, true), (7, true), (8, true), (9, true), (10, true)] [] [] mix (by kernel_rfl) ?_
          refine J.s_op rfl (fun _ => Yd.move rfl) rfl ?_
          refine J.s_op rfl (fun _ => Yd.move rfl) rfl ?_
          refine J.s_op rfl (fun _ => Yd.move rfl) rfl ?_
          refine J.s_op rfl (fun _ => Yd.shl_u8 rfl rfl (by first | omega | exact idx_u8' _ | (simp only [Int.toNat_natCast]; omega) | (simp only [List.length_map, List.length_drop, List.length_take, List.length_append, List.length_replicate]; omega) | (simp <;> omega))) rfl ?_
          refine J.s_op rfl (fun _ => Yd.move rfl) rfl ?_
          refine J.s_op rfl (fun _ => Yd.move rfl) rfl ?_
          refine J.s_op rfl (fun _ => Yd.sub rfl rfl (by first | omega | exact idx_u8' _ | (simp only [Int.toNat_natCast]; omega) | (simp only [List.length_map, List.length_drop, List.length_take, List.length_append, List.length_replicate]; omega) | (simp <;> omega))) rfl ?_
          refine J.s_op rfl (fun _ => Yd.shr_u8 rfl rfl (by first | omega | exact idx_u8' _ | (simp only [Int.toNat_natCast]; omega) | (simp only [List.length_map, List.length_drop, List.length_take, List.length_append, List.length_replicate]; omega) | (simp <;> omega))) rfl ?_
          refine J.s_op rfl (fun _ => Yd.or_u8 rfl rfl) rfl ?_
          refine J.s_op rfl (fun _ => Yd.xor_u8 rfl rfl) rfl ?_
          refine J.s_op rfl (fun _ => Yd.assign rfl) rfl ?_
          refine J.s_nil ?_
          refine J.o_nil ?_
          refine J.s_nil ?_
          refine J.n_np ?_
          refine J.n_block ?_
          refine J.n_then ?_
          refine J.region ?_
          refine J.op (Yd.move rfl) rfl ?_
          refine J.op (Yd.add rfl rfl (by first | omega | exact idx_u8' _ | (simp only [Int.toNat_natCast]; omega) | (simp only [List.length_map, List.length_drop, List.length_take, List.length_append, List.length_replicate]; omega) | (simp <;> omega))) rfl ?_
          refine J.op (Yd.assign rfl) rfl ?_
          refine J.nil ?_
          refine J.n_then ?_
          exact J.round (j + 1) ⟨rfl, rfl, (congrArg (fun z => some (B z)) (by rw [Int.toNat_natCast, show (8 - (j : Int)).toNat = 8 - j by omega]; rfl)), rfl, rfl, rfl, rfl, rfl, trivial⟩ (⟨by omega, c0_0, c1_1, c2_2, c5_7, e0⟩) (by omega)
        · skip
          refine J.exit ?_
          refine J.x_then ?_
          refine J.x_then ?_
          refine J.x_block ?_
          refine J.n_then ?_
          refine J.region ?_
          refine J.op (Yd.move rfl) rfl ?_
          refine J.op (Yd.move rfl) rfl ?_
          refine J.op (Yd.idxA Try.underlying51 ti5 rfl rfl (by first | omega | exact idx_u8' _ | (simp only [Int.toNat_natCast]; omega) | (simp only [List.length_map, List.length_drop, List.length_take, List.length_append, List.length_replicate]; omega) | (simp <;> omega))) rfl ?_
          refine J.eff0 (Ye.storeM ti5 c5_7 0 rfl rfl rfl rfl (by first | omega | exact idx_u8' _ | (simp only [Int.toNat_natCast]; omega) | (simp only [List.length_map, List.length_drop, List.length_take, List.length_append, List.length_replicate]; omega) | (simp <;> omega)) (fun _ => rfl) (fun _ => rfl)) ?_
          rintro _ w13 ⟨cX, hu⟩
          simp only [List.set_cons_zero, List.set_cons_succ] at cX
          have hg := hu.gb
          have c0_0 := Cel.gbk c0_0 hg ap_b0_0_b5_7
          have c1_1 := Cel.gbk c1_1 hg ap_b1_1_b5_7
          have c2_2 := Cel.gbk c2_2 hg ap_b2_2_b5_7
          have e0 := Ext.gbk e0 fr_b5_7 hg
          clear hg
          replace c5_7 := cX
          clear cX hu
          refine J.nil ?_
          refine J.n_block ?_
          refine J.n_then ?_
          refine J.region ?_
          refine J.op (Yd.move rfl) rfl ?_
          refine J.op (Yd.add rfl rfl (by first | omega | exact idx_u8' _ | (simp only [Int.toNat_natCast]; omega) | (simp only [List.length_map, List.length_drop, List.length_take, List.length_append, List.length_replicate]; omega) | (simp <;> omega))) rfl ?_
          refine J.op (Yd.assign rfl) rfl ?_
          refine J.nil ?_
          refine J.n_then ?_
          exact J.round (k + 1) ⟨rfl, rfl, rfl, rfl, rfl, trivial⟩ (⟨by omega, c0_0, c1_1, c2_2, Cel.eq c5_7 (by rw [Int.toNat_natCast, show j = 5 by omega, refbox (by omega)]; exact congrArg (fun l => [(0, 256, List.map (fun x : UInt8 => B x) l)]) (fillU_set boxG _ k)), e0⟩) (by omega)
    · skip
      refine J.exit ?_
      refine J.x_then ?_
      refine J.x_then ?_
      refine J.x_block ?_
      refine J.n_then ?_
      refine J.seq ?_
      refine J.region ?_
      refine J.op (Yd.loadA ag51 ti51 rfl c5_7 0 rfl) rfl ?_
      refine J.eff0 (Ye.storeA (ys := List.map (fun x : UInt8 => B x) _) ti51 c0_0 0 rfl rfl rfl rfl (by first | (rw [List.length_map]; omega) | (simp; done) | rfl | (simp <;> omega)) (one_M _ (fun _ => rfl))) ?_
      rintro _ w14 ⟨cX, hu⟩
      simp only [List.set_cons_zero, List.set_cons_succ] at cX
      have hg := hu.gb
      have c1_1 := Cel.gbk c1_1 hg (Ap.symm ap_b0_0_b1_1)
      have c2_2 := Cel.gbk c2_2 hg (Ap.symm ap_b0_0_b2_2)
      have c5_7 := Cel.gbk c5_7 hg (Ap.symm ap_b0_0_b5_7)
      have e0 := Ext.gbk e0 fr_b0_0 hg
      clear hg
      replace c0_0 := cX
      clear cX hu
      refine J.nil ?_
      refine J.n_then ?_
      refine J.ret ?_
      exact J.ret1c rfl rfl ag51 ti51 c0_0 0 rfl (⟨_, rfl, congrArg (fun l => Ag (fun x : UInt8 => B x) l) (by rw [show k = 256 by omega, boxG_all]), e0⟩)
end Ytpkpicnldpbomaa
end Go.Proofs
