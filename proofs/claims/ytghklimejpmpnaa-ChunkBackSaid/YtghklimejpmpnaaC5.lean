import Derived.Test.YtghklimejpmpnaaT
import Derived.Test.YtghklimejpmpnaaC4
set_option linter.unusedVariables false
set_option linter.unusedSimpArgs false
set_option maxRecDepth 100000
set_option maxHeartbeats 4000000
namespace Go.Proofs
open Go.X Go.RowKit
namespace Ytghklimejpmpnaa
theorem Made_ok {x : Pc} {l : List UInt8} {w : World} (hx : Bs w x.2.2.2 l) : C Try.prog 12 [.agg (pcS.c x).toArray] w (Ret fun v w' => v = .agg (pcS.c x).toArray ∧ Ext w w') := by
  have e0 := Ext.refl w
  refine C.enter Try.func12 rfl Try.ntmps12 rfl ?_
  refine J.seq ?_
  refine J.region ?_
  refine J.eff (Ye.box (S := [(0, 1, [I x.1]), (1, 1, [I x.2.1]), (2, 1, [I x.2.2.1]), (3, 1, [x.2.2.2])]) rfl (by simp [SegAll, SegOK, Value.cells, pcS])) rfl ?_
  rintro _ w1 ⟨b1_0, rfl, hb_, c1_0, x1⟩
  have fr_b1_0 : Fr w.heap.size (some b1_0) := Fr.le (Fr.blk hb_) e0.size
  have e0 := e0.trans x1
  clear x1 hb_
  refine J.eff (Ye.alloc ti29 (S := [(0, 4, [I 0, I 0, I 0, nilS])]) (by simp [SegAll, SegOK, Value.cells, nilS])) rfl ?_
  rintro _ w2 ⟨b2_1, rfl, hb_, c2_1, x1⟩
  have ap_b1_0_b2_1 : Ap (some b1_0) (some b2_1) := Ap.mk (Cel.live c1_0) (Fr.blk hb_)
  have fr_b2_1 : Fr w.heap.size (some b2_1) := Fr.le (Fr.blk hb_) e0.size
  have e0 := e0.trans x1
  have c1_0 := c1_0.ext x1
  clear x1 hb_
  refine J.nil ?_
  refine J.n_then ?_
  refine J.seq ?_
  refine J.region ?_
  refine J.op (Yd.cast (Yd.fieldA Try.underlying31 rfl ti3 rfl rfl) (show _ = Value.pointer (some ⟨b1_0, 0, none⟩) from rfl)) rfl ?_
  refine J.op (Yd.load pl3 rfl (Cel.cell1 c1_0 0 rfl)) rfl ?_
  refine J.op (Yd.cast (Yd.fieldA Try.underlying31 rfl ti3 rfl rfl) (show _ = Value.pointer (some ⟨b1_0, 1, none⟩) from rfl)) rfl ?_
  refine J.op (Yd.load pl3 rfl (Cel.cell1 c1_0 1 rfl)) rfl ?_
  refine J.op (Yd.cast (Yd.fieldA Try.underlying31 rfl ti3 rfl rfl) (show _ = Value.pointer (some ⟨b1_0, 2, none⟩) from rfl)) rfl ?_
  refine J.op (Yd.load pl3 rfl (Cel.cell1 c1_0 2 rfl)) rfl ?_
  refine J.op (Yd.cast (Yd.fieldA Try.underlying31 rfl ti22 rfl rfl) (show _ = Value.pointer (some ⟨b1_0, 3, none⟩) from rfl)) rfl ?_
  refine J.op (Yd.load pl22 rfl (Cel.cell1 c1_0 3 rfl)) rfl ?_
  have hcS := Rd.cells hx
  refine J.op (Yd.cast (Yd.buildV (pl := [(0, 1), (1, 1), (2, 1), (3, 1)]) Try.underlying29 (by kernel_rfl) ti29 rfl rfl (by simp [OffOK, cells_agg, cells_int, hcS]) (by simp [catV, cells_agg, cells_int, hcS])) (show _ = Value.agg (pcS.c x).toArray from by simp [catV, cells_agg, cells_int, hcS, pcS])) rfl ?_
  refine J.eff0 (Ye.storeA (ys := pcS.c x) ti29 c2_1 0 rfl rfl rfl rfl (by rfl) (by intro v_ hv_; simp only [pcS, List.mem_cons, List.mem_nil_iff, or_false] at hv_; rcases hv_ with rfl | rfl | rfl | rfl; rfl; rfl; rfl; exact Rd.one hx)) ?_
  rintro _ w3 ⟨cX, hu⟩
  simp only [List.set_cons_zero, List.set_cons_succ] at cX
  have hg := hu.gb
  have c1_0 := Cel.gbk c1_0 hg ap_b1_0_b2_1
  have e0 := Ext.gbk e0 fr_b2_1 hg
  clear hg
  replace c2_1 := cX
  clear cX hu
  refine J.nil ?_
  refine J.n_then ?_
  refine J.ret ?_
  exact J.ret1c rfl rfl ag29 ti29 c2_1 0 rfl (⟨_, rfl, rfl, e0⟩)

theorem AddNil_ok {x : Pc} {w : World} : C Try.prog 11 [.pointer none, .agg (pcS.c x).toArray] w (Ret fun v w' => v = I 1 ∧ Ext w w') := by
  have e0 := Ext.refl w
  refine C.enter Try.func11 rfl Try.ntmps11 rfl ?_
  refine J.seq ?_
  refine J.region ?_
  refine J.eff (Ye.box (S := [(0, 1, [I x.1]), (1, 1, [I x.2.1]), (2, 1, [I x.2.2.1]), (3, 1, [x.2.2.2])]) rfl (by simp [SegAll, SegOK, Value.cells, pcS])) rfl ?_
  rintro _ w1 ⟨b3_0, rfl, hb_, c3_0, x1⟩
  have fr_b3_0 : Fr w.heap.size (some b3_0) := Fr.le (Fr.blk hb_) e0.size
  have e0 := e0.trans x1
  clear x1 hb_
  refine J.op (Yd.assign rfl) rfl ?_
  refine J.nil ?_
  refine J.n_then ?_
  refine J.seq ?_
  refine J.block ?_
  refine J.seq ?_
  refine J.region ?_
  refine J.op (Yd.move rfl) rfl ?_
  refine J.op (Yd.cast (Yd.eqPn Try.underlying32 rfl rfl) (show _ = Value.bool true from rfl)) rfl ?_
  refine J.op (Yd.assign rfl) rfl ?_
  refine J.nil ?_
  refine J.n_then ?_
  refine J.cond_true rfl ?_
  refine J.seq ?_
  refine J.region ?_
  refine J.op (Yd.assign rfl) rfl ?_
  refine J.nil ?_
  refine J.n_then ?_
  refine J.ret ?_
  refine J.r_block ?_
  refine J.r_then ?_
  exact J.ret1 rfl rfl (⟨_, rfl, rfl, e0⟩)

theorem DoneNil_ok {w : World} : C Try.prog 10 [.pointer none] w (Ret fun v w' => v = .tuple #[nilS, .bool false] ∧ Ext w w') := by
  have e0 := Ext.refl w
  refine C.enter Try.func10 rfl Try.ntmps10 rfl ?_
  refine J.seq ?_
  refine J.region ?_
  refine J.op (Yd.assign rfl) rfl ?_
  refine J.op (Yd.assign rfl) rfl ?_
  refine J.nil ?_
  refine J.n_then ?_
  refine J.seq ?_
  refine J.seq ?_
  refine J.region ?_
  refine J.op (Yd.move rfl) rfl ?_
  refine J.op (Yd.cast (Yd.eqPn Try.underlying32 rfl rfl) (show _ = Value.bool true from rfl)) rfl ?_
  refine J.op (Yd.move rfl) rfl ?_
  refine J.not_g rfl rfl rfl rfl rfl ?_
  refine J.not_g rfl rfl rfl rfl rfl ?_
  refine J.not_g rfl rfl rfl rfl rfl ?_
  refine J.not_g rfl rfl rfl rfl rfl ?_
  refine J.not_g rfl rfl rfl rfl rfl ?_
  refine J.not_g rfl rfl rfl rfl rfl ?_
  refine J.op (Yd.pick_t rfl rfl) rfl ?_
  refine J.op (Yd.move rfl) rfl ?_
  refine J.not_g rfl rfl rfl rfl rfl ?_
  refine J.not_g rfl rfl rfl rfl rfl ?_
  refine J.not_g rfl rfl rfl rfl rfl ?_
  refine J.not_g rfl rfl rfl rfl rfl ?_
  refine J.op (Yd.pick_t rfl rfl) rfl ?_
  refine J.nil ?_
  refine J.n_then ?_
  refine J.cond_true rfl ?_
  refine J.seq ?_
  refine J.region ?_
  refine J.op (Yd.assign rfl) rfl ?_
  refine J.op (Yd.assign rfl) rfl ?_
  refine J.nil ?_
  refine J.n_then ?_
  refine J.ret ?_
  refine J.r_then ?_
  exact J.ret2 rfl rfl rfl (⟨_, rfl, rfl, e0⟩)

theorem MissingNil_ok {w : World} : C Try.prog 13 [.pointer none] w (Ret fun v w' => v = nilS ∧ Ext w w') := by
  have e0 := Ext.refl w
  refine C.enter Try.func13 rfl Try.ntmps13 rfl ?_
  refine J.seq ?_
  refine J.region ?_
  refine J.op (Yd.assign rfl) rfl ?_
  refine J.nil ?_
  refine J.n_then ?_
  refine J.seq ?_
  refine J.seq ?_
  refine J.region ?_
  refine J.op (Yd.move rfl) rfl ?_
  refine J.op (Yd.cast (Yd.eqPn Try.underlying32 rfl rfl) (show _ = Value.bool true from rfl)) rfl ?_
  refine J.nil ?_
  refine J.n_then ?_
  refine J.cond_true rfl ?_
  refine J.seq ?_
  refine J.region ?_
  refine J.op (Yd.assign rfl) rfl ?_
  refine J.nil ?_
  refine J.n_then ?_
  refine J.ret ?_
  refine J.r_then ?_
  exact J.ret1 rfl rfl (⟨_, rfl, rfl, e0⟩)

theorem Nothing_ok {x : Pc} {l : List UInt8} {w : World} (hx : Bs w x.2.2.2 l) : C Try.prog 4 [.agg (pcS.c x).toArray] w (Ret fun v w' => v = .bool true ∧ Ext w w') := by
  have e0 := Ext.refl w
  refine C.enter Try.func4 rfl Try.ntmps4 rfl ?_
  refine J.seq ?_
  refine J.region ?_
  refine J.eff (Ye.box (S := [(0, 1, [I x.1]), (1, 1, [I x.2.1]), (2, 1, [I x.2.2.1]), (3, 1, [x.2.2.2])]) rfl (by simp [SegAll, SegOK, Value.cells, pcS])) rfl ?_
  rintro _ w1 ⟨b1_0, rfl, hb_, c1_0, x1⟩
  have fr_b1_0 : Fr w.heap.size (some b1_0) := Fr.le (Fr.blk hb_) e0.size
  have e0 := e0.trans x1
  clear x1 hb_
  refine J.op (Yd.assign rfl) rfl ?_
  refine J.nil ?_
  refine J.n_then ?_
  refine J.seq ?_
  refine J.seq ?_
  refine J.region ?_
  refine J.op (Yd.cast (Yd.fieldA Try.underlying31 rfl ti22 rfl rfl) (show _ = Value.pointer (some ⟨b1_0, 3, none⟩) from rfl)) rfl ?_
  refine J.op (Yd.load pl22 rfl (Cel.cell1 c1_0 3 rfl)) rfl ?_
  refine J.op (Yd.len_b Try.underlying22 rfl (Rd.ext hx e0)) rfl ?_
  refine J.op (Yd.gtr rfl rfl) rfl ?_
  refine J.nil ?_
  refine J.n_then ?_
  refine J.cond_dec rfl (fun hc0 => ?_) (fun hc0 => ?_)
  · skip
    refine J.seq ?_
    refine J.region ?_
    refine J.eff (Ye.call cl8 rfl (Awake_ok)) rfl ?_
    rintro _ w2 ⟨rfl, x1⟩
    have e0 := e0.trans x1
    have c1_0 := c1_0.ext x1
    clear x1
    refine J.op (Yd.assign rfl) rfl ?_
    refine J.nil ?_
    refine J.n_then ?_
    refine J.ret ?_
    refine J.r_then ?_
    exact J.ret1 rfl rfl (⟨_, rfl, rfl, e0⟩)
  · skip
    refine J.skip ?_
    refine J.n_then ?_
    refine J.seq ?_
    refine J.region ?_
    refine J.op (Yd.assign rfl) rfl ?_
    refine J.nil ?_
    refine J.n_then ?_
    refine J.seq ?_
    refine J.region ?_
    refine J.op (Yd.move rfl) rfl ?_
    refine J.eff (Ye.call cl10 rfl (DoneNil_ok)) rfl ?_
    rintro _ w3 ⟨rfl, x1⟩
    have e0 := e0.trans x1
    have c1_0 := c1_0.ext x1
    clear x1
    refine J.op (Yd.move rfl) rfl ?_
    refine J.op (Yd.extract rfl rfl) rfl ?_
    refine J.op (Yd.extract rfl rfl) rfl ?_
    refine J.op (Yd.assign rfl) rfl ?_
    refine J.op (Yd.assign rfl) rfl ?_
    refine J.nil ?_
    refine J.n_then ?_
    refine J.seq ?_
    refine J.region ?_
    refine J.op (Yd.move rfl) rfl ?_
    refine J.op (Yd.cast (Yd.loadA ag31 ti31 rfl (Cel.j4 c1_0) 0 rfl) (show _ = .agg (pcS.c x).toArray from rfl)) rfl ?_
    refine J.eff (Ye.call cl12 rfl (Made_ok (hx.ext e0))) rfl ?_
    rintro _ w4 ⟨rfl, x1⟩
    have e0 := e0.trans x1
    have c1_0 := c1_0.ext x1
    clear x1
    refine J.eff (Ye.call cl11 rfl (AddNil_ok)) rfl ?_
    rintro _ w5 ⟨rfl, x1⟩
    have e0 := e0.trans x1
    have c1_0 := c1_0.ext x1
    clear x1
    refine J.op (Yd.eql rfl rfl) rfl ?_
    refine J.op (Yd.move rfl) rfl ?_
    refine J.know (t := 21) (v' := .bool true) rfl (tt (by decide)) ?_
    refine J.op_g rfl rfl rfl (Yd.move rfl) rfl ?_
    refine J.op_g rfl rfl rfl (Yd.len_nil Try.underlying22 rfl) rfl ?_
    refine J.op_g rfl rfl rfl (Yd.eql rfl rfl) rfl ?_
    refine J.op (Yd.pick_t rfl rfl) rfl ?_
    refine J.op (Yd.move rfl) rfl ?_
    refine J.know (t := 26) (v' := .bool true) rfl (rfl) ?_
    refine J.op_g rfl rfl rfl (Yd.move rfl) rfl ?_
    refine J.op_g rfl rfl rfl (Yd.not rfl) rfl ?_
    refine J.op (Yd.pick_t rfl rfl) rfl ?_
    refine J.op (Yd.move rfl) rfl ?_
    refine J.op_g rfl rfl rfl (Yd.move rfl) rfl ?_
    refine J.eff_g rfl rfl rfl (Ye.call cl13 rfl (MissingNil_ok)) rfl ?_
    rintro _ w6 ⟨rfl, x1⟩
    have e0 := e0.trans x1
    have c1_0 := c1_0.ext x1
    clear x1
    refine J.op_g rfl rfl rfl (Yd.len_nil Try.underlying37 rfl) rfl ?_
    refine J.op_g rfl rfl rfl (Yd.eql rfl rfl) rfl ?_
    refine J.op (Yd.pick_t rfl rfl) rfl ?_
    refine J.op (Yd.move rfl) rfl ?_
    refine J.know (t := 36) (v' := .bool true) rfl (rfl) ?_
    refine J.eff_g rfl rfl rfl (Ye.call cl8 rfl (Awake_ok)) rfl ?_
    rintro _ w7 ⟨rfl, x1⟩
    have e0 := e0.trans x1
    have c1_0 := c1_0.ext x1
    clear x1
    refine J.op (Yd.pick_t rfl rfl) rfl ?_
    refine J.op (Yd.assign rfl) rfl ?_
    refine J.nil ?_
    refine J.n_then ?_
    refine J.ret ?_
    exact J.ret1 rfl rfl (⟨_, rfl, rfl, e0⟩)
end Ytghklimejpmpnaa
end Go.Proofs
