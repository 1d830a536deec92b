import Derived.Test.YtfefphcmfhabiaaT
import Derived.Test.YtfefphcmfhabiaaJ1
import Derived.Test.YtfefphcmfhabiaaF5
set_option linter.unusedVariables false
set_option linter.unusedSimpArgs false
set_option maxRecDepth 100000
set_option maxHeartbeats 4000000
namespace Go.Proofs
open Go.X Go.RowKit
namespace Ytfefphcmfhabiaa
theorem At_ok {b : Nat} {n : Int} {s : Value} {es : List Ent} {m1 m2 : Int} {w : World} (hc : Cel w b 56 [(0, 1, [I n]), (1, 1, [s])]) (hr : Er entS w s es) : C Try.prog 26 [.pointer (some ⟨b, 0, none⟩), I m1, I m2] w (Ret fun v w' => v = I (idxI (eqE m1 m2) es) ∧ Ext w w') := by
  have e0 := Ext.refl w
  refine C.enter Try.func26 rfl Try.ntmps26 rfl ?_
  refine J.seq ?_
  refine J.region ?_
  refine J.eff (Ye.box (S := [(0, 1, [I m1])]) rfl (by simp [SegAll, SegOK, Value.cells])) rfl ?_
  rintro _ w1 ⟨b4_0, rfl, hb_, c4_0, x1⟩
  have fr_b4_0 : Fr w.heap.size (some b4_0) := Fr.le (Fr.blk hb_) e0.size
  have e0 := e0.trans x1
  clear x1 hb_
  refine J.eff (Ye.box (S := [(0, 1, [I m2])]) rfl (by simp [SegAll, SegOK, Value.cells])) rfl ?_
  rintro _ w2 ⟨b5_1, rfl, hb_, c5_1, x1⟩
  have ap_b4_0_b5_1 : Ap (some b4_0) (some b5_1) := Ap.mk (Cel.live c4_0) (Fr.blk hb_)
  have fr_b5_1 : Fr w.heap.size (some b5_1) := Fr.le (Fr.blk hb_) e0.size
  have e0 := e0.trans x1
  have c4_0 := c4_0.ext x1
  clear x1 hb_
  refine J.op (Yd.assign rfl) rfl ?_
  refine J.nil ?_
  refine J.n_then ?_
  refine J.seq ?_
  refine J.seq ?_
  refine J.region ?_
  refine J.op (Yd.move rfl) rfl ?_
  refine J.op (Yd.cast (Yd.eqPn Try.underlying23 rfl rfl) (show _ = Value.bool false from rfl)) rfl ?_
  refine J.nil ?_
  refine J.n_then ?_
  refine J.cond_false rfl ?_
  refine J.skip ?_
  refine J.n_then ?_
  refine J.seq ?_
  refine J.region ?_
  refine J.op (Yd.move rfl) rfl ?_
  refine J.op (Yd.nilCheck rfl) rfl ?_
  refine J.op (Yd.cast (Yd.fieldA Try.underlying56 rfl ti54 rfl rfl) (show _ = Value.pointer (some ⟨b, 1, none⟩) from rfl)) rfl ?_
  refine J.op (Yd.load pl54 rfl (Cel.cell1 (Cel.ext hc e0) 1 rfl)) rfl ?_
  refine J.op (Yd.mkFuncC rfl rfl) rfl ?_
  refine J.eff (Ye.call cl46 rfl (IdxAt_ok (Er.ext hr e0) c4_0 c5_1)) rfl ?_
  rintro _ w3 ⟨rfl, x1⟩
  have e0 := e0.trans x1
  have c4_0 := c4_0.ext x1
  have c5_1 := c5_1.ext x1
  clear x1
  refine J.op (Yd.assign rfl) rfl ?_
  refine J.nil ?_
  refine J.n_then ?_
  refine J.ret ?_
  exact J.ret1 rfl rfl (⟨_, rfl, rfl, e0⟩)

theorem AtNil_ok {m1 m2 : Int} {w : World} : C Try.prog 26 [.pointer none, I m1, I m2] w (Ret fun v w' => v = I (-1) ∧ Ext w w') := by
  have e0 := Ext.refl w
  refine C.enter Try.func26 rfl Try.ntmps26 rfl ?_
  refine J.seq ?_
  refine J.region ?_
  refine J.eff (Ye.box (S := [(0, 1, [I m1])]) rfl (by simp [SegAll, SegOK, Value.cells])) rfl ?_
  rintro _ w1 ⟨b4_0, rfl, hb_, c4_0, x1⟩
  have fr_b4_0 : Fr w.heap.size (some b4_0) := Fr.le (Fr.blk hb_) e0.size
  have e0 := e0.trans x1
  clear x1 hb_
  refine J.eff (Ye.box (S := [(0, 1, [I m2])]) rfl (by simp [SegAll, SegOK, Value.cells])) rfl ?_
  rintro _ w2 ⟨b5_1, rfl, hb_, c5_1, x1⟩
  have ap_b4_0_b5_1 : Ap (some b4_0) (some b5_1) := Ap.mk (Cel.live c4_0) (Fr.blk hb_)
  have fr_b5_1 : Fr w.heap.size (some b5_1) := Fr.le (Fr.blk hb_) e0.size
  have e0 := e0.trans x1
  have c4_0 := c4_0.ext x1
  clear x1 hb_
  refine J.op (Yd.assign rfl) rfl ?_
  refine J.nil ?_
  refine J.n_then ?_
  refine J.seq ?_
  refine J.seq ?_
  refine J.region ?_
  refine J.op (Yd.move rfl) rfl ?_
  refine J.op (Yd.cast (Yd.eqPn Try.underlying23 rfl rfl) (show _ = Value.bool true from rfl)) rfl ?_
  refine J.nil ?_
  refine J.n_then ?_
  refine J.cond_true rfl ?_
  refine J.seq ?_
  refine J.region ?_
  refine J.op (Yd.assign rfl) rfl ?_
  refine J.nil ?_
  refine J.n_then ?_
  refine J.ret ?_
  refine J.r_then ?_
  exact J.ret1 rfl rfl (⟨_, rfl, rfl, e0⟩)

theorem Has_ok {b : Nat} {n : Int} {s : Value} {es : List Ent} {m1 m2 : Int} {w : World} (hc : Cel w b 56 [(0, 1, [I n]), (1, 1, [s])]) (hr : Er entS w s es) : C Try.prog 16 [.pointer (some ⟨b, 0, none⟩), I m1, I m2] w (Ret fun v w' => v = .bool (decide (idxI (eqE m1 m2) es ≥ 0)) ∧ Ext w w') := by
  have e0 := Ext.refl w
  refine C.enter Try.func16 rfl Try.ntmps16 rfl ?_
  refine J.seq ?_
  refine J.region ?_
  refine J.op (Yd.assign rfl) rfl ?_
  refine J.nil ?_
  refine J.n_then ?_
  refine J.seq ?_
  refine J.region ?_
  refine J.op (Yd.move rfl) rfl ?_
  refine J.op (Yd.move rfl) rfl ?_
  refine J.op (Yd.move rfl) rfl ?_
  refine J.eff (Ye.call cl26 rfl (At_ok (Cel.ext hc e0) (Er.ext hr e0))) rfl ?_
  rintro _ w1 ⟨rfl, x1⟩
  have e0 := e0.trans x1
  clear x1
  refine J.op (Yd.geq rfl rfl) rfl ?_
  refine J.op (Yd.assign rfl) rfl ?_
  refine J.nil ?_
  refine J.n_then ?_
  refine J.ret ?_
  exact J.ret1 rfl rfl (⟨_, rfl, rfl, e0⟩)

theorem HasNil_ok {m1 m2 : Int} {w : World} : C Try.prog 16 [.pointer none, I m1, I m2] w (Ret fun v w' => v = .bool false ∧ Ext w w') := by
  have e0 := Ext.refl w
  refine C.enter Try.func16 rfl Try.ntmps16 rfl ?_
  refine J.seq ?_
  refine J.region ?_
  refine J.op (Yd.assign rfl) rfl ?_
  refine J.nil ?_
  refine J.n_then ?_
  refine J.seq ?_
  refine J.region ?_
  refine J.op (Yd.move rfl) rfl ?_
  refine J.op (Yd.move rfl) rfl ?_
  refine J.op (Yd.move rfl) rfl ?_
  refine J.eff (Ye.call cl26 rfl (AtNil_ok)) rfl ?_
  rintro _ w1 ⟨rfl, x1⟩
  have e0 := e0.trans x1
  clear x1
  refine J.op (Yd.geq rfl rfl) rfl ?_
  refine J.op (Yd.assign rfl) rfl ?_
  refine J.nil ?_
  refine J.n_then ?_
  refine J.ret ?_
  exact J.ret1 rfl rfl (⟨_, rfl, rfl, e0⟩)

theorem Len_ok {b : Nat} {n : Int} {s : Value} {es : List Ent} {w : World} (hc : Cel w b 56 [(0, 1, [I n]), (1, 1, [s])]) (hr : Er entS w s es) : C Try.prog 13 [.pointer (some ⟨b, 0, none⟩)] w (Ret fun v w' => v = I (es.length : Int) ∧ Ext w w') := by
  have e0 := Ext.refl w
  refine C.enter Try.func13 rfl Try.ntmps13 rfl ?_
  refine J.seq ?_
  refine J.region ?_
  refine J.op (Yd.assign rfl) rfl ?_
  refine J.nil ?_
  refine J.n_then ?_
  refine J.seq ?_
  refine J.seq ?_
  refine J.region ?_
  refine J.op (Yd.move rfl) rfl ?_
  refine J.op (Yd.cast (Yd.eqPn Try.underlying23 rfl rfl) (show _ = Value.bool false from rfl)) rfl ?_
  refine J.nil ?_
  refine J.n_then ?_
  refine J.cond_false rfl ?_
  refine J.skip ?_
  refine J.n_then ?_
  refine J.seq ?_
  refine J.region ?_
  refine J.op (Yd.move rfl) rfl ?_
  refine J.op (Yd.nilCheck rfl) rfl ?_
  refine J.op (Yd.cast (Yd.fieldA Try.underlying56 rfl ti54 rfl rfl) (show _ = Value.pointer (some ⟨b, 1, none⟩) from rfl)) rfl ?_
  refine J.op (Yd.load pl54 rfl (Cel.cell1 (Cel.ext hc e0) 1 rfl)) rfl ?_
  refine J.op (Yd.lenE (K := entS) Try.underlying54 rfl (Er.ext hr e0)) rfl ?_
  refine J.op (Yd.assign rfl) rfl ?_
  refine J.nil ?_
  refine J.n_then ?_
  refine J.ret ?_
  exact J.ret1 rfl rfl (⟨_, rfl, rfl, e0⟩)

theorem LenNil_ok {w : World} : C Try.prog 13 [.pointer none] w (Ret fun v w' => v = I 0 ∧ Ext w w') := by
  have e0 := Ext.refl w
  refine C.enter Try.func13 rfl Try.ntmps13 rfl ?_
  refine J.seq ?_
  refine J.region ?_
  refine J.op (Yd.assign rfl) rfl ?_
  refine J.nil ?_
  refine J.n_then ?_
  refine J.seq ?_
  refine J.seq ?_
  refine J.region ?_
  refine J.op (Yd.move rfl) rfl ?_
  refine J.op (Yd.cast (Yd.eqPn Try.underlying23 rfl rfl) (show _ = Value.bool true from rfl)) rfl ?_
  refine J.nil ?_
  refine J.n_then ?_
  refine J.cond_true rfl ?_
  refine J.seq ?_
  refine J.region ?_
  refine J.op (Yd.assign rfl) rfl ?_
  refine J.nil ?_
  refine J.n_then ?_
  refine J.ret ?_
  refine J.r_then ?_
  exact J.ret1 rfl rfl (⟨_, rfl, rfl, e0⟩)

theorem Within_ok {n : Int} {w : World} : C Try.prog 23 [I n] w (Ret fun v w' => v = .bool (decide (wiK n)) ∧ Ext w w') := by
  have e0 := Ext.refl w
  refine C.enter Try.func23 rfl Try.ntmps23 rfl ?_
  refine J.seq ?_
  refine J.region ?_
  refine J.op (Yd.assign rfl) rfl ?_
  refine J.nil ?_
  refine J.n_then ?_
  refine J.seq ?_
  refine J.region ?_
  refine J.op (Yd.move rfl) rfl ?_
  refine J.op (Yd.geq rfl rfl) rfl ?_
  refine J.op (Yd.move rfl) rfl ?_
  refine J.split_dec (t := 5) rfl (fun h1 => ?_) (fun h1 => ?_)
  · skip
    refine J.op_g rfl rfl rfl (Yd.move rfl) rfl ?_
    refine J.op_g rfl rfl rfl (Yd.leq rfl rfl) rfl ?_
    refine J.op (Yd.pick_t rfl rfl) rfl ?_
    refine J.op (Yd.assign rfl) rfl ?_
    refine J.nil ?_
    refine J.n_then ?_
    refine J.ret ?_
    exact J.ret1 rfl rfl (⟨_, rfl, (by first | exact congrArg Value.bool (wiK_yes h1) | exact congrArg Value.bool (wiK_no h1)), e0⟩)
  · skip
    refine J.not_g rfl rfl rfl rfl rfl ?_
    refine J.not_g rfl rfl rfl rfl rfl ?_
    refine J.op (Yd.pick_f rfl rfl) rfl ?_
    refine J.op (Yd.assign rfl) rfl ?_
    refine J.nil ?_
    refine J.n_then ?_
    refine J.ret ?_
    exact J.ret1 rfl rfl (⟨_, rfl, (by first | exact congrArg Value.bool (wiK_yes h1) | exact congrArg Value.bool (wiK_no h1)), e0⟩)
end Ytfefphcmfhabiaa
end Go.Proofs
