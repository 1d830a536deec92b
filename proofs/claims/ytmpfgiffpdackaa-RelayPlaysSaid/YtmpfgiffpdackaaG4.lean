import Derived.Test.YtmpfgiffpdackaaT
import Derived.Test.YtmpfgiffpdackaaG3
set_option linter.unusedVariables false
set_option linter.unusedSimpArgs false
set_option maxRecDepth 100000
set_option maxHeartbeats 4000000
namespace Go.Proofs
open Go.X Go.RowKit
namespace Ytmpfgiffpdackaa
theorem New_raw {t : Int} {w : World} : C Try.prog 9 [I t] w (Ret fun u w' => ∃ b mb, u = .pointer (some ⟨b, 0, none⟩) ∧ w.heap.size ≤ b ∧ w.heap.size ≤ mb ∧ b ≠ mb ∧ Cel w' b 65 [(0, 1, [I (exI t)]), (1, 1, [I 0]), (2, 1, [I 0]), (3, 1, [.map (some mb)])] ∧ Mp w' mb [] ∧ Ext w w') := by
  have e0 := Ext.refl w
  refine C.enter Try.func9 rfl Try.ntmps9 rfl ?_
  refine J.seq ?_
  refine J.region ?_
  refine J.op (Yd.assign rfl) rfl ?_
  refine J.nil ?_
  refine J.n_then ?_
  refine J.seq ?_
  refine J.region ?_
  refine J.op (Yd.move rfl) rfl ?_
  refine J.op (Yd.maxi rfl rfl) rfl ?_
  refine J.op (Yd.cast (Yd.mini rfl rfl) (show _ = I (exI t) from rfl)) rfl ?_
  refine J.eff (Ye.makeMap) rfl ?_
  rintro _ w1 ⟨mb6, rfl, hb_mb6, hm_mb6, x1⟩
  have fr_mb6 : Fr w.heap.size (some mb6) := Fr.le (Fr.blk hb_mb6) e0.size
  have e0 := e0.trans x1
  clear x1
  refine J.op (Yd.buildS (cells := #[I (exI t), I 0, I 0, .map (some mb6)]) (pl := [(0, 1), (1, 1), (2, 1), (3, 1)]) Try.underlying65 (by kernel_rfl) ti65 rfl (by rfl)) rfl ?_
  refine J.eff (Ye.box (S := [(0, 1, [I (exI t)]), (1, 1, [I 0]), (2, 1, [I 0]), (3, 1, [.map (some mb6)])]) rfl (by simp [SegAll, SegOK, Value.cells])) rfl ?_
  rintro _ w2 ⟨b8_1, rfl, hb_, c8_1, x1⟩
  have ap_mb6_b8_1 : Ap (some mb6) (some b8_1) := Ap.mk (Mp.live hm_mb6) (Fr.blk hb_)
  have fr_b8_1 : Fr w.heap.size (some b8_1) := Fr.le (Fr.blk hb_) e0.size
  have e0 := e0.trans x1
  have hm_mb6 := hm_mb6.ext x1
  clear x1 hb_
  refine J.op (Yd.assign rfl) rfl ?_
  refine J.nil ?_
  refine J.n_then ?_
  refine J.ret ?_
  exact J.ret1 rfl rfl (⟨_, rfl, b8_1, mb6, rfl, fr_b8_1 _ rfl, fr_mb6 _ rfl, (fun e => (Ap.symm ap_mb6_b8_1) _ rfl (by rw [e])), c8_1, hm_mb6, e0⟩)

theorem Len_raw {b mb : Nat} {ex now last : Int} {m : List (Key × Value)} {to : Key} {es : List Itm} {w : World} (hc : Cel w b 65 [(0, 1, [I ex]), (1, 1, [I now]), (2, 1, [I last]), (3, 1, [.map (some mb)])]) (hm : Mp w mb m) (hr : Er itmS w ((mget m to).getD nilS) es) : C Try.prog 15 [.pointer (some ⟨b, 0, none⟩), Str to] w (Ret fun v w' => v = I (es.length : Int) ∧ Ext w w') := by
  have e0 := Ext.refl w
  refine C.enter Try.func15 rfl Try.ntmps15 rfl ?_
  refine J.seq ?_
  refine J.region ?_
  refine J.op (Yd.assign rfl) rfl ?_
  refine J.nil ?_
  refine J.n_then ?_
  refine J.seq ?_
  refine J.seq ?_
  refine J.region ?_
  refine J.op (Yd.move rfl) rfl ?_
  refine J.op (Yd.cast (Yd.eqPn Try.underlying24 rfl rfl) (show _ = Value.bool false from rfl)) rfl ?_
  refine J.nil ?_
  refine J.n_then ?_
  refine J.cond_false rfl ?_
  refine J.skip ?_
  refine J.n_then ?_
  refine J.seq ?_
  refine J.region ?_
  refine J.op (Yd.move rfl) rfl ?_
  refine J.op (Yd.nilCheck rfl) rfl ?_
  refine J.op (Yd.cast (Yd.fieldA Try.underlying65 rfl ti63 rfl rfl) (show _ = Value.pointer (some ⟨b, 3, none⟩) from rfl)) rfl ?_
  refine J.op (Yd.load pl63 rfl (Cel.cell1 (Cel.ext hc e0) 3 rfl)) rfl ?_
  refine J.op (Yd.move rfl) rfl ?_
  refine J.op (Yd.cast (Yd.lookupS Try.underlying63 Try.underlying9 ti31 rfl rfl (hm.ext e0)) (show _ = ((mget m to).getD nilS) from rfl)) rfl ?_
  refine J.op (Yd.lenE (K := itmS) Try.underlying31 rfl (Er.ext hr e0)) rfl ?_
  refine J.op (Yd.assign rfl) rfl ?_
  refine J.nil ?_
  refine J.n_then ?_
  refine J.ret ?_
  exact J.ret1 rfl rfl (⟨_, rfl, rfl, e0⟩)

theorem LenNil_ok {to : Key} {w : World} : C Try.prog 15 [.pointer none, Str to] w (Ret fun v w' => v = I 0 ∧ Ext w w') := by
  have e0 := Ext.refl w
  refine C.enter Try.func15 rfl Try.ntmps15 rfl ?_
  refine J.seq ?_
  refine J.region ?_
  refine J.op (Yd.assign rfl) rfl ?_
  refine J.nil ?_
  refine J.n_then ?_
  refine J.seq ?_
  refine J.seq ?_
  refine J.region ?_
  refine J.op (Yd.move rfl) rfl ?_
  refine J.op (Yd.cast (Yd.eqPn Try.underlying24 rfl rfl) (show _ = Value.bool true from rfl)) rfl ?_
  refine J.nil ?_
  refine J.n_then ?_
  refine J.cond_true rfl ?_
  refine J.seq ?_
  refine J.region ?_
  refine J.op (Yd.assign rfl) rfl ?_
  refine J.nil ?_
  refine J.n_then ?_
  refine J.ret ?_
  refine J.r_then ?_
  exact J.ret1 rfl rfl (⟨_, rfl, rfl, e0⟩)

theorem Now_raw {b mb : Nat} {ex now last : Int} {m : List (Key × Value)} {w : World} (hc : Cel w b 65 [(0, 1, [I ex]), (1, 1, [I now]), (2, 1, [I last]), (3, 1, [.map (some mb)])]) (hm : Mp w mb m) : C Try.prog 14 [.pointer (some ⟨b, 0, none⟩)] w (Ret fun v w' => v = I now ∧ Ext w w') := by
  have e0 := Ext.refl w
  refine C.enter Try.func14 rfl Try.ntmps14 rfl ?_
  refine J.seq ?_
  refine J.region ?_
  refine J.op (Yd.assign rfl) rfl ?_
  refine J.nil ?_
  refine J.n_then ?_
  refine J.seq ?_
  refine J.seq ?_
  refine J.region ?_
  refine J.op (Yd.move rfl) rfl ?_
  refine J.op (Yd.cast (Yd.eqPn Try.underlying24 rfl rfl) (show _ = Value.bool false from rfl)) rfl ?_
  refine J.nil ?_
  refine J.n_then ?_
  refine J.cond_false rfl ?_
  refine J.skip ?_
  refine J.n_then ?_
  refine J.seq ?_
  refine J.region ?_
  refine J.op (Yd.move rfl) rfl ?_
  refine J.op (Yd.nilCheck rfl) rfl ?_
  refine J.op (Yd.cast (Yd.fieldA Try.underlying65 rfl ti3 rfl rfl) (show _ = Value.pointer (some ⟨b, 1, none⟩) from rfl)) rfl ?_
  refine J.op (Yd.load pl3 rfl (Cel.cell1 (Cel.ext hc e0) 1 rfl)) rfl ?_
  refine J.op (Yd.assign rfl) rfl ?_
  refine J.nil ?_
  refine J.n_then ?_
  refine J.ret ?_
  exact J.ret1 rfl rfl (⟨_, rfl, rfl, e0⟩)

theorem NowNil_ok {w : World} : C Try.prog 14 [.pointer none] w (Ret fun v w' => v = I 0 ∧ Ext w w') := by
  have e0 := Ext.refl w
  refine C.enter Try.func14 rfl Try.ntmps14 rfl ?_
  refine J.seq ?_
  refine J.region ?_
  refine J.op (Yd.assign rfl) rfl ?_
  refine J.nil ?_
  refine J.n_then ?_
  refine J.seq ?_
  refine J.seq ?_
  refine J.region ?_
  refine J.op (Yd.move rfl) rfl ?_
  refine J.op (Yd.cast (Yd.eqPn Try.underlying24 rfl rfl) (show _ = Value.bool true from rfl)) rfl ?_
  refine J.nil ?_
  refine J.n_then ?_
  refine J.cond_true rfl ?_
  refine J.seq ?_
  refine J.region ?_
  refine J.op (Yd.assign rfl) rfl ?_
  refine J.nil ?_
  refine J.n_then ?_
  refine J.ret ?_
  refine J.r_then ?_
  exact J.ret1 rfl rfl (⟨_, rfl, rfl, e0⟩)

theorem At_raw {b mb : Nat} {ex now last : Int} {m : List (Key × Value)} {to : Key} {id : Int} {es : List Itm} {w : World} (hc : Cel w b 65 [(0, 1, [I ex]), (1, 1, [I now]), (2, 1, [I last]), (3, 1, [.map (some mb)])]) (hm : Mp w mb m) (hr : Er itmS w ((mget m to).getD nilS) es) : C Try.prog 31 [.pointer (some ⟨b, 0, none⟩), Str to, I id] w (Ret fun v w' => v = I (idxI (eqI id) es) ∧ Ext w w') := by
  have e0 := Ext.refl w
  refine C.enter Try.func31 rfl Try.ntmps31 rfl ?_
  refine J.seq ?_
  refine J.region ?_
  refine J.eff (Ye.box (S := [(0, 1, [I id])]) rfl (by simp [SegAll, SegOK, Value.cells])) rfl ?_
  rintro _ w1 ⟨b5_0, rfl, hb_, c5_0, x1⟩
  have fr_b5_0 : Fr w.heap.size (some b5_0) := Fr.le (Fr.blk hb_) e0.size
  have e0 := e0.trans x1
  clear x1 hb_
  refine J.op (Yd.assign rfl) rfl ?_
  refine J.nil ?_
  refine J.n_then ?_
  refine J.seq ?_
  refine J.seq ?_
  refine J.region ?_
  refine J.op (Yd.move rfl) rfl ?_
  refine J.op (Yd.cast (Yd.eqPn Try.underlying24 rfl rfl) (show _ = Value.bool false from rfl)) rfl ?_
  refine J.nil ?_
  refine J.n_then ?_
  refine J.cond_false rfl ?_
  refine J.skip ?_
  refine J.n_then ?_
  refine J.seq ?_
  refine J.region ?_
  refine J.op (Yd.move rfl) rfl ?_
  refine J.op (Yd.nilCheck rfl) rfl ?_
  refine J.op (Yd.cast (Yd.fieldA Try.underlying65 rfl ti63 rfl rfl) (show _ = Value.pointer (some ⟨b, 3, none⟩) from rfl)) rfl ?_
  refine J.op (Yd.load pl63 rfl (Cel.cell1 (Cel.ext hc e0) 3 rfl)) rfl ?_
  refine J.op (Yd.move rfl) rfl ?_
  refine J.op (Yd.cast (Yd.lookupS Try.underlying63 Try.underlying9 ti31 rfl rfl (hm.ext e0)) (show _ = ((mget m to).getD nilS) from rfl)) rfl ?_
  refine J.op (Yd.mkFuncC rfl rfl) rfl ?_
  refine J.eff (Ye.call cl34 rfl (IdxAt_ok (Er.ext hr e0) c5_0)) rfl ?_
  rintro _ w2 ⟨rfl, x1⟩
  have e0 := e0.trans x1
  have c5_0 := c5_0.ext x1
  clear x1
  refine J.op (Yd.assign rfl) rfl ?_
  refine J.nil ?_
  refine J.n_then ?_
  refine J.ret ?_
  exact J.ret1 rfl rfl (⟨_, rfl, rfl, e0⟩)

theorem AtNil_ok {to : Key} {id : Int} {w : World} : C Try.prog 31 [.pointer none, Str to, I id] w (Ret fun v w' => v = I (-1) ∧ Ext w w') := by
  have e0 := Ext.refl w
  refine C.enter Try.func31 rfl Try.ntmps31 rfl ?_
  refine J.seq ?_
  refine J.region ?_
  refine J.eff (Ye.box (S := [(0, 1, [I id])]) rfl (by simp [SegAll, SegOK, Value.cells])) rfl ?_
  rintro _ w1 ⟨b5_0, rfl, hb_, c5_0, x1⟩
  have fr_b5_0 : Fr w.heap.size (some b5_0) := Fr.le (Fr.blk hb_) e0.size
  have e0 := e0.trans x1
  clear x1 hb_
  refine J.op (Yd.assign rfl) rfl ?_
  refine J.nil ?_
  refine J.n_then ?_
  refine J.seq ?_
  refine J.seq ?_
  refine J.region ?_
  refine J.op (Yd.move rfl) rfl ?_
  refine J.op (Yd.cast (Yd.eqPn Try.underlying24 rfl rfl) (show _ = Value.bool true from rfl)) rfl ?_
  refine J.nil ?_
  refine J.n_then ?_
  refine J.cond_true rfl ?_
  refine J.seq ?_
  refine J.region ?_
  refine J.op (Yd.assign rfl) rfl ?_
  refine J.nil ?_
  refine J.n_then ?_
  refine J.ret ?_
  refine J.r_then ?_
  exact J.ret1 rfl rfl (⟨_, rfl, rfl, e0⟩)

theorem At_is {b mb : Nat} {ex now last : Int} {m : List (Key × Value)} {to : Key} {id q : Int} {es : List Itm} {w : World} (hc : Cel w b 65 [(0, 1, [I ex]), (1, 1, [I now]), (2, 1, [I last]), (3, 1, [.map (some mb)])]) (hm : Mp w mb m) (hr : Er itmS w ((mget m to).getD nilS) es) (hq : idxI (eqI id) es = q) : C Try.prog 31 [.pointer (some ⟨b, 0, none⟩), Str to, I id] w (Ret fun v w' => v = I q ∧ Ext w w') := hq ▸ At_raw hc hm hr

theorem Get_no {b mb : Nat} {ex now last : Int} {m : List (Key × Value)} {to : Key} {id : Int} {es : List Itm} {w : World} (hc : Cel w b 65 [(0, 1, [I ex]), (1, 1, [I now]), (2, 1, [I last]), (3, 1, [.map (some mb)])]) (hm : Mp w mb m) (hr : Er itmS w ((mget m to).getD nilS) es) (hq : idxI (eqI id) es = -1) : C Try.prog 23 [.pointer (some ⟨b, 0, none⟩), Str to, I id] w (Ret fun u w' => u = .tuple #[.agg (itmS.c itmD).toArray, I 7] ∧ Ext w w') := by
  have e0 := Ext.refl w
  refine C.enter Try.func23 rfl Try.ntmps23 rfl ?_
  refine J.seq ?_
  refine J.region ?_
  refine J.eff (Ye.alloc ti36 (S := [(0, 4, [I 0, Str [], I 0, nilS])]) (by simp [SegAll, SegOK, Value.cells, nilS])) rfl ?_
  rintro _ w1 ⟨b6_0, rfl, hb_, c6_0, x1⟩
  have fr_b6_0 : Fr w.heap.size (some b6_0) := Fr.le (Fr.blk hb_) e0.size
  have e0 := e0.trans x1
  clear x1 hb_
  refine J.op (Yd.assign rfl) rfl ?_
  refine J.nil ?_
  refine J.n_then ?_
  refine J.seq ?_
  refine J.region ?_
  refine J.op (Yd.move rfl) rfl ?_
  refine J.op (Yd.move rfl) rfl ?_
  refine J.op (Yd.move rfl) rfl ?_
  refine J.eff (Ye.call cl31 rfl (At_is (hc.ext e0) (hm.ext e0) (hr.ext e0) hq)) rfl ?_
  rintro _ w2 ⟨rfl, x1⟩
  have e0 := e0.trans x1
  have c6_0 := c6_0.ext x1
  clear x1
  refine J.op (Yd.assign rfl) rfl ?_
  refine J.nil ?_
  refine J.n_then ?_
  refine J.seq ?_
  refine J.seq ?_
  refine J.region ?_
  refine J.op (Yd.move rfl) rfl ?_
  refine J.op (Yd.lss rfl rfl) rfl ?_
  refine J.nil ?_
  refine J.n_then ?_
  refine J.know (t := 14) (v' := .bool true) rfl (tt (by decide)) ?_
  refine J.cond_true rfl ?_
  refine J.seq ?_
  refine J.region ?_
  refine J.op (Yd.cast (Yd.buildS (cells := #[I 0, Str [], I 0, nilS]) (pl := [(0, 1), (1, 1), (2, 1), (3, 1)]) Try.underlying36 (by kernel_rfl) ti36 rfl (by rfl)) (show _ = .agg (itmS.c itmD).toArray from rfl)) rfl ?_
  refine J.eff0 (Ye.storeA (ys := itmS.c itmD) ti36 c6_0 0 rfl rfl rfl rfl (by rfl) (itm_one1 (x := itmD) rfl _ (List.mem_singleton.2 rfl))) ?_
  rintro _ w3 ⟨cX, hu⟩
  simp only [List.set_cons_zero, List.set_cons_succ] at cX
  have hg := hu.gb
  have e0 := Ext.gbk e0 fr_b6_0 hg
  clear hg
  replace c6_0 := cX
  clear cX hu
  refine J.op (Yd.assign rfl) rfl ?_
  refine J.nil ?_
  refine J.n_then ?_
  refine J.ret ?_
  refine J.r_then ?_
  exact J.ret2ca rfl rfl ag36 ti36 c6_0 0 rfl rfl (⟨_, rfl, rfl, e0⟩)

theorem GetNil_ok {to : Key} {id : Int} {w : World} : C Try.prog 23 [.pointer none, Str to, I id] w (Ret fun u w' => u = .tuple #[.agg (itmS.c itmD).toArray, I 7] ∧ Ext w w') := by
  have e0 := Ext.refl w
  refine C.enter Try.func23 rfl Try.ntmps23 rfl ?_
  refine J.seq ?_
  refine J.region ?_
  refine J.eff (Ye.alloc ti36 (S := [(0, 4, [I 0, Str [], I 0, nilS])]) (by simp [SegAll, SegOK, Value.cells, nilS])) rfl ?_
  rintro _ w1 ⟨b6_0, rfl, hb_, c6_0, x1⟩
  have fr_b6_0 : Fr w.heap.size (some b6_0) := Fr.le (Fr.blk hb_) e0.size
  have e0 := e0.trans x1
  clear x1 hb_
  refine J.op (Yd.assign rfl) rfl ?_
  refine J.nil ?_
  refine J.n_then ?_
  refine J.seq ?_
  refine J.region ?_
  refine J.op (Yd.move rfl) rfl ?_
  refine J.op (Yd.move rfl) rfl ?_
  refine J.op (Yd.move rfl) rfl ?_
  refine J.eff (Ye.call cl31 rfl (AtNil_ok)) rfl ?_
  rintro _ w2 ⟨rfl, x1⟩
  have e0 := e0.trans x1
  have c6_0 := c6_0.ext x1
  clear x1
  refine J.op (Yd.assign rfl) rfl ?_
  refine J.nil ?_
  refine J.n_then ?_
  refine J.seq ?_
  refine J.seq ?_
  refine J.region ?_
  refine J.op (Yd.move rfl) rfl ?_
  refine J.op (Yd.lss rfl rfl) rfl ?_
  refine J.nil ?_
  refine J.n_then ?_
  refine J.know (t := 14) (v' := .bool true) rfl (tt (by decide)) ?_
  refine J.cond_true rfl ?_
  refine J.seq ?_
  refine J.region ?_
  refine J.op (Yd.cast (Yd.buildS (cells := #[I 0, Str [], I 0, nilS]) (pl := [(0, 1), (1, 1), (2, 1), (3, 1)]) Try.underlying36 (by kernel_rfl) ti36 rfl (by rfl)) (show _ = .agg (itmS.c itmD).toArray from rfl)) rfl ?_
  refine J.eff0 (Ye.storeA (ys := itmS.c itmD) ti36 c6_0 0 rfl rfl rfl rfl (by rfl) (itm_one1 (x := itmD) rfl _ (List.mem_singleton.2 rfl))) ?_
  rintro _ w3 ⟨cX, hu⟩
  simp only [List.set_cons_zero, List.set_cons_succ] at cX
  have hg := hu.gb
  have e0 := Ext.gbk e0 fr_b6_0 hg
  clear hg
  replace c6_0 := cX
  clear cX hu
  refine J.op (Yd.assign rfl) rfl ?_
  refine J.nil ?_
  refine J.n_then ?_
  refine J.ret ?_
  refine J.r_then ?_
  exact J.ret2ca rfl rfl ag36 ti36 c6_0 0 rfl rfl (⟨_, rfl, rfl, e0⟩)
end Ytmpfgiffpdackaa
end Go.Proofs
