import Derived.Test.YtghklimejpmpnaaT
import Derived.Test.YtghklimejpmpnaaQz
import Derived.Test.YtghklimejpmpnaaX22
import Derived.Test.YtghklimejpmpnaaX29
import Derived.Test.YtghklimejpmpnaaW10
import Derived.Test.YtghklimejpmpnaaC11
set_option linter.unusedVariables false
set_option linter.unusedSimpArgs false
set_option maxRecDepth 100000
set_option maxHeartbeats 4000000
namespace Go.Proofs
open Go.X Go.RowKit
namespace Ytghklimejpmpnaa
theorem Encode_bad {x : Pc} {l : List UInt8} {w : World} (hx : Bs w x.2.2.2 l) (hbq : badQ x.1 x.2.1 x.2.2.1 l.length) : C Try.prog 22 [.agg (pcS.c x).toArray] w (Ret fun v w' => v = .tuple #[nilS, I 1] ∧ Ext w w') := by
  have hub := hbq
  unfold badQ at hub
  have e0 := Ext.refl w
  refine C.enter Try.func22 rfl Try.ntmps22 rfl ?_
  refine J.seq ?_
  refine J.region ?_
  refine J.eff (Ye.box (S := [(0, 1, [I x.1]), (1, 1, [I x.2.1]), (2, 1, [I x.2.2.1]), (3, 1, [x.2.2.2])]) rfl (by simp [SegAll, SegOK, Value.cells, pcS])) rfl ?_
  rintro _ w1 ⟨b1_0, rfl, hb_, c1_0, x1⟩
  have fr_b1_0 : Fr w.heap.size (some b1_0) := Fr.le (Fr.blk hb_) e0.size
  have e0 := e0.trans x1
  clear x1 hb_
  refine J.op (Yd.assign rfl) rfl ?_
  refine J.op (Yd.assign rfl) rfl ?_
  refine J.nil ?_
  refine J.n_then ?_
  refine J.seq ?_
  refine J.block ?_
  refine J.seq ?_
  refine J.region ?_
  refine J.op (Yd.cast (Yd.fieldA Try.underlying29 rfl ti3 rfl rfl) (show _ = Value.pointer (some ⟨b1_0, 0, none⟩) from rfl)) rfl ?_
  refine J.op (Yd.load pl3 rfl (Cel.cell1 c1_0 0 rfl)) rfl ?_
  refine J.eff (Ye.call cl27 rfl (Within_ok)) rfl ?_
  rintro _ w2 ⟨rfl, x1⟩
  have e0 := e0.trans x1
  have c1_0 := c1_0.ext x1
  clear x1
  refine J.op (Yd.not_dec rfl) rfl ?_
  refine J.op (Yd.move rfl) rfl ?_
  refine J.split_dec (t := 10) rfl (fun g1 => ?_) (fun g1 => ?_)
  · skip
    refine J.not_g rfl rfl rfl rfl rfl ?_
    refine J.not_g rfl rfl rfl rfl rfl ?_
    refine J.not_g rfl rfl rfl rfl rfl ?_
    refine J.not_g rfl rfl rfl rfl rfl ?_
    refine J.op (Yd.pick_t rfl rfl) rfl ?_
    refine J.op (Yd.move rfl) rfl ?_
    refine J.not_g rfl rfl rfl rfl rfl ?_
    refine J.not_g rfl rfl rfl rfl rfl ?_
    refine J.not_g rfl rfl rfl rfl rfl ?_
    refine J.not_g rfl rfl rfl rfl rfl ?_
    refine J.not_g rfl rfl rfl rfl rfl ?_
    refine J.not_g rfl rfl rfl rfl rfl ?_
    refine J.not_g rfl rfl rfl rfl rfl ?_
    refine J.op (Yd.pick_t rfl rfl) rfl ?_
    refine J.op (Yd.move rfl) rfl ?_
    refine J.not_g rfl rfl rfl rfl rfl ?_
    refine J.not_g rfl rfl rfl rfl rfl ?_
    refine J.not_g rfl rfl rfl rfl rfl ?_
    refine J.not_g rfl rfl rfl rfl rfl ?_
    refine J.op (Yd.pick_t rfl rfl) rfl ?_
    refine J.op (Yd.assign rfl) rfl ?_
    refine J.nil ?_
    refine J.n_then ?_
    refine J.cond_true rfl ?_
    refine J.seq ?_
    refine J.region ?_
    refine J.op (Yd.assign rfl) rfl ?_
    refine J.op (Yd.assign rfl) rfl ?_
    refine J.nil ?_
    refine J.n_then ?_
    refine J.ret ?_
    refine J.r_block ?_
    refine J.r_then ?_
    exact J.ret2 rfl rfl rfl (⟨_, rfl, rfl, e0⟩)
  · skip
    refine J.op_g rfl rfl rfl (Yd.cast (Yd.fieldA Try.underlying29 rfl ti3 rfl rfl) (show _ = Value.pointer (some ⟨b1_0, 2, none⟩) from rfl)) rfl ?_
    refine J.op_g rfl rfl rfl (Yd.load pl3 rfl (Cel.cell1 c1_0 2 rfl)) rfl ?_
    refine J.eff_g rfl rfl rfl (Ye.call cl27 rfl (Within_ok)) rfl ?_
    rintro _ w3 ⟨rfl, x1⟩
    have e0 := e0.trans x1
    have c1_0 := c1_0.ext x1
    clear x1
    refine J.op_g rfl rfl rfl (Yd.not_dec rfl) rfl ?_
    refine J.op (Yd.pick_f rfl rfl) rfl ?_
    refine J.op (Yd.move rfl) rfl ?_
    refine J.split_dec (t := 16) rfl (fun g2 => ?_) (fun g2 => ?_)
    · skip
      refine J.not_g rfl rfl rfl rfl rfl ?_
      refine J.not_g rfl rfl rfl rfl rfl ?_
      refine J.not_g rfl rfl rfl rfl rfl ?_
      refine J.not_g rfl rfl rfl rfl rfl ?_
      refine J.not_g rfl rfl rfl rfl rfl ?_
      refine J.not_g rfl rfl rfl rfl rfl ?_
      refine J.not_g rfl rfl rfl rfl rfl ?_
      refine J.op (Yd.pick_t rfl rfl) rfl ?_
      refine J.op (Yd.move rfl) rfl ?_
      refine J.not_g rfl rfl rfl rfl rfl ?_
      refine J.not_g rfl rfl rfl rfl rfl ?_
      refine J.not_g rfl rfl rfl rfl rfl ?_
      refine J.not_g rfl rfl rfl rfl rfl ?_
      refine J.op (Yd.pick_t rfl rfl) rfl ?_
      refine J.op (Yd.assign rfl) rfl ?_
      refine J.nil ?_
      refine J.n_then ?_
      refine J.cond_true rfl ?_
      refine J.seq ?_
      refine J.region ?_
      refine J.op (Yd.assign rfl) rfl ?_
      refine J.op (Yd.assign rfl) rfl ?_
      refine J.nil ?_
      refine J.n_then ?_
      refine J.ret ?_
      refine J.r_block ?_
      refine J.r_then ?_
      exact J.ret2 rfl rfl rfl (⟨_, rfl, rfl, e0⟩)
    · skip
      refine J.op_g rfl rfl rfl (Yd.cast (Yd.fieldA Try.underlying29 rfl ti3 rfl rfl) (show _ = Value.pointer (some ⟨b1_0, 1, none⟩) from rfl)) rfl ?_
      refine J.op_g rfl rfl rfl (Yd.load pl3 rfl (Cel.cell1 c1_0 1 rfl)) rfl ?_
      refine J.op_g rfl rfl rfl (Yd.cast (Yd.fieldA Try.underlying29 rfl ti3 rfl rfl) (show _ = Value.pointer (some ⟨b1_0, 2, none⟩) from rfl)) rfl ?_
      refine J.op_g rfl rfl rfl (Yd.load pl3 rfl (Cel.cell1 c1_0 2 rfl)) rfl ?_
      refine J.op_g rfl rfl rfl (Yd.sub rfl rfl (by first | omega | exact idx_u8' _ | (simp only [Int.toNat_natCast]; omega) | (simp only [List.length_map, List.length_drop, List.length_take, List.length_append, List.length_replicate]; omega) | (simp <;> omega))) rfl ?_
      refine J.eff_g rfl rfl rfl (Ye.call cl27 rfl (Within_ok)) rfl ?_
      rintro _ w4 ⟨rfl, x1⟩
      have e0 := e0.trans x1
      have c1_0 := c1_0.ext x1
      clear x1
      refine J.op_g rfl rfl rfl (Yd.not_dec rfl) rfl ?_
      refine J.op (Yd.pick_f rfl rfl) rfl ?_
      refine J.op (Yd.move rfl) rfl ?_
      refine J.split_dec (t := 25) rfl (fun g3 => ?_) (fun g3 => ?_)
      · skip
        refine J.not_g rfl rfl rfl rfl rfl ?_
        refine J.not_g rfl rfl rfl rfl rfl ?_
        refine J.not_g rfl rfl rfl rfl rfl ?_
        refine J.not_g rfl rfl rfl rfl rfl ?_
        refine J.op (Yd.pick_t rfl rfl) rfl ?_
        refine J.op (Yd.assign rfl) rfl ?_
        refine J.nil ?_
        refine J.n_then ?_
        refine J.cond_true rfl ?_
        refine J.seq ?_
        refine J.region ?_
        refine J.op (Yd.assign rfl) rfl ?_
        refine J.op (Yd.assign rfl) rfl ?_
        refine J.nil ?_
        refine J.n_then ?_
        refine J.ret ?_
        refine J.r_block ?_
        refine J.r_then ?_
        exact J.ret2 rfl rfl rfl (⟨_, rfl, rfl, e0⟩)
      · skip
        refine J.op_g rfl rfl rfl (Yd.cast (Yd.fieldA Try.underlying29 rfl ti22 rfl rfl) (show _ = Value.pointer (some ⟨b1_0, 3, none⟩) from rfl)) rfl ?_
        refine J.op_g rfl rfl rfl (Yd.load pl22 rfl (Cel.cell1 c1_0 3 rfl)) rfl ?_
        refine J.op_g rfl rfl rfl (Yd.len_b Try.underlying22 rfl (Rd.ext hx e0)) rfl ?_
        refine J.op_g rfl rfl rfl (Yd.eql rfl rfl) rfl ?_
        refine J.op (Yd.pick_f rfl rfl) rfl ?_
        refine J.op (Yd.assign rfl) rfl ?_
        refine J.nil ?_
        refine J.n_then ?_
        refine J.know (t := 5) (v' := .bool true) rfl (tt (by first | omega | (exfalso; apply hub; refine ⟨?_, ?_, ?_, ?_⟩ <;> first | omega | (apply Classical.not_not.1; assumption)))) ?_
        refine J.cond_true rfl ?_
        refine J.seq ?_
        refine J.region ?_
        refine J.op (Yd.assign rfl) rfl ?_
        refine J.op (Yd.assign rfl) rfl ?_
        refine J.nil ?_
        refine J.n_then ?_
        refine J.ret ?_
        refine J.r_block ?_
        refine J.r_then ?_
        exact J.ret2 rfl rfl rfl (⟨_, rfl, rfl, e0⟩)

theorem Encode_big {x : Pc} {l : List UInt8} {w : World} (hx : Bs w x.2.2.2 l) (hbq : ¬ badQ x.1 x.2.1 x.2.2.1 l.length) (hl : ¬ l.length ≤ 1000) : C Try.prog 22 [.agg (pcS.c x).toArray] w (Ret fun v w' => v = .tuple #[nilS, I 11] ∧ Ext w w') := by
  have hgd := Classical.not_not.1 hbq
  have e0 := Ext.refl w
  refine C.enter Try.func22 rfl Try.ntmps22 rfl ?_
  refine J.seq ?_
  refine J.region ?_
  refine J.eff (Ye.box (S := [(0, 1, [I x.1]), (1, 1, [I x.2.1]), (2, 1, [I x.2.2.1]), (3, 1, [x.2.2.2])]) rfl (by simp [SegAll, SegOK, Value.cells, pcS])) rfl ?_
  rintro _ w1 ⟨b1_0, rfl, hb_, c1_0, x1⟩
  have fr_b1_0 : Fr w.heap.size (some b1_0) := Fr.le (Fr.blk hb_) e0.size
  have e0 := e0.trans x1
  clear x1 hb_
  refine J.op (Yd.assign rfl) rfl ?_
  refine J.op (Yd.assign rfl) rfl ?_
  refine J.nil ?_
  refine J.n_then ?_
  refine J.seq ?_
  refine J.block ?_
  refine J.seq ?_
  refine J.region ?_
  refine J.op (Yd.cast (Yd.fieldA Try.underlying29 rfl ti3 rfl rfl) (show _ = Value.pointer (some ⟨b1_0, 0, none⟩) from rfl)) rfl ?_
  refine J.op (Yd.load pl3 rfl (Cel.cell1 c1_0 0 rfl)) rfl ?_
  refine J.eff (Ye.call cl27 rfl (Within_ok)) rfl ?_
  rintro _ w2 ⟨rfl, x1⟩
  have e0 := e0.trans x1
  have c1_0 := c1_0.ext x1
  clear x1
  refine J.op (Yd.not_dec rfl) rfl ?_
  refine J.op (Yd.move rfl) rfl ?_
  refine J.know (t := 10) (v' := .bool false) rfl (ff (by exact fun h => h (by omega))) ?_
  refine J.op_g rfl rfl rfl (Yd.cast (Yd.fieldA Try.underlying29 rfl ti3 rfl rfl) (show _ = Value.pointer (some ⟨b1_0, 2, none⟩) from rfl)) rfl ?_
  refine J.op_g rfl rfl rfl (Yd.load pl3 rfl (Cel.cell1 c1_0 2 rfl)) rfl ?_
  refine J.eff_g rfl rfl rfl (Ye.call cl27 rfl (Within_ok)) rfl ?_
  rintro _ w3 ⟨rfl, x1⟩
  have e0 := e0.trans x1
  have c1_0 := c1_0.ext x1
  clear x1
  refine J.op_g rfl rfl rfl (Yd.not_dec rfl) rfl ?_
  refine J.op (Yd.pick_f rfl rfl) rfl ?_
  refine J.op (Yd.move rfl) rfl ?_
  refine J.know (t := 16) (v' := .bool false) rfl (ff (by exact fun h => h (by omega))) ?_
  refine J.op_g rfl rfl rfl (Yd.cast (Yd.fieldA Try.underlying29 rfl ti3 rfl rfl) (show _ = Value.pointer (some ⟨b1_0, 1, none⟩) from rfl)) rfl ?_
  refine J.op_g rfl rfl rfl (Yd.load pl3 rfl (Cel.cell1 c1_0 1 rfl)) rfl ?_
  refine J.op_g rfl rfl rfl (Yd.cast (Yd.fieldA Try.underlying29 rfl ti3 rfl rfl) (show _ = Value.pointer (some ⟨b1_0, 2, none⟩) from rfl)) rfl ?_
  refine J.op_g rfl rfl rfl (Yd.load pl3 rfl (Cel.cell1 c1_0 2 rfl)) rfl ?_
  refine J.op_g rfl rfl rfl (Yd.sub rfl rfl (by first | omega | exact idx_u8' _ | (simp only [Int.toNat_natCast]; omega) | (simp only [List.length_map, List.length_drop, List.length_take, List.length_append, List.length_replicate]; omega) | (simp <;> omega))) rfl ?_
  refine J.eff_g rfl rfl rfl (Ye.call cl27 rfl (Within_ok)) rfl ?_
  rintro _ w4 ⟨rfl, x1⟩
  have e0 := e0.trans x1
  have c1_0 := c1_0.ext x1
  clear x1
  refine J.op_g rfl rfl rfl (Yd.not_dec rfl) rfl ?_
  refine J.op (Yd.pick_f rfl rfl) rfl ?_
  refine J.op (Yd.move rfl) rfl ?_
  refine J.know (t := 25) (v' := .bool false) rfl (ff (by exact fun h => h (by omega))) ?_
  refine J.op_g rfl rfl rfl (Yd.cast (Yd.fieldA Try.underlying29 rfl ti22 rfl rfl) (show _ = Value.pointer (some ⟨b1_0, 3, none⟩) from rfl)) rfl ?_
  refine J.op_g rfl rfl rfl (Yd.load pl22 rfl (Cel.cell1 c1_0 3 rfl)) rfl ?_
  refine J.op_g rfl rfl rfl (Yd.len_b Try.underlying22 rfl (Rd.ext hx e0)) rfl ?_
  refine J.op_g rfl rfl rfl (Yd.eql rfl rfl) rfl ?_
  refine J.op (Yd.pick_f rfl rfl) rfl ?_
  refine J.op (Yd.assign rfl) rfl ?_
  refine J.nil ?_
  refine J.n_then ?_
  refine J.know (t := 5) (v' := .bool false) rfl (ff (by omega)) ?_
  refine J.cond_false rfl ?_
  refine J.seq ?_
  refine J.region ?_
  refine J.op (Yd.cast (Yd.fieldA Try.underlying29 rfl ti22 rfl rfl) (show _ = Value.pointer (some ⟨b1_0, 3, none⟩) from rfl)) rfl ?_
  refine J.op (Yd.load pl22 rfl (Cel.cell1 c1_0 3 rfl)) rfl ?_
  refine J.op (Yd.len_b Try.underlying22 rfl (Rd.ext hx e0)) rfl ?_
  refine J.op (Yd.gtr rfl rfl) rfl ?_
  refine J.op (Yd.assign rfl) rfl ?_
  refine J.nil ?_
  refine J.n_then ?_
  refine J.know (t := 31) (v' := .bool true) rfl (tt (by omega)) ?_
  refine J.cond_true rfl ?_
  refine J.seq ?_
  refine J.region ?_
  refine J.op (Yd.assign rfl) rfl ?_
  refine J.op (Yd.assign rfl) rfl ?_
  refine J.nil ?_
  refine J.n_then ?_
  refine J.ret ?_
  refine J.r_block ?_
  refine J.r_then ?_
  exact J.ret2 rfl rfl rfl (⟨_, rfl, rfl, e0⟩)

theorem Encode_good {x : Pc} {l : List UInt8} {w : World} (hx : Bs w x.2.2.2 l) (hbq : ¬ badQ x.1 x.2.1 x.2.2.1 l.length) (hl : l.length ≤ 1000) : C Try.prog 22 [.agg (pcS.c x).toArray] w (Ret fun u w' => ∃ v, u = .tuple #[v, I 0] ∧ Ob w.heap.size 5 w' v (encB x.1 x.2.1 x.2.2.1 l) ∧ Ext w w') := by
  have hgd := Classical.not_not.1 hbq
  have e0 := Ext.refl w
  refine C.enter Try.func22 rfl Try.ntmps22 rfl ?_
  refine J.seq ?_
  refine J.region ?_
  refine J.eff (Ye.box (S := [(0, 1, [I x.1]), (1, 1, [I x.2.1]), (2, 1, [I x.2.2.1]), (3, 1, [x.2.2.2])]) rfl (by simp [SegAll, SegOK, Value.cells, pcS])) rfl ?_
  rintro _ w1 ⟨b1_0, rfl, hb_, c1_0, x1⟩
  have fr_b1_0 : Fr w.heap.size (some b1_0) := Fr.le (Fr.blk hb_) e0.size
  have e0 := e0.trans x1
  clear x1 hb_
  refine J.op (Yd.assign rfl) rfl ?_
  refine J.op (Yd.assign rfl) rfl ?_
  refine J.nil ?_
  refine J.n_then ?_
  refine J.seq ?_
  refine J.block ?_
  refine J.seq ?_
  refine J.region ?_
  refine J.op (Yd.cast (Yd.fieldA Try.underlying29 rfl ti3 rfl rfl) (show _ = Value.pointer (some ⟨b1_0, 0, none⟩) from rfl)) rfl ?_
  refine J.op (Yd.load pl3 rfl (Cel.cell1 c1_0 0 rfl)) rfl ?_
  refine J.eff (Ye.call cl27 rfl (Within_ok)) rfl ?_
  rintro _ w2 ⟨rfl, x1⟩
  have e0 := e0.trans x1
  have c1_0 := c1_0.ext x1
  clear x1
  refine J.op (Yd.not_dec rfl) rfl ?_
  refine J.op (Yd.move rfl) rfl ?_
  refine J.know (t := 10) (v' := .bool false) rfl (ff (by exact fun h => h (by omega))) ?_
  refine J.op_g rfl rfl rfl (Yd.cast (Yd.fieldA Try.underlying29 rfl ti3 rfl rfl) (show _ = Value.pointer (some ⟨b1_0, 2, none⟩) from rfl)) rfl ?_
  refine J.op_g rfl rfl rfl (Yd.load pl3 rfl (Cel.cell1 c1_0 2 rfl)) rfl ?_
  refine J.eff_g rfl rfl rfl (Ye.call cl27 rfl (Within_ok)) rfl ?_
  rintro _ w3 ⟨rfl, x1⟩
  have e0 := e0.trans x1
  have c1_0 := c1_0.ext x1
  clear x1
  refine J.op_g rfl rfl rfl (Yd.not_dec rfl) rfl ?_
  refine J.op (Yd.pick_f rfl rfl) rfl ?_
  refine J.op (Yd.move rfl) rfl ?_
  refine J.know (t := 16) (v' := .bool false) rfl (ff (by exact fun h => h (by omega))) ?_
  refine J.op_g rfl rfl rfl (Yd.cast (Yd.fieldA Try.underlying29 rfl ti3 rfl rfl) (show _ = Value.pointer (some ⟨b1_0, 1, none⟩) from rfl)) rfl ?_
  refine J.op_g rfl rfl rfl (Yd.load pl3 rfl (Cel.cell1 c1_0 1 rfl)) rfl ?_
  refine J.op_g rfl rfl rfl (Yd.cast (Yd.fieldA Try.underlying29 rfl ti3 rfl rfl) (show _ = Value.pointer (some ⟨b1_0, 2, none⟩) from rfl)) rfl ?_
  refine J.op_g rfl rfl rfl (Yd.load pl3 rfl (Cel.cell1 c1_0 2 rfl)) rfl ?_
  refine J.op_g rfl rfl rfl (Yd.sub rfl rfl (by first | omega | exact idx_u8' _ | (simp only [Int.toNat_natCast]; omega) | (simp only [List.length_map, List.length_drop, List.length_take, List.length_append, List.length_replicate]; omega) | (simp <;> omega))) rfl ?_
  refine J.eff_g rfl rfl rfl (Ye.call cl27 rfl (Within_ok)) rfl ?_
  rintro _ w4 ⟨rfl, x1⟩
  have e0 := e0.trans x1
  have c1_0 := c1_0.ext x1
  clear x1
  refine J.op_g rfl rfl rfl (Yd.not_dec rfl) rfl ?_
  refine J.op (Yd.pick_f rfl rfl) rfl ?_
  refine J.op (Yd.move rfl) rfl ?_
  refine J.know (t := 25) (v' := .bool false) rfl (ff (by exact fun h => h (by omega))) ?_
  refine J.op_g rfl rfl rfl (Yd.cast (Yd.fieldA Try.underlying29 rfl ti22 rfl rfl) (show _ = Value.pointer (some ⟨b1_0, 3, none⟩) from rfl)) rfl ?_
  refine J.op_g rfl rfl rfl (Yd.load pl22 rfl (Cel.cell1 c1_0 3 rfl)) rfl ?_
  refine J.op_g rfl rfl rfl (Yd.len_b Try.underlying22 rfl (Rd.ext hx e0)) rfl ?_
  refine J.op_g rfl rfl rfl (Yd.eql rfl rfl) rfl ?_
  refine J.op (Yd.pick_f rfl rfl) rfl ?_
  refine J.op (Yd.assign rfl) rfl ?_
  refine J.nil ?_
  refine J.n_then ?_
  refine J.know (t := 5) (v' := .bool false) rfl (ff (by omega)) ?_
  refine J.cond_false rfl ?_
  refine J.seq ?_
  refine J.region ?_
  refine J.op (Yd.cast (Yd.fieldA Try.underlying29 rfl ti22 rfl rfl) (show _ = Value.pointer (some ⟨b1_0, 3, none⟩) from rfl)) rfl ?_
  refine J.op (Yd.load pl22 rfl (Cel.cell1 c1_0 3 rfl)) rfl ?_
  refine J.op (Yd.len_b Try.underlying22 rfl (Rd.ext hx e0)) rfl ?_
  refine J.op (Yd.gtr rfl rfl) rfl ?_
  refine J.op (Yd.assign rfl) rfl ?_
  refine J.nil ?_
  refine J.n_then ?_
  refine J.know (t := 31) (v' := .bool false) rfl (ff (by omega)) ?_
  refine J.cond_false rfl ?_
  refine J.skip ?_
  refine J.n_block ?_
  refine J.n_then ?_
  refine J.seq ?_
  refine J.region ?_
  refine J.op (Yd.buildS (pl := [(0, 1)]) Try.underlying79 (by kernel_rfl) ti79 rfl rfl) rfl ?_
  refine J.eff (Ye.box (S := [(0, 1, [.slice none 0 0])]) rfl (by simp [SegAll, SegOK, Value.cells])) rfl ?_
  rintro _ w5 ⟨b37_4, rfl, hb_, c37_4, x1⟩
  have ap_b1_0_b37_4 : Ap (some b1_0) (some b37_4) := Ap.mk (Cel.live c1_0) (Fr.blk hb_)
  have fr_b37_4 : Fr w.heap.size (some b37_4) := Fr.le (Fr.blk hb_) e0.size
  have e0 := e0.trans x1
  have c1_0 := c1_0.ext x1
  clear x1 hb_
  refine J.op (Yd.assign rfl) rfl ?_
  refine J.nil ?_
  refine J.n_then ?_
  refine J.seq ?_
  have hw := Wr.new (TW := 79) (E := 5) (Ge w5.heap.size) c37_4
  have hbw : Hb (Ge w5.heap.size) w5 := Hb.ge (Nat.le_refl _)
  have hek := e0.size
  have hlt_b1_0 := Cel.lt c1_0
  refine J.regionG (Thb (Ge w5.heap.size) b37_4) [(0, true), (1, true), (5, true), (9, true), (13, true)] [(2, 1), (6, 1), (10, 1), (14, 1), (3, 1), (7, 1), (11, 1), (4, 0), (8, 0), (12, 0)] [(15, false), (16, false), (17, true), (18, true)] mix (by kernel_rfl) ?_
  refine J.s_op rfl (fun _ => Yd.move rfl) rfl ?_
  refine J.s_op rfl (fun _ => Yd.cast (Yd.fieldA Try.underlying29 rfl ti3 rfl rfl) (show _ = Value.pointer (some ⟨b1_0, 0, none⟩) from rfl)) rfl ?_
  refine J.s_op rfl (fun _ => Yd.cast (Yd.fieldA Try.underlying29 rfl ti3 rfl rfl) (show _ = Value.pointer (some ⟨b1_0, 1, none⟩) from rfl)) rfl ?_
  refine J.s_op rfl (fun _ => Yd.cast (Yd.fieldA Try.underlying29 rfl ti3 rfl rfl) (show _ = Value.pointer (some ⟨b1_0, 2, none⟩) from rfl)) rfl ?_
  refine J.s_op rfl (fun _ => Yd.cast (Yd.fieldA Try.underlying29 rfl ti22 rfl rfl) (show _ = Value.pointer (some ⟨b1_0, 3, none⟩) from rfl)) rfl ?_
  refine J.s_nil ?_
  refine J.g_op rfl (fun w1 ht => Yd.load pl3 rfl (Cel.cell1 (Cel.thb c1_0 ht hlt_b1_0 (fun e => ap_b1_0_b37_4 _ rfl (by rw [e]))) 0 rfl)) rfl ?_
  refine J.g_op rfl (fun w1 ht => Yd.load pl3 rfl (Cel.cell1 (Cel.thb c1_0 ht hlt_b1_0 (fun e => ap_b1_0_b37_4 _ rfl (by rw [e]))) 1 rfl)) rfl ?_
  refine J.g_op rfl (fun w1 ht => Yd.load pl3 rfl (Cel.cell1 (Cel.thb c1_0 ht hlt_b1_0 (fun e => ap_b1_0_b37_4 _ rfl (by rw [e]))) 2 rfl)) rfl ?_
  refine J.g_op rfl (fun w1 ht => Yd.load pl22 rfl (Cel.cell1 (Cel.thb c1_0 ht hlt_b1_0 (fun e => ap_b1_0_b37_4 _ rfl (by rw [e]))) 3 rfl)) rfl ?_
  refine J.g_op rfl (fun _ _ => Yd.cv_i_64 Try.underlying3 Try.underlying81 rfl (by first | omega | exact idx_u8' _ | (simp only [Int.toNat_natCast]; omega) | (simp only [List.length_map, List.length_drop, List.length_take, List.length_append, List.length_replicate]; omega) | (simp <;> omega))) rfl ?_
  refine J.g_op rfl (fun _ _ => Yd.cv_i_64 Try.underlying3 Try.underlying81 rfl (by first | omega | exact idx_u8' _ | (simp only [Int.toNat_natCast]; omega) | (simp only [List.length_map, List.length_drop, List.length_take, List.length_append, List.length_replicate]; omega) | (simp <;> omega))) rfl ?_
  refine J.g_op rfl (fun _ _ => Yd.cv_i_64 Try.underlying3 Try.underlying81 rfl (by first | omega | exact idx_u8' _ | (simp only [Int.toNat_natCast]; omega) | (simp only [List.length_map, List.length_drop, List.length_take, List.length_append, List.length_replicate]; omega) | (simp <;> omega))) rfl ?_
  refine J.g_eff rfl (Ye.call cl32 rfl (WNum_ok hw hbw (by have h91 := putN_len (UInt64.ofNat x.1.toNat); have h92 := putN_len (UInt64.ofNat x.2.1.toNat); have h93 := putN_len (UInt64.ofNat x.2.2.1.toNat); have h94 := putN_len (UInt64.ofNat l.length); simp only [List.length_append, List.length_nil]; omega))) rfl (fun _ _ h => h.2.2) ?_
  rintro _ w6 ⟨rfl, hw2, x1⟩
  have e0 := e0.th' (Thb.th x1 (fr_b37_4 _ rfl) hek)
  have hbw := Hb.le hbw x1.size
  have c1_0 := Cel.thb c1_0 x1 hlt_b1_0 (fun e => ap_b1_0_b37_4 _ rfl (by rw [e]))
  replace hw := hw2
  clear hw2 x1
  refine J.g_eff rfl (Ye.call cl32 rfl (WNum_ok hw hbw (by have h91 := putN_len (UInt64.ofNat x.1.toNat); have h92 := putN_len (UInt64.ofNat x.2.1.toNat); have h93 := putN_len (UInt64.ofNat x.2.2.1.toNat); have h94 := putN_len (UInt64.ofNat l.length); simp only [List.length_append, List.length_nil]; omega))) rfl (fun _ _ h => h.2.2) ?_
  rintro _ w7 ⟨rfl, hw2, x1⟩
  have e0 := e0.th' (Thb.th x1 (fr_b37_4 _ rfl) hek)
  have hbw := Hb.le hbw x1.size
  have c1_0 := Cel.thb c1_0 x1 hlt_b1_0 (fun e => ap_b1_0_b37_4 _ rfl (by rw [e]))
  replace hw := hw2
  clear hw2 x1
  refine J.g_eff rfl (Ye.call cl32 rfl (WNum_ok hw hbw (by have h91 := putN_len (UInt64.ofNat x.1.toNat); have h92 := putN_len (UInt64.ofNat x.2.1.toNat); have h93 := putN_len (UInt64.ofNat x.2.2.1.toNat); have h94 := putN_len (UInt64.ofNat l.length); simp only [List.length_append, List.length_nil]; omega))) rfl (fun _ _ h => h.2.2) ?_
  rintro _ w8 ⟨rfl, hw2, x1⟩
  have e0 := e0.th' (Thb.th x1 (fr_b37_4 _ rfl) hek)
  have hbw := Hb.le hbw x1.size
  have c1_0 := Cel.thb c1_0 x1 hlt_b1_0 (fun e => ap_b1_0_b37_4 _ rfl (by rw [e]))
  replace hw := hw2
  clear hw2 x1
  refine J.g_nil ?_
  refine J.s_eff rfl (Ye.call cl33 rfl (WBytes_ok hw hbw (fun w' ht => hx.ext (e0.th' (Thb.th ht (fr_b37_4 _ rfl) hek))) (by have h91 := putN_len (UInt64.ofNat x.1.toNat); have h92 := putN_len (UInt64.ofNat x.2.1.toNat); have h93 := putN_len (UInt64.ofNat x.2.2.1.toNat); have h94 := putN_len (UInt64.ofNat l.length); simp only [List.length_append, List.length_nil]; omega))) rfl ?_
  rintro _ w9 ⟨rfl, hw2, x1⟩
  have e0 := e0.th' (Thb.th x1 (fr_b37_4 _ rfl) hek)
  have hbw := Hb.le hbw x1.size
  have c1_0 := Cel.thb c1_0 x1 hlt_b1_0 (fun e => ap_b1_0_b37_4 _ rfl (by rw [e]))
  replace hw := hw2
  clear hw2 x1
  refine J.s_eff rfl (Ye.call cl34 rfl (WDone_ok hw (by have h91 := putN_len (UInt64.ofNat x.1.toNat); have h92 := putN_len (UInt64.ofNat x.2.1.toNat); have h93 := putN_len (UInt64.ofNat x.2.2.1.toNat); have h94 := putN_len (UInt64.ofNat l.length); simp only [List.length_append, List.length_nil]; omega))) rfl ?_
  rintro s54_10 w10 ⟨os54_10, x1⟩
  have ap_b1_0_s54_10 : Ap (some b1_0) s54_10.ownBlock := Ap.mk (Cel.live c1_0) (Ow.fr os54_10)
  have fr_s54_10 : Fr w.heap.size s54_10.ownBlock := Fr.le (Ow.fr os54_10) e0.size
  replace os54_10 := Ow.base os54_10 e0.size
  have e0 := e0.trans x1
  have c1_0 := c1_0.ext x1
  have hw := hw.ext x1
  clear x1
  refine J.s_op rfl (fun _ => Yd.assign rfl) rfl ?_
  refine J.s_op rfl (fun _ => Yd.assign rfl) rfl ?_
  refine J.s_nil ?_
  refine J.n_np ?_
  refine J.n_then ?_
  refine J.ret ?_
  exact J.ret2 rfl rfl rfl (⟨_, rfl, s54_10, rfl, os54_10, e0⟩)

theorem EncodeP_bad {x : Pc} {l : List UInt8} {w : World} (hx : Bs w x.2.2.2 l) (hbq : badQ x.1 x.2.1 x.2.2.1 l.length) : C Try.prog 23 [.agg (pcS.c x).toArray] w (Ret fun v w' => v = .tuple #[nilS, I 1] ∧ Ext w w') := by
  have hub := hbq
  unfold badQ at hub
  have e0 := Ext.refl w
  refine C.enter Try.func23 rfl Try.ntmps23 rfl ?_
  refine J.seq ?_
  refine J.region ?_
  refine J.eff (Ye.box (S := [(0, 1, [I x.1]), (1, 1, [I x.2.1]), (2, 1, [I x.2.2.1]), (3, 1, [x.2.2.2])]) rfl (by simp [SegAll, SegOK, Value.cells, pcS])) rfl ?_
  rintro _ w1 ⟨b1_0, rfl, hb_, c1_0, x1⟩
  have fr_b1_0 : Fr w.heap.size (some b1_0) := Fr.le (Fr.blk hb_) e0.size
  have e0 := e0.trans x1
  clear x1 hb_
  refine J.op (Yd.assign rfl) rfl ?_
  refine J.op (Yd.assign rfl) rfl ?_
  refine J.nil ?_
  refine J.n_then ?_
  refine J.seq ?_
  refine J.seq ?_
  refine J.region ?_
  refine J.op (Yd.cast (Yd.fieldA Try.underlying31 rfl ti3 rfl rfl) (show _ = Value.pointer (some ⟨b1_0, 0, none⟩) from rfl)) rfl ?_
  refine J.op (Yd.load pl3 rfl (Cel.cell1 c1_0 0 rfl)) rfl ?_
  refine J.op (Yd.lss rfl rfl) rfl ?_
  refine J.op (Yd.move rfl) rfl ?_
  refine J.split_dec (t := 7) rfl (fun g3 => ?_) (fun g3 => ?_)
  · skip
    refine J.not_g rfl rfl rfl rfl rfl ?_
    refine J.not_g rfl rfl rfl rfl rfl ?_
    refine J.not_g rfl rfl rfl rfl rfl ?_
    refine J.op (Yd.pick_t rfl rfl) rfl ?_
    refine J.op (Yd.move rfl) rfl ?_
    refine J.not_g rfl rfl rfl rfl rfl ?_
    refine J.not_g rfl rfl rfl rfl rfl ?_
    refine J.not_g rfl rfl rfl rfl rfl ?_
    refine J.op (Yd.pick_t rfl rfl) rfl ?_
    refine J.op (Yd.move rfl) rfl ?_
    refine J.not_g rfl rfl rfl rfl rfl ?_
    refine J.not_g rfl rfl rfl rfl rfl ?_
    refine J.not_g rfl rfl rfl rfl rfl ?_
    refine J.op (Yd.pick_t rfl rfl) rfl ?_
    refine J.op (Yd.move rfl) rfl ?_
    refine J.not_g rfl rfl rfl rfl rfl ?_
    refine J.not_g rfl rfl rfl rfl rfl ?_
    refine J.not_g rfl rfl rfl rfl rfl ?_
    refine J.op (Yd.pick_t rfl rfl) rfl ?_
    refine J.op (Yd.move rfl) rfl ?_
    refine J.not_g rfl rfl rfl rfl rfl ?_
    refine J.not_g rfl rfl rfl rfl rfl ?_
    refine J.not_g rfl rfl rfl rfl rfl ?_
    refine J.op (Yd.pick_t rfl rfl) rfl ?_
    refine J.op (Yd.move rfl) rfl ?_
    refine J.not_g rfl rfl rfl rfl rfl ?_
    refine J.not_g rfl rfl rfl rfl rfl ?_
    refine J.not_g rfl rfl rfl rfl rfl ?_
    refine J.not_g rfl rfl rfl rfl rfl ?_
    refine J.not_g rfl rfl rfl rfl rfl ?_
    refine J.op (Yd.pick_t rfl rfl) rfl ?_
    refine J.op (Yd.move rfl) rfl ?_
    refine J.not_g rfl rfl rfl rfl rfl ?_
    refine J.not_g rfl rfl rfl rfl rfl ?_
    refine J.not_g rfl rfl rfl rfl rfl ?_
    refine J.not_g rfl rfl rfl rfl rfl ?_
    refine J.op (Yd.pick_t rfl rfl) rfl ?_
    refine J.nil ?_
    refine J.n_then ?_
    refine J.cond_true rfl ?_
    refine J.seq ?_
    refine J.region ?_
    refine J.op (Yd.assign rfl) rfl ?_
    refine J.op (Yd.assign rfl) rfl ?_
    refine J.nil ?_
    refine J.n_then ?_
    refine J.ret ?_
    refine J.r_then ?_
    exact J.ret2 rfl rfl rfl (⟨_, rfl, rfl, e0⟩)
  · skip
    refine J.op_g rfl rfl rfl (Yd.cast (Yd.fieldA Try.underlying31 rfl ti3 rfl rfl) (show _ = Value.pointer (some ⟨b1_0, 0, none⟩) from rfl)) rfl ?_
    refine J.op_g rfl rfl rfl (Yd.load pl3 rfl (Cel.cell1 c1_0 0 rfl)) rfl ?_
    refine J.op_g rfl rfl rfl (Yd.gtr rfl rfl) rfl ?_
    refine J.op (Yd.pick_f rfl rfl) rfl ?_
    refine J.op (Yd.move rfl) rfl ?_
    refine J.split_dec (t := 12) rfl (fun g8 => ?_) (fun g8 => ?_)
    · skip
      refine J.not_g rfl rfl rfl rfl rfl ?_
      refine J.not_g rfl rfl rfl rfl rfl ?_
      refine J.not_g rfl rfl rfl rfl rfl ?_
      refine J.op (Yd.pick_t rfl rfl) rfl ?_
      refine J.op (Yd.move rfl) rfl ?_
      refine J.not_g rfl rfl rfl rfl rfl ?_
      refine J.not_g rfl rfl rfl rfl rfl ?_
      refine J.not_g rfl rfl rfl rfl rfl ?_
      refine J.op (Yd.pick_t rfl rfl) rfl ?_
      refine J.op (Yd.move rfl) rfl ?_
      refine J.not_g rfl rfl rfl rfl rfl ?_
      refine J.not_g rfl rfl rfl rfl rfl ?_
      refine J.not_g rfl rfl rfl rfl rfl ?_
      refine J.op (Yd.pick_t rfl rfl) rfl ?_
      refine J.op (Yd.move rfl) rfl ?_
      refine J.not_g rfl rfl rfl rfl rfl ?_
      refine J.not_g rfl rfl rfl rfl rfl ?_
      refine J.not_g rfl rfl rfl rfl rfl ?_
      refine J.op (Yd.pick_t rfl rfl) rfl ?_
      refine J.op (Yd.move rfl) rfl ?_
      refine J.not_g rfl rfl rfl rfl rfl ?_
      refine J.not_g rfl rfl rfl rfl rfl ?_
      refine J.not_g rfl rfl rfl rfl rfl ?_
      refine J.not_g rfl rfl rfl rfl rfl ?_
      refine J.not_g rfl rfl rfl rfl rfl ?_
      refine J.op (Yd.pick_t rfl rfl) rfl ?_
      refine J.op (Yd.move rfl) rfl ?_
      refine J.not_g rfl rfl rfl rfl rfl ?_
      refine J.not_g rfl rfl rfl rfl rfl ?_
      refine J.not_g rfl rfl rfl rfl rfl ?_
      refine J.not_g rfl rfl rfl rfl rfl ?_
      refine J.op (Yd.pick_t rfl rfl) rfl ?_
      refine J.nil ?_
      refine J.n_then ?_
      refine J.cond_true rfl ?_
      refine J.seq ?_
      refine J.region ?_
      refine J.op (Yd.assign rfl) rfl ?_
      refine J.op (Yd.assign rfl) rfl ?_
      refine J.nil ?_
      refine J.n_then ?_
      refine J.ret ?_
      refine J.r_then ?_
      exact J.ret2 rfl rfl rfl (⟨_, rfl, rfl, e0⟩)
    · skip
      refine J.op_g rfl rfl rfl (Yd.cast (Yd.fieldA Try.underlying31 rfl ti3 rfl rfl) (show _ = Value.pointer (some ⟨b1_0, 1, none⟩) from rfl)) rfl ?_
      refine J.op_g rfl rfl rfl (Yd.load pl3 rfl (Cel.cell1 c1_0 1 rfl)) rfl ?_
      refine J.op_g rfl rfl rfl (Yd.lss rfl rfl) rfl ?_
      refine J.op (Yd.pick_f rfl rfl) rfl ?_
      refine J.op (Yd.move rfl) rfl ?_
      refine J.split_dec (t := 17) rfl (fun g13 => ?_) (fun g13 => ?_)
      · skip
        refine J.not_g rfl rfl rfl rfl rfl ?_
        refine J.not_g rfl rfl rfl rfl rfl ?_
        refine J.not_g rfl rfl rfl rfl rfl ?_
        refine J.op (Yd.pick_t rfl rfl) rfl ?_
        refine J.op (Yd.move rfl) rfl ?_
        refine J.not_g rfl rfl rfl rfl rfl ?_
        refine J.not_g rfl rfl rfl rfl rfl ?_
        refine J.not_g rfl rfl rfl rfl rfl ?_
        refine J.op (Yd.pick_t rfl rfl) rfl ?_
        refine J.op (Yd.move rfl) rfl ?_
        refine J.not_g rfl rfl rfl rfl rfl ?_
        refine J.not_g rfl rfl rfl rfl rfl ?_
        refine J.not_g rfl rfl rfl rfl rfl ?_
        refine J.op (Yd.pick_t rfl rfl) rfl ?_
        refine J.op (Yd.move rfl) rfl ?_
        refine J.not_g rfl rfl rfl rfl rfl ?_
        refine J.not_g rfl rfl rfl rfl rfl ?_
        refine J.not_g rfl rfl rfl rfl rfl ?_
        refine J.not_g rfl rfl rfl rfl rfl ?_
        refine J.not_g rfl rfl rfl rfl rfl ?_
        refine J.op (Yd.pick_t rfl rfl) rfl ?_
        refine J.op (Yd.move rfl) rfl ?_
        refine J.not_g rfl rfl rfl rfl rfl ?_
        refine J.not_g rfl rfl rfl rfl rfl ?_
        refine J.not_g rfl rfl rfl rfl rfl ?_
        refine J.not_g rfl rfl rfl rfl rfl ?_
        refine J.op (Yd.pick_t rfl rfl) rfl ?_
        refine J.nil ?_
        refine J.n_then ?_
        refine J.cond_true rfl ?_
        refine J.seq ?_
        refine J.region ?_
        refine J.op (Yd.assign rfl) rfl ?_
        refine J.op (Yd.assign rfl) rfl ?_
        refine J.nil ?_
        refine J.n_then ?_
        refine J.ret ?_
        refine J.r_then ?_
        exact J.ret2 rfl rfl rfl (⟨_, rfl, rfl, e0⟩)
      · skip
        refine J.op_g rfl rfl rfl (Yd.cast (Yd.fieldA Try.underlying31 rfl ti3 rfl rfl) (show _ = Value.pointer (some ⟨b1_0, 1, none⟩) from rfl)) rfl ?_
        refine J.op_g rfl rfl rfl (Yd.load pl3 rfl (Cel.cell1 c1_0 1 rfl)) rfl ?_
        refine J.op_g rfl rfl rfl (Yd.gtr rfl rfl) rfl ?_
        refine J.op (Yd.pick_f rfl rfl) rfl ?_
        refine J.op (Yd.move rfl) rfl ?_
        refine J.split_dec (t := 22) rfl (fun g18 => ?_) (fun g18 => ?_)
        · skip
          refine J.not_g rfl rfl rfl rfl rfl ?_
          refine J.not_g rfl rfl rfl rfl rfl ?_
          refine J.not_g rfl rfl rfl rfl rfl ?_
          refine J.op (Yd.pick_t rfl rfl) rfl ?_
          refine J.op (Yd.move rfl) rfl ?_
          refine J.not_g rfl rfl rfl rfl rfl ?_
          refine J.not_g rfl rfl rfl rfl rfl ?_
          refine J.not_g rfl rfl rfl rfl rfl ?_
          refine J.op (Yd.pick_t rfl rfl) rfl ?_
          refine J.op (Yd.move rfl) rfl ?_
          refine J.not_g rfl rfl rfl rfl rfl ?_
          refine J.not_g rfl rfl rfl rfl rfl ?_
          refine J.not_g rfl rfl rfl rfl rfl ?_
          refine J.not_g rfl rfl rfl rfl rfl ?_
          refine J.not_g rfl rfl rfl rfl rfl ?_
          refine J.op (Yd.pick_t rfl rfl) rfl ?_
          refine J.op (Yd.move rfl) rfl ?_
          refine J.not_g rfl rfl rfl rfl rfl ?_
          refine J.not_g rfl rfl rfl rfl rfl ?_
          refine J.not_g rfl rfl rfl rfl rfl ?_
          refine J.not_g rfl rfl rfl rfl rfl ?_
          refine J.op (Yd.pick_t rfl rfl) rfl ?_
          refine J.nil ?_
          refine J.n_then ?_
          refine J.cond_true rfl ?_
          refine J.seq ?_
          refine J.region ?_
          refine J.op (Yd.assign rfl) rfl ?_
          refine J.op (Yd.assign rfl) rfl ?_
          refine J.nil ?_
          refine J.n_then ?_
          refine J.ret ?_
          refine J.r_then ?_
          exact J.ret2 rfl rfl rfl (⟨_, rfl, rfl, e0⟩)
        · skip
          refine J.op_g rfl rfl rfl (Yd.cast (Yd.fieldA Try.underlying31 rfl ti3 rfl rfl) (show _ = Value.pointer (some ⟨b1_0, 2, none⟩) from rfl)) rfl ?_
          refine J.op_g rfl rfl rfl (Yd.load pl3 rfl (Cel.cell1 c1_0 2 rfl)) rfl ?_
          refine J.op_g rfl rfl rfl (Yd.lss rfl rfl) rfl ?_
          refine J.op (Yd.pick_f rfl rfl) rfl ?_
          refine J.op (Yd.move rfl) rfl ?_
          refine J.split_dec (t := 27) rfl (fun g23 => ?_) (fun g23 => ?_)
          · skip
            refine J.not_g rfl rfl rfl rfl rfl ?_
            refine J.not_g rfl rfl rfl rfl rfl ?_
            refine J.not_g rfl rfl rfl rfl rfl ?_
            refine J.op (Yd.pick_t rfl rfl) rfl ?_
            refine J.op (Yd.move rfl) rfl ?_
            refine J.not_g rfl rfl rfl rfl rfl ?_
            refine J.not_g rfl rfl rfl rfl rfl ?_
            refine J.not_g rfl rfl rfl rfl rfl ?_
            refine J.not_g rfl rfl rfl rfl rfl ?_
            refine J.not_g rfl rfl rfl rfl rfl ?_
            refine J.op (Yd.pick_t rfl rfl) rfl ?_
            refine J.op (Yd.move rfl) rfl ?_
            refine J.not_g rfl rfl rfl rfl rfl ?_
            refine J.not_g rfl rfl rfl rfl rfl ?_
            refine J.not_g rfl rfl rfl rfl rfl ?_
            refine J.not_g rfl rfl rfl rfl rfl ?_
            refine J.op (Yd.pick_t rfl rfl) rfl ?_
            refine J.nil ?_
            refine J.n_then ?_
            refine J.cond_true rfl ?_
            refine J.seq ?_
            refine J.region ?_
            refine J.op (Yd.assign rfl) rfl ?_
            refine J.op (Yd.assign rfl) rfl ?_
            refine J.nil ?_
            refine J.n_then ?_
            refine J.ret ?_
            refine J.r_then ?_
            exact J.ret2 rfl rfl rfl (⟨_, rfl, rfl, e0⟩)
          · skip
            refine J.op_g rfl rfl rfl (Yd.cast (Yd.fieldA Try.underlying31 rfl ti3 rfl rfl) (show _ = Value.pointer (some ⟨b1_0, 2, none⟩) from rfl)) rfl ?_
            refine J.op_g rfl rfl rfl (Yd.load pl3 rfl (Cel.cell1 c1_0 2 rfl)) rfl ?_
            refine J.op_g rfl rfl rfl (Yd.gtr rfl rfl) rfl ?_
            refine J.op (Yd.pick_f rfl rfl) rfl ?_
            refine J.op (Yd.move rfl) rfl ?_
            refine J.split_dec (t := 32) rfl (fun g28 => ?_) (fun g28 => ?_)
            · skip
              refine J.not_g rfl rfl rfl rfl rfl ?_
              refine J.not_g rfl rfl rfl rfl rfl ?_
              refine J.not_g rfl rfl rfl rfl rfl ?_
              refine J.not_g rfl rfl rfl rfl rfl ?_
              refine J.not_g rfl rfl rfl rfl rfl ?_
              refine J.op (Yd.pick_t rfl rfl) rfl ?_
              refine J.op (Yd.move rfl) rfl ?_
              refine J.not_g rfl rfl rfl rfl rfl ?_
              refine J.not_g rfl rfl rfl rfl rfl ?_
              refine J.not_g rfl rfl rfl rfl rfl ?_
              refine J.not_g rfl rfl rfl rfl rfl ?_
              refine J.op (Yd.pick_t rfl rfl) rfl ?_
              refine J.nil ?_
              refine J.n_then ?_
              refine J.cond_true rfl ?_
              refine J.seq ?_
              refine J.region ?_
              refine J.op (Yd.assign rfl) rfl ?_
              refine J.op (Yd.assign rfl) rfl ?_
              refine J.nil ?_
              refine J.n_then ?_
              refine J.ret ?_
              refine J.r_then ?_
              exact J.ret2 rfl rfl rfl (⟨_, rfl, rfl, e0⟩)
            · skip
              refine J.op_g rfl rfl rfl (Yd.cast (Yd.fieldA Try.underlying31 rfl ti3 rfl rfl) (show _ = Value.pointer (some ⟨b1_0, 1, none⟩) from rfl)) rfl ?_
              refine J.op_g rfl rfl rfl (Yd.load pl3 rfl (Cel.cell1 c1_0 1 rfl)) rfl ?_
              refine J.op_g rfl rfl rfl (Yd.cast (Yd.fieldA Try.underlying31 rfl ti3 rfl rfl) (show _ = Value.pointer (some ⟨b1_0, 2, none⟩) from rfl)) rfl ?_
              refine J.op_g rfl rfl rfl (Yd.load pl3 rfl (Cel.cell1 c1_0 2 rfl)) rfl ?_
              refine J.op_g rfl rfl rfl (Yd.geq rfl rfl) rfl ?_
              refine J.op (Yd.pick_f rfl rfl) rfl ?_
              refine J.op (Yd.move rfl) rfl ?_
              refine J.split_dec (t := 39) rfl (fun g35 => ?_) (fun g35 => ?_)
              · skip
                refine J.not_g rfl rfl rfl rfl rfl ?_
                refine J.not_g rfl rfl rfl rfl rfl ?_
                refine J.not_g rfl rfl rfl rfl rfl ?_
                refine J.not_g rfl rfl rfl rfl rfl ?_
                refine J.op (Yd.pick_t rfl rfl) rfl ?_
                refine J.nil ?_
                refine J.n_then ?_
                refine J.cond_true rfl ?_
                refine J.seq ?_
                refine J.region ?_
                refine J.op (Yd.assign rfl) rfl ?_
                refine J.op (Yd.assign rfl) rfl ?_
                refine J.nil ?_
                refine J.n_then ?_
                refine J.ret ?_
                refine J.r_then ?_
                exact J.ret2 rfl rfl rfl (⟨_, rfl, rfl, e0⟩)
              · skip
                refine J.op_g rfl rfl rfl (Yd.cast (Yd.fieldA Try.underlying31 rfl ti22 rfl rfl) (show _ = Value.pointer (some ⟨b1_0, 3, none⟩) from rfl)) rfl ?_
                refine J.op_g rfl rfl rfl (Yd.load pl22 rfl (Cel.cell1 c1_0 3 rfl)) rfl ?_
                refine J.op_g rfl rfl rfl (Yd.len_b Try.underlying22 rfl (Rd.ext hx e0)) rfl ?_
                refine J.op_g rfl rfl rfl (Yd.eql rfl rfl) rfl ?_
                refine J.op (Yd.pick_f rfl rfl) rfl ?_
                refine J.nil ?_
                refine J.n_then ?_
                refine J.know (t := 44) (v' := .bool true) rfl (tt (by first | omega | (exfalso; apply hub; refine ⟨?_, ?_, ?_, ?_⟩ <;> first | omega | (apply Classical.not_not.1; assumption)))) ?_
                refine J.cond_true rfl ?_
                refine J.seq ?_
                refine J.region ?_
                refine J.op (Yd.assign rfl) rfl ?_
                refine J.op (Yd.assign rfl) rfl ?_
                refine J.nil ?_
                refine J.n_then ?_
                refine J.ret ?_
                refine J.r_then ?_
                exact J.ret2 rfl rfl rfl (⟨_, rfl, rfl, e0⟩)

theorem EncodeP_big {x : Pc} {l : List UInt8} {w : World} (hx : Bs w x.2.2.2 l) (hbq : ¬ badQ x.1 x.2.1 x.2.2.1 l.length) (hl : ¬ l.length ≤ 1000) : C Try.prog 23 [.agg (pcS.c x).toArray] w (Ret fun v w' => v = .tuple #[nilS, I 11] ∧ Ext w w') := by
  have hgd := Classical.not_not.1 hbq
  have e0 := Ext.refl w
  refine C.enter Try.func23 rfl Try.ntmps23 rfl ?_
  refine J.seq ?_
  refine J.region ?_
  refine J.eff (Ye.box (S := [(0, 1, [I x.1]), (1, 1, [I x.2.1]), (2, 1, [I x.2.2.1]), (3, 1, [x.2.2.2])]) rfl (by simp [SegAll, SegOK, Value.cells, pcS])) rfl ?_
  rintro _ w1 ⟨b1_0, rfl, hb_, c1_0, x1⟩
  have fr_b1_0 : Fr w.heap.size (some b1_0) := Fr.le (Fr.blk hb_) e0.size
  have e0 := e0.trans x1
  clear x1 hb_
  refine J.op (Yd.assign rfl) rfl ?_
  refine J.op (Yd.assign rfl) rfl ?_
  refine J.nil ?_
  refine J.n_then ?_
  refine J.seq ?_
  refine J.seq ?_
  refine J.region ?_
  refine J.op (Yd.cast (Yd.fieldA Try.underlying31 rfl ti3 rfl rfl) (show _ = Value.pointer (some ⟨b1_0, 0, none⟩) from rfl)) rfl ?_
  refine J.op (Yd.load pl3 rfl (Cel.cell1 c1_0 0 rfl)) rfl ?_
  refine J.op (Yd.lss rfl rfl) rfl ?_
  refine J.op (Yd.move rfl) rfl ?_
  refine J.know (t := 7) (v' := .bool false) rfl (ff (by omega)) ?_
  refine J.op_g rfl rfl rfl (Yd.cast (Yd.fieldA Try.underlying31 rfl ti3 rfl rfl) (show _ = Value.pointer (some ⟨b1_0, 0, none⟩) from rfl)) rfl ?_
  refine J.op_g rfl rfl rfl (Yd.load pl3 rfl (Cel.cell1 c1_0 0 rfl)) rfl ?_
  refine J.op_g rfl rfl rfl (Yd.gtr rfl rfl) rfl ?_
  refine J.op (Yd.pick_f rfl rfl) rfl ?_
  refine J.op (Yd.move rfl) rfl ?_
  refine J.know (t := 12) (v' := .bool false) rfl (ff (by omega)) ?_
  refine J.op_g rfl rfl rfl (Yd.cast (Yd.fieldA Try.underlying31 rfl ti3 rfl rfl) (show _ = Value.pointer (some ⟨b1_0, 1, none⟩) from rfl)) rfl ?_
  refine J.op_g rfl rfl rfl (Yd.load pl3 rfl (Cel.cell1 c1_0 1 rfl)) rfl ?_
  refine J.op_g rfl rfl rfl (Yd.lss rfl rfl) rfl ?_
  refine J.op (Yd.pick_f rfl rfl) rfl ?_
  refine J.op (Yd.move rfl) rfl ?_
  refine J.know (t := 17) (v' := .bool false) rfl (ff (by omega)) ?_
  refine J.op_g rfl rfl rfl (Yd.cast (Yd.fieldA Try.underlying31 rfl ti3 rfl rfl) (show _ = Value.pointer (some ⟨b1_0, 1, none⟩) from rfl)) rfl ?_
  refine J.op_g rfl rfl rfl (Yd.load pl3 rfl (Cel.cell1 c1_0 1 rfl)) rfl ?_
  refine J.op_g rfl rfl rfl (Yd.gtr rfl rfl) rfl ?_
  refine J.op (Yd.pick_f rfl rfl) rfl ?_
  refine J.op (Yd.move rfl) rfl ?_
  refine J.know (t := 22) (v' := .bool false) rfl (ff (by omega)) ?_
  refine J.op_g rfl rfl rfl (Yd.cast (Yd.fieldA Try.underlying31 rfl ti3 rfl rfl) (show _ = Value.pointer (some ⟨b1_0, 2, none⟩) from rfl)) rfl ?_
  refine J.op_g rfl rfl rfl (Yd.load pl3 rfl (Cel.cell1 c1_0 2 rfl)) rfl ?_
  refine J.op_g rfl rfl rfl (Yd.lss rfl rfl) rfl ?_
  refine J.op (Yd.pick_f rfl rfl) rfl ?_
  refine J.op (Yd.move rfl) rfl ?_
  refine J.know (t := 27) (v' := .bool false) rfl (ff (by omega)) ?_
  refine J.op_g rfl rfl rfl (Yd.cast (Yd.fieldA Try.underlying31 rfl ti3 rfl rfl) (show _ = Value.pointer (some ⟨b1_0, 2, none⟩) from rfl)) rfl ?_
  refine J.op_g rfl rfl rfl (Yd.load pl3 rfl (Cel.cell1 c1_0 2 rfl)) rfl ?_
  refine J.op_g rfl rfl rfl (Yd.gtr rfl rfl) rfl ?_
  refine J.op (Yd.pick_f rfl rfl) rfl ?_
  refine J.op (Yd.move rfl) rfl ?_
  refine J.know (t := 32) (v' := .bool false) rfl (ff (by omega)) ?_
  refine J.op_g rfl rfl rfl (Yd.cast (Yd.fieldA Try.underlying31 rfl ti3 rfl rfl) (show _ = Value.pointer (some ⟨b1_0, 1, none⟩) from rfl)) rfl ?_
  refine J.op_g rfl rfl rfl (Yd.load pl3 rfl (Cel.cell1 c1_0 1 rfl)) rfl ?_
  refine J.op_g rfl rfl rfl (Yd.cast (Yd.fieldA Try.underlying31 rfl ti3 rfl rfl) (show _ = Value.pointer (some ⟨b1_0, 2, none⟩) from rfl)) rfl ?_
  refine J.op_g rfl rfl rfl (Yd.load pl3 rfl (Cel.cell1 c1_0 2 rfl)) rfl ?_
  refine J.op_g rfl rfl rfl (Yd.geq rfl rfl) rfl ?_
  refine J.op (Yd.pick_f rfl rfl) rfl ?_
  refine J.op (Yd.move rfl) rfl ?_
  refine J.know (t := 39) (v' := .bool false) rfl (ff (by omega)) ?_
  refine J.op_g rfl rfl rfl (Yd.cast (Yd.fieldA Try.underlying31 rfl ti22 rfl rfl) (show _ = Value.pointer (some ⟨b1_0, 3, none⟩) from rfl)) rfl ?_
  refine J.op_g rfl rfl rfl (Yd.load pl22 rfl (Cel.cell1 c1_0 3 rfl)) rfl ?_
  refine J.op_g rfl rfl rfl (Yd.len_b Try.underlying22 rfl (Rd.ext hx e0)) rfl ?_
  refine J.op_g rfl rfl rfl (Yd.eql rfl rfl) rfl ?_
  refine J.op (Yd.pick_f rfl rfl) rfl ?_
  refine J.nil ?_
  refine J.n_then ?_
  refine J.know (t := 44) (v' := .bool false) rfl (ff (by omega)) ?_
  refine J.cond_false rfl ?_
  refine J.skip ?_
  refine J.n_then ?_
  refine J.seq ?_
  refine J.seq ?_
  refine J.region ?_
  refine J.op (Yd.cast (Yd.fieldA Try.underlying31 rfl ti22 rfl rfl) (show _ = Value.pointer (some ⟨b1_0, 3, none⟩) from rfl)) rfl ?_
  refine J.op (Yd.load pl22 rfl (Cel.cell1 c1_0 3 rfl)) rfl ?_
  refine J.op (Yd.len_b Try.underlying22 rfl (Rd.ext hx e0)) rfl ?_
  refine J.op (Yd.gtr rfl rfl) rfl ?_
  refine J.nil ?_
  refine J.n_then ?_
  refine J.know (t := 48) (v' := .bool true) rfl (tt (by omega)) ?_
  refine J.cond_true rfl ?_
  refine J.seq ?_
  refine J.region ?_
  refine J.op (Yd.assign rfl) rfl ?_
  refine J.op (Yd.assign rfl) rfl ?_
  refine J.nil ?_
  refine J.n_then ?_
  refine J.ret ?_
  refine J.r_then ?_
  exact J.ret2 rfl rfl rfl (⟨_, rfl, rfl, e0⟩)

theorem EncodeP_good {x : Pc} {l : List UInt8} {w : World} (hx : Bs w x.2.2.2 l) (hbq : ¬ badQ x.1 x.2.1 x.2.2.1 l.length) (hl : l.length ≤ 1000) : C Try.prog 23 [.agg (pcS.c x).toArray] w (Ret fun u w' => ∃ v, u = .tuple #[v, I 0] ∧ Ob w.heap.size 5 w' v (encB x.1 x.2.1 x.2.2.1 l) ∧ Ext w w') := by
  have hgd := Classical.not_not.1 hbq
  have e0 := Ext.refl w
  refine C.enter Try.func23 rfl Try.ntmps23 rfl ?_
  refine J.seq ?_
  refine J.region ?_
  refine J.eff (Ye.box (S := [(0, 1, [I x.1]), (1, 1, [I x.2.1]), (2, 1, [I x.2.2.1]), (3, 1, [x.2.2.2])]) rfl (by simp [SegAll, SegOK, Value.cells, pcS])) rfl ?_
  rintro _ w1 ⟨b1_0, rfl, hb_, c1_0, x1⟩
  have fr_b1_0 : Fr w.heap.size (some b1_0) := Fr.le (Fr.blk hb_) e0.size
  have e0 := e0.trans x1
  clear x1 hb_
  refine J.op (Yd.assign rfl) rfl ?_
  refine J.op (Yd.assign rfl) rfl ?_
  refine J.nil ?_
  refine J.n_then ?_
  refine J.seq ?_
  refine J.seq ?_
  refine J.region ?_
  refine J.op (Yd.cast (Yd.fieldA Try.underlying31 rfl ti3 rfl rfl) (show _ = Value.pointer (some ⟨b1_0, 0, none⟩) from rfl)) rfl ?_
  refine J.op (Yd.load pl3 rfl (Cel.cell1 c1_0 0 rfl)) rfl ?_
  refine J.op (Yd.lss rfl rfl) rfl ?_
  refine J.op (Yd.move rfl) rfl ?_
  refine J.know (t := 7) (v' := .bool false) rfl (ff (by omega)) ?_
  refine J.op_g rfl rfl rfl (Yd.cast (Yd.fieldA Try.underlying31 rfl ti3 rfl rfl) (show _ = Value.pointer (some ⟨b1_0, 0, none⟩) from rfl)) rfl ?_
  refine J.op_g rfl rfl rfl (Yd.load pl3 rfl (Cel.cell1 c1_0 0 rfl)) rfl ?_
  refine J.op_g rfl rfl rfl (Yd.gtr rfl rfl) rfl ?_
  refine J.op (Yd.pick_f rfl rfl) rfl ?_
  refine J.op (Yd.move rfl) rfl ?_
  refine J.know (t := 12) (v' := .bool false) rfl (ff (by omega)) ?_
  refine J.op_g rfl rfl rfl (Yd.cast (Yd.fieldA Try.underlying31 rfl ti3 rfl rfl) (show _ = Value.pointer (some ⟨b1_0, 1, none⟩) from rfl)) rfl ?_
  refine J.op_g rfl rfl rfl (Yd.load pl3 rfl (Cel.cell1 c1_0 1 rfl)) rfl ?_
  refine J.op_g rfl rfl rfl (Yd.lss rfl rfl) rfl ?_
  refine J.op (Yd.pick_f rfl rfl) rfl ?_
  refine J.op (Yd.move rfl) rfl ?_
  refine J.know (t := 17) (v' := .bool false) rfl (ff (by omega)) ?_
  refine J.op_g rfl rfl rfl (Yd.cast (Yd.fieldA Try.underlying31 rfl ti3 rfl rfl) (show _ = Value.pointer (some ⟨b1_0, 1, none⟩) from rfl)) rfl ?_
  refine J.op_g rfl rfl rfl (Yd.load pl3 rfl (Cel.cell1 c1_0 1 rfl)) rfl ?_
  refine J.op_g rfl rfl rfl (Yd.gtr rfl rfl) rfl ?_
  refine J.op (Yd.pick_f rfl rfl) rfl ?_
  refine J.op (Yd.move rfl) rfl ?_
  refine J.know (t := 22) (v' := .bool false) rfl (ff (by omega)) ?_
  refine J.op_g rfl rfl rfl (Yd.cast (Yd.fieldA Try.underlying31 rfl ti3 rfl rfl) (show _ = Value.pointer (some ⟨b1_0, 2, none⟩) from rfl)) rfl ?_
  refine J.op_g rfl rfl rfl (Yd.load pl3 rfl (Cel.cell1 c1_0 2 rfl)) rfl ?_
  refine J.op_g rfl rfl rfl (Yd.lss rfl rfl) rfl ?_
  refine J.op (Yd.pick_f rfl rfl) rfl ?_
  refine J.op (Yd.move rfl) rfl ?_
  refine J.know (t := 27) (v' := .bool false) rfl (ff (by omega)) ?_
  refine J.op_g rfl rfl rfl (Yd.cast (Yd.fieldA Try.underlying31 rfl ti3 rfl rfl) (show _ = Value.pointer (some ⟨b1_0, 2, none⟩) from rfl)) rfl ?_
  refine J.op_g rfl rfl rfl (Yd.load pl3 rfl (Cel.cell1 c1_0 2 rfl)) rfl ?_
  refine J.op_g rfl rfl rfl (Yd.gtr rfl rfl) rfl ?_
  refine J.op (Yd.pick_f rfl rfl) rfl ?_
  refine J.op (Yd.move rfl) rfl ?_
  refine J.know (t := 32) (v' := .bool false) rfl (ff (by omega)) ?_
  refine J.op_g rfl rfl rfl (Yd.cast (Yd.fieldA Try.underlying31 rfl ti3 rfl rfl) (show _ = Value.pointer (some ⟨b1_0, 1, none⟩) from rfl)) rfl ?_
  refine J.op_g rfl rfl rfl (Yd.load pl3 rfl (Cel.cell1 c1_0 1 rfl)) rfl ?_
  refine J.op_g rfl rfl rfl (Yd.cast (Yd.fieldA Try.underlying31 rfl ti3 rfl rfl) (show _ = Value.pointer (some ⟨b1_0, 2, none⟩) from rfl)) rfl ?_
  refine J.op_g rfl rfl rfl (Yd.load pl3 rfl (Cel.cell1 c1_0 2 rfl)) rfl ?_
  refine J.op_g rfl rfl rfl (Yd.geq rfl rfl) rfl ?_
  refine J.op (Yd.pick_f rfl rfl) rfl ?_
  refine J.op (Yd.move rfl) rfl ?_
  refine J.know (t := 39) (v' := .bool false) rfl (ff (by omega)) ?_
  refine J.op_g rfl rfl rfl (Yd.cast (Yd.fieldA Try.underlying31 rfl ti22 rfl rfl) (show _ = Value.pointer (some ⟨b1_0, 3, none⟩) from rfl)) rfl ?_
  refine J.op_g rfl rfl rfl (Yd.load pl22 rfl (Cel.cell1 c1_0 3 rfl)) rfl ?_
  refine J.op_g rfl rfl rfl (Yd.len_b Try.underlying22 rfl (Rd.ext hx e0)) rfl ?_
  refine J.op_g rfl rfl rfl (Yd.eql rfl rfl) rfl ?_
  refine J.op (Yd.pick_f rfl rfl) rfl ?_
  refine J.nil ?_
  refine J.n_then ?_
  refine J.know (t := 44) (v' := .bool false) rfl (ff (by omega)) ?_
  refine J.cond_false rfl ?_
  refine J.skip ?_
  refine J.n_then ?_
  refine J.seq ?_
  refine J.seq ?_
  refine J.region ?_
  refine J.op (Yd.cast (Yd.fieldA Try.underlying31 rfl ti22 rfl rfl) (show _ = Value.pointer (some ⟨b1_0, 3, none⟩) from rfl)) rfl ?_
  refine J.op (Yd.load pl22 rfl (Cel.cell1 c1_0 3 rfl)) rfl ?_
  refine J.op (Yd.len_b Try.underlying22 rfl (Rd.ext hx e0)) rfl ?_
  refine J.op (Yd.gtr rfl rfl) rfl ?_
  refine J.nil ?_
  refine J.n_then ?_
  refine J.know (t := 48) (v' := .bool false) rfl (ff (by omega)) ?_
  refine J.cond_false rfl ?_
  refine J.skip ?_
  refine J.n_then ?_
  refine J.seq ?_
  refine J.regionR mix (by kernel_rfl) (n := 19) rfl ?_
  refine J.rg_seq (m := 15) [(0, true), (4, true), (8, true), (12, true)] rfl (by kernel_rfl) ?_
  refine J.s_op rfl (fun _ => Yd.cast (Yd.fieldA Try.underlying31 rfl ti3 rfl rfl) (show _ = Value.pointer (some ⟨b1_0, 0, none⟩) from rfl)) rfl ?_
  refine J.s_op rfl (fun _ => Yd.cast (Yd.fieldA Try.underlying31 rfl ti3 rfl rfl) (show _ = Value.pointer (some ⟨b1_0, 1, none⟩) from rfl)) rfl ?_
  refine J.s_op rfl (fun _ => Yd.cast (Yd.fieldA Try.underlying31 rfl ti3 rfl rfl) (show _ = Value.pointer (some ⟨b1_0, 2, none⟩) from rfl)) rfl ?_
  refine J.s_op rfl (fun _ => Yd.cast (Yd.fieldA Try.underlying31 rfl ti22 rfl rfl) (show _ = Value.pointer (some ⟨b1_0, 3, none⟩) from rfl)) rfl ?_
  refine J.s_nil ?_
  have lolAT : LoL w1.heap.size [] := LoL.nil
  refine J.rg_blk (m := 4) [(1, AsrT.v [] 50 (I x.1)), (2, AsrT.v [] 51 (W64 (UInt64.ofNat x.1.toNat))), (3, AsrT.own [] 52 w1.heap.size 5 ((putN (UInt64.ofNat x.1.toNat)).map fun x : UInt8 => B x)), (5, AsrT.v [] 54 (I x.2.1)), (6, AsrT.v [] 55 (W64 (UInt64.ofNat x.2.1.toNat))), (7, AsrT.own [] 56 w1.heap.size 5 ((putN (UInt64.ofNat x.2.1.toNat)).map fun x : UInt8 => B x)), (9, AsrT.v [] 58 (I x.2.2.1)), (10, AsrT.v [] 59 (W64 (UInt64.ofNat x.2.2.1.toNat))), (11, AsrT.own [] 60 w1.heap.size 5 ((putN (UInt64.ofNat x.2.2.1.toNat)).map fun x : UInt8 => B x)), (13, AsrT.v [] 62 (x.2.2.2)), (14, AsrT.own [] 63 w1.heap.size 5 ((bF l).map fun x : UInt8 => B x))] [1, 2, 3, 5, 6, 7, 9, 10, 11, 13, 14] [50, 51, 52, 54, 55, 56, 58, 59, 60, 62, 63] [[], [0], [0, 1], [], [3], [0, 1, 2, 3, 4], [], [6], [0, 1, 2, 3, 4, 5, 6, 7], [], [0, 1, 2, 3, 4, 5, 6, 7, 8, 9]] [[], [], [], [], [], [], [], [], [], [], []] [] [] rfl rfl rfl rfl ⟨(fun p hp => by cases hp), (fun p hp => by cases hp), (fun p hp => by cases hp), (fun p hp => by cases hp), (fun p hp => by cases hp), (fun p hp => by cases hp), (fun p hp => by cases hp), (fun p hp => by cases hp), (fun p hp => by cases hp), (fun p hp => by cases hp), (fun p hp => by cases hp), trivial⟩ (by kernel_rfl) ?_
  refine J.at_in [0, 1, 2, 3, 4, 5, 6, 7, 8, 9, 10] rfl (by rfl) ⟨?_, ?_, ?_, ?_, ?_, ?_, ?_, ?_, ?_, ?_, ?_, trivial⟩ ?_
  · skip
    intro w2 x1
    have x1 : Tn [] w1 w2 := x1
    have xs1 := x1.size
    have x1 := Tn.nil x1
    have e0 := e0.trans x1
    have c1_0 := c1_0.ext x1
    clear x1
    refine PremT.nil ?_
    exact OpYeT.val rfl (Yd.load pl3 rfl (Cel.cell1 c1_0 0 rfl))
  · skip
    intro w3 x1
    refine PremT.v rfl ?_
    have x1 : Tn [] w1 w3 := x1
    have xs1 := x1.size
    have x1 := Tn.nil x1
    have e0 := e0.trans x1
    have c1_0 := c1_0.ext x1
    clear x1
    refine PremT.nil ?_
    exact OpYeT.val rfl (Yd.cv_i_64 Try.underlying3 Try.underlying81 rfl (by first | omega | exact idx_u8' _ | (simp only [Int.toNat_natCast]; omega) | (simp only [List.length_map, List.length_drop, List.length_take, List.length_append, List.length_replicate]; omega) | (simp <;> omega)))
  · skip
    intro w4 x1
    refine PremT.v rfl ?_
    refine PremT.v rfl ?_
    have x1 : Tn [] w1 w4 := x1
    have xs1 := x1.size
    have x1 := Tn.nil x1
    have e0 := e0.trans x1
    have c1_0 := c1_0.ext x1
    clear x1
    refine PremT.nil ?_
    exact OpYeT.mk rfl (Ye.mono (Ye.call cl36 rfl (RefNum_ok)) fun v w2 h => ⟨⟨v, rfl, own_cl (Ow.base h.1 xs1) LoL.nil⟩, Ext.tn h.2 _⟩)
  · skip
    intro w5 x1
    have x1 : Tn [] w1 w5 := x1
    have xs1 := x1.size
    have x1 := Tn.nil x1
    have e0 := e0.trans x1
    have c1_0 := c1_0.ext x1
    clear x1
    refine PremT.nil ?_
    exact OpYeT.val rfl (Yd.load pl3 rfl (Cel.cell1 c1_0 1 rfl))
  · skip
    intro w6 x1
    refine PremT.v rfl ?_
    have x1 : Tn [] w1 w6 := x1
    have xs1 := x1.size
    have x1 := Tn.nil x1
    have e0 := e0.trans x1
    have c1_0 := c1_0.ext x1
    clear x1
    refine PremT.nil ?_
    exact OpYeT.val rfl (Yd.cv_i_64 Try.underlying3 Try.underlying81 rfl (by first | omega | exact idx_u8' _ | (simp only [Int.toNat_natCast]; omega) | (simp only [List.length_map, List.length_drop, List.length_take, List.length_append, List.length_replicate]; omega) | (simp <;> omega)))
  · skip
    intro w7 x1
    refine PremT.v rfl ?_
    refine PremT.v rfl ?_
    refine PremT.a rfl fun s52_7 o52_7 => ?_
    have o52_7 := o52_7 _ (Tn.refl _ _)
    have ap_b1_0_s52_7 : Ap (some b1_0) s52_7.ownBlock := Ap.mk (Cel.live c1_0) (Ow.fr o52_7)
    have fr_s52_7 : Fr w.heap.size s52_7.ownBlock := Fr.le (Ow.fr o52_7) e0.size
    replace o52_7 := Ow.base o52_7 e0.size
    refine PremT.v rfl ?_
    refine PremT.v rfl ?_
    have x1 : Tn [] w1 w7 := x1
    have xs1 := x1.size
    have x1 := Tn.nil x1
    have e0 := e0.trans x1
    have c1_0 := c1_0.ext x1
    clear x1
    refine PremT.nil ?_
    exact OpYeT.mk rfl (Ye.mono (Ye.call cl36 rfl (RefNum_ok)) fun v w2 h => ⟨⟨v, rfl, own_cl (Ow.base h.1 xs1) LoL.nil⟩, Ext.tn h.2 _⟩)
  · skip
    intro w8 x1
    have x1 : Tn [] w1 w8 := x1
    have xs1 := x1.size
    have x1 := Tn.nil x1
    have e0 := e0.trans x1
    have c1_0 := c1_0.ext x1
    clear x1
    refine PremT.nil ?_
    exact OpYeT.val rfl (Yd.load pl3 rfl (Cel.cell1 c1_0 2 rfl))
  · skip
    intro w9 x1
    refine PremT.v rfl ?_
    have x1 : Tn [] w1 w9 := x1
    have xs1 := x1.size
    have x1 := Tn.nil x1
    have e0 := e0.trans x1
    have c1_0 := c1_0.ext x1
    clear x1
    refine PremT.nil ?_
    exact OpYeT.val rfl (Yd.cv_i_64 Try.underlying3 Try.underlying81 rfl (by first | omega | exact idx_u8' _ | (simp only [Int.toNat_natCast]; omega) | (simp only [List.length_map, List.length_drop, List.length_take, List.length_append, List.length_replicate]; omega) | (simp <;> omega)))
  · skip
    intro w10 x1
    refine PremT.v rfl ?_
    refine PremT.v rfl ?_
    refine PremT.a rfl fun s52_10 o52_10 => ?_
    have o52_10 := o52_10 _ (Tn.refl _ _)
    have ap_b1_0_s52_10 : Ap (some b1_0) s52_10.ownBlock := Ap.mk (Cel.live c1_0) (Ow.fr o52_10)
    have fr_s52_10 : Fr w.heap.size s52_10.ownBlock := Fr.le (Ow.fr o52_10) e0.size
    replace o52_10 := Ow.base o52_10 e0.size
    refine PremT.v rfl ?_
    refine PremT.v rfl ?_
    refine PremT.a rfl fun s56_10 o56_10 => ?_
    have o56_10 := o56_10 _ (Tn.refl _ _)
    have ap_b1_0_s56_10 : Ap (some b1_0) s56_10.ownBlock := Ap.mk (Cel.live c1_0) (Ow.fr o56_10)
    have fr_s56_10 : Fr w.heap.size s56_10.ownBlock := Fr.le (Ow.fr o56_10) e0.size
    replace o56_10 := Ow.base o56_10 e0.size
    refine PremT.v rfl ?_
    refine PremT.v rfl ?_
    have x1 : Tn [] w1 w10 := x1
    have xs1 := x1.size
    have x1 := Tn.nil x1
    have e0 := e0.trans x1
    have c1_0 := c1_0.ext x1
    clear x1
    refine PremT.nil ?_
    exact OpYeT.mk rfl (Ye.mono (Ye.call cl36 rfl (RefNum_ok)) fun v w2 h => ⟨⟨v, rfl, own_cl (Ow.base h.1 xs1) LoL.nil⟩, Ext.tn h.2 _⟩)
  · skip
    intro w11 x1
    have x1 : Tn [] w1 w11 := x1
    have xs1 := x1.size
    have x1 := Tn.nil x1
    have e0 := e0.trans x1
    have c1_0 := c1_0.ext x1
    clear x1
    refine PremT.nil ?_
    exact OpYeT.val rfl (Yd.load pl22 rfl (Cel.cell1 c1_0 3 rfl))
  · skip
    intro w12 x1
    refine PremT.v rfl ?_
    refine PremT.v rfl ?_
    refine PremT.a rfl fun s52_12 o52_12 => ?_
    have o52_12 := o52_12 _ (Tn.refl _ _)
    have ap_b1_0_s52_12 : Ap (some b1_0) s52_12.ownBlock := Ap.mk (Cel.live c1_0) (Ow.fr o52_12)
    have fr_s52_12 : Fr w.heap.size s52_12.ownBlock := Fr.le (Ow.fr o52_12) e0.size
    replace o52_12 := Ow.base o52_12 e0.size
    refine PremT.v rfl ?_
    refine PremT.v rfl ?_
    refine PremT.a rfl fun s56_12 o56_12 => ?_
    have o56_12 := o56_12 _ (Tn.refl _ _)
    have ap_b1_0_s56_12 : Ap (some b1_0) s56_12.ownBlock := Ap.mk (Cel.live c1_0) (Ow.fr o56_12)
    have fr_s56_12 : Fr w.heap.size s56_12.ownBlock := Fr.le (Ow.fr o56_12) e0.size
    replace o56_12 := Ow.base o56_12 e0.size
    refine PremT.v rfl ?_
    refine PremT.v rfl ?_
    refine PremT.a rfl fun s60_12 o60_12 => ?_
    have o60_12 := o60_12 _ (Tn.refl _ _)
    have ap_b1_0_s60_12 : Ap (some b1_0) s60_12.ownBlock := Ap.mk (Cel.live c1_0) (Ow.fr o60_12)
    have fr_s60_12 : Fr w.heap.size s60_12.ownBlock := Fr.le (Ow.fr o60_12) e0.size
    replace o60_12 := Ow.base o60_12 e0.size
    refine PremT.v rfl ?_
    have x1 : Tn [] w1 w12 := x1
    have xs1 := x1.size
    have x1 := Tn.nil x1
    have e0 := e0.trans x1
    have c1_0 := c1_0.ext x1
    clear x1
    refine PremT.nil ?_
    exact OpYeT.mk rfl (Ye.mono (Ye.call cl37 rfl (RefBytes_ok (Rd.ext hx e0) (by omega))) fun v w2 h => ⟨⟨v, rfl, own_cl (Ow.base h.1 xs1) LoL.nil⟩, Ext.tn h.2 _⟩)
  intro w13 x1
  refine PremT.v rfl ?_
  refine PremT.v rfl ?_
  refine PremT.a rfl fun s52_13 o52_13 => ?_
  have o52_13 := o52_13 _ (Tn.refl _ _)
  have ap_b1_0_s52_13 : Ap (some b1_0) s52_13.ownBlock := Ap.mk (Cel.live c1_0) (Ow.fr o52_13)
  have fr_s52_13 : Fr w.heap.size s52_13.ownBlock := Fr.le (Ow.fr o52_13) e0.size
  replace o52_13 := Ow.base o52_13 e0.size
  refine PremT.v rfl ?_
  refine PremT.v rfl ?_
  refine PremT.a rfl fun s56_13 o56_13 => ?_
  have o56_13 := o56_13 _ (Tn.refl _ _)
  have ap_b1_0_s56_13 : Ap (some b1_0) s56_13.ownBlock := Ap.mk (Cel.live c1_0) (Ow.fr o56_13)
  have fr_s56_13 : Fr w.heap.size s56_13.ownBlock := Fr.le (Ow.fr o56_13) e0.size
  replace o56_13 := Ow.base o56_13 e0.size
  refine PremT.v rfl ?_
  refine PremT.v rfl ?_
  refine PremT.a rfl fun s60_13 o60_13 => ?_
  have o60_13 := o60_13 _ (Tn.refl _ _)
  have ap_b1_0_s60_13 : Ap (some b1_0) s60_13.ownBlock := Ap.mk (Cel.live c1_0) (Ow.fr o60_13)
  have fr_s60_13 : Fr w.heap.size s60_13.ownBlock := Fr.le (Ow.fr o60_13) e0.size
  replace o60_13 := Ow.base o60_13 e0.size
  refine PremT.v rfl ?_
  refine PremT.a rfl fun s63_13 o63_13 => ?_
  have o63_13 := o63_13 _ (Tn.refl _ _)
  have ap_b1_0_s63_13 : Ap (some b1_0) s63_13.ownBlock := Ap.mk (Cel.live c1_0) (Ow.fr o63_13)
  have fr_s63_13 : Fr w.heap.size s63_13.ownBlock := Fr.le (Ow.fr o63_13) e0.size
  replace o63_13 := Ow.base o63_13 e0.size
  have x1 : Tn [] w1 w13 := x1
  have xs1 := x1.size
  have x1 := Tn.nil x1
  have e0 := e0.trans x1
  have c1_0 := c1_0.ext x1
  clear x1
  refine PremT.nil ?_
  refine J.rg_seq (m := 0) [(15, false), (16, false), (17, true), (18, true)] rfl (by kernel_rfl) ?_
  refine J.s_eff rfl (Ye.litS4 Try.underlying70 ti22 rfl rfl rfl rfl rfl (Ow.rd o52_13) (Ow.rd o56_13) (Ow.rd o60_13) (Ow.rd o63_13)) rfl ?_
  rintro s64_14 w14 ⟨o64_14, x1⟩
  have e0 := e0.trans x1
  have c1_0 := c1_0.ext x1
  have o52_13 := o52_13.ext x1
  have o56_13 := o56_13.ext x1
  have o60_13 := o60_13.ext x1
  have o63_13 := o63_13.ext x1
  clear x1
  refine J.s_eff rfl (Ye.call cl35 rfl (RCat_ok o64_14 (by rw [encB_flat]; have h9 := encB_len x.1 x.2.1 x.2.2.1 l; omega))) rfl ?_
  rintro s65_15 w15 ⟨os65_15, x1⟩
  have ap_b1_0_s65_15 : Ap (some b1_0) s65_15.ownBlock := Ap.mk (Cel.live c1_0) (Ow.fr os65_15)
  have ap_s52_13_s65_15 : Ap s52_13.ownBlock s65_15.ownBlock := Ap.mk (Ow.live o52_13) (Ow.fr os65_15)
  have ap_s56_13_s65_15 : Ap s56_13.ownBlock s65_15.ownBlock := Ap.mk (Ow.live o56_13) (Ow.fr os65_15)
  have ap_s60_13_s65_15 : Ap s60_13.ownBlock s65_15.ownBlock := Ap.mk (Ow.live o60_13) (Ow.fr os65_15)
  have ap_s63_13_s65_15 : Ap s63_13.ownBlock s65_15.ownBlock := Ap.mk (Ow.live o63_13) (Ow.fr os65_15)
  have fr_s65_15 : Fr w.heap.size s65_15.ownBlock := Fr.le (Ow.fr os65_15) e0.size
  replace os65_15 := Ow.base os65_15 e0.size
  have e0 := e0.trans x1
  have c1_0 := c1_0.ext x1
  have o52_13 := o52_13.ext x1
  have o56_13 := o56_13.ext x1
  have o60_13 := o60_13.ext x1
  have o63_13 := o63_13.ext x1
  have o64_14 := o64_14.ext x1
  clear x1
  refine J.s_op rfl (fun _ => Yd.assign rfl) rfl ?_
  refine J.s_op rfl (fun _ => Yd.assign rfl) rfl ?_
  refine J.s_nil ?_
  refine J.rg_nil (by kernel_rfl) ?_
  refine J.n_np ?_
  refine J.n_then ?_
  refine J.ret ?_
  exact J.ret2 rfl rfl rfl (⟨_, rfl, s65_15, rfl, (by have h9 := os65_15; rw [encB_flat] at h9; exact h9), e0⟩)

theorem Encode_any {x : Pc} {l : List UInt8} {w : World} (hx : Bs w x.2.2.2 l) : C Try.prog 22 [.agg (pcS.c x).toArray] w (Ret fun u w' => ∃ v, u = .tuple #[v, I (encE x.1 x.2.1 x.2.2.1 l)] ∧ Ob w.heap.size 5 w' v (encL x.1 x.2.1 x.2.2.1 l) ∧ Ext w w') := by
  by_cases hbq : badQ x.1 x.2.1 x.2.2.1 l.length
  · rw [(encE_bad hbq).1, (encE_bad hbq).2]
    exact (Encode_bad hx hbq).ret fun u w' h => ⟨nilS, h.1, Ow.nil _ _ _, h.2⟩
  · by_cases hl : l.length ≤ 1000
    · rw [(encE_ok hbq hl).1, (encE_ok hbq hl).2]
      exact Encode_good hx hbq hl
    · rw [(encE_big hbq hl).1, (encE_big hbq hl).2]
      exact (Encode_big hx hbq hl).ret fun u w' h => ⟨nilS, h.1, Ow.nil _ _ _, h.2⟩

theorem EncodeP_any {x : Pc} {l : List UInt8} {w : World} (hx : Bs w x.2.2.2 l) : C Try.prog 23 [.agg (pcS.c x).toArray] w (Ret fun u w' => ∃ v, u = .tuple #[v, I (encE x.1 x.2.1 x.2.2.1 l)] ∧ Ob w.heap.size 5 w' v (encL x.1 x.2.1 x.2.2.1 l) ∧ Ext w w') := by
  by_cases hbq : badQ x.1 x.2.1 x.2.2.1 l.length
  · rw [(encE_bad hbq).1, (encE_bad hbq).2]
    exact (EncodeP_bad hx hbq).ret fun u w' h => ⟨nilS, h.1, Ow.nil _ _ _, h.2⟩
  · by_cases hl : l.length ≤ 1000
    · rw [(encE_ok hbq hl).1, (encE_ok hbq hl).2]
      exact EncodeP_good hx hbq hl
    · rw [(encE_big hbq hl).1, (encE_big hbq hl).2]
      exact (EncodeP_big hx hbq hl).ret fun u w' h => ⟨nilS, h.1, Ow.nil _ _ _, h.2⟩
end Ytghklimejpmpnaa
end Go.Proofs
