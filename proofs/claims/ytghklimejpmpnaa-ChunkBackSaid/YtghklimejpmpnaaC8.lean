import Derived.Test.YtghklimejpmpnaaT
import Derived.Test.YtghklimejpmpnaaC7
set_option linter.unusedVariables false
set_option linter.unusedSimpArgs false
set_option maxRecDepth 100000
set_option maxHeartbeats 4000000
namespace Go.Proofs
open Go.X Go.RowKit
namespace Ytghklimejpmpnaa
theorem Add1_bad {b : Nat} {s : Value} {vs : List Value} {ll : List (List UInt8)} {id size len : Int} {rs : List (Option Nat)} {l : List UInt8} {w : World} {x : Pc} (hB : BxN id size len ll.length) (hc : Cel w b 72 [(0, 1, [I id]), (1, 1, [I size]), (2, 1, [I len]), (3, 1, [s])]) (he : Els rs w vs ll) (hr : Rd w s vs) (hx : Bs w x.2.2.2 l) (hb : badP id size len ll.length (x.1, x.2.1, x.2.2.1) l.length) : C Try.prog 11 [.pointer (some ⟨b, 0, none⟩), .agg (pcS.c x).toArray] w (Ret fun v w' => v = I 2 ∧ Ext w w') := by
  have hrl := he.rl hr
  have hn1 := hB.n1
  have hvl := he.len
  have hsz := hB.hsz
  have hln := hB.hln
  unfold badP at hb
  dsimp only at hb
  have e0 := Ext.refl w
  refine C.enter Try.func11 rfl Try.ntmps11 rfl ?_
  refine J.seq ?_
  refine J.region ?_
  refine J.eff (Ye.box (S := [(0, 1, [I x.1]), (1, 1, [I x.2.1]), (2, 1, [I x.2.2.1]), (3, 1, [x.2.2.2])]) rfl (by simp [SegAll, SegOK, Value.cells, pcS])) rfl ?_
  rintro _ w1 ⟨b3_0, rfl, hb_, c3_0, x1⟩
  have fr_b3_0 : Fr w.heap.size (some b3_0) := Fr.le (Fr.blk hb_) e0.size
  have e0 := e0.trans x1
  clear x1 hb_
  refine J.op (Yd.assign rfl) rfl ?_
  refine J.nil ?_
  refine J.n_then ?_
  refine J.seq ?_
  refine J.block ?_
  refine J.seq ?_
  refine J.region ?_
  refine J.op (Yd.move rfl) rfl ?_
  refine J.op (Yd.cast (Yd.eqPn Try.underlying32 rfl rfl) (show _ = Value.bool false from rfl)) rfl ?_
  refine J.op (Yd.assign rfl) rfl ?_
  refine J.nil ?_
  refine J.n_then ?_
  refine J.cond_false rfl ?_
  refine J.seq ?_
  refine J.regionO [(0, true), (2, true), (3, true), (4, true)] [(1, 1), (5, 1), (6, 1), (7, 1), (8, 1), (9, 1), (10, 1), (11, 1), (12, 1), (13, 1), (14, 1), (15, 1), (16, 1), (17, 1), (18, 1), (19, 1), (20, 1), (21, 1), (22, 1), (23, 1), (24, 1), (25, 1), (26, 0), (27, 1), (28, 1), (29, 1), (30, 1), (31, 1), (32, 1), (33, 1), (34, 1), (35, 1), (36, 1), (37, 1), (38, 1), (39, 1), (40, 1), (41, 1), (42, 1), (43, 1), (44, 1), (45, 1), (46, 1), (47, 1), (48, 1), (49, 1)] [(50, true), (51, true), (52, true)] mix (by kernel_rfl) ?_
  refine J.s_op rfl (fun _ => Yd.cast (Yd.fieldA Try.underlying29 rfl ti3 rfl rfl) (show _ = Value.pointer (some ⟨b3_0, 0, none⟩) from rfl)) rfl ?_
  refine J.s_op rfl (fun _ => Yd.move rfl) rfl ?_
  refine J.s_op rfl (fun _ => Yd.nilCheck rfl) rfl ?_
  refine J.s_op rfl (fun _ => Yd.cast (Yd.fieldA Try.underlying72 rfl ti3 rfl rfl) (show _ = Value.pointer (some ⟨b, 0, none⟩) from rfl)) rfl ?_
  refine J.s_nil ?_
  refine J.o_op rfl (Yd.load pl3 rfl (Cel.cell1 c3_0 0 rfl)) rfl ?_
  refine J.o_op rfl (Yd.load pl3 rfl (Cel.cell1 (Cel.ext hc e0) 0 rfl)) rfl ?_
  refine J.o_op rfl (Yd.neq rfl rfl) rfl ?_
  refine J.o_op rfl (Yd.move rfl) rfl ?_
  refine J.split_dec (t := 16) rfl (fun g1 => ?_) (fun g1 => ?_)
  · skip
    refine J.o_not_g rfl rfl rfl rfl rfl rfl ?_
    refine J.o_not_g rfl rfl rfl rfl rfl rfl ?_
    refine J.o_not_g rfl rfl rfl rfl rfl rfl ?_
    refine J.o_not_g rfl rfl rfl rfl rfl rfl ?_
    refine J.o_not_g rfl rfl rfl rfl rfl rfl ?_
    refine J.o_not_g rfl rfl rfl rfl rfl rfl ?_
    refine J.o_not_g rfl rfl rfl rfl rfl rfl ?_
    refine J.o_not_g rfl rfl rfl rfl rfl rfl ?_
    refine J.o_op rfl (Yd.pick_t rfl rfl) rfl ?_
    refine J.o_op rfl (Yd.move rfl) rfl ?_
    refine J.o_not_g rfl rfl rfl rfl rfl rfl ?_
    refine J.o_not_g rfl rfl rfl rfl rfl rfl ?_
    refine J.o_not_g rfl rfl rfl rfl rfl rfl ?_
    refine J.o_not_g rfl rfl rfl rfl rfl rfl ?_
    refine J.o_not_g rfl rfl rfl rfl rfl rfl ?_
    refine J.o_not_g rfl rfl rfl rfl rfl rfl ?_
    refine J.o_not_g rfl rfl rfl rfl rfl rfl ?_
    refine J.o_not_g rfl rfl rfl rfl rfl rfl ?_
    refine J.o_skip_g rfl rfl rfl rfl rfl rfl ?_
    refine J.o_not_g rfl rfl rfl rfl rfl rfl ?_
    refine J.o_op rfl (Yd.pick_t rfl rfl) rfl ?_
    refine J.o_op rfl (Yd.move rfl) rfl ?_
    refine J.o_not_g rfl rfl rfl rfl rfl rfl ?_
    refine J.o_not_g rfl rfl rfl rfl rfl rfl ?_
    refine J.o_not_g rfl rfl rfl rfl rfl rfl ?_
    refine J.o_not_g rfl rfl rfl rfl rfl rfl ?_
    refine J.o_not_g rfl rfl rfl rfl rfl rfl ?_
    refine J.o_not_g rfl rfl rfl rfl rfl rfl ?_
    refine J.o_not_g rfl rfl rfl rfl rfl rfl ?_
    refine J.o_not_g rfl rfl rfl rfl rfl rfl ?_
    refine J.o_not_g rfl rfl rfl rfl rfl rfl ?_
    refine J.o_not_g rfl rfl rfl rfl rfl rfl ?_
    refine J.o_not_g rfl rfl rfl rfl rfl rfl ?_
    refine J.o_not_g rfl rfl rfl rfl rfl rfl ?_
    refine J.o_not_g rfl rfl rfl rfl rfl rfl ?_
    refine J.o_not_g rfl rfl rfl rfl rfl rfl ?_
    refine J.o_not_g rfl rfl rfl rfl rfl rfl ?_
    refine J.o_not_g rfl rfl rfl rfl rfl rfl ?_
    refine J.o_not_g rfl rfl rfl rfl rfl rfl ?_
    refine J.o_not_g rfl rfl rfl rfl rfl rfl ?_
    refine J.o_not_g rfl rfl rfl rfl rfl rfl ?_
    refine J.o_not_g rfl rfl rfl rfl rfl rfl ?_
    refine J.o_nil ?_
    refine J.s_not_g rfl rfl rfl rfl rfl rfl ?_
    refine J.s_op rfl (fun _ => Yd.pick_t rfl rfl) rfl ?_
    refine J.s_op rfl (fun _ => Yd.assign rfl) rfl ?_
    refine J.s_nil ?_
    refine J.n_np ?_
    refine J.n_then ?_
    refine J.cond_true rfl ?_
    refine J.seq ?_
    refine J.region ?_
    refine J.op (Yd.assign rfl) rfl ?_
    refine J.nil ?_
    refine J.n_then ?_
    refine J.ret ?_
    refine J.r_block ?_
    refine J.r_then ?_
    exact J.ret1 rfl rfl (⟨_, rfl, rfl, e0⟩)
  · skip
    refine J.o_op_g rfl rfl rfl rfl (Yd.cast (Yd.fieldA Try.underlying29 rfl ti3 rfl rfl) (show _ = Value.pointer (some ⟨b3_0, 2, none⟩) from rfl)) rfl ?_
    refine J.o_op_g rfl rfl rfl rfl (Yd.load pl3 rfl (Cel.cell1 c3_0 2 rfl)) rfl ?_
    refine J.o_op_g rfl rfl rfl rfl (Yd.move rfl) rfl ?_
    refine J.o_op_g rfl rfl rfl rfl (Yd.nilCheck rfl) rfl ?_
    refine J.o_op_g rfl rfl rfl rfl (Yd.cast (Yd.fieldA Try.underlying72 rfl ti70 rfl rfl) (show _ = Value.pointer (some ⟨b, 3, none⟩) from rfl)) rfl ?_
    refine J.o_op_g rfl rfl rfl rfl (Yd.load pl70 rfl (Cel.cell1 (Cel.ext hc e0) 3 rfl)) rfl ?_
    refine J.o_op_g rfl rfl rfl rfl (Yd.len_l Try.underlying70 rfl (Rl.ext hrl e0)) rfl ?_
    refine J.o_op_g rfl rfl rfl rfl (Yd.neq rfl rfl) rfl ?_
    refine J.o_op rfl (Yd.pick_f rfl rfl) rfl ?_
    refine J.o_op rfl (Yd.move rfl) rfl ?_
    refine J.split_dec (t := 26) rfl (fun g2 => ?_) (fun g2 => ?_)
    · skip
      refine J.o_not_g rfl rfl rfl rfl rfl rfl ?_
      refine J.o_not_g rfl rfl rfl rfl rfl rfl ?_
      refine J.o_not_g rfl rfl rfl rfl rfl rfl ?_
      refine J.o_not_g rfl rfl rfl rfl rfl rfl ?_
      refine J.o_not_g rfl rfl rfl rfl rfl rfl ?_
      refine J.o_not_g rfl rfl rfl rfl rfl rfl ?_
      refine J.o_not_g rfl rfl rfl rfl rfl rfl ?_
      refine J.o_not_g rfl rfl rfl rfl rfl rfl ?_
      refine J.o_skip_g rfl rfl rfl rfl rfl rfl ?_
      refine J.o_not_g rfl rfl rfl rfl rfl rfl ?_
      refine J.o_op rfl (Yd.pick_t rfl rfl) rfl ?_
      refine J.o_op rfl (Yd.move rfl) rfl ?_
      refine J.o_not_g rfl rfl rfl rfl rfl rfl ?_
      refine J.o_not_g rfl rfl rfl rfl rfl rfl ?_
      refine J.o_not_g rfl rfl rfl rfl rfl rfl ?_
      refine J.o_not_g rfl rfl rfl rfl rfl rfl ?_
      refine J.o_not_g rfl rfl rfl rfl rfl rfl ?_
      refine J.o_not_g rfl rfl rfl rfl rfl rfl ?_
      refine J.o_not_g rfl rfl rfl rfl rfl rfl ?_
      refine J.o_not_g rfl rfl rfl rfl rfl rfl ?_
      refine J.o_not_g rfl rfl rfl rfl rfl rfl ?_
      refine J.o_not_g rfl rfl rfl rfl rfl rfl ?_
      refine J.o_not_g rfl rfl rfl rfl rfl rfl ?_
      refine J.o_not_g rfl rfl rfl rfl rfl rfl ?_
      refine J.o_not_g rfl rfl rfl rfl rfl rfl ?_
      refine J.o_not_g rfl rfl rfl rfl rfl rfl ?_
      refine J.o_not_g rfl rfl rfl rfl rfl rfl ?_
      refine J.o_not_g rfl rfl rfl rfl rfl rfl ?_
      refine J.o_not_g rfl rfl rfl rfl rfl rfl ?_
      refine J.o_not_g rfl rfl rfl rfl rfl rfl ?_
      refine J.o_not_g rfl rfl rfl rfl rfl rfl ?_
      refine J.o_not_g rfl rfl rfl rfl rfl rfl ?_
      refine J.o_nil ?_
      refine J.s_not_g rfl rfl rfl rfl rfl rfl ?_
      refine J.s_op rfl (fun _ => Yd.pick_t rfl rfl) rfl ?_
      refine J.s_op rfl (fun _ => Yd.assign rfl) rfl ?_
      refine J.s_nil ?_
      refine J.n_np ?_
      refine J.n_then ?_
      refine J.cond_true rfl ?_
      refine J.seq ?_
      refine J.region ?_
      refine J.op (Yd.assign rfl) rfl ?_
      refine J.nil ?_
      refine J.n_then ?_
      refine J.ret ?_
      refine J.r_block ?_
      refine J.r_then ?_
      exact J.ret1 rfl rfl (⟨_, rfl, rfl, e0⟩)
    · skip
      refine J.o_op_g rfl rfl rfl rfl (Yd.cast (Yd.fieldA Try.underlying29 rfl ti3 rfl rfl) (show _ = Value.pointer (some ⟨b3_0, 1, none⟩) from rfl)) rfl ?_
      refine J.o_op_g rfl rfl rfl rfl (Yd.load pl3 rfl (Cel.cell1 c3_0 1 rfl)) rfl ?_
      refine J.o_op_g rfl rfl rfl rfl (Yd.move rfl) rfl ?_
      refine J.o_op_g rfl rfl rfl rfl (Yd.nilCheck rfl) rfl ?_
      refine J.o_op_g rfl rfl rfl rfl (Yd.cast (Yd.fieldA Try.underlying72 rfl ti70 rfl rfl) (show _ = Value.pointer (some ⟨b, 3, none⟩) from rfl)) rfl ?_
      refine J.o_op_g rfl rfl rfl rfl (Yd.load pl70 rfl (Cel.cell1 (Cel.ext hc e0) 3 rfl)) rfl ?_
      refine J.o_op_g rfl rfl rfl rfl (Yd.len_l Try.underlying70 rfl (Rl.ext hrl e0)) rfl ?_
      refine J.o_op_g rfl rfl rfl rfl (Yd.sub rfl rfl (by first | omega | exact idx_u8' _ | (simp only [Int.toNat_natCast]; omega) | (simp only [List.length_map, List.length_drop, List.length_take, List.length_append, List.length_replicate]; omega) | (simp <;> omega))) rfl ?_
      refine J.o_eff_g rfl rfl rfl rfl (Ye.call cl27 rfl (Within_ok)) rfl (fun _ _ h => h.2) ?_
      rintro _ w2 ⟨rfl, x1⟩
      have e0 := e0.trans x1
      have c3_0 := c3_0.ext x1
      clear x1
      refine J.o_op_g rfl rfl rfl rfl (Yd.not_dec rfl) rfl ?_
      refine J.o_op rfl (Yd.pick_f rfl rfl) rfl ?_
      refine J.o_op rfl (Yd.move rfl) rfl ?_
      refine J.split_dec (t := 38) rfl (fun g3 => ?_) (fun g3 => ?_)
      · skip
        refine J.o_not_g rfl rfl rfl rfl rfl rfl ?_
        refine J.o_not_g rfl rfl rfl rfl rfl rfl ?_
        refine J.o_not_g rfl rfl rfl rfl rfl rfl ?_
        refine J.o_not_g rfl rfl rfl rfl rfl rfl ?_
        refine J.o_not_g rfl rfl rfl rfl rfl rfl ?_
        refine J.o_not_g rfl rfl rfl rfl rfl rfl ?_
        refine J.o_not_g rfl rfl rfl rfl rfl rfl ?_
        refine J.o_not_g rfl rfl rfl rfl rfl rfl ?_
        refine J.o_not_g rfl rfl rfl rfl rfl rfl ?_
        refine J.o_not_g rfl rfl rfl rfl rfl rfl ?_
        refine J.o_not_g rfl rfl rfl rfl rfl rfl ?_
        refine J.o_not_g rfl rfl rfl rfl rfl rfl ?_
        refine J.o_not_g rfl rfl rfl rfl rfl rfl ?_
        refine J.o_not_g rfl rfl rfl rfl rfl rfl ?_
        refine J.o_not_g rfl rfl rfl rfl rfl rfl ?_
        refine J.o_not_g rfl rfl rfl rfl rfl rfl ?_
        refine J.o_not_g rfl rfl rfl rfl rfl rfl ?_
        refine J.o_not_g rfl rfl rfl rfl rfl rfl ?_
        refine J.o_not_g rfl rfl rfl rfl rfl rfl ?_
        refine J.o_not_g rfl rfl rfl rfl rfl rfl ?_
        refine J.o_nil ?_
        refine J.s_not_g rfl rfl rfl rfl rfl rfl ?_
        refine J.s_op rfl (fun _ => Yd.pick_t rfl rfl) rfl ?_
        refine J.s_op rfl (fun _ => Yd.assign rfl) rfl ?_
        refine J.s_nil ?_
        refine J.n_np ?_
        refine J.n_then ?_
        refine J.cond_true rfl ?_
        refine J.seq ?_
        refine J.region ?_
        refine J.op (Yd.assign rfl) rfl ?_
        refine J.nil ?_
        refine J.n_then ?_
        refine J.ret ?_
        refine J.r_block ?_
        refine J.r_then ?_
        exact J.ret1 rfl rfl (⟨_, rfl, rfl, e0⟩)
      · skip
        refine J.o_op_g rfl rfl rfl rfl (Yd.cast (Yd.fieldA Try.underlying29 rfl ti22 rfl rfl) (show _ = Value.pointer (some ⟨b3_0, 3, none⟩) from rfl)) rfl ?_
        refine J.o_op_g rfl rfl rfl rfl (Yd.load pl22 rfl (Cel.cell1 c3_0 3 rfl)) rfl ?_
        refine J.o_op_g rfl rfl rfl rfl (Yd.len_b Try.underlying22 rfl (Rd.ext hx e0)) rfl ?_
        refine J.o_op_g rfl rfl rfl rfl (Yd.move rfl) rfl ?_
        refine J.o_op_g rfl rfl rfl rfl (Yd.nilCheck rfl) rfl ?_
        refine J.o_op_g rfl rfl rfl rfl (Yd.cast (Yd.fieldA Try.underlying72 rfl ti3 rfl rfl) (show _ = Value.pointer (some ⟨b, 1, none⟩) from rfl)) rfl ?_
        refine J.o_op_g rfl rfl rfl rfl (Yd.load pl3 rfl (Cel.cell1 (Cel.ext hc e0) 1 rfl)) rfl ?_
        refine J.o_op_g rfl rfl rfl rfl (Yd.move rfl) rfl ?_
        refine J.o_op_g rfl rfl rfl rfl (Yd.nilCheck rfl) rfl ?_
        refine J.o_op_g rfl rfl rfl rfl (Yd.cast (Yd.fieldA Try.underlying72 rfl ti3 rfl rfl) (show _ = Value.pointer (some ⟨b, 2, none⟩) from rfl)) rfl ?_
        refine J.o_op_g rfl rfl rfl rfl (Yd.load pl3 rfl (Cel.cell1 (Cel.ext hc e0) 2 rfl)) rfl ?_
        refine J.o_op_g rfl rfl rfl rfl (Yd.cast (Yd.fieldA Try.underlying29 rfl ti3 rfl rfl) (show _ = Value.pointer (some ⟨b3_0, 1, none⟩) from rfl)) rfl ?_
        refine J.o_op_g rfl rfl rfl rfl (Yd.load pl3 rfl (Cel.cell1 c3_0 1 rfl)) rfl ?_
        refine J.o_op_g rfl rfl rfl rfl (Yd.move rfl) rfl ?_
        refine J.o_op_g rfl rfl rfl rfl (Yd.nilCheck rfl) rfl ?_
        refine J.o_op_g rfl rfl rfl rfl (Yd.cast (Yd.fieldA Try.underlying72 rfl ti3 rfl rfl) (show _ = Value.pointer (some ⟨b, 1, none⟩) from rfl)) rfl ?_
        refine J.o_op_g rfl rfl rfl rfl (Yd.load pl3 rfl (Cel.cell1 (Cel.ext hc e0) 1 rfl)) rfl ?_
        have hmu := mulB (a := x.2.1) (b := size) (by omega) hsz
        refine J.o_op_g rfl rfl rfl rfl (Yd.mul rfl rfl (by omega)) rfl ?_
        refine J.o_op_g rfl rfl rfl rfl (Yd.sub rfl rfl (by first | omega | exact idx_u8' _ | (simp only [Int.toNat_natCast]; omega) | (simp only [List.length_map, List.length_drop, List.length_take, List.length_append, List.length_replicate]; omega) | (simp <;> omega))) rfl ?_
        refine J.o_op_g rfl rfl rfl rfl (Yd.mini rfl rfl) rfl ?_
        refine J.o_nil ?_
        refine J.s_op_g rfl rfl rfl rfl (fun _ => Yd.neq rfl rfl) rfl ?_
        refine J.s_op rfl (fun _ => Yd.pick_f rfl rfl) rfl ?_
        refine J.s_op rfl (fun _ => Yd.assign rfl) rfl ?_
        refine J.s_nil ?_
        refine J.n_np ?_
        refine J.n_then ?_
        refine J.know (t := 8) (v' := .bool true) rfl (tt (by intro h; exact hb ⟨by omega, by omega, ⟨by omega, by omega⟩, h⟩)) ?_
        refine J.cond_true rfl ?_
        refine J.seq ?_
        refine J.region ?_
        refine J.op (Yd.assign rfl) rfl ?_
        refine J.nil ?_
        refine J.n_then ?_
        refine J.ret ?_
        refine J.r_block ?_
        refine J.r_then ?_
        exact J.ret1 rfl rfl (⟨_, rfl, rfl, e0⟩)

theorem Add2_bad {b : Nat} {s : Value} {vs : List Value} {ll : List (List UInt8)} {id size len : Int} {rs : List (Option Nat)} {l : List UInt8} {w : World} {x : Pc} (hB : BxN id size len ll.length) (hc : Cel w b 76 [(0, 1, [I id]), (1, 1, [I size]), (2, 1, [I len]), (3, 1, [s])]) (he : Els rs w vs ll) (hr : Rd w s vs) (hx : Bs w x.2.2.2 l) (hb : badP id size len ll.length (x.1, x.2.1, x.2.2.1) l.length) : C Try.prog 16 [.pointer (some ⟨b, 0, none⟩), .agg (pcS.c x).toArray] w (Ret fun v w' => v = I 2 ∧ Ext w w') := by
  have hrl := he.rl hr
  have hn1 := hB.n1
  have hvl := he.len
  have hsz := hB.hsz
  have hln := hB.hln
  unfold badP at hb
  dsimp only at hb
  have e0 := Ext.refl w
  refine C.enter Try.func16 rfl Try.ntmps16 rfl ?_
  refine J.seq ?_
  refine J.region ?_
  refine J.eff (Ye.box (S := [(0, 1, [I x.1]), (1, 1, [I x.2.1]), (2, 1, [I x.2.2.1]), (3, 1, [x.2.2.2])]) rfl (by simp [SegAll, SegOK, Value.cells, pcS])) rfl ?_
  rintro _ w1 ⟨b3_0, rfl, hb_, c3_0, x1⟩
  have fr_b3_0 : Fr w.heap.size (some b3_0) := Fr.le (Fr.blk hb_) e0.size
  have e0 := e0.trans x1
  clear x1 hb_
  refine J.op (Yd.assign rfl) rfl ?_
  refine J.nil ?_
  refine J.n_then ?_
  refine J.seq ?_
  refine J.seq ?_
  refine J.regionO [(0, true), (2, true), (3, true), (4, true)] [(1, 1), (5, 1), (6, 1), (7, 1), (8, 1), (9, 1), (10, 1), (11, 1), (12, 1), (13, 1), (14, 1), (15, 1), (16, 1), (17, 1), (18, 1), (19, 1), (20, 1), (21, 1), (22, 1), (23, 1), (24, 1), (25, 1), (26, 1), (27, 1), (28, 1), (29, 1), (30, 1), (31, 1), (32, 1), (33, 1), (34, 1), (35, 1), (36, 1), (37, 1), (38, 1), (39, 1), (40, 1), (41, 1), (42, 1), (43, 1), (44, 1), (45, 1), (46, 1), (47, 1), (48, 1), (49, 1), (50, 1), (51, 1), (52, 1)] [(53, true), (54, true)] mix (by kernel_rfl) ?_
  refine J.s_op rfl (fun _ => Yd.cast (Yd.fieldA Try.underlying31 rfl ti3 rfl rfl) (show _ = Value.pointer (some ⟨b3_0, 0, none⟩) from rfl)) rfl ?_
  refine J.s_op rfl (fun _ => Yd.move rfl) rfl ?_
  refine J.s_op rfl (fun _ => Yd.nilCheck rfl) rfl ?_
  refine J.s_op rfl (fun _ => Yd.cast (Yd.fieldA Try.underlying76 rfl ti3 rfl rfl) (show _ = Value.pointer (some ⟨b, 0, none⟩) from rfl)) rfl ?_
  refine J.s_nil ?_
  refine J.o_op rfl (Yd.load pl3 rfl (Cel.cell1 c3_0 0 rfl)) rfl ?_
  refine J.o_op rfl (Yd.load pl3 rfl (Cel.cell1 (Cel.ext hc e0) 0 rfl)) rfl ?_
  refine J.o_op rfl (Yd.neq rfl rfl) rfl ?_
  refine J.o_op rfl (Yd.move rfl) rfl ?_
  refine J.split_dec (t := 12) rfl (fun g1 => ?_) (fun g1 => ?_)
  · skip
    refine J.o_not_g rfl rfl rfl rfl rfl rfl ?_
    refine J.o_not_g rfl rfl rfl rfl rfl rfl ?_
    refine J.o_not_g rfl rfl rfl rfl rfl rfl ?_
    refine J.o_not_g rfl rfl rfl rfl rfl rfl ?_
    refine J.o_not_g rfl rfl rfl rfl rfl rfl ?_
    refine J.o_not_g rfl rfl rfl rfl rfl rfl ?_
    refine J.o_not_g rfl rfl rfl rfl rfl rfl ?_
    refine J.o_not_g rfl rfl rfl rfl rfl rfl ?_
    refine J.o_op rfl (Yd.pick_t rfl rfl) rfl ?_
    refine J.o_op rfl (Yd.move rfl) rfl ?_
    refine J.o_not_g rfl rfl rfl rfl rfl rfl ?_
    refine J.o_not_g rfl rfl rfl rfl rfl rfl ?_
    refine J.o_not_g rfl rfl rfl rfl rfl rfl ?_
    refine J.o_op rfl (Yd.pick_t rfl rfl) rfl ?_
    refine J.o_op rfl (Yd.move rfl) rfl ?_
    refine J.o_not_g rfl rfl rfl rfl rfl rfl ?_
    refine J.o_not_g rfl rfl rfl rfl rfl rfl ?_
    refine J.o_not_g rfl rfl rfl rfl rfl rfl ?_
    refine J.o_not_g rfl rfl rfl rfl rfl rfl ?_
    refine J.o_not_g rfl rfl rfl rfl rfl rfl ?_
    refine J.o_not_g rfl rfl rfl rfl rfl rfl ?_
    refine J.o_not_g rfl rfl rfl rfl rfl rfl ?_
    refine J.o_not_g rfl rfl rfl rfl rfl rfl ?_
    refine J.o_op rfl (Yd.pick_t rfl rfl) rfl ?_
    refine J.o_op rfl (Yd.move rfl) rfl ?_
    refine J.o_not_g rfl rfl rfl rfl rfl rfl ?_
    refine J.o_not_g rfl rfl rfl rfl rfl rfl ?_
    refine J.o_not_g rfl rfl rfl rfl rfl rfl ?_
    refine J.o_not_g rfl rfl rfl rfl rfl rfl ?_
    refine J.o_not_g rfl rfl rfl rfl rfl rfl ?_
    refine J.o_not_g rfl rfl rfl rfl rfl rfl ?_
    refine J.o_not_g rfl rfl rfl rfl rfl rfl ?_
    refine J.o_not_g rfl rfl rfl rfl rfl rfl ?_
    refine J.o_not_g rfl rfl rfl rfl rfl rfl ?_
    refine J.o_not_g rfl rfl rfl rfl rfl rfl ?_
    refine J.o_not_g rfl rfl rfl rfl rfl rfl ?_
    refine J.o_not_g rfl rfl rfl rfl rfl rfl ?_
    refine J.o_not_g rfl rfl rfl rfl rfl rfl ?_
    refine J.o_not_g rfl rfl rfl rfl rfl rfl ?_
    refine J.o_not_g rfl rfl rfl rfl rfl rfl ?_
    refine J.o_not_g rfl rfl rfl rfl rfl rfl ?_
    refine J.o_not_g rfl rfl rfl rfl rfl rfl ?_
    refine J.o_not_g rfl rfl rfl rfl rfl rfl ?_
    refine J.o_not_g rfl rfl rfl rfl rfl rfl ?_
    refine J.o_not_g rfl rfl rfl rfl rfl rfl ?_
    refine J.o_nil ?_
    refine J.s_not_g rfl rfl rfl rfl rfl rfl ?_
    refine J.s_op rfl (fun _ => Yd.pick_t rfl rfl) rfl ?_
    refine J.s_nil ?_
    refine J.n_np ?_
    refine J.n_then ?_
    refine J.cond_true rfl ?_
    refine J.seq ?_
    refine J.region ?_
    refine J.op (Yd.assign rfl) rfl ?_
    refine J.nil ?_
    refine J.n_then ?_
    refine J.ret ?_
    refine J.r_then ?_
    exact J.ret1 rfl rfl (⟨_, rfl, rfl, e0⟩)
  · skip
    refine J.o_op_g rfl rfl rfl rfl (Yd.cast (Yd.fieldA Try.underlying31 rfl ti3 rfl rfl) (show _ = Value.pointer (some ⟨b3_0, 2, none⟩) from rfl)) rfl ?_
    refine J.o_op_g rfl rfl rfl rfl (Yd.load pl3 rfl (Cel.cell1 c3_0 2 rfl)) rfl ?_
    refine J.o_op_g rfl rfl rfl rfl (Yd.move rfl) rfl ?_
    refine J.o_op_g rfl rfl rfl rfl (Yd.nilCheck rfl) rfl ?_
    refine J.o_op_g rfl rfl rfl rfl (Yd.cast (Yd.fieldA Try.underlying76 rfl ti70 rfl rfl) (show _ = Value.pointer (some ⟨b, 3, none⟩) from rfl)) rfl ?_
    refine J.o_op_g rfl rfl rfl rfl (Yd.load pl70 rfl (Cel.cell1 (Cel.ext hc e0) 3 rfl)) rfl ?_
    refine J.o_op_g rfl rfl rfl rfl (Yd.len_l Try.underlying70 rfl (Rl.ext hrl e0)) rfl ?_
    refine J.o_op_g rfl rfl rfl rfl (Yd.neq rfl rfl) rfl ?_
    refine J.o_op rfl (Yd.pick_f rfl rfl) rfl ?_
    refine J.o_op rfl (Yd.move rfl) rfl ?_
    refine J.split_dec (t := 22) rfl (fun g2 => ?_) (fun g2 => ?_)
    · skip
      refine J.o_not_g rfl rfl rfl rfl rfl rfl ?_
      refine J.o_not_g rfl rfl rfl rfl rfl rfl ?_
      refine J.o_not_g rfl rfl rfl rfl rfl rfl ?_
      refine J.o_op rfl (Yd.pick_t rfl rfl) rfl ?_
      refine J.o_op rfl (Yd.move rfl) rfl ?_
      refine J.o_not_g rfl rfl rfl rfl rfl rfl ?_
      refine J.o_not_g rfl rfl rfl rfl rfl rfl ?_
      refine J.o_not_g rfl rfl rfl rfl rfl rfl ?_
      refine J.o_not_g rfl rfl rfl rfl rfl rfl ?_
      refine J.o_not_g rfl rfl rfl rfl rfl rfl ?_
      refine J.o_not_g rfl rfl rfl rfl rfl rfl ?_
      refine J.o_not_g rfl rfl rfl rfl rfl rfl ?_
      refine J.o_not_g rfl rfl rfl rfl rfl rfl ?_
      refine J.o_op rfl (Yd.pick_t rfl rfl) rfl ?_
      refine J.o_op rfl (Yd.move rfl) rfl ?_
      refine J.o_not_g rfl rfl rfl rfl rfl rfl ?_
      refine J.o_not_g rfl rfl rfl rfl rfl rfl ?_
      refine J.o_not_g rfl rfl rfl rfl rfl rfl ?_
      refine J.o_not_g rfl rfl rfl rfl rfl rfl ?_
      refine J.o_not_g rfl rfl rfl rfl rfl rfl ?_
      refine J.o_not_g rfl rfl rfl rfl rfl rfl ?_
      refine J.o_not_g rfl rfl rfl rfl rfl rfl ?_
      refine J.o_not_g rfl rfl rfl rfl rfl rfl ?_
      refine J.o_not_g rfl rfl rfl rfl rfl rfl ?_
      refine J.o_not_g rfl rfl rfl rfl rfl rfl ?_
      refine J.o_not_g rfl rfl rfl rfl rfl rfl ?_
      refine J.o_not_g rfl rfl rfl rfl rfl rfl ?_
      refine J.o_not_g rfl rfl rfl rfl rfl rfl ?_
      refine J.o_not_g rfl rfl rfl rfl rfl rfl ?_
      refine J.o_not_g rfl rfl rfl rfl rfl rfl ?_
      refine J.o_not_g rfl rfl rfl rfl rfl rfl ?_
      refine J.o_not_g rfl rfl rfl rfl rfl rfl ?_
      refine J.o_not_g rfl rfl rfl rfl rfl rfl ?_
      refine J.o_not_g rfl rfl rfl rfl rfl rfl ?_
      refine J.o_not_g rfl rfl rfl rfl rfl rfl ?_
      refine J.o_nil ?_
      refine J.s_not_g rfl rfl rfl rfl rfl rfl ?_
      refine J.s_op rfl (fun _ => Yd.pick_t rfl rfl) rfl ?_
      refine J.s_nil ?_
      refine J.n_np ?_
      refine J.n_then ?_
      refine J.cond_true rfl ?_
      refine J.seq ?_
      refine J.region ?_
      refine J.op (Yd.assign rfl) rfl ?_
      refine J.nil ?_
      refine J.n_then ?_
      refine J.ret ?_
      refine J.r_then ?_
      exact J.ret1 rfl rfl (⟨_, rfl, rfl, e0⟩)
    · skip
      refine J.o_op_g rfl rfl rfl rfl (Yd.cast (Yd.fieldA Try.underlying31 rfl ti3 rfl rfl) (show _ = Value.pointer (some ⟨b3_0, 1, none⟩) from rfl)) rfl ?_
      refine J.o_op_g rfl rfl rfl rfl (Yd.load pl3 rfl (Cel.cell1 c3_0 1 rfl)) rfl ?_
      refine J.o_op_g rfl rfl rfl rfl (Yd.lss rfl rfl) rfl ?_
      refine J.o_op rfl (Yd.pick_f rfl rfl) rfl ?_
      refine J.o_op rfl (Yd.move rfl) rfl ?_
      refine J.split_dec (t := 27) rfl (fun g3 => ?_) (fun g3 => ?_)
      · skip
        refine J.o_not_g rfl rfl rfl rfl rfl rfl ?_
        refine J.o_not_g rfl rfl rfl rfl rfl rfl ?_
        refine J.o_not_g rfl rfl rfl rfl rfl rfl ?_
        refine J.o_not_g rfl rfl rfl rfl rfl rfl ?_
        refine J.o_not_g rfl rfl rfl rfl rfl rfl ?_
        refine J.o_not_g rfl rfl rfl rfl rfl rfl ?_
        refine J.o_not_g rfl rfl rfl rfl rfl rfl ?_
        refine J.o_not_g rfl rfl rfl rfl rfl rfl ?_
        refine J.o_op rfl (Yd.pick_t rfl rfl) rfl ?_
        refine J.o_op rfl (Yd.move rfl) rfl ?_
        refine J.o_not_g rfl rfl rfl rfl rfl rfl ?_
        refine J.o_not_g rfl rfl rfl rfl rfl rfl ?_
        refine J.o_not_g rfl rfl rfl rfl rfl rfl ?_
        refine J.o_not_g rfl rfl rfl rfl rfl rfl ?_
        refine J.o_not_g rfl rfl rfl rfl rfl rfl ?_
        refine J.o_not_g rfl rfl rfl rfl rfl rfl ?_
        refine J.o_not_g rfl rfl rfl rfl rfl rfl ?_
        refine J.o_not_g rfl rfl rfl rfl rfl rfl ?_
        refine J.o_not_g rfl rfl rfl rfl rfl rfl ?_
        refine J.o_not_g rfl rfl rfl rfl rfl rfl ?_
        refine J.o_not_g rfl rfl rfl rfl rfl rfl ?_
        refine J.o_not_g rfl rfl rfl rfl rfl rfl ?_
        refine J.o_not_g rfl rfl rfl rfl rfl rfl ?_
        refine J.o_not_g rfl rfl rfl rfl rfl rfl ?_
        refine J.o_not_g rfl rfl rfl rfl rfl rfl ?_
        refine J.o_not_g rfl rfl rfl rfl rfl rfl ?_
        refine J.o_not_g rfl rfl rfl rfl rfl rfl ?_
        refine J.o_not_g rfl rfl rfl rfl rfl rfl ?_
        refine J.o_not_g rfl rfl rfl rfl rfl rfl ?_
        refine J.o_not_g rfl rfl rfl rfl rfl rfl ?_
        refine J.o_nil ?_
        refine J.s_not_g rfl rfl rfl rfl rfl rfl ?_
        refine J.s_op rfl (fun _ => Yd.pick_t rfl rfl) rfl ?_
        refine J.s_nil ?_
        refine J.n_np ?_
        refine J.n_then ?_
        refine J.cond_true rfl ?_
        refine J.seq ?_
        refine J.region ?_
        refine J.op (Yd.assign rfl) rfl ?_
        refine J.nil ?_
        refine J.n_then ?_
        refine J.ret ?_
        refine J.r_then ?_
        exact J.ret1 rfl rfl (⟨_, rfl, rfl, e0⟩)
      · skip
        refine J.o_op_g rfl rfl rfl rfl (Yd.cast (Yd.fieldA Try.underlying31 rfl ti3 rfl rfl) (show _ = Value.pointer (some ⟨b3_0, 1, none⟩) from rfl)) rfl ?_
        refine J.o_op_g rfl rfl rfl rfl (Yd.load pl3 rfl (Cel.cell1 c3_0 1 rfl)) rfl ?_
        refine J.o_op_g rfl rfl rfl rfl (Yd.move rfl) rfl ?_
        refine J.o_op_g rfl rfl rfl rfl (Yd.nilCheck rfl) rfl ?_
        refine J.o_op_g rfl rfl rfl rfl (Yd.cast (Yd.fieldA Try.underlying76 rfl ti70 rfl rfl) (show _ = Value.pointer (some ⟨b, 3, none⟩) from rfl)) rfl ?_
        refine J.o_op_g rfl rfl rfl rfl (Yd.load pl70 rfl (Cel.cell1 (Cel.ext hc e0) 3 rfl)) rfl ?_
        refine J.o_op_g rfl rfl rfl rfl (Yd.len_l Try.underlying70 rfl (Rl.ext hrl e0)) rfl ?_
        refine J.o_op_g rfl rfl rfl rfl (Yd.geq rfl rfl) rfl ?_
        refine J.o_op rfl (Yd.pick_f rfl rfl) rfl ?_
        refine J.o_op rfl (Yd.move rfl) rfl ?_
        refine J.split_dec (t := 37) rfl (fun g4 => ?_) (fun g4 => ?_)
        · skip
          refine J.o_not_g rfl rfl rfl rfl rfl rfl ?_
          refine J.o_not_g rfl rfl rfl rfl rfl rfl ?_
          refine J.o_not_g rfl rfl rfl rfl rfl rfl ?_
          refine J.o_not_g rfl rfl rfl rfl rfl rfl ?_
          refine J.o_not_g rfl rfl rfl rfl rfl rfl ?_
          refine J.o_not_g rfl rfl rfl rfl rfl rfl ?_
          refine J.o_not_g rfl rfl rfl rfl rfl rfl ?_
          refine J.o_not_g rfl rfl rfl rfl rfl rfl ?_
          refine J.o_not_g rfl rfl rfl rfl rfl rfl ?_
          refine J.o_not_g rfl rfl rfl rfl rfl rfl ?_
          refine J.o_not_g rfl rfl rfl rfl rfl rfl ?_
          refine J.o_not_g rfl rfl rfl rfl rfl rfl ?_
          refine J.o_not_g rfl rfl rfl rfl rfl rfl ?_
          refine J.o_not_g rfl rfl rfl rfl rfl rfl ?_
          refine J.o_not_g rfl rfl rfl rfl rfl rfl ?_
          refine J.o_not_g rfl rfl rfl rfl rfl rfl ?_
          refine J.o_not_g rfl rfl rfl rfl rfl rfl ?_
          refine J.o_not_g rfl rfl rfl rfl rfl rfl ?_
          refine J.o_not_g rfl rfl rfl rfl rfl rfl ?_
          refine J.o_not_g rfl rfl rfl rfl rfl rfl ?_
          refine J.o_nil ?_
          refine J.s_not_g rfl rfl rfl rfl rfl rfl ?_
          refine J.s_op rfl (fun _ => Yd.pick_t rfl rfl) rfl ?_
          refine J.s_nil ?_
          refine J.n_np ?_
          refine J.n_then ?_
          refine J.cond_true rfl ?_
          refine J.seq ?_
          refine J.region ?_
          refine J.op (Yd.assign rfl) rfl ?_
          refine J.nil ?_
          refine J.n_then ?_
          refine J.ret ?_
          refine J.r_then ?_
          exact J.ret1 rfl rfl (⟨_, rfl, rfl, e0⟩)
        · skip
          refine J.o_op_g rfl rfl rfl rfl (Yd.cast (Yd.fieldA Try.underlying31 rfl ti22 rfl rfl) (show _ = Value.pointer (some ⟨b3_0, 3, none⟩) from rfl)) rfl ?_
          refine J.o_op_g rfl rfl rfl rfl (Yd.load pl22 rfl (Cel.cell1 c3_0 3 rfl)) rfl ?_
          refine J.o_op_g rfl rfl rfl rfl (Yd.len_b Try.underlying22 rfl (Rd.ext hx e0)) rfl ?_
          refine J.o_op_g rfl rfl rfl rfl (Yd.move rfl) rfl ?_
          refine J.o_op_g rfl rfl rfl rfl (Yd.nilCheck rfl) rfl ?_
          refine J.o_op_g rfl rfl rfl rfl (Yd.cast (Yd.fieldA Try.underlying76 rfl ti3 rfl rfl) (show _ = Value.pointer (some ⟨b, 1, none⟩) from rfl)) rfl ?_
          refine J.o_op_g rfl rfl rfl rfl (Yd.load pl3 rfl (Cel.cell1 (Cel.ext hc e0) 1 rfl)) rfl ?_
          refine J.o_op_g rfl rfl rfl rfl (Yd.move rfl) rfl ?_
          refine J.o_op_g rfl rfl rfl rfl (Yd.nilCheck rfl) rfl ?_
          refine J.o_op_g rfl rfl rfl rfl (Yd.cast (Yd.fieldA Try.underlying76 rfl ti3 rfl rfl) (show _ = Value.pointer (some ⟨b, 2, none⟩) from rfl)) rfl ?_
          refine J.o_op_g rfl rfl rfl rfl (Yd.load pl3 rfl (Cel.cell1 (Cel.ext hc e0) 2 rfl)) rfl ?_
          refine J.o_op_g rfl rfl rfl rfl (Yd.cast (Yd.fieldA Try.underlying31 rfl ti3 rfl rfl) (show _ = Value.pointer (some ⟨b3_0, 1, none⟩) from rfl)) rfl ?_
          refine J.o_op_g rfl rfl rfl rfl (Yd.load pl3 rfl (Cel.cell1 c3_0 1 rfl)) rfl ?_
          refine J.o_op_g rfl rfl rfl rfl (Yd.move rfl) rfl ?_
          refine J.o_op_g rfl rfl rfl rfl (Yd.nilCheck rfl) rfl ?_
          refine J.o_op_g rfl rfl rfl rfl (Yd.cast (Yd.fieldA Try.underlying76 rfl ti3 rfl rfl) (show _ = Value.pointer (some ⟨b, 1, none⟩) from rfl)) rfl ?_
          refine J.o_op_g rfl rfl rfl rfl (Yd.load pl3 rfl (Cel.cell1 (Cel.ext hc e0) 1 rfl)) rfl ?_
          have hmu := mulB (a := x.2.1) (b := size) (by omega) hsz
          refine J.o_op_g rfl rfl rfl rfl (Yd.mul rfl rfl (by omega)) rfl ?_
          refine J.o_op_g rfl rfl rfl rfl (Yd.sub rfl rfl (by first | omega | exact idx_u8' _ | (simp only [Int.toNat_natCast]; omega) | (simp only [List.length_map, List.length_drop, List.length_take, List.length_append, List.length_replicate]; omega) | (simp <;> omega))) rfl ?_
          refine J.o_op_g rfl rfl rfl rfl (Yd.mini rfl rfl) rfl ?_
          refine J.o_nil ?_
          refine J.s_op_g rfl rfl rfl rfl (fun _ => Yd.neq rfl rfl) rfl ?_
          refine J.s_op rfl (fun _ => Yd.pick_f rfl rfl) rfl ?_
          refine J.s_nil ?_
          refine J.n_np ?_
          refine J.n_then ?_
          refine J.know (t := 59) (v' := .bool true) rfl (tt (by intro h; exact hb ⟨by omega, by omega, ⟨by omega, by omega⟩, h⟩)) ?_
          refine J.cond_true rfl ?_
          refine J.seq ?_
          refine J.region ?_
          refine J.op (Yd.assign rfl) rfl ?_
          refine J.nil ?_
          refine J.n_then ?_
          refine J.ret ?_
          refine J.r_then ?_
          exact J.ret1 rfl rfl (⟨_, rfl, rfl, e0⟩)
end Ytghklimejpmpnaa
end Go.Proofs
