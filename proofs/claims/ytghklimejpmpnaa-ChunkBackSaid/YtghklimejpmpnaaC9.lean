import Derived.Test.YtghklimejpmpnaaT
import Derived.Test.YtghklimejpmpnaaC8
set_option linter.unusedVariables false
set_option linter.unusedSimpArgs false
set_option maxRecDepth 100000
set_option maxHeartbeats 4000000
namespace Go.Proofs
open Go.X Go.RowKit
namespace Ytghklimejpmpnaa
theorem Add1_same {b : Nat} {s : Value} {vs : List Value} {ll : List (List UInt8)} {id size len : Int} {rs : List (Option Nat)} {l : List UInt8} {k : Nat} {xv : Value} {w : World} (hB : BxN id size len ll.length) (hc : Cel w b 72 [(0, 1, [I id]), (1, 1, [I size]), (2, 1, [I len]), (3, 1, [s])]) (he : Els rs w vs ll) (hr : Rd w s vs) (hx : Bs w xv l) (hk : k < ll.length) (hdl : (l.length : Int) = if len - (k : Int) * size < size then len - (k : Int) * size else size) (hl0 : ¬ ll.getD k [] = []) (hle : ll.getD k [] = l) : C Try.prog 11 [.pointer (some ⟨b, 0, none⟩), .agg (pcS.c ((id, (k : Int), (ll.length : Int), xv) : Pc)).toArray] w (Ret fun v w' => v = I 8 ∧ Ext w w') := by
  have hrl := he.rl hr
  have hn1 := hB.n1
  have hvl := he.len
  have hsz := hB.hsz
  have hln := hB.hln
  have hpk := hB.pos hk
  have e0 := Ext.refl w
  refine C.enter Try.func11 rfl Try.ntmps11 rfl ?_
  refine J.seq ?_
  refine J.region ?_
  refine J.eff (Ye.box (S := [(0, 1, [I id]), (1, 1, [I (k : Int)]), (2, 1, [I (ll.length : Int)]), (3, 1, [xv])]) rfl (by simp [SegAll, SegOK, Value.cells, pcS])) rfl ?_
  rintro _ w1 ⟨b3_0, rfl, hb_, c3_0, x1⟩
  have fr_b3_0 : Fr w.heap.size (some b3_0) := Fr.le (Fr.blk hb_) e0.size
  have e0 := e0.trans x1
  clear x1 hb_
  refine J.op (Yd.assign rfl) rfl ?_
  refine J.nil ?_
  refine J.n_then ?_
  refine J.seq ?_
  refine J.block ?_
  refine J.seq ?_
  refine J.region ?_
  refine J.op (Yd.move rfl) rfl ?_
  refine J.op (Yd.cast (Yd.eqPn Try.underlying32 rfl rfl) (show _ = Value.bool false from rfl)) rfl ?_
  refine J.op (Yd.assign rfl) rfl ?_
  refine J.nil ?_
  refine J.n_then ?_
  refine J.cond_false rfl ?_
  refine J.seq ?_
  refine J.regionO [(0, true), (2, true), (3, true), (4, true)] [(1, 1), (5, 1), (6, 1), (7, 1), (8, 1), (9, 1), (10, 1), (11, 1), (12, 1), (13, 1), (14, 1), (15, 1), (16, 1), (17, 1), (18, 1), (19, 1), (20, 1), (21, 1), (22, 1), (23, 1), (24, 1), (25, 1), (26, 0), (27, 1), (28, 1), (29, 1), (30, 1), (31, 1), (32, 1), (33, 1), (34, 1), (35, 1), (36, 1), (37, 1), (38, 1), (39, 1), (40, 1), (41, 1), (42, 1), (43, 1), (44, 1), (45, 1), (46, 1), (47, 1), (48, 1), (49, 1)] [(50, true), (51, true), (52, true)] mix (by kernel_rfl) ?_
  refine J.s_op rfl (fun _ => Yd.cast (Yd.fieldA Try.underlying29 rfl ti3 rfl rfl) (show _ = Value.pointer (some ⟨b3_0, 0, none⟩) from rfl)) rfl ?_
  refine J.s_op rfl (fun _ => Yd.move rfl) rfl ?_
  refine J.s_op rfl (fun _ => Yd.nilCheck rfl) rfl ?_
  refine J.s_op rfl (fun _ => Yd.cast (Yd.fieldA Try.underlying72 rfl ti3 rfl rfl) (show _ = Value.pointer (some ⟨b, 0, none⟩) from rfl)) rfl ?_
  refine J.s_nil ?_
  refine J.o_op rfl (Yd.load pl3 rfl (Cel.cell1 c3_0 0 rfl)) rfl ?_
  refine J.o_op rfl (Yd.load pl3 rfl (Cel.cell1 (Cel.ext hc e0) 0 rfl)) rfl ?_
  refine J.o_op rfl (Yd.neq rfl rfl) rfl ?_
  refine J.o_op rfl (Yd.move rfl) rfl ?_
  refine J.know (t := 16) (v' := .bool false) rfl (ff (by exact fun h => h rfl)) ?_
  refine J.o_op_g rfl rfl rfl rfl (Yd.cast (Yd.fieldA Try.underlying29 rfl ti3 rfl rfl) (show _ = Value.pointer (some ⟨b3_0, 2, none⟩) from rfl)) rfl ?_
  refine J.o_op_g rfl rfl rfl rfl (Yd.load pl3 rfl (Cel.cell1 c3_0 2 rfl)) rfl ?_
  refine J.o_op_g rfl rfl rfl rfl (Yd.move rfl) rfl ?_
  refine J.o_op_g rfl rfl rfl rfl (Yd.nilCheck rfl) rfl ?_
  refine J.o_op_g rfl rfl rfl rfl (Yd.cast (Yd.fieldA Try.underlying72 rfl ti70 rfl rfl) (show _ = Value.pointer (some ⟨b, 3, none⟩) from rfl)) rfl ?_
  refine J.o_op_g rfl rfl rfl rfl (Yd.load pl70 rfl (Cel.cell1 (Cel.ext hc e0) 3 rfl)) rfl ?_
  refine J.o_op_g rfl rfl rfl rfl (Yd.len_l Try.underlying70 rfl (Rl.ext hrl e0)) rfl ?_
  refine J.o_op_g rfl rfl rfl rfl (Yd.neq rfl rfl) rfl ?_
  refine J.o_op rfl (Yd.pick_f rfl rfl) rfl ?_
  refine J.o_op rfl (Yd.move rfl) rfl ?_
  refine J.know (t := 26) (v' := .bool false) rfl (ff (by exact fun h => h rfl)) ?_
  refine J.o_op_g rfl rfl rfl rfl (Yd.cast (Yd.fieldA Try.underlying29 rfl ti3 rfl rfl) (show _ = Value.pointer (some ⟨b3_0, 1, none⟩) from rfl)) rfl ?_
  refine J.o_op_g rfl rfl rfl rfl (Yd.load pl3 rfl (Cel.cell1 c3_0 1 rfl)) rfl ?_
  refine J.o_op_g rfl rfl rfl rfl (Yd.move rfl) rfl ?_
  refine J.o_op_g rfl rfl rfl rfl (Yd.nilCheck rfl) rfl ?_
  refine J.o_op_g rfl rfl rfl rfl (Yd.cast (Yd.fieldA Try.underlying72 rfl ti70 rfl rfl) (show _ = Value.pointer (some ⟨b, 3, none⟩) from rfl)) rfl ?_
  refine J.o_op_g rfl rfl rfl rfl (Yd.load pl70 rfl (Cel.cell1 (Cel.ext hc e0) 3 rfl)) rfl ?_
  refine J.o_op_g rfl rfl rfl rfl (Yd.len_l Try.underlying70 rfl (Rl.ext hrl e0)) rfl ?_
  refine J.o_op_g rfl rfl rfl rfl (Yd.sub rfl rfl (by first | omega | exact idx_u8' _ | (simp only [Int.toNat_natCast]; omega) | (simp only [List.length_map, List.length_drop, List.length_take, List.length_append, List.length_replicate]; omega) | (simp <;> omega))) rfl ?_
  refine J.o_eff_g rfl rfl rfl rfl (Ye.call cl27 rfl (Within_ok)) rfl (fun _ _ h => h.2) ?_
  rintro _ w2 ⟨rfl, x1⟩
  have e0 := e0.trans x1
  have c3_0 := c3_0.ext x1
  clear x1
  refine J.o_op_g rfl rfl rfl rfl (Yd.not_dec rfl) rfl ?_
  refine J.o_op rfl (Yd.pick_f rfl rfl) rfl ?_
  refine J.o_op rfl (Yd.move rfl) rfl ?_
  refine J.know (t := 38) (v' := .bool false) rfl (ff (by exact fun h => h (by omega))) ?_
  refine J.o_op_g rfl rfl rfl rfl (Yd.cast (Yd.fieldA Try.underlying29 rfl ti22 rfl rfl) (show _ = Value.pointer (some ⟨b3_0, 3, none⟩) from rfl)) rfl ?_
  refine J.o_op_g rfl rfl rfl rfl (Yd.load pl22 rfl (Cel.cell1 c3_0 3 rfl)) rfl ?_
  refine J.o_op_g rfl rfl rfl rfl (Yd.len_b Try.underlying22 rfl (Rd.ext hx e0)) rfl ?_
  refine J.o_op_g rfl rfl rfl rfl (Yd.move rfl) rfl ?_
  refine J.o_op_g rfl rfl rfl rfl (Yd.nilCheck rfl) rfl ?_
  refine J.o_op_g rfl rfl rfl rfl (Yd.cast (Yd.fieldA Try.underlying72 rfl ti3 rfl rfl) (show _ = Value.pointer (some ⟨b, 1, none⟩) from rfl)) rfl ?_
  refine J.o_op_g rfl rfl rfl rfl (Yd.load pl3 rfl (Cel.cell1 (Cel.ext hc e0) 1 rfl)) rfl ?_
  refine J.o_op_g rfl rfl rfl rfl (Yd.move rfl) rfl ?_
  refine J.o_op_g rfl rfl rfl rfl (Yd.nilCheck rfl) rfl ?_
  refine J.o_op_g rfl rfl rfl rfl (Yd.cast (Yd.fieldA Try.underlying72 rfl ti3 rfl rfl) (show _ = Value.pointer (some ⟨b, 2, none⟩) from rfl)) rfl ?_
  refine J.o_op_g rfl rfl rfl rfl (Yd.load pl3 rfl (Cel.cell1 (Cel.ext hc e0) 2 rfl)) rfl ?_
  refine J.o_op_g rfl rfl rfl rfl (Yd.cast (Yd.fieldA Try.underlying29 rfl ti3 rfl rfl) (show _ = Value.pointer (some ⟨b3_0, 1, none⟩) from rfl)) rfl ?_
  refine J.o_op_g rfl rfl rfl rfl (Yd.load pl3 rfl (Cel.cell1 c3_0 1 rfl)) rfl ?_
  refine J.o_op_g rfl rfl rfl rfl (Yd.move rfl) rfl ?_
  refine J.o_op_g rfl rfl rfl rfl (Yd.nilCheck rfl) rfl ?_
  refine J.o_op_g rfl rfl rfl rfl (Yd.cast (Yd.fieldA Try.underlying72 rfl ti3 rfl rfl) (show _ = Value.pointer (some ⟨b, 1, none⟩) from rfl)) rfl ?_
  refine J.o_op_g rfl rfl rfl rfl (Yd.load pl3 rfl (Cel.cell1 (Cel.ext hc e0) 1 rfl)) rfl ?_
  have hmu := mulB (a := (k : Int)) (b := size) (by omega) hsz
  refine J.o_op_g rfl rfl rfl rfl (Yd.mul rfl rfl (by omega)) rfl ?_
  refine J.o_op_g rfl rfl rfl rfl (Yd.sub rfl rfl (by first | omega | exact idx_u8' _ | (simp only [Int.toNat_natCast]; omega) | (simp only [List.length_map, List.length_drop, List.length_take, List.length_append, List.length_replicate]; omega) | (simp <;> omega))) rfl ?_
  refine J.o_op_g rfl rfl rfl rfl (Yd.mini rfl rfl) rfl ?_
  refine J.o_nil ?_
  refine J.s_op_g rfl rfl rfl rfl (fun _ => Yd.neq rfl rfl) rfl ?_
  refine J.s_op rfl (fun _ => Yd.pick_f rfl rfl) rfl ?_
  refine J.s_op rfl (fun _ => Yd.assign rfl) rfl ?_
  refine J.s_nil ?_
  refine J.n_np ?_
  refine J.n_then ?_
  refine J.know (t := 8) (v' := .bool false) rfl (ff (by exact fun h => h hdl)) ?_
  refine J.cond_false rfl ?_
  refine J.seq ?_
  refine J.regionO [(0, true), (1, true), (2, true), (4, true)] [(3, 1), (5, 1)] [(6, false), (7, false), (8, false), (9, true)] mix (by kernel_rfl) ?_
  refine J.s_op rfl (fun _ => Yd.move rfl) rfl ?_
  refine J.s_op rfl (fun _ => Yd.nilCheck rfl) rfl ?_
  refine J.s_op rfl (fun _ => Yd.cast (Yd.fieldA Try.underlying72 rfl ti70 rfl rfl) (show _ = Value.pointer (some ⟨b, 3, none⟩) from rfl)) rfl ?_
  refine J.s_op rfl (fun _ => Yd.cast (Yd.fieldA Try.underlying29 rfl ti3 rfl rfl) (show _ = Value.pointer (some ⟨b3_0, 1, none⟩) from rfl)) rfl ?_
  refine J.s_nil ?_
  refine J.o_op rfl (Yd.load pl70 rfl (Cel.cell1 (Cel.ext hc e0) 3 rfl)) rfl ?_
  refine J.o_op rfl (Yd.load pl3 rfl (Cel.cell1 c3_0 1 rfl)) rfl ?_
  refine J.o_nil ?_
  refine J.s_one rfl (Yd.idx_l Try.underlying70 ti22 rfl rfl (Rl.ext hrl e0) (by first | omega | exact idx_u8' _ | (simp only [Int.toNat_natCast]; omega) | (simp only [List.length_map, List.length_drop, List.length_take, List.length_append, List.length_replicate]; omega) | (simp <;> omega))) rfl ?_
  refine J.s_one rfl (Yd.load pl22 rfl (Rl.cell (Rl.ext hrl e0) (by first | omega | exact idx_u8' _ | (simp only [Int.toNat_natCast]; omega) | (simp only [List.length_map, List.length_drop, List.length_take, List.length_append, List.length_replicate]; omega) | (simp <;> omega)))) rfl ?_
  refine J.s_one rfl (Yd.eqNil Try.underlying22 rfl rfl (Rl.at' (Rl.ext hrl e0) (by first | omega | exact idx_u8' _ | (simp only [Int.toNat_natCast]; omega) | (simp only [List.length_map, List.length_drop, List.length_take, List.length_append, List.length_replicate]; omega) | (simp <;> omega)))) rfl ?_
  refine J.s_op rfl (fun _ => Yd.assign rfl) rfl ?_
  refine J.s_nil ?_
  refine J.n_np ?_
  refine J.n_then ?_
  refine J.know (t := 61) (v' := .bool false) rfl ((congrArg Value.bool (by rw [Int.toNat_natCast, he.nil hk]; exact decide_eq_false hl0))) ?_
  refine J.cond_false rfl ?_
  refine J.seq ?_
  refine J.regionO [(0, true), (1, true), (2, true), (4, true), (8, true)] [(3, 1), (5, 1), (6, 1), (7, 1), (9, 1)] [(10, false), (11, true)] mix (by kernel_rfl) ?_
  refine J.s_op rfl (fun _ => Yd.move rfl) rfl ?_
  refine J.s_op rfl (fun _ => Yd.nilCheck rfl) rfl ?_
  refine J.s_op rfl (fun _ => Yd.cast (Yd.fieldA Try.underlying72 rfl ti70 rfl rfl) (show _ = Value.pointer (some ⟨b, 3, none⟩) from rfl)) rfl ?_
  refine J.s_op rfl (fun _ => Yd.cast (Yd.fieldA Try.underlying29 rfl ti3 rfl rfl) (show _ = Value.pointer (some ⟨b3_0, 1, none⟩) from rfl)) rfl ?_
  refine J.s_op rfl (fun _ => Yd.cast (Yd.fieldA Try.underlying29 rfl ti22 rfl rfl) (show _ = Value.pointer (some ⟨b3_0, 3, none⟩) from rfl)) rfl ?_
  refine J.s_nil ?_
  refine J.o_op rfl (Yd.load pl70 rfl (Cel.cell1 (Cel.ext hc e0) 3 rfl)) rfl ?_
  refine J.o_op rfl (Yd.load pl3 rfl (Cel.cell1 c3_0 1 rfl)) rfl ?_
  refine J.o_op rfl (Yd.idx_l Try.underlying70 ti22 rfl rfl (Rl.ext hrl e0) (by first | omega | exact idx_u8' _ | (simp only [Int.toNat_natCast]; omega) | (simp only [List.length_map, List.length_drop, List.length_take, List.length_append, List.length_replicate]; omega) | (simp <;> omega))) rfl ?_
  refine J.o_op rfl (Yd.load pl22 rfl (Rl.cell (Rl.ext hrl e0) (by first | omega | exact idx_u8' _ | (simp only [Int.toNat_natCast]; omega) | (simp only [List.length_map, List.length_drop, List.length_take, List.length_append, List.length_replicate]; omega) | (simp <;> omega)))) rfl ?_
  refine J.o_op rfl (Yd.load pl22 rfl (Cel.cell1 c3_0 3 rfl)) rfl ?_
  refine J.o_nil ?_
  refine J.s_eff rfl (Ye.call cl31 rfl (Equal_ok (Rl.at' (Rl.ext hrl e0) (by first | omega | exact idx_u8' _ | (simp only [Int.toNat_natCast]; omega) | (simp only [List.length_map, List.length_drop, List.length_take, List.length_append, List.length_replicate]; omega) | (simp <;> omega))) (Rd.ext hx e0))) rfl ?_
  rintro _ w3 ⟨rfl, x1⟩
  have e0 := e0.trans x1
  have c3_0 := c3_0.ext x1
  clear x1
  refine J.s_op rfl (fun _ => Yd.assign rfl) rfl ?_
  refine J.s_nil ?_
  refine J.n_np ?_
  refine J.n_then ?_
  refine J.know (t := 81) (v' := .bool true) rfl (tt (by rw [Int.toNat_natCast]; exact hle)) ?_
  refine J.cond_true rfl ?_
  refine J.seq ?_
  refine J.region ?_
  refine J.op (Yd.assign rfl) rfl ?_
  refine J.nil ?_
  refine J.n_then ?_
  refine J.ret ?_
  refine J.r_block ?_
  refine J.r_then ?_
  exact J.ret1 rfl rfl (⟨_, rfl, rfl, e0⟩)

theorem Add2_same {b : Nat} {s : Value} {vs : List Value} {ll : List (List UInt8)} {id size len : Int} {rs : List (Option Nat)} {l : List UInt8} {k : Nat} {xv : Value} {w : World} (hB : BxN id size len ll.length) (hc : Cel w b 76 [(0, 1, [I id]), (1, 1, [I size]), (2, 1, [I len]), (3, 1, [s])]) (he : Els rs w vs ll) (hr : Rd w s vs) (hx : Bs w xv l) (hk : k < ll.length) (hdl : (l.length : Int) = if len - (k : Int) * size < size then len - (k : Int) * size else size) (hl0 : ¬ ll.getD k [] = []) (hle : ll.getD k [] = l) : C Try.prog 16 [.pointer (some ⟨b, 0, none⟩), .agg (pcS.c ((id, (k : Int), (ll.length : Int), xv) : Pc)).toArray] w (Ret fun v w' => v = I 8 ∧ Ext w w') := by
  have hrl := he.rl hr
  have hn1 := hB.n1
  have hvl := he.len
  have hsz := hB.hsz
  have hln := hB.hln
  have hpk := hB.pos hk
  have e0 := Ext.refl w
  refine C.enter Try.func16 rfl Try.ntmps16 rfl ?_
  refine J.seq ?_
  refine J.region ?_
  refine J.eff (Ye.box (S := [(0, 1, [I id]), (1, 1, [I (k : Int)]), (2, 1, [I (ll.length : Int)]), (3, 1, [xv])]) rfl (by simp [SegAll, SegOK, Value.cells, pcS])) rfl ?_
  rintro _ w1 ⟨b3_0, rfl, hb_, c3_0, x1⟩
  have fr_b3_0 : Fr w.heap.size (some b3_0) := Fr.le (Fr.blk hb_) e0.size
  have e0 := e0.trans x1
  clear x1 hb_
  refine J.op (Yd.assign rfl) rfl ?_
  refine J.nil ?_
  refine J.n_then ?_
  refine J.seq ?_
  refine J.seq ?_
  refine J.regionO [(0, true), (2, true), (3, true), (4, true)] [(1, 1), (5, 1), (6, 1), (7, 1), (8, 1), (9, 1), (10, 1), (11, 1), (12, 1), (13, 1), (14, 1), (15, 1), (16, 1), (17, 1), (18, 1), (19, 1), (20, 1), (21, 1), (22, 1), (23, 1), (24, 1), (25, 1), (26, 1), (27, 1), (28, 1), (29, 1), (30, 1), (31, 1), (32, 1), (33, 1), (34, 1), (35, 1), (36, 1), (37, 1), (38, 1), (39, 1), (40, 1), (41, 1), (42, 1), (43, 1), (44, 1), (45, 1), (46, 1), (47, 1), (48, 1), (49, 1), (50, 1), (51, 1), (52, 1)] [(53, true), (54, true)] mix (by kernel_rfl) ?_
  refine J.s_op rfl (fun _ => Yd.cast (Yd.fieldA Try.underlying31 rfl ti3 rfl rfl) (show _ = Value.pointer (some ⟨b3_0, 0, none⟩) from rfl)) rfl ?_
  refine J.s_op rfl (fun _ => Yd.move rfl) rfl ?_
  refine J.s_op rfl (fun _ => Yd.nilCheck rfl) rfl ?_
  refine J.s_op rfl (fun _ => Yd.cast (Yd.fieldA Try.underlying76 rfl ti3 rfl rfl) (show _ = Value.pointer (some ⟨b, 0, none⟩) from rfl)) rfl ?_
  refine J.s_nil ?_
  refine J.o_op rfl (Yd.load pl3 rfl (Cel.cell1 c3_0 0 rfl)) rfl ?_
  refine J.o_op rfl (Yd.load pl3 rfl (Cel.cell1 (Cel.ext hc e0) 0 rfl)) rfl ?_
  refine J.o_op rfl (Yd.neq rfl rfl) rfl ?_
  refine J.o_op rfl (Yd.move rfl) rfl ?_
  refine J.know (t := 12) (v' := .bool false) rfl (ff (by exact fun h => h rfl)) ?_
  refine J.o_op_g rfl rfl rfl rfl (Yd.cast (Yd.fieldA Try.underlying31 rfl ti3 rfl rfl) (show _ = Value.pointer (some ⟨b3_0, 2, none⟩) from rfl)) rfl ?_
  refine J.o_op_g rfl rfl rfl rfl (Yd.load pl3 rfl (Cel.cell1 c3_0 2 rfl)) rfl ?_
  refine J.o_op_g rfl rfl rfl rfl (Yd.move rfl) rfl ?_
  refine J.o_op_g rfl rfl rfl rfl (Yd.nilCheck rfl) rfl ?_
  refine J.o_op_g rfl rfl rfl rfl (Yd.cast (Yd.fieldA Try.underlying76 rfl ti70 rfl rfl) (show _ = Value.pointer (some ⟨b, 3, none⟩) from rfl)) rfl ?_
  refine J.o_op_g rfl rfl rfl rfl (Yd.load pl70 rfl (Cel.cell1 (Cel.ext hc e0) 3 rfl)) rfl ?_
  refine J.o_op_g rfl rfl rfl rfl (Yd.len_l Try.underlying70 rfl (Rl.ext hrl e0)) rfl ?_
  refine J.o_op_g rfl rfl rfl rfl (Yd.neq rfl rfl) rfl ?_
  refine J.o_op rfl (Yd.pick_f rfl rfl) rfl ?_
  refine J.o_op rfl (Yd.move rfl) rfl ?_
  refine J.know (t := 22) (v' := .bool false) rfl (ff (by exact fun h => h rfl)) ?_
  refine J.o_op_g rfl rfl rfl rfl (Yd.cast (Yd.fieldA Try.underlying31 rfl ti3 rfl rfl) (show _ = Value.pointer (some ⟨b3_0, 1, none⟩) from rfl)) rfl ?_
  refine J.o_op_g rfl rfl rfl rfl (Yd.load pl3 rfl (Cel.cell1 c3_0 1 rfl)) rfl ?_
  refine J.o_op_g rfl rfl rfl rfl (Yd.lss rfl rfl) rfl ?_
  refine J.o_op rfl (Yd.pick_f rfl rfl) rfl ?_
  refine J.o_op rfl (Yd.move rfl) rfl ?_
  refine J.know (t := 27) (v' := .bool false) rfl (ff (by omega)) ?_
  refine J.o_op_g rfl rfl rfl rfl (Yd.cast (Yd.fieldA Try.underlying31 rfl ti3 rfl rfl) (show _ = Value.pointer (some ⟨b3_0, 1, none⟩) from rfl)) rfl ?_
  refine J.o_op_g rfl rfl rfl rfl (Yd.load pl3 rfl (Cel.cell1 c3_0 1 rfl)) rfl ?_
  refine J.o_op_g rfl rfl rfl rfl (Yd.move rfl) rfl ?_
  refine J.o_op_g rfl rfl rfl rfl (Yd.nilCheck rfl) rfl ?_
  refine J.o_op_g rfl rfl rfl rfl (Yd.cast (Yd.fieldA Try.underlying76 rfl ti70 rfl rfl) (show _ = Value.pointer (some ⟨b, 3, none⟩) from rfl)) rfl ?_
  refine J.o_op_g rfl rfl rfl rfl (Yd.load pl70 rfl (Cel.cell1 (Cel.ext hc e0) 3 rfl)) rfl ?_
  refine J.o_op_g rfl rfl rfl rfl (Yd.len_l Try.underlying70 rfl (Rl.ext hrl e0)) rfl ?_
  refine J.o_op_g rfl rfl rfl rfl (Yd.geq rfl rfl) rfl ?_
  refine J.o_op rfl (Yd.pick_f rfl rfl) rfl ?_
  refine J.o_op rfl (Yd.move rfl) rfl ?_
  refine J.know (t := 37) (v' := .bool false) rfl (ff (by omega)) ?_
  refine J.o_op_g rfl rfl rfl rfl (Yd.cast (Yd.fieldA Try.underlying31 rfl ti22 rfl rfl) (show _ = Value.pointer (some ⟨b3_0, 3, none⟩) from rfl)) rfl ?_
  refine J.o_op_g rfl rfl rfl rfl (Yd.load pl22 rfl (Cel.cell1 c3_0 3 rfl)) rfl ?_
  refine J.o_op_g rfl rfl rfl rfl (Yd.len_b Try.underlying22 rfl (Rd.ext hx e0)) rfl ?_
  refine J.o_op_g rfl rfl rfl rfl (Yd.move rfl) rfl ?_
  refine J.o_op_g rfl rfl rfl rfl (Yd.nilCheck rfl) rfl ?_
  refine J.o_op_g rfl rfl rfl rfl (Yd.cast (Yd.fieldA Try.underlying76 rfl ti3 rfl rfl) (show _ = Value.pointer (some ⟨b, 1, none⟩) from rfl)) rfl ?_
  refine J.o_op_g rfl rfl rfl rfl (Yd.load pl3 rfl (Cel.cell1 (Cel.ext hc e0) 1 rfl)) rfl ?_
  refine J.o_op_g rfl rfl rfl rfl (Yd.move rfl) rfl ?_
  refine J.o_op_g rfl rfl rfl rfl (Yd.nilCheck rfl) rfl ?_
  refine J.o_op_g rfl rfl rfl rfl (Yd.cast (Yd.fieldA Try.underlying76 rfl ti3 rfl rfl) (show _ = Value.pointer (some ⟨b, 2, none⟩) from rfl)) rfl ?_
  refine J.o_op_g rfl rfl rfl rfl (Yd.load pl3 rfl (Cel.cell1 (Cel.ext hc e0) 2 rfl)) rfl ?_
  refine J.o_op_g rfl rfl rfl rfl (Yd.cast (Yd.fieldA Try.underlying31 rfl ti3 rfl rfl) (show _ = Value.pointer (some ⟨b3_0, 1, none⟩) from rfl)) rfl ?_
  refine J.o_op_g rfl rfl rfl rfl (Yd.load pl3 rfl (Cel.cell1 c3_0 1 rfl)) rfl ?_
  refine J.o_op_g rfl rfl rfl rfl (Yd.move rfl) rfl ?_
  refine J.o_op_g rfl rfl rfl rfl (Yd.nilCheck rfl) rfl ?_
  refine J.o_op_g rfl rfl rfl rfl (Yd.cast (Yd.fieldA Try.underlying76 rfl ti3 rfl rfl) (show _ = Value.pointer (some ⟨b, 1, none⟩) from rfl)) rfl ?_
  refine J.o_op_g rfl rfl rfl rfl (Yd.load pl3 rfl (Cel.cell1 (Cel.ext hc e0) 1 rfl)) rfl ?_
  have hmu := mulB (a := (k : Int)) (b := size) (by omega) hsz
  refine J.o_op_g rfl rfl rfl rfl (Yd.mul rfl rfl (by omega)) rfl ?_
  refine J.o_op_g rfl rfl rfl rfl (Yd.sub rfl rfl (by first | omega | exact idx_u8' _ | (simp only [Int.toNat_natCast]; omega) | (simp only [List.length_map, List.length_drop, List.length_take, List.length_append, List.length_replicate]; omega) | (simp <;> omega))) rfl ?_
  refine J.o_op_g rfl rfl rfl rfl (Yd.mini rfl rfl) rfl ?_
  refine J.o_nil ?_
  refine J.s_op_g rfl rfl rfl rfl (fun _ => Yd.neq rfl rfl) rfl ?_
  refine J.s_op rfl (fun _ => Yd.pick_f rfl rfl) rfl ?_
  refine J.s_nil ?_
  refine J.n_np ?_
  refine J.n_then ?_
  refine J.know (t := 59) (v' := .bool false) rfl (ff (by exact fun h => h hdl)) ?_
  refine J.cond_false rfl ?_
  refine J.skip ?_
  refine J.n_then ?_
  refine J.seq ?_
  refine J.seq ?_
  refine J.regionO [(0, true), (1, true), (2, true), (4, true)] [(3, 1), (5, 1)] [(6, false), (7, false), (8, false)] mix (by kernel_rfl) ?_
  refine J.s_op rfl (fun _ => Yd.move rfl) rfl ?_
  refine J.s_op rfl (fun _ => Yd.nilCheck rfl) rfl ?_
  refine J.s_op rfl (fun _ => Yd.cast (Yd.fieldA Try.underlying76 rfl ti70 rfl rfl) (show _ = Value.pointer (some ⟨b, 3, none⟩) from rfl)) rfl ?_
  refine J.s_op rfl (fun _ => Yd.cast (Yd.fieldA Try.underlying31 rfl ti3 rfl rfl) (show _ = Value.pointer (some ⟨b3_0, 1, none⟩) from rfl)) rfl ?_
  refine J.s_nil ?_
  refine J.o_op rfl (Yd.load pl70 rfl (Cel.cell1 (Cel.ext hc e0) 3 rfl)) rfl ?_
  refine J.o_op rfl (Yd.load pl3 rfl (Cel.cell1 c3_0 1 rfl)) rfl ?_
  refine J.o_nil ?_
  refine J.s_one rfl (Yd.idx_l Try.underlying70 ti22 rfl rfl (Rl.ext hrl e0) (by first | omega | exact idx_u8' _ | (simp only [Int.toNat_natCast]; omega) | (simp only [List.length_map, List.length_drop, List.length_take, List.length_append, List.length_replicate]; omega) | (simp <;> omega))) rfl ?_
  refine J.s_one rfl (Yd.load pl22 rfl (Rl.cell (Rl.ext hrl e0) (by first | omega | exact idx_u8' _ | (simp only [Int.toNat_natCast]; omega) | (simp only [List.length_map, List.length_drop, List.length_take, List.length_append, List.length_replicate]; omega) | (simp <;> omega)))) rfl ?_
  refine J.s_one rfl (Yd.neNil Try.underlying22 rfl rfl (Rl.at' (Rl.ext hrl e0) (by first | omega | exact idx_u8' _ | (simp only [Int.toNat_natCast]; omega) | (simp only [List.length_map, List.length_drop, List.length_take, List.length_append, List.length_replicate]; omega) | (simp <;> omega)))) rfl ?_
  refine J.s_nil ?_
  refine J.n_np ?_
  refine J.n_then ?_
  refine J.know (t := 68) (v' := .bool true) rfl ((congrArg Value.bool (by rw [Int.toNat_natCast, he.nil hk, decide_eq_false hl0]; rfl))) ?_
  refine J.cond_true rfl ?_
  refine J.seq ?_
  refine J.seq ?_
  refine J.regionO [(0, true), (1, true), (2, true), (4, true), (9, true)] [(3, 1), (5, 1), (6, 1), (7, 1), (8, 1), (10, 1), (11, 1)] [(12, true)] mix (by kernel_rfl) ?_
  refine J.s_op rfl (fun _ => Yd.move rfl) rfl ?_
  refine J.s_op rfl (fun _ => Yd.nilCheck rfl) rfl ?_
  refine J.s_op rfl (fun _ => Yd.cast (Yd.fieldA Try.underlying76 rfl ti70 rfl rfl) (show _ = Value.pointer (some ⟨b, 3, none⟩) from rfl)) rfl ?_
  refine J.s_op rfl (fun _ => Yd.cast (Yd.fieldA Try.underlying31 rfl ti3 rfl rfl) (show _ = Value.pointer (some ⟨b3_0, 1, none⟩) from rfl)) rfl ?_
  refine J.s_op rfl (fun _ => Yd.cast (Yd.fieldA Try.underlying31 rfl ti22 rfl rfl) (show _ = Value.pointer (some ⟨b3_0, 3, none⟩) from rfl)) rfl ?_
  refine J.s_nil ?_
  refine J.o_op rfl (Yd.load pl70 rfl (Cel.cell1 (Cel.ext hc e0) 3 rfl)) rfl ?_
  refine J.o_op rfl (Yd.load pl3 rfl (Cel.cell1 c3_0 1 rfl)) rfl ?_
  refine J.o_op rfl (Yd.idx_l Try.underlying70 ti22 rfl rfl (Rl.ext hrl e0) (by first | omega | exact idx_u8' _ | (simp only [Int.toNat_natCast]; omega) | (simp only [List.length_map, List.length_drop, List.length_take, List.length_append, List.length_replicate]; omega) | (simp <;> omega))) rfl ?_
  refine J.o_op rfl (Yd.load pl22 rfl (Rl.cell (Rl.ext hrl e0) (by first | omega | exact idx_u8' _ | (simp only [Int.toNat_natCast]; omega) | (simp only [List.length_map, List.length_drop, List.length_take, List.length_append, List.length_replicate]; omega) | (simp <;> omega)))) rfl ?_
  refine J.o_op rfl (Yd.bstr Try.underlying22 Try.underlying5 Try.underlying9 rfl (Rl.at' (Rl.ext hrl e0) (by first | omega | exact idx_u8' _ | (simp only [Int.toNat_natCast]; omega) | (simp only [List.length_map, List.length_drop, List.length_take, List.length_append, List.length_replicate]; omega) | (simp <;> omega)))) rfl ?_
  refine J.o_op rfl (Yd.load pl22 rfl (Cel.cell1 c3_0 3 rfl)) rfl ?_
  refine J.o_op rfl (Yd.bstr Try.underlying22 Try.underlying5 Try.underlying9 rfl (Rd.ext hx e0)) rfl ?_
  refine J.o_nil ?_
  refine J.s_op rfl (fun _ => Yd.sne rfl rfl) rfl ?_
  refine J.s_nil ?_
  refine J.n_np ?_
  refine J.n_then ?_
  refine J.know (t := 81) (v' := .bool false) rfl (ff (by rw [Int.toNat_natCast]; exact fun h => h hle)) ?_
  refine J.cond_false rfl ?_
  refine J.skip ?_
  refine J.n_then ?_
  refine J.seq ?_
  refine J.region ?_
  refine J.op (Yd.assign rfl) rfl ?_
  refine J.nil ?_
  refine J.n_then ?_
  refine J.ret ?_
  refine J.r_then ?_
  exact J.ret1 rfl rfl (⟨_, rfl, rfl, e0⟩)

theorem Add1_other {b : Nat} {s : Value} {vs : List Value} {ll : List (List UInt8)} {id size len : Int} {rs : List (Option Nat)} {l : List UInt8} {k : Nat} {xv : Value} {w : World} (hB : BxN id size len ll.length) (hc : Cel w b 72 [(0, 1, [I id]), (1, 1, [I size]), (2, 1, [I len]), (3, 1, [s])]) (he : Els rs w vs ll) (hr : Rd w s vs) (hx : Bs w xv l) (hk : k < ll.length) (hdl : (l.length : Int) = if len - (k : Int) * size < size then len - (k : Int) * size else size) (hl0 : ¬ ll.getD k [] = []) (hle : ¬ ll.getD k [] = l) : C Try.prog 11 [.pointer (some ⟨b, 0, none⟩), .agg (pcS.c ((id, (k : Int), (ll.length : Int), xv) : Pc)).toArray] w (Ret fun v w' => v = I 2 ∧ Ext w w') := by
  have hrl := he.rl hr
  have hn1 := hB.n1
  have hvl := he.len
  have hsz := hB.hsz
  have hln := hB.hln
  have hpk := hB.pos hk
  have e0 := Ext.refl w
  refine C.enter Try.func11 rfl Try.ntmps11 rfl ?_
  refine J.seq ?_
  refine J.region ?_
  refine J.eff (Ye.box (S := [(0, 1, [I id]), (1, 1, [I (k : Int)]), (2, 1, [I (ll.length : Int)]), (3, 1, [xv])]) rfl (by simp [SegAll, SegOK, Value.cells, pcS])) rfl ?_
  rintro _ w1 ⟨b3_0, rfl, hb_, c3_0, x1⟩
  have fr_b3_0 : Fr w.heap.size (some b3_0) := Fr.le (Fr.blk hb_) e0.size
  have e0 := e0.trans x1
  clear x1 hb_
  refine J.op (Yd.assign rfl) rfl ?_
  refine J.nil ?_
  refine J.n_then ?_
  refine J.seq ?_
  refine J.block ?_
  refine J.seq ?_
  refine J.region ?_
  refine J.op (Yd.move rfl) rfl ?_
  refine J.op (Yd.cast (Yd.eqPn Try.underlying32 rfl rfl) (show _ = Value.bool false from rfl)) rfl ?_
  refine J.op (Yd.assign rfl) rfl ?_
  refine J.nil ?_
  refine J.n_then ?_
  refine J.cond_false rfl ?_
  refine J.seq ?_
  refine J.regionO [(0, true), (2, true), (3, true), (4, true)] [(1, 1), (5, 1), (6, 1), (7, 1), (8, 1), (9, 1), (10, 1), (11, 1), (12, 1), (13, 1), (14, 1), (15, 1), (16, 1), (17, 1), (18, 1), (19, 1), (20, 1), (21, 1), (22, 1), (23, 1), (24, 1), (25, 1), (26, 0), (27, 1), (28, 1), (29, 1), (30, 1), (31, 1), (32, 1), (33, 1), (34, 1), (35, 1), (36, 1), (37, 1), (38, 1), (39, 1), (40, 1), (41, 1), (42, 1), (43, 1), (44, 1), (45, 1), (46, 1), (47, 1), (48, 1), (49, 1)] [(50, true), (51, true), (52, true)] mix (by kernel_rfl) ?_
  refine J.s_op rfl (fun _ => Yd.cast (Yd.fieldA Try.underlying29 rfl ti3 rfl rfl) (show _ = Value.pointer (some ⟨b3_0, 0, none⟩) from rfl)) rfl ?_
  refine J.s_op rfl (fun _ => Yd.move rfl) rfl ?_
  refine J.s_op rfl (fun _ => Yd.nilCheck rfl) rfl ?_
  refine J.s_op rfl (fun _ => Yd.cast (Yd.fieldA Try.underlying72 rfl ti3 rfl rfl) (show _ = Value.pointer (some ⟨b, 0, none⟩) from rfl)) rfl ?_
  refine J.s_nil ?_
  refine J.o_op rfl (Yd.load pl3 rfl (Cel.cell1 c3_0 0 rfl)) rfl ?_
  refine J.o_op rfl (Yd.load pl3 rfl (Cel.cell1 (Cel.ext hc e0) 0 rfl)) rfl ?_
  refine J.o_op rfl (Yd.neq rfl rfl) rfl ?_
  refine J.o_op rfl (Yd.move rfl) rfl ?_
  refine J.know (t := 16) (v' := .bool false) rfl (ff (by exact fun h => h rfl)) ?_
  refine J.o_op_g rfl rfl rfl rfl (Yd.cast (Yd.fieldA Try.underlying29 rfl ti3 rfl rfl) (show _ = Value.pointer (some ⟨b3_0, 2, none⟩) from rfl)) rfl ?_
  refine J.o_op_g rfl rfl rfl rfl (Yd.load pl3 rfl (Cel.cell1 c3_0 2 rfl)) rfl ?_
  refine J.o_op_g rfl rfl rfl rfl (Yd.move rfl) rfl ?_
  refine J.o_op_g rfl rfl rfl rfl (Yd.nilCheck rfl) rfl ?_
  refine J.o_op_g rfl rfl rfl rfl (Yd.cast (Yd.fieldA Try.underlying72 rfl ti70 rfl rfl) (show _ = Value.pointer (some ⟨b, 3, none⟩) from rfl)) rfl ?_
  refine J.o_op_g rfl rfl rfl rfl (Yd.load pl70 rfl (Cel.cell1 (Cel.ext hc e0) 3 rfl)) rfl ?_
  refine J.o_op_g rfl rfl rfl rfl (Yd.len_l Try.underlying70 rfl (Rl.ext hrl e0)) rfl ?_
  refine J.o_op_g rfl rfl rfl rfl (Yd.neq rfl rfl) rfl ?_
  refine J.o_op rfl (Yd.pick_f rfl rfl) rfl ?_
  refine J.o_op rfl (Yd.move rfl) rfl ?_
  refine J.know (t := 26) (v' := .bool false) rfl (ff (by exact fun h => h rfl)) ?_
  refine J.o_op_g rfl rfl rfl rfl (Yd.cast (Yd.fieldA Try.underlying29 rfl ti3 rfl rfl) (show _ = Value.pointer (some ⟨b3_0, 1, none⟩) from rfl)) rfl ?_
  refine J.o_op_g rfl rfl rfl rfl (Yd.load pl3 rfl (Cel.cell1 c3_0 1 rfl)) rfl ?_
  refine J.o_op_g rfl rfl rfl rfl (Yd.move rfl) rfl ?_
  refine J.o_op_g rfl rfl rfl rfl (Yd.nilCheck rfl) rfl ?_
  refine J.o_op_g rfl rfl rfl rfl (Yd.cast (Yd.fieldA Try.underlying72 rfl ti70 rfl rfl) (show _ = Value.pointer (some ⟨b, 3, none⟩) from rfl)) rfl ?_
  refine J.o_op_g rfl rfl rfl rfl (Yd.load pl70 rfl (Cel.cell1 (Cel.ext hc e0) 3 rfl)) rfl ?_
  refine J.o_op_g rfl rfl rfl rfl (Yd.len_l Try.underlying70 rfl (Rl.ext hrl e0)) rfl ?_
  refine J.o_op_g rfl rfl rfl rfl (Yd.sub rfl rfl (by first | omega | exact idx_u8' _ | (simp only [Int.toNat_natCast]; omega) | (simp only [List.length_map, List.length_drop, List.length_take, List.length_append, List.length_replicate]; omega) | (simp <;> omega))) rfl ?_
  refine J.o_eff_g rfl rfl rfl rfl (Ye.call cl27 rfl (Within_ok)) rfl (fun _ _ h => h.2) ?_
  rintro _ w2 ⟨rfl, x1⟩
  have e0 := e0.trans x1
  have c3_0 := c3_0.ext x1
  clear x1
  refine J.o_op_g rfl rfl rfl rfl (Yd.not_dec rfl) rfl ?_
  refine J.o_op rfl (Yd.pick_f rfl rfl) rfl ?_
  refine J.o_op rfl (Yd.move rfl) rfl ?_
  refine J.know (t := 38) (v' := .bool false) rfl (ff (by exact fun h => h (by omega))) ?_
  refine J.o_op_g rfl rfl rfl rfl (Yd.cast (Yd.fieldA Try.underlying29 rfl ti22 rfl rfl) (show _ = Value.pointer (some ⟨b3_0, 3, none⟩) from rfl)) rfl ?_
  refine J.o_op_g rfl rfl rfl rfl (Yd.load pl22 rfl (Cel.cell1 c3_0 3 rfl)) rfl ?_
  refine J.o_op_g rfl rfl rfl rfl (Yd.len_b Try.underlying22 rfl (Rd.ext hx e0)) rfl ?_
  refine J.o_op_g rfl rfl rfl rfl (Yd.move rfl) rfl ?_
  refine J.o_op_g rfl rfl rfl rfl (Yd.nilCheck rfl) rfl ?_
  refine J.o_op_g rfl rfl rfl rfl (Yd.cast (Yd.fieldA Try.underlying72 rfl ti3 rfl rfl) (show _ = Value.pointer (some ⟨b, 1, none⟩) from rfl)) rfl ?_
  refine J.o_op_g rfl rfl rfl rfl (Yd.load pl3 rfl (Cel.cell1 (Cel.ext hc e0) 1 rfl)) rfl ?_
  refine J.o_op_g rfl rfl rfl rfl (Yd.move rfl) rfl ?_
  refine J.o_op_g rfl rfl rfl rfl (Yd.nilCheck rfl) rfl ?_
  refine J.o_op_g rfl rfl rfl rfl (Yd.cast (Yd.fieldA Try.underlying72 rfl ti3 rfl rfl) (show _ = Value.pointer (some ⟨b, 2, none⟩) from rfl)) rfl ?_
  refine J.o_op_g rfl rfl rfl rfl (Yd.load pl3 rfl (Cel.cell1 (Cel.ext hc e0) 2 rfl)) rfl ?_
  refine J.o_op_g rfl rfl rfl rfl (Yd.cast (Yd.fieldA Try.underlying29 rfl ti3 rfl rfl) (show _ = Value.pointer (some ⟨b3_0, 1, none⟩) from rfl)) rfl ?_
  refine J.o_op_g rfl rfl rfl rfl (Yd.load pl3 rfl (Cel.cell1 c3_0 1 rfl)) rfl ?_
  refine J.o_op_g rfl rfl rfl rfl (Yd.move rfl) rfl ?_
  refine J.o_op_g rfl rfl rfl rfl (Yd.nilCheck rfl) rfl ?_
  refine J.o_op_g rfl rfl rfl rfl (Yd.cast (Yd.fieldA Try.underlying72 rfl ti3 rfl rfl) (show _ = Value.pointer (some ⟨b, 1, none⟩) from rfl)) rfl ?_
  refine J.o_op_g rfl rfl rfl rfl (Yd.load pl3 rfl (Cel.cell1 (Cel.ext hc e0) 1 rfl)) rfl ?_
  have hmu := mulB (a := (k : Int)) (b := size) (by omega) hsz
  refine J.o_op_g rfl rfl rfl rfl (Yd.mul rfl rfl (by omega)) rfl ?_
  refine J.o_op_g rfl rfl rfl rfl (Yd.sub rfl rfl (by first | omega | exact idx_u8' _ | (simp only [Int.toNat_natCast]; omega) | (simp only [List.length_map, List.length_drop, List.length_take, List.length_append, List.length_replicate]; omega) | (simp <;> omega))) rfl ?_
  refine J.o_op_g rfl rfl rfl rfl (Yd.mini rfl rfl) rfl ?_
  refine J.o_nil ?_
  refine J.s_op_g rfl rfl rfl rfl (fun _ => Yd.neq rfl rfl) rfl ?_
  refine J.s_op rfl (fun _ => Yd.pick_f rfl rfl) rfl ?_
  refine J.s_op rfl (fun _ => Yd.assign rfl) rfl ?_
  refine J.s_nil ?_
  refine J.n_np ?_
  refine J.n_then ?_
  refine J.know (t := 8) (v' := .bool false) rfl (ff (by exact fun h => h hdl)) ?_
  refine J.cond_false rfl ?_
  refine J.seq ?_
  refine J.regionO [(0, true), (1, true), (2, true), (4, true)] [(3, 1), (5, 1)] [(6, false), (7, false), (8, false), (9, true)] mix (by kernel_rfl) ?_
  refine J.s_op rfl (fun _ => Yd.move rfl) rfl ?_
  refine J.s_op rfl (fun _ => Yd.nilCheck rfl) rfl ?_
  refine J.s_op rfl (fun _ => Yd.cast (Yd.fieldA Try.underlying72 rfl ti70 rfl rfl) (show _ = Value.pointer (some ⟨b, 3, none⟩) from rfl)) rfl ?_
  refine J.s_op rfl (fun _ => Yd.cast (Yd.fieldA Try.underlying29 rfl ti3 rfl rfl) (show _ = Value.pointer (some ⟨b3_0, 1, none⟩) from rfl)) rfl ?_
  refine J.s_nil ?_
  refine J.o_op rfl (Yd.load pl70 rfl (Cel.cell1 (Cel.ext hc e0) 3 rfl)) rfl ?_
  refine J.o_op rfl (Yd.load pl3 rfl (Cel.cell1 c3_0 1 rfl)) rfl ?_
  refine J.o_nil ?_
  refine J.s_one rfl (Yd.idx_l Try.underlying70 ti22 rfl rfl (Rl.ext hrl e0) (by first | omega | exact idx_u8' _ | (simp only [Int.toNat_natCast]; omega) | (simp only [List.length_map, List.length_drop, List.length_take, List.length_append, List.length_replicate]; omega) | (simp <;> omega))) rfl ?_
  refine J.s_one rfl (Yd.load pl22 rfl (Rl.cell (Rl.ext hrl e0) (by first | omega | exact idx_u8' _ | (simp only [Int.toNat_natCast]; omega) | (simp only [List.length_map, List.length_drop, List.length_take, List.length_append, List.length_replicate]; omega) | (simp <;> omega)))) rfl ?_
  refine J.s_one rfl (Yd.eqNil Try.underlying22 rfl rfl (Rl.at' (Rl.ext hrl e0) (by first | omega | exact idx_u8' _ | (simp only [Int.toNat_natCast]; omega) | (simp only [List.length_map, List.length_drop, List.length_take, List.length_append, List.length_replicate]; omega) | (simp <;> omega)))) rfl ?_
  refine J.s_op rfl (fun _ => Yd.assign rfl) rfl ?_
  refine J.s_nil ?_
  refine J.n_np ?_
  refine J.n_then ?_
  refine J.know (t := 61) (v' := .bool false) rfl ((congrArg Value.bool (by rw [Int.toNat_natCast, he.nil hk]; exact decide_eq_false hl0))) ?_
  refine J.cond_false rfl ?_
  refine J.seq ?_
  refine J.regionO [(0, true), (1, true), (2, true), (4, true), (8, true)] [(3, 1), (5, 1), (6, 1), (7, 1), (9, 1)] [(10, false), (11, true)] mix (by kernel_rfl) ?_
  refine J.s_op rfl (fun _ => Yd.move rfl) rfl ?_
  refine J.s_op rfl (fun _ => Yd.nilCheck rfl) rfl ?_
  refine J.s_op rfl (fun _ => Yd.cast (Yd.fieldA Try.underlying72 rfl ti70 rfl rfl) (show _ = Value.pointer (some ⟨b, 3, none⟩) from rfl)) rfl ?_
  refine J.s_op rfl (fun _ => Yd.cast (Yd.fieldA Try.underlying29 rfl ti3 rfl rfl) (show _ = Value.pointer (some ⟨b3_0, 1, none⟩) from rfl)) rfl ?_
  refine J.s_op rfl (fun _ => Yd.cast (Yd.fieldA Try.underlying29 rfl ti22 rfl rfl) (show _ = Value.pointer (some ⟨b3_0, 3, none⟩) from rfl)) rfl ?_
  refine J.s_nil ?_
  refine J.o_op rfl (Yd.load pl70 rfl (Cel.cell1 (Cel.ext hc e0) 3 rfl)) rfl ?_
  refine J.o_op rfl (Yd.load pl3 rfl (Cel.cell1 c3_0 1 rfl)) rfl ?_
  refine J.o_op rfl (Yd.idx_l Try.underlying70 ti22 rfl rfl (Rl.ext hrl e0) (by first | omega | exact idx_u8' _ | (simp only [Int.toNat_natCast]; omega) | (simp only [List.length_map, List.length_drop, List.length_take, List.length_append, List.length_replicate]; omega) | (simp <;> omega))) rfl ?_
  refine J.o_op rfl (Yd.load pl22 rfl (Rl.cell (Rl.ext hrl e0) (by first | omega | exact idx_u8' _ | (simp only [Int.toNat_natCast]; omega) | (simp only [List.length_map, List.length_drop, List.length_take, List.length_append, List.length_replicate]; omega) | (simp <;> omega)))) rfl ?_
  refine J.o_op rfl (Yd.load pl22 rfl (Cel.cell1 c3_0 3 rfl)) rfl ?_
  refine J.o_nil ?_
  refine J.s_eff rfl (Ye.call cl31 rfl (Equal_ok (Rl.at' (Rl.ext hrl e0) (by first | omega | exact idx_u8' _ | (simp only [Int.toNat_natCast]; omega) | (simp only [List.length_map, List.length_drop, List.length_take, List.length_append, List.length_replicate]; omega) | (simp <;> omega))) (Rd.ext hx e0))) rfl ?_
  rintro _ w3 ⟨rfl, x1⟩
  have e0 := e0.trans x1
  have c3_0 := c3_0.ext x1
  clear x1
  refine J.s_op rfl (fun _ => Yd.assign rfl) rfl ?_
  refine J.s_nil ?_
  refine J.n_np ?_
  refine J.n_then ?_
  refine J.know (t := 81) (v' := .bool false) rfl (ff (by rw [Int.toNat_natCast]; exact hle)) ?_
  refine J.cond_false rfl ?_
  refine J.skip ?_
  refine J.n_block ?_
  refine J.n_then ?_
  refine J.seq ?_
  refine J.region ?_
  refine J.op (Yd.assign rfl) rfl ?_
  refine J.nil ?_
  refine J.n_then ?_
  refine J.ret ?_
  exact J.ret1 rfl rfl (⟨_, rfl, rfl, e0⟩)

theorem Add2_other {b : Nat} {s : Value} {vs : List Value} {ll : List (List UInt8)} {id size len : Int} {rs : List (Option Nat)} {l : List UInt8} {k : Nat} {xv : Value} {w : World} (hB : BxN id size len ll.length) (hc : Cel w b 76 [(0, 1, [I id]), (1, 1, [I size]), (2, 1, [I len]), (3, 1, [s])]) (he : Els rs w vs ll) (hr : Rd w s vs) (hx : Bs w xv l) (hk : k < ll.length) (hdl : (l.length : Int) = if len - (k : Int) * size < size then len - (k : Int) * size else size) (hl0 : ¬ ll.getD k [] = []) (hle : ¬ ll.getD k [] = l) : C Try.prog 16 [.pointer (some ⟨b, 0, none⟩), .agg (pcS.c ((id, (k : Int), (ll.length : Int), xv) : Pc)).toArray] w (Ret fun v w' => v = I 2 ∧ Ext w w') := by
  have hrl := he.rl hr
  have hn1 := hB.n1
  have hvl := he.len
  have hsz := hB.hsz
  have hln := hB.hln
  have hpk := hB.pos hk
  have e0 := Ext.refl w
  refine C.enter Try.func16 rfl Try.ntmps16 rfl ?_
  refine J.seq ?_
  refine J.region ?_
  refine J.eff (Ye.box (S := [(0, 1, [I id]), (1, 1, [I (k : Int)]), (2, 1, [I (ll.length : Int)]), (3, 1, [xv])]) rfl (by simp [SegAll, SegOK, Value.cells, pcS])) rfl ?_
  rintro _ w1 ⟨b3_0, rfl, hb_, c3_0, x1⟩
  have fr_b3_0 : Fr w.heap.size (some b3_0) := Fr.le (Fr.blk hb_) e0.size
  have e0 := e0.trans x1
  clear x1 hb_
  refine J.op (Yd.assign rfl) rfl ?_
  refine J.nil ?_
  refine J.n_then ?_
  refine J.seq ?_
  refine J.seq ?_
  refine J.regionO [(0, true), (2, true), (3, true), (4, true)] [(1, 1), (5, 1), (6, 1), (7, 1), (8, 1), (9, 1), (10, 1), (11, 1), (12, 1), (13, 1), (14, 1), (15, 1), (16, 1), (17, 1), (18, 1), (19, 1), (20, 1), (21, 1), (22, 1), (23, 1), (24, 1), (25, 1), (26, 1), (27, 1), (28, 1), (29, 1), (30, 1), (31, 1), (32, 1), (33, 1), (34, 1), (35, 1), (36, 1), (37, 1), (38, 1), (39, 1), (40, 1), (41, 1), (42, 1), (43, 1), (44, 1), (45, 1), (46, 1), (47, 1), (48, 1), (49, 1), (50, 1), (51, 1), (52, 1)] [(53, true), (54, true)] mix (by kernel_rfl) ?_
  refine J.s_op rfl (fun _ => Yd.cast (Yd.fieldA Try.underlying31 rfl ti3 rfl rfl) (show _ = Value.pointer (some ⟨b3_0, 0, none⟩) from rfl)) rfl ?_
  refine J.s_op rfl (fun _ => Yd.move rfl) rfl ?_
  refine J.s_op rfl (fun _ => Yd.nilCheck rfl) rfl ?_
  refine J.s_op rfl (fun _ => Yd.cast (Yd.fieldA Try.underlying76 rfl ti3 rfl rfl) (show _ = Value.pointer (some ⟨b, 0, none⟩) from rfl)) rfl ?_
  refine J.s_nil ?_
  refine J.o_op rfl (Yd.load pl3 rfl (Cel.cell1 c3_0 0 rfl)) rfl ?_
  refine J.o_op rfl (Yd.load pl3 rfl (Cel.cell1 (Cel.ext hc e0) 0 rfl)) rfl ?_
  refine J.o_op rfl (Yd.neq rfl rfl) rfl ?_
  refine J.o_op rfl (Yd.move rfl) rfl ?_
  refine J.know (t := 12) (v' := .bool false) rfl (ff (by exact fun h => h rfl)) ?_
  refine J.o_op_g rfl rfl rfl rfl (Yd.cast (Yd.fieldA Try.underlying31 rfl ti3 rfl rfl) (show _ = Value.pointer (some ⟨b3_0, 2, none⟩) from rfl)) rfl ?_
  refine J.o_op_g rfl rfl rfl rfl (Yd.load pl3 rfl (Cel.cell1 c3_0 2 rfl)) rfl ?_
  refine J.o_op_g rfl rfl rfl rfl (Yd.move rfl) rfl ?_
  refine J.o_op_g rfl rfl rfl rfl (Yd.nilCheck rfl) rfl ?_
  refine J.o_op_g rfl rfl rfl rfl (Yd.cast (Yd.fieldA Try.underlying76 rfl ti70 rfl rfl) (show _ = Value.pointer (some ⟨b, 3, none⟩) from rfl)) rfl ?_
  refine J.o_op_g rfl rfl rfl rfl (Yd.load pl70 rfl (Cel.cell1 (Cel.ext hc e0) 3 rfl)) rfl ?_
  refine J.o_op_g rfl rfl rfl rfl (Yd.len_l Try.underlying70 rfl (Rl.ext hrl e0)) rfl ?_
  refine J.o_op_g rfl rfl rfl rfl (Yd.neq rfl rfl) rfl ?_
  refine J.o_op rfl (Yd.pick_f rfl rfl) rfl ?_
  refine J.o_op rfl (Yd.move rfl) rfl ?_
  refine J.know (t := 22) (v' := .bool false) rfl (ff (by exact fun h => h rfl)) ?_
  refine J.o_op_g rfl rfl rfl rfl (Yd.cast (Yd.fieldA Try.underlying31 rfl ti3 rfl rfl) (show _ = Value.pointer (some ⟨b3_0, 1, none⟩) from rfl)) rfl ?_
  refine J.o_op_g rfl rfl rfl rfl (Yd.load pl3 rfl (Cel.cell1 c3_0 1 rfl)) rfl ?_
  refine J.o_op_g rfl rfl rfl rfl (Yd.lss rfl rfl) rfl ?_
  refine J.o_op rfl (Yd.pick_f rfl rfl) rfl ?_
  refine J.o_op rfl (Yd.move rfl) rfl ?_
  refine J.know (t := 27) (v' := .bool false) rfl (ff (by omega)) ?_
  refine J.o_op_g rfl rfl rfl rfl (Yd.cast (Yd.fieldA Try.underlying31 rfl ti3 rfl rfl) (show _ = Value.pointer (some ⟨b3_0, 1, none⟩) from rfl)) rfl ?_
  refine J.o_op_g rfl rfl rfl rfl (Yd.load pl3 rfl (Cel.cell1 c3_0 1 rfl)) rfl ?_
  refine J.o_op_g rfl rfl rfl rfl (Yd.move rfl) rfl ?_
  refine J.o_op_g rfl rfl rfl rfl (Yd.nilCheck rfl) rfl ?_
  refine J.o_op_g rfl rfl rfl rfl (Yd.cast (Yd.fieldA Try.underlying76 rfl ti70 rfl rfl) (show _ = Value.pointer (some ⟨b, 3, none⟩) from rfl)) rfl ?_
  refine J.o_op_g rfl rfl rfl rfl (Yd.load pl70 rfl (Cel.cell1 (Cel.ext hc e0) 3 rfl)) rfl ?_
  refine J.o_op_g rfl rfl rfl rfl (Yd.len_l Try.underlying70 rfl (Rl.ext hrl e0)) rfl ?_
  refine J.o_op_g rfl rfl rfl rfl (Yd.geq rfl rfl) rfl ?_
  refine J.o_op rfl (Yd.pick_f rfl rfl) rfl ?_
  refine J.o_op rfl (Yd.move rfl) rfl ?_
  refine J.know (t := 37) (v' := .bool false) rfl (ff (by omega)) ?_
  refine J.o_op_g rfl rfl rfl rfl (Yd.cast (Yd.fieldA Try.underlying31 rfl ti22 rfl rfl) (show _ = Value.pointer (some ⟨b3_0, 3, none⟩) from rfl)) rfl ?_
  refine J.o_op_g rfl rfl rfl rfl (Yd.load pl22 rfl (Cel.cell1 c3_0 3 rfl)) rfl ?_
  refine J.o_op_g rfl rfl rfl rfl (Yd.len_b Try.underlying22 rfl (Rd.ext hx e0)) rfl ?_
  refine J.o_op_g rfl rfl rfl rfl (Yd.move rfl) rfl ?_
  refine J.o_op_g rfl rfl rfl rfl (Yd.nilCheck rfl) rfl ?_
  refine J.o_op_g rfl rfl rfl rfl (Yd.cast (Yd.fieldA Try.underlying76 rfl ti3 rfl rfl) (show _ = Value.pointer (some ⟨b, 1, none⟩) from rfl)) rfl ?_
  refine J.o_op_g rfl rfl rfl rfl (Yd.load pl3 rfl (Cel.cell1 (Cel.ext hc e0) 1 rfl)) rfl ?_
  refine J.o_op_g rfl rfl rfl rfl (Yd.move rfl) rfl ?_
  refine J.o_op_g rfl rfl rfl rfl (Yd.nilCheck rfl) rfl ?_
  refine J.o_op_g rfl rfl rfl rfl (Yd.cast (Yd.fieldA Try.underlying76 rfl ti3 rfl rfl) (show _ = Value.pointer (some ⟨b, 2, none⟩) from rfl)) rfl ?_
  refine J.o_op_g rfl rfl rfl rfl (Yd.load pl3 rfl (Cel.cell1 (Cel.ext hc e0) 2 rfl)) rfl ?_
  refine J.o_op_g rfl rfl rfl rfl (Yd.cast (Yd.fieldA Try.underlying31 rfl ti3 rfl rfl) (show _ = Value.pointer (some ⟨b3_0, 1, none⟩) from rfl)) rfl ?_
  refine J.o_op_g rfl rfl rfl rfl (Yd.load pl3 rfl (Cel.cell1 c3_0 1 rfl)) rfl ?_
  refine J.o_op_g rfl rfl rfl rfl (Yd.move rfl) rfl ?_
  refine J.o_op_g rfl rfl rfl rfl (Yd.nilCheck rfl) rfl ?_
  refine J.o_op_g rfl rfl rfl rfl (Yd.cast (Yd.fieldA Try.underlying76 rfl ti3 rfl rfl) (show _ = Value.pointer (some ⟨b, 1, none⟩) from rfl)) rfl ?_
  refine J.o_op_g rfl rfl rfl rfl (Yd.load pl3 rfl (Cel.cell1 (Cel.ext hc e0) 1 rfl)) rfl ?_
  have hmu := mulB (a := (k : Int)) (b := size) (by omega) hsz
  refine J.o_op_g rfl rfl rfl rfl (Yd.mul rfl rfl (by omega)) rfl ?_
  refine J.o_op_g rfl rfl rfl rfl (Yd.sub rfl rfl (by first | omega | exact idx_u8' _ | (simp only [Int.toNat_natCast]; omega) | (simp only [List.length_map, List.length_drop, List.length_take, List.length_append, List.length_replicate]; omega) | (simp <;> omega))) rfl ?_
  refine J.o_op_g rfl rfl rfl rfl (Yd.mini rfl rfl) rfl ?_
  refine J.o_nil ?_
  refine J.s_op_g rfl rfl rfl rfl (fun _ => Yd.neq rfl rfl) rfl ?_
  refine J.s_op rfl (fun _ => Yd.pick_f rfl rfl) rfl ?_
  refine J.s_nil ?_
  refine J.n_np ?_
  refine J.n_then ?_
  refine J.know (t := 59) (v' := .bool false) rfl (ff (by exact fun h => h hdl)) ?_
  refine J.cond_false rfl ?_
  refine J.skip ?_
  refine J.n_then ?_
  refine J.seq ?_
  refine J.seq ?_
  refine J.regionO [(0, true), (1, true), (2, true), (4, true)] [(3, 1), (5, 1)] [(6, false), (7, false), (8, false)] mix (by kernel_rfl) ?_
  refine J.s_op rfl (fun _ => Yd.move rfl) rfl ?_
  refine J.s_op rfl (fun _ => Yd.nilCheck rfl) rfl ?_
  refine J.s_op rfl (fun _ => Yd.cast (Yd.fieldA Try.underlying76 rfl ti70 rfl rfl) (show _ = Value.pointer (some ⟨b, 3, none⟩) from rfl)) rfl ?_
  refine J.s_op rfl (fun _ => Yd.cast (Yd.fieldA Try.underlying31 rfl ti3 rfl rfl) (show _ = Value.pointer (some ⟨b3_0, 1, none⟩) from rfl)) rfl ?_
  refine J.s_nil ?_
  refine J.o_op rfl (Yd.load pl70 rfl (Cel.cell1 (Cel.ext hc e0) 3 rfl)) rfl ?_
  refine J.o_op rfl (Yd.load pl3 rfl (Cel.cell1 c3_0 1 rfl)) rfl ?_
  refine J.o_nil ?_
  refine J.s_one rfl (Yd.idx_l Try.underlying70 ti22 rfl rfl (Rl.ext hrl e0) (by first | omega | exact idx_u8' _ | (simp only [Int.toNat_natCast]; omega) | (simp only [List.length_map, List.length_drop, List.length_take, List.length_append, List.length_replicate]; omega) | (simp <;> omega))) rfl ?_
  refine J.s_one rfl (Yd.load pl22 rfl (Rl.cell (Rl.ext hrl e0) (by first | omega | exact idx_u8' _ | (simp only [Int.toNat_natCast]; omega) | (simp only [List.length_map, List.length_drop, List.length_take, List.length_append, List.length_replicate]; omega) | (simp <;> omega)))) rfl ?_
  refine J.s_one rfl (Yd.neNil Try.underlying22 rfl rfl (Rl.at' (Rl.ext hrl e0) (by first | omega | exact idx_u8' _ | (simp only [Int.toNat_natCast]; omega) | (simp only [List.length_map, List.length_drop, List.length_take, List.length_append, List.length_replicate]; omega) | (simp <;> omega)))) rfl ?_
  refine J.s_nil ?_
  refine J.n_np ?_
  refine J.n_then ?_
  refine J.know (t := 68) (v' := .bool true) rfl ((congrArg Value.bool (by rw [Int.toNat_natCast, he.nil hk, decide_eq_false hl0]; rfl))) ?_
  refine J.cond_true rfl ?_
  refine J.seq ?_
  refine J.seq ?_
  refine J.regionO [(0, true), (1, true), (2, true), (4, true), (9, true)] [(3, 1), (5, 1), (6, 1), (7, 1), (8, 1), (10, 1), (11, 1)] [(12, true)] mix (by kernel_rfl) ?_
  refine J.s_op rfl (fun _ => Yd.move rfl) rfl ?_
  refine J.s_op rfl (fun _ => Yd.nilCheck rfl) rfl ?_
  refine J.s_op rfl (fun _ => Yd.cast (Yd.fieldA Try.underlying76 rfl ti70 rfl rfl) (show _ = Value.pointer (some ⟨b, 3, none⟩) from rfl)) rfl ?_
  refine J.s_op rfl (fun _ => Yd.cast (Yd.fieldA Try.underlying31 rfl ti3 rfl rfl) (show _ = Value.pointer (some ⟨b3_0, 1, none⟩) from rfl)) rfl ?_
  refine J.s_op rfl (fun _ => Yd.cast (Yd.fieldA Try.underlying31 rfl ti22 rfl rfl) (show _ = Value.pointer (some ⟨b3_0, 3, none⟩) from rfl)) rfl ?_
  refine J.s_nil ?_
  refine J.o_op rfl (Yd.load pl70 rfl (Cel.cell1 (Cel.ext hc e0) 3 rfl)) rfl ?_
  refine J.o_op rfl (Yd.load pl3 rfl (Cel.cell1 c3_0 1 rfl)) rfl ?_
  refine J.o_op rfl (Yd.idx_l Try.underlying70 ti22 rfl rfl (Rl.ext hrl e0) (by first | omega | exact idx_u8' _ | (simp only [Int.toNat_natCast]; omega) | (simp only [List.length_map, List.length_drop, List.length_take, List.length_append, List.length_replicate]; omega) | (simp <;> omega))) rfl ?_
  refine J.o_op rfl (Yd.load pl22 rfl (Rl.cell (Rl.ext hrl e0) (by first | omega | exact idx_u8' _ | (simp only [Int.toNat_natCast]; omega) | (simp only [List.length_map, List.length_drop, List.length_take, List.length_append, List.length_replicate]; omega) | (simp <;> omega)))) rfl ?_
  refine J.o_op rfl (Yd.bstr Try.underlying22 Try.underlying5 Try.underlying9 rfl (Rl.at' (Rl.ext hrl e0) (by first | omega | exact idx_u8' _ | (simp only [Int.toNat_natCast]; omega) | (simp only [List.length_map, List.length_drop, List.length_take, List.length_append, List.length_replicate]; omega) | (simp <;> omega)))) rfl ?_
  refine J.o_op rfl (Yd.load pl22 rfl (Cel.cell1 c3_0 3 rfl)) rfl ?_
  refine J.o_op rfl (Yd.bstr Try.underlying22 Try.underlying5 Try.underlying9 rfl (Rd.ext hx e0)) rfl ?_
  refine J.o_nil ?_
  refine J.s_op rfl (fun _ => Yd.sne rfl rfl) rfl ?_
  refine J.s_nil ?_
  refine J.n_np ?_
  refine J.n_then ?_
  refine J.know (t := 81) (v' := .bool true) rfl (tt (by rw [Int.toNat_natCast]; exact hle)) ?_
  refine J.cond_true rfl ?_
  refine J.seq ?_
  refine J.region ?_
  refine J.op (Yd.assign rfl) rfl ?_
  refine J.nil ?_
  refine J.n_then ?_
  refine J.ret ?_
  refine J.r_then ?_
  refine J.r_then ?_
  exact J.ret1 rfl rfl (⟨_, rfl, rfl, e0⟩)
end Ytghklimejpmpnaa
end Go.Proofs
