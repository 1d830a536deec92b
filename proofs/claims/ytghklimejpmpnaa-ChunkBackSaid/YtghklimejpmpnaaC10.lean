import Derived.Test.YtghklimejpmpnaaT
import Derived.Test.YtghklimejpmpnaaC9
set_option linter.unusedVariables false
set_option linter.unusedSimpArgs false
set_option maxRecDepth 100000
set_option maxHeartbeats 4000000
namespace Go.Proofs
open Go.X Go.RowKit
namespace Ytghklimejpmpnaa
theorem Add1_new {b : Nat} {s : Value} {vs : List Value} {ll : List (List UInt8)} {id size len : Int} {rs : List (Option Nat)} {l : List UInt8} {k : Nat} {xv : Value} {w : World} (hB : BxN id size len ll.length) (hc : Cel w b 72 [(0, 1, [I id]), (1, 1, [I size]), (2, 1, [I len]), (3, 1, [s])]) (he : Els rs w vs ll) (ho : Ow 0 22 w s vs) (hap : Ap (some b) s.ownBlock) (hx : ∀ w', Tn [s.ownBlock] w w' → Bs w' xv l) (hk : k < ll.length) (hdl : (l.length : Int) = if len - (k : Int) * size < size then len - (k : Int) * size else size) (hl0 : ll.getD k [] = []) : C Try.prog 11 [.pointer (some ⟨b, 0, none⟩), .agg (pcS.c ((id, (k : Int), (ll.length : Int), xv) : Pc)).toArray] w (Ret fun u w' => u = I 0 ∧ ∃ v', Ow 0 22 w' s (vs.set (k : Int).toNat v') ∧ Ob w.heap.size 5 w' v' l ∧ Tn [s.ownBlock] w w') := by
  have hr := Ow.rd ho
  have hrl := he.rl hr
  have hn1 := hB.n1
  have hvl := he.len
  have hsz := hB.hsz
  have hln := hB.hln
  have hpk := hB.pos hk
  have e0 := Tn.refl [s.ownBlock] w
  refine C.enter Try.func11 rfl Try.ntmps11 rfl ?_
  refine J.seq ?_
  refine J.region ?_
  refine J.eff (Ye.box (S := [(0, 1, [I id]), (1, 1, [I (k : Int)]), (2, 1, [I (ll.length : Int)]), (3, 1, [xv])]) rfl (by simp [SegAll, SegOK, Value.cells, pcS])) rfl ?_
  rintro _ w1 ⟨b3_0, rfl, hb_, c3_0, x1⟩
  have ap_s_b3_0 : Ap s.ownBlock (some b3_0) := Ap.mk (Ow.live ho) (Fr.blk hb_)
  have ap_b_b3_0 : Ap (some b) (some b3_0) := Ap.mk (Cel.live hc) (Fr.blk hb_)
  have fr_b3_0 : Fr w.heap.size (some b3_0) := Fr.le (Fr.blk hb_) e0.size
  have e0 := Tn.ext e0 x1
  have ho := ho.ext x1
  have hrl := hrl.ext x1
  have hc := hc.ext x1
  clear x1 hb_
  refine J.op (Yd.assign rfl) rfl ?_
  refine J.nil ?_
  refine J.n_then ?_
  refine J.seq ?_
  refine J.block ?_
  refine J.seq ?_
  refine J.region ?_
  refine J.op (Yd.move rfl) rfl ?_
  refine J.op (Yd.cast (Yd.eqPn Try.underlying32 rfl rfl) (show _ = Value.bool false from rfl)) rfl ?_
  refine J.op (Yd.assign rfl) rfl ?_
  refine J.nil ?_
  refine J.n_then ?_
  refine J.cond_false rfl ?_
  refine J.seq ?_
  refine J.regionO [(0, true), (2, true), (3, true), (4, true)] [(1, 1), (5, 1), (6, 1), (7, 1), (8, 1), (9, 1), (10, 1), (11, 1), (12, 1), (13, 1), (14, 1), (15, 1), (16, 1), (17, 1), (18, 1), (19, 1), (20, 1), (21, 1), (22, 1), (23, 1), (24, 1), (25, 1), (26, 0), (27, 1), (28, 1), (29, 1), (30, 1), (31, 1), (32, 1), (33, 1), (34, 1), (35, 1), (36, 1), (37, 1), (38, 1), (39, 1), (40, 1), (41, 1), (42, 1), (43, 1), (44, 1), (45, 1), (46, 1), (47, 1), (48, 1), (49, 1)] [(50, true), (51, true), (52, true)] mix (by kernel_rfl) ?_
  refine J.s_op rfl (fun _ => Yd.cast (Yd.fieldA Try.underlying29 rfl ti3 rfl rfl) (show _ = Value.pointer (some ⟨b3_0, 0, none⟩) from rfl)) rfl ?_
  refine J.s_op rfl (fun _ => Yd.move rfl) rfl ?_
  refine J.s_op rfl (fun _ => Yd.nilCheck rfl) rfl ?_
  refine J.s_op rfl (fun _ => Yd.cast (Yd.fieldA Try.underlying72 rfl ti3 rfl rfl) (show _ = Value.pointer (some ⟨b, 0, none⟩) from rfl)) rfl ?_
  refine J.s_nil ?_
  refine J.o_op rfl (Yd.load pl3 rfl (Cel.cell1 c3_0 0 rfl)) rfl ?_
  refine J.o_op rfl (Yd.load pl3 rfl (Cel.cell1 hc 0 rfl)) rfl ?_
  refine J.o_op rfl (Yd.neq rfl rfl) rfl ?_
  refine J.o_op rfl (Yd.move rfl) rfl ?_
  refine J.know (t := 16) (v' := .bool false) rfl (ff (by exact fun h => h rfl)) ?_
  refine J.o_op_g rfl rfl rfl rfl (Yd.cast (Yd.fieldA Try.underlying29 rfl ti3 rfl rfl) (show _ = Value.pointer (some ⟨b3_0, 2, none⟩) from rfl)) rfl ?_
  refine J.o_op_g rfl rfl rfl rfl (Yd.load pl3 rfl (Cel.cell1 c3_0 2 rfl)) rfl ?_
  refine J.o_op_g rfl rfl rfl rfl (Yd.move rfl) rfl ?_
  refine J.o_op_g rfl rfl rfl rfl (Yd.nilCheck rfl) rfl ?_
  refine J.o_op_g rfl rfl rfl rfl (Yd.cast (Yd.fieldA Try.underlying72 rfl ti70 rfl rfl) (show _ = Value.pointer (some ⟨b, 3, none⟩) from rfl)) rfl ?_
  refine J.o_op_g rfl rfl rfl rfl (Yd.load pl70 rfl (Cel.cell1 hc 3 rfl)) rfl ?_
  refine J.o_op_g rfl rfl rfl rfl (Yd.len_l Try.underlying70 rfl hrl) rfl ?_
  refine J.o_op_g rfl rfl rfl rfl (Yd.neq rfl rfl) rfl ?_
  refine J.o_op rfl (Yd.pick_f rfl rfl) rfl ?_
  refine J.o_op rfl (Yd.move rfl) rfl ?_
  refine J.know (t := 26) (v' := .bool false) rfl (ff (by exact fun h => h rfl)) ?_
  refine J.o_op_g rfl rfl rfl rfl (Yd.cast (Yd.fieldA Try.underlying29 rfl ti3 rfl rfl) (show _ = Value.pointer (some ⟨b3_0, 1, none⟩) from rfl)) rfl ?_
  refine J.o_op_g rfl rfl rfl rfl (Yd.load pl3 rfl (Cel.cell1 c3_0 1 rfl)) rfl ?_
  refine J.o_op_g rfl rfl rfl rfl (Yd.move rfl) rfl ?_
  refine J.o_op_g rfl rfl rfl rfl (Yd.nilCheck rfl) rfl ?_
  refine J.o_op_g rfl rfl rfl rfl (Yd.cast (Yd.fieldA Try.underlying72 rfl ti70 rfl rfl) (show _ = Value.pointer (some ⟨b, 3, none⟩) from rfl)) rfl ?_
  refine J.o_op_g rfl rfl rfl rfl (Yd.load pl70 rfl (Cel.cell1 hc 3 rfl)) rfl ?_
  refine J.o_op_g rfl rfl rfl rfl (Yd.len_l Try.underlying70 rfl hrl) rfl ?_
  refine J.o_op_g rfl rfl rfl rfl (Yd.sub rfl rfl (by first | omega | exact idx_u8' _ | (simp only [Int.toNat_natCast]; omega) | (simp only [List.length_map, List.length_drop, List.length_take, List.length_append, List.length_replicate]; omega) | (simp <;> omega))) rfl ?_
  refine J.o_eff_g rfl rfl rfl rfl (Ye.call cl27 rfl (Within_ok)) rfl (fun _ _ h => h.2) ?_
  rintro _ w2 ⟨rfl, x1⟩
  have e0 := Tn.ext e0 x1
  have ho := ho.ext x1
  have hrl := hrl.ext x1
  have hc := hc.ext x1
  have c3_0 := c3_0.ext x1
  clear x1
  refine J.o_op_g rfl rfl rfl rfl (Yd.not_dec rfl) rfl ?_
  refine J.o_op rfl (Yd.pick_f rfl rfl) rfl ?_
  refine J.o_op rfl (Yd.move rfl) rfl ?_
  refine J.know (t := 38) (v' := .bool false) rfl (ff (by exact fun h => h (by omega))) ?_
  refine J.o_op_g rfl rfl rfl rfl (Yd.cast (Yd.fieldA Try.underlying29 rfl ti22 rfl rfl) (show _ = Value.pointer (some ⟨b3_0, 3, none⟩) from rfl)) rfl ?_
  refine J.o_op_g rfl rfl rfl rfl (Yd.load pl22 rfl (Cel.cell1 c3_0 3 rfl)) rfl ?_
  refine J.o_op_g rfl rfl rfl rfl (Yd.len_b Try.underlying22 rfl (hx _ e0)) rfl ?_
  refine J.o_op_g rfl rfl rfl rfl (Yd.move rfl) rfl ?_
  refine J.o_op_g rfl rfl rfl rfl (Yd.nilCheck rfl) rfl ?_
  refine J.o_op_g rfl rfl rfl rfl (Yd.cast (Yd.fieldA Try.underlying72 rfl ti3 rfl rfl) (show _ = Value.pointer (some ⟨b, 1, none⟩) from rfl)) rfl ?_
  refine J.o_op_g rfl rfl rfl rfl (Yd.load pl3 rfl (Cel.cell1 hc 1 rfl)) rfl ?_
  refine J.o_op_g rfl rfl rfl rfl (Yd.move rfl) rfl ?_
  refine J.o_op_g rfl rfl rfl rfl (Yd.nilCheck rfl) rfl ?_
  refine J.o_op_g rfl rfl rfl rfl (Yd.cast (Yd.fieldA Try.underlying72 rfl ti3 rfl rfl) (show _ = Value.pointer (some ⟨b, 2, none⟩) from rfl)) rfl ?_
  refine J.o_op_g rfl rfl rfl rfl (Yd.load pl3 rfl (Cel.cell1 hc 2 rfl)) rfl ?_
  refine J.o_op_g rfl rfl rfl rfl (Yd.cast (Yd.fieldA Try.underlying29 rfl ti3 rfl rfl) (show _ = Value.pointer (some ⟨b3_0, 1, none⟩) from rfl)) rfl ?_
  refine J.o_op_g rfl rfl rfl rfl (Yd.load pl3 rfl (Cel.cell1 c3_0 1 rfl)) rfl ?_
  refine J.o_op_g rfl rfl rfl rfl (Yd.move rfl) rfl ?_
  refine J.o_op_g rfl rfl rfl rfl (Yd.nilCheck rfl) rfl ?_
  refine J.o_op_g rfl rfl rfl rfl (Yd.cast (Yd.fieldA Try.underlying72 rfl ti3 rfl rfl) (show _ = Value.pointer (some ⟨b, 1, none⟩) from rfl)) rfl ?_
  refine J.o_op_g rfl rfl rfl rfl (Yd.load pl3 rfl (Cel.cell1 hc 1 rfl)) rfl ?_
  have hmu := mulB (a := (k : Int)) (b := size) (by omega) hsz
  refine J.o_op_g rfl rfl rfl rfl (Yd.mul rfl rfl (by omega)) rfl ?_
  refine J.o_op_g rfl rfl rfl rfl (Yd.sub rfl rfl (by first | omega | exact idx_u8' _ | (simp only [Int.toNat_natCast]; omega) | (simp only [List.length_map, List.length_drop, List.length_take, List.length_append, List.length_replicate]; omega) | (simp <;> omega))) rfl ?_
  refine J.o_op_g rfl rfl rfl rfl (Yd.mini rfl rfl) rfl ?_
  refine J.o_nil ?_
  refine J.s_op_g rfl rfl rfl rfl (fun _ => Yd.neq rfl rfl) rfl ?_
  refine J.s_op rfl (fun _ => Yd.pick_f rfl rfl) rfl ?_
  refine J.s_op rfl (fun _ => Yd.assign rfl) rfl ?_
  refine J.s_nil ?_
  refine J.n_np ?_
  refine J.n_then ?_
  refine J.know (t := 8) (v' := .bool false) rfl (ff (by exact fun h => h hdl)) ?_
  refine J.cond_false rfl ?_
  refine J.seq ?_
  refine J.regionO [(0, true), (1, true), (2, true), (4, true)] [(3, 1), (5, 1)] [(6, false), (7, false), (8, false), (9, true)] mix (by kernel_rfl) ?_
  refine J.s_op rfl (fun _ => Yd.move rfl) rfl ?_
  refine J.s_op rfl (fun _ => Yd.nilCheck rfl) rfl ?_
  refine J.s_op rfl (fun _ => Yd.cast (Yd.fieldA Try.underlying72 rfl ti70 rfl rfl) (show _ = Value.pointer (some ⟨b, 3, none⟩) from rfl)) rfl ?_
  refine J.s_op rfl (fun _ => Yd.cast (Yd.fieldA Try.underlying29 rfl ti3 rfl rfl) (show _ = Value.pointer (some ⟨b3_0, 1, none⟩) from rfl)) rfl ?_
  refine J.s_nil ?_
  refine J.o_op rfl (Yd.load pl70 rfl (Cel.cell1 hc 3 rfl)) rfl ?_
  refine J.o_op rfl (Yd.load pl3 rfl (Cel.cell1 c3_0 1 rfl)) rfl ?_
  refine J.o_nil ?_
  refine J.s_one rfl (Yd.idx_l Try.underlying70 ti22 rfl rfl hrl (by first | omega | exact idx_u8' _ | (simp only [Int.toNat_natCast]; omega) | (simp only [List.length_map, List.length_drop, List.length_take, List.length_append, List.length_replicate]; omega) | (simp <;> omega))) rfl ?_
  refine J.s_one rfl (Yd.load pl22 rfl (Rl.cell hrl (by first | omega | exact idx_u8' _ | (simp only [Int.toNat_natCast]; omega) | (simp only [List.length_map, List.length_drop, List.length_take, List.length_append, List.length_replicate]; omega) | (simp <;> omega)))) rfl ?_
  refine J.s_one rfl (Yd.eqNil Try.underlying22 rfl rfl (Rl.at' hrl (by first | omega | exact idx_u8' _ | (simp only [Int.toNat_natCast]; omega) | (simp only [List.length_map, List.length_drop, List.length_take, List.length_append, List.length_replicate]; omega) | (simp <;> omega)))) rfl ?_
  refine J.s_op rfl (fun _ => Yd.assign rfl) rfl ?_
  refine J.s_nil ?_
  refine J.n_np ?_
  refine J.n_then ?_
  refine J.know (t := 61) (v' := .bool true) rfl ((congrArg Value.bool (by rw [Int.toNat_natCast, he.nil hk]; exact decide_eq_true hl0))) ?_
  refine J.cond_true rfl ?_
  refine J.seq ?_
  refine J.regionO [(0, true), (1, true), (2, true), (4, true), (6, true)] [(3, 1), (5, 1), (7, 1), (8, 0)] [(9, false), (10, false)] mix (by kernel_rfl) ?_
  refine J.s_op rfl (fun _ => Yd.move rfl) rfl ?_
  refine J.s_op rfl (fun _ => Yd.nilCheck rfl) rfl ?_
  refine J.s_op rfl (fun _ => Yd.cast (Yd.fieldA Try.underlying72 rfl ti70 rfl rfl) (show _ = Value.pointer (some ⟨b, 3, none⟩) from rfl)) rfl ?_
  refine J.s_op rfl (fun _ => Yd.cast (Yd.fieldA Try.underlying29 rfl ti3 rfl rfl) (show _ = Value.pointer (some ⟨b3_0, 1, none⟩) from rfl)) rfl ?_
  refine J.s_op rfl (fun _ => Yd.cast (Yd.fieldA Try.underlying29 rfl ti22 rfl rfl) (show _ = Value.pointer (some ⟨b3_0, 3, none⟩) from rfl)) rfl ?_
  refine J.s_nil ?_
  refine J.o_op rfl (Yd.load pl70 rfl (Cel.cell1 hc 3 rfl)) rfl ?_
  refine J.o_op rfl (Yd.load pl3 rfl (Cel.cell1 c3_0 1 rfl)) rfl ?_
  refine J.o_op rfl (Yd.load pl22 rfl (Cel.cell1 c3_0 3 rfl)) rfl ?_
  refine J.o_eff rfl (Ye.call cl29 rfl (Clone_ok (hx _ e0) (by omega))) rfl (fun _ _ h => h.2) ?_
  rintro s79_3 w3 ⟨os79_3, x1⟩
  have ap_s_s79_3 : Ap s.ownBlock s79_3.ownBlock := Ap.mk (Ow.live ho) (Ow.fr os79_3)
  have ap_b_s79_3 : Ap (some b) s79_3.ownBlock := Ap.mk (Cel.live hc) (Ow.fr os79_3)
  have ap_b3_0_s79_3 : Ap (some b3_0) s79_3.ownBlock := Ap.mk (Cel.live c3_0) (Ow.fr os79_3)
  have fr_s79_3 : Fr w.heap.size s79_3.ownBlock := Fr.le (Ow.fr os79_3) e0.size
  replace os79_3 := Ow.base os79_3 e0.size
  have e0 := Tn.ext e0 x1
  have ho := ho.ext x1
  have hrl := hrl.ext x1
  have hc := hc.ext x1
  have c3_0 := c3_0.ext x1
  clear x1
  refine J.o_nil ?_
  refine J.s_one rfl (Yd.idx_l Try.underlying70 ti22 rfl rfl hrl (by first | omega | exact idx_u8' _ | (simp only [Int.toNat_natCast]; omega) | (simp only [List.length_map, List.length_drop, List.length_take, List.length_append, List.length_replicate]; omega) | (simp <;> omega))) rfl ?_
  refine J.s_eff0 rfl (Ye.storeOw ti22 rfl rfl ho (by rw [Int.toNat_natCast, he.len]; exact hk) (Rd.cells (Ow.rd os79_3)) (Rd.one (Ow.rd os79_3))) ?_
  rintro _ w4 ⟨ho2, hg⟩
  have hc := Cel.gbk hc hg hap
  have c3_0 := Cel.gbk c3_0 hg (Ap.symm ap_s_b3_0)
  have os79_3 := Ow.gbk os79_3 hg (Ap.symm ap_s_s79_3)
  have e0 := Tn.gbk e0 (.inl (by simp)) hg
  clear hg
  replace ho := ho2
  clear ho2
  refine J.s_nil ?_
  refine J.n_np ?_
  refine J.n_then ?_
  refine J.seq ?_
  refine J.region ?_
  refine J.op (Yd.assign rfl) rfl ?_
  refine J.nil ?_
  refine J.n_then ?_
  refine J.ret ?_
  refine J.r_block ?_
  refine J.r_then ?_
  exact J.ret1 rfl rfl (⟨_, rfl, rfl, s79_3, ho, os79_3, e0⟩)

theorem Add2_new {b : Nat} {s : Value} {vs : List Value} {ll : List (List UInt8)} {id size len : Int} {rs : List (Option Nat)} {l : List UInt8} {k : Nat} {xv : Value} {w : World} (hB : BxN id size len ll.length) (hc : Cel w b 76 [(0, 1, [I id]), (1, 1, [I size]), (2, 1, [I len]), (3, 1, [s])]) (hee : ∀ w', Tn [some b] w w' → Els rs w' vs ll) (hr : ∀ w', Tn [some b] w w' → Rd w' s vs) (hx : ∀ w', Tn [some b] w w' → Bs w' xv l) (hk : k < ll.length) (hdl : (l.length : Int) = if len - (k : Int) * size < size then len - (k : Int) * size else size) (hl0 : ll.getD k [] = []) : C Try.prog 16 [.pointer (some ⟨b, 0, none⟩), .agg (pcS.c ((id, (k : Int), (ll.length : Int), xv) : Pc)).toArray] w (Ret fun u w' => u = I 0 ∧ ∃ s' v', Cel w' b 76 [(0, 1, [I id]), (1, 1, [I size]), (2, 1, [I len]), (3, 1, [s'])] ∧ Ow w.heap.size 22 w' s' (vs.set (k : Int).toNat v') ∧ Ob w.heap.size 5 w' v' l ∧ Fr w.heap.size s'.ownBlock ∧ Ap (some b) s'.ownBlock ∧ Ap (some b) v'.ownBlock ∧ Ap v'.ownBlock s'.ownBlock ∧ Tn [some b] w w') := by
  have hrl := fun w' h => (hee w' h).rl (hr w' h)
  have he := hee _ (Tn.refl _ _)
  have hn1 := hB.n1
  have hvl := he.len
  have hsz := hB.hsz
  have hln := hB.hln
  have hpk := hB.pos hk
  have e0 := Tn.refl [(some b)] w
  refine C.enter Try.func16 rfl Try.ntmps16 rfl ?_
  refine J.seq ?_
  refine J.region ?_
  refine J.eff (Ye.box (S := [(0, 1, [I id]), (1, 1, [I (k : Int)]), (2, 1, [I (ll.length : Int)]), (3, 1, [xv])]) rfl (by simp [SegAll, SegOK, Value.cells, pcS])) rfl ?_
  rintro _ w1 ⟨b3_0, rfl, hb_, c3_0, x1⟩
  have ap_b_b3_0 : Ap (some b) (some b3_0) := Ap.mk (Cel.live hc) (Fr.blk hb_)
  have fr_b3_0 : Fr w.heap.size (some b3_0) := Fr.le (Fr.blk hb_) e0.size
  have e0 := Tn.ext e0 x1
  have hc := hc.ext x1
  clear x1 hb_
  refine J.op (Yd.assign rfl) rfl ?_
  refine J.nil ?_
  refine J.n_then ?_
  refine J.seq ?_
  refine J.seq ?_
  refine J.regionO [(0, true), (2, true), (3, true), (4, true)] [(1, 1), (5, 1), (6, 1), (7, 1), (8, 1), (9, 1), (10, 1), (11, 1), (12, 1), (13, 1), (14, 1), (15, 1), (16, 1), (17, 1), (18, 1), (19, 1), (20, 1), (21, 1), (22, 1), (23, 1), (24, 1), (25, 1), (26, 1), (27, 1), (28, 1), (29, 1), (30, 1), (31, 1), (32, 1), (33, 1), (34, 1), (35, 1), (36, 1), (37, 1), (38, 1), (39, 1), (40, 1), (41, 1), (42, 1), (43, 1), (44, 1), (45, 1), (46, 1), (47, 1), (48, 1), (49, 1), (50, 1), (51, 1), (52, 1)] [(53, true), (54, true)] mix (by kernel_rfl) ?_
  refine J.s_op rfl (fun _ => Yd.cast (Yd.fieldA Try.underlying31 rfl ti3 rfl rfl) (show _ = Value.pointer (some ⟨b3_0, 0, none⟩) from rfl)) rfl ?_
  refine J.s_op rfl (fun _ => Yd.move rfl) rfl ?_
  refine J.s_op rfl (fun _ => Yd.nilCheck rfl) rfl ?_
  refine J.s_op rfl (fun _ => Yd.cast (Yd.fieldA Try.underlying76 rfl ti3 rfl rfl) (show _ = Value.pointer (some ⟨b, 0, none⟩) from rfl)) rfl ?_
  refine J.s_nil ?_
  refine J.o_op rfl (Yd.load pl3 rfl (Cel.cell1 c3_0 0 rfl)) rfl ?_
  refine J.o_op rfl (Yd.load pl3 rfl (Cel.cell1 hc 0 rfl)) rfl ?_
  refine J.o_op rfl (Yd.neq rfl rfl) rfl ?_
  refine J.o_op rfl (Yd.move rfl) rfl ?_
  refine J.know (t := 12) (v' := .bool false) rfl (ff (by exact fun h => h rfl)) ?_
  refine J.o_op_g rfl rfl rfl rfl (Yd.cast (Yd.fieldA Try.underlying31 rfl ti3 rfl rfl) (show _ = Value.pointer (some ⟨b3_0, 2, none⟩) from rfl)) rfl ?_
  refine J.o_op_g rfl rfl rfl rfl (Yd.load pl3 rfl (Cel.cell1 c3_0 2 rfl)) rfl ?_
  refine J.o_op_g rfl rfl rfl rfl (Yd.move rfl) rfl ?_
  refine J.o_op_g rfl rfl rfl rfl (Yd.nilCheck rfl) rfl ?_
  refine J.o_op_g rfl rfl rfl rfl (Yd.cast (Yd.fieldA Try.underlying76 rfl ti70 rfl rfl) (show _ = Value.pointer (some ⟨b, 3, none⟩) from rfl)) rfl ?_
  refine J.o_op_g rfl rfl rfl rfl (Yd.load pl70 rfl (Cel.cell1 hc 3 rfl)) rfl ?_
  refine J.o_op_g rfl rfl rfl rfl (Yd.len_l Try.underlying70 rfl (hrl _ e0)) rfl ?_
  refine J.o_op_g rfl rfl rfl rfl (Yd.neq rfl rfl) rfl ?_
  refine J.o_op rfl (Yd.pick_f rfl rfl) rfl ?_
  refine J.o_op rfl (Yd.move rfl) rfl ?_
  refine J.know (t := 22) (v' := .bool false) rfl (ff (by exact fun h => h rfl)) ?_
  refine J.o_op_g rfl rfl rfl rfl (Yd.cast (Yd.fieldA Try.underlying31 rfl ti3 rfl rfl) (show _ = Value.pointer (some ⟨b3_0, 1, none⟩) from rfl)) rfl ?_
  refine J.o_op_g rfl rfl rfl rfl (Yd.load pl3 rfl (Cel.cell1 c3_0 1 rfl)) rfl ?_
  refine J.o_op_g rfl rfl rfl rfl (Yd.lss rfl rfl) rfl ?_
  refine J.o_op rfl (Yd.pick_f rfl rfl) rfl ?_
  refine J.o_op rfl (Yd.move rfl) rfl ?_
  refine J.know (t := 27) (v' := .bool false) rfl (ff (by omega)) ?_
  refine J.o_op_g rfl rfl rfl rfl (Yd.cast (Yd.fieldA Try.underlying31 rfl ti3 rfl rfl) (show _ = Value.pointer (some ⟨b3_0, 1, none⟩) from rfl)) rfl ?_
  refine J.o_op_g rfl rfl rfl rfl (Yd.load pl3 rfl (Cel.cell1 c3_0 1 rfl)) rfl ?_
  refine J.o_op_g rfl rfl rfl rfl (Yd.move rfl) rfl ?_
  refine J.o_op_g rfl rfl rfl rfl (Yd.nilCheck rfl) rfl ?_
  refine J.o_op_g rfl rfl rfl rfl (Yd.cast (Yd.fieldA Try.underlying76 rfl ti70 rfl rfl) (show _ = Value.pointer (some ⟨b, 3, none⟩) from rfl)) rfl ?_
  refine J.o_op_g rfl rfl rfl rfl (Yd.load pl70 rfl (Cel.cell1 hc 3 rfl)) rfl ?_
  refine J.o_op_g rfl rfl rfl rfl (Yd.len_l Try.underlying70 rfl (hrl _ e0)) rfl ?_
  refine J.o_op_g rfl rfl rfl rfl (Yd.geq rfl rfl) rfl ?_
  refine J.o_op rfl (Yd.pick_f rfl rfl) rfl ?_
  refine J.o_op rfl (Yd.move rfl) rfl ?_
  refine J.know (t := 37) (v' := .bool false) rfl (ff (by omega)) ?_
  refine J.o_op_g rfl rfl rfl rfl (Yd.cast (Yd.fieldA Try.underlying31 rfl ti22 rfl rfl) (show _ = Value.pointer (some ⟨b3_0, 3, none⟩) from rfl)) rfl ?_
  refine J.o_op_g rfl rfl rfl rfl (Yd.load pl22 rfl (Cel.cell1 c3_0 3 rfl)) rfl ?_
  refine J.o_op_g rfl rfl rfl rfl (Yd.len_b Try.underlying22 rfl (hx _ e0)) rfl ?_
  refine J.o_op_g rfl rfl rfl rfl (Yd.move rfl) rfl ?_
  refine J.o_op_g rfl rfl rfl rfl (Yd.nilCheck rfl) rfl ?_
  refine J.o_op_g rfl rfl rfl rfl (Yd.cast (Yd.fieldA Try.underlying76 rfl ti3 rfl rfl) (show _ = Value.pointer (some ⟨b, 1, none⟩) from rfl)) rfl ?_
  refine J.o_op_g rfl rfl rfl rfl (Yd.load pl3 rfl (Cel.cell1 hc 1 rfl)) rfl ?_
  refine J.o_op_g rfl rfl rfl rfl (Yd.move rfl) rfl ?_
  refine J.o_op_g rfl rfl rfl rfl (Yd.nilCheck rfl) rfl ?_
  refine J.o_op_g rfl rfl rfl rfl (Yd.cast (Yd.fieldA Try.underlying76 rfl ti3 rfl rfl) (show _ = Value.pointer (some ⟨b, 2, none⟩) from rfl)) rfl ?_
  refine J.o_op_g rfl rfl rfl rfl (Yd.load pl3 rfl (Cel.cell1 hc 2 rfl)) rfl ?_
  refine J.o_op_g rfl rfl rfl rfl (Yd.cast (Yd.fieldA Try.underlying31 rfl ti3 rfl rfl) (show _ = Value.pointer (some ⟨b3_0, 1, none⟩) from rfl)) rfl ?_
  refine J.o_op_g rfl rfl rfl rfl (Yd.load pl3 rfl (Cel.cell1 c3_0 1 rfl)) rfl ?_
  refine J.o_op_g rfl rfl rfl rfl (Yd.move rfl) rfl ?_
  refine J.o_op_g rfl rfl rfl rfl (Yd.nilCheck rfl) rfl ?_
  refine J.o_op_g rfl rfl rfl rfl (Yd.cast (Yd.fieldA Try.underlying76 rfl ti3 rfl rfl) (show _ = Value.pointer (some ⟨b, 1, none⟩) from rfl)) rfl ?_
  refine J.o_op_g rfl rfl rfl rfl (Yd.load pl3 rfl (Cel.cell1 hc 1 rfl)) rfl ?_
  have hmu := mulB (a := (k : Int)) (b := size) (by omega) hsz
  refine J.o_op_g rfl rfl rfl rfl (Yd.mul rfl rfl (by omega)) rfl ?_
  refine J.o_op_g rfl rfl rfl rfl (Yd.sub rfl rfl (by first | omega | exact idx_u8' _ | (simp only [Int.toNat_natCast]; omega) | (simp only [List.length_map, List.length_drop, List.length_take, List.length_append, List.length_replicate]; omega) | (simp <;> omega))) rfl ?_
  refine J.o_op_g rfl rfl rfl rfl (Yd.mini rfl rfl) rfl ?_
  refine J.o_nil ?_
  refine J.s_op_g rfl rfl rfl rfl (fun _ => Yd.neq rfl rfl) rfl ?_
  refine J.s_op rfl (fun _ => Yd.pick_f rfl rfl) rfl ?_
  refine J.s_nil ?_
  refine J.n_np ?_
  refine J.n_then ?_
  refine J.know (t := 59) (v' := .bool false) rfl (ff (by exact fun h => h hdl)) ?_
  refine J.cond_false rfl ?_
  refine J.skip ?_
  refine J.n_then ?_
  refine J.seq ?_
  refine J.seq ?_
  refine J.regionO [(0, true), (1, true), (2, true), (4, true)] [(3, 1), (5, 1)] [(6, false), (7, false), (8, false)] mix (by kernel_rfl) ?_
  refine J.s_op rfl (fun _ => Yd.move rfl) rfl ?_
  refine J.s_op rfl (fun _ => Yd.nilCheck rfl) rfl ?_
  refine J.s_op rfl (fun _ => Yd.cast (Yd.fieldA Try.underlying76 rfl ti70 rfl rfl) (show _ = Value.pointer (some ⟨b, 3, none⟩) from rfl)) rfl ?_
  refine J.s_op rfl (fun _ => Yd.cast (Yd.fieldA Try.underlying31 rfl ti3 rfl rfl) (show _ = Value.pointer (some ⟨b3_0, 1, none⟩) from rfl)) rfl ?_
  refine J.s_nil ?_
  refine J.o_op rfl (Yd.load pl70 rfl (Cel.cell1 hc 3 rfl)) rfl ?_
  refine J.o_op rfl (Yd.load pl3 rfl (Cel.cell1 c3_0 1 rfl)) rfl ?_
  refine J.o_nil ?_
  refine J.s_one rfl (Yd.idx_l Try.underlying70 ti22 rfl rfl (hrl _ e0) (by first | omega | exact idx_u8' _ | (simp only [Int.toNat_natCast]; omega) | (simp only [List.length_map, List.length_drop, List.length_take, List.length_append, List.length_replicate]; omega) | (simp <;> omega))) rfl ?_
  refine J.s_one rfl (Yd.load pl22 rfl (Rl.cell (hrl _ e0) (by first | omega | exact idx_u8' _ | (simp only [Int.toNat_natCast]; omega) | (simp only [List.length_map, List.length_drop, List.length_take, List.length_append, List.length_replicate]; omega) | (simp <;> omega)))) rfl ?_
  refine J.s_one rfl (Yd.neNil Try.underlying22 rfl rfl (Rl.at' (hrl _ e0) (by first | omega | exact idx_u8' _ | (simp only [Int.toNat_natCast]; omega) | (simp only [List.length_map, List.length_drop, List.length_take, List.length_append, List.length_replicate]; omega) | (simp <;> omega)))) rfl ?_
  refine J.s_nil ?_
  refine J.n_np ?_
  refine J.n_then ?_
  refine J.know (t := 68) (v' := .bool false) rfl ((congrArg Value.bool (by rw [Int.toNat_natCast, he.nil hk, decide_eq_true hl0]; rfl))) ?_
  refine J.cond_false rfl ?_
  refine J.skip ?_
  refine J.n_then ?_
  refine J.seq ?_
  refine J.region ?_
  refine J.op (Yd.move rfl) rfl ?_
  refine J.eff (Ye.lit0 (base := w1.heap.size) (f := fun v : Value => v) Try.underlying70 ti22 rfl (Nat.le_refl _)) rfl ?_
  rintro s83_2 w2 ⟨o83_2, x1⟩
  have ap_b_s83_2 : Ap (some b) s83_2.ownBlock := Ap.mk (Cel.live hc) (Ow.fr o83_2)
  have ap_b3_0_s83_2 : Ap (some b3_0) s83_2.ownBlock := Ap.mk (Cel.live c3_0) (Ow.fr o83_2)
  have fr_s83_2 : Fr w.heap.size s83_2.ownBlock := Fr.le (Ow.fr o83_2) e0.size
  replace o83_2 := Ow.base o83_2 e0.size
  have e0 := Tn.ext e0 x1
  have hc := hc.ext x1
  have c3_0 := c3_0.ext x1
  clear x1
  refine J.op (Yd.move rfl) rfl ?_
  refine J.op (Yd.nilCheck rfl) rfl ?_
  refine J.op (Yd.cast (Yd.fieldA Try.underlying76 rfl ti70 rfl rfl) (show _ = Value.pointer (some ⟨b, 3, none⟩) from rfl)) rfl ?_
  refine J.op (Yd.load pl70 rfl (Cel.cell1 hc 3 rfl)) rfl ?_
  refine J.eff (Ye.appendR (l := []) (m := vs) Try.underlying70 ti22 rfl rfl rfl rfl o83_2 (hr _ e0) he.one (by rw [he.len, List.length_nil]; omega) e0.size) rfl ?_
  rintro s2 w3 ⟨ho2, hg, hsf⟩
  rw [List.nil_append] at ho2
  have ap_b_s2 : Ap (some b) s2.ownBlock := Ap.sf ap_b_s83_2 (Cel.live hc) hsf
  have ap_b3_0_s2 : Ap (some b3_0) s2.ownBlock := Ap.sf ap_b3_0_s83_2 (Cel.live c3_0) hsf
  have fr_s2 : Fr w.heap.size s2.ownBlock := Fr.sf fr_s83_2 hsf e0.size
  have hc := Cel.gbk hc hg ap_b_s83_2
  have c3_0 := Cel.gbk c3_0 hg ap_b3_0_s83_2
  have e0 := Tn.gbk e0 (.inr fr_s83_2) hg
  clear hg hsf
  have ho2r := Ow.rd ho2
  refine J.op (Yd.nilCheck rfl) rfl ?_
  refine J.op (Yd.cast (Yd.fieldA Try.underlying76 rfl ti70 rfl rfl) (show _ = Value.pointer (some ⟨b, 3, none⟩) from rfl)) rfl ?_
  refine J.eff0 (Ye.store1 ti70 hc 3 rfl rfl rfl rfl (Rd.cells (Ow.rd ho2)) (Rd.one (Ow.rd ho2))) ?_
  rintro _ w4 ⟨cX, hu⟩
  simp only [List.set_cons_zero, List.set_cons_succ] at cX
  have hg := hu.gb
  have c3_0 := Cel.gbk c3_0 hg (Ap.symm ap_b_b3_0)
  have ho2 := Ow.gbk ho2 hg (Ap.symm ap_b_s2)
  have e0 := Tn.gbk e0 (.inl (by simp)) hg
  clear hg
  replace hc := cX
  clear cX hu
  refine J.nil ?_
  refine J.n_then ?_
  refine J.seq ?_
  have ap_b_g8 : Ap (some b) (some w4.heap.size) := Ap.mk (Cel.live hc) (Fr.blk (Nat.le_refl _))
  have ap_b3_0_g8 : Ap (some b3_0) (some w4.heap.size) := Ap.mk (Cel.live c3_0) (Fr.blk (Nat.le_refl _))
  have ap_s2_g8 : Ap s2.ownBlock (some w4.heap.size) := Ap.mk (Ow.live ho2) (Fr.blk (Nat.le_refl _))
  have fr_g8 : Fr w.heap.size (some w4.heap.size) := Fr.le (Fr.blk (Nat.le_refl _)) e0.size
  refine J.regionT [(some w4.heap.size)] [(0, true), (1, true), (2, true), (4, true), (7, true)] [(3, 1), (5, 1), (8, 1), (6, 0), (9, 0)] [(10, false), (11, false)] mix (by kernel_rfl) ?_
  refine J.s_op rfl (fun _ => Yd.move rfl) rfl ?_
  refine J.s_op rfl (fun _ => Yd.nilCheck rfl) rfl ?_
  refine J.s_op rfl (fun _ => Yd.cast (Yd.fieldA Try.underlying76 rfl ti70 rfl rfl) (show _ = Value.pointer (some ⟨b, 3, none⟩) from rfl)) rfl ?_
  refine J.s_op rfl (fun _ => Yd.cast (Yd.fieldA Try.underlying31 rfl ti3 rfl rfl) (show _ = Value.pointer (some ⟨b3_0, 1, none⟩) from rfl)) rfl ?_
  refine J.s_op rfl (fun _ => Yd.cast (Yd.fieldA Try.underlying31 rfl ti22 rfl rfl) (show _ = Value.pointer (some ⟨b3_0, 3, none⟩) from rfl)) rfl ?_
  refine J.s_nil ?_
  refine J.t_op rfl (fun w1 ht => Yd.load pl70 rfl (Cel.cell1 (Cel.tnk hc ht (ApL.one ap_b_g8)) 3 rfl)) rfl ?_
  refine J.t_op rfl (fun w1 ht => Yd.load pl3 rfl (Cel.cell1 (Cel.tnk c3_0 ht (ApL.one ap_b3_0_g8)) 1 rfl)) rfl ?_
  refine J.t_op rfl (fun w1 ht => Yd.load pl22 rfl (Cel.cell1 (Cel.tnk c3_0 ht (ApL.one ap_b3_0_g8)) 3 rfl)) rfl ?_
  refine J.t_eff rfl (Ye.lit0w (base := w4.heap.size) Try.underlying22 ti5 (Nat.le_refl _)) rfl (fun _ _ h => Ext.tn h.2.2 _) ?_
  rintro _ w5 ⟨rfl, ho0, x1⟩
  replace ho0 := Ow.base ho0 e0.size
  have e0 := Tn.ext e0 x1
  have hc := hc.ext x1
  have c3_0 := c3_0.ext x1
  have ho2 := ho2.ext x1
  clear x1
  refine J.t_eff rfl (Ye.appendS (f := fun x : UInt8 => B x) (l := []) (m := l) Try.underlying22 ti5 rfl rfl rfl rfl ho0 (hx _ e0) (fun _ => rfl) (by rw [List.length_nil]; omega) e0.size) rfl (fun _ _ h => Tn.ofGB h.2.1) ?_
  rintro v9 w6 ⟨ho9, hg, hsf⟩
  have ap_b_v9 : Ap (some b) v9.ownBlock := Ap.sf ap_b_g8 (Cel.live hc) hsf
  have ap_b3_0_v9 : Ap (some b3_0) v9.ownBlock := Ap.sf ap_b3_0_g8 (Cel.live c3_0) hsf
  have ap_s2_v9 : Ap s2.ownBlock v9.ownBlock := Ap.sf ap_s2_g8 (Ow.live ho2) hsf
  have fr_v9 : Fr w.heap.size v9.ownBlock := Fr.sf fr_g8 hsf e0.size
  have hc := Cel.gbk hc hg ap_b_g8
  have c3_0 := Cel.gbk c3_0 hg ap_b3_0_g8
  have ho2 := Ow.gbk ho2 hg ap_s2_g8
  have e0 := Tn.gbk e0 (.inr fr_g8) hg
  clear hg hsf
  rw [List.nil_append] at ho9
  refine J.t_nil ?_
  refine J.s_one rfl (Yd.idx Try.underlying70 ti22 rfl rfl (Ow.rd ho2) (by first | omega | exact idx_u8' _ | (simp only [Int.toNat_natCast]; omega) | (simp only [List.length_map, List.length_drop, List.length_take, List.length_append, List.length_replicate]; omega) | (simp <;> omega))) rfl ?_
  refine J.s_eff0 rfl (Ye.storeOw ti22 rfl rfl ho2 (by rw [Int.toNat_natCast, he.len]; exact hk) (Rd.cells (Ow.rd ho9)) (Rd.one (Ow.rd ho9))) ?_
  rintro _ w7 ⟨ho3, hg⟩
  have hc := Cel.gbk hc hg ap_b_s2
  have c3_0 := Cel.gbk c3_0 hg ap_b3_0_s2
  have ho9 := Ow.gbk ho9 hg (Ap.symm ap_s2_v9)
  have e0 := Tn.gbk e0 (.inr fr_s2) hg
  clear hg
  replace ho2 := ho3
  clear ho3
  refine J.s_nil ?_
  refine J.n_np ?_
  refine J.n_then ?_
  refine J.seq ?_
  refine J.region ?_
  refine J.op (Yd.assign rfl) rfl ?_
  refine J.nil ?_
  refine J.n_then ?_
  refine J.ret ?_
  exact J.ret1 rfl rfl (⟨_, rfl, rfl, s2, v9, hc, ho2, ho9, fr_s2, ap_b_s2, ap_b_v9, (Ap.symm ap_s2_v9), e0⟩)
end Ytghklimejpmpnaa
end Go.Proofs
