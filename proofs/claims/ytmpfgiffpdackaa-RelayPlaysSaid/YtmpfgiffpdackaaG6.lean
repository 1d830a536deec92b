import Derived.Test.YtmpfgiffpdackaaT
import Derived.Test.YtmpfgiffpdackaaG5
set_option linter.unusedVariables false
set_option linter.unusedSimpArgs false
set_option maxRecDepth 100000
set_option maxHeartbeats 4000000
namespace Go.Proofs
open Go.X Go.RowKit
namespace Ytmpfgiffpdackaa
theorem Name_is {s : Key} {t : Bool} {w : World} (h : s.length ≤ 1000000 ∧ nameB s = t) : C Try.prog 26 [Str s] w (Ret fun v w' => v = .bool t ∧ Ext w w') := h.2 ▸ Name_ok h.1
theorem Len_is {b mb : Nat} {ex now last : Int} {m : List (Key × Value)} {to : Key} {es : List Itm} {w : World} (hc : Cel w b 65 [(0, 1, [I ex]), (1, 1, [I now]), (2, 1, [I last]), (3, 1, [.map (some mb)])]) (hm : Mp w mb m) (hr : Er itmS w ((mget m to).getD nilS) es) : C Try.prog 15 [.pointer (some ⟨b, 0, none⟩), Str to] w (Ret fun v w' => v = I (es.length : Int) ∧ Ext w w') := Len_raw hc hm hr

theorem Put_raw {b mb : Nat} {ex now last : Int} {m : List (Key × Value)} {fr to : Key} {a : Value} {l : List UInt8} {es : List Itm} {w : World} (hc : Cel w b 65 [(0, 1, [I ex]), (1, 1, [I now]), (2, 1, [I last]), (3, 1, [.map (some mb)])]) (hm : Mp w mb m) (ho : Es itmS 0 36 w ((mget m to).getD nilS) es) (abm : Ap (some b) (some mb)) (abv : Ap (some b) ((mget m to).getD nilS).ownBlock) (amv : Ap (some mb) ((mget m to).getD nilS).ownBlock) (hn1 : fr.length ≤ 1000000 ∧ nameB fr = true) (hn2 : to.length ≤ 1000000 ∧ nameB to = true) (ha : ∀ w', Tn [some b, some mb, ((mget m to).getD nilS).ownBlock] w w' → Bs w' a l) (hl : l.length ≤ 6000) (hlen : es.length < 30) (hlast : 0 ≤ last ∧ last ≤ 1000000000) : C Try.prog 10 [.pointer (some ⟨b, 0, none⟩), Str fr, Str to, a] w (Ret fun u w' => ∃ v' d, u = .tuple #[I (last + 1), I 0] ∧ Cel w' b 65 [(0, 1, [I ex]), (1, 1, [I now]), (2, 1, [I (last + 1)]), (3, 1, [.map (some mb)])] ∧ Mp w' mb (mset to v' m) ∧ Es itmS 0 36 w' v' (es ++ [((last + 1, fr, now, d) : Itm)]) ∧ Ob w.heap.size 5 w' d l ∧ SF w ((mget m to).getD nilS).ownBlock v'.ownBlock ∧ Ap (some b) v'.ownBlock ∧ Ap (some mb) v'.ownBlock ∧ Ap d.ownBlock v'.ownBlock ∧ Tn [some b, some mb, ((mget m to).getD nilS).ownBlock] w w') := by
  have hmx := Er.max (Es.rd ho)
  have e0 := Tn.refl [(some b), (some mb), ((mget m to).getD nilS).ownBlock] w
  refine C.enter Try.func10 rfl Try.ntmps10 rfl ?_
  refine J.seq ?_
  refine J.region ?_
  refine J.op (Yd.assign rfl) rfl ?_
  refine J.op (Yd.assign rfl) rfl ?_
  refine J.nil ?_
  refine J.n_then ?_
  refine J.seq ?_
  refine J.block ?_
  refine J.seq ?_
  refine J.region ?_
  refine J.op (Yd.move rfl) rfl ?_
  refine J.eff (Ye.call cl26 rfl (Name_is hn1)) rfl ?_
  rintro _ w1 ⟨rfl, x1⟩
  have e0 := Tn.ext e0 x1
  have hm := hm.ext x1
  have ho := ho.ext x1
  have hc := hc.ext x1
  clear x1
  refine J.op (Yd.not rfl) rfl ?_
  refine J.op (Yd.move rfl) rfl ?_
  refine J.op_g rfl rfl rfl (Yd.move rfl) rfl ?_
  refine J.eff_g rfl rfl rfl (Ye.call cl26 rfl (Name_is hn2)) rfl ?_
  rintro _ w2 ⟨rfl, x1⟩
  have e0 := Tn.ext e0 x1
  have hm := hm.ext x1
  have ho := ho.ext x1
  have hc := hc.ext x1
  clear x1
  refine J.op_g rfl rfl rfl (Yd.not rfl) rfl ?_
  refine J.op (Yd.pick_f rfl rfl) rfl ?_
  refine J.op (Yd.assign rfl) rfl ?_
  refine J.nil ?_
  refine J.n_then ?_
  refine J.cond_false rfl ?_
  refine J.seq ?_
  refine J.region ?_
  refine J.op (Yd.move rfl) rfl ?_
  refine J.op (Yd.len_b Try.underlying34 rfl (ha _ e0)) rfl ?_
  refine J.op (Yd.gtr rfl rfl) rfl ?_
  refine J.op (Yd.assign rfl) rfl ?_
  refine J.nil ?_
  refine J.n_then ?_
  refine J.know (t := 19) (v' := .bool false) rfl (ff (by omega)) ?_
  refine J.cond_false rfl ?_
  refine J.seq ?_
  refine J.region ?_
  refine J.op (Yd.move rfl) rfl ?_
  refine J.op (Yd.cast (Yd.eqPn Try.underlying24 rfl rfl) (show _ = Value.bool false from rfl)) rfl ?_
  refine J.op (Yd.move rfl) rfl ?_
  refine J.op_g rfl rfl rfl (Yd.move rfl) rfl ?_
  refine J.op_g rfl rfl rfl (Yd.move rfl) rfl ?_
  refine J.eff_g rfl rfl rfl (Ye.call cl15 rfl (Len_is hc hm (Es.rd ho))) rfl ?_
  rintro _ w3 ⟨rfl, x1⟩
  have e0 := Tn.ext e0 x1
  have hm := hm.ext x1
  have ho := ho.ext x1
  have hc := hc.ext x1
  clear x1
  refine J.op_g rfl rfl rfl (Yd.geq rfl rfl) rfl ?_
  refine J.op (Yd.pick_f rfl rfl) rfl ?_
  refine J.op (Yd.assign rfl) rfl ?_
  refine J.nil ?_
  refine J.n_then ?_
  refine J.know (t := 23) (v' := .bool false) rfl (ff (by omega)) ?_
  refine J.cond_false rfl ?_
  refine J.skip ?_
  refine J.n_block ?_
  refine J.n_then ?_
  refine J.seq ?_
  refine J.seq ?_
  refine J.region ?_
  refine J.op (Yd.move rfl) rfl ?_
  refine J.op (Yd.nilCheck rfl) rfl ?_
  refine J.op (Yd.cast (Yd.fieldA Try.underlying65 rfl ti63 rfl rfl) (show _ = Value.pointer (some ⟨b, 3, none⟩) from rfl)) rfl ?_
  refine J.op (Yd.load pl63 rfl (Cel.cell1 hc 3 rfl)) rfl ?_
  refine J.op (Yd.eqMn Try.underlying63 rfl rfl) rfl ?_
  refine J.nil ?_
  refine J.n_then ?_
  refine J.cond_false rfl ?_
  refine J.skip ?_
  refine J.n_then ?_
  refine J.seq ?_
  refine J.region ?_
  refine J.op (Yd.move rfl) rfl ?_
  refine J.op (Yd.nilCheck rfl) rfl ?_
  refine J.op (Yd.cast (Yd.fieldA Try.underlying65 rfl ti3 rfl rfl) (show _ = Value.pointer (some ⟨b, 2, none⟩) from rfl)) rfl ?_
  refine J.op (Yd.load pl3 rfl (Cel.cell1 hc 2 rfl)) rfl ?_
  refine J.op (Yd.add rfl rfl (by first | omega | exact idx_u8' _ | (simp only [Int.toNat_natCast]; omega) | (simp only [List.length_map, List.length_drop, List.length_take, List.length_append, List.length_replicate]; omega) | (simp <;> omega))) rfl ?_
  refine J.op (Yd.nilCheck rfl) rfl ?_
  refine J.op (Yd.cast (Yd.fieldA Try.underlying65 rfl ti3 rfl rfl) (show _ = Value.pointer (some ⟨b, 2, none⟩) from rfl)) rfl ?_
  refine J.eff0 (Ye.store1 ti3 hc 2 rfl rfl rfl rfl rfl rfl) ?_
  rintro _ w4 ⟨cX, hu⟩
  simp only [List.set_cons_zero, List.set_cons_succ] at cX
  have hg := hu.gb
  have hm := Mp.gbk hm hg (Ap.symm abm)
  have ho := Es.gbk ho hg (Ap.symm abv)
  have e0 := Tn.gbk e0 (.inl (by simp)) hg
  clear hg
  replace hc := cX
  clear cX hu
  refine J.nil ?_
  refine J.n_then ?_
  refine J.seq ?_
  refine J.regionT [((mget m to).getD nilS).ownBlock] [(0, true), (1, true), (2, true), (4, true), (5, true), (6, true), (7, true), (9, true), (11, true), (12, true), (13, true), (15, true), (16, true), (17, true), (18, true), (20, true)] [(3, 1), (8, 1), (10, 1), (14, 1), (19, 1), (21, 0), (22, 1), (23, 0), (24, 0)] [(25, false)] mix (by kernel_rfl) ?_
  refine J.s_op rfl (fun _ => Yd.move rfl) rfl ?_
  refine J.s_op rfl (fun _ => Yd.nilCheck rfl) rfl ?_
  refine J.s_op rfl (fun _ => Yd.cast (Yd.fieldA Try.underlying65 rfl ti63 rfl rfl) (show _ = Value.pointer (some ⟨b, 3, none⟩) from rfl)) rfl ?_
  refine J.s_op rfl (fun _ => Yd.move rfl) rfl ?_
  refine J.s_op rfl (fun _ => Yd.move rfl) rfl ?_
  refine J.s_op rfl (fun _ => Yd.nilCheck rfl) rfl ?_
  refine J.s_op rfl (fun _ => Yd.cast (Yd.fieldA Try.underlying65 rfl ti63 rfl rfl) (show _ = Value.pointer (some ⟨b, 3, none⟩) from rfl)) rfl ?_
  refine J.s_op rfl (fun _ => Yd.move rfl) rfl ?_
  refine J.s_op rfl (fun _ => Yd.move rfl) rfl ?_
  refine J.s_op rfl (fun _ => Yd.nilCheck rfl) rfl ?_
  refine J.s_op rfl (fun _ => Yd.cast (Yd.fieldA Try.underlying65 rfl ti3 rfl rfl) (show _ = Value.pointer (some ⟨b, 2, none⟩) from rfl)) rfl ?_
  refine J.s_op rfl (fun _ => Yd.move rfl) rfl ?_
  refine J.s_op rfl (fun _ => Yd.move rfl) rfl ?_
  refine J.s_op rfl (fun _ => Yd.nilCheck rfl) rfl ?_
  refine J.s_op rfl (fun _ => Yd.cast (Yd.fieldA Try.underlying65 rfl ti3 rfl rfl) (show _ = Value.pointer (some ⟨b, 1, none⟩) from rfl)) rfl ?_
  refine J.s_op rfl (fun _ => Yd.move rfl) rfl ?_
  refine J.s_nil ?_
  refine J.t_op rfl (fun w1 ht => Yd.load pl63 rfl (Cel.cell1 (Cel.tnk hc ht (ApL.one abv)) 3 rfl)) rfl ?_
  refine J.t_op rfl (fun w1 ht => Yd.load pl63 rfl (Cel.cell1 (Cel.tnk hc ht (ApL.one abv)) 3 rfl)) rfl ?_
  refine J.t_op rfl (fun w1 ht => Yd.cast (Yd.lookupS Try.underlying63 Try.underlying9 ti31 rfl rfl (Mp.tnk hm ht (ApL.one amv))) (show _ = ((mget m to).getD nilS) from rfl)) rfl ?_
  refine J.t_op rfl (fun w1 ht => Yd.load pl3 rfl (Cel.cell1 (Cel.tnk hc ht (ApL.one abv)) 2 rfl)) rfl ?_
  refine J.t_op rfl (fun w1 ht => Yd.load pl3 rfl (Cel.cell1 (Cel.tnk hc ht (ApL.one abv)) 1 rfl)) rfl ?_
  refine J.t_eff rfl (Ye.call cl27 rfl (Clone_ok (ha _ e0) (by omega))) rfl (fun _ _ h => Ext.tn h.2 _) ?_
  rintro s69_5 w5 ⟨os69_5, x1⟩
  have ap_mb_s69_5 : Ap (some mb) s69_5.ownBlock := Ap.mk (Mp.live hm) (Ow.fr os69_5)
  have ap_v_s69_5 : Ap ((mget m to).getD nilS).ownBlock s69_5.ownBlock := Ap.mk (Es.live ho) (Ow.fr os69_5)
  have ap_b_s69_5 : Ap (some b) s69_5.ownBlock := Ap.mk (Cel.live hc) (Ow.fr os69_5)
  have fr_s69_5 : Fr w.heap.size s69_5.ownBlock := Fr.le (Ow.fr os69_5) e0.size
  replace os69_5 := Ow.base os69_5 e0.size
  have e0 := Tn.ext e0 x1
  have hm := hm.ext x1
  have ho := ho.ext x1
  have hc := hc.ext x1
  clear x1
  have hcS := Rd.cells (Ow.rd os69_5)
  refine J.t_op rfl (fun w1 ht => Yd.cast (Yd.buildV (pl := [(0, 1), (1, 1), (2, 1), (3, 1)]) Try.underlying36 (by kernel_rfl) ti36 rfl rfl (by simp [OffOK, cells_agg, cells_int, cells_str, hcS]) (by simp [catV, cells_agg, cells_int, cells_str, hcS])) (show _ = Value.agg (itmS.c (last + 1, fr, now, s69_5)).toArray from by simp [catV, cells_agg, cells_int, cells_str, hcS, itmS])) rfl ?_
  refine J.t_eff rfl (Ye.litE1 (K := itmS) (u := (last + 1, fr, now, s69_5)) (base := w5.heap.size) Try.underlying31 ti36 rfl rfl rfl (Nat.le_refl _)) rfl (fun _ _ h => Ext.tn h.2 _) ?_
  rintro sl w6 ⟨hsl, x1⟩
  have ap_mb_sl : Ap (some mb) sl.ownBlock := Ap.mk (Mp.live hm) (Es.fr hsl)
  have ap_v_sl : Ap ((mget m to).getD nilS).ownBlock sl.ownBlock := Ap.mk (Es.live ho) (Es.fr hsl)
  have ap_b_sl : Ap (some b) sl.ownBlock := Ap.mk (Cel.live hc) (Es.fr hsl)
  have ap_s69_5_sl : Ap s69_5.ownBlock sl.ownBlock := Ap.mk (Ow.live os69_5) (Es.fr hsl)
  have fr_sl : Fr w.heap.size sl.ownBlock := Fr.le (Es.fr hsl) e0.size
  replace hsl := Es.base hsl (Nat.zero_le _)
  have e0 := Tn.ext e0 x1
  have hm := hm.ext x1
  have ho := ho.ext x1
  have hc := hc.ext x1
  have os69_5 := os69_5.ext x1
  clear x1
  refine J.t_eff rfl (Ye.appendE (K := itmS) Try.underlying31 ti36 rfl rfl rfl rfl ho (Es.rd hsl) (itm_one1 (Rd.one (Ow.rd os69_5))) (by simp only [List.length_singleton]; omega) (Nat.zero_le _)) rfl (fun _ _ h => Tn.ofGB h.2.1) ?_
  rintro s2 w7 ⟨ho2, hg, hsf⟩
  have hsf_s2 : SF w ((mget m to).getD nilS).ownBlock s2.ownBlock := SF.le hsf e0.size
  have ap_mb_s2 : Ap (some mb) s2.ownBlock := Ap.sf amv (Mp.live hm) hsf
  have ap_b_s2 : Ap (some b) s2.ownBlock := Ap.sf abv (Cel.live hc) hsf
  have ap_s69_5_s2 : Ap s69_5.ownBlock s2.ownBlock := Ap.sf (Ap.symm ap_v_s69_5) (Ow.live os69_5) hsf
  have ap_sl_s2 : Ap sl.ownBlock s2.ownBlock := Ap.sf (Ap.symm ap_v_sl) (Es.live hsl) hsf
  have hm := Mp.gbk hm hg amv
  have hc := Cel.gbk hc hg abv
  have os69_5 := Ow.gbk os69_5 hg (Ap.symm ap_v_s69_5)
  have hsl := Es.gbk hsl hg (Ap.symm ap_v_sl)
  have e0 := Tn.gbk e0 (.inl (by simp)) hg
  clear hg hsf
  refine J.t_nil ?_
  refine J.s_eff0 rfl (Ye.mapSet Try.underlying63 Try.underlying9 rfl rfl rfl hm) ?_
  rintro _ w8 ⟨hm2, hg⟩
  have hc := Cel.gbk hc hg abm
  have os69_5 := Ow.gbk os69_5 hg (Ap.symm ap_mb_s69_5)
  have hsl := Es.gbk hsl hg (Ap.symm ap_mb_sl)
  have ho2 := Es.gbk ho2 hg (Ap.symm ap_mb_s2)
  have e0 := Tn.gbk e0 (.inl (by simp)) hg
  clear hg
  replace hm := hm2
  clear hm2
  refine J.s_nil ?_
  refine J.n_np ?_
  refine J.n_then ?_
  refine J.seq ?_
  refine J.region ?_
  refine J.op (Yd.move rfl) rfl ?_
  refine J.op (Yd.nilCheck rfl) rfl ?_
  refine J.op (Yd.cast (Yd.fieldA Try.underlying65 rfl ti3 rfl rfl) (show _ = Value.pointer (some ⟨b, 2, none⟩) from rfl)) rfl ?_
  refine J.op (Yd.load pl3 rfl (Cel.cell1 hc 2 rfl)) rfl ?_
  refine J.op (Yd.assign rfl) rfl ?_
  refine J.op (Yd.assign rfl) rfl ?_
  refine J.nil ?_
  refine J.n_then ?_
  refine J.ret ?_
  exact J.ret2 rfl rfl rfl (⟨_, rfl, s2, s69_5, rfl, hc, hm, ho2, os69_5, hsf_s2, ap_b_s2, ap_mb_s2, ap_s69_5_s2, e0⟩)
end Ytmpfgiffpdackaa
end Go.Proofs
