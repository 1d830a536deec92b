import Derived.Test.YtfefphcmfhabiaaT
import Derived.Test.YtfefphcmfhabiaaJ4
set_option linter.unusedVariables false
set_option linter.unusedSimpArgs false
set_option maxRecDepth 100000
set_option maxHeartbeats 4000000
namespace Go.Proofs
open Go.X Go.RowKit
namespace Ytfefphcmfhabiaa
theorem Put_new {b : Nat} {n : Int} {s : Value} {es : List Ent} {m1 m2 : Int} {a : Value} {l : List UInt8} {w : World} (hc : Cel w b 56 [(0, 1, [I n]), (1, 1, [s])]) (ho : Es entS 0 60 w s es) (hap : Ap (some b) s.ownBlock) (h1 : ∀ x ∈ es, x.2.2.oneCell' = true) (ha : ∀ w', Tn [some b, s.ownBlock] w w' → Bs w' a l) (hn : 1 ≤ n) (hv : wiK m1 ∧ wiK m2 ∧ l.length = 32) (hq : decide (idxI (eqE m1 m2) es ≥ 0) = false) (hle : (es.length : Int) < n) (hn2 : n ≤ 1000) : C Try.prog 10 [.pointer (some ⟨b, 0, none⟩), I m1, I m2, a] w (Ret fun u w' => ∃ s' v', u = .tuple #[I 0, I 0] ∧ Cel w' b 56 [(0, 1, [I n]), (1, 1, [s'])] ∧ Es entS 0 60 w' s' (es ++ [((m1, m2, v') : Ent)]) ∧ Ob w.heap.size 5 w' v' l ∧ Ap (some b) s'.ownBlock ∧ Ap (some b) v'.ownBlock ∧ Ap v'.ownBlock s'.ownBlock ∧ SF w s.ownBlock s'.ownBlock ∧ Tn [some b, s.ownBlock] w w') := by
  have hmx := Er.max (Es.rd ho)
  have e0 := Tn.refl [(some b), s.ownBlock] w
  refine C.enter Try.func10 rfl Try.ntmps10 rfl ?_
  refine J.seq ?_
  refine J.region ?_
  refine J.op (Yd.assign rfl) rfl ?_
  refine J.op (Yd.assign rfl) rfl ?_
  refine J.nil ?_
  refine J.n_then ?_
  refine J.seq ?_
  refine J.block ?_
  refine J.seq ?_
  refine J.region ?_
  refine J.op (Yd.move rfl) rfl ?_
  refine J.op (Yd.cast (Yd.eqPn Try.underlying23 rfl rfl) (show _ = Value.bool false from rfl)) rfl ?_
  refine J.op (Yd.move rfl) rfl ?_
  refine J.op_g rfl rfl rfl (Yd.move rfl) rfl ?_
  refine J.op_g rfl rfl rfl (Yd.nilCheck rfl) rfl ?_
  refine J.op_g rfl rfl rfl (Yd.cast (Yd.fieldA Try.underlying56 rfl ti3 rfl rfl) (show _ = Value.pointer (some ⟨b, 0, none⟩) from rfl)) rfl ?_
  refine J.op_g rfl rfl rfl (Yd.load pl3 rfl (Cel.cell1 hc 0 rfl)) rfl ?_
  refine J.op_g rfl rfl rfl (Yd.eql rfl rfl) rfl ?_
  refine J.op (Yd.pick_f rfl rfl) rfl ?_
  refine J.op (Yd.move rfl) rfl ?_
  refine J.know (t := 20) (v' := .bool false) rfl (ff (by omega)) ?_
  refine J.op_g rfl rfl rfl (Yd.move rfl) rfl ?_
  refine J.eff_g rfl rfl rfl (Ye.call cl23 rfl (Within_ok)) rfl ?_
  rintro _ w1 ⟨rfl, x1⟩
  have e0 := Tn.ext e0 x1
  have ho := ho.ext x1
  have hc := hc.ext x1
  clear x1
  refine J.op_g rfl rfl rfl (Yd.not_dec rfl) rfl ?_
  refine J.op (Yd.pick_f rfl rfl) rfl ?_
  refine J.op (Yd.move rfl) rfl ?_
  refine J.know (t := 25) (v' := .bool false) rfl (ff (by intro h; exact h hv.1)) ?_
  refine J.op_g rfl rfl rfl (Yd.move rfl) rfl ?_
  refine J.eff_g rfl rfl rfl (Ye.call cl23 rfl (Within_ok)) rfl ?_
  rintro _ w2 ⟨rfl, x1⟩
  have e0 := Tn.ext e0 x1
  have ho := ho.ext x1
  have hc := hc.ext x1
  clear x1
  refine J.op_g rfl rfl rfl (Yd.not_dec rfl) rfl ?_
  refine J.op (Yd.pick_f rfl rfl) rfl ?_
  refine J.op (Yd.move rfl) rfl ?_
  refine J.know (t := 30) (v' := .bool false) rfl (ff (by intro h; exact h hv.2.1)) ?_
  refine J.op_g rfl rfl rfl (Yd.move rfl) rfl ?_
  refine J.op_g rfl rfl rfl (Yd.len_b Try.underlying29 rfl (ha _ e0)) rfl ?_
  refine J.op_g rfl rfl rfl (Yd.neq rfl rfl) rfl ?_
  refine J.op (Yd.pick_f rfl rfl) rfl ?_
  refine J.op (Yd.assign rfl) rfl ?_
  refine J.nil ?_
  refine J.n_then ?_
  refine J.know (t := 10) (v' := .bool false) rfl (ff (by exact fun h => h (by rw [hv.2.2]; rfl))) ?_
  refine J.cond_false rfl ?_
  refine J.seq ?_
  refine J.region ?_
  refine J.op (Yd.move rfl) rfl ?_
  refine J.op (Yd.move rfl) rfl ?_
  refine J.op (Yd.move rfl) rfl ?_
  refine J.eff (Ye.call cl16 rfl (Has_is hc (Es.rd ho) (t := false) hq)) rfl ?_
  rintro _ w3 ⟨rfl, x1⟩
  have e0 := Tn.ext e0 x1
  have ho := ho.ext x1
  have hc := hc.ext x1
  clear x1
  refine J.op (Yd.assign rfl) rfl ?_
  refine J.nil ?_
  refine J.n_then ?_
  refine J.cond_false rfl ?_
  refine J.skip ?_
  refine J.n_block ?_
  refine J.n_then ?_
  refine J.seq ?_
  refine J.regionO [(0, true), (1, true), (2, true), (3, true), (5, true), (6, true), (7, true)] [(4, 1), (8, 0), (9, 1), (10, 0)] [(11, false), (12, true), (13, true), (14, false)] mix (by kernel_rfl) ?_
  refine J.s_op rfl (fun _ => Yd.move rfl) rfl ?_
  refine J.s_op rfl (fun _ => Yd.move rfl) rfl ?_
  refine J.s_op rfl (fun _ => Yd.nilCheck rfl) rfl ?_
  refine J.s_op rfl (fun _ => Yd.cast (Yd.fieldA Try.underlying56 rfl ti54 rfl rfl) (show _ = Value.pointer (some ⟨b, 1, none⟩) from rfl)) rfl ?_
  refine J.s_op rfl (fun _ => Yd.move rfl) rfl ?_
  refine J.s_op rfl (fun _ => Yd.move rfl) rfl ?_
  refine J.s_op rfl (fun _ => Yd.move rfl) rfl ?_
  refine J.s_nil ?_
  refine J.o_op rfl (Yd.load pl54 rfl (Cel.cell1 hc 1 rfl)) rfl ?_
  refine J.o_eff rfl (Ye.call cl24 rfl (Clone_ok (ha _ e0) (by omega))) rfl (fun _ _ h => h.2) ?_
  rintro s48_4 w4 ⟨os48_4, x1⟩
  have ap_s_s48_4 : Ap s.ownBlock s48_4.ownBlock := Ap.mk (Es.live ho) (Ow.fr os48_4)
  have ap_b_s48_4 : Ap (some b) s48_4.ownBlock := Ap.mk (Cel.live hc) (Ow.fr os48_4)
  have fr_s48_4 : Fr w.heap.size s48_4.ownBlock := Fr.le (Ow.fr os48_4) e0.size
  replace os48_4 := Ow.base os48_4 e0.size
  have e0 := Tn.ext e0 x1
  have ho := ho.ext x1
  have hc := hc.ext x1
  clear x1
  have hcS := Rd.cells (Ow.rd os48_4)
  refine J.o_op rfl (Yd.cast (Yd.buildV (pl := [(0, 1), (1, 1), (2, 1)]) Try.underlying60 (by kernel_rfl) ti60 rfl rfl (by simp [OffOK, cells_agg, cells_int, hcS]) (by simp [catV, cells_agg, cells_int, hcS])) (show _ = Value.agg (entS.c (m1, m2, s48_4)).toArray from by simp [catV, cells_agg, cells_int, hcS, entS])) rfl ?_
  refine J.o_eff rfl (Ye.litE1 (K := entS) (u := (m1, m2, s48_4)) (base := w4.heap.size) Try.underlying54 ti60 rfl rfl rfl (Nat.le_refl _)) rfl (fun _ _ h => h.2) ?_
  rintro sl w5 ⟨hsl, x1⟩
  have ap_s_sl : Ap s.ownBlock sl.ownBlock := Ap.mk (Es.live ho) (Es.fr hsl)
  have ap_b_sl : Ap (some b) sl.ownBlock := Ap.mk (Cel.live hc) (Es.fr hsl)
  have ap_s48_4_sl : Ap s48_4.ownBlock sl.ownBlock := Ap.mk (Ow.live os48_4) (Es.fr hsl)
  have fr_sl : Fr w.heap.size sl.ownBlock := Fr.le (Es.fr hsl) e0.size
  replace hsl := Es.base hsl (Nat.zero_le _)
  have e0 := Tn.ext e0 x1
  have ho := ho.ext x1
  have hc := hc.ext x1
  have os48_4 := os48_4.ext x1
  clear x1
  refine J.o_nil ?_
  refine J.s_eff rfl (Ye.appendE (K := entS) Try.underlying54 ti60 rfl rfl rfl rfl ho (Es.rd hsl) (ent_one1 (Rd.one (Ow.rd os48_4))) (by simp only [List.length_singleton]; omega) (Nat.zero_le _)) rfl ?_
  rintro s2 w6 ⟨ho2, hg, hsf⟩
  have hsf_s2 : SF w s.ownBlock s2.ownBlock := SF.le hsf e0.size
  have ap_b_s2 : Ap (some b) s2.ownBlock := Ap.sf hap (Cel.live hc) hsf
  have ap_s48_4_s2 : Ap s48_4.ownBlock s2.ownBlock := Ap.sf (Ap.symm ap_s_s48_4) (Ow.live os48_4) hsf
  have ap_sl_s2 : Ap sl.ownBlock s2.ownBlock := Ap.sf (Ap.symm ap_s_sl) (Es.live hsl) hsf
  have hc := Cel.gbk hc hg hap
  have os48_4 := Ow.gbk os48_4 hg (Ap.symm ap_s_s48_4)
  have hsl := Es.gbk hsl hg (Ap.symm ap_s_sl)
  have e0 := Tn.gbk e0 (.inl (by simp)) hg
  clear hg hsf
  have h2 := ent_app (m1 := m1) (m2 := m2) h1 (Rd.one (Ow.rd os48_4))
  refine J.s_op rfl (fun _ => Yd.nilCheck rfl) rfl ?_
  refine J.s_op rfl (fun _ => Yd.cast (Yd.fieldA Try.underlying56 rfl ti54 rfl rfl) (show _ = Value.pointer (some ⟨b, 1, none⟩) from rfl)) rfl ?_
  refine J.s_eff0 rfl (Ye.store1 ti54 hc 1 rfl rfl rfl rfl (Er.cells (Es.rd ho2)) (Er.one (Es.rd ho2))) ?_
  rintro _ w7 ⟨cX, hu⟩
  simp only [List.set_cons_zero, List.set_cons_succ] at cX
  have hg := hu.gb
  have os48_4 := Ow.gbk os48_4 hg (Ap.symm ap_b_s48_4)
  have hsl := Es.gbk hsl hg (Ap.symm ap_b_sl)
  have ho2 := Es.gbk ho2 hg (Ap.symm ap_b_s2)
  have e0 := Tn.gbk e0 (.inl (by simp)) hg
  clear hg
  replace hc := cX
  clear cX hu
  refine J.s_nil ?_
  refine J.n_np ?_
  refine J.n_then ?_
  refine J.seq ?_
  refine J.seq ?_
  refine J.regionO [(0, true), (1, true), (2, true), (5, true), (6, true), (7, true)] [(3, 1), (4, 1), (8, 1)] [(9, true)] mix (by kernel_rfl) ?_
  refine J.s_op rfl (fun _ => Yd.move rfl) rfl ?_
  refine J.s_op rfl (fun _ => Yd.nilCheck rfl) rfl ?_
  refine J.s_op rfl (fun _ => Yd.cast (Yd.fieldA Try.underlying56 rfl ti54 rfl rfl) (show _ = Value.pointer (some ⟨b, 1, none⟩) from rfl)) rfl ?_
  refine J.s_op rfl (fun _ => Yd.move rfl) rfl ?_
  refine J.s_op rfl (fun _ => Yd.nilCheck rfl) rfl ?_
  refine J.s_op rfl (fun _ => Yd.cast (Yd.fieldA Try.underlying56 rfl ti3 rfl rfl) (show _ = Value.pointer (some ⟨b, 0, none⟩) from rfl)) rfl ?_
  refine J.s_nil ?_
  refine J.o_op rfl (Yd.load pl54 rfl (Cel.cell1 hc 1 rfl)) rfl ?_
  refine J.o_op rfl (Yd.lenE (K := entS) Try.underlying54 rfl (Es.rd ho2)) rfl ?_
  refine J.o_op rfl (Yd.load pl3 rfl (Cel.cell1 hc 0 rfl)) rfl ?_
  refine J.o_nil ?_
  refine J.s_op rfl (fun _ => Yd.gtr rfl rfl) rfl ?_
  refine J.s_nil ?_
  refine J.n_np ?_
  refine J.n_then ?_
  refine J.know (t := 63) (v' := .bool false) rfl (ff (by simp only [List.length_append, List.length_singleton]; omega)) ?_
  refine J.cond_false rfl ?_
  refine J.skip ?_
  refine J.n_then ?_
  refine J.seq ?_
  refine J.region ?_
  refine J.op (Yd.assign rfl) rfl ?_
  refine J.op (Yd.assign rfl) rfl ?_
  refine J.nil ?_
  refine J.n_then ?_
  refine J.ret ?_
  exact J.ret2 rfl rfl rfl (⟨_, rfl, s2, s48_4, rfl, hc, ho2, os48_4, ap_b_s2, ap_b_s48_4, ap_s48_4_s2, hsf_s2, e0⟩)

theorem Put_over {b : Nat} {n : Int} {s : Value} {es : List Ent} {m1 m2 : Int} {a : Value} {l : List UInt8} {w : World} (hc : Cel w b 56 [(0, 1, [I n]), (1, 1, [s])]) (ho : Es entS 0 60 w s es) (hap : Ap (some b) s.ownBlock) (h1 : ∀ x ∈ es, x.2.2.oneCell' = true) (ha : ∀ w', Tn [some b, s.ownBlock] w w' → Bs w' a l) (hn : 1 ≤ n) (hv : wiK m1 ∧ wiK m2 ∧ l.length = 32) (hq : decide (idxI (eqE m1 m2) es ≥ 0) = false) (hle : n ≤ (es.length : Int)) (hn2 : es.length ≤ 1000) : C Try.prog 10 [.pointer (some ⟨b, 0, none⟩), I m1, I m2, a] w (Ret fun u w' => ∃ s' v', u = .tuple #[I 1, I 0] ∧ Cel w' b 56 [(0, 1, [I n]), (1, 1, [s'])] ∧ Es entS 0 60 w' s' ((es ++ [((m1, m2, v') : Ent)]).take 0 ++ (es ++ [((m1, m2, v') : Ent)]).drop 1) ∧ Ob w.heap.size 5 w' v' l ∧ Ap (some b) s'.ownBlock ∧ Ap (some b) v'.ownBlock ∧ Ap v'.ownBlock s'.ownBlock ∧ SF w s.ownBlock s'.ownBlock ∧ Tn [some b, s.ownBlock] w w') := by
  have hmx := Er.max (Es.rd ho)
  have e0 := Tn.refl [(some b), s.ownBlock] w
  refine C.enter Try.func10 rfl Try.ntmps10 rfl ?_
  refine J.seq ?_
  refine J.region ?_
  refine J.op (Yd.assign rfl) rfl ?_
  refine J.op (Yd.assign rfl) rfl ?_
  refine J.nil ?_
  refine J.n_then ?_
  refine J.seq ?_
  refine J.block ?_
  refine J.seq ?_
  refine J.region ?_
  refine J.op (Yd.move rfl) rfl ?_
  refine J.op (Yd.cast (Yd.eqPn Try.underlying23 rfl rfl) (show _ = Value.bool false from rfl)) rfl ?_
  refine J.op (Yd.move rfl) rfl ?_
  refine J.op_g rfl rfl rfl (Yd.move rfl) rfl ?_
  refine J.op_g rfl rfl rfl (Yd.nilCheck rfl) rfl ?_
  refine J.op_g rfl rfl rfl (Yd.cast (Yd.fieldA Try.underlying56 rfl ti3 rfl rfl) (show _ = Value.pointer (some ⟨b, 0, none⟩) from rfl)) rfl ?_
  refine J.op_g rfl rfl rfl (Yd.load pl3 rfl (Cel.cell1 hc 0 rfl)) rfl ?_
  refine J.op_g rfl rfl rfl (Yd.eql rfl rfl) rfl ?_
  refine J.op (Yd.pick_f rfl rfl) rfl ?_
  refine J.op (Yd.move rfl) rfl ?_
  refine J.know (t := 20) (v' := .bool false) rfl (ff (by omega)) ?_
  refine J.op_g rfl rfl rfl (Yd.move rfl) rfl ?_
  refine J.eff_g rfl rfl rfl (Ye.call cl23 rfl (Within_ok)) rfl ?_
  rintro _ w1 ⟨rfl, x1⟩
  have e0 := Tn.ext e0 x1
  have ho := ho.ext x1
  have hc := hc.ext x1
  clear x1
  refine J.op_g rfl rfl rfl (Yd.not_dec rfl) rfl ?_
  refine J.op (Yd.pick_f rfl rfl) rfl ?_
  refine J.op (Yd.move rfl) rfl ?_
  refine J.know (t := 25) (v' := .bool false) rfl (ff (by intro h; exact h hv.1)) ?_
  refine J.op_g rfl rfl rfl (Yd.move rfl) rfl ?_
  refine J.eff_g rfl rfl rfl (Ye.call cl23 rfl (Within_ok)) rfl ?_
  rintro _ w2 ⟨rfl, x1⟩
  have e0 := Tn.ext e0 x1
  have ho := ho.ext x1
  have hc := hc.ext x1
  clear x1
  refine J.op_g rfl rfl rfl (Yd.not_dec rfl) rfl ?_
  refine J.op (Yd.pick_f rfl rfl) rfl ?_
  refine J.op (Yd.move rfl) rfl ?_
  refine J.know (t := 30) (v' := .bool false) rfl (ff (by intro h; exact h hv.2.1)) ?_
  refine J.op_g rfl rfl rfl (Yd.move rfl) rfl ?_
  refine J.op_g rfl rfl rfl (Yd.len_b Try.underlying29 rfl (ha _ e0)) rfl ?_
  refine J.op_g rfl rfl rfl (Yd.neq rfl rfl) rfl ?_
  refine J.op (Yd.pick_f rfl rfl) rfl ?_
  refine J.op (Yd.assign rfl) rfl ?_
  refine J.nil ?_
  refine J.n_then ?_
  refine J.know (t := 10) (v' := .bool false) rfl (ff (by exact fun h => h (by rw [hv.2.2]; rfl))) ?_
  refine J.cond_false rfl ?_
  refine J.seq ?_
  refine J.region ?_
  refine J.op (Yd.move rfl) rfl ?_
  refine J.op (Yd.move rfl) rfl ?_
  refine J.op (Yd.move rfl) rfl ?_
  refine J.eff (Ye.call cl16 rfl (Has_is hc (Es.rd ho) (t := false) hq)) rfl ?_
  rintro _ w3 ⟨rfl, x1⟩
  have e0 := Tn.ext e0 x1
  have ho := ho.ext x1
  have hc := hc.ext x1
  clear x1
  refine J.op (Yd.assign rfl) rfl ?_
  refine J.nil ?_
  refine J.n_then ?_
  refine J.cond_false rfl ?_
  refine J.skip ?_
  refine J.n_block ?_
  refine J.n_then ?_
  refine J.seq ?_
  refine J.regionO [(0, true), (1, true), (2, true), (3, true), (5, true), (6, true), (7, true)] [(4, 1), (8, 0), (9, 1), (10, 0)] [(11, false), (12, true), (13, true), (14, false)] mix (by kernel_rfl) ?_
  refine J.s_op rfl (fun _ => Yd.move rfl) rfl ?_
  refine J.s_op rfl (fun _ => Yd.move rfl) rfl ?_
  refine J.s_op rfl (fun _ => Yd.nilCheck rfl) rfl ?_
  refine J.s_op rfl (fun _ => Yd.cast (Yd.fieldA Try.underlying56 rfl ti54 rfl rfl) (show _ = Value.pointer (some ⟨b, 1, none⟩) from rfl)) rfl ?_
  refine J.s_op rfl (fun _ => Yd.move rfl) rfl ?_
  refine J.s_op rfl (fun _ => Yd.move rfl) rfl ?_
  refine J.s_op rfl (fun _ => Yd.move rfl) rfl ?_
  refine J.s_nil ?_
  refine J.o_op rfl (Yd.load pl54 rfl (Cel.cell1 hc 1 rfl)) rfl ?_
  refine J.o_eff rfl (Ye.call cl24 rfl (Clone_ok (ha _ e0) (by omega))) rfl (fun _ _ h => h.2) ?_
  rintro s48_4 w4 ⟨os48_4, x1⟩
  have ap_s_s48_4 : Ap s.ownBlock s48_4.ownBlock := Ap.mk (Es.live ho) (Ow.fr os48_4)
  have ap_b_s48_4 : Ap (some b) s48_4.ownBlock := Ap.mk (Cel.live hc) (Ow.fr os48_4)
  have fr_s48_4 : Fr w.heap.size s48_4.ownBlock := Fr.le (Ow.fr os48_4) e0.size
  replace os48_4 := Ow.base os48_4 e0.size
  have e0 := Tn.ext e0 x1
  have ho := ho.ext x1
  have hc := hc.ext x1
  clear x1
  have hcS := Rd.cells (Ow.rd os48_4)
  refine J.o_op rfl (Yd.cast (Yd.buildV (pl := [(0, 1), (1, 1), (2, 1)]) Try.underlying60 (by kernel_rfl) ti60 rfl rfl (by simp [OffOK, cells_agg, cells_int, hcS]) (by simp [catV, cells_agg, cells_int, hcS])) (show _ = Value.agg (entS.c (m1, m2, s48_4)).toArray from by simp [catV, cells_agg, cells_int, hcS, entS])) rfl ?_
  refine J.o_eff rfl (Ye.litE1 (K := entS) (u := (m1, m2, s48_4)) (base := w4.heap.size) Try.underlying54 ti60 rfl rfl rfl (Nat.le_refl _)) rfl (fun _ _ h => h.2) ?_
  rintro sl w5 ⟨hsl, x1⟩
  have ap_s_sl : Ap s.ownBlock sl.ownBlock := Ap.mk (Es.live ho) (Es.fr hsl)
  have ap_b_sl : Ap (some b) sl.ownBlock := Ap.mk (Cel.live hc) (Es.fr hsl)
  have ap_s48_4_sl : Ap s48_4.ownBlock sl.ownBlock := Ap.mk (Ow.live os48_4) (Es.fr hsl)
  have fr_sl : Fr w.heap.size sl.ownBlock := Fr.le (Es.fr hsl) e0.size
  replace hsl := Es.base hsl (Nat.zero_le _)
  have e0 := Tn.ext e0 x1
  have ho := ho.ext x1
  have hc := hc.ext x1
  have os48_4 := os48_4.ext x1
  clear x1
  refine J.o_nil ?_
  refine J.s_eff rfl (Ye.appendE (K := entS) Try.underlying54 ti60 rfl rfl rfl rfl ho (Es.rd hsl) (ent_one1 (Rd.one (Ow.rd os48_4))) (by simp only [List.length_singleton]; omega) (Nat.zero_le _)) rfl ?_
  rintro s2 w6 ⟨ho2, hg, hsf⟩
  have hsf_s2 : SF w s.ownBlock s2.ownBlock := SF.le hsf e0.size
  have ap_b_s2 : Ap (some b) s2.ownBlock := Ap.sf hap (Cel.live hc) hsf
  have ap_s48_4_s2 : Ap s48_4.ownBlock s2.ownBlock := Ap.sf (Ap.symm ap_s_s48_4) (Ow.live os48_4) hsf
  have ap_sl_s2 : Ap sl.ownBlock s2.ownBlock := Ap.sf (Ap.symm ap_s_sl) (Es.live hsl) hsf
  have hc := Cel.gbk hc hg hap
  have os48_4 := Ow.gbk os48_4 hg (Ap.symm ap_s_s48_4)
  have hsl := Es.gbk hsl hg (Ap.symm ap_s_sl)
  have e0 := Tn.gbk e0 (.inl (by simp)) hg
  clear hg hsf
  have h2 := ent_app (m1 := m1) (m2 := m2) h1 (Rd.one (Ow.rd os48_4))
  refine J.s_op rfl (fun _ => Yd.nilCheck rfl) rfl ?_
  refine J.s_op rfl (fun _ => Yd.cast (Yd.fieldA Try.underlying56 rfl ti54 rfl rfl) (show _ = Value.pointer (some ⟨b, 1, none⟩) from rfl)) rfl ?_
  refine J.s_eff0 rfl (Ye.store1 ti54 hc 1 rfl rfl rfl rfl (Er.cells (Es.rd ho2)) (Er.one (Es.rd ho2))) ?_
  rintro _ w7 ⟨cX, hu⟩
  simp only [List.set_cons_zero, List.set_cons_succ] at cX
  have hg := hu.gb
  have os48_4 := Ow.gbk os48_4 hg (Ap.symm ap_b_s48_4)
  have hsl := Es.gbk hsl hg (Ap.symm ap_b_sl)
  have ho2 := Es.gbk ho2 hg (Ap.symm ap_b_s2)
  have e0 := Tn.gbk e0 (.inl (by simp)) hg
  clear hg
  replace hc := cX
  clear cX hu
  refine J.s_nil ?_
  refine J.n_np ?_
  refine J.n_then ?_
  refine J.seq ?_
  refine J.seq ?_
  refine J.regionO [(0, true), (1, true), (2, true), (5, true), (6, true), (7, true)] [(3, 1), (4, 1), (8, 1)] [(9, true)] mix (by kernel_rfl) ?_
  refine J.s_op rfl (fun _ => Yd.move rfl) rfl ?_
  refine J.s_op rfl (fun _ => Yd.nilCheck rfl) rfl ?_
  refine J.s_op rfl (fun _ => Yd.cast (Yd.fieldA Try.underlying56 rfl ti54 rfl rfl) (show _ = Value.pointer (some ⟨b, 1, none⟩) from rfl)) rfl ?_
  refine J.s_op rfl (fun _ => Yd.move rfl) rfl ?_
  refine J.s_op rfl (fun _ => Yd.nilCheck rfl) rfl ?_
  refine J.s_op rfl (fun _ => Yd.cast (Yd.fieldA Try.underlying56 rfl ti3 rfl rfl) (show _ = Value.pointer (some ⟨b, 0, none⟩) from rfl)) rfl ?_
  refine J.s_nil ?_
  refine J.o_op rfl (Yd.load pl54 rfl (Cel.cell1 hc 1 rfl)) rfl ?_
  refine J.o_op rfl (Yd.lenE (K := entS) Try.underlying54 rfl (Es.rd ho2)) rfl ?_
  refine J.o_op rfl (Yd.load pl3 rfl (Cel.cell1 hc 0 rfl)) rfl ?_
  refine J.o_nil ?_
  refine J.s_op rfl (fun _ => Yd.gtr rfl rfl) rfl ?_
  refine J.s_nil ?_
  refine J.n_np ?_
  refine J.n_then ?_
  refine J.know (t := 63) (v' := .bool true) rfl (tt (by simp only [List.length_append, List.length_singleton]; omega)) ?_
  refine J.cond_true rfl ?_
  refine J.seq ?_
  refine J.region ?_
  refine J.op (Yd.move rfl) rfl ?_
  refine J.op (Yd.move rfl) rfl ?_
  refine J.op (Yd.nilCheck rfl) rfl ?_
  refine J.op (Yd.cast (Yd.fieldA Try.underlying56 rfl ti54 rfl rfl) (show _ = Value.pointer (some ⟨b, 1, none⟩) from rfl)) rfl ?_
  refine J.op (Yd.load pl54 rfl (Cel.cell1 hc 1 rfl)) rfl ?_
  refine J.eff (Ye.call cl25 rfl (Delete_any (i := 0) (j := 1) h2 ho2 (by omega) (by simp only [List.length_append, List.length_singleton]; omega))) rfl ?_
  rintro s69_8 w8 ⟨os69_8, hsf, x1⟩
  have hsf_s69_8 : SF w s.ownBlock s69_8.ownBlock := SF.tr hsf_s2 hsf e0.size
  have ap_b_s69_8 : Ap (some b) s69_8.ownBlock := Ap.sf ap_b_s2 (Cel.live hc) hsf
  have ap_s48_4_s69_8 : Ap s48_4.ownBlock s69_8.ownBlock := Ap.sf ap_s48_4_s2 (Ow.live os48_4) hsf
  have ap_sl_s69_8 : Ap sl.ownBlock s69_8.ownBlock := Ap.sf ap_sl_s2 (Es.live hsl) hsf
  have hc := Cel.tnk hc x1 (ApL.one ap_b_s2)
  have os48_4 := Ow.tnk os48_4 x1 (ApL.one ap_s48_4_s2)
  have hsl := Es.tnk hsl x1 (ApL.one ap_sl_s2)
  have e0 := Tn.tnk e0 (fun q hq => by simp only [List.mem_singleton] at hq; subst hq; exact SF.mem hsf_s2 (by simp)) x1
  clear x1
  clear hsf
  refine J.op (Yd.nilCheck rfl) rfl ?_
  refine J.op (Yd.cast (Yd.fieldA Try.underlying56 rfl ti54 rfl rfl) (show _ = Value.pointer (some ⟨b, 1, none⟩) from rfl)) rfl ?_
  refine J.eff0 (Ye.store1 ti54 hc 1 rfl rfl rfl rfl (Er.cells (Es.rd os69_8)) (Er.one (Es.rd os69_8))) ?_
  rintro _ w9 ⟨cX, hu⟩
  simp only [List.set_cons_zero, List.set_cons_succ] at cX
  have hg := hu.gb
  have os48_4 := Ow.gbk os48_4 hg (Ap.symm ap_b_s48_4)
  have hsl := Es.gbk hsl hg (Ap.symm ap_b_sl)
  have os69_8 := Es.gbk os69_8 hg (Ap.symm ap_b_s69_8)
  have e0 := Tn.gbk e0 (.inl (by simp)) hg
  clear hg
  replace hc := cX
  clear cX hu
  refine J.nil ?_
  refine J.n_then ?_
  refine J.seq ?_
  refine J.region ?_
  refine J.op (Yd.assign rfl) rfl ?_
  refine J.op (Yd.assign rfl) rfl ?_
  refine J.nil ?_
  refine J.n_then ?_
  refine J.ret ?_
  refine J.r_then ?_
  exact J.ret2 rfl rfl rfl (⟨_, rfl, s69_8, s48_4, rfl, hc, os69_8, os48_4, ap_b_s69_8, ap_b_s48_4, ap_s48_4_s69_8, hsf_s69_8, e0⟩)

theorem Put_has {b : Nat} {n : Int} {s : Value} {es : List Ent} {m1 m2 : Int} {a : Value} {l : List UInt8} {w : World} (hc : Cel w b 56 [(0, 1, [I n]), (1, 1, [s])]) (hr : Er entS w s es) (ha : Bs w a l) (hn : 1 ≤ n) (hv : wiK m1 ∧ wiK m2 ∧ l.length = 32) (hq : decide (idxI (eqE m1 m2) es ≥ 0) = true) : C Try.prog 10 [.pointer (some ⟨b, 0, none⟩), I m1, I m2, a] w (Ret fun v w' => v = .tuple #[I 0, I 8] ∧ Ext w w') := by
  have e0 := Ext.refl w
  refine C.enter Try.func10 rfl Try.ntmps10 rfl ?_
  refine J.seq ?_
  refine J.region ?_
  refine J.op (Yd.assign rfl) rfl ?_
  refine J.op (Yd.assign rfl) rfl ?_
  refine J.nil ?_
  refine J.n_then ?_
  refine J.seq ?_
  refine J.block ?_
  refine J.seq ?_
  refine J.region ?_
  refine J.op (Yd.move rfl) rfl ?_
  refine J.op (Yd.cast (Yd.eqPn Try.underlying23 rfl rfl) (show _ = Value.bool false from rfl)) rfl ?_
  refine J.op (Yd.move rfl) rfl ?_
  refine J.op_g rfl rfl rfl (Yd.move rfl) rfl ?_
  refine J.op_g rfl rfl rfl (Yd.nilCheck rfl) rfl ?_
  refine J.op_g rfl rfl rfl (Yd.cast (Yd.fieldA Try.underlying56 rfl ti3 rfl rfl) (show _ = Value.pointer (some ⟨b, 0, none⟩) from rfl)) rfl ?_
  refine J.op_g rfl rfl rfl (Yd.load pl3 rfl (Cel.cell1 (Cel.ext hc e0) 0 rfl)) rfl ?_
  refine J.op_g rfl rfl rfl (Yd.eql rfl rfl) rfl ?_
  refine J.op (Yd.pick_f rfl rfl) rfl ?_
  refine J.op (Yd.move rfl) rfl ?_
  refine J.know (t := 20) (v' := .bool false) rfl (ff (by omega)) ?_
  refine J.op_g rfl rfl rfl (Yd.move rfl) rfl ?_
  refine J.eff_g rfl rfl rfl (Ye.call cl23 rfl (Within_ok)) rfl ?_
  rintro _ w1 ⟨rfl, x1⟩
  have e0 := e0.trans x1
  clear x1
  refine J.op_g rfl rfl rfl (Yd.not_dec rfl) rfl ?_
  refine J.op (Yd.pick_f rfl rfl) rfl ?_
  refine J.op (Yd.move rfl) rfl ?_
  refine J.know (t := 25) (v' := .bool false) rfl (ff (by intro h; exact h hv.1)) ?_
  refine J.op_g rfl rfl rfl (Yd.move rfl) rfl ?_
  refine J.eff_g rfl rfl rfl (Ye.call cl23 rfl (Within_ok)) rfl ?_
  rintro _ w2 ⟨rfl, x1⟩
  have e0 := e0.trans x1
  clear x1
  refine J.op_g rfl rfl rfl (Yd.not_dec rfl) rfl ?_
  refine J.op (Yd.pick_f rfl rfl) rfl ?_
  refine J.op (Yd.move rfl) rfl ?_
  refine J.know (t := 30) (v' := .bool false) rfl (ff (by intro h; exact h hv.2.1)) ?_
  refine J.op_g rfl rfl rfl (Yd.move rfl) rfl ?_
  refine J.op_g rfl rfl rfl (Yd.len_b Try.underlying29 rfl (Rd.ext ha e0)) rfl ?_
  refine J.op_g rfl rfl rfl (Yd.neq rfl rfl) rfl ?_
  refine J.op (Yd.pick_f rfl rfl) rfl ?_
  refine J.op (Yd.assign rfl) rfl ?_
  refine J.nil ?_
  refine J.n_then ?_
  refine J.know (t := 10) (v' := .bool false) rfl (ff (by exact fun h => h (by rw [hv.2.2]; rfl))) ?_
  refine J.cond_false rfl ?_
  refine J.seq ?_
  refine J.region ?_
  refine J.op (Yd.move rfl) rfl ?_
  refine J.op (Yd.move rfl) rfl ?_
  refine J.op (Yd.move rfl) rfl ?_
  refine J.eff (Ye.call cl16 rfl (Has_is (Cel.ext hc e0) (Er.ext hr e0) (t := true) hq)) rfl ?_
  rintro _ w3 ⟨rfl, x1⟩
  have e0 := e0.trans x1
  clear x1
  refine J.op (Yd.assign rfl) rfl ?_
  refine J.nil ?_
  refine J.n_then ?_
  refine J.cond_true rfl ?_
  refine J.seq ?_
  refine J.region ?_
  refine J.op (Yd.assign rfl) rfl ?_
  refine J.op (Yd.assign rfl) rfl ?_
  refine J.nil ?_
  refine J.n_then ?_
  refine J.ret ?_
  refine J.r_block ?_
  refine J.r_then ?_
  exact J.ret2 rfl rfl rfl (⟨_, rfl, rfl, e0⟩)

theorem PutNil_ok {m1 m2 : Int} {a : Value} {w : World} : C Try.prog 10 [.pointer none, I m1, I m2, a] w (Ret fun v w' => v = .tuple #[I 0, I 1] ∧ Ext w w') := by
  have e0 := Ext.refl w
  refine C.enter Try.func10 rfl Try.ntmps10 rfl ?_
  refine J.seq ?_
  refine J.region ?_
  refine J.op (Yd.assign rfl) rfl ?_
  refine J.op (Yd.assign rfl) rfl ?_
  refine J.nil ?_
  refine J.n_then ?_
  refine J.seq ?_
  refine J.block ?_
  refine J.seq ?_
  refine J.region ?_
  refine J.op (Yd.move rfl) rfl ?_
  refine J.op (Yd.cast (Yd.eqPn Try.underlying23 rfl rfl) (show _ = Value.bool true from rfl)) rfl ?_
  refine J.op (Yd.move rfl) rfl ?_
  refine J.not_g rfl rfl rfl rfl rfl ?_
  refine J.not_g rfl rfl rfl rfl rfl ?_
  refine J.not_g rfl rfl rfl rfl rfl ?_
  refine J.not_g rfl rfl rfl rfl rfl ?_
  refine J.not_g rfl rfl rfl rfl rfl ?_
  refine J.op (Yd.pick_t rfl rfl) rfl ?_
  refine J.op (Yd.move rfl) rfl ?_
  refine J.not_g rfl rfl rfl rfl rfl ?_
  refine J.not_g rfl rfl rfl rfl rfl ?_
  refine J.not_g rfl rfl rfl rfl rfl ?_
  refine J.op (Yd.pick_t rfl rfl) rfl ?_
  refine J.op (Yd.move rfl) rfl ?_
  refine J.not_g rfl rfl rfl rfl rfl ?_
  refine J.not_g rfl rfl rfl rfl rfl ?_
  refine J.not_g rfl rfl rfl rfl rfl ?_
  refine J.op (Yd.pick_t rfl rfl) rfl ?_
  refine J.op (Yd.move rfl) rfl ?_
  refine J.not_g rfl rfl rfl rfl rfl ?_
  refine J.not_g rfl rfl rfl rfl rfl ?_
  refine J.not_g rfl rfl rfl rfl rfl ?_
  refine J.op (Yd.pick_t rfl rfl) rfl ?_
  refine J.op (Yd.assign rfl) rfl ?_
  refine J.nil ?_
  refine J.n_then ?_
  refine J.cond_true rfl ?_
  refine J.seq ?_
  refine J.region ?_
  refine J.op (Yd.assign rfl) rfl ?_
  refine J.op (Yd.assign rfl) rfl ?_
  refine J.nil ?_
  refine J.n_then ?_
  refine J.ret ?_
  refine J.r_block ?_
  refine J.r_then ?_
  exact J.ret2 rfl rfl rfl (⟨_, rfl, rfl, e0⟩)
end Ytfefphcmfhabiaa
end Go.Proofs
