import Derived.Test.YtmpfgiffpdackaaT
import Derived.Test.YtmpfgiffpdackaaG17
import Derived.Test.YtmpfgiffpdackaaX33
set_option linter.unusedVariables false
set_option linter.unusedSimpArgs false
set_option maxRecDepth 100000
set_option maxHeartbeats 4000000
namespace Go.Proofs
open Go.X Go.RowKit
namespace Ytmpfgiffpdackaa
theorem RPut_fr {b : Nat} {ex now last : Int} {s : Value} {es : List Ri} {fr to : Key} {a : Value} {l : List UInt8} {w : World} (hc : Cel w b 52 [(0, 1, [I ex]), (1, 1, [I now]), (2, 1, [I last]), (3, 1, [s])]) (hr : Er riS w s es) (h1 : ∀ x ∈ es, x.2.2.2.2.oneCell' = true) (ha : Bs w a l) (hn1 : fr.length ≤ 1000000 ∧ nameB fr = false) : C Try.prog 19 [.pointer (some ⟨b, 0, none⟩), Str fr, Str to, a] w (Ret fun v w' => v = .tuple #[I 0, I 1] ∧ Ext w w') := by
  have hmx := Er.max hr
  have e0 := Ext.refl w
  refine C.enter Try.func19 rfl Try.ntmps19 rfl ?_
  refine J.seq ?_
  refine J.region ?_
  refine J.op (Yd.assign rfl) rfl ?_
  refine J.op (Yd.assign rfl) rfl ?_
  refine J.nil ?_
  refine J.n_then ?_
  refine J.seq ?_
  refine J.seq ?_
  refine J.region ?_
  refine J.op (Yd.move rfl) rfl ?_
  refine J.eff (Ye.call cl25 rfl (RefName_is hn1)) rfl ?_
  rintro _ w1 ⟨rfl, x1⟩
  have e0 := e0.trans x1
  clear x1
  refine J.op (Yd.not rfl) rfl ?_
  refine J.op (Yd.move rfl) rfl ?_
  refine J.not_g rfl rfl rfl rfl rfl ?_
  refine J.not_g rfl rfl rfl rfl rfl ?_
  refine J.not_g rfl rfl rfl rfl rfl ?_
  refine J.op (Yd.pick_t rfl rfl) rfl ?_
  refine J.nil ?_
  refine J.n_then ?_
  refine J.cond_true rfl ?_
  refine J.seq ?_
  refine J.region ?_
  refine J.op (Yd.assign rfl) rfl ?_
  refine J.op (Yd.assign rfl) rfl ?_
  refine J.nil ?_
  refine J.n_then ?_
  refine J.ret ?_
  refine J.r_then ?_
  exact J.ret2 rfl rfl rfl (⟨_, rfl, rfl, e0⟩)

theorem RPut_to {b : Nat} {ex now last : Int} {s : Value} {es : List Ri} {fr to : Key} {a : Value} {l : List UInt8} {w : World} (hc : Cel w b 52 [(0, 1, [I ex]), (1, 1, [I now]), (2, 1, [I last]), (3, 1, [s])]) (hr : Er riS w s es) (h1 : ∀ x ∈ es, x.2.2.2.2.oneCell' = true) (ha : Bs w a l) (hn1 : fr.length ≤ 1000000 ∧ nameB fr = true) (hn2 : to.length ≤ 1000000 ∧ nameB to = false) : C Try.prog 19 [.pointer (some ⟨b, 0, none⟩), Str fr, Str to, a] w (Ret fun v w' => v = .tuple #[I 0, I 1] ∧ Ext w w') := by
  have hmx := Er.max hr
  have e0 := Ext.refl w
  refine C.enter Try.func19 rfl Try.ntmps19 rfl ?_
  refine J.seq ?_
  refine J.region ?_
  refine J.op (Yd.assign rfl) rfl ?_
  refine J.op (Yd.assign rfl) rfl ?_
  refine J.nil ?_
  refine J.n_then ?_
  refine J.seq ?_
  refine J.seq ?_
  refine J.region ?_
  refine J.op (Yd.move rfl) rfl ?_
  refine J.eff (Ye.call cl25 rfl (RefName_is hn1)) rfl ?_
  rintro _ w1 ⟨rfl, x1⟩
  have e0 := e0.trans x1
  clear x1
  refine J.op (Yd.not rfl) rfl ?_
  refine J.op (Yd.move rfl) rfl ?_
  refine J.op_g rfl rfl rfl (Yd.move rfl) rfl ?_
  refine J.eff_g rfl rfl rfl (Ye.call cl25 rfl (RefName_is hn2)) rfl ?_
  rintro _ w2 ⟨rfl, x1⟩
  have e0 := e0.trans x1
  clear x1
  refine J.op_g rfl rfl rfl (Yd.not rfl) rfl ?_
  refine J.op (Yd.pick_f rfl rfl) rfl ?_
  refine J.nil ?_
  refine J.n_then ?_
  refine J.cond_true rfl ?_
  refine J.seq ?_
  refine J.region ?_
  refine J.op (Yd.assign rfl) rfl ?_
  refine J.op (Yd.assign rfl) rfl ?_
  refine J.nil ?_
  refine J.n_then ?_
  refine J.ret ?_
  refine J.r_then ?_
  exact J.ret2 rfl rfl rfl (⟨_, rfl, rfl, e0⟩)

theorem RPut_big {b : Nat} {ex now last : Int} {s : Value} {es : List Ri} {fr to : Key} {a : Value} {l : List UInt8} {w : World} (hc : Cel w b 52 [(0, 1, [I ex]), (1, 1, [I now]), (2, 1, [I last]), (3, 1, [s])]) (hr : Er riS w s es) (h1 : ∀ x ∈ es, x.2.2.2.2.oneCell' = true) (ha : Bs w a l) (hn1 : fr.length ≤ 1000000 ∧ nameB fr = true) (hn2 : to.length ≤ 1000000 ∧ nameB to = true) (hl : 6000 < l.length) : C Try.prog 19 [.pointer (some ⟨b, 0, none⟩), Str fr, Str to, a] w (Ret fun v w' => v = .tuple #[I 0, I 11] ∧ Ext w w') := by
  have hmx := Er.max hr
  have e0 := Ext.refl w
  refine C.enter Try.func19 rfl Try.ntmps19 rfl ?_
  refine J.seq ?_
  refine J.region ?_
  refine J.op (Yd.assign rfl) rfl ?_
  refine J.op (Yd.assign rfl) rfl ?_
  refine J.nil ?_
  refine J.n_then ?_
  refine J.seq ?_
  refine J.seq ?_
  refine J.region ?_
  refine J.op (Yd.move rfl) rfl ?_
  refine J.eff (Ye.call cl25 rfl (RefName_is hn1)) rfl ?_
  rintro _ w1 ⟨rfl, x1⟩
  have e0 := e0.trans x1
  clear x1
  refine J.op (Yd.not rfl) rfl ?_
  refine J.op (Yd.move rfl) rfl ?_
  refine J.op_g rfl rfl rfl (Yd.move rfl) rfl ?_
  refine J.eff_g rfl rfl rfl (Ye.call cl25 rfl (RefName_is hn2)) rfl ?_
  rintro _ w2 ⟨rfl, x1⟩
  have e0 := e0.trans x1
  clear x1
  refine J.op_g rfl rfl rfl (Yd.not rfl) rfl ?_
  refine J.op (Yd.pick_f rfl rfl) rfl ?_
  refine J.nil ?_
  refine J.n_then ?_
  refine J.cond_false rfl ?_
  refine J.skip ?_
  refine J.n_then ?_
  refine J.seq ?_
  refine J.seq ?_
  refine J.region ?_
  refine J.op (Yd.move rfl) rfl ?_
  refine J.op (Yd.len_b Try.underlying34 rfl (Rd.ext ha e0)) rfl ?_
  refine J.op (Yd.gtr rfl rfl) rfl ?_
  refine J.nil ?_
  refine J.n_then ?_
  refine J.know (t := 20) (v' := .bool true) rfl (tt (by omega)) ?_
  refine J.cond_true rfl ?_
  refine J.seq ?_
  refine J.region ?_
  refine J.op (Yd.assign rfl) rfl ?_
  refine J.op (Yd.assign rfl) rfl ?_
  refine J.nil ?_
  refine J.n_then ?_
  refine J.ret ?_
  refine J.r_then ?_
  exact J.ret2 rfl rfl rfl (⟨_, rfl, rfl, e0⟩)

theorem RPut_full {b : Nat} {ex now last : Int} {s : Value} {es : List Ri} {fr to : Key} {a : Value} {l : List UInt8} {w : World} (hc : Cel w b 52 [(0, 1, [I ex]), (1, 1, [I now]), (2, 1, [I last]), (3, 1, [s])]) (hr : Er riS w s es) (h1 : ∀ x ∈ es, x.2.2.2.2.oneCell' = true) (ha : Bs w a l) (hn1 : fr.length ≤ 1000000 ∧ nameB fr = true) (hn2 : to.length ≤ 1000000 ∧ nameB to = true) (hl : l.length ≤ 6000) (hlen : 30 ≤ (es.filter (toR to)).length) (hn3 : es.length ≤ 1000) : C Try.prog 19 [.pointer (some ⟨b, 0, none⟩), Str fr, Str to, a] w (Ret fun v w' => v = .tuple #[I 0, I 9] ∧ Ext w w') := by
  have hmx := Er.max hr
  have e0 := Ext.refl w
  refine C.enter Try.func19 rfl Try.ntmps19 rfl ?_
  refine J.seq ?_
  refine J.region ?_
  refine J.op (Yd.assign rfl) rfl ?_
  refine J.op (Yd.assign rfl) rfl ?_
  refine J.nil ?_
  refine J.n_then ?_
  refine J.seq ?_
  refine J.seq ?_
  refine J.region ?_
  refine J.op (Yd.move rfl) rfl ?_
  refine J.eff (Ye.call cl25 rfl (RefName_is hn1)) rfl ?_
  rintro _ w1 ⟨rfl, x1⟩
  have e0 := e0.trans x1
  clear x1
  refine J.op (Yd.not rfl) rfl ?_
  refine J.op (Yd.move rfl) rfl ?_
  refine J.op_g rfl rfl rfl (Yd.move rfl) rfl ?_
  refine J.eff_g rfl rfl rfl (Ye.call cl25 rfl (RefName_is hn2)) rfl ?_
  rintro _ w2 ⟨rfl, x1⟩
  have e0 := e0.trans x1
  clear x1
  refine J.op_g rfl rfl rfl (Yd.not rfl) rfl ?_
  refine J.op (Yd.pick_f rfl rfl) rfl ?_
  refine J.nil ?_
  refine J.n_then ?_
  refine J.cond_false rfl ?_
  refine J.skip ?_
  refine J.n_then ?_
  refine J.seq ?_
  refine J.seq ?_
  refine J.region ?_
  refine J.op (Yd.move rfl) rfl ?_
  refine J.op (Yd.len_b Try.underlying34 rfl (Rd.ext ha e0)) rfl ?_
  refine J.op (Yd.gtr rfl rfl) rfl ?_
  refine J.nil ?_
  refine J.n_then ?_
  refine J.know (t := 20) (v' := .bool false) rfl (ff (by omega)) ?_
  refine J.cond_false rfl ?_
  refine J.skip ?_
  refine J.n_then ?_
  refine J.seq ?_
  refine J.seq ?_
  refine J.region ?_
  refine J.op (Yd.move rfl) rfl ?_
  refine J.op (Yd.move rfl) rfl ?_
  refine J.eff (Ye.call cl22 rfl (RList_ok (Cel.ext hc e0) (Er.ext hr e0) h1 (by omega))) rfl ?_
  rintro vl w3 ⟨hvl, x1⟩
  have fr_vl : Fr w.heap.size vl.ownBlock := Fr.le (Es.fr hvl) e0.size
  replace hvl := Es.base hvl (Nat.zero_le _)
  have e0 := e0.trans x1
  clear x1
  refine J.op (Yd.lenE (K := riS) Try.underlying49 rfl (Es.rd hvl)) rfl ?_
  refine J.op (Yd.geq rfl rfl) rfl ?_
  refine J.nil ?_
  refine J.n_then ?_
  refine J.know (t := 25) (v' := .bool true) rfl (tt (by omega)) ?_
  refine J.cond_true rfl ?_
  refine J.seq ?_
  refine J.region ?_
  refine J.op (Yd.assign rfl) rfl ?_
  refine J.op (Yd.assign rfl) rfl ?_
  refine J.nil ?_
  refine J.n_then ?_
  refine J.ret ?_
  refine J.r_then ?_
  exact J.ret2 rfl rfl rfl (⟨_, rfl, rfl, e0⟩)

theorem RPut_ok {b : Nat} {ex now last : Int} {s : Value} {es : List Ri} {fr to : Key} {a : Value} {l : List UInt8} {w : World} (hc : Cel w b 52 [(0, 1, [I ex]), (1, 1, [I now]), (2, 1, [I last]), (3, 1, [s])]) (hr : Er riS w s es) (hap : Ap (some b) s.ownBlock) (h1 : ∀ x ∈ es, x.2.2.2.2.oneCell' = true) (hak : ∀ W, Tn [some b] w W → Bs W a l) (hn1 : fr.length ≤ 1000000 ∧ nameB fr = true) (hn2 : to.length ≤ 1000000 ∧ nameB to = true) (hl : l.length ≤ 6000) (hlen : (es.filter (toR to)).length < 30) (hlast : 0 ≤ last ∧ last ≤ 1000000000) (hn3 : es.length ≤ 1000) : C Try.prog 19 [.pointer (some ⟨b, 0, none⟩), Str fr, Str to, a] w (Ret fun u w' => ∃ s', u = .tuple #[I (last + 1), I 0] ∧ Cel w' b 52 [(0, 1, [I ex]), (1, 1, [I now]), (2, 1, [I (last + 1)]), (3, 1, [s'])] ∧ Er riS w' s' (es ++ [((last + 1, fr, to, now, a) : Ri)]) ∧ Live w' s'.ownBlock ∧ Fr w.heap.size s'.ownBlock ∧ Tn [some b] w w') := by
  have hrf := fun (W_ : World) (e_ : Tn [some b] w W_) => Er.tnk hr e_ (ApL.one (Ap.symm hap))
  have hmx := Er.max hr
  have e0 := Tn.refl [(some b)] w
  refine C.enter Try.func19 rfl Try.ntmps19 rfl ?_
  refine J.seq ?_
  refine J.region ?_
  refine J.op (Yd.assign rfl) rfl ?_
  refine J.op (Yd.assign rfl) rfl ?_
  refine J.nil ?_
  refine J.n_then ?_
  refine J.seq ?_
  refine J.seq ?_
  refine J.region ?_
  refine J.op (Yd.move rfl) rfl ?_
  refine J.eff (Ye.call cl25 rfl (RefName_is hn1)) rfl ?_
  rintro _ w1 ⟨rfl, x1⟩
  have e0 := Tn.ext e0 x1
  have hc := hc.ext x1
  clear x1
  refine J.op (Yd.not rfl) rfl ?_
  refine J.op (Yd.move rfl) rfl ?_
  refine J.op_g rfl rfl rfl (Yd.move rfl) rfl ?_
  refine J.eff_g rfl rfl rfl (Ye.call cl25 rfl (RefName_is hn2)) rfl ?_
  rintro _ w2 ⟨rfl, x1⟩
  have e0 := Tn.ext e0 x1
  have hc := hc.ext x1
  clear x1
  refine J.op_g rfl rfl rfl (Yd.not rfl) rfl ?_
  refine J.op (Yd.pick_f rfl rfl) rfl ?_
  refine J.nil ?_
  refine J.n_then ?_
  refine J.cond_false rfl ?_
  refine J.skip ?_
  refine J.n_then ?_
  refine J.seq ?_
  refine J.seq ?_
  refine J.region ?_
  refine J.op (Yd.move rfl) rfl ?_
  refine J.op (Yd.len_b Try.underlying34 rfl (hak _ e0)) rfl ?_
  refine J.op (Yd.gtr rfl rfl) rfl ?_
  refine J.nil ?_
  refine J.n_then ?_
  refine J.know (t := 20) (v' := .bool false) rfl (ff (by omega)) ?_
  refine J.cond_false rfl ?_
  refine J.skip ?_
  refine J.n_then ?_
  refine J.seq ?_
  refine J.seq ?_
  refine J.region ?_
  refine J.op (Yd.move rfl) rfl ?_
  refine J.op (Yd.move rfl) rfl ?_
  refine J.eff (Ye.call cl22 rfl (RList_ok hc (hrf _ e0) h1 (by omega))) rfl ?_
  rintro vl w3 ⟨hvl, x1⟩
  have ap_b_vl : Ap (some b) vl.ownBlock := Ap.mk (Cel.live hc) (Es.fr hvl)
  have fr_vl : Fr w.heap.size vl.ownBlock := Fr.le (Es.fr hvl) e0.size
  replace hvl := Es.base hvl (Nat.zero_le _)
  have e0 := Tn.ext e0 x1
  have hc := hc.ext x1
  clear x1
  refine J.op (Yd.lenE (K := riS) Try.underlying49 rfl (Es.rd hvl)) rfl ?_
  refine J.op (Yd.geq rfl rfl) rfl ?_
  refine J.nil ?_
  refine J.n_then ?_
  refine J.know (t := 25) (v' := .bool false) rfl (ff (by omega)) ?_
  refine J.cond_false rfl ?_
  refine J.skip ?_
  refine J.n_then ?_
  refine J.seq ?_
  refine J.region ?_
  refine J.op (Yd.move rfl) rfl ?_
  refine J.op (Yd.nilCheck rfl) rfl ?_
  refine J.op (Yd.cast (Yd.fieldA Try.underlying52 rfl ti3 rfl rfl) (show _ = Value.pointer (some ⟨b, 2, none⟩) from rfl)) rfl ?_
  refine J.op (Yd.load pl3 rfl (Cel.cell1 hc 2 rfl)) rfl ?_
  refine J.op (Yd.add rfl rfl (by first | omega | exact idx_u8' _ | (simp only [Int.toNat_natCast]; omega) | (simp only [List.length_map, List.length_drop, List.length_take, List.length_append, List.length_replicate]; omega) | (simp <;> omega))) rfl ?_
  refine J.op (Yd.nilCheck rfl) rfl ?_
  refine J.op (Yd.cast (Yd.fieldA Try.underlying52 rfl ti3 rfl rfl) (show _ = Value.pointer (some ⟨b, 2, none⟩) from rfl)) rfl ?_
  refine J.eff0 (Ye.store1 ti3 hc 2 rfl rfl rfl rfl rfl rfl) ?_
  rintro _ w4 ⟨cX, hu⟩
  simp only [List.set_cons_zero, List.set_cons_succ] at cX
  have hg := hu.gb
  have hvl := Es.gbk hvl hg (Ap.symm ap_b_vl)
  have e0 := Tn.gbk e0 (.inl (by simp)) hg
  clear hg
  replace hc := cX
  clear cX hu
  refine J.nil ?_
  refine J.n_then ?_
  refine J.seq ?_
  have haV := hak _ e0
  have hcV := Rd.cells haV
  have hoV := Rd.one haV
  refine J.regionA [(0, true), (2, true), (3, true), (4, true), (7, true), (8, true), (9, true), (11, true), (12, true), (13, true), (14, true), (15, true), (17, true)] [(1, Asr.e0 riS 34 w4.heap.size 57), (5, Asr.v 38 (s)), (6, Asr.es riS 39 w4.heap.size 57 es), (10, Asr.v 43 (I (last + 1))), (16, Asr.v 49 (I now)), (18, Asr.v 51 (Value.agg (riS.c ((last + 1, fr, to, now, a) : Ri)).toArray)), (19, Asr.es riS 52 w4.heap.size 57 [((last + 1, fr, to, now, a) : Ri)])] [1, 5, 6, 10, 16, 18, 19] [34, 38, 39, 43, 49, 51, 52] [[], [], [0, 1], [], [], [3, 4], [3, 4, 5]] [(20, false), (21, true), (22, true), (23, false)] rfl rfl mix (by kernel_rfl) ?_
  refine J.s_op rfl (fun _ => Yd.move rfl) rfl ?_
  refine J.s_op rfl (fun _ => Yd.move rfl) rfl ?_
  refine J.s_op rfl (fun _ => Yd.nilCheck rfl) rfl ?_
  refine J.s_op rfl (fun _ => Yd.cast (Yd.fieldA Try.underlying52 rfl ti49 rfl rfl) (show _ = Value.pointer (some ⟨b, 3, none⟩) from rfl)) rfl ?_
  refine J.s_op rfl (fun _ => Yd.move rfl) rfl ?_
  refine J.s_op rfl (fun _ => Yd.nilCheck rfl) rfl ?_
  refine J.s_op rfl (fun _ => Yd.cast (Yd.fieldA Try.underlying52 rfl ti3 rfl rfl) (show _ = Value.pointer (some ⟨b, 2, none⟩) from rfl)) rfl ?_
  refine J.s_op rfl (fun _ => Yd.move rfl) rfl ?_
  refine J.s_op rfl (fun _ => Yd.move rfl) rfl ?_
  refine J.s_op rfl (fun _ => Yd.move rfl) rfl ?_
  refine J.s_op rfl (fun _ => Yd.nilCheck rfl) rfl ?_
  refine J.s_op rfl (fun _ => Yd.cast (Yd.fieldA Try.underlying52 rfl ti3 rfl rfl) (show _ = Value.pointer (some ⟨b, 1, none⟩) from rfl)) rfl ?_
  refine J.s_op rfl (fun _ => Yd.move rfl) rfl ?_
  refine J.s_nil ?_
  refine J.a_in [0, 1, 2, 3, 4, 5, 6] rfl (by rfl) ⟨?_, ?_, ?_, ?_, ?_, ?_, ?_, trivial⟩ ?_
  · skip
    intro w5 x1
    have xs1 := x1.size
    have e0 := Tn.ext e0 x1
    have hc := hc.ext x1
    have hvl := hvl.ext x1
    clear x1
    refine PremP.nil ?_
    exact OpYe.mk rfl (Ye.mono (Ye.litE0x (K := riS) (base := w5.heap.size) Try.underlying49 ti57 (Nat.le_refl _)) fun v w2 h => let ⟨⟨g_, e_, h1⟩, h2⟩ := h; ⟨⟨g_, e_, Es.base h1 xs1⟩, h2⟩)
  · skip
    intro w6 x1
    have xs1 := x1.size
    have e0 := Tn.ext e0 x1
    have hc := hc.ext x1
    have hvl := hvl.ext x1
    clear x1
    refine PremP.nil ?_
    exact OpYe.val rfl (Yd.load pl49 rfl (Cel.cell1 hc 3 rfl))
  · skip
    intro w7 x1
    refine PremP.e0 rfl fun s34_7 o34_7 => ?_
    have ap_b_s34_7 : Ap (some b) (sl0 s34_7).ownBlock := Ap.mk (Cel.live hc) (Es.fr o34_7)
    have ap_vl_s34_7 : Ap vl.ownBlock (sl0 s34_7).ownBlock := Ap.mk (Es.live hvl) (Es.fr o34_7)
    have fr_s34_7 : Fr w.heap.size (sl0 s34_7).ownBlock := Fr.le (Es.fr o34_7) e0.size
    refine PremP.v rfl ?_
    have xs1 := x1.size
    have e0 := Tn.ext e0 x1
    have hc := hc.ext x1
    have hvl := hvl.ext x1
    clear x1
    refine PremP.nil ?_
    exact OpYe.mk rfl (Ye.mono (Ye.append0 (K := riS) Try.underlying49 ti57 rfl rfl rfl rfl o34_7 (hrf _ e0) (ri_one h1) (by omega) xs1) fun v w2 h => ⟨⟨v, rfl, Es.base h.1 (by first | exact xs1 | exact Nat.le_refl _)⟩, h.2⟩)
  · skip
    intro w8 x1
    have xs1 := x1.size
    have e0 := Tn.ext e0 x1
    have hc := hc.ext x1
    have hvl := hvl.ext x1
    clear x1
    refine PremP.nil ?_
    exact OpYe.val rfl (Yd.load pl3 rfl (Cel.cell1 hc 2 rfl))
  · skip
    intro w9 x1
    have xs1 := x1.size
    have e0 := Tn.ext e0 x1
    have hc := hc.ext x1
    have hvl := hvl.ext x1
    clear x1
    refine PremP.nil ?_
    exact OpYe.val rfl (Yd.load pl3 rfl (Cel.cell1 hc 1 rfl))
  · skip
    intro w10 x1
    refine PremP.v rfl ?_
    refine PremP.v rfl ?_
    have xs1 := x1.size
    have e0 := Tn.ext e0 x1
    have hc := hc.ext x1
    have hvl := hvl.ext x1
    clear x1
    refine PremP.nil ?_
    exact OpYe.val rfl (Yd.cast (Yd.buildV (pl := [(0, 1), (1, 1), (2, 1), (3, 1), (4, 1)]) Try.underlying57 (by kernel_rfl) ti57 rfl rfl (by simp [OffOK, cells_agg, cells_int, cells_str, hcV]) (by simp [catV, cells_agg, cells_int, cells_str, hcV])) (show _ = Value.agg (riS.c ((last + 1, fr, to, now, a) : Ri)).toArray from by simp [catV, cells_agg, cells_int, cells_str, hcV, riS]))
  · skip
    intro w11 x1
    refine PremP.v rfl ?_
    refine PremP.v rfl ?_
    refine PremP.v rfl ?_
    have xs1 := x1.size
    have e0 := Tn.ext e0 x1
    have hc := hc.ext x1
    have hvl := hvl.ext x1
    clear x1
    refine PremP.nil ?_
    exact OpYe.mk rfl (Ye.mono (Ye.litE1 (K := riS) (u := ((last + 1, fr, to, now, a) : Ri)) (base := w11.heap.size) Try.underlying49 ti57 rfl rfl rfl (Nat.le_refl _)) fun v w2 h => ⟨⟨v, rfl, Es.base h.1 (by first | exact xs1 | exact Nat.le_refl _)⟩, h.2⟩)
  intro w12 x1
  refine PremP.e0 rfl fun s34_12 o34_12 => ?_
  have ap_b_s34_12 : Ap (some b) (sl0 s34_12).ownBlock := Ap.mk (Cel.live hc) (Es.fr o34_12)
  have ap_vl_s34_12 : Ap vl.ownBlock (sl0 s34_12).ownBlock := Ap.mk (Es.live hvl) (Es.fr o34_12)
  have fr_s34_12 : Fr w.heap.size (sl0 s34_12).ownBlock := Fr.le (Es.fr o34_12) e0.size
  refine PremP.v rfl ?_
  refine PremP.es rfl fun s39_12 o39_12 => ?_
  have ap_b_s39_12 : Ap (some b) s39_12.ownBlock := Ap.mk (Cel.live hc) (Es.fr o39_12)
  have ap_vl_s39_12 : Ap vl.ownBlock s39_12.ownBlock := Ap.mk (Es.live hvl) (Es.fr o39_12)
  have fr_s39_12 : Fr w.heap.size s39_12.ownBlock := Fr.le (Es.fr o39_12) e0.size
  refine PremP.v rfl ?_
  refine PremP.v rfl ?_
  refine PremP.v rfl ?_
  refine PremP.es rfl fun s52_12 o52_12 => ?_
  have ap_b_s52_12 : Ap (some b) s52_12.ownBlock := Ap.mk (Cel.live hc) (Es.fr o52_12)
  have ap_vl_s52_12 : Ap vl.ownBlock s52_12.ownBlock := Ap.mk (Es.live hvl) (Es.fr o52_12)
  have fr_s52_12 : Fr w.heap.size s52_12.ownBlock := Fr.le (Es.fr o52_12) e0.size
  have xs1 := x1.size
  have e0 := Tn.ext e0 x1
  have hc := hc.ext x1
  have hvl := hvl.ext x1
  clear x1
  refine PremP.nil ?_
  refine J.s_eff rfl (Ye.appendE (K := riS) Try.underlying49 ti57 rfl rfl rfl rfl o39_12 (Es.rd o52_12) (ri_one (fun x hx => by rw [List.mem_singleton] at hx; subst hx; exact hoV)) (by simp only [List.length_append, List.length_singleton, List.length_nil]; omega) xs1) rfl ?_
  rintro sB w13 ⟨hsB, hg, hsf⟩
  have ap_b_sB : Ap (some b) sB.ownBlock := Ap.sf ap_b_s39_12 (Cel.live hc) hsf
  have ap_vl_sB : Ap vl.ownBlock sB.ownBlock := Ap.sf ap_vl_s39_12 (Es.live hvl) hsf
  have fr_sB : Fr w.heap.size sB.ownBlock := Fr.sf fr_s39_12 hsf e0.size
  have hc := Cel.gbk hc hg ap_b_s39_12
  have hvl := Es.gbk hvl hg ap_vl_s39_12
  have e0 := Tn.gbk e0 (.inr fr_s39_12) hg
  clear hg hsf
  refine J.s_op rfl (fun _ => Yd.nilCheck rfl) rfl ?_
  refine J.s_op rfl (fun _ => Yd.cast (Yd.fieldA Try.underlying52 rfl ti49 rfl rfl) (show _ = Value.pointer (some ⟨b, 3, none⟩) from rfl)) rfl ?_
  refine J.s_eff0 rfl (Ye.store1 ti49 hc 3 rfl rfl rfl rfl (Er.cells (Es.rd hsB)) (Er.one (Es.rd hsB))) ?_
  rintro _ w14 ⟨cX, hu⟩
  simp only [List.set_cons_zero, List.set_cons_succ] at cX
  have hg := hu.gb
  have hvl := Es.gbk hvl hg (Ap.symm ap_b_vl)
  have hsB := Es.gbk hsB hg (Ap.symm ap_b_sB)
  have e0 := Tn.gbk e0 (.inl (by simp)) hg
  clear hg
  replace hc := cX
  clear cX hu
  refine J.s_nil ?_
  refine J.n_np ?_
  refine J.n_then ?_
  refine J.seq ?_
  refine J.region ?_
  refine J.op (Yd.move rfl) rfl ?_
  refine J.op (Yd.nilCheck rfl) rfl ?_
  refine J.op (Yd.cast (Yd.fieldA Try.underlying52 rfl ti3 rfl rfl) (show _ = Value.pointer (some ⟨b, 2, none⟩) from rfl)) rfl ?_
  refine J.op (Yd.load pl3 rfl (Cel.cell1 hc 2 rfl)) rfl ?_
  refine J.op (Yd.assign rfl) rfl ?_
  refine J.op (Yd.assign rfl) rfl ?_
  refine J.nil ?_
  refine J.n_then ?_
  refine J.ret ?_
  exact J.ret2 rfl rfl rfl (⟨_, rfl, sB, rfl, hc, Es.rd hsB, Es.live hsB, fr_sB, e0⟩)

theorem RAck_ok {b : Nat} {ex now last : Int} {s : Value} {es : List Ri} {to : Key} {sx : Value} {ids : List Int} {w : World} (hc : Cel w b 52 [(0, 1, [I ex]), (1, 1, [I now]), (2, 1, [I last]), (3, 1, [s])]) (hr : Er riS w s es) (hap : Ap (some b) s.ownBlock) (h1 : ∀ x ∈ es, x.2.2.2.2.oneCell' = true) (hi : ∀ W, Tn [some b] w W → Rd W sx (ids.map fun x => I x)) (hn2 : es.length ≤ 1000) : C Try.prog 20 [.pointer (some ⟨b, 0, none⟩), Str to, sx] w (Ret fun u w' => ∃ s', u = I ((es.length : Int) - ((es.filter (fun x => !(toR to x && decide (x.1 ∈ ids)))).length : Int)) ∧ Cel w' b 52 [(0, 1, [I ex]), (1, 1, [I now]), (2, 1, [I last]), (3, 1, [s'])] ∧ Er riS w' s' (es.filter (fun x => !(toR to x && decide (x.1 ∈ ids)))) ∧ Live w' s'.ownBlock ∧ Fr w.heap.size s'.ownBlock ∧ Tn [some b] w w') := by
  have hrf := fun (W_ : World) (e_ : Tn [some b] w W_) => Er.tnk hr e_ (ApL.one (Ap.symm hap))
  have hmx := Er.max hr
  have e0 := Tn.refl [(some b)] w
  refine C.enter Try.func20 rfl Try.ntmps20 rfl ?_
  refine J.seq ?_
  refine J.region ?_
  refine J.op (Yd.assign rfl) rfl ?_
  refine J.nil ?_
  refine J.n_then ?_
  refine J.seq ?_
  refine J.region ?_
  refine J.op (Yd.assign rfl) rfl ?_
  refine J.nil ?_
  refine J.n_then ?_
  refine J.seq ?_
  refine J.seq ?_
  refine J.region ?_
  refine J.op (Yd.assign rfl) rfl ?_
  refine J.nil ?_
  refine J.n_then ?_
  refine J.block ?_
  refine J.loop (ι := Nat × Value) (fun i => [(1, Str to), (2, sx), (8, I (i.1 : Int)), (0, .pointer (some ⟨b, 0, none⟩)), (7, i.2)]) (fun i w' => i.1 ≤ es.length ∧ Cel w' b 52 [(0, 1, [I ex]), (1, 1, [I now]), (2, 1, [I last]), (3, 1, [s])] ∧ Es riS 0 57 w' i.2 ((es.take i.1).filter (fun x => !(toR to x && decide (x.1 ∈ ids)))) ∧ Fr w.heap.size (i.2).ownBlock ∧ Ap (some b) (i.2).ownBlock ∧ Tn [(some b)] w w') (fun i => es.length - i.1) ((0, nilS)) ⟨rfl, rfl, rfl, rfl, rfl, trivial⟩ (⟨Nat.zero_le _, hc, (Es.nil _ _ _ _), Fr.nil, Ap.nil_r, e0⟩) ?_
  rintro ⟨i, v7⟩ w1 ⟨hk, hc, ho7, fr_v7, ap_b_v7, e0⟩
  dsimp only at *
  have hl9 := List.length_filter_le (fun x => !(toR to x && decide (x.1 ∈ ids))) (es.take i)
  rw [List.length_take] at hl9
  refine J.seq ?_
  refine J.seq ?_
  refine J.region ?_
  refine J.op (Yd.move rfl) rfl ?_
  refine J.op (Yd.move rfl) rfl ?_
  refine J.op (Yd.nilCheck rfl) rfl ?_
  refine J.op (Yd.cast (Yd.fieldA Try.underlying52 rfl ti49 rfl rfl) (show _ = Value.pointer (some ⟨b, 3, none⟩) from rfl)) rfl ?_
  refine J.op (Yd.load pl49 rfl (Cel.cell1 hc 3 rfl)) rfl ?_
  refine J.op (Yd.lenE (K := riS) Try.underlying49 rfl (hrf _ e0)) rfl ?_
  refine J.op (Yd.lss rfl rfl) rfl ?_
  refine J.nil ?_
  refine J.n_then ?_
  refine J.cond_dec rfl (fun hc0 => ?_) (fun hc0 => ?_)
  · skip
    refine J.skip ?_
    refine J.n_then ?_
    refine J.seq ?_
    refine J.block ?_
    refine J.seq ?_
    refine J.region ?_
    refine J.op (Yd.move rfl) rfl ?_
    refine J.op (Yd.nilCheck rfl) rfl ?_
    refine J.op (Yd.cast (Yd.fieldA Try.underlying52 rfl ti49 rfl rfl) (show _ = Value.pointer (some ⟨b, 3, none⟩) from rfl)) rfl ?_
    refine J.op (Yd.load pl49 rfl (Cel.cell1 hc 3 rfl)) rfl ?_
    refine J.op (Yd.move rfl) rfl ?_
    refine J.op (Yd.idxE (K := riS) Try.underlying49 ti57 rfl rfl (hrf _ e0) (by first | omega | exact idx_u8' _ | (simp only [Int.toNat_natCast]; omega) | (simp only [List.length_map, List.length_drop, List.length_take, List.length_append, List.length_replicate]; omega) | (simp <;> omega))) rfl ?_
    refine J.op (Yd.fieldE (K := riS) (hrf _ e0) (by omega) Try.underlying57 rfl ti9 rfl rfl) rfl ?_
    refine J.op (Yd.cast (Yd.loadFd (K := riS) riD pl9 rfl (hrf _ e0) (by first | omega | exact idx_u8' _ | (simp only [Int.toNat_natCast]; omega) | (simp only [List.length_map, List.length_drop, List.length_take, List.length_append, List.length_replicate]; omega) | (simp <;> omega)) rfl) (show _ = Str (es.getD (i : Int).toNat riD).2.2.1 from rfl)) rfl ?_
    refine J.op (Yd.move rfl) rfl ?_
    refine J.op (Yd.sne rfl rfl) rfl ?_
    refine J.op (Yd.move rfl) rfl ?_
    refine J.split_dec (t := 29) rfl (fun hgt => ?_) (fun hgt => ?_)
    · skip
      refine J.not_g rfl rfl rfl rfl rfl ?_
      refine J.not_g rfl rfl rfl rfl rfl ?_
      refine J.not_g rfl rfl rfl rfl rfl ?_
      refine J.not_g rfl rfl rfl rfl rfl ?_
      refine J.not_g rfl rfl rfl rfl rfl ?_
      refine J.not_g rfl rfl rfl rfl rfl ?_
      refine J.not_g rfl rfl rfl rfl rfl ?_
      refine J.not_g rfl rfl rfl rfl rfl ?_
      refine J.not_g rfl rfl rfl rfl rfl ?_
      refine J.not_g rfl rfl rfl rfl rfl ?_
      refine J.not_g rfl rfl rfl rfl rfl ?_
      refine J.op (Yd.pick_t rfl rfl) rfl ?_
      refine J.nil ?_
      refine J.n_then ?_
      refine J.cond_true rfl ?_
      refine J.region ?_
      refine J.op (Yd.move rfl) rfl ?_
      refine J.op (Yd.move rfl) rfl ?_
      refine J.op (Yd.nilCheck rfl) rfl ?_
      refine J.op (Yd.cast (Yd.fieldA Try.underlying52 rfl ti49 rfl rfl) (show _ = Value.pointer (some ⟨b, 3, none⟩) from rfl)) rfl ?_
      refine J.op (Yd.load pl49 rfl (Cel.cell1 hc 3 rfl)) rfl ?_
      refine J.op (Yd.move rfl) rfl ?_
      refine J.op (Yd.idxE (K := riS) Try.underlying49 ti57 rfl rfl (hrf _ e0) (by first | omega | exact idx_u8' _ | (simp only [Int.toNat_natCast]; omega) | (simp only [List.length_map, List.length_drop, List.length_take, List.length_append, List.length_replicate]; omega) | (simp <;> omega))) rfl ?_
      refine J.op (Yd.cast (Yd.loadEd (K := riS) riD ag57 ti57 rfl (hrf _ e0) (by first | omega | exact idx_u8' _ | (simp only [Int.toNat_natCast]; omega) | (simp only [List.length_map, List.length_drop, List.length_take, List.length_append, List.length_replicate]; omega) | (simp <;> omega))) (show _ = Value.agg (riS.c (es.getD i riD)).toArray by rw [Int.toNat_natCast])) rfl ?_
      refine J.eff (Ye.litE1 (K := riS) (u := (es.getD i riD)) (base := w1.heap.size) Try.underlying49 ti57 rfl rfl rfl (Nat.le_refl _)) rfl ?_
      rintro sl w2 ⟨hsl, x1⟩
      have ap_b_sl : Ap (some b) sl.ownBlock := Ap.mk (Cel.live hc) (Es.fr hsl)
      have ap_v7_sl : Ap v7.ownBlock sl.ownBlock := Ap.mk (Es.live ho7) (Es.fr hsl)
      have fr_sl : Fr w.heap.size sl.ownBlock := Fr.le (Es.fr hsl) e0.size
      replace hsl := Es.base hsl (Nat.zero_le _)
      have e0 := Tn.ext e0 x1
      have hc := hc.ext x1
      have ho7 := ho7.ext x1
      clear x1
      refine J.eff (Ye.appendE (K := riS) Try.underlying49 ti57 rfl rfl rfl rfl ho7 (Es.rd hsl) (ri_one (fun x hx => by rw [List.mem_singleton] at hx; subst hx; exact h1 _ (getD_memE riD (by omega)))) (by simp only [List.length_singleton]; omega) (Nat.zero_le _)) rfl ?_
      rintro sB w3 ⟨hsB, hg, hsf⟩
      have ap_b_sB : Ap (some b) sB.ownBlock := Ap.sf ap_b_v7 (Cel.live hc) hsf
      have ap_sl_sB : Ap sl.ownBlock sB.ownBlock := Ap.sf (Ap.symm ap_v7_sl) (Es.live hsl) hsf
      have fr_sB : Fr w.heap.size sB.ownBlock := Fr.sf fr_v7 hsf e0.size
      have hc := Cel.gbk hc hg ap_b_v7
      have e0 := Tn.gbk e0 (.inr fr_v7) hg
      clear hg hsf
      refine J.op (Yd.assign rfl) rfl ?_
      refine J.nil ?_
      refine J.n_block ?_
      refine J.n_then ?_
      refine J.region ?_
      refine J.op (Yd.move rfl) rfl ?_
      refine J.op (Yd.add rfl rfl (by first | omega | exact idx_u8' _ | (simp only [Int.toNat_natCast]; omega) | (simp only [List.length_map, List.length_drop, List.length_take, List.length_append, List.length_replicate]; omega) | (simp <;> omega))) rfl ?_
      refine J.op (Yd.assign rfl) rfl ?_
      refine J.nil ?_
      refine J.n_then ?_
      exact J.round ((i + 1, sB)) ⟨rfl, rfl, rfl, rfl, rfl, trivial⟩ (⟨by show i + 1 ≤ es.length; omega, hc, (by rw [flt_takeG riD (by omega), if_pos (by first | (rw [Int.toNat_natCast] at hgt; unfold toR; rw [decide_eq_false hgt]; rfl) | (rw [decide_eq_false hc1, Bool.and_false]; rfl))]; exact hsB), fr_sB, ap_b_sB, e0⟩) (by show es.length - (i + 1) < es.length - i; omega)
    · skip
      refine J.op_g rfl rfl rfl (Yd.move rfl) rfl ?_
      refine J.op_g rfl rfl rfl (Yd.move rfl) rfl ?_
      refine J.op_g rfl rfl rfl (Yd.nilCheck rfl) rfl ?_
      refine J.op_g rfl rfl rfl (Yd.cast (Yd.fieldA Try.underlying52 rfl ti49 rfl rfl) (show _ = Value.pointer (some ⟨b, 3, none⟩) from rfl)) rfl ?_
      refine J.op_g rfl rfl rfl (Yd.load pl49 rfl (Cel.cell1 hc 3 rfl)) rfl ?_
      refine J.op_g rfl rfl rfl (Yd.move rfl) rfl ?_
      refine J.op_g rfl rfl rfl (Yd.idxE (K := riS) Try.underlying49 ti57 rfl rfl (hrf _ e0) (by first | omega | exact idx_u8' _ | (simp only [Int.toNat_natCast]; omega) | (simp only [List.length_map, List.length_drop, List.length_take, List.length_append, List.length_replicate]; omega) | (simp <;> omega))) rfl ?_
      refine J.op_g rfl rfl rfl (Yd.fieldE (K := riS) (hrf _ e0) (by omega) Try.underlying57 rfl ti3 rfl rfl) rfl ?_
      refine J.op_g rfl rfl rfl (Yd.cast (Yd.loadFd (K := riS) riD pl3 rfl (hrf _ e0) (by first | omega | exact idx_u8' _ | (simp only [Int.toNat_natCast]; omega) | (simp only [List.length_map, List.length_drop, List.length_take, List.length_append, List.length_replicate]; omega) | (simp <;> omega)) rfl) (show _ = I (es.getD (i : Int).toNat riD).1 from rfl)) rfl ?_
      refine J.eff_g rfl rfl rfl (Ye.call cl33 rfl (RIn_ok (hi _ e0))) rfl ?_
      rintro _ w4 ⟨rfl, x1⟩
      have e0 := Tn.ext e0 x1
      have hc := hc.ext x1
      have ho7 := ho7.ext x1
      clear x1
      refine J.op_g rfl rfl rfl (Yd.cast (v' := .bool (decide (¬ (es.getD (i : Int).toNat riD).1 ∈ ids))) (Yd.not rfl) (congrArg Value.bool (by simp))) rfl ?_
      refine J.op (Yd.pick_f rfl rfl) rfl ?_
      refine J.nil ?_
      refine J.n_then ?_
      refine J.cond rfl (fun hc1 => ?_) (fun hc1 => ?_)
      · skip
        rw [Int.toNat_natCast] at hc1
        replace hc1 := of_decide_eq_true hc1
        refine J.region ?_
        refine J.op (Yd.move rfl) rfl ?_
        refine J.op (Yd.move rfl) rfl ?_
        refine J.op (Yd.nilCheck rfl) rfl ?_
        refine J.op (Yd.cast (Yd.fieldA Try.underlying52 rfl ti49 rfl rfl) (show _ = Value.pointer (some ⟨b, 3, none⟩) from rfl)) rfl ?_
        refine J.op (Yd.load pl49 rfl (Cel.cell1 hc 3 rfl)) rfl ?_
        refine J.op (Yd.move rfl) rfl ?_
        refine J.op (Yd.idxE (K := riS) Try.underlying49 ti57 rfl rfl (hrf _ e0) (by first | omega | exact idx_u8' _ | (simp only [Int.toNat_natCast]; omega) | (simp only [List.length_map, List.length_drop, List.length_take, List.length_append, List.length_replicate]; omega) | (simp <;> omega))) rfl ?_
        refine J.op (Yd.cast (Yd.loadEd (K := riS) riD ag57 ti57 rfl (hrf _ e0) (by first | omega | exact idx_u8' _ | (simp only [Int.toNat_natCast]; omega) | (simp only [List.length_map, List.length_drop, List.length_take, List.length_append, List.length_replicate]; omega) | (simp <;> omega))) (show _ = Value.agg (riS.c (es.getD i riD)).toArray by rw [Int.toNat_natCast])) rfl ?_
        refine J.eff (Ye.litE1 (K := riS) (u := (es.getD i riD)) (base := w4.heap.size) Try.underlying49 ti57 rfl rfl rfl (Nat.le_refl _)) rfl ?_
        rintro sl w5 ⟨hsl, x1⟩
        have ap_b_sl : Ap (some b) sl.ownBlock := Ap.mk (Cel.live hc) (Es.fr hsl)
        have ap_v7_sl : Ap v7.ownBlock sl.ownBlock := Ap.mk (Es.live ho7) (Es.fr hsl)
        have fr_sl : Fr w.heap.size sl.ownBlock := Fr.le (Es.fr hsl) e0.size
        replace hsl := Es.base hsl (Nat.zero_le _)
        have e0 := Tn.ext e0 x1
        have hc := hc.ext x1
        have ho7 := ho7.ext x1
        clear x1
        refine J.eff (Ye.appendE (K := riS) Try.underlying49 ti57 rfl rfl rfl rfl ho7 (Es.rd hsl) (ri_one (fun x hx => by rw [List.mem_singleton] at hx; subst hx; exact h1 _ (getD_memE riD (by omega)))) (by simp only [List.length_singleton]; omega) (Nat.zero_le _)) rfl ?_
        rintro sB w6 ⟨hsB, hg, hsf⟩
        have ap_b_sB : Ap (some b) sB.ownBlock := Ap.sf ap_b_v7 (Cel.live hc) hsf
        have ap_sl_sB : Ap sl.ownBlock sB.ownBlock := Ap.sf (Ap.symm ap_v7_sl) (Es.live hsl) hsf
        have fr_sB : Fr w.heap.size sB.ownBlock := Fr.sf fr_v7 hsf e0.size
        have hc := Cel.gbk hc hg ap_b_v7
        have e0 := Tn.gbk e0 (.inr fr_v7) hg
        clear hg hsf
        refine J.op (Yd.assign rfl) rfl ?_
        refine J.nil ?_
        refine J.n_block ?_
        refine J.n_then ?_
        refine J.region ?_
        refine J.op (Yd.move rfl) rfl ?_
        refine J.op (Yd.add rfl rfl (by first | omega | exact idx_u8' _ | (simp only [Int.toNat_natCast]; omega) | (simp only [List.length_map, List.length_drop, List.length_take, List.length_append, List.length_replicate]; omega) | (simp <;> omega))) rfl ?_
        refine J.op (Yd.assign rfl) rfl ?_
        refine J.nil ?_
        refine J.n_then ?_
        exact J.round ((i + 1, sB)) ⟨rfl, rfl, rfl, rfl, rfl, trivial⟩ (⟨by show i + 1 ≤ es.length; omega, hc, (by rw [flt_takeG riD (by omega), if_pos (by first | (rw [Int.toNat_natCast] at hgt; unfold toR; rw [decide_eq_false hgt]; rfl) | (rw [decide_eq_false hc1, Bool.and_false]; rfl))]; exact hsB), fr_sB, ap_b_sB, e0⟩) (by show es.length - (i + 1) < es.length - i; omega)
      · skip
        rw [Int.toNat_natCast] at hc1
        replace hc1 := of_decide_eq_false hc1
        refine J.skip ?_
        refine J.n_block ?_
        refine J.n_then ?_
        refine J.region ?_
        refine J.op (Yd.move rfl) rfl ?_
        refine J.op (Yd.add rfl rfl (by first | omega | exact idx_u8' _ | (simp only [Int.toNat_natCast]; omega) | (simp only [List.length_map, List.length_drop, List.length_take, List.length_append, List.length_replicate]; omega) | (simp <;> omega))) rfl ?_
        refine J.op (Yd.assign rfl) rfl ?_
        refine J.nil ?_
        refine J.n_then ?_
        exact J.round ((i + 1, v7)) ⟨rfl, rfl, rfl, rfl, rfl, trivial⟩ (⟨by show i + 1 ≤ es.length; omega, hc, (by rw [flt_takeG riD (by omega), if_neg (by rw [Int.toNat_natCast] at hgt; unfold toR; rw [decide_eq_true (Classical.not_not.1 hgt), decide_eq_true (Classical.not_not.1 hc1)]; decide), List.append_nil]; exact ho7), fr_v7, ap_b_v7, e0⟩) (by show es.length - (i + 1) < es.length - i; omega)
  · skip
    refine J.exit ?_
    refine J.x_then ?_
    refine J.x_then ?_
    refine J.x_block ?_
    refine J.n_then ?_
    refine J.seq ?_
    refine J.region ?_
    refine J.op (Yd.move rfl) rfl ?_
    refine J.op (Yd.nilCheck rfl) rfl ?_
    refine J.op (Yd.cast (Yd.fieldA Try.underlying52 rfl ti49 rfl rfl) (show _ = Value.pointer (some ⟨b, 3, none⟩) from rfl)) rfl ?_
    refine J.op (Yd.load pl49 rfl (Cel.cell1 hc 3 rfl)) rfl ?_
    refine J.op (Yd.lenE (K := riS) Try.underlying49 rfl (hrf _ e0)) rfl ?_
    refine J.op (Yd.move rfl) rfl ?_
    refine J.op (Yd.lenE (K := riS) Try.underlying49 rfl (Es.rd ho7)) rfl ?_
    refine J.op (Yd.sub rfl rfl (by first | omega | exact idx_u8' _ | (simp only [Int.toNat_natCast]; omega) | (simp only [List.length_map, List.length_drop, List.length_take, List.length_append, List.length_replicate]; omega) | (simp <;> omega))) rfl ?_
    refine J.op (Yd.assign rfl) rfl ?_
    refine J.nil ?_
    refine J.n_then ?_
    refine J.seq ?_
    refine J.region ?_
    refine J.op (Yd.move rfl) rfl ?_
    refine J.op (Yd.move rfl) rfl ?_
    refine J.op (Yd.nilCheck rfl) rfl ?_
    refine J.op (Yd.cast (Yd.fieldA Try.underlying52 rfl ti49 rfl rfl) (show _ = Value.pointer (some ⟨b, 3, none⟩) from rfl)) rfl ?_
    refine J.eff0 (Ye.store1 ti49 hc 3 rfl rfl rfl rfl (Er.cells (Es.rd ho7)) (Er.one (Es.rd ho7))) ?_
    rintro _ w7 ⟨cX, hu⟩
    simp only [List.set_cons_zero, List.set_cons_succ] at cX
    have hg := hu.gb
    have ho7 := Es.gbk ho7 hg (Ap.symm ap_b_v7)
    have e0 := Tn.gbk e0 (.inl (by simp)) hg
    clear hg
    replace hc := cX
    clear cX hu
    refine J.nil ?_
    refine J.n_then ?_
    refine J.seq ?_
    refine J.region ?_
    refine J.op (Yd.move rfl) rfl ?_
    refine J.op (Yd.assign rfl) rfl ?_
    refine J.nil ?_
    refine J.n_then ?_
    refine J.ret ?_
    exact J.ret1 rfl rfl (⟨_, rfl, v7, (by rw [List.take_of_length_le (by omega)]), hc, (by have h9 := Es.rd ho7; rw [List.take_of_length_le (by omega)] at h9; exact h9), Es.live ho7, fr_v7, e0⟩)

theorem RTick_0 {b : Nat} {ex now last n : Int} {s : Value} {es : List Ri} {w : World} (hc : Cel w b 52 [(0, 1, [I ex]), (1, 1, [I now]), (2, 1, [I last]), (3, 1, [s])]) (hr : Er riS w s es) (hn : n < 1) : C Try.prog 21 [.pointer (some ⟨b, 0, none⟩), I n] w (Ret fun v w' => v = I 0 ∧ Ext w w') := by
  have e0 := Ext.refl w
  refine C.enter Try.func21 rfl Try.ntmps21 rfl ?_
  refine J.seq ?_
  refine J.region ?_
  refine J.op (Yd.assign rfl) rfl ?_
  refine J.nil ?_
  refine J.n_then ?_
  refine J.seq ?_
  refine J.seq ?_
  refine J.region ?_
  refine J.op (Yd.move rfl) rfl ?_
  refine J.op (Yd.lss rfl rfl) rfl ?_
  refine J.nil ?_
  refine J.n_then ?_
  refine J.know (t := 9) (v' := .bool true) rfl (tt (by omega)) ?_
  refine J.cond_true rfl ?_
  refine J.seq ?_
  refine J.region ?_
  refine J.op (Yd.assign rfl) rfl ?_
  refine J.nil ?_
  refine J.n_then ?_
  refine J.ret ?_
  refine J.r_then ?_
  exact J.ret1 rfl rfl (⟨_, rfl, rfl, e0⟩)

theorem rn_is {now n : Int} (h : 0 ≤ now ∧ now ≤ 1099511627776) (hn : 1 ≤ n) : I (now + (if 1099511627776 - now < n then 1099511627776 - now else n)) = I (tkI now n) := by
  congr 1
  unfold tkI
  split <;> split <;> split <;> omega

theorem RTick_ok {b : Nat} {ex now last n : Int} {s : Value} {es : List Ri} {w : World} (hc : Cel w b 52 [(0, 1, [I ex]), (1, 1, [I now]), (2, 1, [I last]), (3, 1, [s])]) (hr : Er riS w s es) (hap : Ap (some b) s.ownBlock) (h1 : ∀ x ∈ es, x.2.2.2.2.oneCell' = true) (hn1 : 1 ≤ n) (hex : 1 ≤ ex ∧ ex ≤ 1099511627776) (hnow : 0 ≤ now ∧ now ≤ 1099511627776) (hbd : ∀ x ∈ es, 0 ≤ x.2.2.2.1 ∧ x.2.2.2.1 ≤ 1099511627776) (hn2 : es.length ≤ 1000) : C Try.prog 21 [.pointer (some ⟨b, 0, none⟩), I n] w (Ret fun u w' => ∃ s', u = I ((es.length : Int) - ((es.filter (fun x => !agRi (tkI now n) ex x)).length : Int)) ∧ Cel w' b 52 [(0, 1, [I ex]), (1, 1, [I (tkI now n)]), (2, 1, [I last]), (3, 1, [s'])] ∧ Er riS w' s' (es.filter (fun x => !agRi (tkI now n) ex x)) ∧ Live w' s'.ownBlock ∧ Fr w.heap.size s'.ownBlock ∧ Tn [some b] w w') := by
  have hrf := fun (W_ : World) (e_ : Tn [some b] w W_) => Er.tnk hr e_ (ApL.one (Ap.symm hap))
  have hmx := Er.max hr
  have hti := tkI_ok hnow hn1
  have e0 := Tn.refl [(some b)] w
  refine C.enter Try.func21 rfl Try.ntmps21 rfl ?_
  refine J.seq ?_
  refine J.region ?_
  refine J.op (Yd.assign rfl) rfl ?_
  refine J.nil ?_
  refine J.n_then ?_
  refine J.seq ?_
  refine J.seq ?_
  refine J.region ?_
  refine J.op (Yd.move rfl) rfl ?_
  refine J.op (Yd.lss rfl rfl) rfl ?_
  refine J.nil ?_
  refine J.n_then ?_
  refine J.know (t := 9) (v' := .bool false) rfl (ff (by omega)) ?_
  refine J.cond_false rfl ?_
  refine J.skip ?_
  refine J.n_then ?_
  refine J.seq ?_
  refine J.regionO [(0, true), (1, true), (2, true), (3, true), (5, true), (6, true), (7, true), (8, true)] [(4, 1), (9, 1), (10, 1), (11, 1)] [(12, true), (13, true), (14, true), (15, false)] mix (by kernel_rfl) ?_
  refine J.s_op rfl (fun _ => Yd.move rfl) rfl ?_
  refine J.s_op rfl (fun _ => Yd.move rfl) rfl ?_
  refine J.s_op rfl (fun _ => Yd.nilCheck rfl) rfl ?_
  refine J.s_op rfl (fun _ => Yd.cast (Yd.fieldA Try.underlying52 rfl ti3 rfl rfl) (show _ = Value.pointer (some ⟨b, 1, none⟩) from rfl)) rfl ?_
  refine J.s_op rfl (fun _ => Yd.move rfl) rfl ?_
  refine J.s_op rfl (fun _ => Yd.move rfl) rfl ?_
  refine J.s_op rfl (fun _ => Yd.nilCheck rfl) rfl ?_
  refine J.s_op rfl (fun _ => Yd.cast (Yd.fieldA Try.underlying52 rfl ti3 rfl rfl) (show _ = Value.pointer (some ⟨b, 1, none⟩) from rfl)) rfl ?_
  refine J.s_nil ?_
  refine J.o_op rfl (Yd.load pl3 rfl (Cel.cell1 hc 1 rfl)) rfl ?_
  refine J.o_op rfl (Yd.load pl3 rfl (Cel.cell1 hc 1 rfl)) rfl ?_
  refine J.o_op rfl (Yd.sub rfl rfl (by first | omega | exact idx_u8' _ | (simp only [Int.toNat_natCast]; omega) | (simp only [List.length_map, List.length_drop, List.length_take, List.length_append, List.length_replicate]; omega) | (simp <;> omega))) rfl ?_
  refine J.o_op rfl (Yd.mini rfl rfl) rfl ?_
  refine J.o_nil ?_
  refine J.s_op rfl (fun _ => Yd.cast (Yd.add rfl rfl (by first | omega | exact idx_u8' _ | (simp only [Int.toNat_natCast]; omega) | (simp only [List.length_map, List.length_drop, List.length_take, List.length_append, List.length_replicate]; omega) | (simp <;> omega))) (show _ = I (tkI now n) from rn_is hnow hn1)) rfl ?_
  refine J.s_op rfl (fun _ => Yd.nilCheck rfl) rfl ?_
  refine J.s_op rfl (fun _ => Yd.cast (Yd.fieldA Try.underlying52 rfl ti3 rfl rfl) (show _ = Value.pointer (some ⟨b, 1, none⟩) from rfl)) rfl ?_
  refine J.s_eff0 rfl (Ye.store1 ti3 hc 1 rfl rfl rfl rfl rfl rfl) ?_
  rintro _ w1 ⟨cX, hu⟩
  simp only [List.set_cons_zero, List.set_cons_succ] at cX
  have hg := hu.gb
  have e0 := Tn.gbk e0 (.inl (by simp)) hg
  clear hg
  replace hc := cX
  clear cX hu
  refine J.s_nil ?_
  refine J.n_np ?_
  refine J.n_then ?_
  refine J.seq ?_
  refine J.region ?_
  refine J.op (Yd.assign rfl) rfl ?_
  refine J.nil ?_
  refine J.n_then ?_
  refine J.seq ?_
  refine J.seq ?_
  refine J.region ?_
  refine J.op (Yd.assign rfl) rfl ?_
  refine J.nil ?_
  refine J.n_then ?_
  refine J.block ?_
  refine J.loop (ι := Nat × Value) (fun i => [(6, I (i.1 : Int)), (0, .pointer (some ⟨b, 0, none⟩)), (5, i.2)]) (fun i w' => i.1 ≤ es.length ∧ Cel w' b 52 [(0, 1, [I ex]), (1, 1, [I (tkI now n)]), (2, 1, [I last]), (3, 1, [s])] ∧ Es riS 0 57 w' i.2 ((es.take i.1).filter (fun x => !agRi (tkI now n) ex x)) ∧ Fr w.heap.size (i.2).ownBlock ∧ Ap (some b) (i.2).ownBlock ∧ Tn [(some b)] w w') (fun i => es.length - i.1) ((0, nilS)) ⟨rfl, rfl, rfl, trivial⟩ (⟨Nat.zero_le _, hc, (Es.nil _ _ _ _), Fr.nil, Ap.nil_r, e0⟩) ?_
  rintro ⟨i, v5⟩ w2 ⟨hk, hc, ho5, fr_v5, ap_b_v5, e0⟩
  dsimp only at *
  have hl9 := List.length_filter_le (fun x => !agRi (tkI now n) ex x) (es.take i)
  rw [List.length_take] at hl9
  refine J.seq ?_
  refine J.seq ?_
  refine J.region ?_
  refine J.op (Yd.move rfl) rfl ?_
  refine J.op (Yd.move rfl) rfl ?_
  refine J.op (Yd.nilCheck rfl) rfl ?_
  refine J.op (Yd.cast (Yd.fieldA Try.underlying52 rfl ti49 rfl rfl) (show _ = Value.pointer (some ⟨b, 3, none⟩) from rfl)) rfl ?_
  refine J.op (Yd.load pl49 rfl (Cel.cell1 hc 3 rfl)) rfl ?_
  refine J.op (Yd.lenE (K := riS) Try.underlying49 rfl (hrf _ e0)) rfl ?_
  refine J.op (Yd.lss rfl rfl) rfl ?_
  refine J.nil ?_
  refine J.n_then ?_
  refine J.cond_dec rfl (fun hc0 => ?_) (fun hc0 => ?_)
  · skip
    have hbx := hbd _ (getD_memE riD (show (i : Int).toNat < es.length by omega))
    refine J.skip ?_
    refine J.n_then ?_
    refine J.seq ?_
    refine J.block ?_
    refine J.seq ?_
    refine J.regionO [(0, true), (1, true), (2, true), (4, true), (5, true), (6, true), (8, true), (13, true), (14, true), (15, true)] [(3, 1), (7, 1), (9, 1), (16, 1), (10, 1), (11, 1), (12, 1)] [(17, true)] mix (by kernel_rfl) ?_
    refine J.s_op rfl (fun _ => Yd.move rfl) rfl ?_
    refine J.s_op rfl (fun _ => Yd.nilCheck rfl) rfl ?_
    refine J.s_op rfl (fun _ => Yd.cast (Yd.fieldA Try.underlying52 rfl ti3 rfl rfl) (show _ = Value.pointer (some ⟨b, 1, none⟩) from rfl)) rfl ?_
    refine J.s_op rfl (fun _ => Yd.move rfl) rfl ?_
    refine J.s_op rfl (fun _ => Yd.nilCheck rfl) rfl ?_
    refine J.s_op rfl (fun _ => Yd.cast (Yd.fieldA Try.underlying52 rfl ti49 rfl rfl) (show _ = Value.pointer (some ⟨b, 3, none⟩) from rfl)) rfl ?_
    refine J.s_op rfl (fun _ => Yd.move rfl) rfl ?_
    refine J.s_op rfl (fun _ => Yd.move rfl) rfl ?_
    refine J.s_op rfl (fun _ => Yd.nilCheck rfl) rfl ?_
    refine J.s_op rfl (fun _ => Yd.cast (Yd.fieldA Try.underlying52 rfl ti3 rfl rfl) (show _ = Value.pointer (some ⟨b, 0, none⟩) from rfl)) rfl ?_
    refine J.s_nil ?_
    refine J.o_op rfl (Yd.load pl3 rfl (Cel.cell1 hc 1 rfl)) rfl ?_
    refine J.o_op rfl (Yd.load pl49 rfl (Cel.cell1 hc 3 rfl)) rfl ?_
    refine J.o_op rfl (Yd.idxE (K := riS) Try.underlying49 ti57 rfl rfl (hrf _ e0) (by first | omega | exact idx_u8' _ | (simp only [Int.toNat_natCast]; omega) | (simp only [List.length_map, List.length_drop, List.length_take, List.length_append, List.length_replicate]; omega) | (simp <;> omega))) rfl ?_
    refine J.o_op rfl (Yd.load pl3 rfl (Cel.cell1 hc 0 rfl)) rfl ?_
    refine J.o_op rfl (Yd.fieldE (K := riS) (hrf _ e0) (by omega) Try.underlying57 rfl ti3 rfl rfl) rfl ?_
    refine J.o_op rfl (Yd.cast (Yd.loadFd (K := riS) riD pl3 rfl (hrf _ e0) (by first | omega | exact idx_u8' _ | (simp only [Int.toNat_natCast]; omega) | (simp only [List.length_map, List.length_drop, List.length_take, List.length_append, List.length_replicate]; omega) | (simp <;> omega)) rfl) (show _ = I (es.getD (i : Int).toNat riD).2.2.2.1 from rfl)) rfl ?_
    refine J.o_op rfl (Yd.sub rfl rfl (by first | omega | exact idx_u8' _ | (simp only [Int.toNat_natCast]; omega) | (simp only [List.length_map, List.length_drop, List.length_take, List.length_append, List.length_replicate]; omega) | (simp <;> omega))) rfl ?_
    refine J.o_nil ?_
    refine J.s_op rfl (fun _ => Yd.lss rfl rfl) rfl ?_
    refine J.s_nil ?_
    refine J.n_np ?_
    refine J.n_then ?_
    refine J.cond_dec rfl (fun hc1 => ?_) (fun hc1 => ?_)
    · skip
      refine J.region ?_
      refine J.op (Yd.move rfl) rfl ?_
      refine J.op (Yd.move rfl) rfl ?_
      refine J.op (Yd.nilCheck rfl) rfl ?_
      refine J.op (Yd.cast (Yd.fieldA Try.underlying52 rfl ti49 rfl rfl) (show _ = Value.pointer (some ⟨b, 3, none⟩) from rfl)) rfl ?_
      refine J.op (Yd.load pl49 rfl (Cel.cell1 hc 3 rfl)) rfl ?_
      refine J.op (Yd.move rfl) rfl ?_
      refine J.op (Yd.idxE (K := riS) Try.underlying49 ti57 rfl rfl (hrf _ e0) (by first | omega | exact idx_u8' _ | (simp only [Int.toNat_natCast]; omega) | (simp only [List.length_map, List.length_drop, List.length_take, List.length_append, List.length_replicate]; omega) | (simp <;> omega))) rfl ?_
      refine J.op (Yd.cast (Yd.loadEd (K := riS) riD ag57 ti57 rfl (hrf _ e0) (by first | omega | exact idx_u8' _ | (simp only [Int.toNat_natCast]; omega) | (simp only [List.length_map, List.length_drop, List.length_take, List.length_append, List.length_replicate]; omega) | (simp <;> omega))) (show _ = Value.agg (riS.c (es.getD i riD)).toArray by rw [Int.toNat_natCast])) rfl ?_
      refine J.eff (Ye.litE1 (K := riS) (u := (es.getD i riD)) (base := w2.heap.size) Try.underlying49 ti57 rfl rfl rfl (Nat.le_refl _)) rfl ?_
      rintro sl w3 ⟨hsl, x1⟩
      have ap_b_sl : Ap (some b) sl.ownBlock := Ap.mk (Cel.live hc) (Es.fr hsl)
      have ap_v5_sl : Ap v5.ownBlock sl.ownBlock := Ap.mk (Es.live ho5) (Es.fr hsl)
      have fr_sl : Fr w.heap.size sl.ownBlock := Fr.le (Es.fr hsl) e0.size
      replace hsl := Es.base hsl (Nat.zero_le _)
      have e0 := Tn.ext e0 x1
      have hc := hc.ext x1
      have ho5 := ho5.ext x1
      clear x1
      refine J.eff (Ye.appendE (K := riS) Try.underlying49 ti57 rfl rfl rfl rfl ho5 (Es.rd hsl) (ri_one (fun x hx => by rw [List.mem_singleton] at hx; subst hx; exact h1 _ (getD_memE riD (by omega)))) (by simp only [List.length_singleton]; omega) (Nat.zero_le _)) rfl ?_
      rintro sB w4 ⟨hsB, hg, hsf⟩
      have ap_b_sB : Ap (some b) sB.ownBlock := Ap.sf ap_b_v5 (Cel.live hc) hsf
      have ap_sl_sB : Ap sl.ownBlock sB.ownBlock := Ap.sf (Ap.symm ap_v5_sl) (Es.live hsl) hsf
      have fr_sB : Fr w.heap.size sB.ownBlock := Fr.sf fr_v5 hsf e0.size
      have hc := Cel.gbk hc hg ap_b_v5
      have e0 := Tn.gbk e0 (.inr fr_v5) hg
      clear hg hsf
      refine J.op (Yd.assign rfl) rfl ?_
      refine J.nil ?_
      refine J.n_block ?_
      refine J.n_then ?_
      refine J.region ?_
      refine J.op (Yd.move rfl) rfl ?_
      refine J.op (Yd.add rfl rfl (by first | omega | exact idx_u8' _ | (simp only [Int.toNat_natCast]; omega) | (simp only [List.length_map, List.length_drop, List.length_take, List.length_append, List.length_replicate]; omega) | (simp <;> omega))) rfl ?_
      refine J.op (Yd.assign rfl) rfl ?_
      refine J.nil ?_
      refine J.n_then ?_
      exact J.round ((i + 1, sB)) ⟨rfl, rfl, rfl, trivial⟩ (⟨by show i + 1 ≤ es.length; omega, hc, (by rw [flt_takeG riD (by omega), if_pos (by rw [Int.toNat_natCast] at hc1; unfold agRi; rw [decide_eq_false (by omega)]; rfl)]; exact hsB), fr_sB, ap_b_sB, e0⟩) (by show es.length - (i + 1) < es.length - i; omega)
    · skip
      refine J.skip ?_
      refine J.n_block ?_
      refine J.n_then ?_
      refine J.region ?_
      refine J.op (Yd.move rfl) rfl ?_
      refine J.op (Yd.add rfl rfl (by first | omega | exact idx_u8' _ | (simp only [Int.toNat_natCast]; omega) | (simp only [List.length_map, List.length_drop, List.length_take, List.length_append, List.length_replicate]; omega) | (simp <;> omega))) rfl ?_
      refine J.op (Yd.assign rfl) rfl ?_
      refine J.nil ?_
      refine J.n_then ?_
      exact J.round ((i + 1, v5)) ⟨rfl, rfl, rfl, trivial⟩ (⟨by show i + 1 ≤ es.length; omega, hc, (by rw [flt_takeG riD (by omega), if_neg (by rw [Int.toNat_natCast] at hc1; unfold agRi; rw [decide_eq_true (by omega)]; decide), List.append_nil]; exact ho5), fr_v5, ap_b_v5, e0⟩) (by show es.length - (i + 1) < es.length - i; omega)
  · skip
    refine J.exit ?_
    refine J.x_then ?_
    refine J.x_then ?_
    refine J.x_block ?_
    refine J.n_then ?_
    refine J.seq ?_
    refine J.region ?_
    refine J.op (Yd.move rfl) rfl ?_
    refine J.op (Yd.nilCheck rfl) rfl ?_
    refine J.op (Yd.cast (Yd.fieldA Try.underlying52 rfl ti49 rfl rfl) (show _ = Value.pointer (some ⟨b, 3, none⟩) from rfl)) rfl ?_
    refine J.op (Yd.load pl49 rfl (Cel.cell1 hc 3 rfl)) rfl ?_
    refine J.op (Yd.lenE (K := riS) Try.underlying49 rfl (hrf _ e0)) rfl ?_
    refine J.op (Yd.move rfl) rfl ?_
    refine J.op (Yd.lenE (K := riS) Try.underlying49 rfl (Es.rd ho5)) rfl ?_
    refine J.op (Yd.sub rfl rfl (by first | omega | exact idx_u8' _ | (simp only [Int.toNat_natCast]; omega) | (simp only [List.length_map, List.length_drop, List.length_take, List.length_append, List.length_replicate]; omega) | (simp <;> omega))) rfl ?_
    refine J.op (Yd.assign rfl) rfl ?_
    refine J.nil ?_
    refine J.n_then ?_
    refine J.seq ?_
    refine J.region ?_
    refine J.op (Yd.move rfl) rfl ?_
    refine J.op (Yd.move rfl) rfl ?_
    refine J.op (Yd.nilCheck rfl) rfl ?_
    refine J.op (Yd.cast (Yd.fieldA Try.underlying52 rfl ti49 rfl rfl) (show _ = Value.pointer (some ⟨b, 3, none⟩) from rfl)) rfl ?_
    refine J.eff0 (Ye.store1 ti49 hc 3 rfl rfl rfl rfl (Er.cells (Es.rd ho5)) (Er.one (Es.rd ho5))) ?_
    rintro _ w5 ⟨cX, hu⟩
    simp only [List.set_cons_zero, List.set_cons_succ] at cX
    have hg := hu.gb
    have ho5 := Es.gbk ho5 hg (Ap.symm ap_b_v5)
    have e0 := Tn.gbk e0 (.inl (by simp)) hg
    clear hg
    replace hc := cX
    clear cX hu
    refine J.nil ?_
    refine J.n_then ?_
    refine J.seq ?_
    refine J.region ?_
    refine J.op (Yd.move rfl) rfl ?_
    refine J.op (Yd.assign rfl) rfl ?_
    refine J.nil ?_
    refine J.n_then ?_
    refine J.ret ?_
    exact J.ret1 rfl rfl (⟨_, rfl, v5, (by rw [List.take_of_length_le (by omega)]), hc, (by have h9 := Es.rd ho5; rw [List.take_of_length_le (by omega)] at h9; exact h9), Es.live ho5, fr_v5, e0⟩)
end Ytmpfgiffpdackaa
end Go.Proofs
