import Derived.Test.YtfefphcmfhabiaaT
import Derived.Test.YtfefphcmfhabiaaJ11
import Derived.Test.YtfefphcmfhabiaaB4
set_option linter.unusedVariables false
set_option linter.unusedSimpArgs false
set_option maxRecDepth 100000
set_option maxHeartbeats 4000000
namespace Go.Proofs
open Go.X Go.RowKit
namespace Ytfefphcmfhabiaa
theorem LdSk_yes {a : Value} {l : List UInt8} {w : World} (ha : Bs w a l) (hl : l.length ≤ 1000000) {m : Int} {L : List Key} (hsk : skR l = some (m, L)) : C Try.prog 19 [a] w (Ret fun u w' => ∃ b s es, u = .tuple #[.pointer (some ⟨b, 0, none⟩), I 0] ∧ Cel w' b 46 [(0, 1, [I m]), (1, 1, [s])] ∧ Es entS 0 79 w' s es ∧ es.length = L.length ∧ Ext w w') := by
  rcases skR_cases l with ⟨h, _⟩ | ⟨_, _, h, _⟩ | ⟨_, _, _, _, h, _⟩ | ⟨_, _, _, _, h, _⟩ | ⟨_, _, _, _, h, _⟩ | ⟨_, _, _, _, _, _, h, _⟩ | ⟨m, c1, n, c2, L, h, h1, h2, hm, h3⟩
  iterate 6 (rw [hsk] at h; cases h)
  rw [hsk] at h; cases h
  exact LdS6 ha hl h1 h2 hm h3 rfl
theorem LdSk_no {a : Value} {l : List UInt8} {w : World} (ha : Bs w a l) (hl : l.length ≤ 1000000) (hsk : skR l = none) : C Try.prog 19 [a] w (Ret fun v w' => v = .tuple #[.pointer none, I 2] ∧ Ext w w') := by
  rcases skR_cases l with ⟨_, h1⟩ | ⟨m, c1, _, h1, h2⟩ | ⟨m, c1, n, c2, _, h1, h2, hm⟩ | ⟨m, c1, n, c2, _, h1, h2, hm⟩ | ⟨m, c1, n, c2, _, h1, h2, hm, h3⟩ | ⟨m, c1, n, c2, L, r, _, h1, h2, hm, h3, hr⟩ | ⟨m, c1, n, c2, L, h, _⟩
  · exact LdS0 ha hl h1
  · exact LdS1 ha hl h1 h2
  · exact LdS2 ha hl h1 h2 hm
  · exact LdS3 ha hl h1 h2 hm
  · exact LdS4 ha hl h1 h2 hm h3
  · exact LdS5 ha hl h1 h2 hm h3 hr
  · rw [hsk] at h; cases h
theorem Load_yes {a : Value} {l : List UInt8} {m : Int} {L : List Key} {w : World} (ha : Bs w a l) (hl : l.length ≤ 100000) (hsk : skR l = some (m, L)) : C Try.prog 18 [a] w (Ret fun u w' => ∃ bs, u = .tuple #[.pointer (some ⟨bs, 0, none⟩), I 0] ∧ Sk 56 60 w.heap.size w' bs m L ∧ (1 ≤ m ∧ m ≤ 1000) ∧ (L.length : Int) ≤ m ∧ KOK L ∧ l = savB m L ∧ Ext w w') :=
  (Load_any ha hl).ret fun u w' h => h.1 m L hsk
theorem Load_no {a : Value} {l : List UInt8} {w : World} (ha : Bs w a l) (hl : l.length ≤ 100000) (hsk : skR l = none) : C Try.prog 18 [a] w (Ret fun v w' => v = .tuple #[.pointer none, I 2] ∧ Ext w w') := (Load_any ha hl).ret fun u w' h => h.2 hsk

theorem ReadsOut {a : Value} {l : List UInt8} {w : World} (ha : Bs w a l) (hb : ¬ l.length ≤ 4000) : C Try.prog 6 [a] w (Ret fun v w' => v = .bool true ∧ Ext w w') := by
  have e0 := Ext.refl w
  refine C.enter Try.func6 rfl Try.ntmps6 rfl ?_
  refine J.seq ?_
  refine J.region ?_
  refine J.op (Yd.assign rfl) rfl ?_
  refine J.nil ?_
  refine J.n_then ?_
  refine J.seq ?_
  refine J.seq ?_
  refine J.region ?_
  refine J.op (Yd.move rfl) rfl ?_
  refine J.op (Yd.len_b Try.underlying29 rfl ha) rfl ?_
  refine J.op (Yd.gtr rfl rfl) rfl ?_
  refine J.nil ?_
  refine J.n_then ?_
  refine J.know (t := 9) (v' := .bool true) rfl (tt (by omega)) ?_
  refine J.cond_true rfl ?_
  refine J.seq ?_
  refine J.region ?_
  refine J.eff (Ye.call cl8 rfl (Awake_ok)) rfl ?_
  rintro _ w1 ⟨rfl, x1⟩
  have e0 := e0.trans x1
  clear x1
  refine J.op (Yd.assign rfl) rfl ?_
  refine J.nil ?_
  refine J.n_then ?_
  refine J.ret ?_
  refine J.r_then ?_
  exact J.ret1 rfl rfl (⟨_, rfl, rfl, e0⟩)

theorem ReadsNo {a : Value} {l : List UInt8} {w : World} (ha : Bs w a l) (hb : l.length ≤ 4000) (hsk : skR l = none) : C Try.prog 6 [a] w (Ret fun v w' => v = .bool true ∧ Ext w w') := by
  have e0 := Ext.refl w
  refine C.enter Try.func6 rfl Try.ntmps6 rfl ?_
  refine J.seq ?_
  refine J.region ?_
  refine J.op (Yd.assign rfl) rfl ?_
  refine J.nil ?_
  refine J.n_then ?_
  refine J.seq ?_
  refine J.seq ?_
  refine J.region ?_
  refine J.op (Yd.move rfl) rfl ?_
  refine J.op (Yd.len_b Try.underlying29 rfl ha) rfl ?_
  refine J.op (Yd.gtr rfl rfl) rfl ?_
  refine J.nil ?_
  refine J.n_then ?_
  refine J.know (t := 9) (v' := .bool false) rfl (ff (by omega)) ?_
  refine J.cond_false rfl ?_
  refine J.skip ?_
  refine J.n_then ?_
  refine J.seq ?_
  refine J.region ?_
  refine J.op (Yd.move rfl) rfl ?_
  refine J.eff (Ye.call cl18 rfl (Load_no (ha.ext e0) (by omega) hsk)) rfl ?_
  rintro _ w1 ⟨rfl, x1⟩
  have e0 := e0.trans x1
  clear x1
  refine J.op (Yd.move rfl) rfl ?_
  refine J.op (Yd.extract rfl rfl) rfl ?_
  refine J.op (Yd.extract rfl rfl) rfl ?_
  refine J.op (Yd.assign rfl) rfl ?_
  refine J.op (Yd.assign rfl) rfl ?_
  refine J.nil ?_
  refine J.n_then ?_
  refine J.seq ?_
  refine J.region ?_
  refine J.op (Yd.move rfl) rfl ?_
  refine J.eff (Ye.call cl19 rfl (LdSk_no (ha.ext e0) (by omega) hsk)) rfl ?_
  rintro _ w2 ⟨rfl, x1⟩
  have e0 := e0.trans x1
  clear x1
  refine J.op (Yd.move rfl) rfl ?_
  refine J.op (Yd.extract rfl rfl) rfl ?_
  refine J.op (Yd.extract rfl rfl) rfl ?_
  refine J.op (Yd.assign rfl) rfl ?_
  refine J.op (Yd.assign rfl) rfl ?_
  refine J.nil ?_
  refine J.n_then ?_
  refine J.seq ?_
  refine J.seq ?_
  refine J.region ?_
  refine J.op (Yd.move rfl) rfl ?_
  refine J.op (Yd.move rfl) rfl ?_
  refine J.op (Yd.neq rfl rfl) rfl ?_
  refine J.op (Yd.move rfl) rfl ?_
  refine J.know (t := 24) (v' := .bool false) rfl (ff (by decide)) ?_
  refine J.op_g rfl rfl rfl (Yd.move rfl) rfl ?_
  refine J.op_g rfl rfl rfl (Yd.cast (Yd.nePn Try.underlying23 rfl rfl) (show _ = Value.bool false from rfl)) rfl ?_
  refine J.op_g rfl rfl rfl (Yd.move rfl) rfl ?_
  refine J.op_g rfl rfl rfl (Yd.cast (Yd.nePn Try.underlying41 rfl rfl) (show _ = Value.bool false from rfl)) rfl ?_
  refine J.op_g rfl rfl rfl (Yd.neqb rfl rfl Try.underlying4) rfl ?_
  refine J.op (Yd.pick_f rfl rfl) rfl ?_
  refine J.nil ?_
  refine J.n_then ?_
  refine J.know (t := 30) (v' := .bool false) rfl (ff (by decide)) ?_
  refine J.cond_false rfl ?_
  refine J.skip ?_
  refine J.n_then ?_
  refine J.seq ?_
  refine J.regionO [(0, true), (1, true), (2, true), (3, true), (6, true)] [(7, 1), (4, 0), (5, 1), (8, 1), (9, 1), (10, 1), (12, 1), (13, 1), (14, 1), (15, 1), (16, 1), (11, 0)] [(17, true), (18, true), (19, true), (20, true), (21, false), (22, true), (23, true)] mix (by kernel_rfl) ?_
  refine J.s_op rfl (fun _ => Yd.move rfl) rfl ?_
  refine J.s_op rfl (fun _ => Yd.cast (Yd.eqPn Try.underlying23 rfl rfl) (show _ = Value.bool true from rfl)) rfl ?_
  refine J.s_op rfl (fun _ => Yd.move rfl) rfl ?_
  refine J.s_not_g rfl rfl rfl rfl rfl rfl ?_
  refine J.s_not_g rfl rfl rfl rfl rfl rfl ?_
  refine J.s_nil ?_
  refine J.o_not_g rfl rfl rfl rfl rfl rfl ?_
  refine J.o_skip_g rfl rfl rfl rfl rfl rfl ?_
  refine J.o_not_g rfl rfl rfl rfl rfl rfl ?_
  refine J.o_not_g rfl rfl rfl rfl rfl rfl ?_
  refine J.o_not_g rfl rfl rfl rfl rfl rfl ?_
  refine J.o_not_u rfl rfl rfl rfl rfl ?_
  refine J.o_not_u rfl rfl rfl rfl rfl ?_
  refine J.o_not_u rfl rfl rfl rfl rfl ?_
  refine J.o_not_u rfl rfl rfl rfl rfl ?_
  refine J.o_not_u rfl rfl rfl rfl rfl ?_
  refine J.o_not_u rfl rfl rfl rfl rfl ?_
  refine J.o_skip_u rfl rfl rfl rfl rfl ?_
  refine J.o_nil ?_
  refine J.s_not_u rfl rfl rfl rfl rfl ?_
  refine J.s_not_g rfl rfl rfl rfl rfl rfl ?_
  refine J.s_op rfl (fun _ => Yd.pick_t rfl rfl) rfl ?_
  refine J.s_op rfl (fun _ => Yd.move rfl) rfl ?_
  refine J.s_eff_g rfl rfl rfl rfl (Ye.call cl8 rfl (Awake_ok)) rfl ?_
  rintro _ w3 ⟨rfl, x1⟩
  have e0 := e0.trans x1
  clear x1
  refine J.s_op rfl (fun _ => Yd.pick_t rfl rfl) rfl ?_
  refine J.s_op rfl (fun _ => Yd.assign rfl) rfl ?_
  refine J.s_nil ?_
  refine J.n_np ?_
  refine J.n_then ?_
  refine J.ret ?_
  exact J.ret1 rfl rfl (⟨_, rfl, rfl, e0⟩)

theorem ReadsYes {a : Value} {l : List UInt8} {m : Int} {L : List Key} {w : World} (ha : Bs w a l) (hb : l.length ≤ 4000) (hsk : skR l = some (m, L)) : C Try.prog 6 [a] w (Ret fun v w' => v = .bool true ∧ Ext w w') := by
  have e0 := Ext.refl w
  refine C.enter Try.func6 rfl Try.ntmps6 rfl ?_
  refine J.seq ?_
  refine J.region ?_
  refine J.op (Yd.assign rfl) rfl ?_
  refine J.nil ?_
  refine J.n_then ?_
  refine J.seq ?_
  refine J.seq ?_
  refine J.region ?_
  refine J.op (Yd.move rfl) rfl ?_
  refine J.op (Yd.len_b Try.underlying29 rfl ha) rfl ?_
  refine J.op (Yd.gtr rfl rfl) rfl ?_
  refine J.nil ?_
  refine J.n_then ?_
  refine J.know (t := 9) (v' := .bool false) rfl (ff (by omega)) ?_
  refine J.cond_false rfl ?_
  refine J.skip ?_
  refine J.n_then ?_
  refine J.seq ?_
  refine J.region ?_
  refine J.op (Yd.move rfl) rfl ?_
  refine J.eff (Ye.call cl18 rfl (Load_yes (ha.ext e0) (by omega) hsk)) rfl ?_
  rintro _ w1 ⟨bs, rfl, hs, hm, hLm, hK, hsv, x1⟩
  have e0 := e0.trans x1
  clear x1
  refine J.op (Yd.move rfl) rfl ?_
  refine J.op (Yd.extract rfl rfl) rfl ?_
  refine J.op (Yd.extract rfl rfl) rfl ?_
  refine J.op (Yd.assign rfl) rfl ?_
  refine J.op (Yd.assign rfl) rfl ?_
  refine J.nil ?_
  refine J.n_then ?_
  refine J.seq ?_
  refine J.region ?_
  refine J.op (Yd.move rfl) rfl ?_
  refine J.eff (Ye.call cl19 rfl (LdSk_yes (ha.ext e0) (by omega) hsk)) rfl ?_
  rintro _ w2 ⟨b2, s2, es2, rfl, c2, o2, hl2, x1⟩
  have hs := hs.ext x1
  have e0 := e0.trans x1
  clear x1
  refine J.op (Yd.move rfl) rfl ?_
  refine J.op (Yd.extract rfl rfl) rfl ?_
  refine J.op (Yd.extract rfl rfl) rfl ?_
  refine J.op (Yd.assign rfl) rfl ?_
  refine J.op (Yd.assign rfl) rfl ?_
  refine J.nil ?_
  refine J.n_then ?_
  refine J.seq ?_
  refine J.seq ?_
  refine J.region ?_
  refine J.op (Yd.move rfl) rfl ?_
  refine J.op (Yd.move rfl) rfl ?_
  refine J.op (Yd.neq rfl rfl) rfl ?_
  refine J.op (Yd.move rfl) rfl ?_
  refine J.know (t := 24) (v' := .bool false) rfl (ff (by decide)) ?_
  refine J.op_g rfl rfl rfl (Yd.move rfl) rfl ?_
  refine J.op_g rfl rfl rfl (Yd.cast (Yd.nePn Try.underlying23 rfl rfl) (show _ = Value.bool true from rfl)) rfl ?_
  refine J.op_g rfl rfl rfl (Yd.move rfl) rfl ?_
  refine J.op_g rfl rfl rfl (Yd.cast (Yd.nePn Try.underlying41 rfl rfl) (show _ = Value.bool true from rfl)) rfl ?_
  refine J.op_g rfl rfl rfl (Yd.neqb rfl rfl Try.underlying4) rfl ?_
  refine J.op (Yd.pick_f rfl rfl) rfl ?_
  refine J.nil ?_
  refine J.n_then ?_
  refine J.know (t := 30) (v' := .bool false) rfl (ff (by decide)) ?_
  refine J.cond_false rfl ?_
  refine J.skip ?_
  refine J.n_then ?_
  refine J.seq ?_
  refine J.regionO [(0, true), (1, true), (2, true), (3, true), (6, true)] [(7, 1), (4, 0), (5, 1), (8, 1), (9, 1), (10, 1), (12, 1), (13, 1), (14, 1), (15, 1), (16, 1), (11, 0)] [(17, true), (18, true), (19, true), (20, true), (21, false), (22, true), (23, true)] mix (by kernel_rfl) ?_
  refine J.s_op rfl (fun _ => Yd.move rfl) rfl ?_
  refine J.s_op rfl (fun _ => Yd.cast (Yd.eqPn Try.underlying23 rfl rfl) (show _ = Value.bool false from rfl)) rfl ?_
  refine J.s_op rfl (fun _ => Yd.move rfl) rfl ?_
  refine J.s_op_g rfl rfl rfl rfl (fun _ => Yd.move rfl) rfl ?_
  refine J.s_op_g rfl rfl rfl rfl (fun _ => Yd.move rfl) rfl ?_
  refine J.s_nil ?_
  refine J.o_op_g rfl rfl rfl rfl (Yd.bstr Try.underlying29 Try.underlying5 Try.underlying9 rfl (Rd.ext ha e0)) rfl ?_
  refine J.o_eff_g rfl rfl rfl rfl (Ye.call cl17 rfl (Save_sk hs hK hm (by omega))) rfl (fun _ _ h => h.2) ?_
  rintro s35_3 w3 ⟨os35_3, x1⟩
  have ap_b2_s35_3 : Ap (some b2) s35_3.ownBlock := Ap.mk (Cel.live c2) (Ow.fr os35_3)
  have ap_s2_s35_3 : Ap s2.ownBlock s35_3.ownBlock := Ap.mk (Es.live o2) (Ow.fr os35_3)
  have fr_s35_3 : Fr w.heap.size s35_3.ownBlock := Fr.le (Ow.fr os35_3) e0.size
  replace os35_3 := Ow.base os35_3 e0.size
  have hs := hs.ext x1
  have e0 := e0.trans x1
  have c2 := c2.ext x1
  have o2 := o2.ext x1
  clear x1
  refine J.o_op_g rfl rfl rfl rfl (Yd.bstr Try.underlying29 Try.underlying5 Try.underlying9 rfl (Ow.rd os35_3)) rfl ?_
  refine J.o_op_g rfl rfl rfl rfl (Yd.seq rfl rfl) rfl ?_
  refine J.o_op_g rfl rfl rfl rfl (Yd.move rfl) rfl ?_
  refine J.know (t := 40) (v' := .bool true) rfl (tt (by exact hsv.symm)) ?_
  refine J.o_op_g rfl rfl rfl rfl (Yd.move rfl) rfl ?_
  refine J.o_op_g rfl rfl rfl rfl (Yd.move rfl) rfl ?_
  refine J.o_op_g rfl rfl rfl rfl (Yd.nilCheck rfl) rfl ?_
  refine J.o_op_g rfl rfl rfl rfl (Yd.cast (Yd.fieldA Try.underlying46 rfl ti44 rfl rfl) (show _ = Value.pointer (some ⟨b2, 1, none⟩) from rfl)) rfl ?_
  refine J.o_op_g rfl rfl rfl rfl (Yd.load pl44 rfl (Cel.cell1 c2 1 rfl)) rfl ?_
  refine J.o_op_g rfl rfl rfl rfl (Yd.lenE (K := entS) Try.underlying44 rfl (Es.rd o2)) rfl ?_
  refine J.o_eff_g rfl rfl rfl rfl (Ye.call cl13 rfl (Len_sk hs)) rfl (fun _ _ h => h.2) ?_
  rintro _ w4 ⟨rfl, x1⟩
  have hs := hs.ext x1
  have e0 := e0.trans x1
  have c2 := c2.ext x1
  have o2 := o2.ext x1
  have os35_3 := os35_3.ext x1
  clear x1
  refine J.o_nil ?_
  refine J.s_op_g rfl rfl rfl rfl (fun _ => Yd.eql rfl rfl) rfl ?_
  refine J.s_op_g rfl rfl rfl rfl (fun _ => Yd.pick_t rfl rfl) rfl ?_
  refine J.s_op rfl (fun _ => Yd.pick_f rfl rfl) rfl ?_
  refine J.s_op rfl (fun _ => Yd.move rfl) rfl ?_
  refine J.know (t := 51) (v' := .bool true) rfl (tt (by omega)) ?_
  refine J.s_eff_g rfl rfl rfl rfl (Ye.call cl8 rfl (Awake_ok)) rfl ?_
  rintro _ w5 ⟨rfl, x1⟩
  have hs := hs.ext x1
  have e0 := e0.trans x1
  have c2 := c2.ext x1
  have o2 := o2.ext x1
  have os35_3 := os35_3.ext x1
  clear x1
  refine J.s_op rfl (fun _ => Yd.pick_t rfl rfl) rfl ?_
  refine J.s_op rfl (fun _ => Yd.assign rfl) rfl ?_
  refine J.s_nil ?_
  refine J.n_np ?_
  refine J.n_then ?_
  refine J.ret ?_
  exact J.ret1 rfl rfl (⟨_, rfl, rfl, e0⟩)

theorem Reads_ok {a : Value} {l : List UInt8} {w : World} (ha : Bs w a l) : C Try.prog 6 [a] w (Ret fun v w' => v = .bool true ∧ Ext w w') := by
  by_cases hb : l.length ≤ 4000
  · cases hsk : skR l with
    | none => exact ReadsNo ha hb hsk
    | some p => exact ReadsYes (m := p.1) (L := p.2) ha hb hsk
  · exact ReadsOut ha hb
end Ytfefphcmfhabiaa
end Go.Proofs
