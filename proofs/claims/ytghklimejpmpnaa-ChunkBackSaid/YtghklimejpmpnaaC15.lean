import Derived.Test.YtghklimejpmpnaaT
import Derived.Test.YtghklimejpmpnaaX30
import Derived.Test.YtghklimejpmpnaaC14
set_option linter.unusedVariables false
set_option linter.unusedSimpArgs false
set_option maxRecDepth 100000
set_option maxHeartbeats 4000000
namespace Go.Proofs
open Go.X Go.RowKit
namespace Ytghklimejpmpnaa
theorem Same_ok {x y : Pc} {l : List UInt8} {w : World} (hx : Bs w x.2.2.2 l) (hy : Bs w y.2.2.2 l) (h : x.1 = y.1 ∧ x.2.1 = y.2.1 ∧ x.2.2.1 = y.2.2.1) : C Try.prog 21 [.agg (pcS.c x).toArray, .agg (pcS.c y).toArray] w (Ret fun v w' => v = .bool true ∧ Ext w w') := by
  have e0 := Ext.refl w
  refine C.enter Try.func21 rfl Try.ntmps21 rfl ?_
  refine J.seq ?_
  refine J.region ?_
  refine J.eff (Ye.box (S := [(0, 1, [I x.1]), (1, 1, [I x.2.1]), (2, 1, [I x.2.2.1]), (3, 1, [x.2.2.2])]) rfl (by simp [SegAll, SegOK, Value.cells, pcS])) rfl ?_
  rintro _ w1 ⟨b2_0, rfl, hb_, c2_0, x1⟩
  have fr_b2_0 : Fr w.heap.size (some b2_0) := Fr.le (Fr.blk hb_) e0.size
  have e0 := e0.trans x1
  clear x1 hb_
  refine J.eff (Ye.box (S := [(0, 1, [I y.1]), (1, 1, [I y.2.1]), (2, 1, [I y.2.2.1]), (3, 1, [y.2.2.2])]) rfl (by simp [SegAll, SegOK, Value.cells, pcS])) rfl ?_
  rintro _ w2 ⟨b3_1, rfl, hb_, c3_1, x1⟩
  have ap_b2_0_b3_1 : Ap (some b2_0) (some b3_1) := Ap.mk (Cel.live c2_0) (Fr.blk hb_)
  have fr_b3_1 : Fr w.heap.size (some b3_1) := Fr.le (Fr.blk hb_) e0.size
  have e0 := e0.trans x1
  have c2_0 := c2_0.ext x1
  clear x1 hb_
  refine J.op (Yd.assign rfl) rfl ?_
  refine J.nil ?_
  refine J.n_then ?_
  refine J.seq ?_
  refine J.region ?_
  refine J.op (Yd.cast (Yd.fieldA Try.underlying29 rfl ti3 rfl rfl) (show _ = Value.pointer (some ⟨b2_0, 0, none⟩) from rfl)) rfl ?_
  refine J.op (Yd.load pl3 rfl (Cel.cell1 c2_0 0 rfl)) rfl ?_
  refine J.op (Yd.cast (Yd.fieldA Try.underlying31 rfl ti3 rfl rfl) (show _ = Value.pointer (some ⟨b3_1, 0, none⟩) from rfl)) rfl ?_
  refine J.op (Yd.load pl3 rfl (Cel.cell1 c3_1 0 rfl)) rfl ?_
  refine J.op (Yd.eql rfl rfl) rfl ?_
  refine J.op (Yd.move rfl) rfl ?_
  refine J.know (t := 10) (v' := .bool true) rfl (tt (by exact h.1)) ?_
  refine J.op_g rfl rfl rfl (Yd.cast (Yd.fieldA Try.underlying29 rfl ti3 rfl rfl) (show _ = Value.pointer (some ⟨b2_0, 1, none⟩) from rfl)) rfl ?_
  refine J.op_g rfl rfl rfl (Yd.load pl3 rfl (Cel.cell1 c2_0 1 rfl)) rfl ?_
  refine J.op_g rfl rfl rfl (Yd.cast (Yd.fieldA Try.underlying31 rfl ti3 rfl rfl) (show _ = Value.pointer (some ⟨b3_1, 1, none⟩) from rfl)) rfl ?_
  refine J.op_g rfl rfl rfl (Yd.load pl3 rfl (Cel.cell1 c3_1 1 rfl)) rfl ?_
  refine J.op_g rfl rfl rfl (Yd.eql rfl rfl) rfl ?_
  refine J.op (Yd.pick_t rfl rfl) rfl ?_
  refine J.op (Yd.move rfl) rfl ?_
  refine J.know (t := 17) (v' := .bool true) rfl (tt (by exact h.2.1)) ?_
  refine J.op_g rfl rfl rfl (Yd.cast (Yd.fieldA Try.underlying29 rfl ti3 rfl rfl) (show _ = Value.pointer (some ⟨b2_0, 2, none⟩) from rfl)) rfl ?_
  refine J.op_g rfl rfl rfl (Yd.load pl3 rfl (Cel.cell1 c2_0 2 rfl)) rfl ?_
  refine J.op_g rfl rfl rfl (Yd.cast (Yd.fieldA Try.underlying31 rfl ti3 rfl rfl) (show _ = Value.pointer (some ⟨b3_1, 2, none⟩) from rfl)) rfl ?_
  refine J.op_g rfl rfl rfl (Yd.load pl3 rfl (Cel.cell1 c3_1 2 rfl)) rfl ?_
  refine J.op_g rfl rfl rfl (Yd.eql rfl rfl) rfl ?_
  refine J.op (Yd.pick_t rfl rfl) rfl ?_
  refine J.op (Yd.move rfl) rfl ?_
  refine J.know (t := 24) (v' := .bool true) rfl (tt (by exact h.2.2)) ?_
  refine J.op_g rfl rfl rfl (Yd.cast (Yd.fieldA Try.underlying29 rfl ti22 rfl rfl) (show _ = Value.pointer (some ⟨b2_0, 3, none⟩) from rfl)) rfl ?_
  refine J.op_g rfl rfl rfl (Yd.load pl22 rfl (Cel.cell1 c2_0 3 rfl)) rfl ?_
  refine J.op_g rfl rfl rfl (Yd.bstr Try.underlying22 Try.underlying5 Try.underlying9 rfl (Rd.ext hx e0)) rfl ?_
  refine J.op_g rfl rfl rfl (Yd.cast (Yd.fieldA Try.underlying31 rfl ti22 rfl rfl) (show _ = Value.pointer (some ⟨b3_1, 3, none⟩) from rfl)) rfl ?_
  refine J.op_g rfl rfl rfl (Yd.load pl22 rfl (Cel.cell1 c3_1 3 rfl)) rfl ?_
  refine J.op_g rfl rfl rfl (Yd.bstr Try.underlying22 Try.underlying5 Try.underlying9 rfl (Rd.ext hy e0)) rfl ?_
  refine J.op_g rfl rfl rfl (Yd.seq rfl rfl) rfl ?_
  refine J.op (Yd.pick_t rfl rfl) rfl ?_
  refine J.op (Yd.assign rfl) rfl ?_
  refine J.nil ?_
  refine J.n_then ?_
  refine J.ret ?_
  exact J.ret1 rfl rfl (⟨_, rfl, congrArg Value.bool (decide_eq_true rfl), e0⟩)

theorem ReadP_ok {p : Nat} {a : Value} {l : List UInt8} {w : World} (ha : Bs w a l) (hl : l.length ≤ 1000000) (hp : Cel w p 29 [(0, 1, [I 0]), (1, 1, [I 0]), (2, 1, [I 0]), (3, 1, [nilS])]) : C Try.prog 38 [a, .func (.func 39) #[] #[.pointer (some ⟨p, 0, none⟩)]] w (Ret fun u w' => ∃ (e : Int) (x : Pc) (d : List UInt8), u = I e ∧ Tn [some p] w w' ∧ Cel w' p 29 [(0, 1, [I x.1]), (1, 1, [I x.2.1]), (2, 1, [I x.2.2.1]), (3, 1, [x.2.2.2])] ∧ Ob w.heap.size 5 w' x.2.2.2 d ∧ RdQ l e x.1 x.2.1 x.2.2.1 d) := by
  have hlp := Cel.lt hp
  rcases rdN_three (l := l) with hN | ⟨z0, z1, z2, rf, hN⟩
  · have hno := decR_no hN
    exact (Read_err (f := 39) (fst := #[]) (cap := #[.pointer (some ⟨p, 0, none⟩)]) (rs := [some p]) (n := 2) (Φ := fun w' => ∃ y0 y1 y2 : Int, Cel w' p 29 [(0, 1, [I y0]), (1, 1, [I y1]), (2, 1, [I y2]), (3, 1, [nilS])]) cl39 (LoL.one (Cel.live hp)) ha (by omega) (by decide) (fun w1 be br hx hbe hlt hr => (Dc_num hr (hp.ext hx) (Lo.out (Cel.live hp)) hl hN).pan fun ch w2 h => by obtain ⟨h1, ⟨y0, y1, y2, h2⟩, h3⟩ := h; exact ⟨h1, h3, fun w3 ht => ⟨y0, y1, y2, h2.tnk ht (ApL.one (fun k e1 e2 => by cases e1; cases e2; omega))⟩⟩)).ret fun u w' h => by obtain ⟨h1, h2, y0, y1, y2, h3⟩ := h; exact ⟨2, (y0, y1, y2, nilS), [], h1, h2, h3, Ow.nil _ _ _, .inl ⟨by decide, hno⟩⟩
  · cases hgb : gN 0 rf 0 with
    | none =>
      have hno := byF_dec hN (.inl ⟨hgb, rfl⟩)
      exact (Read_err (f := 39) (fst := #[]) (cap := #[.pointer (some ⟨p, 0, none⟩)]) (rs := [some p]) (n := 2) (Φ := fun w' => ∃ y0 y1 y2 : Int, Cel w' p 29 [(0, 1, [I y0]), (1, 1, [I y1]), (2, 1, [I y2]), (3, 1, [nilS])]) cl39 (LoL.one (Cel.live hp)) ha (by omega) (by decide) (fun w1 be br hx hbe hlt hr => (Dc_bad hr (hp.ext hx) (Lo.out (Cel.live hp)) hl hN hgb).pan fun ch w2 h => by obtain ⟨h1, ⟨y0, y1, y2, h2⟩, h3⟩ := h; exact ⟨h1, h3, fun w3 ht => ⟨y0, y1, y2, h2.tnk ht (ApL.one (fun k e1 e2 => by cases e1; cases e2; omega))⟩⟩)).ret fun u w' h => by obtain ⟨h1, h2, y0, y1, y2, h3⟩ := h; exact ⟨2, (y0, y1, y2, nilS), [], h1, h2, h3, Ow.nil _ _ _, .inl ⟨by decide, hno⟩⟩
    | some q2 =>
      obtain ⟨qb, kb⟩ := q2
      by_cases hqb : qb.toNat ≤ 1000
      · by_cases hkb : kb + qb.toNat ≤ rf.length
        · refine (Read_ret (f := 39) (fst := #[]) (cap := #[.pointer (some ⟨p, 0, none⟩)]) (rs := [some p]) (Φ := fun w' l2 => l2 = rf.drop (kb + qb.toNat) ∧ ∃ v, Cel w' p 29 [(0, 1, [I z0]), (1, 1, [I z1]), (2, 1, [I z2]), (3, 1, [v])] ∧ Ob w.heap.size 5 w' v ((rf.drop kb).take qb.toNat)) cl39 (LoL.one (Cel.live hp)) ha (by omega) (fun w1 be br hx hbe hlt hr => (Dc_ok hr (hp.ext hx) (Lo.out (Cel.live hp)) hl hN hgb hqb hkb).ret fun _ w2 h => ?_)).ret fun u w' h => ?_
          · obtain ⟨v, h1, h2, h3, h4, h5⟩ := h
            have hbr := Rdr.live hr _ rfl
            exact ⟨_, h1, h5, fun w3 ht => ⟨rfl, v, h2.tnk ht (ApL.one (fun k e1 e2 => by cases e1; cases e2; omega)), Ow.up (Ow.tnk h3 ht (ApL.one (fun k e1 e2 => by have := h4 k e1; cases e2; omega))) (Fr.le h4 hx.size)⟩⟩
          · obtain ⟨l2, h1, h2, rfl, v, h3, h4⟩ := h
            exact ⟨_, (z0, z1, z2, v), _, h1, h2, h3, h4, RdQ.ok hN hgb hqb hkb⟩
        · have hno := byF_dec hN (.inr ⟨qb, kb, hgb, .inr ⟨hqb, by omega, rfl⟩⟩)
          exact (Read_err (f := 39) (fst := #[]) (cap := #[.pointer (some ⟨p, 0, none⟩)]) (rs := [some p]) (n := 2) (Φ := fun w' => ∃ y0 y1 y2 : Int, Cel w' p 29 [(0, 1, [I y0]), (1, 1, [I y1]), (2, 1, [I y2]), (3, 1, [nilS])]) cl39 (LoL.one (Cel.live hp)) ha (by omega) (by decide) (fun w1 be br hx hbe hlt hr => (Dc_short hr (hp.ext hx) (Lo.out (Cel.live hp)) hl hN hgb hqb (by omega)).pan fun ch w2 h => by obtain ⟨h1, ⟨y0, y1, y2, h2⟩, h3⟩ := h; exact ⟨h1, h3, fun w3 ht => ⟨y0, y1, y2, h2.tnk ht (ApL.one (fun k e1 e2 => by cases e1; cases e2; omega))⟩⟩)).ret fun u w' h => by obtain ⟨h1, h2, y0, y1, y2, h3⟩ := h; exact ⟨2, (y0, y1, y2, nilS), [], h1, h2, h3, Ow.nil _ _ _, .inl ⟨by decide, hno⟩⟩
      · have hno := byF_dec hN (.inr ⟨qb, kb, hgb, .inl ⟨hqb, rfl⟩⟩)
        exact (Read_err (f := 39) (fst := #[]) (cap := #[.pointer (some ⟨p, 0, none⟩)]) (rs := [some p]) (n := 11) (Φ := fun w' => ∃ y0 y1 y2 : Int, Cel w' p 29 [(0, 1, [I y0]), (1, 1, [I y1]), (2, 1, [I y2]), (3, 1, [nilS])]) cl39 (LoL.one (Cel.live hp)) ha (by omega) (by decide) (fun w1 be br hx hbe hlt hr => (Dc_big hr (hp.ext hx) (Lo.out (Cel.live hp)) hl hN hgb hqb).pan fun ch w2 h => by obtain ⟨h1, ⟨y0, y1, y2, h2⟩, h3⟩ := h; exact ⟨h1, h3, fun w3 ht => ⟨y0, y1, y2, h2.tnk ht (ApL.one (fun k e1 e2 => by cases e1; cases e2; omega))⟩⟩)).ret fun u w' h => by obtain ⟨h1, h2, y0, y1, y2, h3⟩ := h; exact ⟨11, (y0, y1, y2, nilS), [], h1, h2, h3, Ow.nil _ _ _, .inl ⟨by decide, hno⟩⟩

theorem Decode_any {a : Value} {l : List UInt8} {w : World} (ha : Bs w a l) (hl : l.length ≤ 1000000) : C Try.prog 24 [a] w (Ret fun u w' => ∃ (y : Pc) (d : List UInt8) (k : Int), u = .tuple #[.agg (pcS.c y).toArray, I k] ∧ Ob w.heap.size 5 w' y.2.2.2 d ∧ decV l = (y.1, y.2.1, y.2.2.1, d, k) ∧ Ext w w') := by
  have e0 := Ext.refl w
  refine C.enter Try.func24 rfl Try.ntmps24 rfl ?_
  refine J.seq ?_
  refine J.region ?_
  refine J.eff (Ye.alloc ti29 (S := [(0, 4, [I 0, I 0, I 0, nilS])]) (by simp [SegAll, SegOK, Value.cells, nilS])) rfl ?_
  rintro _ w1 ⟨b2_0, rfl, hb_, c2_0, x1⟩
  have fr_b2_0 : Fr w.heap.size (some b2_0) := Fr.le (Fr.blk hb_) e0.size
  have e0 := e0.trans x1
  clear x1 hb_
  refine J.op (Yd.assign rfl) rfl ?_
  refine J.nil ?_
  refine J.n_then ?_
  refine J.seq ?_
  refine J.region ?_
  refine J.eff (Ye.alloc ti29 (S := [(0, 1, [.int .i64 0]), (1, 1, [.int .i64 0]), (2, 1, [.int .i64 0]), (3, 1, [.slice none 0 0])]) (by simp [SegAll, SegOK, Value.cells])) rfl ?_
  rintro _ w2 ⟨b4_1, rfl, hb_, c4_1, x1⟩
  have ap_b2_0_b4_1 : Ap (some b2_0) (some b4_1) := Ap.mk (Cel.live c2_0) (Fr.blk hb_)
  have fr_b4_1 : Fr w.heap.size (some b4_1) := Fr.le (Fr.blk hb_) e0.size
  have e0 := e0.trans x1
  have c2_0 := c2_0.ext x1
  clear x1 hb_
  refine J.nil ?_
  refine J.n_then ?_
  refine J.seq ?_
  refine J.region ?_
  refine J.op (Yd.move rfl) rfl ?_
  refine J.op (Yd.mkFuncC rfl rfl) rfl ?_
  have hsz0 := e0.size
  refine J.eff (Ye.call cl38 rfl (ReadP_ok (Rd.ext ha e0) hl c4_1)) rfl ?_
  rintro _ w3 ⟨e, ⟨xi, xa, xc, vd⟩, d, rfl, x1, hc2, hod, hQ⟩
  dsimp only at hc2 hod hQ
  have ap_b2_0_vd : Ap (some b2_0) vd.ownBlock := Ap.mk (Cel.live c2_0) (Ow.fr hod)
  have ap_b4_1_vd : Ap (some b4_1) vd.ownBlock := Ap.mk (Cel.live c4_1) (Ow.fr hod)
  have fr_vd : Fr w.heap.size vd.ownBlock := Fr.le (Ow.fr hod) e0.size
  have c2_0 := Cel.tnk c2_0 x1 (ApL.one ap_b2_0_b4_1)
  have e0 := Ext.tnk e0 (fun q hq => by simp only [List.mem_singleton] at hq; subst hq; exact fr_b4_1) x1
  clear x1
  replace c4_1 := hc2
  clear hc2
  refine J.op (Yd.assign rfl) rfl ?_
  refine J.nil ?_
  refine J.n_then ?_
  refine J.seq ?_
  refine J.region ?_
  refine J.op (Yd.cast (Yd.loadA ag29 ti29 rfl (Cel.j4 c4_1) 0 rfl) (show _ = .agg (pcS.c ((xi, xa, xc, vd) : Pc)).toArray from rfl)) rfl ?_
  refine J.eff (Ye.call cl22 rfl (Encode_any (x := ((xi, xa, xc, vd) : Pc)) (l := d) (Ow.rd hod))) rfl ?_
  rintro _ w4 ⟨v13_4, rfl, ov13_4, x1⟩
  have ap_b2_0_v13_4 : Ap (some b2_0) v13_4.ownBlock := Ap.mk (Cel.live c2_0) (Ow.fr ov13_4)
  have ap_b4_1_v13_4 : Ap (some b4_1) v13_4.ownBlock := Ap.mk (Cel.live c4_1) (Ow.fr ov13_4)
  have ap_vd_v13_4 : Ap vd.ownBlock v13_4.ownBlock := Ap.mk (Ow.live hod) (Ow.fr ov13_4)
  have fr_v13_4 : Fr w.heap.size v13_4.ownBlock := Fr.le (Ow.fr ov13_4) e0.size
  replace ov13_4 := Ow.base ov13_4 e0.size
  have e0 := e0.trans x1
  have c2_0 := c2_0.ext x1
  have c4_1 := c4_1.ext x1
  have hod := hod.ext x1
  clear x1
  refine J.op (Yd.move rfl) rfl ?_
  refine J.op (Yd.extract rfl rfl) rfl ?_
  refine J.op (Yd.extract rfl rfl) rfl ?_
  refine J.op (Yd.assign rfl) rfl ?_
  refine J.op (Yd.assign rfl) rfl ?_
  refine J.nil ?_
  refine J.n_then ?_
  refine J.seq ?_
  refine J.seq ?_
  refine J.region ?_
  rcases hQ.cases with ⟨hQ1, hV⟩ | ⟨hQ1, hE, hV⟩ | ⟨hQ1, hE, hL, hV⟩
  · skip
    refine J.op (Yd.move rfl) rfl ?_
    refine J.op (Yd.neq rfl rfl) rfl ?_
    refine J.op (Yd.move rfl) rfl ?_
    refine J.know (t := 18) (v' := .bool true) rfl (tt (by exact hQ1)) ?_
    refine J.not_g rfl rfl rfl rfl rfl ?_
    refine J.not_g rfl rfl rfl rfl rfl ?_
    refine J.op (Yd.pick_t rfl rfl) rfl ?_
    refine J.op (Yd.move rfl) rfl ?_
    refine J.not_g rfl rfl rfl rfl rfl ?_
    refine J.not_g rfl rfl rfl rfl rfl ?_
    refine J.not_g rfl rfl rfl rfl rfl ?_
    refine J.not_g rfl rfl rfl rfl rfl ?_
    refine J.op (Yd.pick_t rfl rfl) rfl ?_
    refine J.nil ?_
    refine J.n_then ?_
    refine J.cond_true rfl ?_
    refine J.seq ?_
    refine J.region ?_
    refine J.op (Yd.cast (Yd.buildS (cells := #[I 0, I 0, I 0, nilS]) (pl := [(0, 1), (1, 1), (2, 1), (3, 1)]) Try.underlying29 (by kernel_rfl) ti29 rfl (by rfl)) (show _ = .agg (pcS.c pcD).toArray from rfl)) rfl ?_
    refine J.eff0 (Ye.storeA (ys := pcS.c pcD) ti29 c2_0 0 rfl rfl rfl rfl (by rfl) (by intro v_ hv_; simp only [pcS, pcD, List.mem_cons, List.mem_nil_iff, or_false] at hv_; rcases hv_ with rfl | rfl | rfl | rfl; rfl; rfl; rfl; rfl)) ?_
    rintro _ w5 ⟨cX, hu⟩
    simp only [List.set_cons_zero, List.set_cons_succ] at cX
    have hg := hu.gb
    have c4_1 := Cel.gbk c4_1 hg (Ap.symm ap_b2_0_b4_1)
    have hod := Ow.gbk hod hg (Ap.symm ap_b2_0_vd)
    have ov13_4 := Ow.gbk ov13_4 hg (Ap.symm ap_b2_0_v13_4)
    have e0 := Ext.gbk e0 fr_b2_0 hg
    clear hg
    replace c2_0 := cX
    clear cX hu
    refine J.op (Yd.assign rfl) rfl ?_
    refine J.nil ?_
    refine J.n_then ?_
    refine J.ret ?_
    refine J.r_then ?_
    exact J.ret2cb rfl rfl ag29 ti29 c2_0 0 rfl rfl (⟨_, rfl, pcD, [], 2, rfl, Ow.nil _ _ _, hV, e0⟩)
  · skip
    refine J.op (Yd.move rfl) rfl ?_
    refine J.op (Yd.neq rfl rfl) rfl ?_
    refine J.op (Yd.move rfl) rfl ?_
    refine J.know (t := 18) (v' := .bool false) rfl (ff (by exact fun h => h hQ1)) ?_
    refine J.op_g rfl rfl rfl (Yd.move rfl) rfl ?_
    refine J.op_g rfl rfl rfl (Yd.neq rfl rfl) rfl ?_
    refine J.op (Yd.pick_f rfl rfl) rfl ?_
    refine J.op (Yd.move rfl) rfl ?_
    refine J.know (t := 22) (v' := .bool true) rfl (tt (by rw [hE]; decide)) ?_
    refine J.not_g rfl rfl rfl rfl rfl ?_
    refine J.not_g rfl rfl rfl rfl rfl ?_
    refine J.not_g rfl rfl rfl rfl rfl ?_
    refine J.not_g rfl rfl rfl rfl rfl ?_
    refine J.op (Yd.pick_t rfl rfl) rfl ?_
    refine J.nil ?_
    refine J.n_then ?_
    refine J.cond_true rfl ?_
    refine J.seq ?_
    refine J.region ?_
    refine J.op (Yd.cast (Yd.buildS (cells := #[I 0, I 0, I 0, nilS]) (pl := [(0, 1), (1, 1), (2, 1), (3, 1)]) Try.underlying29 (by kernel_rfl) ti29 rfl (by rfl)) (show _ = .agg (pcS.c pcD).toArray from rfl)) rfl ?_
    refine J.eff0 (Ye.storeA (ys := pcS.c pcD) ti29 c2_0 0 rfl rfl rfl rfl (by rfl) (by intro v_ hv_; simp only [pcS, pcD, List.mem_cons, List.mem_nil_iff, or_false] at hv_; rcases hv_ with rfl | rfl | rfl | rfl; rfl; rfl; rfl; rfl)) ?_
    rintro _ w6 ⟨cX, hu⟩
    simp only [List.set_cons_zero, List.set_cons_succ] at cX
    have hg := hu.gb
    have c4_1 := Cel.gbk c4_1 hg (Ap.symm ap_b2_0_b4_1)
    have hod := Ow.gbk hod hg (Ap.symm ap_b2_0_vd)
    have ov13_4 := Ow.gbk ov13_4 hg (Ap.symm ap_b2_0_v13_4)
    have e0 := Ext.gbk e0 fr_b2_0 hg
    clear hg
    replace c2_0 := cX
    clear cX hu
    refine J.op (Yd.assign rfl) rfl ?_
    refine J.nil ?_
    refine J.n_then ?_
    refine J.ret ?_
    refine J.r_then ?_
    exact J.ret2cb rfl rfl ag29 ti29 c2_0 0 rfl rfl (⟨_, rfl, pcD, [], 2, rfl, Ow.nil _ _ _, hV, e0⟩)
  · skip
    refine J.op (Yd.move rfl) rfl ?_
    refine J.op (Yd.neq rfl rfl) rfl ?_
    refine J.op (Yd.move rfl) rfl ?_
    refine J.know (t := 18) (v' := .bool false) rfl (ff (by exact fun h => h hQ1)) ?_
    refine J.op_g rfl rfl rfl (Yd.move rfl) rfl ?_
    refine J.op_g rfl rfl rfl (Yd.neq rfl rfl) rfl ?_
    refine J.op (Yd.pick_f rfl rfl) rfl ?_
    refine J.op (Yd.move rfl) rfl ?_
    refine J.know (t := 22) (v' := .bool false) rfl (ff (by exact fun h => h hE)) ?_
    refine J.op_g rfl rfl rfl (Yd.move rfl) rfl ?_
    refine J.op_g rfl rfl rfl (Yd.move rfl) rfl ?_
    refine J.eff_g rfl rfl rfl (Ye.call cl31 rfl (Equal_ok (Ow.rd ov13_4) (Rd.ext ha e0))) rfl ?_
    rintro _ w7 ⟨rfl, x1⟩
    have e0 := e0.trans x1
    have c2_0 := c2_0.ext x1
    have c4_1 := c4_1.ext x1
    have hod := hod.ext x1
    have ov13_4 := ov13_4.ext x1
    clear x1
    refine J.op_g rfl rfl rfl (Yd.not_dec rfl) rfl ?_
    refine J.op (Yd.pick_f rfl rfl) rfl ?_
    refine J.nil ?_
    refine J.n_then ?_
    refine J.know (t := 27) (v' := .bool false) rfl (ff (by exact fun h => h hL)) ?_
    refine J.cond_false rfl ?_
    refine J.skip ?_
    refine J.n_then ?_
    refine J.seq ?_
    refine J.region ?_
    refine J.op (Yd.cast (Yd.loadA ag29 ti29 rfl (Cel.j4 c4_1) 0 rfl) (show _ = .agg (pcS.c ((xi, xa, xc, vd) : Pc)).toArray from rfl)) rfl ?_
    refine J.eff0 (Ye.storeA (ys := pcS.c ((xi, xa, xc, vd) : Pc)) ti29 c2_0 0 rfl rfl rfl rfl (by rfl) (by intro v_ hv_; simp only [pcS, pcD, List.mem_cons, List.mem_nil_iff, or_false] at hv_; rcases hv_ with rfl | rfl | rfl | rfl; rfl; rfl; rfl; exact Rd.one (Ow.rd hod))) ?_
    rintro _ w8 ⟨cX, hu⟩
    simp only [List.set_cons_zero, List.set_cons_succ] at cX
    have hg := hu.gb
    have c4_1 := Cel.gbk c4_1 hg (Ap.symm ap_b2_0_b4_1)
    have hod := Ow.gbk hod hg (Ap.symm ap_b2_0_vd)
    have ov13_4 := Ow.gbk ov13_4 hg (Ap.symm ap_b2_0_v13_4)
    have e0 := Ext.gbk e0 fr_b2_0 hg
    clear hg
    replace c2_0 := cX
    clear cX hu
    refine J.op (Yd.assign rfl) rfl ?_
    refine J.nil ?_
    refine J.n_then ?_
    refine J.ret ?_
    exact J.ret2cb rfl rfl ag29 ti29 c2_0 0 rfl rfl (⟨_, rfl, ((xi, xa, xc, vd) : Pc), d, 0, rfl, Ow.base hod hsz0, hV, e0⟩)
end Ytghklimejpmpnaa
end Go.Proofs
