import Derived.Test.YtghklimejpmpnaaT
import Derived.Test.YtghklimejpmpnaaC17
set_option linter.unusedVariables false
set_option linter.unusedSimpArgs false
set_option maxRecDepth 100000
set_option maxHeartbeats 4000000
namespace Go.Proofs
open Go.X Go.RowKit
namespace Ytghklimejpmpnaa
theorem SplitsOut {id n : Int} {a cv : Value} {l lp lc : List UInt8} {x : Pc} {w : World} (ha : Bs w a l) (hx : Bs w x.2.2.2 lp) (hcv : Bs w cv lc) (hb : ¬ (l.length ≤ 10100 ∧ lp.length ≤ 1100 ∧ lc.length ≤ 1100)) : C Try.prog 6 [I id, a, I n, .agg (pcS.c x).toArray, cv] w (Ret fun v w' => v = .bool true ∧ Ext w w') := by
  have e0 := Ext.refl w
  refine C.enter Try.func6 rfl Try.ntmps6 rfl ?_
  refine J.seq ?_
  refine J.region ?_
  refine J.eff (Ye.box (S := [(0, 1, [I x.1]), (1, 1, [I x.2.1]), (2, 1, [I x.2.2.1]), (3, 1, [x.2.2.2])]) rfl (by simp [SegAll, SegOK, Value.cells, pcS])) rfl ?_
  rintro _ w1 ⟨b8_0, rfl, hb_, c8_0, x1⟩
  have fr_b8_0 : Fr w.heap.size (some b8_0) := Fr.le (Fr.blk hb_) e0.size
  have e0 := e0.trans x1
  clear x1 hb_
  refine J.op (Yd.assign rfl) rfl ?_
  refine J.nil ?_
  refine J.n_then ?_
  refine J.seq ?_
  refine J.seq ?_
  refine J.region ?_
  refine J.op (Yd.move rfl) rfl ?_
  refine J.op (Yd.len_b Try.underlying22 rfl (Rd.ext ha e0)) rfl ?_
  refine J.op (Yd.gtr rfl rfl) rfl ?_
  refine J.op (Yd.move rfl) rfl ?_
  refine J.split_dec (t := 27) rfl (fun g1 => ?_) (fun g1 => ?_)
  · skip
    refine J.not_g rfl rfl rfl rfl rfl ?_
    refine J.not_g rfl rfl rfl rfl rfl ?_
    refine J.not_g rfl rfl rfl rfl rfl ?_
    refine J.not_g rfl rfl rfl rfl rfl ?_
    refine J.op (Yd.pick_t rfl rfl) rfl ?_
    refine J.op (Yd.move rfl) rfl ?_
    refine J.not_g rfl rfl rfl rfl rfl ?_
    refine J.not_g rfl rfl rfl rfl rfl ?_
    refine J.not_g rfl rfl rfl rfl rfl ?_
    refine J.op (Yd.pick_t rfl rfl) rfl ?_
    refine J.nil ?_
    refine J.n_then ?_
    refine J.cond_true rfl ?_
    refine J.seq ?_
    refine J.region ?_
    refine J.eff (Ye.call cl8 rfl (Awake_ok)) rfl ?_
    rintro _ w2 ⟨rfl, x1⟩
    have e0 := e0.trans x1
    have c8_0 := c8_0.ext x1
    clear x1
    refine J.op (Yd.assign rfl) rfl ?_
    refine J.nil ?_
    refine J.n_then ?_
    refine J.ret ?_
    refine J.r_then ?_
    exact J.ret1 rfl rfl (⟨_, rfl, rfl, e0⟩)
  · skip
    refine J.op_g rfl rfl rfl (Yd.cast (Yd.fieldA Try.underlying31 rfl ti22 rfl rfl) (show _ = Value.pointer (some ⟨b8_0, 3, none⟩) from rfl)) rfl ?_
    refine J.op_g rfl rfl rfl (Yd.load pl22 rfl (Cel.cell1 c8_0 3 rfl)) rfl ?_
    refine J.op_g rfl rfl rfl (Yd.len_b Try.underlying22 rfl (Rd.ext hx e0)) rfl ?_
    refine J.op_g rfl rfl rfl (Yd.gtr rfl rfl) rfl ?_
    refine J.op (Yd.pick_f rfl rfl) rfl ?_
    refine J.op (Yd.move rfl) rfl ?_
    refine J.split_dec (t := 33) rfl (fun g2 => ?_) (fun g2 => ?_)
    · skip
      refine J.not_g rfl rfl rfl rfl rfl ?_
      refine J.not_g rfl rfl rfl rfl rfl ?_
      refine J.not_g rfl rfl rfl rfl rfl ?_
      refine J.op (Yd.pick_t rfl rfl) rfl ?_
      refine J.nil ?_
      refine J.n_then ?_
      refine J.cond_true rfl ?_
      refine J.seq ?_
      refine J.region ?_
      refine J.eff (Ye.call cl8 rfl (Awake_ok)) rfl ?_
      rintro _ w3 ⟨rfl, x1⟩
      have e0 := e0.trans x1
      have c8_0 := c8_0.ext x1
      clear x1
      refine J.op (Yd.assign rfl) rfl ?_
      refine J.nil ?_
      refine J.n_then ?_
      refine J.ret ?_
      refine J.r_then ?_
      exact J.ret1 rfl rfl (⟨_, rfl, rfl, e0⟩)
    · skip
      refine J.op_g rfl rfl rfl (Yd.move rfl) rfl ?_
      refine J.op_g rfl rfl rfl (Yd.len_b Try.underlying22 rfl (Rd.ext hcv e0)) rfl ?_
      refine J.op_g rfl rfl rfl (Yd.gtr rfl rfl) rfl ?_
      refine J.op (Yd.pick_f rfl rfl) rfl ?_
      refine J.nil ?_
      refine J.n_then ?_
      refine J.know (t := 37) (v' := .bool true) rfl (tt (by omega)) ?_
      refine J.cond_true rfl ?_
      refine J.seq ?_
      refine J.region ?_
      refine J.eff (Ye.call cl8 rfl (Awake_ok)) rfl ?_
      rintro _ w4 ⟨rfl, x1⟩
      have e0 := e0.trans x1
      have c8_0 := c8_0.ext x1
      clear x1
      refine J.op (Yd.assign rfl) rfl ?_
      refine J.nil ?_
      refine J.n_then ?_
      refine J.ret ?_
      refine J.r_then ?_
      exact J.ret1 rfl rfl (⟨_, rfl, rfl, e0⟩)

theorem SplitsIn {id : Int} {n : Nat} {a cv : Value} {l lp lc : List UInt8} {x : Pc} {w : World} (ha : Bs w a l) (hx : Bs w x.2.2.2 lp) (hcv : Bs w cv lc) (hb : l.length ≤ 10100 ∧ lp.length ≤ 1100 ∧ lc.length ≤ 1100) (hn : (0 ≤ id ∧ id ≤ 1073741824) ∧ 1 ≤ n ∧ n ≤ 1000) (hl : 1 ≤ l.length ∧ l.length ≤ 10000) : C Try.prog 6 [I id, a, I (n : Int), .agg (pcS.c x).toArray, cv] w (Ret fun v w' => v = .bool true ∧ Ext w w') := by
  have hmn := nPc_le l.length n
  have e0 := Ext.refl w
  refine C.enter Try.func6 rfl Try.ntmps6 rfl ?_
  refine J.seq ?_
  refine J.region ?_
  refine J.eff (Ye.box (S := [(0, 1, [I x.1]), (1, 1, [I x.2.1]), (2, 1, [I x.2.2.1]), (3, 1, [x.2.2.2])]) rfl (by simp [SegAll, SegOK, Value.cells, pcS])) rfl ?_
  rintro _ w1 ⟨b8_0, rfl, hb_, c8_0, x1⟩
  have fr_b8_0 : Fr w.heap.size (some b8_0) := Fr.le (Fr.blk hb_) e0.size
  have e0 := e0.trans x1
  clear x1 hb_
  refine J.op (Yd.assign rfl) rfl ?_
  refine J.nil ?_
  refine J.n_then ?_
  refine J.seq ?_
  refine J.seq ?_
  refine J.region ?_
  refine J.op (Yd.move rfl) rfl ?_
  refine J.op (Yd.len_b Try.underlying22 rfl (Rd.ext ha e0)) rfl ?_
  refine J.op (Yd.gtr rfl rfl) rfl ?_
  refine J.op (Yd.move rfl) rfl ?_
  refine J.know (t := 27) (v' := .bool false) rfl (ff (by omega)) ?_
  refine J.op_g rfl rfl rfl (Yd.cast (Yd.fieldA Try.underlying31 rfl ti22 rfl rfl) (show _ = Value.pointer (some ⟨b8_0, 3, none⟩) from rfl)) rfl ?_
  refine J.op_g rfl rfl rfl (Yd.load pl22 rfl (Cel.cell1 c8_0 3 rfl)) rfl ?_
  refine J.op_g rfl rfl rfl (Yd.len_b Try.underlying22 rfl (Rd.ext hx e0)) rfl ?_
  refine J.op_g rfl rfl rfl (Yd.gtr rfl rfl) rfl ?_
  refine J.op (Yd.pick_f rfl rfl) rfl ?_
  refine J.op (Yd.move rfl) rfl ?_
  refine J.know (t := 33) (v' := .bool false) rfl (ff (by omega)) ?_
  refine J.op_g rfl rfl rfl (Yd.move rfl) rfl ?_
  refine J.op_g rfl rfl rfl (Yd.len_b Try.underlying22 rfl (Rd.ext hcv e0)) rfl ?_
  refine J.op_g rfl rfl rfl (Yd.gtr rfl rfl) rfl ?_
  refine J.op (Yd.pick_f rfl rfl) rfl ?_
  refine J.nil ?_
  refine J.n_then ?_
  refine J.know (t := 37) (v' := .bool false) rfl (ff (by omega)) ?_
  refine J.cond_false rfl ?_
  refine J.skip ?_
  refine J.n_then ?_
  refine J.seq ?_
  refine J.region ?_
  refine J.op (Yd.move rfl) rfl ?_
  refine J.op (Yd.move rfl) rfl ?_
  refine J.op (Yd.move rfl) rfl ?_
  refine J.eff (Ye.call cl9 rfl (Split_ok  (Rd.ext ha e0) ⟨by omega, by omega, by omega⟩ (by omega))) rfl ?_
  rintro _ w2 ⟨s43, a43, rfl, os43, oa43, frs, apas, x1⟩
  have ap_b8_0_s43 : Ap (some b8_0) s43.ownBlock := Ap.mk (Cel.live c8_0) frs
  have fr_s43 : Fr w.heap.size s43.ownBlock := Fr.le frs e0.size
  have ap_b8_0_a43 : Ap (some b8_0) a43.ownBlock := Ap.mk (Cel.live c8_0) (Ow.fr oa43)
  have fr_a43 : Fr w.heap.size a43.ownBlock := Fr.le (Ow.fr oa43) e0.size
  have ap_a43_s43 := apas
  replace oa43 := Ow.base oa43 e0.size
  have e0 := e0.trans x1
  have c8_0 := c8_0.ext x1
  clear x1 frs apas
  refine J.op (Yd.move rfl) rfl ?_
  refine J.op (Yd.extract rfl rfl) rfl ?_
  refine J.op (Yd.extract rfl rfl) rfl ?_
  refine J.op (Yd.assign rfl) rfl ?_
  refine J.op (Yd.assign rfl) rfl ?_
  refine J.nil ?_
  refine J.n_then ?_
  refine J.seq ?_
  refine J.region ?_
  refine J.op (Yd.move rfl) rfl ?_
  refine J.op (Yd.move rfl) rfl ?_
  refine J.op (Yd.move rfl) rfl ?_
  refine J.eff (Ye.call cl20 rfl (RSplit_ok (Rd.ext ha e0) ⟨by omega, by omega, by omega⟩ (by omega))) rfl ?_
  rintro _ w3 ⟨s50, rfl, os50, frs, x1⟩
  have ap_b8_0_s50 : Ap (some b8_0) s50.ownBlock := Ap.mk (Cel.live c8_0) frs
  have ap_s43_s50 : Ap s43.ownBlock s50.ownBlock := Ap.mk (Es.live os43) frs
  have ap_a43_s50 : Ap a43.ownBlock s50.ownBlock := Ap.mk (Ow.live oa43) frs
  have fr_s50 : Fr w.heap.size s50.ownBlock := Fr.le frs e0.size
  have e0 := e0.trans x1
  have c8_0 := c8_0.ext x1
  have os43 := os43.ext x1
  have oa43 := oa43.ext x1
  clear x1 frs
  refine J.op (Yd.move rfl) rfl ?_
  refine J.op (Yd.extract rfl rfl) rfl ?_
  refine J.op (Yd.extract rfl rfl) rfl ?_
  refine J.op (Yd.assign rfl) rfl ?_
  refine J.op (Yd.assign rfl) rfl ?_
  refine J.nil ?_
  refine J.n_then ?_
  refine J.seq ?_
  refine J.seq ?_
  refine J.region ?_
  refine J.op (Yd.move rfl) rfl ?_
  refine J.op (Yd.move rfl) rfl ?_
  refine J.op (Yd.neq rfl rfl) rfl ?_
  refine J.op (Yd.move rfl) rfl ?_
  refine J.know (t := 56) (v' := .bool false) rfl (ff (by decide)) ?_
  refine J.op_g rfl rfl rfl (Yd.move rfl) rfl ?_
  refine J.op_g rfl rfl rfl (Yd.cast (Yd.lenE (K := pcS) Try.underlying24 rfl (Es.rd os43)) (congrArg (fun z : Nat => I (z : Int)) pcL_len)) rfl ?_
  refine J.op_g rfl rfl rfl (Yd.move rfl) rfl ?_
  refine J.op_g rfl rfl rfl (Yd.cast (Yd.lenE (K := pcS) Try.underlying40 rfl (Es.rd os50)) (congrArg (fun z : Nat => I (z : Int)) rpL_len)) rfl ?_
  refine J.op_g rfl rfl rfl (Yd.neq rfl rfl) rfl ?_
  refine J.op (Yd.pick_f rfl rfl) rfl ?_
  refine J.nil ?_
  refine J.n_then ?_
  refine J.know (t := 62) (v' := .bool false) rfl (ff (by exact fun h => h rfl)) ?_
  refine J.cond_false rfl ?_
  refine J.skip ?_
  refine J.n_then ?_
  refine J.seq ?_
  refine J.seq ?_
  refine J.region ?_
  refine J.op (Yd.assign rfl) rfl ?_
  refine J.nil ?_
  refine J.n_then ?_
  refine J.block ?_
  refine J.loop (ι := Nat) (fun i => [(4, cv), (15, I (i : Int)), (8, .pointer (some ⟨b8_0, 0, none⟩)), (11, s43), (13, s50)]) (fun i w' => i ≤ (nPc l.length n) ∧ Cel w' b8_0 31 [(0, 1, [I x.1]), (1, 1, [I x.2.1]), (2, 1, [I x.2.2.1]), (3, 1, [x.2.2.2])] ∧ Es pcS 0 29 w' s43 (pcL id a43 n l.length (nPc l.length n) (nPc l.length n)) ∧ Es pcS 0 31 w' s50 (rpL id a n l.length (nPc l.length n) (nPc l.length n)) ∧ Ob w.heap.size 5 w' a43 l ∧ Ext w w') (fun i => (nPc l.length n) - i) (0) ⟨rfl, rfl, rfl, rfl, rfl, trivial⟩ (⟨Nat.zero_le _, c8_0, os43, os50, oa43, e0⟩) ?_
  rintro i w4 ⟨hk, c8_0, os43, os50, oa43, e0⟩
  refine J.seq ?_
  refine J.seq ?_
  refine J.region ?_
  refine J.op (Yd.move rfl) rfl ?_
  refine J.op (Yd.move rfl) rfl ?_
  refine J.op (Yd.cast (Yd.lenE (K := pcS) Try.underlying24 rfl (Es.rd os43)) (congrArg (fun z : Nat => I (z : Int)) pcL_len)) rfl ?_
  refine J.op (Yd.lss rfl rfl) rfl ?_
  refine J.nil ?_
  refine J.n_then ?_
  refine J.cond_dec rfl (fun hc2 => ?_) (fun hc2 => ?_)
  · skip
    have hin := (nPc_lt (len := l.length) (n := n) (i := i) (by omega)).1 (by omega)
    refine J.skip ?_
    refine J.n_then ?_
    refine J.seq ?_
    refine J.block ?_
    refine J.seq ?_
    refine J.regionO [(0, true), (1, true), (4, true), (5, true)] [(2, 1), (3, 1), (6, 1), (7, 1)] [(8, false), (9, true)] mix (by kernel_rfl) ?_
    refine J.s_op rfl (fun _ => Yd.move rfl) rfl ?_
    refine J.s_op rfl (fun _ => Yd.move rfl) rfl ?_
    refine J.s_op rfl (fun _ => Yd.move rfl) rfl ?_
    refine J.s_op rfl (fun _ => Yd.move rfl) rfl ?_
    refine J.s_nil ?_
    refine J.o_op rfl (Yd.idxE (K := pcS) Try.underlying24 ti29 rfl rfl (Es.rd os43) (by first | omega | (rw [pcL_len]; omega) | (rw [rpL_len]; omega) | (simp only [Int.toNat_natCast, pcL_len]; omega) | (simp only [Int.toNat_natCast, rpL_len]; omega))) rfl ?_
    refine J.o_op rfl (Yd.cast (Yd.loadEd (K := pcS) pcD ag29 ti29 rfl (Es.rd os43) (by first | omega | (rw [pcL_len]; omega) | (rw [rpL_len]; omega) | (simp only [Int.toNat_natCast, pcL_len]; omega) | (simp only [Int.toNat_natCast, rpL_len]; omega))) (congrArg (fun z : Pc => Value.agg (pcS.c z).toArray) (by rw [Int.toNat_natCast, pcL_get (by omega)]))) rfl ?_
    refine J.o_op rfl (Yd.idxE (K := pcS) Try.underlying40 ti31 rfl rfl (Es.rd os50) (by first | omega | (rw [pcL_len]; omega) | (rw [rpL_len]; omega) | (simp only [Int.toNat_natCast, pcL_len]; omega) | (simp only [Int.toNat_natCast, rpL_len]; omega))) rfl ?_
    refine J.o_op rfl (Yd.cast (Yd.loadEd (K := pcS) pcD ag31 ti31 rfl (Es.rd os50) (by first | omega | (rw [pcL_len]; omega) | (rw [rpL_len]; omega) | (simp only [Int.toNat_natCast, pcL_len]; omega) | (simp only [Int.toNat_natCast, rpL_len]; omega))) (congrArg (fun z : Pc => Value.agg (pcS.c z).toArray) (by rw [Int.toNat_natCast, rpL_get (by omega)]))) rfl ?_
    refine J.o_nil ?_
    refine J.s_eff rfl (Ye.call cl21 rfl (Same_ok (x := ((id, (i : Int), ((nPc l.length n) : Int), chV a43 n l.length i) : Pc)) (y := ((id, (i : Int), ((nPc l.length n) : Int), (slc a (i * n) (min ((i + 1) * n) l.length))) : Pc)) (l := (l.drop (i * n)).take n) (chV_bs (Ow.rd oa43) hin) (rp_bs (ha.ext e0) hin) ⟨rfl, rfl, rfl⟩)) rfl ?_
    rintro _ w5 ⟨rfl, x1⟩
    have e0 := e0.trans x1
    have c8_0 := c8_0.ext x1
    have os43 := os43.ext x1
    have os50 := os50.ext x1
    have oa43 := oa43.ext x1
    clear x1
    refine J.s_op rfl (fun _ => Yd.not rfl) rfl ?_
    refine J.s_nil ?_
    refine J.n_np ?_
    refine J.n_then ?_
    refine J.cond_false rfl ?_
    refine J.skip ?_
    refine J.n_block ?_
    refine J.n_then ?_
    refine J.region ?_
    refine J.op (Yd.move rfl) rfl ?_
    refine J.op (Yd.add rfl rfl (by first | omega | (rw [pcL_len]; omega) | (rw [rpL_len]; omega) | (simp only [Int.toNat_natCast, pcL_len]; omega) | (simp only [Int.toNat_natCast, rpL_len]; omega))) rfl ?_
    refine J.op (Yd.assign rfl) rfl ?_
    refine J.nil ?_
    refine J.n_then ?_
    exact J.round (i + 1) ⟨rfl, rfl, rfl, rfl, rfl, trivial⟩ (⟨by omega, c8_0, os43, os50, oa43, e0⟩) (by omega)
  · skip
    refine J.exit ?_
    refine J.x_then ?_
    refine J.x_then ?_
    refine J.x_block ?_
    refine J.n_then ?_
    refine J.seq ?_
    refine J.region ?_
    refine J.op (Yd.cast (Yd.loadA ag31 ti31 rfl (Cel.j4 c8_0) 0 rfl) (show _ = .agg (pcS.c x).toArray from rfl)) rfl ?_
    refine J.eff (Ye.call cl12 rfl (Made_ok (x := x) (l := lp) (hx.ext e0))) rfl ?_
    rintro _ w6 ⟨rfl, x1⟩
    have e0 := e0.trans x1
    have c8_0 := c8_0.ext x1
    have os43 := os43.ext x1
    have os50 := os50.ext x1
    have oa43 := oa43.ext x1
    clear x1
    refine J.eff (Ye.call cl22 rfl (Encode_any (x := x) (l := lp) (hx.ext e0))) rfl ?_
    rintro _ w7 ⟨v82_7, rfl, ov82_7, x1⟩
    have ap_b8_0_v82_7 : Ap (some b8_0) v82_7.ownBlock := Ap.mk (Cel.live c8_0) (Ow.fr ov82_7)
    have ap_s43_v82_7 : Ap s43.ownBlock v82_7.ownBlock := Ap.mk (Es.live os43) (Ow.fr ov82_7)
    have ap_s50_v82_7 : Ap s50.ownBlock v82_7.ownBlock := Ap.mk (Es.live os50) (Ow.fr ov82_7)
    have ap_a43_v82_7 : Ap a43.ownBlock v82_7.ownBlock := Ap.mk (Ow.live oa43) (Ow.fr ov82_7)
    have fr_v82_7 : Fr w.heap.size v82_7.ownBlock := Fr.le (Ow.fr ov82_7) e0.size
    replace ov82_7 := Ow.base ov82_7 e0.size
    have e0 := e0.trans x1
    have c8_0 := c8_0.ext x1
    have os43 := os43.ext x1
    have os50 := os50.ext x1
    have oa43 := oa43.ext x1
    clear x1
    refine J.op (Yd.move rfl) rfl ?_
    refine J.op (Yd.extract rfl rfl) rfl ?_
    refine J.op (Yd.extract rfl rfl) rfl ?_
    refine J.op (Yd.assign rfl) rfl ?_
    refine J.op (Yd.assign rfl) rfl ?_
    refine J.nil ?_
    refine J.n_then ?_
    refine J.seq ?_
    refine J.region ?_
    refine J.op (Yd.cast (Yd.loadA ag31 ti31 rfl (Cel.j4 c8_0) 0 rfl) (show _ = .agg (pcS.c x).toArray from rfl)) rfl ?_
    refine J.eff (Ye.call cl23 rfl (EncodeP_any (x := x) (l := lp) (hx.ext e0))) rfl ?_
    rintro _ w8 ⟨v87_8, rfl, ov87_8, x1⟩
    have ap_b8_0_v87_8 : Ap (some b8_0) v87_8.ownBlock := Ap.mk (Cel.live c8_0) (Ow.fr ov87_8)
    have ap_s43_v87_8 : Ap s43.ownBlock v87_8.ownBlock := Ap.mk (Es.live os43) (Ow.fr ov87_8)
    have ap_s50_v87_8 : Ap s50.ownBlock v87_8.ownBlock := Ap.mk (Es.live os50) (Ow.fr ov87_8)
    have ap_a43_v87_8 : Ap a43.ownBlock v87_8.ownBlock := Ap.mk (Ow.live oa43) (Ow.fr ov87_8)
    have ap_v82_7_v87_8 : Ap v82_7.ownBlock v87_8.ownBlock := Ap.mk (Ow.live ov82_7) (Ow.fr ov87_8)
    have fr_v87_8 : Fr w.heap.size v87_8.ownBlock := Fr.le (Ow.fr ov87_8) e0.size
    replace ov87_8 := Ow.base ov87_8 e0.size
    have e0 := e0.trans x1
    have c8_0 := c8_0.ext x1
    have os43 := os43.ext x1
    have os50 := os50.ext x1
    have oa43 := oa43.ext x1
    have ov82_7 := ov82_7.ext x1
    clear x1
    refine J.op (Yd.move rfl) rfl ?_
    refine J.op (Yd.extract rfl rfl) rfl ?_
    refine J.op (Yd.extract rfl rfl) rfl ?_
    refine J.op (Yd.assign rfl) rfl ?_
    refine J.op (Yd.assign rfl) rfl ?_
    refine J.nil ?_
    refine J.n_then ?_
    refine J.seq ?_
    refine J.region ?_
    refine J.op (Yd.move rfl) rfl ?_
    refine J.eff (Ye.call cl24 rfl (Decode_any (Rd.ext hcv e0) (by omega))) rfl ?_
    rintro _ w9 ⟨⟨p1, q1, r1, vd1⟩, d1, k1, rfl, od1, hV1, x1⟩
    dsimp only at od1 hV1
    have ap_b8_0_vd1 : Ap (some b8_0) vd1.ownBlock := Ap.mk (Cel.live c8_0) (Ow.fr od1)
    have ap_s43_vd1 : Ap s43.ownBlock vd1.ownBlock := Ap.mk (Es.live os43) (Ow.fr od1)
    have ap_s50_vd1 : Ap s50.ownBlock vd1.ownBlock := Ap.mk (Es.live os50) (Ow.fr od1)
    have ap_a43_vd1 : Ap a43.ownBlock vd1.ownBlock := Ap.mk (Ow.live oa43) (Ow.fr od1)
    have ap_v82_7_vd1 : Ap v82_7.ownBlock vd1.ownBlock := Ap.mk (Ow.live ov82_7) (Ow.fr od1)
    have ap_v87_8_vd1 : Ap v87_8.ownBlock vd1.ownBlock := Ap.mk (Ow.live ov87_8) (Ow.fr od1)
    have fr_vd1 : Fr w.heap.size vd1.ownBlock := Fr.le (Ow.fr od1) e0.size
    replace od1 := Ow.base od1 e0.size
    have e0 := e0.trans x1
    have c8_0 := c8_0.ext x1
    have os43 := os43.ext x1
    have os50 := os50.ext x1
    have oa43 := oa43.ext x1
    have ov82_7 := ov82_7.ext x1
    have ov87_8 := ov87_8.ext x1
    clear x1
    refine J.op (Yd.move rfl) rfl ?_
    refine J.op (Yd.extract rfl rfl) rfl ?_
    refine J.op (Yd.extract rfl rfl) rfl ?_
    refine J.eff (Ye.alloc ti29 (S := [(0, 4, [I 0, I 0, I 0, nilS])]) (by simp [SegAll, SegOK, Value.cells, nilS])) rfl ?_
    rintro _ w10 ⟨b20_9, rfl, hb_, c20_9, x1⟩
    have ap_b8_0_b20_9 : Ap (some b8_0) (some b20_9) := Ap.mk (Cel.live c8_0) (Fr.blk hb_)
    have ap_s43_b20_9 : Ap s43.ownBlock (some b20_9) := Ap.mk (Es.live os43) (Fr.blk hb_)
    have ap_s50_b20_9 : Ap s50.ownBlock (some b20_9) := Ap.mk (Es.live os50) (Fr.blk hb_)
    have ap_a43_b20_9 : Ap a43.ownBlock (some b20_9) := Ap.mk (Ow.live oa43) (Fr.blk hb_)
    have ap_v82_7_b20_9 : Ap v82_7.ownBlock (some b20_9) := Ap.mk (Ow.live ov82_7) (Fr.blk hb_)
    have ap_v87_8_b20_9 : Ap v87_8.ownBlock (some b20_9) := Ap.mk (Ow.live ov87_8) (Fr.blk hb_)
    have ap_vd1_b20_9 : Ap vd1.ownBlock (some b20_9) := Ap.mk (Ow.live od1) (Fr.blk hb_)
    have fr_b20_9 : Fr w.heap.size (some b20_9) := Fr.le (Fr.blk hb_) e0.size
    have e0 := e0.trans x1
    have c8_0 := c8_0.ext x1
    have os43 := os43.ext x1
    have os50 := os50.ext x1
    have oa43 := oa43.ext x1
    have ov82_7 := ov82_7.ext x1
    have ov87_8 := ov87_8.ext x1
    have od1 := od1.ext x1
    clear x1 hb_
    refine J.eff0 (Ye.storeA (ys := pcS.c ((p1, q1, r1, vd1) : Pc)) ti29 c20_9 0 rfl rfl rfl rfl (by rfl) (by intro v_ hv_; simp only [pcS, pcD, List.mem_cons, List.mem_nil_iff, or_false] at hv_; rcases hv_ with rfl | rfl | rfl | rfl; rfl; rfl; rfl; exact Rd.one (Ow.rd od1))) ?_
    rintro _ w11 ⟨cX, hu⟩
    simp only [List.set_cons_zero, List.set_cons_succ] at cX
    have hg := hu.gb
    have c8_0 := Cel.gbk c8_0 hg ap_b8_0_b20_9
    have os43 := Es.gbk os43 hg ap_s43_b20_9
    have os50 := Es.gbk os50 hg ap_s50_b20_9
    have oa43 := Ow.gbk oa43 hg ap_a43_b20_9
    have ov82_7 := Ow.gbk ov82_7 hg ap_v82_7_b20_9
    have ov87_8 := Ow.gbk ov87_8 hg ap_v87_8_b20_9
    have od1 := Ow.gbk od1 hg ap_vd1_b20_9
    have e0 := Ext.gbk e0 fr_b20_9 hg
    clear hg
    replace c20_9 := cX
    clear cX hu
    refine J.op (Yd.assign rfl) rfl ?_
    refine J.nil ?_
    refine J.n_then ?_
    refine J.seq ?_
    refine J.region ?_
    refine J.op (Yd.move rfl) rfl ?_
    refine J.eff (Ye.call cl25 rfl (DecodeP_any (Rd.ext hcv e0) (by omega))) rfl ?_
    rintro _ w12 ⟨⟨p2, q2, r2, vd2⟩, d2, k2, rfl, od2, hV2, x1⟩
    dsimp only at od2 hV2
    have ap_b8_0_vd2 : Ap (some b8_0) vd2.ownBlock := Ap.mk (Cel.live c8_0) (Ow.fr od2)
    have ap_s43_vd2 : Ap s43.ownBlock vd2.ownBlock := Ap.mk (Es.live os43) (Ow.fr od2)
    have ap_s50_vd2 : Ap s50.ownBlock vd2.ownBlock := Ap.mk (Es.live os50) (Ow.fr od2)
    have ap_a43_vd2 : Ap a43.ownBlock vd2.ownBlock := Ap.mk (Ow.live oa43) (Ow.fr od2)
    have ap_v82_7_vd2 : Ap v82_7.ownBlock vd2.ownBlock := Ap.mk (Ow.live ov82_7) (Ow.fr od2)
    have ap_v87_8_vd2 : Ap v87_8.ownBlock vd2.ownBlock := Ap.mk (Ow.live ov87_8) (Ow.fr od2)
    have ap_vd1_vd2 : Ap vd1.ownBlock vd2.ownBlock := Ap.mk (Ow.live od1) (Ow.fr od2)
    have ap_b20_9_vd2 : Ap (some b20_9) vd2.ownBlock := Ap.mk (Cel.live c20_9) (Ow.fr od2)
    have fr_vd2 : Fr w.heap.size vd2.ownBlock := Fr.le (Ow.fr od2) e0.size
    replace od2 := Ow.base od2 e0.size
    have e0 := e0.trans x1
    have c8_0 := c8_0.ext x1
    have os43 := os43.ext x1
    have os50 := os50.ext x1
    have oa43 := oa43.ext x1
    have ov82_7 := ov82_7.ext x1
    have ov87_8 := ov87_8.ext x1
    have od1 := od1.ext x1
    have c20_9 := c20_9.ext x1
    clear x1
    have h9 := hV1.symm.trans hV2
    simp only [Prod.mk.injEq] at h9
    obtain ⟨g1, g2, g3, g4, g5⟩ := h9
    refine J.op (Yd.move rfl) rfl ?_
    refine J.op (Yd.extract rfl rfl) rfl ?_
    refine J.op (Yd.extract rfl rfl) rfl ?_
    refine J.eff (Ye.alloc ti31 (S := [(0, 4, [I 0, I 0, I 0, nilS])]) (by simp [SegAll, SegOK, Value.cells, nilS])) rfl ?_
    rintro _ w13 ⟨b22_12, rfl, hb_, c22_12, x1⟩
    have ap_b8_0_b22_12 : Ap (some b8_0) (some b22_12) := Ap.mk (Cel.live c8_0) (Fr.blk hb_)
    have ap_s43_b22_12 : Ap s43.ownBlock (some b22_12) := Ap.mk (Es.live os43) (Fr.blk hb_)
    have ap_s50_b22_12 : Ap s50.ownBlock (some b22_12) := Ap.mk (Es.live os50) (Fr.blk hb_)
    have ap_a43_b22_12 : Ap a43.ownBlock (some b22_12) := Ap.mk (Ow.live oa43) (Fr.blk hb_)
    have ap_v82_7_b22_12 : Ap v82_7.ownBlock (some b22_12) := Ap.mk (Ow.live ov82_7) (Fr.blk hb_)
    have ap_v87_8_b22_12 : Ap v87_8.ownBlock (some b22_12) := Ap.mk (Ow.live ov87_8) (Fr.blk hb_)
    have ap_vd1_b22_12 : Ap vd1.ownBlock (some b22_12) := Ap.mk (Ow.live od1) (Fr.blk hb_)
    have ap_b20_9_b22_12 : Ap (some b20_9) (some b22_12) := Ap.mk (Cel.live c20_9) (Fr.blk hb_)
    have ap_vd2_b22_12 : Ap vd2.ownBlock (some b22_12) := Ap.mk (Ow.live od2) (Fr.blk hb_)
    have fr_b22_12 : Fr w.heap.size (some b22_12) := Fr.le (Fr.blk hb_) e0.size
    have e0 := e0.trans x1
    have c8_0 := c8_0.ext x1
    have os43 := os43.ext x1
    have os50 := os50.ext x1
    have oa43 := oa43.ext x1
    have ov82_7 := ov82_7.ext x1
    have ov87_8 := ov87_8.ext x1
    have od1 := od1.ext x1
    have c20_9 := c20_9.ext x1
    have od2 := od2.ext x1
    clear x1 hb_
    refine J.eff0 (Ye.storeA (ys := pcS.c ((p2, q2, r2, vd2) : Pc)) ti31 c22_12 0 rfl rfl rfl rfl (by rfl) (by intro v_ hv_; simp only [pcS, pcD, List.mem_cons, List.mem_nil_iff, or_false] at hv_; rcases hv_ with rfl | rfl | rfl | rfl; rfl; rfl; rfl; exact Rd.one (Ow.rd od2))) ?_
    rintro _ w14 ⟨cX, hu⟩
    simp only [List.set_cons_zero, List.set_cons_succ] at cX
    have hg := hu.gb
    have c8_0 := Cel.gbk c8_0 hg ap_b8_0_b22_12
    have os43 := Es.gbk os43 hg ap_s43_b22_12
    have os50 := Es.gbk os50 hg ap_s50_b22_12
    have oa43 := Ow.gbk oa43 hg ap_a43_b22_12
    have ov82_7 := Ow.gbk ov82_7 hg ap_v82_7_b22_12
    have ov87_8 := Ow.gbk ov87_8 hg ap_v87_8_b22_12
    have od1 := Ow.gbk od1 hg ap_vd1_b22_12
    have c20_9 := Cel.gbk c20_9 hg ap_b20_9_b22_12
    have od2 := Ow.gbk od2 hg ap_vd2_b22_12
    have e0 := Ext.gbk e0 fr_b22_12 hg
    clear hg
    replace c22_12 := cX
    clear cX hu
    refine J.op (Yd.assign rfl) rfl ?_
    refine J.nil ?_
    refine J.n_then ?_
    refine J.seq ?_
    refine J.region ?_
    refine J.op (Yd.move rfl) rfl ?_
    refine J.op (Yd.bstr Try.underlying22 Try.underlying5 Try.underlying9 rfl (Ow.rd ov82_7)) rfl ?_
    refine J.op (Yd.move rfl) rfl ?_
    refine J.op (Yd.bstr Try.underlying22 Try.underlying5 Try.underlying9 rfl (Ow.rd ov87_8)) rfl ?_
    refine J.op (Yd.seq rfl rfl) rfl ?_
    refine J.op (Yd.move rfl) rfl ?_
    refine J.know (t := 105) (v' := .bool true) rfl (tt (by rfl)) ?_
    refine J.op_g rfl rfl rfl (Yd.move rfl) rfl ?_
    refine J.op_g rfl rfl rfl (Yd.move rfl) rfl ?_
    refine J.op_g rfl rfl rfl (Yd.eql rfl rfl) rfl ?_
    refine J.op (Yd.pick_t rfl rfl) rfl ?_
    refine J.op (Yd.move rfl) rfl ?_
    refine J.know (t := 110) (v' := .bool true) rfl (tt (by rfl)) ?_
    refine J.op_g rfl rfl rfl (Yd.cast (Yd.loadA ag29 ti29 rfl c20_9 0 rfl) (show _ = .agg (pcS.c ((p1, q1, r1, vd1) : Pc)).toArray from rfl)) rfl ?_
    refine J.op_g rfl rfl rfl (Yd.cast (Yd.loadA ag31 ti31 rfl c22_12 0 rfl) (show _ = .agg (pcS.c ((p2, q2, r2, vd2) : Pc)).toArray from rfl)) rfl ?_
    refine J.eff_g rfl rfl rfl (Ye.call cl21 rfl (Same_ok (x := ((p1, q1, r1, vd1) : Pc)) (y := ((p2, q2, r2, vd2) : Pc)) (l := d1) (Ow.rd od1) (by rw [g4]; exact Ow.rd od2) ⟨g1, g2, g3⟩)) rfl ?_
    rintro _ w15 ⟨rfl, x1⟩
    have e0 := e0.trans x1
    have c8_0 := c8_0.ext x1
    have os43 := os43.ext x1
    have os50 := os50.ext x1
    have oa43 := oa43.ext x1
    have ov82_7 := ov82_7.ext x1
    have ov87_8 := ov87_8.ext x1
    have od1 := od1.ext x1
    have c20_9 := c20_9.ext x1
    have od2 := od2.ext x1
    have c22_12 := c22_12.ext x1
    clear x1
    refine J.op (Yd.pick_t rfl rfl) rfl ?_
    refine J.op (Yd.move rfl) rfl ?_
    refine J.op_g rfl rfl rfl (Yd.move rfl) rfl ?_
    refine J.op_g rfl rfl rfl (Yd.move rfl) rfl ?_
    refine J.op_g rfl rfl rfl (Yd.eql rfl rfl) rfl ?_
    refine J.op (Yd.pick_t rfl rfl) rfl ?_
    refine J.op (Yd.move rfl) rfl ?_
    refine J.know (t := 120) (v' := .bool true) rfl (tt (by exact g5)) ?_
    refine J.eff_g rfl rfl rfl (Ye.call cl8 rfl (Awake_ok)) rfl ?_
    rintro _ w16 ⟨rfl, x1⟩
    have e0 := e0.trans x1
    have c8_0 := c8_0.ext x1
    have os43 := os43.ext x1
    have os50 := os50.ext x1
    have oa43 := oa43.ext x1
    have ov82_7 := ov82_7.ext x1
    have ov87_8 := ov87_8.ext x1
    have od1 := od1.ext x1
    have c20_9 := c20_9.ext x1
    have od2 := od2.ext x1
    have c22_12 := c22_12.ext x1
    clear x1
    refine J.op (Yd.pick_t rfl rfl) rfl ?_
    refine J.op (Yd.assign rfl) rfl ?_
    refine J.nil ?_
    refine J.n_then ?_
    refine J.ret ?_
    exact J.ret1 rfl rfl (⟨_, rfl, rfl, e0⟩)

theorem SplitsNo {id n : Int} {a cv : Value} {l lp lc : List UInt8} {x : Pc} {w : World} (ha : Bs w a l) (hx : Bs w x.2.2.2 lp) (hcv : Bs w cv lc) (hb : l.length ≤ 10100 ∧ lp.length ≤ 1100 ∧ lc.length ≤ 1100) (hv : ¬ ((0 ≤ id ∧ id ≤ 1073741824) ∧ (1 ≤ n ∧ n ≤ 1000) ∧ (1 ≤ (l.length : Int) ∧ (l.length : Int) ≤ 10000))) : C Try.prog 6 [I id, a, I n, .agg (pcS.c x).toArray, cv] w (Ret fun v w' => v = .bool true ∧ Ext w w') := by
  have e0 := Ext.refl w
  refine C.enter Try.func6 rfl Try.ntmps6 rfl ?_
  refine J.seq ?_
  refine J.region ?_
  refine J.eff (Ye.box (S := [(0, 1, [I x.1]), (1, 1, [I x.2.1]), (2, 1, [I x.2.2.1]), (3, 1, [x.2.2.2])]) rfl (by simp [SegAll, SegOK, Value.cells, pcS])) rfl ?_
  rintro _ w1 ⟨b8_0, rfl, hb_, c8_0, x1⟩
  have fr_b8_0 : Fr w.heap.size (some b8_0) := Fr.le (Fr.blk hb_) e0.size
  have e0 := e0.trans x1
  clear x1 hb_
  refine J.op (Yd.assign rfl) rfl ?_
  refine J.nil ?_
  refine J.n_then ?_
  refine J.seq ?_
  refine J.seq ?_
  refine J.region ?_
  refine J.op (Yd.move rfl) rfl ?_
  refine J.op (Yd.len_b Try.underlying22 rfl (Rd.ext ha e0)) rfl ?_
  refine J.op (Yd.gtr rfl rfl) rfl ?_
  refine J.op (Yd.move rfl) rfl ?_
  refine J.know (t := 27) (v' := .bool false) rfl (ff (by omega)) ?_
  refine J.op_g rfl rfl rfl (Yd.cast (Yd.fieldA Try.underlying31 rfl ti22 rfl rfl) (show _ = Value.pointer (some ⟨b8_0, 3, none⟩) from rfl)) rfl ?_
  refine J.op_g rfl rfl rfl (Yd.load pl22 rfl (Cel.cell1 c8_0 3 rfl)) rfl ?_
  refine J.op_g rfl rfl rfl (Yd.len_b Try.underlying22 rfl (Rd.ext hx e0)) rfl ?_
  refine J.op_g rfl rfl rfl (Yd.gtr rfl rfl) rfl ?_
  refine J.op (Yd.pick_f rfl rfl) rfl ?_
  refine J.op (Yd.move rfl) rfl ?_
  refine J.know (t := 33) (v' := .bool false) rfl (ff (by omega)) ?_
  refine J.op_g rfl rfl rfl (Yd.move rfl) rfl ?_
  refine J.op_g rfl rfl rfl (Yd.len_b Try.underlying22 rfl (Rd.ext hcv e0)) rfl ?_
  refine J.op_g rfl rfl rfl (Yd.gtr rfl rfl) rfl ?_
  refine J.op (Yd.pick_f rfl rfl) rfl ?_
  refine J.nil ?_
  refine J.n_then ?_
  refine J.know (t := 37) (v' := .bool false) rfl (ff (by omega)) ?_
  refine J.cond_false rfl ?_
  refine J.skip ?_
  refine J.n_then ?_
  refine J.seq ?_
  refine J.region ?_
  refine J.op (Yd.move rfl) rfl ?_
  refine J.op (Yd.move rfl) rfl ?_
  refine J.op (Yd.move rfl) rfl ?_
  refine J.eff (Ye.call cl9 rfl (Split_no (ha.ext e0) hv)) rfl ?_
  rintro _ w2 ⟨rfl, x1⟩
  have e0 := e0.trans x1
  have c8_0 := c8_0.ext x1
  clear x1
  refine J.op (Yd.move rfl) rfl ?_
  refine J.op (Yd.extract rfl rfl) rfl ?_
  refine J.op (Yd.extract rfl rfl) rfl ?_
  refine J.op (Yd.assign rfl) rfl ?_
  refine J.op (Yd.assign rfl) rfl ?_
  refine J.nil ?_
  refine J.n_then ?_
  refine J.seq ?_
  refine J.region ?_
  refine J.op (Yd.move rfl) rfl ?_
  refine J.op (Yd.move rfl) rfl ?_
  refine J.op (Yd.move rfl) rfl ?_
  refine J.eff (Ye.call cl20 rfl (RSplit_no (ha.ext e0) hv)) rfl ?_
  rintro _ w3 ⟨rfl, x1⟩
  have e0 := e0.trans x1
  have c8_0 := c8_0.ext x1
  clear x1
  refine J.op (Yd.move rfl) rfl ?_
  refine J.op (Yd.extract rfl rfl) rfl ?_
  refine J.op (Yd.extract rfl rfl) rfl ?_
  refine J.op (Yd.assign rfl) rfl ?_
  refine J.op (Yd.assign rfl) rfl ?_
  refine J.nil ?_
  refine J.n_then ?_
  refine J.seq ?_
  refine J.seq ?_
  refine J.region ?_
  refine J.op (Yd.move rfl) rfl ?_
  refine J.op (Yd.move rfl) rfl ?_
  refine J.op (Yd.neq rfl rfl) rfl ?_
  refine J.op (Yd.move rfl) rfl ?_
  refine J.know (t := 56) (v' := .bool false) rfl (ff (by decide)) ?_
  refine J.op_g rfl rfl rfl (Yd.move rfl) rfl ?_
  refine J.op_g rfl rfl rfl (Yd.len_nil Try.underlying24 rfl) rfl ?_
  refine J.op_g rfl rfl rfl (Yd.move rfl) rfl ?_
  refine J.op_g rfl rfl rfl (Yd.len_nil Try.underlying40 rfl) rfl ?_
  refine J.op_g rfl rfl rfl (Yd.neq rfl rfl) rfl ?_
  refine J.op (Yd.pick_f rfl rfl) rfl ?_
  refine J.nil ?_
  refine J.n_then ?_
  refine J.know (t := 62) (v' := .bool false) rfl (ff (by decide)) ?_
  refine J.cond_false rfl ?_
  refine J.skip ?_
  refine J.n_then ?_
  refine J.seq ?_
  refine J.seq ?_
  refine J.region ?_
  refine J.op (Yd.assign rfl) rfl ?_
  refine J.nil ?_
  refine J.n_then ?_
  refine J.block ?_
  refine J.loop (ι := Nat) (fun i => [(4, cv), (11, nilS), (13, nilS), (15, I (i : Int)), (8, .pointer (some ⟨b8_0, 0, none⟩))]) (fun i w' => i = 0 ∧ Cel w' b8_0 31 [(0, 1, [I x.1]), (1, 1, [I x.2.1]), (2, 1, [I x.2.2.1]), (3, 1, [x.2.2.2])] ∧ Ext w w') (fun i => 0 - i) (0) ⟨rfl, rfl, rfl, rfl, rfl, trivial⟩ (⟨rfl, c8_0, e0⟩) ?_
  rintro i w4 ⟨hk, c8_0, e0⟩
  refine J.seq ?_
  refine J.seq ?_
  refine J.region ?_
  refine J.op (Yd.move rfl) rfl ?_
  refine J.op (Yd.move rfl) rfl ?_
  refine J.op (Yd.len_nil Try.underlying24 rfl) rfl ?_
  refine J.op (Yd.lss rfl rfl) rfl ?_
  refine J.nil ?_
  refine J.n_then ?_
  refine J.know (t := 66) (v' := .bool false) rfl (ff (by omega)) ?_
  refine J.cond_false rfl ?_
  refine J.exit ?_
  refine J.x_then ?_
  refine J.x_then ?_
  refine J.x_block ?_
  refine J.n_then ?_
  refine J.seq ?_
  refine J.region ?_
  refine J.op (Yd.cast (Yd.loadA ag31 ti31 rfl (Cel.j4 c8_0) 0 rfl) (show _ = .agg (pcS.c x).toArray from rfl)) rfl ?_
  refine J.eff (Ye.call cl12 rfl (Made_ok (x := x) (l := lp) (hx.ext e0))) rfl ?_
  rintro _ w5 ⟨rfl, x1⟩
  have e0 := e0.trans x1
  have c8_0 := c8_0.ext x1
  clear x1
  refine J.eff (Ye.call cl22 rfl (Encode_any (x := x) (l := lp) (hx.ext e0))) rfl ?_
  rintro _ w6 ⟨v82_6, rfl, ov82_6, x1⟩
  have ap_b8_0_v82_6 : Ap (some b8_0) v82_6.ownBlock := Ap.mk (Cel.live c8_0) (Ow.fr ov82_6)
  have fr_v82_6 : Fr w.heap.size v82_6.ownBlock := Fr.le (Ow.fr ov82_6) e0.size
  replace ov82_6 := Ow.base ov82_6 e0.size
  have e0 := e0.trans x1
  have c8_0 := c8_0.ext x1
  clear x1
  refine J.op (Yd.move rfl) rfl ?_
  refine J.op (Yd.extract rfl rfl) rfl ?_
  refine J.op (Yd.extract rfl rfl) rfl ?_
  refine J.op (Yd.assign rfl) rfl ?_
  refine J.op (Yd.assign rfl) rfl ?_
  refine J.nil ?_
  refine J.n_then ?_
  refine J.seq ?_
  refine J.region ?_
  refine J.op (Yd.cast (Yd.loadA ag31 ti31 rfl (Cel.j4 c8_0) 0 rfl) (show _ = .agg (pcS.c x).toArray from rfl)) rfl ?_
  refine J.eff (Ye.call cl23 rfl (EncodeP_any (x := x) (l := lp) (hx.ext e0))) rfl ?_
  rintro _ w7 ⟨v87_7, rfl, ov87_7, x1⟩
  have ap_b8_0_v87_7 : Ap (some b8_0) v87_7.ownBlock := Ap.mk (Cel.live c8_0) (Ow.fr ov87_7)
  have ap_v82_6_v87_7 : Ap v82_6.ownBlock v87_7.ownBlock := Ap.mk (Ow.live ov82_6) (Ow.fr ov87_7)
  have fr_v87_7 : Fr w.heap.size v87_7.ownBlock := Fr.le (Ow.fr ov87_7) e0.size
  replace ov87_7 := Ow.base ov87_7 e0.size
  have e0 := e0.trans x1
  have c8_0 := c8_0.ext x1
  have ov82_6 := ov82_6.ext x1
  clear x1
  refine J.op (Yd.move rfl) rfl ?_
  refine J.op (Yd.extract rfl rfl) rfl ?_
  refine J.op (Yd.extract rfl rfl) rfl ?_
  refine J.op (Yd.assign rfl) rfl ?_
  refine J.op (Yd.assign rfl) rfl ?_
  refine J.nil ?_
  refine J.n_then ?_
  refine J.seq ?_
  refine J.region ?_
  refine J.op (Yd.move rfl) rfl ?_
  refine J.eff (Ye.call cl24 rfl (Decode_any (Rd.ext hcv e0) (by omega))) rfl ?_
  rintro _ w8 ⟨⟨p1, q1, r1, vd1⟩, d1, k1, rfl, od1, hV1, x1⟩
  dsimp only at od1 hV1
  have ap_b8_0_vd1 : Ap (some b8_0) vd1.ownBlock := Ap.mk (Cel.live c8_0) (Ow.fr od1)
  have ap_v82_6_vd1 : Ap v82_6.ownBlock vd1.ownBlock := Ap.mk (Ow.live ov82_6) (Ow.fr od1)
  have ap_v87_7_vd1 : Ap v87_7.ownBlock vd1.ownBlock := Ap.mk (Ow.live ov87_7) (Ow.fr od1)
  have fr_vd1 : Fr w.heap.size vd1.ownBlock := Fr.le (Ow.fr od1) e0.size
  replace od1 := Ow.base od1 e0.size
  have e0 := e0.trans x1
  have c8_0 := c8_0.ext x1
  have ov82_6 := ov82_6.ext x1
  have ov87_7 := ov87_7.ext x1
  clear x1
  refine J.op (Yd.move rfl) rfl ?_
  refine J.op (Yd.extract rfl rfl) rfl ?_
  refine J.op (Yd.extract rfl rfl) rfl ?_
  refine J.eff (Ye.alloc ti29 (S := [(0, 4, [I 0, I 0, I 0, nilS])]) (by simp [SegAll, SegOK, Value.cells, nilS])) rfl ?_
  rintro _ w9 ⟨b20_8, rfl, hb_, c20_8, x1⟩
  have ap_b8_0_b20_8 : Ap (some b8_0) (some b20_8) := Ap.mk (Cel.live c8_0) (Fr.blk hb_)
  have ap_v82_6_b20_8 : Ap v82_6.ownBlock (some b20_8) := Ap.mk (Ow.live ov82_6) (Fr.blk hb_)
  have ap_v87_7_b20_8 : Ap v87_7.ownBlock (some b20_8) := Ap.mk (Ow.live ov87_7) (Fr.blk hb_)
  have ap_vd1_b20_8 : Ap vd1.ownBlock (some b20_8) := Ap.mk (Ow.live od1) (Fr.blk hb_)
  have fr_b20_8 : Fr w.heap.size (some b20_8) := Fr.le (Fr.blk hb_) e0.size
  have e0 := e0.trans x1
  have c8_0 := c8_0.ext x1
  have ov82_6 := ov82_6.ext x1
  have ov87_7 := ov87_7.ext x1
  have od1 := od1.ext x1
  clear x1 hb_
  refine J.eff0 (Ye.storeA (ys := pcS.c ((p1, q1, r1, vd1) : Pc)) ti29 c20_8 0 rfl rfl rfl rfl (by rfl) (by intro v_ hv_; simp only [pcS, pcD, List.mem_cons, List.mem_nil_iff, or_false] at hv_; rcases hv_ with rfl | rfl | rfl | rfl; rfl; rfl; rfl; exact Rd.one (Ow.rd od1))) ?_
  rintro _ w10 ⟨cX, hu⟩
  simp only [List.set_cons_zero, List.set_cons_succ] at cX
  have hg := hu.gb
  have c8_0 := Cel.gbk c8_0 hg ap_b8_0_b20_8
  have ov82_6 := Ow.gbk ov82_6 hg ap_v82_6_b20_8
  have ov87_7 := Ow.gbk ov87_7 hg ap_v87_7_b20_8
  have od1 := Ow.gbk od1 hg ap_vd1_b20_8
  have e0 := Ext.gbk e0 fr_b20_8 hg
  clear hg
  replace c20_8 := cX
  clear cX hu
  refine J.op (Yd.assign rfl) rfl ?_
  refine J.nil ?_
  refine J.n_then ?_
  refine J.seq ?_
  refine J.region ?_
  refine J.op (Yd.move rfl) rfl ?_
  refine J.eff (Ye.call cl25 rfl (DecodeP_any (Rd.ext hcv e0) (by omega))) rfl ?_
  rintro _ w11 ⟨⟨p2, q2, r2, vd2⟩, d2, k2, rfl, od2, hV2, x1⟩
  dsimp only at od2 hV2
  have ap_b8_0_vd2 : Ap (some b8_0) vd2.ownBlock := Ap.mk (Cel.live c8_0) (Ow.fr od2)
  have ap_v82_6_vd2 : Ap v82_6.ownBlock vd2.ownBlock := Ap.mk (Ow.live ov82_6) (Ow.fr od2)
  have ap_v87_7_vd2 : Ap v87_7.ownBlock vd2.ownBlock := Ap.mk (Ow.live ov87_7) (Ow.fr od2)
  have ap_vd1_vd2 : Ap vd1.ownBlock vd2.ownBlock := Ap.mk (Ow.live od1) (Ow.fr od2)
  have ap_b20_8_vd2 : Ap (some b20_8) vd2.ownBlock := Ap.mk (Cel.live c20_8) (Ow.fr od2)
  have fr_vd2 : Fr w.heap.size vd2.ownBlock := Fr.le (Ow.fr od2) e0.size
  replace od2 := Ow.base od2 e0.size
  have e0 := e0.trans x1
  have c8_0 := c8_0.ext x1
  have ov82_6 := ov82_6.ext x1
  have ov87_7 := ov87_7.ext x1
  have od1 := od1.ext x1
  have c20_8 := c20_8.ext x1
  clear x1
  have h9 := hV1.symm.trans hV2
  simp only [Prod.mk.injEq] at h9
  obtain ⟨g1, g2, g3, g4, g5⟩ := h9
  refine J.op (Yd.move rfl) rfl ?_
  refine J.op (Yd.extract rfl rfl) rfl ?_
  refine J.op (Yd.extract rfl rfl) rfl ?_
  refine J.eff (Ye.alloc ti31 (S := [(0, 4, [I 0, I 0, I 0, nilS])]) (by simp [SegAll, SegOK, Value.cells, nilS])) rfl ?_
  rintro _ w12 ⟨b22_11, rfl, hb_, c22_11, x1⟩
  have ap_b8_0_b22_11 : Ap (some b8_0) (some b22_11) := Ap.mk (Cel.live c8_0) (Fr.blk hb_)
  have ap_v82_6_b22_11 : Ap v82_6.ownBlock (some b22_11) := Ap.mk (Ow.live ov82_6) (Fr.blk hb_)
  have ap_v87_7_b22_11 : Ap v87_7.ownBlock (some b22_11) := Ap.mk (Ow.live ov87_7) (Fr.blk hb_)
  have ap_vd1_b22_11 : Ap vd1.ownBlock (some b22_11) := Ap.mk (Ow.live od1) (Fr.blk hb_)
  have ap_b20_8_b22_11 : Ap (some b20_8) (some b22_11) := Ap.mk (Cel.live c20_8) (Fr.blk hb_)
  have ap_vd2_b22_11 : Ap vd2.ownBlock (some b22_11) := Ap.mk (Ow.live od2) (Fr.blk hb_)
  have fr_b22_11 : Fr w.heap.size (some b22_11) := Fr.le (Fr.blk hb_) e0.size
  have e0 := e0.trans x1
  have c8_0 := c8_0.ext x1
  have ov82_6 := ov82_6.ext x1
  have ov87_7 := ov87_7.ext x1
  have od1 := od1.ext x1
  have c20_8 := c20_8.ext x1
  have od2 := od2.ext x1
  clear x1 hb_
  refine J.eff0 (Ye.storeA (ys := pcS.c ((p2, q2, r2, vd2) : Pc)) ti31 c22_11 0 rfl rfl rfl rfl (by rfl) (by intro v_ hv_; simp only [pcS, pcD, List.mem_cons, List.mem_nil_iff, or_false] at hv_; rcases hv_ with rfl | rfl | rfl | rfl; rfl; rfl; rfl; exact Rd.one (Ow.rd od2))) ?_
  rintro _ w13 ⟨cX, hu⟩
  simp only [List.set_cons_zero, List.set_cons_succ] at cX
  have hg := hu.gb
  have c8_0 := Cel.gbk c8_0 hg ap_b8_0_b22_11
  have ov82_6 := Ow.gbk ov82_6 hg ap_v82_6_b22_11
  have ov87_7 := Ow.gbk ov87_7 hg ap_v87_7_b22_11
  have od1 := Ow.gbk od1 hg ap_vd1_b22_11
  have c20_8 := Cel.gbk c20_8 hg ap_b20_8_b22_11
  have od2 := Ow.gbk od2 hg ap_vd2_b22_11
  have e0 := Ext.gbk e0 fr_b22_11 hg
  clear hg
  replace c22_11 := cX
  clear cX hu
  refine J.op (Yd.assign rfl) rfl ?_
  refine J.nil ?_
  refine J.n_then ?_
  refine J.seq ?_
  refine J.region ?_
  refine J.op (Yd.move rfl) rfl ?_
  refine J.op (Yd.bstr Try.underlying22 Try.underlying5 Try.underlying9 rfl (Ow.rd ov82_6)) rfl ?_
  refine J.op (Yd.move rfl) rfl ?_
  refine J.op (Yd.bstr Try.underlying22 Try.underlying5 Try.underlying9 rfl (Ow.rd ov87_7)) rfl ?_
  refine J.op (Yd.seq rfl rfl) rfl ?_
  refine J.op (Yd.move rfl) rfl ?_
  refine J.know (t := 105) (v' := .bool true) rfl (tt (by rfl)) ?_
  refine J.op_g rfl rfl rfl (Yd.move rfl) rfl ?_
  refine J.op_g rfl rfl rfl (Yd.move rfl) rfl ?_
  refine J.op_g rfl rfl rfl (Yd.eql rfl rfl) rfl ?_
  refine J.op (Yd.pick_t rfl rfl) rfl ?_
  refine J.op (Yd.move rfl) rfl ?_
  refine J.know (t := 110) (v' := .bool true) rfl (tt (by rfl)) ?_
  refine J.op_g rfl rfl rfl (Yd.cast (Yd.loadA ag29 ti29 rfl c20_8 0 rfl) (show _ = .agg (pcS.c ((p1, q1, r1, vd1) : Pc)).toArray from rfl)) rfl ?_
  refine J.op_g rfl rfl rfl (Yd.cast (Yd.loadA ag31 ti31 rfl c22_11 0 rfl) (show _ = .agg (pcS.c ((p2, q2, r2, vd2) : Pc)).toArray from rfl)) rfl ?_
  refine J.eff_g rfl rfl rfl (Ye.call cl21 rfl (Same_ok (x := ((p1, q1, r1, vd1) : Pc)) (y := ((p2, q2, r2, vd2) : Pc)) (l := d1) (Ow.rd od1) (by rw [g4]; exact Ow.rd od2) ⟨g1, g2, g3⟩)) rfl ?_
  rintro _ w14 ⟨rfl, x1⟩
  have e0 := e0.trans x1
  have c8_0 := c8_0.ext x1
  have ov82_6 := ov82_6.ext x1
  have ov87_7 := ov87_7.ext x1
  have od1 := od1.ext x1
  have c20_8 := c20_8.ext x1
  have od2 := od2.ext x1
  have c22_11 := c22_11.ext x1
  clear x1
  refine J.op (Yd.pick_t rfl rfl) rfl ?_
  refine J.op (Yd.move rfl) rfl ?_
  refine J.op_g rfl rfl rfl (Yd.move rfl) rfl ?_
  refine J.op_g rfl rfl rfl (Yd.move rfl) rfl ?_
  refine J.op_g rfl rfl rfl (Yd.eql rfl rfl) rfl ?_
  refine J.op (Yd.pick_t rfl rfl) rfl ?_
  refine J.op (Yd.move rfl) rfl ?_
  refine J.know (t := 120) (v' := .bool true) rfl (tt (by exact g5)) ?_
  refine J.eff_g rfl rfl rfl (Ye.call cl8 rfl (Awake_ok)) rfl ?_
  rintro _ w15 ⟨rfl, x1⟩
  have e0 := e0.trans x1
  have c8_0 := c8_0.ext x1
  have ov82_6 := ov82_6.ext x1
  have ov87_7 := ov87_7.ext x1
  have od1 := od1.ext x1
  have c20_8 := c20_8.ext x1
  have od2 := od2.ext x1
  have c22_11 := c22_11.ext x1
  clear x1
  refine J.op (Yd.pick_t rfl rfl) rfl ?_
  refine J.op (Yd.assign rfl) rfl ?_
  refine J.nil ?_
  refine J.n_then ?_
  refine J.ret ?_
  exact J.ret1 rfl rfl (⟨_, rfl, rfl, e0⟩)

theorem Splits_ok {id n : Int} {a cv : Value} {l lp lc : List UInt8} {x : Pc} {w : World} (ha : Bs w a l) (hx : Bs w x.2.2.2 lp) (hcv : Bs w cv lc) : C Try.prog 6 [I id, a, I n, .agg (pcS.c x).toArray, cv] w (Ret fun v w' => v = .bool true ∧ Ext w w') := by
  by_cases hb : l.length ≤ 10100 ∧ lp.length ≤ 1100 ∧ lc.length ≤ 1100
  · by_cases hv : (0 ≤ id ∧ id ≤ 1073741824) ∧ (1 ≤ n ∧ n ≤ 1000) ∧ (1 ≤ (l.length : Int) ∧ (l.length : Int) ≤ 10000)
    · obtain ⟨m, rfl⟩ := Int.eq_ofNat_of_zero_le (show 0 ≤ n by omega)
      exact SplitsIn ha hx hcv hb (by omega) (by omega)
    · exact SplitsNo ha hx hcv hb hv
  · exact SplitsOut ha hx hcv hb
end Ytghklimejpmpnaa
end Go.Proofs
