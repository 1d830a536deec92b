import Derived.Test.YtikggonjagoiaaaT
import Derived.Test.YtikggonjagoiaaaH7
set_option linter.unusedVariables false
set_option linter.unusedSimpArgs false
set_option maxRecDepth 100000
set_option maxHeartbeats 4000000
namespace Go.Proofs
open Go.X Go.RowKit
namespace Ytikggonjagoiaaa
theorem ChainAhead_ok {a : Value} {key : List UInt8} {k n : Int} {w : World} (ha : Bs w a key) : C Try.prog 6 [a, I k, I n] w (Ret fun v w' => v = .bool true ∧ Ext w w') := by
  have e0 := Ext.refl w
  refine C.enter Try.func6 rfl Try.ntmps6 rfl ?_
  refine J.seq ?_
  refine J.region ?_
  refine J.op (Yd.assign rfl) rfl ?_
  refine J.nil ?_
  refine J.n_then ?_
  refine J.seq ?_
  refine J.seq ?_
  refine J.region ?_
  refine J.op (Yd.move rfl) rfl ?_
  refine J.op (Yd.len_b Try.underlying22 rfl ha) rfl ?_
  refine J.op (Yd.neq rfl rfl) rfl ?_
  refine J.op (Yd.move rfl) rfl ?_
  refine J.split_dec (t := 24) rfl (fun h1 => ?_) (fun h1 => ?_)
  · skip
    refine J.not_g rfl rfl rfl rfl rfl ?_
    refine J.not_g rfl rfl rfl rfl rfl ?_
    refine J.op (Yd.pick_t rfl rfl) rfl ?_
    refine J.op (Yd.move rfl) rfl ?_
    refine J.not_g rfl rfl rfl rfl rfl ?_
    refine J.not_g rfl rfl rfl rfl rfl ?_
    refine J.op (Yd.pick_t rfl rfl) rfl ?_
    refine J.op (Yd.move rfl) rfl ?_
    refine J.not_g rfl rfl rfl rfl rfl ?_
    refine J.not_g rfl rfl rfl rfl rfl ?_
    refine J.op (Yd.pick_t rfl rfl) rfl ?_
    refine J.op (Yd.move rfl) rfl ?_
    refine J.not_g rfl rfl rfl rfl rfl ?_
    refine J.not_g rfl rfl rfl rfl rfl ?_
    refine J.op (Yd.pick_t rfl rfl) rfl ?_
    refine J.nil ?_
    refine J.n_then ?_
    refine J.cond_true rfl ?_
    refine J.seq ?_
    refine J.region ?_
    refine J.eff (Ye.call cl8 rfl (awake_ok)) rfl ?_
    rintro _ w1 ⟨rfl, x1⟩
    have e0 := e0.trans x1
    clear x1
    refine J.op (Yd.assign rfl) rfl ?_
    refine J.nil ?_
    refine J.n_then ?_
    refine J.ret ?_
    refine J.r_then ?_
    exact J.ret1 rfl rfl (⟨_, rfl, rfl, e0⟩)
  · skip
    refine J.op_g rfl rfl rfl (Yd.move rfl) rfl ?_
    refine J.op_g rfl rfl rfl (Yd.lss rfl rfl) rfl ?_
    refine J.op (Yd.pick_f rfl rfl) rfl ?_
    refine J.op (Yd.move rfl) rfl ?_
    refine J.split_dec (t := 28) rfl (fun h2 => ?_) (fun h2 => ?_)
    · skip
      refine J.not_g rfl rfl rfl rfl rfl ?_
      refine J.not_g rfl rfl rfl rfl rfl ?_
      refine J.op (Yd.pick_t rfl rfl) rfl ?_
      refine J.op (Yd.move rfl) rfl ?_
      refine J.not_g rfl rfl rfl rfl rfl ?_
      refine J.not_g rfl rfl rfl rfl rfl ?_
      refine J.op (Yd.pick_t rfl rfl) rfl ?_
      refine J.op (Yd.move rfl) rfl ?_
      refine J.not_g rfl rfl rfl rfl rfl ?_
      refine J.not_g rfl rfl rfl rfl rfl ?_
      refine J.op (Yd.pick_t rfl rfl) rfl ?_
      refine J.nil ?_
      refine J.n_then ?_
      refine J.cond_true rfl ?_
      refine J.seq ?_
      refine J.region ?_
      refine J.eff (Ye.call cl8 rfl (awake_ok)) rfl ?_
      rintro _ w2 ⟨rfl, x1⟩
      have e0 := e0.trans x1
      clear x1
      refine J.op (Yd.assign rfl) rfl ?_
      refine J.nil ?_
      refine J.n_then ?_
      refine J.ret ?_
      refine J.r_then ?_
      exact J.ret1 rfl rfl (⟨_, rfl, rfl, e0⟩)
    · skip
      refine J.op_g rfl rfl rfl (Yd.move rfl) rfl ?_
      refine J.op_g rfl rfl rfl (Yd.gtr rfl rfl) rfl ?_
      refine J.op (Yd.pick_f rfl rfl) rfl ?_
      refine J.op (Yd.move rfl) rfl ?_
      refine J.split_dec (t := 32) rfl (fun h3 => ?_) (fun h3 => ?_)
      · skip
        refine J.not_g rfl rfl rfl rfl rfl ?_
        refine J.not_g rfl rfl rfl rfl rfl ?_
        refine J.op (Yd.pick_t rfl rfl) rfl ?_
        refine J.op (Yd.move rfl) rfl ?_
        refine J.not_g rfl rfl rfl rfl rfl ?_
        refine J.not_g rfl rfl rfl rfl rfl ?_
        refine J.op (Yd.pick_t rfl rfl) rfl ?_
        refine J.nil ?_
        refine J.n_then ?_
        refine J.cond_true rfl ?_
        refine J.seq ?_
        refine J.region ?_
        refine J.eff (Ye.call cl8 rfl (awake_ok)) rfl ?_
        rintro _ w3 ⟨rfl, x1⟩
        have e0 := e0.trans x1
        clear x1
        refine J.op (Yd.assign rfl) rfl ?_
        refine J.nil ?_
        refine J.n_then ?_
        refine J.ret ?_
        refine J.r_then ?_
        exact J.ret1 rfl rfl (⟨_, rfl, rfl, e0⟩)
      · skip
        refine J.op_g rfl rfl rfl (Yd.move rfl) rfl ?_
        refine J.op_g rfl rfl rfl (Yd.lss rfl rfl) rfl ?_
        refine J.op (Yd.pick_f rfl rfl) rfl ?_
        refine J.op (Yd.move rfl) rfl ?_
        refine J.split_dec (t := 36) rfl (fun h4 => ?_) (fun h4 => ?_)
        · skip
          refine J.not_g rfl rfl rfl rfl rfl ?_
          refine J.not_g rfl rfl rfl rfl rfl ?_
          refine J.op (Yd.pick_t rfl rfl) rfl ?_
          refine J.nil ?_
          refine J.n_then ?_
          refine J.cond_true rfl ?_
          refine J.seq ?_
          refine J.region ?_
          refine J.eff (Ye.call cl8 rfl (awake_ok)) rfl ?_
          rintro _ w4 ⟨rfl, x1⟩
          have e0 := e0.trans x1
          clear x1
          refine J.op (Yd.assign rfl) rfl ?_
          refine J.nil ?_
          refine J.n_then ?_
          refine J.ret ?_
          refine J.r_then ?_
          exact J.ret1 rfl rfl (⟨_, rfl, rfl, e0⟩)
        · skip
          refine J.op_g rfl rfl rfl (Yd.move rfl) rfl ?_
          refine J.op_g rfl rfl rfl (Yd.gtr rfl rfl) rfl ?_
          refine J.op (Yd.pick_f rfl rfl) rfl ?_
          refine J.nil ?_
          refine J.n_then ?_
          refine J.cond_dec rfl (fun hc0 => ?_) (fun hc0 => ?_)
          · skip
            refine J.seq ?_
            refine J.region ?_
            refine J.eff (Ye.call cl8 rfl (awake_ok)) rfl ?_
            rintro _ w5 ⟨rfl, x1⟩
            have e0 := e0.trans x1
            clear x1
            refine J.op (Yd.assign rfl) rfl ?_
            refine J.nil ?_
            refine J.n_then ?_
            refine J.ret ?_
            refine J.r_then ?_
            exact J.ret1 rfl rfl (⟨_, rfl, rfl, e0⟩)
          · skip
            have hk : key.length = 32 := by omega
            obtain ⟨K, rfl⟩ := Int.eq_ofNat_of_zero_le (show 0 ≤ k by omega)
            obtain ⟨M, rfl⟩ := Int.eq_ofNat_of_zero_le (show 0 ≤ n by omega)
            refine J.skip ?_
            refine J.n_then ?_
            refine J.seq ?_
            refine J.region ?_
            refine J.op (Yd.move rfl) rfl ?_
            refine J.eff (Ye.call cl9 rfl (New_yes ha hk)) rfl ?_
            rintro _ w6 ⟨b43_6, s43_6, rfl, hbb43_6, cb43_6, os43_6, ap_b43_6_s43_6, x1⟩
            have fr_b43_6 : Fr w.heap.size (some b43_6) := Fr.le (Fr.blk hbb43_6) e0.size
            have fr_s43_6 : Fr w.heap.size s43_6.ownBlock := Fr.le (Ow.fr os43_6) e0.size
            replace os43_6 := Ow.base os43_6 e0.size
            have e0 := e0.trans x1
            clear x1
            refine J.op (Yd.move rfl) rfl ?_
            refine J.op (Yd.extract rfl rfl) rfl ?_
            refine J.op (Yd.extract rfl rfl) rfl ?_
            refine J.op (Yd.assign rfl) rfl ?_
            refine J.op (Yd.assign rfl) rfl ?_
            refine J.nil ?_
            refine J.n_then ?_
            refine J.seq ?_
            refine J.seq ?_
            refine J.region ?_
            refine J.op (Yd.move rfl) rfl ?_
            refine J.op (Yd.neq rfl rfl) rfl ?_
            refine J.op (Yd.move rfl) rfl ?_
            refine J.know (t := 48) (v' := .bool false) rfl (ff (by decide)) ?_
            refine J.op_g rfl rfl rfl (Yd.move rfl) rfl ?_
            refine J.op_g rfl rfl rfl (Yd.cast (Yd.eqPn Try.underlying25 rfl rfl) (show _ = Value.bool false from rfl)) rfl ?_
            refine J.op (Yd.pick_f rfl rfl) rfl ?_
            refine J.nil ?_
            refine J.n_then ?_
            refine J.cond_false rfl ?_
            refine J.skip ?_
            refine J.n_then ?_
            refine J.seq ?_
            refine J.region ?_
            refine J.op (Yd.move rfl) rfl ?_
            refine J.op (Yd.move rfl) rfl ?_
            refine J.eff (Ye.call cl17 rfl (ChAt_yes (show Cel _ _ _ (chS _ _) from cb43_6) (Ow.rd os43_6) (by first | assumption | exact macL_len _ _ | exact chK_len _ (by first | assumption | omega | exact chK_len _ (by assumption) _) _ | omega | (simp; done)) (by first | omega | (simp only [Int.toNat_natCast]; omega)) (mayK_ok (by omega) (by omega)))) rfl ?_
            rintro _ w7 ⟨v55_7, rfl, ov55_7, x1⟩
            have ap_s43_6_v55_7 : Ap s43_6.ownBlock v55_7.ownBlock := Ap.mk (Ow.live os43_6) (Ow.fr ov55_7)
            have ap_b43_6_v55_7 : Ap (some b43_6) v55_7.ownBlock := Ap.mk (Cel.live cb43_6) (Ow.fr ov55_7)
            have fr_v55_7 : Fr w.heap.size v55_7.ownBlock := Fr.le (Ow.fr ov55_7) e0.size
            replace ov55_7 := Ow.base ov55_7 e0.size
            have e0 := e0.trans x1
            have os43_6 := os43_6.ext x1
            have cb43_6 := cb43_6.ext x1
            clear x1
            refine J.op (Yd.move rfl) rfl ?_
            refine J.op (Yd.extract rfl rfl) rfl ?_
            refine J.op (Yd.extract rfl rfl) rfl ?_
            refine J.op (Yd.assign rfl) rfl ?_
            refine J.op (Yd.assign rfl) rfl ?_
            refine J.nil ?_
            refine J.n_then ?_
            refine J.seq ?_
            refine J.region ?_
            refine J.op (Yd.move rfl) rfl ?_
            refine J.eff (Ye.call cl21 rfl (Copy_ok (show Cel _ _ _ (chS _ _) from cb43_6) (Ow.rd os43_6) (by first | assumption | exact macL_len _ _ | exact chK_len _ (by first | assumption | omega | exact chK_len _ (by assumption) _) _ | omega | (simp; done)))) rfl ?_
            rintro _ w8 ⟨b59_8, s59_8, rfl, hbb59_8, cb59_8, os59_8, ap_b59_8_s59_8, x1⟩
            have ap_s43_6_b59_8 : Ap s43_6.ownBlock (some b59_8) := Ap.mk (Ow.live os43_6) (Fr.blk hbb59_8)
            have ap_b43_6_b59_8 : Ap (some b43_6) (some b59_8) := Ap.mk (Cel.live cb43_6) (Fr.blk hbb59_8)
            have ap_v55_7_b59_8 : Ap v55_7.ownBlock (some b59_8) := Ap.mk (Ow.live ov55_7) (Fr.blk hbb59_8)
            have fr_b59_8 : Fr w.heap.size (some b59_8) := Fr.le (Fr.blk hbb59_8) e0.size
            have ap_s43_6_s59_8 : Ap s43_6.ownBlock s59_8.ownBlock := Ap.mk (Ow.live os43_6) (Ow.fr os59_8)
            have ap_b43_6_s59_8 : Ap (some b43_6) s59_8.ownBlock := Ap.mk (Cel.live cb43_6) (Ow.fr os59_8)
            have ap_v55_7_s59_8 : Ap v55_7.ownBlock s59_8.ownBlock := Ap.mk (Ow.live ov55_7) (Ow.fr os59_8)
            have fr_s59_8 : Fr w.heap.size s59_8.ownBlock := Fr.le (Ow.fr os59_8) e0.size
            replace os59_8 := Ow.base os59_8 e0.size
            have e0 := e0.trans x1
            have os43_6 := os43_6.ext x1
            have cb43_6 := cb43_6.ext x1
            have ov55_7 := ov55_7.ext x1
            clear x1
            refine J.op (Yd.assign rfl) rfl ?_
            refine J.nil ?_
            refine J.n_then ?_
            refine J.seq ?_
            refine J.seq ?_
            refine J.region ?_
            refine J.op (Yd.move rfl) rfl ?_
            refine J.op (Yd.neq rfl rfl) rfl ?_
            refine J.op (Yd.move rfl) rfl ?_
            refine J.know (t := 62) (v' := .bool false) rfl (ff (by decide)) ?_
            refine J.op_g rfl rfl rfl (Yd.move rfl) rfl ?_
            refine J.op_g rfl rfl rfl (Yd.len_b Try.underlying22 rfl (Ow.rd ov55_7)) rfl ?_
            refine J.op_g rfl rfl rfl (Yd.neq rfl rfl) rfl ?_
            refine J.op (Yd.pick_f rfl rfl) rfl ?_
            refine J.op (Yd.move rfl) rfl ?_
            refine J.know (t := 67) (v' := .bool false) rfl (ff (by rw [chM_len]; decide)) ?_
            refine J.op_g rfl rfl rfl (Yd.move rfl) rfl ?_
            refine J.op_g rfl rfl rfl (Yd.cast (Yd.eqPn Try.underlying25 rfl rfl) (show _ = Value.bool false from rfl)) rfl ?_
            refine J.op (Yd.pick_f rfl rfl) rfl ?_
            refine J.op (Yd.move rfl) rfl ?_
            refine J.op_g rfl rfl rfl (Yd.move rfl) rfl ?_
            refine J.eff_g rfl rfl rfl (Ye.call cl12 rfl (Index_ok (show Cel _ _ _ (chS _ _) from cb43_6) (Ow.rd os43_6) (by first | assumption | exact macL_len _ _ | exact chK_len _ (by first | assumption | omega | exact chK_len _ (by assumption) _) _ | omega | (simp; done)))) rfl ?_
            rintro _ w9 ⟨rfl, x1⟩
            have e0 := e0.trans x1
            have os43_6 := os43_6.ext x1
            have cb43_6 := cb43_6.ext x1
            have ov55_7 := ov55_7.ext x1
            have os59_8 := os59_8.ext x1
            have cb59_8 := cb59_8.ext x1
            clear x1
            refine J.op_g rfl rfl rfl (Yd.neq rfl rfl) rfl ?_
            refine J.op (Yd.pick_f rfl rfl) rfl ?_
            refine J.nil ?_
            refine J.n_then ?_
            refine J.know (t := 75) (v' := .bool false) rfl (ff (by omega)) ?_
            refine J.cond_false rfl ?_
            refine J.skip ?_
            refine J.n_then ?_
            refine J.seq ?_
            refine J.region ?_
            refine J.op (Yd.move rfl) rfl ?_
            refine J.op (Yd.move rfl) rfl ?_
            refine J.eff (Ye.call cl11 rfl (Skip_nat (show Cel _ _ _ (chS _ _) from cb59_8) (Ow.rd os59_8) (by first | assumption | exact macL_len _ _ | exact chK_len _ (by first | assumption | omega | exact chK_len _ (by assumption) _) _ | omega | (simp; done)) ap_b59_8_s59_8 (by first | omega | (simp only [Int.toNat_natCast]; omega)) (by omega) (by omega))) rfl ?_
            rintro _ w10 ⟨o79_10, vs79_10, s79_10, rfl, oo79_10, cX5, rs79_10, hsf_s79_10, x1⟩
            have lo_s43_6_o79_10 : Lo w9.heap.size s43_6.ownBlock := (Ow.live os43_6)
            have lo_b43_6_o79_10 : Lo w9.heap.size (some b43_6) := (Cel.live cb43_6)
            have lo_v55_7_o79_10 : Lo w9.heap.size v55_7.ownBlock := (Ow.live ov55_7)
            have lo_s59_8_o79_10 : Lo w9.heap.size s59_8.ownBlock := (Ow.live os59_8)
            have lo_b59_8_o79_10 : Lo w9.heap.size (some b59_8) := (Cel.live cb59_8)
            have ap_s43_6_o79_10 : Ap s43_6.ownBlock o79_10.ownBlock := Ap.mk (Ow.live os43_6) (Ow.fr (Rw.row oo79_10))
            have ap_b43_6_o79_10 : Ap (some b43_6) o79_10.ownBlock := Ap.mk (Cel.live cb43_6) (Ow.fr (Rw.row oo79_10))
            have ap_v55_7_o79_10 : Ap v55_7.ownBlock o79_10.ownBlock := Ap.mk (Ow.live ov55_7) (Ow.fr (Rw.row oo79_10))
            have ap_s59_8_o79_10 : Ap s59_8.ownBlock o79_10.ownBlock := Ap.mk (Ow.live os59_8) (Ow.fr (Rw.row oo79_10))
            have ap_b59_8_o79_10 : Ap (some b59_8) o79_10.ownBlock := Ap.mk (Cel.live cb59_8) (Ow.fr (Rw.row oo79_10))
            have fr_o79_10 : Fr w.heap.size o79_10.ownBlock := Fr.le (Ow.fr (Rw.row oo79_10)) e0.size
            have ap_s43_6_s79_10 : Ap s43_6.ownBlock s79_10.ownBlock := Ap.sf ap_s43_6_s59_8 (Ow.live os43_6) hsf_s79_10
            have ap_b43_6_s79_10 : Ap (some b43_6) s79_10.ownBlock := Ap.sf ap_b43_6_s59_8 (Cel.live cb43_6) hsf_s79_10
            have ap_v55_7_s79_10 : Ap v55_7.ownBlock s79_10.ownBlock := Ap.sf ap_v55_7_s59_8 (Ow.live ov55_7) hsf_s79_10
            have ap_b59_8_s79_10 : Ap (some b59_8) s79_10.ownBlock := Ap.sf ap_b59_8_s59_8 (Cel.live cb59_8) hsf_s79_10
            have fr_s79_10 : Fr w.heap.size s79_10.ownBlock := Fr.sf fr_s59_8 hsf_s79_10 e0.size
            have os43_6 := Ow.tnk os43_6 x1 (ApL.one ap_s43_6_b59_8)
            have cb43_6 := Cel.tnk cb43_6 x1 (ApL.one ap_b43_6_b59_8)
            have ov55_7 := Ow.tnk ov55_7 x1 (ApL.one ap_v55_7_b59_8)
            have os59_8 := Ow.tnk os59_8 x1 (ApL.one (Ap.symm ap_b59_8_s59_8))
            have e0 := Ext.tnk e0 (fun q hq => by simp only [List.mem_singleton] at hq; subst hq; exact fr_b59_8) x1
            clear x1
            replace cb59_8 := cX5
            clear cX5
            refine J.op (Yd.move rfl) rfl ?_
            refine J.op (Yd.extract rfl rfl) rfl ?_
            refine J.op (Yd.extract rfl rfl) rfl ?_
            refine J.op (Yd.assign rfl) rfl ?_
            refine J.op (Yd.assign rfl) rfl ?_
            refine J.nil ?_
            refine J.n_then ?_
            refine J.seq ?_
            refine J.seq ?_
            refine J.regionT [(some b59_8)] [(0, true), (1, true), (2, true), (3, true), (5, true), (4, false), (6, true), (7, true), (8, true), (9, true), (12, true)] [(13, 1), (10, 0), (11, 1)] [(14, true), (15, true), (16, true), (17, true), (18, false), (19, true), (20, true)] mix (by kernel_rfl) ?_
            refine J.s_op rfl (fun _ => Yd.move rfl) rfl ?_
            refine J.s_op rfl (fun _ => Yd.neq rfl rfl) rfl ?_
            refine J.s_op rfl (fun _ => Yd.move rfl) rfl ?_
            refine J.know (t := 84) (v' := .bool false) rfl (ff (by decide)) ?_
            refine J.s_op_g rfl rfl rfl rfl (fun _ => Yd.move rfl) rfl ?_
            refine J.s_op_g rfl rfl rfl rfl (fun _ => Yd.move rfl) rfl ?_
            refine J.s_one_g rfl rfl rfl rfl (Yd.len_l Try.underlying30 rfl (Rw.rl oo79_10)) rfl ?_
            refine J.s_op_g rfl rfl rfl rfl (fun _ => Yd.neq rfl rfl) rfl ?_
            refine J.s_op rfl (fun _ => Yd.pick_f rfl rfl) rfl ?_
            refine J.s_op rfl (fun _ => Yd.move rfl) rfl ?_
            refine J.know (t := 90) (v' := .bool false) rfl (ff (by rw [chR_len]; omega)) ?_
            refine J.s_op_g rfl rfl rfl rfl (fun _ => Yd.move rfl) rfl ?_
            refine J.s_op_g rfl rfl rfl rfl (fun _ => Yd.move rfl) rfl ?_
            refine J.s_nil ?_
            refine J.t_op_g rfl rfl rfl rfl (fun w1 ht => Yd.bstr Try.underlying22 Try.underlying5 Try.underlying9 rfl ((fun w' ht => Rd.tnk (Ow.rd ov55_7) ht (ApL.one ap_v55_7_b59_8)) w1 ht)) rfl ?_
            refine J.t_eff_g rfl rfl rfl rfl (Ye.call cl13 rfl (Next_ok (show Cel _ _ _ (chS _ _) from cb59_8) rs79_10 (by first | assumption | exact macL_len _ _ | exact chK_len _ (by first | assumption | omega | exact chK_len _ (by assumption) _) _ | omega | (simp; done)) ap_b59_8_s79_10 (by first | omega | (simp only [Int.toNat_natCast]; omega)))) rfl (fun _ _ ⟨_, _, _, _, h⟩ => Tn.mono h (by simp)) ?_
            rintro v92_11 w11 ⟨s92_11, ov92_11, cX2, os92_11, x1⟩
            have ap_s43_6_v92_11 : Ap s43_6.ownBlock v92_11.ownBlock := Ap.mk (Ow.live os43_6) (Ow.fr ov92_11)
            have ap_b43_6_v92_11 : Ap (some b43_6) v92_11.ownBlock := Ap.mk (Cel.live cb43_6) (Ow.fr ov92_11)
            have ap_v55_7_v92_11 : Ap v55_7.ownBlock v92_11.ownBlock := Ap.mk (Ow.live ov55_7) (Ow.fr ov92_11)
            have ap_s59_8_v92_11 : Ap s59_8.ownBlock v92_11.ownBlock := Ap.mk (Ow.live os59_8) (Ow.fr ov92_11)
            have ap_b59_8_v92_11 : Ap (some b59_8) v92_11.ownBlock := Ap.mk (Cel.live cb59_8) (Ow.fr ov92_11)
            have ap_o79_10_v92_11 : Ap o79_10.ownBlock v92_11.ownBlock := Ap.mk (Rw.live oo79_10) (Ow.fr ov92_11)
            have ap_s79_10_v92_11 : Ap s79_10.ownBlock v92_11.ownBlock := Ap.mk (Bs.live rs79_10 (by first | (rw [macL_len]; decide) | (rw [chK_len _ hk]; decide) | (rw [chK_len _ (chK_len _ hk _)]; decide) | omega)) (Ow.fr ov92_11)
            have fr_v92_11 : Fr w.heap.size v92_11.ownBlock := Fr.le (Ow.fr ov92_11) e0.size
            have ap_s43_6_s92_11 : Ap s43_6.ownBlock s92_11.ownBlock := Ap.mk (Ow.live os43_6) (Ow.fr os92_11)
            have ap_b43_6_s92_11 : Ap (some b43_6) s92_11.ownBlock := Ap.mk (Cel.live cb43_6) (Ow.fr os92_11)
            have ap_v55_7_s92_11 : Ap v55_7.ownBlock s92_11.ownBlock := Ap.mk (Ow.live ov55_7) (Ow.fr os92_11)
            have ap_s59_8_s92_11 : Ap s59_8.ownBlock s92_11.ownBlock := Ap.mk (Ow.live os59_8) (Ow.fr os92_11)
            have ap_b59_8_s92_11 : Ap (some b59_8) s92_11.ownBlock := Ap.mk (Cel.live cb59_8) (Ow.fr os92_11)
            have ap_o79_10_s92_11 : Ap o79_10.ownBlock s92_11.ownBlock := Ap.mk (Rw.live oo79_10) (Ow.fr os92_11)
            have ap_s79_10_s92_11 : Ap s79_10.ownBlock s92_11.ownBlock := Ap.mk (Bs.live rs79_10 (by first | (rw [macL_len]; decide) | (rw [chK_len _ hk]; decide) | (rw [chK_len _ (chK_len _ hk _)]; decide) | omega)) (Ow.fr os92_11)
            have fr_s92_11 : Fr w.heap.size s92_11.ownBlock := Fr.le (Ow.fr os92_11) e0.size
            replace ov92_11 := Ow.base ov92_11 e0.size
            replace os92_11 := Ow.base os92_11 e0.size
            have os43_6 := Ow.tnk os43_6 x1 (ApL.one ap_s43_6_b59_8)
            have cb43_6 := Cel.tnk cb43_6 x1 (ApL.one ap_b43_6_b59_8)
            have ov55_7 := Ow.tnk ov55_7 x1 (ApL.one ap_v55_7_b59_8)
            have os59_8 := Ow.tnk os59_8 x1 (ApL.one (Ap.symm ap_b59_8_s59_8))
            have oo79_10 := Rw.tnk oo79_10 x1 (LoL.one lo_b59_8_o79_10)
            have rs79_10 := Rd.tnk rs79_10 x1 (ApL.one (Ap.symm ap_b59_8_s79_10))
            have e0 := Ext.tnk e0 (fun q hq => by simp only [List.mem_singleton] at hq; subst hq; exact fr_b59_8) x1
            clear x1
            replace cb59_8 := cX2
            clear cX2
            refine J.t_op_g rfl rfl rfl rfl (fun w1 ht => Yd.bstr Try.underlying22 Try.underlying5 Try.underlying9 rfl ((fun w' ht => Rd.tnk (Ow.rd ov92_11) ht (ApL.one (Ap.symm ap_b59_8_v92_11))) w1 ht)) rfl ?_
            refine J.t_nil ?_
            refine J.s_op_g rfl rfl rfl rfl (fun _ => Yd.sne rfl rfl) rfl ?_
            refine J.s_op rfl (fun _ => Yd.pick_f rfl rfl) rfl ?_
            refine J.s_op rfl (fun _ => Yd.move rfl) rfl ?_
            refine J.know (t := 98) (v' := .bool false) rfl (ff (by exact fun e => e rfl)) ?_
            refine J.s_op_g rfl rfl rfl rfl (fun _ => Yd.move rfl) rfl ?_
            refine J.s_eff_g rfl rfl rfl rfl (Ye.call cl12 rfl (Index_ok (show Cel _ _ _ (chS _ _) from cb43_6) (Ow.rd os43_6) (by first | assumption | exact macL_len _ _ | exact chK_len _ (by first | assumption | omega | exact chK_len _ (by assumption) _) _ | omega | (simp; done)))) rfl ?_
            rintro _ w12 ⟨rfl, x1⟩
            have e0 := e0.trans x1
            have os43_6 := os43_6.ext x1
            have cb43_6 := cb43_6.ext x1
            have ov55_7 := ov55_7.ext x1
            have os59_8 := os59_8.ext x1
            have cb59_8 := cb59_8.ext x1
            have oo79_10 := oo79_10.ext x1
            have rs79_10 := rs79_10.ext x1
            have ov92_11 := ov92_11.ext x1
            have os92_11 := os92_11.ext x1
            clear x1
            refine J.s_op_g rfl rfl rfl rfl (fun _ => Yd.neq rfl rfl) rfl ?_
            refine J.s_op rfl (fun _ => Yd.pick_f rfl rfl) rfl ?_
            refine J.s_nil ?_
            refine J.n_np ?_
            refine J.n_then ?_
            refine J.know (t := 102) (v' := .bool false) rfl (ff (by omega)) ?_
            refine J.cond_false rfl ?_
            refine J.skip ?_
            refine J.n_then ?_
            refine J.seq ?_
            refine J.seq ?_
            refine J.region ?_
            refine J.op (Yd.assign rfl) rfl ?_
            refine J.nil ?_
            refine J.n_then ?_
            refine J.block ?_
            refine J.loop (ι := Nat × Value) (fun i => [(1, I (K : Int)), (2, I (M : Int)), (14, I i.1), (7, .pointer (some ⟨b43_6, 0, none⟩)), (11, .pointer (some ⟨b59_8, 0, none⟩)), (12, o79_10)]) (fun i w' => i.1 ≤ K ∧ Cel w' b43_6 53 (chS i.2 i.1) ∧ Cel w' b59_8 53 (chS s92_11 (K + 1)) ∧ Bs w' i.2 (chK key i.1) ∧ Bs w' s92_11 (chK key (K + 1)) ∧ Rw w9.heap.size 22 5 w' o79_10 vs79_10 (chR key 0 (K - 0)) ∧ Fr w.heap.size (i.2).ownBlock ∧ Ap (some b43_6) (i.2).ownBlock ∧ Ap (some b59_8) (i.2).ownBlock ∧ Ap o79_10.ownBlock (i.2).ownBlock ∧ Ext w w') (fun i => K - i.1) ((0, s43_6)) ⟨rfl, rfl, rfl, rfl, rfl, rfl, trivial⟩ (⟨Nat.zero_le _, (show Cel _ _ _ (chS _ _) from cb43_6), (show Cel _ _ _ (chS _ _) from cb59_8), (Ow.rd os43_6), (show Bs _ _ (chK key (K + 1)) from (Ow.rd os92_11)), oo79_10, fr_s43_6, ap_b43_6_s43_6, (Ap.symm ap_s43_6_b59_8), (Ap.symm ap_s43_6_o79_10), e0⟩) ?_
            rintro ⟨j, s7⟩ w13 ⟨hj, cb43_6, cb59_8, hs7, hs11, hrl, fr_s7, ap_b43_6_s7, ap_b59_8_s7, ap_o79_10_s7, e0⟩
            dsimp only at *
            have hrlen := chR_len key 0 (K - 0)
            refine J.seq ?_
            refine J.seq ?_
            refine J.region ?_
            refine J.op (Yd.move rfl) rfl ?_
            refine J.op (Yd.move rfl) rfl ?_
            refine J.op (Yd.lss rfl rfl) rfl ?_
            refine J.nil ?_
            refine J.n_then ?_
            refine J.cond_dec rfl (fun hc4 => ?_) (fun hc4 => ?_)
            · skip
              refine J.skip ?_
              refine J.n_then ?_
              refine J.seq ?_
              refine J.block ?_
              refine J.seq ?_
              refine J.regionT [(some b43_6)] [(0, true), (3, true), (4, true)] [(5, 1), (6, 1), (7, 1), (1, 0), (2, 1)] [(8, true)] mix (by kernel_rfl) ?_
              refine J.s_op rfl (fun _ => Yd.move rfl) rfl ?_
              refine J.s_op rfl (fun _ => Yd.move rfl) rfl ?_
              refine J.s_op rfl (fun _ => Yd.move rfl) rfl ?_
              refine J.s_nil ?_
              refine J.t_op rfl (fun w1 ht => Yd.idx_l Try.underlying30 ti22 rfl rfl ((fun w' ht => Rw.rl (Rw.tnk hrl ht (LoL.one lo_b43_6_o79_10))) w1 ht) (by first | omega | exact idx_u8' _ | (simp only [Int.toNat_natCast]; omega) | (simp only [List.length_map, List.length_drop, List.length_take, List.length_append, List.length_replicate]; omega) | (simp <;> omega))) rfl ?_
              refine J.t_op rfl (fun w1 ht => Yd.load pl22 rfl (Rl.cell ((fun w' ht => Rw.rl (Rw.tnk hrl ht (LoL.one lo_b43_6_o79_10))) w1 ht) (by first | omega | exact idx_u8' _ | (simp only [Int.toNat_natCast]; omega) | (simp only [List.length_map, List.length_drop, List.length_take, List.length_append, List.length_replicate]; omega) | (simp <;> omega)))) rfl ?_
              refine J.t_op rfl (fun w1 ht => Yd.bstr Try.underlying22 Try.underlying5 Try.underlying9 rfl ((fun w' ht => Rl.at' ((fun w' ht => Rw.rl (Rw.tnk hrl ht (LoL.one lo_b43_6_o79_10))) w' ht) (by first | omega | exact idx_u8' _ | (simp only [Int.toNat_natCast]; omega) | (simp only [List.length_map, List.length_drop, List.length_take, List.length_append, List.length_replicate]; omega) | (simp <;> omega))) w1 ht)) rfl ?_
              refine J.t_eff rfl (Ye.call cl13 rfl (Next_ok (show Cel _ _ _ (chS _ _) from cb43_6) hs7 (by first | assumption | exact macL_len _ _ | exact chK_len _ (by first | assumption | omega | exact chK_len _ (by assumption) _) _ | omega | (simp; done)) ap_b43_6_s7 (by first | omega | (simp only [Int.toNat_natCast]; omega)))) rfl (fun _ _ ⟨_, _, _, _, h⟩ => Tn.mono h (by simp)) ?_
              rintro v109_14 w14 ⟨s109_14, ov109_14, cX2, os109_14, x1⟩
              have ap_b43_6_v109_14 : Ap (some b43_6) v109_14.ownBlock := Ap.mk (Cel.live cb43_6) (Ow.fr ov109_14)
              have ap_b59_8_v109_14 : Ap (some b59_8) v109_14.ownBlock := Ap.mk (Cel.live cb59_8) (Ow.fr ov109_14)
              have ap_s7_v109_14 : Ap s7.ownBlock v109_14.ownBlock := Ap.mk (Bs.live hs7 (by first | (rw [macL_len]; decide) | (rw [chK_len _ hk]; decide) | (rw [chK_len _ (chK_len _ hk _)]; decide) | omega)) (Ow.fr ov109_14)
              have ap_s92_11_v109_14 : Ap s92_11.ownBlock v109_14.ownBlock := Ap.mk (Bs.live hs11 (by first | (rw [macL_len]; decide) | (rw [chK_len _ hk]; decide) | (rw [chK_len _ (chK_len _ hk _)]; decide) | omega)) (Ow.fr ov109_14)
              have ap_o79_10_v109_14 : Ap o79_10.ownBlock v109_14.ownBlock := Ap.mk (Rw.live hrl) (Ow.fr ov109_14)
              have fr_v109_14 : Fr w.heap.size v109_14.ownBlock := Fr.le (Ow.fr ov109_14) e0.size
              have ap_b43_6_s109_14 : Ap (some b43_6) s109_14.ownBlock := Ap.mk (Cel.live cb43_6) (Ow.fr os109_14)
              have ap_b59_8_s109_14 : Ap (some b59_8) s109_14.ownBlock := Ap.mk (Cel.live cb59_8) (Ow.fr os109_14)
              have ap_s7_s109_14 : Ap s7.ownBlock s109_14.ownBlock := Ap.mk (Bs.live hs7 (by first | (rw [macL_len]; decide) | (rw [chK_len _ hk]; decide) | (rw [chK_len _ (chK_len _ hk _)]; decide) | omega)) (Ow.fr os109_14)
              have ap_s92_11_s109_14 : Ap s92_11.ownBlock s109_14.ownBlock := Ap.mk (Bs.live hs11 (by first | (rw [macL_len]; decide) | (rw [chK_len _ hk]; decide) | (rw [chK_len _ (chK_len _ hk _)]; decide) | omega)) (Ow.fr os109_14)
              have ap_o79_10_s109_14 : Ap o79_10.ownBlock s109_14.ownBlock := Ap.mk (Rw.live hrl) (Ow.fr os109_14)
              have fr_s109_14 : Fr w.heap.size s109_14.ownBlock := Fr.le (Ow.fr os109_14) e0.size
              replace ov109_14 := Ow.base ov109_14 e0.size
              replace os109_14 := Ow.base os109_14 e0.size
              have cb59_8 := Cel.tnk cb59_8 x1 (ApL.one (Ap.symm ap_b43_6_b59_8))
              have hs7 := Rd.tnk hs7 x1 (ApL.one (Ap.symm ap_b43_6_s7))
              have hs11 := Rd.tnk hs11 x1 (ApL.one (Ap.symm ap_b43_6_s92_11))
              have hrl := Rw.tnk hrl x1 (LoL.one lo_b43_6_o79_10)
              have e0 := Ext.tnk e0 (fun q hq => by simp only [List.mem_singleton] at hq; subst hq; exact fr_b43_6) x1
              clear x1
              replace cb43_6 := cX2
              clear cX2
              refine J.t_op rfl (fun w1 ht => Yd.bstr Try.underlying22 Try.underlying5 Try.underlying9 rfl ((fun w' ht => Rd.tnk (Ow.rd ov109_14) ht (ApL.one (Ap.symm ap_b43_6_v109_14))) w1 ht)) rfl ?_
              refine J.t_nil ?_
              refine J.s_op rfl (fun _ => Yd.sne rfl rfl) rfl ?_
              refine J.s_nil ?_
              refine J.n_np ?_
              refine J.n_then ?_
              refine J.know (t := 116) (v' := .bool false) rfl (ff (by rw [Int.toNat_natCast, chR_get _ _ _ _ (by omega), Nat.zero_add]; exact fun e => e rfl)) ?_
              refine J.cond_false rfl ?_
              refine J.skip ?_
              refine J.n_block ?_
              refine J.n_then ?_
              refine J.region ?_
              refine J.op (Yd.move rfl) rfl ?_
              refine J.op (Yd.add rfl rfl (by first | omega | exact idx_u8' _ | (simp only [Int.toNat_natCast]; omega) | (simp only [List.length_map, List.length_drop, List.length_take, List.length_append, List.length_replicate]; omega) | (simp <;> omega))) rfl ?_
              refine J.op (Yd.assign rfl) rfl ?_
              refine J.nil ?_
              refine J.n_then ?_
              exact J.round ((j + 1, s109_14)) ⟨rfl, rfl, rfl, rfl, rfl, rfl, trivial⟩ (⟨by show j + 1 ≤ K; omega, (show Cel _ _ _ (chS _ (j + 1)) from cb43_6), (show Cel _ _ _ (chS _ _) from cb59_8), (show Bs _ _ (chK key (j + 1)) from (Ow.rd os109_14)), hs11, hrl, fr_s109_14, ap_b43_6_s109_14, ap_b59_8_s109_14, ap_o79_10_s109_14, e0⟩) (by show K - (j + 1) < K - j; omega)
            · skip
              refine J.exit ?_
              refine J.x_then ?_
              refine J.x_then ?_
              refine J.x_block ?_
              refine J.n_then ?_
              refine J.seq ?_
              refine J.region ?_
              refine J.op (Yd.move rfl) rfl ?_
              refine J.op (Yd.move rfl) rfl ?_
              refine J.eff (Ye.call cl17 rfl (ChAt_no (show Cel _ _ _ (chS _ _) from cb59_8) hs11 (by first | assumption | exact macL_len _ _ | exact chK_len _ (by first | assumption | omega | exact chK_len _ (by assumption) _) _ | omega | (simp; done)) (by first | omega | (simp only [Int.toNat_natCast]; omega)) (by rw [mayK_old (by omega)]; decide))) rfl ?_
              rintro _ w15 ⟨rfl, x1⟩
              have e0 := e0.trans x1
              have cb43_6 := cb43_6.ext x1
              have cb59_8 := cb59_8.ext x1
              have hs7 := hs7.ext x1
              have hs11 := hs11.ext x1
              have hrl := hrl.ext x1
              clear x1
              refine J.op (Yd.move rfl) rfl ?_
              refine J.op (Yd.extract rfl rfl) rfl ?_
              refine J.op (Yd.extract rfl rfl) rfl ?_
              refine J.op (Yd.assign rfl) rfl ?_
              refine J.op (Yd.assign rfl) rfl ?_
              refine J.nil ?_
              refine J.n_then ?_
              refine J.seq ?_
              refine J.region ?_
              refine J.op (Yd.move rfl) rfl ?_
              refine J.op (Yd.move rfl) rfl ?_
              refine J.op (Yd.add rfl rfl (by first | omega | exact idx_u8' _ | (simp only [Int.toNat_natCast]; omega) | (simp only [List.length_map, List.length_drop, List.length_take, List.length_append, List.length_replicate]; omega) | (simp <;> omega))) rfl ?_
              refine J.eff (Ye.call cl11 rfl (Skip_no (show Cel _ _ _ (chS _ _) from cb43_6) hs7 (by first | assumption | exact macL_len _ _ | exact chK_len _ (by first | assumption | omega | exact chK_len _ (by assumption) _) _ | omega | (simp; done)) (by first | omega | (simp only [Int.toNat_natCast]; omega)) (by rw [mayK_far (by omega) (by omega)]; decide))) rfl ?_
              rintro _ w16 ⟨rfl, x1⟩
              have e0 := e0.trans x1
              have cb43_6 := cb43_6.ext x1
              have cb59_8 := cb59_8.ext x1
              have hs7 := hs7.ext x1
              have hs11 := hs11.ext x1
              have hrl := hrl.ext x1
              clear x1
              refine J.op (Yd.move rfl) rfl ?_
              refine J.op (Yd.extract rfl rfl) rfl ?_
              refine J.op (Yd.extract rfl rfl) rfl ?_
              refine J.op (Yd.assign rfl) rfl ?_
              refine J.op (Yd.assign rfl) rfl ?_
              refine J.nil ?_
              refine J.n_then ?_
              refine J.seq ?_
              refine J.region ?_
              refine J.op (Yd.move rfl) rfl ?_
              refine J.op (Yd.move rfl) rfl ?_
              refine J.op (Yd.move rfl) rfl ?_
              refine J.op (Yd.cast (Yd.add rfl rfl (by omega)) (show I ((K : Int) + (M : Int)) = I ((K + M : Nat) : Int) by rw [Int.natCast_add])) rfl ?_
              refine J.eff (Ye.call cl11 rfl (Skip_nat (show Cel _ _ _ (chS _ _) from cb43_6) hs7 (by first | assumption | exact macL_len _ _ | exact chK_len _ (by first | assumption | omega | exact chK_len _ (by assumption) _) _ | omega | (simp; done)) ap_b43_6_s7 (by first | omega | (simp only [Int.toNat_natCast]; omega)) (by omega) (by omega))) rfl ?_
              rintro _ w17 ⟨o135_17, vs135_17, s135_17, rfl, oo135_17, cX5, rs135_17, hsf_s135_17, x1⟩
              have lo_b43_6_o135_17 : Lo w16.heap.size (some b43_6) := (Cel.live cb43_6)
              have lo_b59_8_o135_17 : Lo w16.heap.size (some b59_8) := (Cel.live cb59_8)
              have lo_s7_o135_17 : Lo w16.heap.size s7.ownBlock := (Bs.live hs7 (by first | (rw [macL_len]; decide) | (rw [chK_len _ hk]; decide) | (rw [chK_len _ (chK_len _ hk _)]; decide) | omega))
              have lo_s92_11_o135_17 : Lo w16.heap.size s92_11.ownBlock := (Bs.live hs11 (by first | (rw [macL_len]; decide) | (rw [chK_len _ hk]; decide) | (rw [chK_len _ (chK_len _ hk _)]; decide) | omega))
              have lo_o79_10_o135_17 : Lo w16.heap.size o79_10.ownBlock := (Rw.live hrl)
              have ap_b43_6_o135_17 : Ap (some b43_6) o135_17.ownBlock := Ap.mk (Cel.live cb43_6) (Ow.fr (Rw.row oo135_17))
              have ap_b59_8_o135_17 : Ap (some b59_8) o135_17.ownBlock := Ap.mk (Cel.live cb59_8) (Ow.fr (Rw.row oo135_17))
              have ap_s7_o135_17 : Ap s7.ownBlock o135_17.ownBlock := Ap.mk (Bs.live hs7 (by first | (rw [macL_len]; decide) | (rw [chK_len _ hk]; decide) | (rw [chK_len _ (chK_len _ hk _)]; decide) | omega)) (Ow.fr (Rw.row oo135_17))
              have ap_s92_11_o135_17 : Ap s92_11.ownBlock o135_17.ownBlock := Ap.mk (Bs.live hs11 (by first | (rw [macL_len]; decide) | (rw [chK_len _ hk]; decide) | (rw [chK_len _ (chK_len _ hk _)]; decide) | omega)) (Ow.fr (Rw.row oo135_17))
              have ap_o79_10_o135_17 : Ap o79_10.ownBlock o135_17.ownBlock := Ap.mk (Rw.live hrl) (Ow.fr (Rw.row oo135_17))
              have fr_o135_17 : Fr w.heap.size o135_17.ownBlock := Fr.le (Ow.fr (Rw.row oo135_17)) e0.size
              have ap_b43_6_s135_17 : Ap (some b43_6) s135_17.ownBlock := Ap.sf ap_b43_6_s7 (Cel.live cb43_6) hsf_s135_17
              have ap_b59_8_s135_17 : Ap (some b59_8) s135_17.ownBlock := Ap.sf ap_b59_8_s7 (Cel.live cb59_8) hsf_s135_17
              have ap_o79_10_s135_17 : Ap o79_10.ownBlock s135_17.ownBlock := Ap.sf ap_o79_10_s7 (Rw.live hrl) hsf_s135_17
              have fr_s135_17 : Fr w.heap.size s135_17.ownBlock := Fr.sf fr_s7 hsf_s135_17 e0.size
              have cb59_8 := Cel.tnk cb59_8 x1 (ApL.one (Ap.symm ap_b43_6_b59_8))
              have hs7 := Rd.tnk hs7 x1 (ApL.one (Ap.symm ap_b43_6_s7))
              have hs11 := Rd.tnk hs11 x1 (ApL.one (Ap.symm ap_b43_6_s92_11))
              have hrl := Rw.tnk hrl x1 (LoL.one lo_b43_6_o79_10)
              have e0 := Ext.tnk e0 (fun q hq => by simp only [List.mem_singleton] at hq; subst hq; exact fr_b43_6) x1
              clear x1
              replace cb43_6 := cX5
              clear cX5
              refine J.op (Yd.move rfl) rfl ?_
              refine J.op (Yd.extract rfl rfl) rfl ?_
              refine J.op (Yd.extract rfl rfl) rfl ?_
              refine J.op (Yd.assign rfl) rfl ?_
              refine J.op (Yd.assign rfl) rfl ?_
              refine J.nil ?_
              refine J.n_then ?_
              refine J.seq ?_
              refine J.regionT [(some b59_8)] [(0, true), (4, true), (1, false), (2, false)] [(3, 1), (5, 0), (6, 1)] [(7, true), (8, true), (9, true), (10, true), (11, true), (12, true), (13, true), (14, true), (15, true), (16, true), (17, true), (18, true), (19, true), (20, true), (21, true), (23, true), (24, true), (25, true), (22, false), (26, true), (27, true), (28, true), (29, false), (30, true), (31, true)] mix (by kernel_rfl) ?_
              refine J.s_op rfl (fun _ => Yd.move rfl) rfl ?_
              refine J.s_op rfl (fun _ => Yd.move rfl) rfl ?_
              refine J.s_eff rfl (Ye.call cl21 rfl (Copy_ok (show Cel _ _ _ (chS _ _) from cb59_8) hs11 (by first | assumption | exact macL_len _ _ | exact chK_len _ (by first | assumption | omega | exact chK_len _ (by assumption) _) _ | omega | (simp; done)))) rfl ?_
              rintro _ w18 ⟨b139_18, s139_18, rfl, hbb139_18, cb139_18, os139_18, ap_b139_18_s139_18, x1⟩
              have ap_b43_6_b139_18 : Ap (some b43_6) (some b139_18) := Ap.mk (Cel.live cb43_6) (Fr.blk hbb139_18)
              have ap_b59_8_b139_18 : Ap (some b59_8) (some b139_18) := Ap.mk (Cel.live cb59_8) (Fr.blk hbb139_18)
              have ap_s7_b139_18 : Ap s7.ownBlock (some b139_18) := Ap.mk (Bs.live hs7 (by first | (rw [macL_len]; decide) | (rw [chK_len _ hk]; decide) | (rw [chK_len _ (chK_len _ hk _)]; decide) | omega)) (Fr.blk hbb139_18)
              have ap_s92_11_b139_18 : Ap s92_11.ownBlock (some b139_18) := Ap.mk (Bs.live hs11 (by first | (rw [macL_len]; decide) | (rw [chK_len _ hk]; decide) | (rw [chK_len _ (chK_len _ hk _)]; decide) | omega)) (Fr.blk hbb139_18)
              have ap_o79_10_b139_18 : Ap o79_10.ownBlock (some b139_18) := Ap.mk (Rw.live hrl) (Fr.blk hbb139_18)
              have ap_o135_17_b139_18 : Ap o135_17.ownBlock (some b139_18) := Ap.mk (Rw.live oo135_17) (Fr.blk hbb139_18)
              have ap_s135_17_b139_18 : Ap s135_17.ownBlock (some b139_18) := Ap.mk (Bs.live rs135_17 (by first | (rw [macL_len]; decide) | (rw [chK_len _ hk]; decide) | (rw [chK_len _ (chK_len _ hk _)]; decide) | omega)) (Fr.blk hbb139_18)
              have fr_b139_18 : Fr w.heap.size (some b139_18) := Fr.le (Fr.blk hbb139_18) e0.size
              have ap_b43_6_s139_18 : Ap (some b43_6) s139_18.ownBlock := Ap.mk (Cel.live cb43_6) (Ow.fr os139_18)
              have ap_b59_8_s139_18 : Ap (some b59_8) s139_18.ownBlock := Ap.mk (Cel.live cb59_8) (Ow.fr os139_18)
              have ap_s7_s139_18 : Ap s7.ownBlock s139_18.ownBlock := Ap.mk (Bs.live hs7 (by first | (rw [macL_len]; decide) | (rw [chK_len _ hk]; decide) | (rw [chK_len _ (chK_len _ hk _)]; decide) | omega)) (Ow.fr os139_18)
              have ap_s92_11_s139_18 : Ap s92_11.ownBlock s139_18.ownBlock := Ap.mk (Bs.live hs11 (by first | (rw [macL_len]; decide) | (rw [chK_len _ hk]; decide) | (rw [chK_len _ (chK_len _ hk _)]; decide) | omega)) (Ow.fr os139_18)
              have ap_o79_10_s139_18 : Ap o79_10.ownBlock s139_18.ownBlock := Ap.mk (Rw.live hrl) (Ow.fr os139_18)
              have ap_o135_17_s139_18 : Ap o135_17.ownBlock s139_18.ownBlock := Ap.mk (Rw.live oo135_17) (Ow.fr os139_18)
              have ap_s135_17_s139_18 : Ap s135_17.ownBlock s139_18.ownBlock := Ap.mk (Bs.live rs135_17 (by first | (rw [macL_len]; decide) | (rw [chK_len _ hk]; decide) | (rw [chK_len _ (chK_len _ hk _)]; decide) | omega)) (Ow.fr os139_18)
              have fr_s139_18 : Fr w.heap.size s139_18.ownBlock := Fr.le (Ow.fr os139_18) e0.size
              replace os139_18 := Ow.base os139_18 e0.size
              have e0 := e0.trans x1
              have cb43_6 := cb43_6.ext x1
              have cb59_8 := cb59_8.ext x1
              have hs7 := hs7.ext x1
              have hs11 := hs11.ext x1
              have hrl := hrl.ext x1
              have oo135_17 := oo135_17.ext x1
              have rs135_17 := rs135_17.ext x1
              clear x1
              refine J.s_eff rfl (Ye.call cl13 rfl (Next_ok (show Cel _ _ _ (chS _ _) from cb139_18) (Ow.rd os139_18) (by first | assumption | exact macL_len _ _ | exact chK_len _ (by first | assumption | omega | exact chK_len _ (by assumption) _) _ | omega | (simp; done)) ap_b139_18_s139_18 (by first | omega | (simp only [Int.toNat_natCast]; omega)))) rfl ?_
              rintro v140_19 w19 ⟨s140_19, ov140_19, cX2, os140_19, x1⟩
              have ap_b43_6_v140_19 : Ap (some b43_6) v140_19.ownBlock := Ap.mk (Cel.live cb43_6) (Ow.fr ov140_19)
              have ap_b59_8_v140_19 : Ap (some b59_8) v140_19.ownBlock := Ap.mk (Cel.live cb59_8) (Ow.fr ov140_19)
              have ap_s7_v140_19 : Ap s7.ownBlock v140_19.ownBlock := Ap.mk (Bs.live hs7 (by first | (rw [macL_len]; decide) | (rw [chK_len _ hk]; decide) | (rw [chK_len _ (chK_len _ hk _)]; decide) | omega)) (Ow.fr ov140_19)
              have ap_s92_11_v140_19 : Ap s92_11.ownBlock v140_19.ownBlock := Ap.mk (Bs.live hs11 (by first | (rw [macL_len]; decide) | (rw [chK_len _ hk]; decide) | (rw [chK_len _ (chK_len _ hk _)]; decide) | omega)) (Ow.fr ov140_19)
              have ap_o79_10_v140_19 : Ap o79_10.ownBlock v140_19.ownBlock := Ap.mk (Rw.live hrl) (Ow.fr ov140_19)
              have ap_o135_17_v140_19 : Ap o135_17.ownBlock v140_19.ownBlock := Ap.mk (Rw.live oo135_17) (Ow.fr ov140_19)
              have ap_s135_17_v140_19 : Ap s135_17.ownBlock v140_19.ownBlock := Ap.mk (Bs.live rs135_17 (by first | (rw [macL_len]; decide) | (rw [chK_len _ hk]; decide) | (rw [chK_len _ (chK_len _ hk _)]; decide) | omega)) (Ow.fr ov140_19)
              have ap_s139_18_v140_19 : Ap s139_18.ownBlock v140_19.ownBlock := Ap.mk (Ow.live os139_18) (Ow.fr ov140_19)
              have ap_b139_18_v140_19 : Ap (some b139_18) v140_19.ownBlock := Ap.mk (Cel.live cb139_18) (Ow.fr ov140_19)
              have fr_v140_19 : Fr w.heap.size v140_19.ownBlock := Fr.le (Ow.fr ov140_19) e0.size
              have ap_b43_6_s140_19 : Ap (some b43_6) s140_19.ownBlock := Ap.mk (Cel.live cb43_6) (Ow.fr os140_19)
              have ap_b59_8_s140_19 : Ap (some b59_8) s140_19.ownBlock := Ap.mk (Cel.live cb59_8) (Ow.fr os140_19)
              have ap_s7_s140_19 : Ap s7.ownBlock s140_19.ownBlock := Ap.mk (Bs.live hs7 (by first | (rw [macL_len]; decide) | (rw [chK_len _ hk]; decide) | (rw [chK_len _ (chK_len _ hk _)]; decide) | omega)) (Ow.fr os140_19)
              have ap_s92_11_s140_19 : Ap s92_11.ownBlock s140_19.ownBlock := Ap.mk (Bs.live hs11 (by first | (rw [macL_len]; decide) | (rw [chK_len _ hk]; decide) | (rw [chK_len _ (chK_len _ hk _)]; decide) | omega)) (Ow.fr os140_19)
              have ap_o79_10_s140_19 : Ap o79_10.ownBlock s140_19.ownBlock := Ap.mk (Rw.live hrl) (Ow.fr os140_19)
              have ap_o135_17_s140_19 : Ap o135_17.ownBlock s140_19.ownBlock := Ap.mk (Rw.live oo135_17) (Ow.fr os140_19)
              have ap_s135_17_s140_19 : Ap s135_17.ownBlock s140_19.ownBlock := Ap.mk (Bs.live rs135_17 (by first | (rw [macL_len]; decide) | (rw [chK_len _ hk]; decide) | (rw [chK_len _ (chK_len _ hk _)]; decide) | omega)) (Ow.fr os140_19)
              have ap_s139_18_s140_19 : Ap s139_18.ownBlock s140_19.ownBlock := Ap.mk (Ow.live os139_18) (Ow.fr os140_19)
              have ap_b139_18_s140_19 : Ap (some b139_18) s140_19.ownBlock := Ap.mk (Cel.live cb139_18) (Ow.fr os140_19)
              have fr_s140_19 : Fr w.heap.size s140_19.ownBlock := Fr.le (Ow.fr os140_19) e0.size
              replace ov140_19 := Ow.base ov140_19 e0.size
              replace os140_19 := Ow.base os140_19 e0.size
              have cb43_6 := Cel.tnk cb43_6 x1 (ApL.one ap_b43_6_b139_18)
              have cb59_8 := Cel.tnk cb59_8 x1 (ApL.one ap_b59_8_b139_18)
              have hs7 := Rd.tnk hs7 x1 (ApL.one ap_s7_b139_18)
              have hs11 := Rd.tnk hs11 x1 (ApL.one ap_s92_11_b139_18)
              have rs135_17 := Rd.tnk rs135_17 x1 (ApL.one ap_s135_17_b139_18)
              have os139_18 := Ow.tnk os139_18 x1 (ApL.one (Ap.symm ap_b139_18_s139_18))
              have e0 := Ext.tnk e0 (fun q hq => by simp only [List.mem_singleton] at hq; subst hq; exact fr_b139_18) x1
              clear x1
              replace cb139_18 := cX2
              clear cX2
              refine J.s_nil ?_
              refine J.t_op rfl (fun w1 ht => Yd.bstr Try.underlying22 Try.underlying5 Try.underlying9 rfl ((fun w' ht => Rd.tnk (Ow.rd ov140_19) ht (ApL.one (Ap.symm ap_b59_8_v140_19))) w1 ht)) rfl ?_
              refine J.t_eff rfl (Ye.call cl13 rfl (Next_ok (show Cel _ _ _ (chS _ _) from cb59_8) hs11 (by first | assumption | exact macL_len _ _ | exact chK_len _ (by first | assumption | omega | exact chK_len _ (by assumption) _) _ | omega | (simp; done)) ap_b59_8_s92_11 (by first | omega | (simp only [Int.toNat_natCast]; omega)))) rfl (fun _ _ ⟨_, _, _, _, h⟩ => Tn.mono h (by simp)) ?_
              rintro v143_20 w20 ⟨s143_20, ov143_20, cX2, os143_20, x1⟩
              have ap_b43_6_v143_20 : Ap (some b43_6) v143_20.ownBlock := Ap.mk (Cel.live cb43_6) (Ow.fr ov143_20)
              have ap_b59_8_v143_20 : Ap (some b59_8) v143_20.ownBlock := Ap.mk (Cel.live cb59_8) (Ow.fr ov143_20)
              have ap_s7_v143_20 : Ap s7.ownBlock v143_20.ownBlock := Ap.mk (Bs.live hs7 (by first | (rw [macL_len]; decide) | (rw [chK_len _ hk]; decide) | (rw [chK_len _ (chK_len _ hk _)]; decide) | omega)) (Ow.fr ov143_20)
              have ap_s92_11_v143_20 : Ap s92_11.ownBlock v143_20.ownBlock := Ap.mk (Bs.live hs11 (by first | (rw [macL_len]; decide) | (rw [chK_len _ hk]; decide) | (rw [chK_len _ (chK_len _ hk _)]; decide) | omega)) (Ow.fr ov143_20)
              have ap_s135_17_v143_20 : Ap s135_17.ownBlock v143_20.ownBlock := Ap.mk (Bs.live rs135_17 (by first | (rw [macL_len]; decide) | (rw [chK_len _ hk]; decide) | (rw [chK_len _ (chK_len _ hk _)]; decide) | omega)) (Ow.fr ov143_20)
              have ap_s139_18_v143_20 : Ap s139_18.ownBlock v143_20.ownBlock := Ap.mk (Ow.live os139_18) (Ow.fr ov143_20)
              have ap_b139_18_v143_20 : Ap (some b139_18) v143_20.ownBlock := Ap.mk (Cel.live cb139_18) (Ow.fr ov143_20)
              have ap_v140_19_v143_20 : Ap v140_19.ownBlock v143_20.ownBlock := Ap.mk (Ow.live ov140_19) (Ow.fr ov143_20)
              have ap_s140_19_v143_20 : Ap s140_19.ownBlock v143_20.ownBlock := Ap.mk (Ow.live os140_19) (Ow.fr ov143_20)
              have fr_v143_20 : Fr w.heap.size v143_20.ownBlock := Fr.le (Ow.fr ov143_20) e0.size
              have ap_b43_6_s143_20 : Ap (some b43_6) s143_20.ownBlock := Ap.mk (Cel.live cb43_6) (Ow.fr os143_20)
              have ap_b59_8_s143_20 : Ap (some b59_8) s143_20.ownBlock := Ap.mk (Cel.live cb59_8) (Ow.fr os143_20)
              have ap_s7_s143_20 : Ap s7.ownBlock s143_20.ownBlock := Ap.mk (Bs.live hs7 (by first | (rw [macL_len]; decide) | (rw [chK_len _ hk]; decide) | (rw [chK_len _ (chK_len _ hk _)]; decide) | omega)) (Ow.fr os143_20)
              have ap_s92_11_s143_20 : Ap s92_11.ownBlock s143_20.ownBlock := Ap.mk (Bs.live hs11 (by first | (rw [macL_len]; decide) | (rw [chK_len _ hk]; decide) | (rw [chK_len _ (chK_len _ hk _)]; decide) | omega)) (Ow.fr os143_20)
              have ap_s135_17_s143_20 : Ap s135_17.ownBlock s143_20.ownBlock := Ap.mk (Bs.live rs135_17 (by first | (rw [macL_len]; decide) | (rw [chK_len _ hk]; decide) | (rw [chK_len _ (chK_len _ hk _)]; decide) | omega)) (Ow.fr os143_20)
              have ap_s139_18_s143_20 : Ap s139_18.ownBlock s143_20.ownBlock := Ap.mk (Ow.live os139_18) (Ow.fr os143_20)
              have ap_b139_18_s143_20 : Ap (some b139_18) s143_20.ownBlock := Ap.mk (Cel.live cb139_18) (Ow.fr os143_20)
              have ap_v140_19_s143_20 : Ap v140_19.ownBlock s143_20.ownBlock := Ap.mk (Ow.live ov140_19) (Ow.fr os143_20)
              have ap_s140_19_s143_20 : Ap s140_19.ownBlock s143_20.ownBlock := Ap.mk (Ow.live os140_19) (Ow.fr os143_20)
              have fr_s143_20 : Fr w.heap.size s143_20.ownBlock := Fr.le (Ow.fr os143_20) e0.size
              replace ov143_20 := Ow.base ov143_20 e0.size
              replace os143_20 := Ow.base os143_20 e0.size
              have cb43_6 := Cel.tnk cb43_6 x1 (ApL.one ap_b43_6_b59_8)
              have hs7 := Rd.tnk hs7 x1 (ApL.one (Ap.symm ap_b59_8_s7))
              have hs11 := Rd.tnk hs11 x1 (ApL.one (Ap.symm ap_b59_8_s92_11))
              have rs135_17 := Rd.tnk rs135_17 x1 (ApL.one (Ap.symm ap_b59_8_s135_17))
              have os139_18 := Ow.tnk os139_18 x1 (ApL.one (Ap.symm ap_b59_8_s139_18))
              have cb139_18 := Cel.tnk cb139_18 x1 (ApL.one (Ap.symm ap_b59_8_b139_18))
              have ov140_19 := Ow.tnk ov140_19 x1 (ApL.one (Ap.symm ap_b59_8_v140_19))
              have os140_19 := Ow.tnk os140_19 x1 (ApL.one (Ap.symm ap_b59_8_s140_19))
              have e0 := Ext.tnk e0 (fun q hq => by simp only [List.mem_singleton] at hq; subst hq; exact fr_b59_8) x1
              clear x1
              replace cb59_8 := cX2
              clear cX2
              refine J.t_op rfl (fun w1 ht => Yd.bstr Try.underlying22 Try.underlying5 Try.underlying9 rfl ((fun w' ht => Rd.tnk (Ow.rd ov143_20) ht (ApL.one (Ap.symm ap_b59_8_v143_20))) w1 ht)) rfl ?_
              refine J.t_nil ?_
              refine J.s_op rfl (fun _ => Yd.seq rfl rfl) rfl ?_
              refine J.s_op rfl (fun _ => Yd.move rfl) rfl ?_
              refine J.know (t := 146) (v' := .bool true) rfl (tt (by rfl)) ?_
              refine J.s_op_g rfl rfl rfl rfl (fun _ => Yd.move rfl) rfl ?_
              refine J.s_op_g rfl rfl rfl rfl (fun _ => Yd.eql rfl rfl) rfl ?_
              refine J.s_op rfl (fun _ => Yd.pick_t rfl rfl) rfl ?_
              refine J.s_op rfl (fun _ => Yd.move rfl) rfl ?_
              refine J.know (t := 150) (v' := .bool true) rfl (tt (by exact mayK_old (by omega))) ?_
              refine J.s_op_g rfl rfl rfl rfl (fun _ => Yd.move rfl) rfl ?_
              refine J.s_op_g rfl rfl rfl rfl (fun _ => Yd.eql rfl rfl) rfl ?_
              refine J.s_op rfl (fun _ => Yd.pick_t rfl rfl) rfl ?_
              refine J.s_op rfl (fun _ => Yd.move rfl) rfl ?_
              refine J.know (t := 154) (v' := .bool true) rfl (tt (by exact mayK_far (by omega) (by omega))) ?_
              refine J.s_op_g rfl rfl rfl rfl (fun _ => Yd.move rfl) rfl ?_
              refine J.s_op_g rfl rfl rfl rfl (fun _ => Yd.eql rfl rfl) rfl ?_
              refine J.s_op rfl (fun _ => Yd.pick_t rfl rfl) rfl ?_
              refine J.s_op rfl (fun _ => Yd.move rfl) rfl ?_
              refine J.know (t := 158) (v' := .bool true) rfl (tt (by rfl)) ?_
              refine J.s_op_g rfl rfl rfl rfl (fun _ => Yd.move rfl) rfl ?_
              refine J.s_op_g rfl rfl rfl rfl (fun _ => Yd.move rfl) rfl ?_
              refine J.s_op_g rfl rfl rfl rfl (fun _ => Yd.move rfl) rfl ?_
              refine J.s_op_g rfl rfl rfl rfl (fun _ => Yd.add rfl rfl (by first | omega | exact idx_u8' _ | (simp only [Int.toNat_natCast]; omega) | (simp only [List.length_map, List.length_drop, List.length_take, List.length_append, List.length_replicate]; omega) | (simp <;> omega))) rfl ?_
              refine J.s_eff_g rfl rfl rfl rfl (Ye.call cl12 rfl (Index_ok (show Cel _ _ _ (chS _ _) from cb43_6) rs135_17 (by first | assumption | exact macL_len _ _ | exact chK_len _ (by first | assumption | omega | exact chK_len _ (by assumption) _) _ | omega | (simp; done)))) rfl ?_
              rintro _ w21 ⟨rfl, x1⟩
              have e0 := e0.trans x1
              have cb43_6 := cb43_6.ext x1
              have cb59_8 := cb59_8.ext x1
              have hs7 := hs7.ext x1
              have hs11 := hs11.ext x1
              have rs135_17 := rs135_17.ext x1
              have os139_18 := os139_18.ext x1
              have cb139_18 := cb139_18.ext x1
              have ov140_19 := ov140_19.ext x1
              have os140_19 := os140_19.ext x1
              have ov143_20 := ov143_20.ext x1
              have os143_20 := os143_20.ext x1
              clear x1
              refine J.s_op_g rfl rfl rfl rfl (fun _ => Yd.eql rfl rfl) rfl ?_
              refine J.s_op rfl (fun _ => Yd.pick_t rfl rfl) rfl ?_
              refine J.s_op rfl (fun _ => Yd.move rfl) rfl ?_
              refine J.know (t := 166) (v' := .bool true) rfl (tt (by omega)) ?_
              refine J.s_eff_g rfl rfl rfl rfl (Ye.call cl8 rfl (awake_ok)) rfl ?_
              rintro _ w22 ⟨rfl, x1⟩
              have e0 := e0.trans x1
              have cb43_6 := cb43_6.ext x1
              have cb59_8 := cb59_8.ext x1
              have hs7 := hs7.ext x1
              have hs11 := hs11.ext x1
              have rs135_17 := rs135_17.ext x1
              have os139_18 := os139_18.ext x1
              have cb139_18 := cb139_18.ext x1
              have ov140_19 := ov140_19.ext x1
              have os140_19 := os140_19.ext x1
              have ov143_20 := ov143_20.ext x1
              have os143_20 := os143_20.ext x1
              clear x1
              refine J.s_op rfl (fun _ => Yd.pick_t rfl rfl) rfl ?_
              refine J.s_op rfl (fun _ => Yd.assign rfl) rfl ?_
              refine J.s_nil ?_
              refine J.n_np ?_
              refine J.n_then ?_
              refine J.ret ?_
              exact J.ret1 rfl rfl (⟨_, rfl, rfl, e0⟩)
end Ytikggonjagoiaaa
end Go.Proofs
