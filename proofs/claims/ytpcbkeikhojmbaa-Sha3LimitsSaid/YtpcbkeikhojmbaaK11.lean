import Derived.Test.YtpcbkeikhojmbaaT
import Derived.Test.YtpcbkeikhojmbaaK8
set_option linter.unusedVariables false
set_option linter.unusedSimpArgs false
set_option maxRecDepth 100000
set_option maxHeartbeats 4000000
namespace Go.Proofs
open Go.X Go.RowKit
namespace Ytpcbkeikhojmbaa
theorem Sha3Limits_ok {n : Int} {w : World} : C Try.prog 6 [I n] w (Ret fun v w' => v = .bool true ∧ Ext w w') := by
  have e0 := Ext.refl w
  refine C.enter Try.func6 rfl Try.ntmps6 rfl ?_
  refine J.seq ?_
  refine J.region ?_
  refine J.op (Yd.assign rfl) rfl ?_
  refine J.nil ?_
  refine J.n_then ?_
  refine J.seq ?_
  refine J.seq ?_
  refine J.region ?_
  refine J.op (Yd.move rfl) rfl ?_
  refine J.op (Yd.gtr rfl rfl) rfl ?_
  refine J.op (Yd.move rfl) rfl ?_
  refine J.split_dec (t := 8) rfl (fun h1 => ?_) (fun h1 => ?_)
  · skip
    refine J.not_g rfl rfl rfl rfl rfl ?_
    refine J.not_g rfl rfl rfl rfl rfl ?_
    refine J.not_g rfl rfl rfl rfl rfl ?_
    refine J.not_u rfl rfl rfl rfl ?_
    refine J.not_u rfl rfl rfl rfl ?_
    refine J.not_g rfl rfl rfl rfl rfl ?_
    refine J.op (Yd.pick_t rfl rfl) rfl ?_
    refine J.nil ?_
    refine J.n_then ?_
    refine J.cond_true rfl ?_
    refine J.seq ?_
    refine J.region ?_
    refine J.eff (Ye.call cl11 rfl (awake_ok)) rfl ?_
    rintro _ w1 ⟨rfl, x1⟩
    have e0 := e0.trans x1
    clear x1
    refine J.op (Yd.assign rfl) rfl ?_
    refine J.nil ?_
    refine J.n_then ?_
    refine J.ret ?_
    refine J.r_then ?_
    exact J.ret1 rfl rfl (⟨_, rfl, rfl, e0⟩)
  · skip
    refine J.op_g rfl rfl rfl (Yd.move rfl) rfl ?_
    refine J.op_g rfl rfl rfl (Yd.gtr rfl rfl) rfl ?_
    refine J.op_g rfl rfl rfl (Yd.move rfl) rfl ?_
    refine J.split_dec (t := 11) rfl (fun h2 => ?_) (fun h2 => ?_)
    · skip
      refine J.op_g rfl rfl rfl (Yd.move rfl) rfl ?_
      refine J.op_g rfl rfl rfl (Yd.lss rfl rfl) rfl ?_
      refine J.op_g rfl rfl rfl (Yd.pick_t rfl rfl) rfl ?_
      refine J.op (Yd.pick_f rfl rfl) rfl ?_
      refine J.nil ?_
      refine J.n_then ?_
      refine J.cond_dec rfl (fun hc0 => ?_) (fun hc0 => ?_)
      · skip
        refine J.seq ?_
        refine J.region ?_
        refine J.eff (Ye.call cl11 rfl (awake_ok)) rfl ?_
        rintro _ w2 ⟨rfl, x1⟩
        have e0 := e0.trans x1
        clear x1
        refine J.op (Yd.assign rfl) rfl ?_
        refine J.nil ?_
        refine J.n_then ?_
        refine J.ret ?_
        refine J.r_then ?_
        exact J.ret1 rfl rfl (⟨_, rfl, rfl, e0⟩)
      · skip
        refine J.skip ?_
        refine J.n_then ?_
        refine J.seq ?_
        refine J.region ?_
        refine J.op (Yd.move rfl) rfl ?_
        refine J.op (Yd.maxi rfl rfl) rfl ?_
        refine J.op (Yd.mini rfl rfl) rfl ?_
        refine J.op (Yd.assign rfl) rfl ?_
        refine J.nil ?_
        refine J.n_then ?_
        refine J.seq ?_
        refine J.region ?_
        refine J.eff (Ye.call cl20 rfl (NewReader_ok (Rl.nil0 _) (by decide))) rfl ?_
        rintro _ w3 ⟨b20_3, p20_3, rfl, hb_b20_3, hb_p20_3, ap_p20_3_b20_3, cb20_3, cp20_3, x1⟩
        have fr_b20_3 : Fr w.heap.size (some b20_3) := Fr.le (Fr.blk hb_b20_3) e0.size
        have fr_p20_3 : Fr w.heap.size (some p20_3) := Fr.le (Fr.blk hb_p20_3) e0.size
        have e0 := e0.trans x1
        clear x1
        refine J.op (Yd.assign rfl) rfl ?_
        refine J.nil ?_
        refine J.n_then ?_
        refine J.seq ?_
        refine J.seq ?_
        refine J.region ?_
        refine J.op (Yd.move rfl) rfl ?_
        refine J.op (Yd.cast (Yd.eqPn Try.underlying39 rfl rfl) (show _ = Value.bool false from rfl)) rfl ?_
        refine J.nil ?_
        refine J.n_then ?_
        refine J.cond_false rfl ?_
        refine J.skip ?_
        refine J.n_then ?_
        refine J.seq ?_
        refine J.region ?_
        refine J.op (Yd.move rfl) rfl ?_
        refine J.op (Yd.assign rfl) rfl ?_
        refine J.nil ?_
        refine J.n_then ?_
        refine J.seq ?_
        refine J.seq ?_
        refine J.region ?_
        refine J.op (Yd.move rfl) rfl ?_
        refine J.op (Yd.gtr rfl rfl) rfl ?_
        refine J.nil ?_
        refine J.n_then ?_
        refine J.cond_dec rfl (fun hc2 => ?_) (fun hc2 => ?_)
        · skip
          refine J.region ?_
          refine J.op (Yd.assign rfl) rfl ?_
          refine J.nil ?_
          refine J.n_then ?_
          refine J.seq ?_
          refine J.region ?_
          refine J.op (Yd.move rfl) rfl ?_
          refine J.eff (Ye.call cl17 rfl (Shake128_ok (Rl.nil0 _) (by decide))) rfl ?_
          rintro s27_4 w4 ⟨os27_4, x1⟩
          have ap_b20_3_s27_4 : Ap (some b20_3) s27_4.ownBlock := Ap.mk (Cel.live cb20_3) (Ow.fr os27_4)
          have ap_p20_3_s27_4 : Ap (some p20_3) s27_4.ownBlock := Ap.mk (Cel.live cp20_3) (Ow.fr os27_4)
          have fr_s27_4 : Fr w.heap.size s27_4.ownBlock := Fr.le (Ow.fr os27_4) e0.size
          replace os27_4 := Ow.base os27_4 e0.size
          have e0 := e0.trans x1
          have cb20_3 := cb20_3.ext x1
          have cp20_3 := cp20_3.ext x1
          clear x1
          refine J.op (Yd.len_b Try.underlying31 rfl (Ow.rd os27_4)) rfl ?_
          refine J.op (Yd.move rfl) rfl ?_
          refine J.op (Yd.eql rfl rfl) rfl ?_
          refine J.op (Yd.move rfl) rfl ?_
          refine J.know (t := 31) (v' := .bool true) rfl (tt (by rw [sqL_len, lim_law])) ?_
          refine J.op_g rfl rfl rfl (Yd.move rfl) rfl ?_
          refine J.eff_g rfl rfl rfl (Ye.call cl19 rfl (Shake256_ok (Rl.nil0 _) (by decide))) rfl ?_
          rintro s33_5 w5 ⟨os33_5, x1⟩
          have ap_b20_3_s33_5 : Ap (some b20_3) s33_5.ownBlock := Ap.mk (Cel.live cb20_3) (Ow.fr os33_5)
          have ap_p20_3_s33_5 : Ap (some p20_3) s33_5.ownBlock := Ap.mk (Cel.live cp20_3) (Ow.fr os33_5)
          have ap_s27_4_s33_5 : Ap s27_4.ownBlock s33_5.ownBlock := Ap.mk (Ow.live os27_4) (Ow.fr os33_5)
          have fr_s33_5 : Fr w.heap.size s33_5.ownBlock := Fr.le (Ow.fr os33_5) e0.size
          replace os33_5 := Ow.base os33_5 e0.size
          have e0 := e0.trans x1
          have cb20_3 := cb20_3.ext x1
          have cp20_3 := cp20_3.ext x1
          have os27_4 := os27_4.ext x1
          clear x1
          refine J.op_g rfl rfl rfl (Yd.len_b Try.underlying31 rfl (Ow.rd os33_5)) rfl ?_
          refine J.op_g rfl rfl rfl (Yd.move rfl) rfl ?_
          refine J.op_g rfl rfl rfl (Yd.eql rfl rfl) rfl ?_
          refine J.op (Yd.pick_t rfl rfl) rfl ?_
          refine J.op (Yd.move rfl) rfl ?_
          refine J.know (t := 38) (v' := .bool true) rfl (tt (by rw [sqL_len, lim_law])) ?_
          refine J.op_g rfl rfl rfl (Yd.move rfl) rfl ?_
          refine J.op_g rfl rfl rfl (Yd.move rfl) rfl ?_
          refine J.eff_g rfl rfl rfl (Ye.call cl21 rfl (RRead_ok (soakK_len _ _ _) cb20_3 cp20_3 ap_p20_3_b20_3)) rfl ?_
          rintro v41_6 w6 ⟨ov41_6, cX1, x1⟩
          have ap_b20_3_v41_6 : Ap (some b20_3) v41_6.ownBlock := Ap.mk (Cel.live cb20_3) (Ow.fr ov41_6)
          have ap_p20_3_v41_6 : Ap (some p20_3) v41_6.ownBlock := Ap.mk (Cel.live cp20_3) (Ow.fr ov41_6)
          have ap_s27_4_v41_6 : Ap s27_4.ownBlock v41_6.ownBlock := Ap.mk (Ow.live os27_4) (Ow.fr ov41_6)
          have ap_s33_5_v41_6 : Ap s33_5.ownBlock v41_6.ownBlock := Ap.mk (Ow.live os33_5) (Ow.fr ov41_6)
          have fr_v41_6 : Fr w.heap.size v41_6.ownBlock := Fr.le (Ow.fr ov41_6) e0.size
          replace ov41_6 := Ow.base ov41_6 e0.size
          have cb20_3 := Cel.tnk cb20_3 x1 (ApL.one (Ap.symm ap_p20_3_b20_3))
          have os27_4 := Ow.tnk os27_4 x1 (ApL.one (Ap.symm ap_p20_3_s27_4))
          have os33_5 := Ow.tnk os33_5 x1 (ApL.one (Ap.symm ap_p20_3_s33_5))
          have e0 := Ext.tnk e0 (fun q hq => by simp only [List.mem_singleton] at hq; subst hq; exact fr_p20_3) x1
          clear x1
          replace cp20_3 := cX1
          clear cX1
          refine J.op_g rfl rfl rfl (Yd.len_b Try.underlying31 rfl (Ow.rd ov41_6)) rfl ?_
          refine J.op_g rfl rfl rfl (Yd.move rfl) rfl ?_
          refine J.op_g rfl rfl rfl (Yd.eql rfl rfl) rfl ?_
          refine J.op (Yd.pick_t rfl rfl) rfl ?_
          refine J.op (Yd.move rfl) rfl ?_
          refine J.know (t := 46) (v' := .bool true) rfl (tt (by rw [sqF_len]; first | (rw [rd_lim n (by omega), lim_law]; done) | (rw [rdN_no (by omega)]; rfl))) ?_
          refine J.eff_g rfl rfl rfl (Ye.call cl11 rfl (awake_ok)) rfl ?_
          rintro _ w7 ⟨rfl, x1⟩
          have e0 := e0.trans x1
          have cb20_3 := cb20_3.ext x1
          have cp20_3 := cp20_3.ext x1
          have os27_4 := os27_4.ext x1
          have os33_5 := os33_5.ext x1
          have ov41_6 := ov41_6.ext x1
          clear x1
          refine J.op (Yd.pick_t rfl rfl) rfl ?_
          refine J.op (Yd.assign rfl) rfl ?_
          refine J.nil ?_
          refine J.n_then ?_
          refine J.ret ?_
          exact J.ret1 rfl rfl (⟨_, rfl, rfl, e0⟩)
        · skip
          refine J.skip ?_
          refine J.n_then ?_
          refine J.seq ?_
          refine J.region ?_
          refine J.op (Yd.move rfl) rfl ?_
          refine J.eff (Ye.call cl17 rfl (Shake128_ok (Rl.nil0 _) (by decide))) rfl ?_
          rintro s27_8 w8 ⟨os27_8, x1⟩
          have ap_b20_3_s27_8 : Ap (some b20_3) s27_8.ownBlock := Ap.mk (Cel.live cb20_3) (Ow.fr os27_8)
          have ap_p20_3_s27_8 : Ap (some p20_3) s27_8.ownBlock := Ap.mk (Cel.live cp20_3) (Ow.fr os27_8)
          have fr_s27_8 : Fr w.heap.size s27_8.ownBlock := Fr.le (Ow.fr os27_8) e0.size
          replace os27_8 := Ow.base os27_8 e0.size
          have e0 := e0.trans x1
          have cb20_3 := cb20_3.ext x1
          have cp20_3 := cp20_3.ext x1
          clear x1
          refine J.op (Yd.len_b Try.underlying31 rfl (Ow.rd os27_8)) rfl ?_
          refine J.op (Yd.move rfl) rfl ?_
          refine J.op (Yd.eql rfl rfl) rfl ?_
          refine J.op (Yd.move rfl) rfl ?_
          refine J.know (t := 31) (v' := .bool true) rfl (tt (by rw [sqL_len, lim_law])) ?_
          refine J.op_g rfl rfl rfl (Yd.move rfl) rfl ?_
          refine J.eff_g rfl rfl rfl (Ye.call cl19 rfl (Shake256_ok (Rl.nil0 _) (by decide))) rfl ?_
          rintro s33_9 w9 ⟨os33_9, x1⟩
          have ap_b20_3_s33_9 : Ap (some b20_3) s33_9.ownBlock := Ap.mk (Cel.live cb20_3) (Ow.fr os33_9)
          have ap_p20_3_s33_9 : Ap (some p20_3) s33_9.ownBlock := Ap.mk (Cel.live cp20_3) (Ow.fr os33_9)
          have ap_s27_8_s33_9 : Ap s27_8.ownBlock s33_9.ownBlock := Ap.mk (Ow.live os27_8) (Ow.fr os33_9)
          have fr_s33_9 : Fr w.heap.size s33_9.ownBlock := Fr.le (Ow.fr os33_9) e0.size
          replace os33_9 := Ow.base os33_9 e0.size
          have e0 := e0.trans x1
          have cb20_3 := cb20_3.ext x1
          have cp20_3 := cp20_3.ext x1
          have os27_8 := os27_8.ext x1
          clear x1
          refine J.op_g rfl rfl rfl (Yd.len_b Try.underlying31 rfl (Ow.rd os33_9)) rfl ?_
          refine J.op_g rfl rfl rfl (Yd.move rfl) rfl ?_
          refine J.op_g rfl rfl rfl (Yd.eql rfl rfl) rfl ?_
          refine J.op (Yd.pick_t rfl rfl) rfl ?_
          refine J.op (Yd.move rfl) rfl ?_
          refine J.know (t := 38) (v' := .bool true) rfl (tt (by rw [sqL_len, lim_law])) ?_
          refine J.op_g rfl rfl rfl (Yd.move rfl) rfl ?_
          refine J.op_g rfl rfl rfl (Yd.move rfl) rfl ?_
          refine J.eff_g rfl rfl rfl (Ye.call cl21 rfl (RRead_ok (soakK_len _ _ _) cb20_3 cp20_3 ap_p20_3_b20_3)) rfl ?_
          rintro v41_10 w10 ⟨ov41_10, cX1, x1⟩
          have ap_b20_3_v41_10 : Ap (some b20_3) v41_10.ownBlock := Ap.mk (Cel.live cb20_3) (Ow.fr ov41_10)
          have ap_p20_3_v41_10 : Ap (some p20_3) v41_10.ownBlock := Ap.mk (Cel.live cp20_3) (Ow.fr ov41_10)
          have ap_s27_8_v41_10 : Ap s27_8.ownBlock v41_10.ownBlock := Ap.mk (Ow.live os27_8) (Ow.fr ov41_10)
          have ap_s33_9_v41_10 : Ap s33_9.ownBlock v41_10.ownBlock := Ap.mk (Ow.live os33_9) (Ow.fr ov41_10)
          have fr_v41_10 : Fr w.heap.size v41_10.ownBlock := Fr.le (Ow.fr ov41_10) e0.size
          replace ov41_10 := Ow.base ov41_10 e0.size
          have cb20_3 := Cel.tnk cb20_3 x1 (ApL.one (Ap.symm ap_p20_3_b20_3))
          have os27_8 := Ow.tnk os27_8 x1 (ApL.one (Ap.symm ap_p20_3_s27_8))
          have os33_9 := Ow.tnk os33_9 x1 (ApL.one (Ap.symm ap_p20_3_s33_9))
          have e0 := Ext.tnk e0 (fun q hq => by simp only [List.mem_singleton] at hq; subst hq; exact fr_p20_3) x1
          clear x1
          replace cp20_3 := cX1
          clear cX1
          refine J.op_g rfl rfl rfl (Yd.len_b Try.underlying31 rfl (Ow.rd ov41_10)) rfl ?_
          refine J.op_g rfl rfl rfl (Yd.move rfl) rfl ?_
          refine J.op_g rfl rfl rfl (Yd.eql rfl rfl) rfl ?_
          refine J.op (Yd.pick_t rfl rfl) rfl ?_
          refine J.op (Yd.move rfl) rfl ?_
          refine J.know (t := 46) (v' := .bool true) rfl (tt (by rw [sqF_len]; first | (rw [rd_lim n (by omega), lim_law]; done) | (rw [rdN_no (by omega)]; rfl))) ?_
          refine J.eff_g rfl rfl rfl (Ye.call cl11 rfl (awake_ok)) rfl ?_
          rintro _ w11 ⟨rfl, x1⟩
          have e0 := e0.trans x1
          have cb20_3 := cb20_3.ext x1
          have cp20_3 := cp20_3.ext x1
          have os27_8 := os27_8.ext x1
          have os33_9 := os33_9.ext x1
          have ov41_10 := ov41_10.ext x1
          clear x1
          refine J.op (Yd.pick_t rfl rfl) rfl ?_
          refine J.op (Yd.assign rfl) rfl ?_
          refine J.nil ?_
          refine J.n_then ?_
          refine J.ret ?_
          exact J.ret1 rfl rfl (⟨_, rfl, rfl, e0⟩)
    · skip
      refine J.not_g rfl rfl rfl rfl rfl ?_
      refine J.not_g rfl rfl rfl rfl rfl ?_
      refine J.op_g rfl rfl rfl (Yd.pick_f rfl rfl) rfl ?_
      refine J.op (Yd.pick_f rfl rfl) rfl ?_
      refine J.nil ?_
      refine J.n_then ?_
      refine J.cond_false rfl ?_
      refine J.skip ?_
      refine J.n_then ?_
      refine J.seq ?_
      refine J.region ?_
      refine J.op (Yd.move rfl) rfl ?_
      refine J.op (Yd.maxi rfl rfl) rfl ?_
      refine J.op (Yd.mini rfl rfl) rfl ?_
      refine J.op (Yd.assign rfl) rfl ?_
      refine J.nil ?_
      refine J.n_then ?_
      refine J.seq ?_
      refine J.region ?_
      refine J.eff (Ye.call cl20 rfl (NewReader_ok (Rl.nil0 _) (by decide))) rfl ?_
      rintro _ w12 ⟨b20_12, p20_12, rfl, hb_b20_12, hb_p20_12, ap_p20_12_b20_12, cb20_12, cp20_12, x1⟩
      have fr_b20_12 : Fr w.heap.size (some b20_12) := Fr.le (Fr.blk hb_b20_12) e0.size
      have fr_p20_12 : Fr w.heap.size (some p20_12) := Fr.le (Fr.blk hb_p20_12) e0.size
      have e0 := e0.trans x1
      clear x1
      refine J.op (Yd.assign rfl) rfl ?_
      refine J.nil ?_
      refine J.n_then ?_
      refine J.seq ?_
      refine J.seq ?_
      refine J.region ?_
      refine J.op (Yd.move rfl) rfl ?_
      refine J.op (Yd.cast (Yd.eqPn Try.underlying39 rfl rfl) (show _ = Value.bool false from rfl)) rfl ?_
      refine J.nil ?_
      refine J.n_then ?_
      refine J.cond_false rfl ?_
      refine J.skip ?_
      refine J.n_then ?_
      refine J.seq ?_
      refine J.region ?_
      refine J.op (Yd.move rfl) rfl ?_
      refine J.op (Yd.assign rfl) rfl ?_
      refine J.nil ?_
      refine J.n_then ?_
      refine J.seq ?_
      refine J.seq ?_
      refine J.region ?_
      refine J.op (Yd.move rfl) rfl ?_
      refine J.op (Yd.gtr rfl rfl) rfl ?_
      refine J.nil ?_
      refine J.n_then ?_
      refine J.cond_dec rfl (fun hc2 => ?_) (fun hc2 => ?_)
      · skip
        refine J.region ?_
        refine J.op (Yd.assign rfl) rfl ?_
        refine J.nil ?_
        refine J.n_then ?_
        refine J.seq ?_
        refine J.region ?_
        refine J.op (Yd.move rfl) rfl ?_
        refine J.eff (Ye.call cl17 rfl (Shake128_ok (Rl.nil0 _) (by decide))) rfl ?_
        rintro s27_13 w13 ⟨os27_13, x1⟩
        have ap_b20_12_s27_13 : Ap (some b20_12) s27_13.ownBlock := Ap.mk (Cel.live cb20_12) (Ow.fr os27_13)
        have ap_p20_12_s27_13 : Ap (some p20_12) s27_13.ownBlock := Ap.mk (Cel.live cp20_12) (Ow.fr os27_13)
        have fr_s27_13 : Fr w.heap.size s27_13.ownBlock := Fr.le (Ow.fr os27_13) e0.size
        replace os27_13 := Ow.base os27_13 e0.size
        have e0 := e0.trans x1
        have cb20_12 := cb20_12.ext x1
        have cp20_12 := cp20_12.ext x1
        clear x1
        refine J.op (Yd.len_b Try.underlying31 rfl (Ow.rd os27_13)) rfl ?_
        refine J.op (Yd.move rfl) rfl ?_
        refine J.op (Yd.eql rfl rfl) rfl ?_
        refine J.op (Yd.move rfl) rfl ?_
        refine J.know (t := 31) (v' := .bool true) rfl (tt (by rw [sqL_len, lim_law])) ?_
        refine J.op_g rfl rfl rfl (Yd.move rfl) rfl ?_
        refine J.eff_g rfl rfl rfl (Ye.call cl19 rfl (Shake256_ok (Rl.nil0 _) (by decide))) rfl ?_
        rintro s33_14 w14 ⟨os33_14, x1⟩
        have ap_b20_12_s33_14 : Ap (some b20_12) s33_14.ownBlock := Ap.mk (Cel.live cb20_12) (Ow.fr os33_14)
        have ap_p20_12_s33_14 : Ap (some p20_12) s33_14.ownBlock := Ap.mk (Cel.live cp20_12) (Ow.fr os33_14)
        have ap_s27_13_s33_14 : Ap s27_13.ownBlock s33_14.ownBlock := Ap.mk (Ow.live os27_13) (Ow.fr os33_14)
        have fr_s33_14 : Fr w.heap.size s33_14.ownBlock := Fr.le (Ow.fr os33_14) e0.size
        replace os33_14 := Ow.base os33_14 e0.size
        have e0 := e0.trans x1
        have cb20_12 := cb20_12.ext x1
        have cp20_12 := cp20_12.ext x1
        have os27_13 := os27_13.ext x1
        clear x1
        refine J.op_g rfl rfl rfl (Yd.len_b Try.underlying31 rfl (Ow.rd os33_14)) rfl ?_
        refine J.op_g rfl rfl rfl (Yd.move rfl) rfl ?_
        refine J.op_g rfl rfl rfl (Yd.eql rfl rfl) rfl ?_
        refine J.op (Yd.pick_t rfl rfl) rfl ?_
        refine J.op (Yd.move rfl) rfl ?_
        refine J.know (t := 38) (v' := .bool true) rfl (tt (by rw [sqL_len, lim_law])) ?_
        refine J.op_g rfl rfl rfl (Yd.move rfl) rfl ?_
        refine J.op_g rfl rfl rfl (Yd.move rfl) rfl ?_
        refine J.eff_g rfl rfl rfl (Ye.call cl21 rfl (RRead_ok (soakK_len _ _ _) cb20_12 cp20_12 ap_p20_12_b20_12)) rfl ?_
        rintro v41_15 w15 ⟨ov41_15, cX1, x1⟩
        have ap_b20_12_v41_15 : Ap (some b20_12) v41_15.ownBlock := Ap.mk (Cel.live cb20_12) (Ow.fr ov41_15)
        have ap_p20_12_v41_15 : Ap (some p20_12) v41_15.ownBlock := Ap.mk (Cel.live cp20_12) (Ow.fr ov41_15)
        have ap_s27_13_v41_15 : Ap s27_13.ownBlock v41_15.ownBlock := Ap.mk (Ow.live os27_13) (Ow.fr ov41_15)
        have ap_s33_14_v41_15 : Ap s33_14.ownBlock v41_15.ownBlock := Ap.mk (Ow.live os33_14) (Ow.fr ov41_15)
        have fr_v41_15 : Fr w.heap.size v41_15.ownBlock := Fr.le (Ow.fr ov41_15) e0.size
        replace ov41_15 := Ow.base ov41_15 e0.size
        have cb20_12 := Cel.tnk cb20_12 x1 (ApL.one (Ap.symm ap_p20_12_b20_12))
        have os27_13 := Ow.tnk os27_13 x1 (ApL.one (Ap.symm ap_p20_12_s27_13))
        have os33_14 := Ow.tnk os33_14 x1 (ApL.one (Ap.symm ap_p20_12_s33_14))
        have e0 := Ext.tnk e0 (fun q hq => by simp only [List.mem_singleton] at hq; subst hq; exact fr_p20_12) x1
        clear x1
        replace cp20_12 := cX1
        clear cX1
        refine J.op_g rfl rfl rfl (Yd.len_b Try.underlying31 rfl (Ow.rd ov41_15)) rfl ?_
        refine J.op_g rfl rfl rfl (Yd.move rfl) rfl ?_
        refine J.op_g rfl rfl rfl (Yd.eql rfl rfl) rfl ?_
        refine J.op (Yd.pick_t rfl rfl) rfl ?_
        refine J.op (Yd.move rfl) rfl ?_
        refine J.know (t := 46) (v' := .bool true) rfl (tt (by rw [sqF_len]; first | (rw [rd_lim n (by omega), lim_law]; done) | (rw [rdN_no (by omega)]; rfl))) ?_
        refine J.eff_g rfl rfl rfl (Ye.call cl11 rfl (awake_ok)) rfl ?_
        rintro _ w16 ⟨rfl, x1⟩
        have e0 := e0.trans x1
        have cb20_12 := cb20_12.ext x1
        have cp20_12 := cp20_12.ext x1
        have os27_13 := os27_13.ext x1
        have os33_14 := os33_14.ext x1
        have ov41_15 := ov41_15.ext x1
        clear x1
        refine J.op (Yd.pick_t rfl rfl) rfl ?_
        refine J.op (Yd.assign rfl) rfl ?_
        refine J.nil ?_
        refine J.n_then ?_
        refine J.ret ?_
        exact J.ret1 rfl rfl (⟨_, rfl, rfl, e0⟩)
      · skip
        refine J.skip ?_
        refine J.n_then ?_
        refine J.seq ?_
        refine J.region ?_
        refine J.op (Yd.move rfl) rfl ?_
        refine J.eff (Ye.call cl17 rfl (Shake128_ok (Rl.nil0 _) (by decide))) rfl ?_
        rintro s27_17 w17 ⟨os27_17, x1⟩
        have ap_b20_12_s27_17 : Ap (some b20_12) s27_17.ownBlock := Ap.mk (Cel.live cb20_12) (Ow.fr os27_17)
        have ap_p20_12_s27_17 : Ap (some p20_12) s27_17.ownBlock := Ap.mk (Cel.live cp20_12) (Ow.fr os27_17)
        have fr_s27_17 : Fr w.heap.size s27_17.ownBlock := Fr.le (Ow.fr os27_17) e0.size
        replace os27_17 := Ow.base os27_17 e0.size
        have e0 := e0.trans x1
        have cb20_12 := cb20_12.ext x1
        have cp20_12 := cp20_12.ext x1
        clear x1
        refine J.op (Yd.len_b Try.underlying31 rfl (Ow.rd os27_17)) rfl ?_
        refine J.op (Yd.move rfl) rfl ?_
        refine J.op (Yd.eql rfl rfl) rfl ?_
        refine J.op (Yd.move rfl) rfl ?_
        refine J.know (t := 31) (v' := .bool true) rfl (tt (by rw [sqL_len, lim_law])) ?_
        refine J.op_g rfl rfl rfl (Yd.move rfl) rfl ?_
        refine J.eff_g rfl rfl rfl (Ye.call cl19 rfl (Shake256_ok (Rl.nil0 _) (by decide))) rfl ?_
        rintro s33_18 w18 ⟨os33_18, x1⟩
        have ap_b20_12_s33_18 : Ap (some b20_12) s33_18.ownBlock := Ap.mk (Cel.live cb20_12) (Ow.fr os33_18)
        have ap_p20_12_s33_18 : Ap (some p20_12) s33_18.ownBlock := Ap.mk (Cel.live cp20_12) (Ow.fr os33_18)
        have ap_s27_17_s33_18 : Ap s27_17.ownBlock s33_18.ownBlock := Ap.mk (Ow.live os27_17) (Ow.fr os33_18)
        have fr_s33_18 : Fr w.heap.size s33_18.ownBlock := Fr.le (Ow.fr os33_18) e0.size
        replace os33_18 := Ow.base os33_18 e0.size
        have e0 := e0.trans x1
        have cb20_12 := cb20_12.ext x1
        have cp20_12 := cp20_12.ext x1
        have os27_17 := os27_17.ext x1
        clear x1
        refine J.op_g rfl rfl rfl (Yd.len_b Try.underlying31 rfl (Ow.rd os33_18)) rfl ?_
        refine J.op_g rfl rfl rfl (Yd.move rfl) rfl ?_
        refine J.op_g rfl rfl rfl (Yd.eql rfl rfl) rfl ?_
        refine J.op (Yd.pick_t rfl rfl) rfl ?_
        refine J.op (Yd.move rfl) rfl ?_
        refine J.know (t := 38) (v' := .bool true) rfl (tt (by rw [sqL_len, lim_law])) ?_
        refine J.op_g rfl rfl rfl (Yd.move rfl) rfl ?_
        refine J.op_g rfl rfl rfl (Yd.move rfl) rfl ?_
        refine J.eff_g rfl rfl rfl (Ye.call cl21 rfl (RRead_ok (soakK_len _ _ _) cb20_12 cp20_12 ap_p20_12_b20_12)) rfl ?_
        rintro v41_19 w19 ⟨ov41_19, cX1, x1⟩
        have ap_b20_12_v41_19 : Ap (some b20_12) v41_19.ownBlock := Ap.mk (Cel.live cb20_12) (Ow.fr ov41_19)
        have ap_p20_12_v41_19 : Ap (some p20_12) v41_19.ownBlock := Ap.mk (Cel.live cp20_12) (Ow.fr ov41_19)
        have ap_s27_17_v41_19 : Ap s27_17.ownBlock v41_19.ownBlock := Ap.mk (Ow.live os27_17) (Ow.fr ov41_19)
        have ap_s33_18_v41_19 : Ap s33_18.ownBlock v41_19.ownBlock := Ap.mk (Ow.live os33_18) (Ow.fr ov41_19)
        have fr_v41_19 : Fr w.heap.size v41_19.ownBlock := Fr.le (Ow.fr ov41_19) e0.size
        replace ov41_19 := Ow.base ov41_19 e0.size
        have cb20_12 := Cel.tnk cb20_12 x1 (ApL.one (Ap.symm ap_p20_12_b20_12))
        have os27_17 := Ow.tnk os27_17 x1 (ApL.one (Ap.symm ap_p20_12_s27_17))
        have os33_18 := Ow.tnk os33_18 x1 (ApL.one (Ap.symm ap_p20_12_s33_18))
        have e0 := Ext.tnk e0 (fun q hq => by simp only [List.mem_singleton] at hq; subst hq; exact fr_p20_12) x1
        clear x1
        replace cp20_12 := cX1
        clear cX1
        refine J.op_g rfl rfl rfl (Yd.len_b Try.underlying31 rfl (Ow.rd ov41_19)) rfl ?_
        refine J.op_g rfl rfl rfl (Yd.move rfl) rfl ?_
        refine J.op_g rfl rfl rfl (Yd.eql rfl rfl) rfl ?_
        refine J.op (Yd.pick_t rfl rfl) rfl ?_
        refine J.op (Yd.move rfl) rfl ?_
        refine J.know (t := 46) (v' := .bool true) rfl (tt (by rw [sqF_len]; first | (rw [rd_lim n (by omega), lim_law]; done) | (rw [rdN_no (by omega)]; rfl))) ?_
        refine J.eff_g rfl rfl rfl (Ye.call cl11 rfl (awake_ok)) rfl ?_
        rintro _ w20 ⟨rfl, x1⟩
        have e0 := e0.trans x1
        have cb20_12 := cb20_12.ext x1
        have cp20_12 := cp20_12.ext x1
        have os27_17 := os27_17.ext x1
        have os33_18 := os33_18.ext x1
        have ov41_19 := ov41_19.ext x1
        clear x1
        refine J.op (Yd.pick_t rfl rfl) rfl ?_
        refine J.op (Yd.assign rfl) rfl ?_
        refine J.nil ?_
        refine J.n_then ?_
        refine J.ret ?_
        exact J.ret1 rfl rfl (⟨_, rfl, rfl, e0⟩)
end Ytpcbkeikhojmbaa
end Go.Proofs
