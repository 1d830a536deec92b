import Derived.Test.YtbklhpdfbdhoeaaT
import Derived.Test.YtbklhpdfbdhoeaaA9
set_option linter.unusedVariables false
set_option linter.unusedSimpArgs false
set_option maxRecDepth 100000
set_option maxHeartbeats 4000000
namespace Go.Proofs
open Go.X Go.RowKit
namespace Ytbklhpdfbdhoeaa
theorem AesBlocks_ok {a v : Value} {key l : List UInt8} {x : UInt8} {w : World} (hk : Bs w a key) (hb : Bs w v l) : C Try.prog 3 [a, v, B x] w (Ret fun v w' => v = .bool true ∧ Ext w w') := by
  have e0 := Ext.refl w
  refine C.enter Try.func3 rfl Try.ntmps3 rfl ?_
  refine J.seq ?_
  refine J.region ?_
  refine J.op (Yd.assign rfl) rfl ?_
  refine J.nil ?_
  refine J.n_then ?_
  refine J.seq ?_
  refine J.seq ?_
  refine J.region ?_
  refine J.op (Yd.move rfl) rfl ?_
  refine J.op (Yd.len_b Try.underlying22 rfl hk) rfl ?_
  refine J.op (Yd.gtr rfl rfl) rfl ?_
  refine J.op (Yd.move rfl) rfl ?_
  refine J.split_dec (t := 14) rfl (fun h1 => ?_) (fun h1 => ?_)
  · skip
    refine J.not_g rfl rfl rfl rfl rfl ?_
    refine J.not_g rfl rfl rfl rfl rfl ?_
    refine J.not_g rfl rfl rfl rfl rfl ?_
    refine J.op (Yd.pick_t rfl rfl) rfl ?_
    refine J.nil ?_
    refine J.n_then ?_
    refine J.cond_true rfl ?_
    refine J.seq ?_
    refine J.region ?_
    refine J.eff (Ye.call cl9 rfl (awake_ok)) rfl ?_
    rintro _ w1 ⟨rfl, x1⟩
    have e0 := e0.trans x1
    clear x1
    refine J.op (Yd.assign rfl) rfl ?_
    refine J.nil ?_
    refine J.n_then ?_
    refine J.ret ?_
    refine J.r_then ?_
    exact J.ret1 rfl rfl (⟨_, rfl, rfl, e0⟩)
  · skip
    refine J.op_g rfl rfl rfl (Yd.move rfl) rfl ?_
    refine J.op_g rfl rfl rfl (Yd.len_b Try.underlying22 rfl hb) rfl ?_
    refine J.op_g rfl rfl rfl (Yd.gtr rfl rfl) rfl ?_
    refine J.op (Yd.pick_f rfl rfl) rfl ?_
    refine J.nil ?_
    refine J.n_then ?_
    refine J.cond_dec rfl (fun hc0 => ?_) (fun hc0 => ?_)
    · skip
      refine J.seq ?_
      refine J.region ?_
      refine J.eff (Ye.call cl9 rfl (awake_ok)) rfl ?_
      rintro _ w2 ⟨rfl, x1⟩
      have e0 := e0.trans x1
      clear x1
      refine J.op (Yd.assign rfl) rfl ?_
      refine J.nil ?_
      refine J.n_then ?_
      refine J.ret ?_
      refine J.r_then ?_
      exact J.ret1 rfl rfl (⟨_, rfl, rfl, e0⟩)
    · skip
      refine J.skip ?_
      refine J.n_then ?_
      refine J.seq ?_
      refine J.region ?_
      refine J.op (Yd.move rfl) rfl ?_
      refine J.op (Yd.move rfl) rfl ?_
      refine J.eff (Ye.call cl10 rfl (Block_ok hk hb)) rfl ?_
      rintro _ w3 ⟨s23_3, rfl, rs23_3, x1⟩
      have e0 := e0.trans x1
      clear x1
      refine J.op (Yd.move rfl) rfl ?_
      refine J.op (Yd.extract rfl rfl) rfl ?_
      refine J.op (Yd.extract rfl rfl) rfl ?_
      refine J.op (Yd.assign rfl) rfl ?_
      refine J.op (Yd.assign rfl) rfl ?_
      refine J.nil ?_
      refine J.n_then ?_
      refine J.seq ?_
      refine J.region ?_
      refine J.op (Yd.move rfl) rfl ?_
      refine J.op (Yd.move rfl) rfl ?_
      refine J.eff (Ye.call cl11 rfl (RBlk_ok (Rd.ext hk e0) (Rd.ext hb e0))) rfl ?_
      rintro _ w4 ⟨s29_4, rfl, rs29_4, x1⟩
      have e0 := e0.trans x1
      have rs23_3 := rs23_3.ext x1
      clear x1
      refine J.op (Yd.move rfl) rfl ?_
      refine J.op (Yd.extract rfl rfl) rfl ?_
      refine J.op (Yd.extract rfl rfl) rfl ?_
      refine J.op (Yd.assign rfl) rfl ?_
      refine J.op (Yd.assign rfl) rfl ?_
      refine J.nil ?_
      refine J.n_then ?_
      refine J.seq ?_
      refine J.region ?_
      refine J.op (Yd.move rfl) rfl ?_
      refine J.op (Yd.bstr Try.underlying22 Try.underlying5 Try.underlying9 rfl rs23_3) rfl ?_
      refine J.op (Yd.move rfl) rfl ?_
      refine J.op (Yd.bstr Try.underlying22 Try.underlying5 Try.underlying9 rfl rs29_4) rfl ?_
      refine J.op (Yd.seq rfl rfl) rfl ?_
      refine J.op (Yd.move rfl) rfl ?_
      refine J.know (t := 37) (v' := .bool true) rfl (tt (by rfl)) ?_
      refine J.op_g rfl rfl rfl (Yd.move rfl) rfl ?_
      refine J.op_g rfl rfl rfl (Yd.move rfl) rfl ?_
      refine J.op_g rfl rfl rfl (Yd.eql rfl rfl) rfl ?_
      refine J.op (Yd.pick_t rfl rfl) rfl ?_
      refine J.op (Yd.move rfl) rfl ?_
      refine J.know (t := 42) (v' := .bool true) rfl (tt (by rfl)) ?_
      refine J.op_g rfl rfl rfl (Yd.move rfl) rfl ?_
      refine J.eff_g rfl rfl rfl (Ye.call cl12 rfl (Box_ok)) rfl ?_
      rintro _ w5 ⟨rfl, x1⟩
      have e0 := e0.trans x1
      have rs23_3 := rs23_3.ext x1
      have rs29_4 := rs29_4.ext x1
      clear x1
      refine J.op_g rfl rfl rfl (Yd.move rfl) rfl ?_
      refine J.eff_g rfl rfl rfl (Ye.call cl13 rfl (RBox_ok)) rfl ?_
      rintro _ w6 ⟨rfl, x1⟩
      have e0 := e0.trans x1
      have rs23_3 := rs23_3.ext x1
      have rs29_4 := rs29_4.ext x1
      clear x1
      refine J.op_g rfl rfl rfl (Yd.eql rfl rfl) rfl ?_
      refine J.op (Yd.pick_t rfl rfl) rfl ?_
      refine J.op (Yd.move rfl) rfl ?_
      refine J.know (t := 49) (v' := .bool true) rfl (tt (by rfl)) ?_
      refine J.eff_g rfl rfl rfl (Ye.call cl9 rfl (awake_ok)) rfl ?_
      rintro _ w7 ⟨rfl, x1⟩
      have e0 := e0.trans x1
      have rs23_3 := rs23_3.ext x1
      have rs29_4 := rs29_4.ext x1
      clear x1
      refine J.op (Yd.pick_t rfl rfl) rfl ?_
      refine J.op (Yd.assign rfl) rfl ?_
      refine J.nil ?_
      refine J.n_then ?_
      refine J.ret ?_
      exact J.ret1 rfl rfl (⟨_, rfl, rfl, e0⟩)

theorem AesBoxes_ok {x y : UInt8} {w : World} : C Try.prog 4 [B x, B y] w (Ret fun v w' => v = .bool true ∧ Ext w w') := by
  have e0 := Ext.refl w
  refine C.enter Try.func4 rfl Try.ntmps4 rfl ?_
  refine J.seq ?_
  refine J.region ?_
  refine J.op (Yd.assign rfl) rfl ?_
  refine J.nil ?_
  refine J.n_then ?_
  refine J.seq ?_
  refine J.region ?_
  refine J.op (Yd.move rfl) rfl ?_
  refine J.eff (Ye.call cl12 rfl (Box_ok)) rfl ?_
  rintro _ w1 ⟨rfl, x1⟩
  have e0 := e0.trans x1
  clear x1
  refine J.op (Yd.move rfl) rfl ?_
  refine J.eff (Ye.call cl12 rfl (Box_ok)) rfl ?_
  rintro _ w2 ⟨rfl, x1⟩
  have e0 := e0.trans x1
  clear x1
  refine J.op (Yd.assign rfl) rfl ?_
  refine J.op (Yd.assign rfl) rfl ?_
  refine J.nil ?_
  refine J.n_then ?_
  refine J.seq ?_
  refine J.region ?_
  refine J.op (Yd.move rfl) rfl ?_
  refine J.op (Yd.move rfl) rfl ?_
  refine J.op (Yd.eql rfl rfl) rfl ?_
  refine J.op (Yd.move rfl) rfl ?_
  refine J.op (Yd.move rfl) rfl ?_
  refine J.op (Yd.eql rfl rfl) rfl ?_
  refine J.op (Yd.eqlb rfl rfl Try.underlying4) rfl ?_
  refine J.op (Yd.move rfl) rfl ?_
  refine J.know (t := 18) (v' := .bool true) rfl (tt (by exact box_iff x y)) ?_
  refine J.op_g rfl rfl rfl (Yd.move rfl) rfl ?_
  refine J.op_g rfl rfl rfl (Yd.move rfl) rfl ?_
  refine J.op_g rfl rfl rfl (Yd.neq rfl rfl) rfl ?_
  refine J.op (Yd.pick_t rfl rfl) rfl ?_
  refine J.op (Yd.move rfl) rfl ?_
  refine J.know (t := 23) (v' := .bool true) rfl (tt (by exact fun h => S8_ne x (by omega))) ?_
  refine J.op_g rfl rfl rfl (Yd.move rfl) rfl ?_
  refine J.op_g rfl rfl rfl (Yd.move rfl) rfl ?_
  refine J.op_g rfl rfl rfl (Yd.xor1_u8 rfl) rfl ?_
  refine J.op_g rfl rfl rfl (Yd.neq rfl rfl) rfl ?_
  refine J.op (Yd.pick_t rfl rfl) rfl ?_
  refine J.op (Yd.move rfl) rfl ?_
  refine J.know (t := 29) (v' := .bool true) rfl (tt (by exact fun h => S8_nn x (by omega))) ?_
  refine J.eff_g rfl rfl rfl (Ye.call cl9 rfl (awake_ok)) rfl ?_
  rintro _ w3 ⟨rfl, x1⟩
  have e0 := e0.trans x1
  clear x1
  refine J.op (Yd.pick_t rfl rfl) rfl ?_
  refine J.op (Yd.assign rfl) rfl ?_
  refine J.nil ?_
  refine J.n_then ?_
  refine J.ret ?_
  exact J.ret1 rfl rfl (⟨_, rfl, rfl, e0⟩)

theorem AesStreams_ok {a v u : Value} {key nonce m : List UInt8} {n : Int} {w : World} (hk : Bs w a key) (ho : Bs w v nonce) (hu : Bs w u m) : C Try.prog 6 [a, v, I n, u] w (Ret fun v w' => v = .bool true ∧ Ext w w') := by
  have e0 := Ext.refl w
  refine C.enter Try.func6 rfl Try.ntmps6 rfl ?_
  refine J.seq ?_
  refine J.region ?_
  refine J.op (Yd.assign rfl) rfl ?_
  refine J.nil ?_
  refine J.n_then ?_
  refine J.seq ?_
  refine J.seq ?_
  refine J.region ?_
  refine J.op (Yd.move rfl) rfl ?_
  refine J.op (Yd.len_b Try.underlying22 rfl hk) rfl ?_
  refine J.op (Yd.gtr rfl rfl) rfl ?_
  refine J.op (Yd.move rfl) rfl ?_
  refine J.split_dec (t := 20) rfl (fun h1 => ?_) (fun h1 => ?_)
  · skip
    refine J.not_g rfl rfl rfl rfl rfl ?_
    refine J.not_g rfl rfl rfl rfl rfl ?_
    refine J.not_g rfl rfl rfl rfl rfl ?_
    refine J.op (Yd.pick_t rfl rfl) rfl ?_
    refine J.op (Yd.move rfl) rfl ?_
    refine J.not_g rfl rfl rfl rfl rfl ?_
    refine J.not_g rfl rfl rfl rfl rfl ?_
    refine J.not_g rfl rfl rfl rfl rfl ?_
    refine J.not_u rfl rfl rfl rfl ?_
    refine J.not_u rfl rfl rfl rfl ?_
    refine J.not_g rfl rfl rfl rfl rfl ?_
    refine J.op (Yd.pick_t rfl rfl) rfl ?_
    refine J.op (Yd.move rfl) rfl ?_
    refine J.not_g rfl rfl rfl rfl rfl ?_
    refine J.not_g rfl rfl rfl rfl rfl ?_
    refine J.not_g rfl rfl rfl rfl rfl ?_
    refine J.op (Yd.pick_t rfl rfl) rfl ?_
    refine J.nil ?_
    refine J.n_then ?_
    refine J.cond_true rfl ?_
    refine J.seq ?_
    refine J.region ?_
    refine J.eff (Ye.call cl9 rfl (awake_ok)) rfl ?_
    rintro _ w1 ⟨rfl, x1⟩
    have e0 := e0.trans x1
    clear x1
    refine J.op (Yd.assign rfl) rfl ?_
    refine J.nil ?_
    refine J.n_then ?_
    refine J.ret ?_
    refine J.r_then ?_
    exact J.ret1 rfl rfl (⟨_, rfl, rfl, e0⟩)
  · skip
    refine J.op_g rfl rfl rfl (Yd.move rfl) rfl ?_
    refine J.op_g rfl rfl rfl (Yd.len_b Try.underlying22 rfl ho) rfl ?_
    refine J.op_g rfl rfl rfl (Yd.gtr rfl rfl) rfl ?_
    refine J.op (Yd.pick_f rfl rfl) rfl ?_
    refine J.op (Yd.move rfl) rfl ?_
    refine J.split_dec (t := 25) rfl (fun h2 => ?_) (fun h2 => ?_)
    · skip
      refine J.not_g rfl rfl rfl rfl rfl ?_
      refine J.not_g rfl rfl rfl rfl rfl ?_
      refine J.not_g rfl rfl rfl rfl rfl ?_
      refine J.not_u rfl rfl rfl rfl ?_
      refine J.not_u rfl rfl rfl rfl ?_
      refine J.not_g rfl rfl rfl rfl rfl ?_
      refine J.op (Yd.pick_t rfl rfl) rfl ?_
      refine J.op (Yd.move rfl) rfl ?_
      refine J.not_g rfl rfl rfl rfl rfl ?_
      refine J.not_g rfl rfl rfl rfl rfl ?_
      refine J.not_g rfl rfl rfl rfl rfl ?_
      refine J.op (Yd.pick_t rfl rfl) rfl ?_
      refine J.nil ?_
      refine J.n_then ?_
      refine J.cond_true rfl ?_
      refine J.seq ?_
      refine J.region ?_
      refine J.eff (Ye.call cl9 rfl (awake_ok)) rfl ?_
      rintro _ w2 ⟨rfl, x1⟩
      have e0 := e0.trans x1
      clear x1
      refine J.op (Yd.assign rfl) rfl ?_
      refine J.nil ?_
      refine J.n_then ?_
      refine J.ret ?_
      refine J.r_then ?_
      exact J.ret1 rfl rfl (⟨_, rfl, rfl, e0⟩)
    · skip
      refine J.op_g rfl rfl rfl (Yd.move rfl) rfl ?_
      refine J.op_g rfl rfl rfl (Yd.gtr rfl rfl) rfl ?_
      refine J.op_g rfl rfl rfl (Yd.move rfl) rfl ?_
      refine J.split_dec (t := 28) rfl (fun h3 => ?_) (fun h3 => ?_)
      · skip
        refine J.op_g rfl rfl rfl (Yd.move rfl) rfl ?_
        refine J.op_g rfl rfl rfl (Yd.leq rfl rfl) rfl ?_
        refine J.op_g rfl rfl rfl (Yd.pick_t rfl rfl) rfl ?_
        refine J.op (Yd.pick_f rfl rfl) rfl ?_
        refine J.op (Yd.move rfl) rfl ?_
        refine J.split_dec (t := 33) rfl (fun h4 => ?_) (fun h4 => ?_)
        · skip
          refine J.not_g rfl rfl rfl rfl rfl ?_
          refine J.not_g rfl rfl rfl rfl rfl ?_
          refine J.not_g rfl rfl rfl rfl rfl ?_
          refine J.op (Yd.pick_t rfl rfl) rfl ?_
          refine J.nil ?_
          refine J.n_then ?_
          refine J.cond_true rfl ?_
          refine J.seq ?_
          refine J.region ?_
          refine J.eff (Ye.call cl9 rfl (awake_ok)) rfl ?_
          rintro _ w3 ⟨rfl, x1⟩
          have e0 := e0.trans x1
          clear x1
          refine J.op (Yd.assign rfl) rfl ?_
          refine J.nil ?_
          refine J.n_then ?_
          refine J.ret ?_
          refine J.r_then ?_
          exact J.ret1 rfl rfl (⟨_, rfl, rfl, e0⟩)
        · skip
          refine J.op_g rfl rfl rfl (Yd.move rfl) rfl ?_
          refine J.op_g rfl rfl rfl (Yd.len_b Try.underlying22 rfl hu) rfl ?_
          refine J.op_g rfl rfl rfl (Yd.gtr rfl rfl) rfl ?_
          refine J.op (Yd.pick_f rfl rfl) rfl ?_
          refine J.nil ?_
          refine J.n_then ?_
          refine J.cond_dec rfl (fun hc0 => ?_) (fun hc0 => ?_)
          · skip
            refine J.seq ?_
            refine J.region ?_
            refine J.eff (Ye.call cl9 rfl (awake_ok)) rfl ?_
            rintro _ w4 ⟨rfl, x1⟩
            have e0 := e0.trans x1
            clear x1
            refine J.op (Yd.assign rfl) rfl ?_
            refine J.nil ?_
            refine J.n_then ?_
            refine J.ret ?_
            refine J.r_then ?_
            exact J.ret1 rfl rfl (⟨_, rfl, rfl, e0⟩)
          · skip
            refine J.skip ?_
            refine J.n_then ?_
            refine J.seq ?_
            refine J.region ?_
            refine J.op (Yd.move rfl) rfl ?_
            refine J.op (Yd.move rfl) rfl ?_
            refine J.op (Yd.move rfl) rfl ?_
            refine J.eff (Ye.call cl14 rfl (Stream_ok hk ho)) rfl ?_
            rintro _ w5 ⟨s43_5, rfl, rs43_5, x1⟩
            have e0 := e0.trans x1
            clear x1
            refine J.op (Yd.move rfl) rfl ?_
            refine J.op (Yd.extract rfl rfl) rfl ?_
            refine J.op (Yd.extract rfl rfl) rfl ?_
            refine J.op (Yd.assign rfl) rfl ?_
            refine J.op (Yd.assign rfl) rfl ?_
            refine J.nil ?_
            refine J.n_then ?_
            refine J.seq ?_
            refine J.region ?_
            refine J.op (Yd.move rfl) rfl ?_
            refine J.op (Yd.move rfl) rfl ?_
            refine J.op (Yd.move rfl) rfl ?_
            refine J.eff (Ye.call cl16 rfl (RStream_ok (Rd.ext hk e0) (Rd.ext ho e0))) rfl ?_
            rintro _ w6 ⟨s50_6, rfl, rs50_6, x1⟩
            have e0 := e0.trans x1
            have rs43_5 := rs43_5.ext x1
            clear x1
            refine J.op (Yd.move rfl) rfl ?_
            refine J.op (Yd.extract rfl rfl) rfl ?_
            refine J.op (Yd.extract rfl rfl) rfl ?_
            refine J.op (Yd.assign rfl) rfl ?_
            refine J.op (Yd.assign rfl) rfl ?_
            refine J.nil ?_
            refine J.n_then ?_
            refine J.seq ?_
            refine J.region ?_
            refine J.op (Yd.move rfl) rfl ?_
            refine J.op (Yd.move rfl) rfl ?_
            refine J.op (Yd.move rfl) rfl ?_
            refine J.eff (Ye.call cl17 rfl (Crypt_ok (Rd.ext hk e0) (Rd.ext ho e0) (Rd.ext hu e0))) rfl ?_
            rintro _ w7 ⟨s57_7, rfl, rs57_7, x1⟩
            have e0 := e0.trans x1
            have rs43_5 := rs43_5.ext x1
            have rs50_6 := rs50_6.ext x1
            clear x1
            refine J.op (Yd.move rfl) rfl ?_
            refine J.op (Yd.extract rfl rfl) rfl ?_
            refine J.op (Yd.extract rfl rfl) rfl ?_
            refine J.op (Yd.assign rfl) rfl ?_
            refine J.op (Yd.assign rfl) rfl ?_
            refine J.nil ?_
            refine J.n_then ?_
            refine J.seq ?_
            refine J.region ?_
            refine J.op (Yd.move rfl) rfl ?_
            refine J.op (Yd.move rfl) rfl ?_
            refine J.op (Yd.move rfl) rfl ?_
            refine J.op (Yd.len_b Try.underlying22 rfl (Rd.ext hu e0)) rfl ?_
            refine J.eff (Ye.call cl16 rfl (RStream_ok (Rd.ext hk e0) (Rd.ext ho e0))) rfl ?_
            rintro _ w8 ⟨s65_8, rfl, rs65_8, x1⟩
            have e0 := e0.trans x1
            have rs43_5 := rs43_5.ext x1
            have rs50_6 := rs50_6.ext x1
            have rs57_7 := rs57_7.ext x1
            clear x1
            refine J.op (Yd.move rfl) rfl ?_
            refine J.op (Yd.extract rfl rfl) rfl ?_
            refine J.op (Yd.extract rfl rfl) rfl ?_
            refine J.op (Yd.assign rfl) rfl ?_
            refine J.op (Yd.assign rfl) rfl ?_
            refine J.nil ?_
            refine J.n_then ?_
            refine J.seq ?_
            refine J.regionO [(0, true), (2, true)] [(1, 1), (3, 1), (4, 1), (5, 1), (6, 1), (7, 1), (8, 1), (9, 1), (10, 1), (11, 1), (12, 1), (13, 1), (14, 1), (15, 0), (16, 1)] [(17, true), (18, true), (19, true), (20, true), (21, true), (22, true), (23, true), (24, true), (25, false), (26, true), (27, true)] mix (by kernel_rfl) ?_
            refine J.s_op rfl (fun _ => Yd.move rfl) rfl ?_
            refine J.s_op rfl (fun _ => Yd.move rfl) rfl ?_
            refine J.s_nil ?_
            refine J.o_op rfl (Yd.bstr Try.underlying22 Try.underlying5 Try.underlying9 rfl rs43_5) rfl ?_
            refine J.o_op rfl (Yd.bstr Try.underlying22 Try.underlying5 Try.underlying9 rfl rs50_6) rfl ?_
            refine J.o_op rfl (Yd.seq rfl rfl) rfl ?_
            refine J.o_op rfl (Yd.move rfl) rfl ?_
            refine J.know (t := 73) (v' := .bool true) rfl (tt (by rfl)) ?_
            refine J.o_op_g rfl rfl rfl rfl (Yd.move rfl) rfl ?_
            refine J.o_op_g rfl rfl rfl rfl (Yd.move rfl) rfl ?_
            refine J.o_op_g rfl rfl rfl rfl (Yd.eql rfl rfl) rfl ?_
            refine J.o_op rfl (Yd.pick_t rfl rfl) rfl ?_
            refine J.o_op rfl (Yd.move rfl) rfl ?_
            refine J.know (t := 78) (v' := .bool true) rfl (tt (by rfl)) ?_
            refine J.o_op_g rfl rfl rfl rfl (Yd.move rfl) rfl ?_
            refine J.o_op_g rfl rfl rfl rfl (Yd.bstr Try.underlying22 Try.underlying5 Try.underlying9 rfl rs57_7) rfl ?_
            refine J.o_op_g rfl rfl rfl rfl (Yd.move rfl) rfl ?_
            refine J.o_op_g rfl rfl rfl rfl (Yd.move rfl) rfl ?_
            refine J.o_eff_g rfl rfl rfl rfl (Ye.call cl18 rfl (RXor_ok (Rd.ext hu e0) rs65_8 (by first | omega | (simp [beN_len, leN_len, flipL_len, xorL_len] <;> omega)))) rfl (fun _ _ h => h.2) ?_
            rintro s83_9 w9 ⟨os83_9, x1⟩
            have fr_s83_9 : Fr w.heap.size s83_9.ownBlock := Fr.le (Ow.fr os83_9) e0.size
            replace os83_9 := Ow.base os83_9 e0.size
            have e0 := e0.trans x1
            have rs43_5 := rs43_5.ext x1
            have rs50_6 := rs50_6.ext x1
            have rs57_7 := rs57_7.ext x1
            have rs65_8 := rs65_8.ext x1
            clear x1
            refine J.o_op_g rfl rfl rfl rfl (Yd.bstr Try.underlying22 Try.underlying5 Try.underlying9 rfl (Ow.rd os83_9)) rfl ?_
            refine J.o_nil ?_
            refine J.s_op_g rfl rfl rfl rfl (fun _ => Yd.seq rfl rfl) rfl ?_
            refine J.s_op rfl (fun _ => Yd.pick_t rfl rfl) rfl ?_
            refine J.s_op rfl (fun _ => Yd.move rfl) rfl ?_
            refine J.know (t := 87) (v' := .bool true) rfl (tt (by exact cry_ref key nonce m)) ?_
            refine J.s_op_g rfl rfl rfl rfl (fun _ => Yd.move rfl) rfl ?_
            refine J.s_op_g rfl rfl rfl rfl (fun _ => Yd.move rfl) rfl ?_
            refine J.s_op_g rfl rfl rfl rfl (fun _ => Yd.eql rfl rfl) rfl ?_
            refine J.s_op rfl (fun _ => Yd.pick_t rfl rfl) rfl ?_
            refine J.s_op rfl (fun _ => Yd.move rfl) rfl ?_
            refine J.know (t := 92) (v' := .bool true) rfl (tt (by rfl)) ?_
            refine J.s_eff_g rfl rfl rfl rfl (Ye.call cl9 rfl (awake_ok)) rfl ?_
            rintro _ w10 ⟨rfl, x1⟩
            have e0 := e0.trans x1
            have rs43_5 := rs43_5.ext x1
            have rs50_6 := rs50_6.ext x1
            have rs57_7 := rs57_7.ext x1
            have rs65_8 := rs65_8.ext x1
            have os83_9 := os83_9.ext x1
            clear x1
            refine J.s_op rfl (fun _ => Yd.pick_t rfl rfl) rfl ?_
            refine J.s_op rfl (fun _ => Yd.assign rfl) rfl ?_
            refine J.s_nil ?_
            refine J.n_np ?_
            refine J.n_then ?_
            refine J.ret ?_
            exact J.ret1 rfl rfl (⟨_, rfl, rfl, e0⟩)
      · skip
        refine J.not_g rfl rfl rfl rfl rfl ?_
        refine J.not_g rfl rfl rfl rfl rfl ?_
        refine J.op_g rfl rfl rfl (Yd.pick_f rfl rfl) rfl ?_
        refine J.op (Yd.pick_f rfl rfl) rfl ?_
        refine J.op (Yd.move rfl) rfl ?_
        refine J.op_g rfl rfl rfl (Yd.move rfl) rfl ?_
        refine J.op_g rfl rfl rfl (Yd.len_b Try.underlying22 rfl hu) rfl ?_
        refine J.op_g rfl rfl rfl (Yd.gtr rfl rfl) rfl ?_
        refine J.op (Yd.pick_f rfl rfl) rfl ?_
        refine J.nil ?_
        refine J.n_then ?_
        refine J.cond_dec rfl (fun hc0 => ?_) (fun hc0 => ?_)
        · skip
          refine J.seq ?_
          refine J.region ?_
          refine J.eff (Ye.call cl9 rfl (awake_ok)) rfl ?_
          rintro _ w11 ⟨rfl, x1⟩
          have e0 := e0.trans x1
          clear x1
          refine J.op (Yd.assign rfl) rfl ?_
          refine J.nil ?_
          refine J.n_then ?_
          refine J.ret ?_
          refine J.r_then ?_
          exact J.ret1 rfl rfl (⟨_, rfl, rfl, e0⟩)
        · skip
          refine J.skip ?_
          refine J.n_then ?_
          refine J.seq ?_
          refine J.region ?_
          refine J.op (Yd.move rfl) rfl ?_
          refine J.op (Yd.move rfl) rfl ?_
          refine J.op (Yd.move rfl) rfl ?_
          refine J.eff (Ye.call cl14 rfl (Stream_ok hk ho)) rfl ?_
          rintro _ w12 ⟨s43_12, rfl, rs43_12, x1⟩
          have e0 := e0.trans x1
          clear x1
          refine J.op (Yd.move rfl) rfl ?_
          refine J.op (Yd.extract rfl rfl) rfl ?_
          refine J.op (Yd.extract rfl rfl) rfl ?_
          refine J.op (Yd.assign rfl) rfl ?_
          refine J.op (Yd.assign rfl) rfl ?_
          refine J.nil ?_
          refine J.n_then ?_
          refine J.seq ?_
          refine J.region ?_
          refine J.op (Yd.move rfl) rfl ?_
          refine J.op (Yd.move rfl) rfl ?_
          refine J.op (Yd.move rfl) rfl ?_
          refine J.eff (Ye.call cl16 rfl (RStream_ok (Rd.ext hk e0) (Rd.ext ho e0))) rfl ?_
          rintro _ w13 ⟨s50_13, rfl, rs50_13, x1⟩
          have e0 := e0.trans x1
          have rs43_12 := rs43_12.ext x1
          clear x1
          refine J.op (Yd.move rfl) rfl ?_
          refine J.op (Yd.extract rfl rfl) rfl ?_
          refine J.op (Yd.extract rfl rfl) rfl ?_
          refine J.op (Yd.assign rfl) rfl ?_
          refine J.op (Yd.assign rfl) rfl ?_
          refine J.nil ?_
          refine J.n_then ?_
          refine J.seq ?_
          refine J.region ?_
          refine J.op (Yd.move rfl) rfl ?_
          refine J.op (Yd.move rfl) rfl ?_
          refine J.op (Yd.move rfl) rfl ?_
          refine J.eff (Ye.call cl17 rfl (Crypt_ok (Rd.ext hk e0) (Rd.ext ho e0) (Rd.ext hu e0))) rfl ?_
          rintro _ w14 ⟨s57_14, rfl, rs57_14, x1⟩
          have e0 := e0.trans x1
          have rs43_12 := rs43_12.ext x1
          have rs50_13 := rs50_13.ext x1
          clear x1
          refine J.op (Yd.move rfl) rfl ?_
          refine J.op (Yd.extract rfl rfl) rfl ?_
          refine J.op (Yd.extract rfl rfl) rfl ?_
          refine J.op (Yd.assign rfl) rfl ?_
          refine J.op (Yd.assign rfl) rfl ?_
          refine J.nil ?_
          refine J.n_then ?_
          refine J.seq ?_
          refine J.region ?_
          refine J.op (Yd.move rfl) rfl ?_
          refine J.op (Yd.move rfl) rfl ?_
          refine J.op (Yd.move rfl) rfl ?_
          refine J.op (Yd.len_b Try.underlying22 rfl (Rd.ext hu e0)) rfl ?_
          refine J.eff (Ye.call cl16 rfl (RStream_ok (Rd.ext hk e0) (Rd.ext ho e0))) rfl ?_
          rintro _ w15 ⟨s65_15, rfl, rs65_15, x1⟩
          have e0 := e0.trans x1
          have rs43_12 := rs43_12.ext x1
          have rs50_13 := rs50_13.ext x1
          have rs57_14 := rs57_14.ext x1
          clear x1
          refine J.op (Yd.move rfl) rfl ?_
          refine J.op (Yd.extract rfl rfl) rfl ?_
          refine J.op (Yd.extract rfl rfl) rfl ?_
          refine J.op (Yd.assign rfl) rfl ?_
          refine J.op (Yd.assign rfl) rfl ?_
          refine J.nil ?_
          refine J.n_then ?_
          refine J.seq ?_
          refine J.regionO [(0, true), (2, true)] [(1, 1), (3, 1), (4, 1), (5, 1), (6, 1), (7, 1), (8, 1), (9, 1), (10, 1), (11, 1), (12, 1), (13, 1), (14, 1), (15, 0), (16, 1)] [(17, true), (18, true), (19, true), (20, true), (21, true), (22, true), (23, true), (24, true), (25, false), (26, true), (27, true)] mix (by kernel_rfl) ?_
          refine J.s_op rfl (fun _ => Yd.move rfl) rfl ?_
          refine J.s_op rfl (fun _ => Yd.move rfl) rfl ?_
          refine J.s_nil ?_
          refine J.o_op rfl (Yd.bstr Try.underlying22 Try.underlying5 Try.underlying9 rfl rs43_12) rfl ?_
          refine J.o_op rfl (Yd.bstr Try.underlying22 Try.underlying5 Try.underlying9 rfl rs50_13) rfl ?_
          refine J.o_op rfl (Yd.seq rfl rfl) rfl ?_
          refine J.o_op rfl (Yd.move rfl) rfl ?_
          refine J.know (t := 73) (v' := .bool true) rfl (tt (by rfl)) ?_
          refine J.o_op_g rfl rfl rfl rfl (Yd.move rfl) rfl ?_
          refine J.o_op_g rfl rfl rfl rfl (Yd.move rfl) rfl ?_
          refine J.o_op_g rfl rfl rfl rfl (Yd.eql rfl rfl) rfl ?_
          refine J.o_op rfl (Yd.pick_t rfl rfl) rfl ?_
          refine J.o_op rfl (Yd.move rfl) rfl ?_
          refine J.know (t := 78) (v' := .bool true) rfl (tt (by rfl)) ?_
          refine J.o_op_g rfl rfl rfl rfl (Yd.move rfl) rfl ?_
          refine J.o_op_g rfl rfl rfl rfl (Yd.bstr Try.underlying22 Try.underlying5 Try.underlying9 rfl rs57_14) rfl ?_
          refine J.o_op_g rfl rfl rfl rfl (Yd.move rfl) rfl ?_
          refine J.o_op_g rfl rfl rfl rfl (Yd.move rfl) rfl ?_
          refine J.o_eff_g rfl rfl rfl rfl (Ye.call cl18 rfl (RXor_ok (Rd.ext hu e0) rs65_15 (by first | omega | (simp [beN_len, leN_len, flipL_len, xorL_len] <;> omega)))) rfl (fun _ _ h => h.2) ?_
          rintro s83_16 w16 ⟨os83_16, x1⟩
          have fr_s83_16 : Fr w.heap.size s83_16.ownBlock := Fr.le (Ow.fr os83_16) e0.size
          replace os83_16 := Ow.base os83_16 e0.size
          have e0 := e0.trans x1
          have rs43_12 := rs43_12.ext x1
          have rs50_13 := rs50_13.ext x1
          have rs57_14 := rs57_14.ext x1
          have rs65_15 := rs65_15.ext x1
          clear x1
          refine J.o_op_g rfl rfl rfl rfl (Yd.bstr Try.underlying22 Try.underlying5 Try.underlying9 rfl (Ow.rd os83_16)) rfl ?_
          refine J.o_nil ?_
          refine J.s_op_g rfl rfl rfl rfl (fun _ => Yd.seq rfl rfl) rfl ?_
          refine J.s_op rfl (fun _ => Yd.pick_t rfl rfl) rfl ?_
          refine J.s_op rfl (fun _ => Yd.move rfl) rfl ?_
          refine J.know (t := 87) (v' := .bool true) rfl (tt (by exact cry_ref key nonce m)) ?_
          refine J.s_op_g rfl rfl rfl rfl (fun _ => Yd.move rfl) rfl ?_
          refine J.s_op_g rfl rfl rfl rfl (fun _ => Yd.move rfl) rfl ?_
          refine J.s_op_g rfl rfl rfl rfl (fun _ => Yd.eql rfl rfl) rfl ?_
          refine J.s_op rfl (fun _ => Yd.pick_t rfl rfl) rfl ?_
          refine J.s_op rfl (fun _ => Yd.move rfl) rfl ?_
          refine J.know (t := 92) (v' := .bool true) rfl (tt (by rfl)) ?_
          refine J.s_eff_g rfl rfl rfl rfl (Ye.call cl9 rfl (awake_ok)) rfl ?_
          rintro _ w17 ⟨rfl, x1⟩
          have e0 := e0.trans x1
          have rs43_12 := rs43_12.ext x1
          have rs50_13 := rs50_13.ext x1
          have rs57_14 := rs57_14.ext x1
          have rs65_15 := rs65_15.ext x1
          have os83_16 := os83_16.ext x1
          clear x1
          refine J.s_op rfl (fun _ => Yd.pick_t rfl rfl) rfl ?_
          refine J.s_op rfl (fun _ => Yd.assign rfl) rfl ?_
          refine J.s_nil ?_
          refine J.n_np ?_
          refine J.n_then ?_
          refine J.ret ?_
          exact J.ret1 rfl rfl (⟨_, rfl, rfl, e0⟩)
end Ytbklhpdfbdhoeaa
end Go.Proofs
