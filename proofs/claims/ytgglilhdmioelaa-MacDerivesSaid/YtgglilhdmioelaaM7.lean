import Derived.Test.YtgglilhdmioelaaT
import Derived.Test.YtgglilhdmioelaaM5
set_option linter.unusedVariables false
set_option linter.unusedSimpArgs false
set_option maxRecDepth 100000
set_option maxHeartbeats 4000000
namespace Go.Proofs
open Go.X Go.RowKit
namespace Ytgglilhdmioelaa
theorem MacDerives_ok {a u v : Value} {salt ikm inf : List UInt8} {n : Int} {w : World} (ha : Bs w a salt) (hb : Bs w u ikm) (hi : Bs w v inf) : C Try.prog 4 [a, u, v, I n] w (Ret fun v w' => v = .bool true ∧ Ext w w') := by
  have e0 := Ext.refl w
  refine C.enter Try.func4 rfl Try.ntmps4 rfl ?_
  refine J.seq ?_
  refine J.region ?_
  refine J.op (Yd.assign rfl) rfl ?_
  refine J.nil ?_
  refine J.n_then ?_
  refine J.seq ?_
  refine J.seq ?_
  refine J.region ?_
  refine J.op (Yd.move rfl) rfl ?_
  refine J.op (Yd.len_b Try.underlying22 rfl ha) rfl ?_
  refine J.op (Yd.gtr rfl rfl) rfl ?_
  refine J.op (Yd.move rfl) rfl ?_
  refine J.split_dec (t := 12) rfl (fun h1 => ?_) (fun h1 => ?_)
  · skip
    refine J.not_g rfl rfl rfl rfl rfl ?_
    refine J.not_g rfl rfl rfl rfl rfl ?_
    refine J.not_g rfl rfl rfl rfl rfl ?_
    refine J.op (Yd.pick_t rfl rfl) rfl ?_
    refine J.op (Yd.move rfl) rfl ?_
    refine J.not_g rfl rfl rfl rfl rfl ?_
    refine J.not_g rfl rfl rfl rfl rfl ?_
    refine J.not_g rfl rfl rfl rfl rfl ?_
    refine J.op (Yd.pick_t rfl rfl) rfl ?_
    refine J.op (Yd.move rfl) rfl ?_
    refine J.not_g rfl rfl rfl rfl rfl ?_
    refine J.not_g rfl rfl rfl rfl rfl ?_
    refine J.not_g rfl rfl rfl rfl rfl ?_
    refine J.not_u rfl rfl rfl rfl ?_
    refine J.not_u rfl rfl rfl rfl ?_
    refine J.not_g rfl rfl rfl rfl rfl ?_
    refine J.op (Yd.pick_t rfl rfl) rfl ?_
    refine J.nil ?_
    refine J.n_then ?_
    refine J.cond_true rfl ?_
    refine J.seq ?_
    refine J.region ?_
    refine J.eff (Ye.call cl7 rfl (awake_ok)) rfl ?_
    rintro _ w1 ⟨rfl, x1⟩
    have e0 := e0.trans x1
    clear x1
    refine J.op (Yd.assign rfl) rfl ?_
    refine J.nil ?_
    refine J.n_then ?_
    refine J.ret ?_
    refine J.r_then ?_
    exact J.ret1 rfl rfl (⟨_, rfl, rfl, e0⟩)
  · skip
    refine J.op_g rfl rfl rfl (Yd.move rfl) rfl ?_
    refine J.op_g rfl rfl rfl (Yd.len_b Try.underlying22 rfl hb) rfl ?_
    refine J.op_g rfl rfl rfl (Yd.gtr rfl rfl) rfl ?_
    refine J.op (Yd.pick_f rfl rfl) rfl ?_
    refine J.op (Yd.move rfl) rfl ?_
    refine J.split_dec (t := 17) rfl (fun h2 => ?_) (fun h2 => ?_)
    · skip
      refine J.not_g rfl rfl rfl rfl rfl ?_
      refine J.not_g rfl rfl rfl rfl rfl ?_
      refine J.not_g rfl rfl rfl rfl rfl ?_
      refine J.op (Yd.pick_t rfl rfl) rfl ?_
      refine J.op (Yd.move rfl) rfl ?_
      refine J.not_g rfl rfl rfl rfl rfl ?_
      refine J.not_g rfl rfl rfl rfl rfl ?_
      refine J.not_g rfl rfl rfl rfl rfl ?_
      refine J.not_u rfl rfl rfl rfl ?_
      refine J.not_u rfl rfl rfl rfl ?_
      refine J.not_g rfl rfl rfl rfl rfl ?_
      refine J.op (Yd.pick_t rfl rfl) rfl ?_
      refine J.nil ?_
      refine J.n_then ?_
      refine J.cond_true rfl ?_
      refine J.seq ?_
      refine J.region ?_
      refine J.eff (Ye.call cl7 rfl (awake_ok)) rfl ?_
      rintro _ w2 ⟨rfl, x1⟩
      have e0 := e0.trans x1
      clear x1
      refine J.op (Yd.assign rfl) rfl ?_
      refine J.nil ?_
      refine J.n_then ?_
      refine J.ret ?_
      refine J.r_then ?_
      exact J.ret1 rfl rfl (⟨_, rfl, rfl, e0⟩)
    · skip
      refine J.op_g rfl rfl rfl (Yd.move rfl) rfl ?_
      refine J.op_g rfl rfl rfl (Yd.len_b Try.underlying22 rfl hi) rfl ?_
      refine J.op_g rfl rfl rfl (Yd.gtr rfl rfl) rfl ?_
      refine J.op (Yd.pick_f rfl rfl) rfl ?_
      refine J.op (Yd.move rfl) rfl ?_
      refine J.split_dec (t := 22) rfl (fun h3 => ?_) (fun h3 => ?_)
      · skip
        refine J.not_g rfl rfl rfl rfl rfl ?_
        refine J.not_g rfl rfl rfl rfl rfl ?_
        refine J.not_g rfl rfl rfl rfl rfl ?_
        refine J.not_u rfl rfl rfl rfl ?_
        refine J.not_u rfl rfl rfl rfl ?_
        refine J.not_g rfl rfl rfl rfl rfl ?_
        refine J.op (Yd.pick_t rfl rfl) rfl ?_
        refine J.nil ?_
        refine J.n_then ?_
        refine J.cond_true rfl ?_
        refine J.seq ?_
        refine J.region ?_
        refine J.eff (Ye.call cl7 rfl (awake_ok)) rfl ?_
        rintro _ w3 ⟨rfl, x1⟩
        have e0 := e0.trans x1
        clear x1
        refine J.op (Yd.assign rfl) rfl ?_
        refine J.nil ?_
        refine J.n_then ?_
        refine J.ret ?_
        refine J.r_then ?_
        exact J.ret1 rfl rfl (⟨_, rfl, rfl, e0⟩)
      · skip
        refine J.op_g rfl rfl rfl (Yd.move rfl) rfl ?_
        refine J.op_g rfl rfl rfl (Yd.gtr rfl rfl) rfl ?_
        refine J.op_g rfl rfl rfl (Yd.move rfl) rfl ?_
        refine J.split_dec (t := 25) rfl (fun h4 => ?_) (fun h4 => ?_)
        · skip
          refine J.op_g rfl rfl rfl (Yd.move rfl) rfl ?_
          refine J.op_g rfl rfl rfl (Yd.lss rfl rfl) rfl ?_
          refine J.op_g rfl rfl rfl (Yd.pick_t rfl rfl) rfl ?_
          refine J.op (Yd.pick_f rfl rfl) rfl ?_
          refine J.nil ?_
          refine J.n_then ?_
          refine J.cond_dec rfl (fun hc0 => ?_) (fun hc0 => ?_)
          · skip
            refine J.seq ?_
            refine J.region ?_
            refine J.eff (Ye.call cl7 rfl (awake_ok)) rfl ?_
            rintro _ w4 ⟨rfl, x1⟩
            have e0 := e0.trans x1
            clear x1
            refine J.op (Yd.assign rfl) rfl ?_
            refine J.nil ?_
            refine J.n_then ?_
            refine J.ret ?_
            refine J.r_then ?_
            exact J.ret1 rfl rfl (⟨_, rfl, rfl, e0⟩)
          · skip
            refine J.skip ?_
            refine J.n_then ?_
            refine J.seq ?_
            refine J.seq ?_
            refine J.region ?_
            refine J.op (Yd.move rfl) rfl ?_
            refine J.op (Yd.geq rfl rfl) rfl ?_
            refine J.op (Yd.move rfl) rfl ?_
            refine J.split_dec (t := 33) rfl (fun h5 => ?_) (fun h5 => ?_)
            · skip
              refine J.op_g rfl rfl rfl (Yd.move rfl) rfl ?_
              refine J.op_g rfl rfl rfl (Yd.leq rfl rfl) rfl ?_
              refine J.op (Yd.pick_t rfl rfl) rfl ?_
              refine J.nil ?_
              refine J.n_then ?_
              refine J.cond_dec rfl (fun hc1 => ?_) (fun hc1 => ?_)
              · skip
                refine J.seq ?_
                refine J.region ?_
                refine J.op (Yd.move rfl) rfl ?_
                refine J.op (Yd.move rfl) rfl ?_
                refine J.op (Yd.move rfl) rfl ?_
                refine J.op (Yd.move rfl) rfl ?_
                refine J.eff (Ye.call cl13 rfl (Derive_ok ha hb hi (by first | omega | (simp only [List.length_append, List.flatten_cons, List.flatten_nil, List.append_nil, padL_len, sha256L_len, macL_len, List.length_nil, List.length_cons, Int.toNat_natCast]; omega) | (simp <;> omega)) (by first | omega | (simp only [List.length_append, List.flatten_cons, List.flatten_nil, List.append_nil, padL_len, sha256L_len, macL_len, List.length_nil, List.length_cons, Int.toNat_natCast]; omega) | (simp <;> omega)) (by first | omega | (simp only [List.length_append, List.flatten_cons, List.flatten_nil, List.append_nil, padL_len, sha256L_len, macL_len, List.length_nil, List.length_cons, Int.toNat_natCast]; omega) | (simp <;> omega)))) rfl ?_
                rintro s41_5 w5 ⟨rs41_5, x1⟩
                have e0 := e0.trans x1
                clear x1
                refine J.op (Yd.len_b Try.underlying22 rfl rs41_5) rfl ?_
                refine J.op (Yd.move rfl) rfl ?_
                refine J.op (Yd.eql rfl rfl) rfl ?_
                refine J.op (Yd.move rfl) rfl ?_
                refine J.know (t := 45) (v' := .bool true) rfl (tt (by rw [exQ_len ⟨by omega, by omega⟩]; omega)) ?_
                refine J.eff_g rfl rfl rfl (Ye.call cl7 rfl (awake_ok)) rfl ?_
                rintro _ w6 ⟨rfl, x1⟩
                have e0 := e0.trans x1
                have rs41_5 := rs41_5.ext x1
                clear x1
                refine J.op (Yd.pick_t rfl rfl) rfl ?_
                refine J.op (Yd.assign rfl) rfl ?_
                refine J.nil ?_
                refine J.n_then ?_
                refine J.ret ?_
                refine J.r_then ?_
                exact J.ret1 rfl rfl (⟨_, rfl, rfl, e0⟩)
              · skip
                refine J.skip ?_
                refine J.n_then ?_
                refine J.seq ?_
                refine J.regionO [(0, true), (1, true), (4, true), (5, true), (2, false)] [(3, 1), (6, 0), (7, 1), (8, 1), (9, 1), (10, 1), (11, 1), (12, 1), (13, 1), (16, 1), (17, 1), (18, 1), (19, 1), (14, 0), (15, 1), (20, 0), (21, 1), (22, 1), (23, 1), (24, 1), (25, 1), (26, 1), (27, 1), (30, 1), (31, 1), (32, 1), (28, 0), (29, 1), (33, 0), (34, 1)] [(35, true), (36, true), (37, true), (38, false), (39, true), (40, true)] mix (by kernel_rfl) ?_
                refine J.s_op rfl (fun _ => Yd.move rfl) rfl ?_
                refine J.s_op rfl (fun _ => Yd.move rfl) rfl ?_
                refine J.s_op rfl (fun _ => Yd.move rfl) rfl ?_
                refine J.s_op rfl (fun _ => Yd.move rfl) rfl ?_
                refine J.s_eff rfl (Ye.call cl14 rfl (Extract_ok ha hb (by first | omega | (simp only [List.length_append, List.flatten_cons, List.flatten_nil, List.append_nil, padL_len, sha256L_len, macL_len, List.length_nil, List.length_cons, Int.toNat_natCast]; omega) | (simp <;> omega)) (by first | omega | (simp only [List.length_append, List.flatten_cons, List.flatten_nil, List.append_nil, padL_len, sha256L_len, macL_len, List.length_nil, List.length_cons, Int.toNat_natCast]; omega) | (simp <;> omega)))) rfl ?_
                rintro s50_7 w7 ⟨os50_7, x1⟩
                have fr_s50_7 : Fr w.heap.size s50_7.ownBlock := Fr.le (Ow.fr os50_7) e0.size
                replace os50_7 := Ow.base os50_7 e0.size
                have e0 := e0.trans x1
                clear x1
                refine J.s_nil ?_
                refine J.o_op rfl (Yd.bstr Try.underlying22 Try.underlying5 Try.underlying9 rfl (Ow.rd os50_7)) rfl ?_
                refine J.o_eff rfl (Ye.call cl8 rfl (RMac_ok (Rd.ext ha e0) (Rd.ext hb e0) (by first | omega | (simp only [List.length_append, List.flatten_cons, List.flatten_nil, List.append_nil, padL_len, sha256L_len, macL_len, List.length_nil, List.length_cons, Int.toNat_natCast]; omega) | (simp <;> omega)) (by first | omega | (simp only [List.length_append, List.flatten_cons, List.flatten_nil, List.append_nil, padL_len, sha256L_len, macL_len, List.length_nil, List.length_cons, Int.toNat_natCast]; omega) | (simp <;> omega)))) rfl (fun _ _ h => h.2) ?_
                rintro s54_8 w8 ⟨os54_8, x1⟩
                have ap_s50_7_s54_8 : Ap s50_7.ownBlock s54_8.ownBlock := Ap.mk (Ow.live os50_7) (Ow.fr os54_8)
                have fr_s54_8 : Fr w.heap.size s54_8.ownBlock := Fr.le (Ow.fr os54_8) e0.size
                replace os54_8 := Ow.base os54_8 e0.size
                have e0 := e0.trans x1
                have os50_7 := os50_7.ext x1
                clear x1
                refine J.o_op rfl (Yd.bstr Try.underlying22 Try.underlying5 Try.underlying9 rfl (Ow.rd os54_8)) rfl ?_
                refine J.o_op rfl (Yd.seq rfl rfl) rfl ?_
                refine J.o_op rfl (Yd.move rfl) rfl ?_
                refine J.know (t := 57) (v' := .bool true) rfl (tt (by rfl)) ?_
                refine J.o_op_g rfl rfl rfl rfl (Yd.move rfl) rfl ?_
                refine J.o_op_g rfl rfl rfl rfl (Yd.move rfl) rfl ?_
                refine J.o_op_g rfl rfl rfl rfl (Yd.move rfl) rfl ?_
                refine J.o_op_g rfl rfl rfl rfl (Yd.move rfl) rfl ?_
                refine J.o_op_g rfl rfl rfl rfl (Yd.move rfl) rfl ?_
                refine J.o_op_g rfl rfl rfl rfl (Yd.move rfl) rfl ?_
                refine J.o_op_g rfl rfl rfl rfl (Yd.move rfl) rfl ?_
                refine J.o_op_g rfl rfl rfl rfl (Yd.move rfl) rfl ?_
                refine J.o_eff_g rfl rfl rfl rfl (Ye.call cl13 rfl (Derive_ok (Rd.ext ha e0) (Rd.ext hb e0) (Rd.ext hi e0) (by first | omega | (simp only [List.length_append, List.flatten_cons, List.flatten_nil, List.append_nil, padL_len, sha256L_len, macL_len, List.length_nil, List.length_cons, Int.toNat_natCast]; omega) | (simp <;> omega)) (by first | omega | (simp only [List.length_append, List.flatten_cons, List.flatten_nil, List.append_nil, padL_len, sha256L_len, macL_len, List.length_nil, List.length_cons, Int.toNat_natCast]; omega) | (simp <;> omega)) (by first | omega | (simp only [List.length_append, List.flatten_cons, List.flatten_nil, List.append_nil, padL_len, sha256L_len, macL_len, List.length_nil, List.length_cons, Int.toNat_natCast]; omega) | (simp <;> omega)))) rfl (fun _ _ h => h.2) ?_
                rintro s62_9 w9 ⟨rs62_9, x1⟩
                have e0 := e0.trans x1
                have os50_7 := os50_7.ext x1
                have os54_8 := os54_8.ext x1
                clear x1
                refine J.o_op_g rfl rfl rfl rfl (Yd.bstr Try.underlying22 Try.underlying5 Try.underlying9 rfl rs62_9) rfl ?_
                refine J.o_eff_g rfl rfl rfl rfl (Ye.call cl15 rfl (RDerive_ok (Rd.ext ha e0) (Rd.ext hb e0) (Rd.ext hi e0) (by first | omega | (simp only [List.length_append, List.flatten_cons, List.flatten_nil, List.append_nil, padL_len, sha256L_len, macL_len, List.length_nil, List.length_cons, Int.toNat_natCast]; omega) | (simp <;> omega)) (by first | omega | (simp only [List.length_append, List.flatten_cons, List.flatten_nil, List.append_nil, padL_len, sha256L_len, macL_len, List.length_nil, List.length_cons, Int.toNat_natCast]; omega) | (simp <;> omega)) (by first | omega | (simp only [List.length_append, List.flatten_cons, List.flatten_nil, List.append_nil, padL_len, sha256L_len, macL_len, List.length_nil, List.length_cons, Int.toNat_natCast]; omega) | (simp <;> omega)))) rfl (fun _ _ h => h.2) ?_
                rintro s68_10 w10 ⟨rs68_10, x1⟩
                have e0 := e0.trans x1
                have os50_7 := os50_7.ext x1
                have os54_8 := os54_8.ext x1
                have rs62_9 := rs62_9.ext x1
                clear x1
                refine J.o_op_g rfl rfl rfl rfl (Yd.bstr Try.underlying22 Try.underlying5 Try.underlying9 rfl rs68_10) rfl ?_
                refine J.o_op_g rfl rfl rfl rfl (Yd.seq rfl rfl) rfl ?_
                refine J.o_op rfl (Yd.pick_t rfl rfl) rfl ?_
                refine J.o_op rfl (Yd.move rfl) rfl ?_
                refine J.know (t := 72) (v' := .bool true) rfl (tt (by rfl)) ?_
                refine J.o_op_g rfl rfl rfl rfl (Yd.move rfl) rfl ?_
                refine J.o_op_g rfl rfl rfl rfl (Yd.move rfl) rfl ?_
                refine J.o_op_g rfl rfl rfl rfl (Yd.move rfl) rfl ?_
                refine J.o_op_g rfl rfl rfl rfl (Yd.move rfl) rfl ?_
                refine J.o_op_g rfl rfl rfl rfl (Yd.move rfl) rfl ?_
                refine J.o_op_g rfl rfl rfl rfl (Yd.move rfl) rfl ?_
                refine J.o_eff_g rfl rfl rfl rfl (Ye.call cl16 rfl (Expand_ok (Rd.ext hb e0) (Rd.ext hi e0) (by first | omega | (simp only [List.length_append, List.flatten_cons, List.flatten_nil, List.append_nil, padL_len, sha256L_len, macL_len, List.length_nil, List.length_cons, Int.toNat_natCast]; omega) | (simp <;> omega)) (by first | omega | (simp only [List.length_append, List.flatten_cons, List.flatten_nil, List.append_nil, padL_len, sha256L_len, macL_len, List.length_nil, List.length_cons, Int.toNat_natCast]; omega) | (simp <;> omega)))) rfl (fun _ _ h => h.2) ?_
                rintro s76_11 w11 ⟨rs76_11, x1⟩
                have e0 := e0.trans x1
                have os50_7 := os50_7.ext x1
                have os54_8 := os54_8.ext x1
                have rs62_9 := rs62_9.ext x1
                have rs68_10 := rs68_10.ext x1
                clear x1
                refine J.o_op_g rfl rfl rfl rfl (Yd.bstr Try.underlying22 Try.underlying5 Try.underlying9 rfl rs76_11) rfl ?_
                refine J.o_eff_g rfl rfl rfl rfl (Ye.call cl17 rfl (RExpand_ok (Rd.ext hb e0) (Rd.ext hi e0) (by first | omega | (simp only [List.length_append, List.flatten_cons, List.flatten_nil, List.append_nil, padL_len, sha256L_len, macL_len, List.length_nil, List.length_cons, Int.toNat_natCast]; omega) | (simp <;> omega)) (by first | omega | (simp only [List.length_append, List.flatten_cons, List.flatten_nil, List.append_nil, padL_len, sha256L_len, macL_len, List.length_nil, List.length_cons, Int.toNat_natCast]; omega) | (simp <;> omega)))) rfl (fun _ _ h => h.2) ?_
                rintro s81_12 w12 ⟨rs81_12, x1⟩
                have e0 := e0.trans x1
                have os50_7 := os50_7.ext x1
                have os54_8 := os54_8.ext x1
                have rs62_9 := rs62_9.ext x1
                have rs68_10 := rs68_10.ext x1
                have rs76_11 := rs76_11.ext x1
                clear x1
                refine J.o_op_g rfl rfl rfl rfl (Yd.bstr Try.underlying22 Try.underlying5 Try.underlying9 rfl rs81_12) rfl ?_
                refine J.o_nil ?_
                refine J.s_op_g rfl rfl rfl rfl (fun _ => Yd.seq rfl rfl) rfl ?_
                refine J.s_op rfl (fun _ => Yd.pick_t rfl rfl) rfl ?_
                refine J.s_op rfl (fun _ => Yd.move rfl) rfl ?_
                refine J.know (t := 85) (v' := .bool true) rfl (tt (by rfl)) ?_
                refine J.s_eff_g rfl rfl rfl rfl (Ye.call cl7 rfl (awake_ok)) rfl ?_
                rintro _ w13 ⟨rfl, x1⟩
                have e0 := e0.trans x1
                have os50_7 := os50_7.ext x1
                have os54_8 := os54_8.ext x1
                have rs62_9 := rs62_9.ext x1
                have rs68_10 := rs68_10.ext x1
                have rs76_11 := rs76_11.ext x1
                have rs81_12 := rs81_12.ext x1
                clear x1
                refine J.s_op rfl (fun _ => Yd.pick_t rfl rfl) rfl ?_
                refine J.s_op rfl (fun _ => Yd.assign rfl) rfl ?_
                refine J.s_nil ?_
                refine J.n_np ?_
                refine J.n_then ?_
                refine J.ret ?_
                exact J.ret1 rfl rfl (⟨_, rfl, rfl, e0⟩)
            · skip
              refine J.not_g rfl rfl rfl rfl rfl ?_
              refine J.not_g rfl rfl rfl rfl rfl ?_
              refine J.op (Yd.pick_f rfl rfl) rfl ?_
              refine J.nil ?_
              refine J.n_then ?_
              refine J.cond_false rfl ?_
              refine J.skip ?_
              refine J.n_then ?_
              refine J.seq ?_
              refine J.regionO [(0, true), (1, true), (4, true), (5, true), (2, false)] [(3, 1), (6, 0), (7, 1), (8, 1), (9, 1), (10, 1), (11, 1), (12, 1), (13, 1), (16, 1), (17, 1), (18, 1), (19, 1), (14, 0), (15, 1), (20, 0), (21, 1), (22, 1), (23, 1), (24, 1), (25, 1), (26, 1), (27, 1), (30, 1), (31, 1), (32, 1), (28, 0), (29, 1), (33, 0), (34, 1)] [(35, true), (36, true), (37, true), (38, false), (39, true), (40, true)] mix (by kernel_rfl) ?_
              refine J.s_op rfl (fun _ => Yd.move rfl) rfl ?_
              refine J.s_op rfl (fun _ => Yd.move rfl) rfl ?_
              refine J.s_op rfl (fun _ => Yd.move rfl) rfl ?_
              refine J.s_op rfl (fun _ => Yd.move rfl) rfl ?_
              refine J.s_eff rfl (Ye.call cl14 rfl (Extract_ok ha hb (by first | omega | (simp only [List.length_append, List.flatten_cons, List.flatten_nil, List.append_nil, padL_len, sha256L_len, macL_len, List.length_nil, List.length_cons, Int.toNat_natCast]; omega) | (simp <;> omega)) (by first | omega | (simp only [List.length_append, List.flatten_cons, List.flatten_nil, List.append_nil, padL_len, sha256L_len, macL_len, List.length_nil, List.length_cons, Int.toNat_natCast]; omega) | (simp <;> omega)))) rfl ?_
              rintro s50_14 w14 ⟨os50_14, x1⟩
              have fr_s50_14 : Fr w.heap.size s50_14.ownBlock := Fr.le (Ow.fr os50_14) e0.size
              replace os50_14 := Ow.base os50_14 e0.size
              have e0 := e0.trans x1
              clear x1
              refine J.s_nil ?_
              refine J.o_op rfl (Yd.bstr Try.underlying22 Try.underlying5 Try.underlying9 rfl (Ow.rd os50_14)) rfl ?_
              refine J.o_eff rfl (Ye.call cl8 rfl (RMac_ok (Rd.ext ha e0) (Rd.ext hb e0) (by first | omega | (simp only [List.length_append, List.flatten_cons, List.flatten_nil, List.append_nil, padL_len, sha256L_len, macL_len, List.length_nil, List.length_cons, Int.toNat_natCast]; omega) | (simp <;> omega)) (by first | omega | (simp only [List.length_append, List.flatten_cons, List.flatten_nil, List.append_nil, padL_len, sha256L_len, macL_len, List.length_nil, List.length_cons, Int.toNat_natCast]; omega) | (simp <;> omega)))) rfl (fun _ _ h => h.2) ?_
              rintro s54_15 w15 ⟨os54_15, x1⟩
              have ap_s50_14_s54_15 : Ap s50_14.ownBlock s54_15.ownBlock := Ap.mk (Ow.live os50_14) (Ow.fr os54_15)
              have fr_s54_15 : Fr w.heap.size s54_15.ownBlock := Fr.le (Ow.fr os54_15) e0.size
              replace os54_15 := Ow.base os54_15 e0.size
              have e0 := e0.trans x1
              have os50_14 := os50_14.ext x1
              clear x1
              refine J.o_op rfl (Yd.bstr Try.underlying22 Try.underlying5 Try.underlying9 rfl (Ow.rd os54_15)) rfl ?_
              refine J.o_op rfl (Yd.seq rfl rfl) rfl ?_
              refine J.o_op rfl (Yd.move rfl) rfl ?_
              refine J.know (t := 57) (v' := .bool true) rfl (tt (by rfl)) ?_
              refine J.o_op_g rfl rfl rfl rfl (Yd.move rfl) rfl ?_
              refine J.o_op_g rfl rfl rfl rfl (Yd.move rfl) rfl ?_
              refine J.o_op_g rfl rfl rfl rfl (Yd.move rfl) rfl ?_
              refine J.o_op_g rfl rfl rfl rfl (Yd.move rfl) rfl ?_
              refine J.o_op_g rfl rfl rfl rfl (Yd.move rfl) rfl ?_
              refine J.o_op_g rfl rfl rfl rfl (Yd.move rfl) rfl ?_
              refine J.o_op_g rfl rfl rfl rfl (Yd.move rfl) rfl ?_
              refine J.o_op_g rfl rfl rfl rfl (Yd.move rfl) rfl ?_
              refine J.o_eff_g rfl rfl rfl rfl (Ye.call cl13 rfl (Derive_ok (Rd.ext ha e0) (Rd.ext hb e0) (Rd.ext hi e0) (by first | omega | (simp only [List.length_append, List.flatten_cons, List.flatten_nil, List.append_nil, padL_len, sha256L_len, macL_len, List.length_nil, List.length_cons, Int.toNat_natCast]; omega) | (simp <;> omega)) (by first | omega | (simp only [List.length_append, List.flatten_cons, List.flatten_nil, List.append_nil, padL_len, sha256L_len, macL_len, List.length_nil, List.length_cons, Int.toNat_natCast]; omega) | (simp <;> omega)) (by first | omega | (simp only [List.length_append, List.flatten_cons, List.flatten_nil, List.append_nil, padL_len, sha256L_len, macL_len, List.length_nil, List.length_cons, Int.toNat_natCast]; omega) | (simp <;> omega)))) rfl (fun _ _ h => h.2) ?_
              rintro s62_16 w16 ⟨rs62_16, x1⟩
              have e0 := e0.trans x1
              have os50_14 := os50_14.ext x1
              have os54_15 := os54_15.ext x1
              clear x1
              refine J.o_op_g rfl rfl rfl rfl (Yd.bstr Try.underlying22 Try.underlying5 Try.underlying9 rfl rs62_16) rfl ?_
              refine J.o_eff_g rfl rfl rfl rfl (Ye.call cl15 rfl (RDerive_ok (Rd.ext ha e0) (Rd.ext hb e0) (Rd.ext hi e0) (by first | omega | (simp only [List.length_append, List.flatten_cons, List.flatten_nil, List.append_nil, padL_len, sha256L_len, macL_len, List.length_nil, List.length_cons, Int.toNat_natCast]; omega) | (simp <;> omega)) (by first | omega | (simp only [List.length_append, List.flatten_cons, List.flatten_nil, List.append_nil, padL_len, sha256L_len, macL_len, List.length_nil, List.length_cons, Int.toNat_natCast]; omega) | (simp <;> omega)) (by first | omega | (simp only [List.length_append, List.flatten_cons, List.flatten_nil, List.append_nil, padL_len, sha256L_len, macL_len, List.length_nil, List.length_cons, Int.toNat_natCast]; omega) | (simp <;> omega)))) rfl (fun _ _ h => h.2) ?_
              rintro s68_17 w17 ⟨rs68_17, x1⟩
              have e0 := e0.trans x1
              have os50_14 := os50_14.ext x1
              have os54_15 := os54_15.ext x1
              have rs62_16 := rs62_16.ext x1
              clear x1
              refine J.o_op_g rfl rfl rfl rfl (Yd.bstr Try.underlying22 Try.underlying5 Try.underlying9 rfl rs68_17) rfl ?_
              refine J.o_op_g rfl rfl rfl rfl (Yd.seq rfl rfl) rfl ?_
              refine J.o_op rfl (Yd.pick_t rfl rfl) rfl ?_
              refine J.o_op rfl (Yd.move rfl) rfl ?_
              refine J.know (t := 72) (v' := .bool true) rfl (tt (by rfl)) ?_
              refine J.o_op_g rfl rfl rfl rfl (Yd.move rfl) rfl ?_
              refine J.o_op_g rfl rfl rfl rfl (Yd.move rfl) rfl ?_
              refine J.o_op_g rfl rfl rfl rfl (Yd.move rfl) rfl ?_
              refine J.o_op_g rfl rfl rfl rfl (Yd.move rfl) rfl ?_
              refine J.o_op_g rfl rfl rfl rfl (Yd.move rfl) rfl ?_
              refine J.o_op_g rfl rfl rfl rfl (Yd.move rfl) rfl ?_
              refine J.o_eff_g rfl rfl rfl rfl (Ye.call cl16 rfl (Expand_ok (Rd.ext hb e0) (Rd.ext hi e0) (by first | omega | (simp only [List.length_append, List.flatten_cons, List.flatten_nil, List.append_nil, padL_len, sha256L_len, macL_len, List.length_nil, List.length_cons, Int.toNat_natCast]; omega) | (simp <;> omega)) (by first | omega | (simp only [List.length_append, List.flatten_cons, List.flatten_nil, List.append_nil, padL_len, sha256L_len, macL_len, List.length_nil, List.length_cons, Int.toNat_natCast]; omega) | (simp <;> omega)))) rfl (fun _ _ h => h.2) ?_
              rintro s76_18 w18 ⟨rs76_18, x1⟩
              have e0 := e0.trans x1
              have os50_14 := os50_14.ext x1
              have os54_15 := os54_15.ext x1
              have rs62_16 := rs62_16.ext x1
              have rs68_17 := rs68_17.ext x1
              clear x1
              refine J.o_op_g rfl rfl rfl rfl (Yd.bstr Try.underlying22 Try.underlying5 Try.underlying9 rfl rs76_18) rfl ?_
              refine J.o_eff_g rfl rfl rfl rfl (Ye.call cl17 rfl (RExpand_ok (Rd.ext hb e0) (Rd.ext hi e0) (by first | omega | (simp only [List.length_append, List.flatten_cons, List.flatten_nil, List.append_nil, padL_len, sha256L_len, macL_len, List.length_nil, List.length_cons, Int.toNat_natCast]; omega) | (simp <;> omega)) (by first | omega | (simp only [List.length_append, List.flatten_cons, List.flatten_nil, List.append_nil, padL_len, sha256L_len, macL_len, List.length_nil, List.length_cons, Int.toNat_natCast]; omega) | (simp <;> omega)))) rfl (fun _ _ h => h.2) ?_
              rintro s81_19 w19 ⟨rs81_19, x1⟩
              have e0 := e0.trans x1
              have os50_14 := os50_14.ext x1
              have os54_15 := os54_15.ext x1
              have rs62_16 := rs62_16.ext x1
              have rs68_17 := rs68_17.ext x1
              have rs76_18 := rs76_18.ext x1
              clear x1
              refine J.o_op_g rfl rfl rfl rfl (Yd.bstr Try.underlying22 Try.underlying5 Try.underlying9 rfl rs81_19) rfl ?_
              refine J.o_nil ?_
              refine J.s_op_g rfl rfl rfl rfl (fun _ => Yd.seq rfl rfl) rfl ?_
              refine J.s_op rfl (fun _ => Yd.pick_t rfl rfl) rfl ?_
              refine J.s_op rfl (fun _ => Yd.move rfl) rfl ?_
              refine J.know (t := 85) (v' := .bool true) rfl (tt (by rfl)) ?_
              refine J.s_eff_g rfl rfl rfl rfl (Ye.call cl7 rfl (awake_ok)) rfl ?_
              rintro _ w20 ⟨rfl, x1⟩
              have e0 := e0.trans x1
              have os50_14 := os50_14.ext x1
              have os54_15 := os54_15.ext x1
              have rs62_16 := rs62_16.ext x1
              have rs68_17 := rs68_17.ext x1
              have rs76_18 := rs76_18.ext x1
              have rs81_19 := rs81_19.ext x1
              clear x1
              refine J.s_op rfl (fun _ => Yd.pick_t rfl rfl) rfl ?_
              refine J.s_op rfl (fun _ => Yd.assign rfl) rfl ?_
              refine J.s_nil ?_
              refine J.n_np ?_
              refine J.n_then ?_
              refine J.ret ?_
              exact J.ret1 rfl rfl (⟨_, rfl, rfl, e0⟩)
        · skip
          refine J.not_g rfl rfl rfl rfl rfl ?_
          refine J.not_g rfl rfl rfl rfl rfl ?_
          refine J.op_g rfl rfl rfl (Yd.pick_f rfl rfl) rfl ?_
          refine J.op (Yd.pick_f rfl rfl) rfl ?_
          refine J.nil ?_
          refine J.n_then ?_
          refine J.cond_false rfl ?_
          refine J.skip ?_
          refine J.n_then ?_
          refine J.seq ?_
          refine J.seq ?_
          refine J.region ?_
          refine J.op (Yd.move rfl) rfl ?_
          refine J.op (Yd.geq rfl rfl) rfl ?_
          refine J.op (Yd.move rfl) rfl ?_
          refine J.split_dec (t := 33) rfl (fun h5 => ?_) (fun h5 => ?_)
          · skip
            refine J.op_g rfl rfl rfl (Yd.move rfl) rfl ?_
            refine J.op_g rfl rfl rfl (Yd.leq rfl rfl) rfl ?_
            refine J.op (Yd.pick_t rfl rfl) rfl ?_
            refine J.nil ?_
            refine J.n_then ?_
            refine J.cond_dec rfl (fun hc1 => ?_) (fun hc1 => ?_)
            · skip
              refine J.seq ?_
              refine J.region ?_
              refine J.op (Yd.move rfl) rfl ?_
              refine J.op (Yd.move rfl) rfl ?_
              refine J.op (Yd.move rfl) rfl ?_
              refine J.op (Yd.move rfl) rfl ?_
              refine J.eff (Ye.call cl13 rfl (Derive_ok ha hb hi (by first | omega | (simp only [List.length_append, List.flatten_cons, List.flatten_nil, List.append_nil, padL_len, sha256L_len, macL_len, List.length_nil, List.length_cons, Int.toNat_natCast]; omega) | (simp <;> omega)) (by first | omega | (simp only [List.length_append, List.flatten_cons, List.flatten_nil, List.append_nil, padL_len, sha256L_len, macL_len, List.length_nil, List.length_cons, Int.toNat_natCast]; omega) | (simp <;> omega)) (by first | omega | (simp only [List.length_append, List.flatten_cons, List.flatten_nil, List.append_nil, padL_len, sha256L_len, macL_len, List.length_nil, List.length_cons, Int.toNat_natCast]; omega) | (simp <;> omega)))) rfl ?_
              rintro s41_21 w21 ⟨rs41_21, x1⟩
              have e0 := e0.trans x1
              clear x1
              refine J.op (Yd.len_b Try.underlying22 rfl rs41_21) rfl ?_
              refine J.op (Yd.move rfl) rfl ?_
              refine J.op (Yd.eql rfl rfl) rfl ?_
              refine J.op (Yd.move rfl) rfl ?_
              refine J.know (t := 45) (v' := .bool true) rfl (tt (by rw [exQ_len ⟨by omega, by omega⟩]; omega)) ?_
              refine J.eff_g rfl rfl rfl (Ye.call cl7 rfl (awake_ok)) rfl ?_
              rintro _ w22 ⟨rfl, x1⟩
              have e0 := e0.trans x1
              have rs41_21 := rs41_21.ext x1
              clear x1
              refine J.op (Yd.pick_t rfl rfl) rfl ?_
              refine J.op (Yd.assign rfl) rfl ?_
              refine J.nil ?_
              refine J.n_then ?_
              refine J.ret ?_
              refine J.r_then ?_
              exact J.ret1 rfl rfl (⟨_, rfl, rfl, e0⟩)
            · skip
              refine J.skip ?_
              refine J.n_then ?_
              refine J.seq ?_
              refine J.regionO [(0, true), (1, true), (4, true), (5, true), (2, false)] [(3, 1), (6, 0), (7, 1), (8, 1), (9, 1), (10, 1), (11, 1), (12, 1), (13, 1), (16, 1), (17, 1), (18, 1), (19, 1), (14, 0), (15, 1), (20, 0), (21, 1), (22, 1), (23, 1), (24, 1), (25, 1), (26, 1), (27, 1), (30, 1), (31, 1), (32, 1), (28, 0), (29, 1), (33, 0), (34, 1)] [(35, true), (36, true), (37, true), (38, false), (39, true), (40, true)] mix (by kernel_rfl) ?_
              refine J.s_op rfl (fun _ => Yd.move rfl) rfl ?_
              refine J.s_op rfl (fun _ => Yd.move rfl) rfl ?_
              refine J.s_op rfl (fun _ => Yd.move rfl) rfl ?_
              refine J.s_op rfl (fun _ => Yd.move rfl) rfl ?_
              refine J.s_eff rfl (Ye.call cl14 rfl (Extract_ok ha hb (by first | omega | (simp only [List.length_append, List.flatten_cons, List.flatten_nil, List.append_nil, padL_len, sha256L_len, macL_len, List.length_nil, List.length_cons, Int.toNat_natCast]; omega) | (simp <;> omega)) (by first | omega | (simp only [List.length_append, List.flatten_cons, List.flatten_nil, List.append_nil, padL_len, sha256L_len, macL_len, List.length_nil, List.length_cons, Int.toNat_natCast]; omega) | (simp <;> omega)))) rfl ?_
              rintro s50_23 w23 ⟨os50_23, x1⟩
              have fr_s50_23 : Fr w.heap.size s50_23.ownBlock := Fr.le (Ow.fr os50_23) e0.size
              replace os50_23 := Ow.base os50_23 e0.size
              have e0 := e0.trans x1
              clear x1
              refine J.s_nil ?_
              refine J.o_op rfl (Yd.bstr Try.underlying22 Try.underlying5 Try.underlying9 rfl (Ow.rd os50_23)) rfl ?_
              refine J.o_eff rfl (Ye.call cl8 rfl (RMac_ok (Rd.ext ha e0) (Rd.ext hb e0) (by first | omega | (simp only [List.length_append, List.flatten_cons, List.flatten_nil, List.append_nil, padL_len, sha256L_len, macL_len, List.length_nil, List.length_cons, Int.toNat_natCast]; omega) | (simp <;> omega)) (by first | omega | (simp only [List.length_append, List.flatten_cons, List.flatten_nil, List.append_nil, padL_len, sha256L_len, macL_len, List.length_nil, List.length_cons, Int.toNat_natCast]; omega) | (simp <;> omega)))) rfl (fun _ _ h => h.2) ?_
              rintro s54_24 w24 ⟨os54_24, x1⟩
              have ap_s50_23_s54_24 : Ap s50_23.ownBlock s54_24.ownBlock := Ap.mk (Ow.live os50_23) (Ow.fr os54_24)
              have fr_s54_24 : Fr w.heap.size s54_24.ownBlock := Fr.le (Ow.fr os54_24) e0.size
              replace os54_24 := Ow.base os54_24 e0.size
              have e0 := e0.trans x1
              have os50_23 := os50_23.ext x1
              clear x1
              refine J.o_op rfl (Yd.bstr Try.underlying22 Try.underlying5 Try.underlying9 rfl (Ow.rd os54_24)) rfl ?_
              refine J.o_op rfl (Yd.seq rfl rfl) rfl ?_
              refine J.o_op rfl (Yd.move rfl) rfl ?_
              refine J.know (t := 57) (v' := .bool true) rfl (tt (by rfl)) ?_
              refine J.o_op_g rfl rfl rfl rfl (Yd.move rfl) rfl ?_
              refine J.o_op_g rfl rfl rfl rfl (Yd.move rfl) rfl ?_
              refine J.o_op_g rfl rfl rfl rfl (Yd.move rfl) rfl ?_
              refine J.o_op_g rfl rfl rfl rfl (Yd.move rfl) rfl ?_
              refine J.o_op_g rfl rfl rfl rfl (Yd.move rfl) rfl ?_
              refine J.o_op_g rfl rfl rfl rfl (Yd.move rfl) rfl ?_
              refine J.o_op_g rfl rfl rfl rfl (Yd.move rfl) rfl ?_
              refine J.o_op_g rfl rfl rfl rfl (Yd.move rfl) rfl ?_
              refine J.o_eff_g rfl rfl rfl rfl (Ye.call cl13 rfl (Derive_ok (Rd.ext ha e0) (Rd.ext hb e0) (Rd.ext hi e0) (by first | omega | (simp only [List.length_append, List.flatten_cons, List.flatten_nil, List.append_nil, padL_len, sha256L_len, macL_len, List.length_nil, List.length_cons, Int.toNat_natCast]; omega) | (simp <;> omega)) (by first | omega | (simp only [List.length_append, List.flatten_cons, List.flatten_nil, List.append_nil, padL_len, sha256L_len, macL_len, List.length_nil, List.length_cons, Int.toNat_natCast]; omega) | (simp <;> omega)) (by first | omega | (simp only [List.length_append, List.flatten_cons, List.flatten_nil, List.append_nil, padL_len, sha256L_len, macL_len, List.length_nil, List.length_cons, Int.toNat_natCast]; omega) | (simp <;> omega)))) rfl (fun _ _ h => h.2) ?_
              rintro s62_25 w25 ⟨rs62_25, x1⟩
              have e0 := e0.trans x1
              have os50_23 := os50_23.ext x1
              have os54_24 := os54_24.ext x1
              clear x1
              refine J.o_op_g rfl rfl rfl rfl (Yd.bstr Try.underlying22 Try.underlying5 Try.underlying9 rfl rs62_25) rfl ?_
              refine J.o_eff_g rfl rfl rfl rfl (Ye.call cl15 rfl (RDerive_ok (Rd.ext ha e0) (Rd.ext hb e0) (Rd.ext hi e0) (by first | omega | (simp only [List.length_append, List.flatten_cons, List.flatten_nil, List.append_nil, padL_len, sha256L_len, macL_len, List.length_nil, List.length_cons, Int.toNat_natCast]; omega) | (simp <;> omega)) (by first | omega | (simp only [List.length_append, List.flatten_cons, List.flatten_nil, List.append_nil, padL_len, sha256L_len, macL_len, List.length_nil, List.length_cons, Int.toNat_natCast]; omega) | (simp <;> omega)) (by first | omega | (simp only [List.length_append, List.flatten_cons, List.flatten_nil, List.append_nil, padL_len, sha256L_len, macL_len, List.length_nil, List.length_cons, Int.toNat_natCast]; omega) | (simp <;> omega)))) rfl (fun _ _ h => h.2) ?_
              rintro s68_26 w26 ⟨rs68_26, x1⟩
              have e0 := e0.trans x1
              have os50_23 := os50_23.ext x1
              have os54_24 := os54_24.ext x1
              have rs62_25 := rs62_25.ext x1
              clear x1
              refine J.o_op_g rfl rfl rfl rfl (Yd.bstr Try.underlying22 Try.underlying5 Try.underlying9 rfl rs68_26) rfl ?_
              refine J.o_op_g rfl rfl rfl rfl (Yd.seq rfl rfl) rfl ?_
              refine J.o_op rfl (Yd.pick_t rfl rfl) rfl ?_
              refine J.o_op rfl (Yd.move rfl) rfl ?_
              refine J.know (t := 72) (v' := .bool true) rfl (tt (by rfl)) ?_
              refine J.o_op_g rfl rfl rfl rfl (Yd.move rfl) rfl ?_
              refine J.o_op_g rfl rfl rfl rfl (Yd.move rfl) rfl ?_
              refine J.o_op_g rfl rfl rfl rfl (Yd.move rfl) rfl ?_
              refine J.o_op_g rfl rfl rfl rfl (Yd.move rfl) rfl ?_
              refine J.o_op_g rfl rfl rfl rfl (Yd.move rfl) rfl ?_
              refine J.o_op_g rfl rfl rfl rfl (Yd.move rfl) rfl ?_
              refine J.o_eff_g rfl rfl rfl rfl (Ye.call cl16 rfl (Expand_ok (Rd.ext hb e0) (Rd.ext hi e0) (by first | omega | (simp only [List.length_append, List.flatten_cons, List.flatten_nil, List.append_nil, padL_len, sha256L_len, macL_len, List.length_nil, List.length_cons, Int.toNat_natCast]; omega) | (simp <;> omega)) (by first | omega | (simp only [List.length_append, List.flatten_cons, List.flatten_nil, List.append_nil, padL_len, sha256L_len, macL_len, List.length_nil, List.length_cons, Int.toNat_natCast]; omega) | (simp <;> omega)))) rfl (fun _ _ h => h.2) ?_
              rintro s76_27 w27 ⟨rs76_27, x1⟩
              have e0 := e0.trans x1
              have os50_23 := os50_23.ext x1
              have os54_24 := os54_24.ext x1
              have rs62_25 := rs62_25.ext x1
              have rs68_26 := rs68_26.ext x1
              clear x1
              refine J.o_op_g rfl rfl rfl rfl (Yd.bstr Try.underlying22 Try.underlying5 Try.underlying9 rfl rs76_27) rfl ?_
              refine J.o_eff_g rfl rfl rfl rfl (Ye.call cl17 rfl (RExpand_ok (Rd.ext hb e0) (Rd.ext hi e0) (by first | omega | (simp only [List.length_append, List.flatten_cons, List.flatten_nil, List.append_nil, padL_len, sha256L_len, macL_len, List.length_nil, List.length_cons, Int.toNat_natCast]; omega) | (simp <;> omega)) (by first | omega | (simp only [List.length_append, List.flatten_cons, List.flatten_nil, List.append_nil, padL_len, sha256L_len, macL_len, List.length_nil, List.length_cons, Int.toNat_natCast]; omega) | (simp <;> omega)))) rfl (fun _ _ h => h.2) ?_
              rintro s81_28 w28 ⟨rs81_28, x1⟩
              have e0 := e0.trans x1
              have os50_23 := os50_23.ext x1
              have os54_24 := os54_24.ext x1
              have rs62_25 := rs62_25.ext x1
              have rs68_26 := rs68_26.ext x1
              have rs76_27 := rs76_27.ext x1
              clear x1
              refine J.o_op_g rfl rfl rfl rfl (Yd.bstr Try.underlying22 Try.underlying5 Try.underlying9 rfl rs81_28) rfl ?_
              refine J.o_nil ?_
              refine J.s_op_g rfl rfl rfl rfl (fun _ => Yd.seq rfl rfl) rfl ?_
              refine J.s_op rfl (fun _ => Yd.pick_t rfl rfl) rfl ?_
              refine J.s_op rfl (fun _ => Yd.move rfl) rfl ?_
              refine J.know (t := 85) (v' := .bool true) rfl (tt (by rfl)) ?_
              refine J.s_eff_g rfl rfl rfl rfl (Ye.call cl7 rfl (awake_ok)) rfl ?_
              rintro _ w29 ⟨rfl, x1⟩
              have e0 := e0.trans x1
              have os50_23 := os50_23.ext x1
              have os54_24 := os54_24.ext x1
              have rs62_25 := rs62_25.ext x1
              have rs68_26 := rs68_26.ext x1
              have rs76_27 := rs76_27.ext x1
              have rs81_28 := rs81_28.ext x1
              clear x1
              refine J.s_op rfl (fun _ => Yd.pick_t rfl rfl) rfl ?_
              refine J.s_op rfl (fun _ => Yd.assign rfl) rfl ?_
              refine J.s_nil ?_
              refine J.n_np ?_
              refine J.n_then ?_
              refine J.ret ?_
              exact J.ret1 rfl rfl (⟨_, rfl, rfl, e0⟩)
          · skip
            refine J.not_g rfl rfl rfl rfl rfl ?_
            refine J.not_g rfl rfl rfl rfl rfl ?_
            refine J.op (Yd.pick_f rfl rfl) rfl ?_
            refine J.nil ?_
            refine J.n_then ?_
            refine J.cond_false rfl ?_
            refine J.skip ?_
            refine J.n_then ?_
            refine J.seq ?_
            refine J.regionO [(0, true), (1, true), (4, true), (5, true), (2, false)] [(3, 1), (6, 0), (7, 1), (8, 1), (9, 1), (10, 1), (11, 1), (12, 1), (13, 1), (16, 1), (17, 1), (18, 1), (19, 1), (14, 0), (15, 1), (20, 0), (21, 1), (22, 1), (23, 1), (24, 1), (25, 1), (26, 1), (27, 1), (30, 1), (31, 1), (32, 1), (28, 0), (29, 1), (33, 0), (34, 1)] [(35, true), (36, true), (37, true), (38, false), (39, true), (40, true)] mix (by kernel_rfl) ?_
            refine J.s_op rfl (fun _ => Yd.move rfl) rfl ?_
            refine J.s_op rfl (fun _ => Yd.move rfl) rfl ?_
            refine J.s_op rfl (fun _ => Yd.move rfl) rfl ?_
            refine J.s_op rfl (fun _ => Yd.move rfl) rfl ?_
            refine J.s_eff rfl (Ye.call cl14 rfl (Extract_ok ha hb (by first | omega | (simp only [List.length_append, List.flatten_cons, List.flatten_nil, List.append_nil, padL_len, sha256L_len, macL_len, List.length_nil, List.length_cons, Int.toNat_natCast]; omega) | (simp <;> omega)) (by first | omega | (simp only [List.length_append, List.flatten_cons, List.flatten_nil, List.append_nil, padL_len, sha256L_len, macL_len, List.length_nil, List.length_cons, Int.toNat_natCast]; omega) | (simp <;> omega)))) rfl ?_
            rintro s50_30 w30 ⟨os50_30, x1⟩
            have fr_s50_30 : Fr w.heap.size s50_30.ownBlock := Fr.le (Ow.fr os50_30) e0.size
            replace os50_30 := Ow.base os50_30 e0.size
            have e0 := e0.trans x1
            clear x1
            refine J.s_nil ?_
            refine J.o_op rfl (Yd.bstr Try.underlying22 Try.underlying5 Try.underlying9 rfl (Ow.rd os50_30)) rfl ?_
            refine J.o_eff rfl (Ye.call cl8 rfl (RMac_ok (Rd.ext ha e0) (Rd.ext hb e0) (by first | omega | (simp only [List.length_append, List.flatten_cons, List.flatten_nil, List.append_nil, padL_len, sha256L_len, macL_len, List.length_nil, List.length_cons, Int.toNat_natCast]; omega) | (simp <;> omega)) (by first | omega | (simp only [List.length_append, List.flatten_cons, List.flatten_nil, List.append_nil, padL_len, sha256L_len, macL_len, List.length_nil, List.length_cons, Int.toNat_natCast]; omega) | (simp <;> omega)))) rfl (fun _ _ h => h.2) ?_
            rintro s54_31 w31 ⟨os54_31, x1⟩
            have ap_s50_30_s54_31 : Ap s50_30.ownBlock s54_31.ownBlock := Ap.mk (Ow.live os50_30) (Ow.fr os54_31)
            have fr_s54_31 : Fr w.heap.size s54_31.ownBlock := Fr.le (Ow.fr os54_31) e0.size
            replace os54_31 := Ow.base os54_31 e0.size
            have e0 := e0.trans x1
            have os50_30 := os50_30.ext x1
            clear x1
            refine J.o_op rfl (Yd.bstr Try.underlying22 Try.underlying5 Try.underlying9 rfl (Ow.rd os54_31)) rfl ?_
            refine J.o_op rfl (Yd.seq rfl rfl) rfl ?_
            refine J.o_op rfl (Yd.move rfl) rfl ?_
            refine J.know (t := 57) (v' := .bool true) rfl (tt (by rfl)) ?_
            refine J.o_op_g rfl rfl rfl rfl (Yd.move rfl) rfl ?_
            refine J.o_op_g rfl rfl rfl rfl (Yd.move rfl) rfl ?_
            refine J.o_op_g rfl rfl rfl rfl (Yd.move rfl) rfl ?_
            refine J.o_op_g rfl rfl rfl rfl (Yd.move rfl) rfl ?_
            refine J.o_op_g rfl rfl rfl rfl (Yd.move rfl) rfl ?_
            refine J.o_op_g rfl rfl rfl rfl (Yd.move rfl) rfl ?_
            refine J.o_op_g rfl rfl rfl rfl (Yd.move rfl) rfl ?_
            refine J.o_op_g rfl rfl rfl rfl (Yd.move rfl) rfl ?_
            refine J.o_eff_g rfl rfl rfl rfl (Ye.call cl13 rfl (Derive_ok (Rd.ext ha e0) (Rd.ext hb e0) (Rd.ext hi e0) (by first | omega | (simp only [List.length_append, List.flatten_cons, List.flatten_nil, List.append_nil, padL_len, sha256L_len, macL_len, List.length_nil, List.length_cons, Int.toNat_natCast]; omega) | (simp <;> omega)) (by first | omega | (simp only [List.length_append, List.flatten_cons, List.flatten_nil, List.append_nil, padL_len, sha256L_len, macL_len, List.length_nil, List.length_cons, Int.toNat_natCast]; omega) | (simp <;> omega)) (by first | omega | (simp only [List.length_append, List.flatten_cons, List.flatten_nil, List.append_nil, padL_len, sha256L_len, macL_len, List.length_nil, List.length_cons, Int.toNat_natCast]; omega) | (simp <;> omega)))) rfl (fun _ _ h => h.2) ?_
            rintro s62_32 w32 ⟨rs62_32, x1⟩
            have e0 := e0.trans x1
            have os50_30 := os50_30.ext x1
            have os54_31 := os54_31.ext x1
            clear x1
            refine J.o_op_g rfl rfl rfl rfl (Yd.bstr Try.underlying22 Try.underlying5 Try.underlying9 rfl rs62_32) rfl ?_
            refine J.o_eff_g rfl rfl rfl rfl (Ye.call cl15 rfl (RDerive_ok (Rd.ext ha e0) (Rd.ext hb e0) (Rd.ext hi e0) (by first | omega | (simp only [List.length_append, List.flatten_cons, List.flatten_nil, List.append_nil, padL_len, sha256L_len, macL_len, List.length_nil, List.length_cons, Int.toNat_natCast]; omega) | (simp <;> omega)) (by first | omega | (simp only [List.length_append, List.flatten_cons, List.flatten_nil, List.append_nil, padL_len, sha256L_len, macL_len, List.length_nil, List.length_cons, Int.toNat_natCast]; omega) | (simp <;> omega)) (by first | omega | (simp only [List.length_append, List.flatten_cons, List.flatten_nil, List.append_nil, padL_len, sha256L_len, macL_len, List.length_nil, List.length_cons, Int.toNat_natCast]; omega) | (simp <;> omega)))) rfl (fun _ _ h => h.2) ?_
            rintro s68_33 w33 ⟨rs68_33, x1⟩
            have e0 := e0.trans x1
            have os50_30 := os50_30.ext x1
            have os54_31 := os54_31.ext x1
            have rs62_32 := rs62_32.ext x1
            clear x1
            refine J.o_op_g rfl rfl rfl rfl (Yd.bstr Try.underlying22 Try.underlying5 Try.underlying9 rfl rs68_33) rfl ?_
            refine J.o_op_g rfl rfl rfl rfl (Yd.seq rfl rfl) rfl ?_
            refine J.o_op rfl (Yd.pick_t rfl rfl) rfl ?_
            refine J.o_op rfl (Yd.move rfl) rfl ?_
            refine J.know (t := 72) (v' := .bool true) rfl (tt (by rfl)) ?_
            refine J.o_op_g rfl rfl rfl rfl (Yd.move rfl) rfl ?_
            refine J.o_op_g rfl rfl rfl rfl (Yd.move rfl) rfl ?_
            refine J.o_op_g rfl rfl rfl rfl (Yd.move rfl) rfl ?_
            refine J.o_op_g rfl rfl rfl rfl (Yd.move rfl) rfl ?_
            refine J.o_op_g rfl rfl rfl rfl (Yd.move rfl) rfl ?_
            refine J.o_op_g rfl rfl rfl rfl (Yd.move rfl) rfl ?_
            refine J.o_eff_g rfl rfl rfl rfl (Ye.call cl16 rfl (Expand_ok (Rd.ext hb e0) (Rd.ext hi e0) (by first | omega | (simp only [List.length_append, List.flatten_cons, List.flatten_nil, List.append_nil, padL_len, sha256L_len, macL_len, List.length_nil, List.length_cons, Int.toNat_natCast]; omega) | (simp <;> omega)) (by first | omega | (simp only [List.length_append, List.flatten_cons, List.flatten_nil, List.append_nil, padL_len, sha256L_len, macL_len, List.length_nil, List.length_cons, Int.toNat_natCast]; omega) | (simp <;> omega)))) rfl (fun _ _ h => h.2) ?_
            rintro s76_34 w34 ⟨rs76_34, x1⟩
            have e0 := e0.trans x1
            have os50_30 := os50_30.ext x1
            have os54_31 := os54_31.ext x1
            have rs62_32 := rs62_32.ext x1
            have rs68_33 := rs68_33.ext x1
            clear x1
            refine J.o_op_g rfl rfl rfl rfl (Yd.bstr Try.underlying22 Try.underlying5 Try.underlying9 rfl rs76_34) rfl ?_
            refine J.o_eff_g rfl rfl rfl rfl (Ye.call cl17 rfl (RExpand_ok (Rd.ext hb e0) (Rd.ext hi e0) (by first | omega | (simp only [List.length_append, List.flatten_cons, List.flatten_nil, List.append_nil, padL_len, sha256L_len, macL_len, List.length_nil, List.length_cons, Int.toNat_natCast]; omega) | (simp <;> omega)) (by first | omega | (simp only [List.length_append, List.flatten_cons, List.flatten_nil, List.append_nil, padL_len, sha256L_len, macL_len, List.length_nil, List.length_cons, Int.toNat_natCast]; omega) | (simp <;> omega)))) rfl (fun _ _ h => h.2) ?_
            rintro s81_35 w35 ⟨rs81_35, x1⟩
            have e0 := e0.trans x1
            have os50_30 := os50_30.ext x1
            have os54_31 := os54_31.ext x1
            have rs62_32 := rs62_32.ext x1
            have rs68_33 := rs68_33.ext x1
            have rs76_34 := rs76_34.ext x1
            clear x1
            refine J.o_op_g rfl rfl rfl rfl (Yd.bstr Try.underlying22 Try.underlying5 Try.underlying9 rfl rs81_35) rfl ?_
            refine J.o_nil ?_
            refine J.s_op_g rfl rfl rfl rfl (fun _ => Yd.seq rfl rfl) rfl ?_
            refine J.s_op rfl (fun _ => Yd.pick_t rfl rfl) rfl ?_
            refine J.s_op rfl (fun _ => Yd.move rfl) rfl ?_
            refine J.know (t := 85) (v' := .bool true) rfl (tt (by rfl)) ?_
            refine J.s_eff_g rfl rfl rfl rfl (Ye.call cl7 rfl (awake_ok)) rfl ?_
            rintro _ w36 ⟨rfl, x1⟩
            have e0 := e0.trans x1
            have os50_30 := os50_30.ext x1
            have os54_31 := os54_31.ext x1
            have rs62_32 := rs62_32.ext x1
            have rs68_33 := rs68_33.ext x1
            have rs76_34 := rs76_34.ext x1
            have rs81_35 := rs81_35.ext x1
            clear x1
            refine J.s_op rfl (fun _ => Yd.pick_t rfl rfl) rfl ?_
            refine J.s_op rfl (fun _ => Yd.assign rfl) rfl ?_
            refine J.s_nil ?_
            refine J.n_np ?_
            refine J.n_then ?_
            refine J.ret ?_
            exact J.ret1 rfl rfl (⟨_, rfl, rfl, e0⟩)
end Ytgglilhdmioelaa
end Go.Proofs
