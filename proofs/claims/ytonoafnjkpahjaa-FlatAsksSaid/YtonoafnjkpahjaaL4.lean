import Derived.Test.YtonoafnjkpahjaaT
import Derived.Test.YtonoafnjkpahjaaPk
import Derived.Test.YtonoafnjkpahjaaF5
set_option linter.unusedVariables false
set_option linter.unusedSimpArgs false
set_option maxRecDepth 100000
namespace Go.Proofs
open Go.X Go.RowKit
namespace Ytonoafnjkpahjaa
theorem FlatAsks_ok {a b s : Value} {vs : List Value} {l m : List UInt8} {ll : List (List UInt8)} {n : UInt64} {w : World} (ha : Bs w a l) (hb : Bs w b m) (hl : Rl w s vs ll) : C Try.prog 8 [a, b, s, W64 n] w (Ret fun v w' => v = .bool true ∧ Ext w w') := by
  have e0 := Ext.refl w
  refine C.enter Try.func8 rfl Try.ntmps8 rfl ?_
  refine J.seq ?_
  refine J.region ?_
  refine J.op (Yd.assign rfl) rfl ?_
  refine J.nil ?_
  refine J.n_then ?_
  refine J.seq ?_
  refine J.seq ?_
  refine J.region ?_
  refine J.op (Yd.move rfl) rfl ?_
  refine J.op (Yd.len_b Try.underlying22 rfl ha) rfl ?_
  refine J.op (Yd.gtr rfl rfl) rfl ?_
  refine J.op (Yd.move rfl) rfl ?_
  refine J.split_dec (t := 12) rfl (fun hla => ?_) (fun hla => ?_)
  · skip
    refine J.not_g rfl rfl rfl rfl rfl ?_
    refine J.not_g rfl rfl rfl rfl rfl ?_
    refine J.not_g rfl rfl rfl rfl rfl ?_
    refine J.op (Yd.pick_t rfl rfl) rfl ?_
    refine J.op (Yd.move rfl) rfl ?_
    refine J.not_g rfl rfl rfl rfl rfl ?_
    refine J.not_g rfl rfl rfl rfl rfl ?_
    refine J.not_g rfl rfl rfl rfl rfl ?_
    refine J.op (Yd.pick_t rfl rfl) rfl ?_
    refine J.nil ?_
    refine J.n_then ?_
    refine J.cond_true rfl ?_
    refine J.seq ?_
    refine J.region ?_
    refine J.eff (Ye.call cl9 rfl (awake_ok)) rfl ?_
    rintro _ w1 ⟨rfl, x1⟩
    have e0 := e0.trans x1
    clear x1
    refine J.op (Yd.assign rfl) rfl ?_
    refine J.nil ?_
    refine J.n_then ?_
    refine J.ret ?_
    refine J.r_then ?_
    exact J.ret1 rfl rfl (⟨_, rfl, rfl, e0⟩)
  · skip
    refine J.op_g rfl rfl rfl (Yd.move rfl) rfl ?_
    refine J.op_g rfl rfl rfl (Yd.len_b Try.underlying22 rfl hb) rfl ?_
    refine J.op_g rfl rfl rfl (Yd.gtr rfl rfl) rfl ?_
    refine J.op (Yd.pick_f rfl rfl) rfl ?_
    refine J.op (Yd.move rfl) rfl ?_
    refine J.split_dec (t := 17) rfl (fun hlb => ?_) (fun hlb => ?_)
    · skip
      refine J.not_g rfl rfl rfl rfl rfl ?_
      refine J.not_g rfl rfl rfl rfl rfl ?_
      refine J.not_g rfl rfl rfl rfl rfl ?_
      refine J.op (Yd.pick_t rfl rfl) rfl ?_
      refine J.nil ?_
      refine J.n_then ?_
      refine J.cond_true rfl ?_
      refine J.seq ?_
      refine J.region ?_
      refine J.eff (Ye.call cl9 rfl (awake_ok)) rfl ?_
      rintro _ w2 ⟨rfl, x1⟩
      have e0 := e0.trans x1
      clear x1
      refine J.op (Yd.assign rfl) rfl ?_
      refine J.nil ?_
      refine J.n_then ?_
      refine J.ret ?_
      refine J.r_then ?_
      exact J.ret1 rfl rfl (⟨_, rfl, rfl, e0⟩)
    · skip
      refine J.op_g rfl rfl rfl (Yd.move rfl) rfl ?_
      refine J.eff_g rfl rfl rfl (Ye.call cl16 rfl (All_ok hl (by omega))) rfl ?_
      rintro _ w3 ⟨r, rfl, hr, htot, x1⟩
      have e0 := e0.trans x1
      clear x1
      refine J.op_g rfl rfl rfl (Yd.gtr rfl rfl) rfl ?_
      refine J.op (Yd.pick_f rfl rfl) rfl ?_
      refine J.nil ?_
      refine J.n_then ?_
      refine J.cond_dec rfl (fun hall => ?_) (fun hall => ?_)
      · skip
        refine J.seq ?_
        refine J.region ?_
        refine J.eff (Ye.call cl9 rfl (awake_ok)) rfl ?_
        rintro _ w4 ⟨rfl, x1⟩
        have e0 := e0.trans x1
        clear x1
        refine J.op (Yd.assign rfl) rfl ?_
        refine J.nil ?_
        refine J.n_then ?_
        refine J.ret ?_
        refine J.r_then ?_
        exact J.ret1 rfl rfl (⟨_, rfl, rfl, e0⟩)
      · skip
        refine J.skip ?_
        refine J.n_then ?_
        refine J.seq ?_
        refine J.regionO [(0, true), (1, true), (3, true), (5, true)] [(4, 1), (6, 1), (7, 1), (2, 0), (8, 1), (9, 1), (10, 1), (11, 1), (14, 1), (15, 1), (12, 0), (13, 1), (16, 0), (17, 1), (18, 1), (19, 1), (20, 1), (21, 1), (24, 1), (22, 0), (23, 1), (25, 0), (26, 1), (27, 1), (28, 1), (29, 1), (30, 1), (31, 1), (34, 1), (35, 1), (36, 1), (32, 0), (33, 1), (37, 0), (38, 1), (39, 1), (40, 1), (41, 1), (42, 1), (45, 1), (43, 0), (44, 1), (46, 0), (47, 1), (48, 1), (49, 1), (50, 1), (51, 1), (54, 1), (52, 0), (53, 1), (55, 0), (56, 1)] [(57, true), (58, true), (59, true), (60, true), (62, true), (61, false), (63, false), (64, true), (65, true), (66, true), (67, true), (68, true), (70, true), (69, false), (71, false), (72, true), (73, true), (74, true), (75, false), (76, true), (77, true)] mix (by kernel_rfl) ?_
        refine J.s_op rfl (fun _ => Yd.move rfl) rfl ?_
        refine J.s_op rfl (fun _ => Yd.move rfl) rfl ?_
        refine J.s_op rfl (fun _ => Yd.move rfl) rfl ?_
        refine J.s_op rfl (fun _ => Yd.move rfl) rfl ?_
        refine J.s_nil ?_
        refine J.o_op rfl (Yd.bstr Try.underlying22 Try.underlying5 Try.underlying9 rfl (Rd.ext ha e0)) rfl ?_
        refine J.o_op rfl (Yd.bstr Try.underlying22 Try.underlying5 Try.underlying9 rfl (Rd.ext hb e0)) rfl ?_
        refine J.o_op rfl (Yd.seq rfl rfl) rfl ?_
        refine J.o_eff rfl (Ye.call cl15 rfl (Equal_ok (Rd.ext ha e0) (Rd.ext hb e0))) rfl (fun _ _ h => h.2) ?_
        rintro _ w5 ⟨rfl, x1⟩
        have e0 := e0.trans x1
        clear x1
        refine J.o_op rfl (Yd.eqlb rfl rfl Try.underlying4) rfl ?_
        refine J.o_op rfl (Yd.move rfl) rfl ?_
        refine J.know (t := 32) (v' := .bool true) rfl (tt (by rfl)) ?_
        refine J.o_op_g rfl rfl rfl rfl (Yd.move rfl) rfl ?_
        refine J.o_op_g rfl rfl rfl rfl (Yd.move rfl) rfl ?_
        refine J.o_op_g rfl rfl rfl rfl (Yd.move rfl) rfl ?_
        refine J.o_op_g rfl rfl rfl rfl (Yd.move rfl) rfl ?_
        refine J.o_eff_g rfl rfl rfl rfl (Ye.call cl10 rfl (Xor_ok (Rd.ext ha e0) (Rd.ext hb e0) (by first | omega | (simp [xorL_len] <;> omega)))) rfl (fun _ _ h => h.2) ?_
        rintro s35_6 w6 ⟨o35_6, x1⟩
        replace o35_6 := Ow.base o35_6 e0.size
        have e0 := e0.trans x1
        clear x1
        refine J.o_op_g rfl rfl rfl rfl (Yd.bstr Try.underlying22 Try.underlying5 Try.underlying9 rfl (Ow.rd o35_6)) rfl ?_
        refine J.o_eff_g rfl rfl rfl rfl (Ye.call cl30 rfl (RXor_ok (Rd.ext ha e0) (Rd.ext hb e0) (by first | omega | (simp [beN_len, leN_len, flipL_len, xorL_len] <;> omega)))) rfl (fun _ _ h => h.2) ?_
        rintro s39_7 w7 ⟨o39_7, x1⟩
        replace o39_7 := Ow.base o39_7 e0.size
        have e0 := e0.trans x1
        have o35_6 := o35_6.ext x1
        clear x1
        refine J.o_op_g rfl rfl rfl rfl (Yd.bstr Try.underlying22 Try.underlying5 Try.underlying9 rfl (Ow.rd o39_7)) rfl ?_
        refine J.o_op_g rfl rfl rfl rfl (Yd.seq rfl rfl) rfl ?_
        refine J.o_op rfl (Yd.pick_t rfl rfl) rfl ?_
        refine J.o_op rfl (Yd.move rfl) rfl ?_
        refine J.know (t := 43) (v' := .bool true) rfl (tt (by rfl)) ?_
        refine J.o_op_g rfl rfl rfl rfl (Yd.move rfl) rfl ?_
        refine J.o_op_g rfl rfl rfl rfl (Yd.move rfl) rfl ?_
        refine J.o_eff_g rfl rfl rfl rfl (Ye.call cl27 rfl (Cat_ok (Rl.ext hl e0) (by first | omega | (simp [beN_len, leN_len, flipL_len, xorL_len] <;> omega)))) rfl (fun _ _ h => h.2) ?_
        rintro s45_8 w8 ⟨o45_8, x1⟩
        replace o45_8 := Ow.base o45_8 e0.size
        have e0 := e0.trans x1
        have o35_6 := o35_6.ext x1
        have o39_7 := o39_7.ext x1
        clear x1
        refine J.o_op_g rfl rfl rfl rfl (Yd.bstr Try.underlying22 Try.underlying5 Try.underlying9 rfl (Ow.rd o45_8)) rfl ?_
        refine J.o_eff_g rfl rfl rfl rfl (Ye.call cl17 rfl (ACat_ok (Rl.ext hl e0) (by first | omega | (simp [beN_len, leN_len, flipL_len, xorL_len] <;> omega)))) rfl (fun _ _ h => h.2) ?_
        rintro s48_9 w9 ⟨o48_9, x1⟩
        replace o48_9 := Ow.base o48_9 e0.size
        have e0 := e0.trans x1
        have o35_6 := o35_6.ext x1
        have o39_7 := o39_7.ext x1
        have o45_8 := o45_8.ext x1
        clear x1
        refine J.o_op_g rfl rfl rfl rfl (Yd.bstr Try.underlying22 Try.underlying5 Try.underlying9 rfl (Ow.rd o48_9)) rfl ?_
        refine J.o_op_g rfl rfl rfl rfl (Yd.seq rfl rfl) rfl ?_
        refine J.o_op rfl (Yd.pick_t rfl rfl) rfl ?_
        refine J.o_op rfl (Yd.move rfl) rfl ?_
        refine J.know (t := 52) (v' := .bool true) rfl (tt (by rfl)) ?_
        refine J.o_op_g rfl rfl rfl rfl (Yd.move rfl) rfl ?_
        refine J.o_op_g rfl rfl rfl rfl (Yd.cv_64_32 Try.underlying23 Try.underlying28 rfl) rfl ?_
        refine J.o_op_g rfl rfl rfl rfl (Yd.move rfl) rfl ?_
        refine J.o_op_g rfl rfl rfl rfl (Yd.cv_64_32 Try.underlying23 Try.underlying28 rfl) rfl ?_
        refine J.o_op_g rfl rfl rfl rfl (Yd.cv_32_64 Try.underlying28 Try.underlying23 rfl) rfl ?_
        refine J.o_eff_g rfl rfl rfl rfl (Ye.call cl14 rfl (Put32_ok)) rfl (fun _ _ h => h.2) ?_
        rintro s55_10 w10 ⟨o55_10, x1⟩
        have e0 := e0.trans x1
        have o35_6 := o35_6.ext x1
        have o39_7 := o39_7.ext x1
        have o45_8 := o45_8.ext x1
        have o48_9 := o48_9.ext x1
        clear x1
        refine J.o_op_g rfl rfl rfl rfl (Yd.bstr Try.underlying22 Try.underlying5 Try.underlying9 rfl o55_10) rfl ?_
        refine J.o_eff_g rfl rfl rfl rfl (Ye.call cl31 rfl (RBig_ok (n := 4) (by omega))) rfl (fun _ _ h => h.2) ?_
        rintro s60_11 w11 ⟨o60_11, x1⟩
        replace o60_11 := Ow.base o60_11 e0.size
        have e0 := e0.trans x1
        have o35_6 := o35_6.ext x1
        have o39_7 := o39_7.ext x1
        have o45_8 := o45_8.ext x1
        have o48_9 := o48_9.ext x1
        have o55_10 := o55_10.ext x1
        clear x1
        refine J.o_op_g rfl rfl rfl rfl (Yd.bstr Try.underlying22 Try.underlying5 Try.underlying9 rfl (Ow.rd o60_11)) rfl ?_
        refine J.o_op_g rfl rfl rfl rfl (Yd.seq rfl rfl) rfl ?_
        refine J.o_op rfl (Yd.pick_t rfl rfl) rfl ?_
        refine J.o_op rfl (Yd.move rfl) rfl ?_
        refine J.know (t := 64) (v' := .bool true) rfl (tt (by rw [put32_take, beN_drop4])) ?_
        refine J.o_op_g rfl rfl rfl rfl (Yd.move rfl) rfl ?_
        refine J.o_op_g rfl rfl rfl rfl (Yd.move rfl) rfl ?_
        refine J.o_eff_g rfl rfl rfl rfl (Ye.call cl12 rfl (Put64_ok)) rfl (fun _ _ h => h.2) ?_
        rintro s66_12 w12 ⟨o66_12, x1⟩
        replace o66_12 := Ow.base o66_12 e0.size
        have e0 := e0.trans x1
        have o35_6 := o35_6.ext x1
        have o39_7 := o39_7.ext x1
        have o45_8 := o45_8.ext x1
        have o48_9 := o48_9.ext x1
        have o55_10 := o55_10.ext x1
        have o60_11 := o60_11.ext x1
        clear x1
        refine J.o_op_g rfl rfl rfl rfl (Yd.bstr Try.underlying22 Try.underlying5 Try.underlying9 rfl (Ow.rd o66_12)) rfl ?_
        refine J.o_eff_g rfl rfl rfl rfl (Ye.call cl31 rfl (RBig_ok (n := 8) (by omega))) rfl (fun _ _ h => h.2) ?_
        rintro s69_13 w13 ⟨o69_13, x1⟩
        replace o69_13 := Ow.base o69_13 e0.size
        have e0 := e0.trans x1
        have o35_6 := o35_6.ext x1
        have o39_7 := o39_7.ext x1
        have o45_8 := o45_8.ext x1
        have o48_9 := o48_9.ext x1
        have o55_10 := o55_10.ext x1
        have o60_11 := o60_11.ext x1
        have o66_12 := o66_12.ext x1
        clear x1
        refine J.o_op_g rfl rfl rfl rfl (Yd.bstr Try.underlying22 Try.underlying5 Try.underlying9 rfl (Ow.rd o69_13)) rfl ?_
        refine J.o_op_g rfl rfl rfl rfl (Yd.seq rfl rfl) rfl ?_
        refine J.o_op rfl (Yd.pick_t rfl rfl) rfl ?_
        refine J.o_op rfl (Yd.move rfl) rfl ?_
        refine J.know (t := 73) (v' := .bool true) rfl (tt (by rfl)) ?_
        refine J.o_op_g rfl rfl rfl rfl (Yd.move rfl) rfl ?_
        refine J.o_op_g rfl rfl rfl rfl (Yd.move rfl) rfl ?_
        refine J.o_eff_g rfl rfl rfl rfl (Ye.call cl29 rfl (Little64_ok)) rfl (fun _ _ h => h.2) ?_
        rintro s75_14 w14 ⟨o75_14, x1⟩
        replace o75_14 := Ow.base o75_14 e0.size
        have e0 := e0.trans x1
        have o35_6 := o35_6.ext x1
        have o39_7 := o39_7.ext x1
        have o45_8 := o45_8.ext x1
        have o48_9 := o48_9.ext x1
        have o55_10 := o55_10.ext x1
        have o60_11 := o60_11.ext x1
        have o66_12 := o66_12.ext x1
        have o69_13 := o69_13.ext x1
        clear x1
        refine J.o_op_g rfl rfl rfl rfl (Yd.bstr Try.underlying22 Try.underlying5 Try.underlying9 rfl (Ow.rd o75_14)) rfl ?_
        refine J.o_eff_g rfl rfl rfl rfl (Ye.call cl32 rfl (RLittle_ok (n := 8) (by omega))) rfl (fun _ _ h => h.2) ?_
        rintro s78_15 w15 ⟨o78_15, x1⟩
        replace o78_15 := Ow.base o78_15 e0.size
        have e0 := e0.trans x1
        have o35_6 := o35_6.ext x1
        have o39_7 := o39_7.ext x1
        have o45_8 := o45_8.ext x1
        have o48_9 := o48_9.ext x1
        have o55_10 := o55_10.ext x1
        have o60_11 := o60_11.ext x1
        have o66_12 := o66_12.ext x1
        have o69_13 := o69_13.ext x1
        have o75_14 := o75_14.ext x1
        clear x1
        refine J.o_op_g rfl rfl rfl rfl (Yd.bstr Try.underlying22 Try.underlying5 Try.underlying9 rfl (Ow.rd o78_15)) rfl ?_
        refine J.o_nil ?_
        refine J.s_op_g rfl rfl rfl rfl (fun _ => Yd.seq rfl rfl) rfl ?_
        refine J.s_op rfl (fun _ => Yd.pick_t rfl rfl) rfl ?_
        refine J.s_op rfl (fun _ => Yd.move rfl) rfl ?_
        refine J.know (t := 82) (v' := .bool true) rfl (tt (by rfl)) ?_
        refine J.s_op_g rfl rfl rfl rfl (fun _ => Yd.move rfl) rfl ?_
        refine J.s_op_g rfl rfl rfl rfl (fun _ => Yd.move rfl) rfl ?_
        refine J.s_eff_g rfl rfl rfl rfl (Ye.call cl13 rfl (Get32_ok (Rd.ext ha e0))) rfl ?_
        rintro _ w16 ⟨rfl, x1⟩
        have e0 := e0.trans x1
        have o35_6 := o35_6.ext x1
        have o39_7 := o39_7.ext x1
        have o45_8 := o45_8.ext x1
        have o48_9 := o48_9.ext x1
        have o55_10 := o55_10.ext x1
        have o60_11 := o60_11.ext x1
        have o66_12 := o66_12.ext x1
        have o69_13 := o69_13.ext x1
        have o75_14 := o75_14.ext x1
        have o78_15 := o78_15.ext x1
        clear x1
        refine J.s_eff_g rfl rfl rfl rfl (Ye.call cl33 rfl (RGetBig_ok (n := 4) (Rd.ext ha e0) (by omega))) rfl ?_
        rintro _ w17 ⟨rfl, x1⟩
        have e0 := e0.trans x1
        have o35_6 := o35_6.ext x1
        have o39_7 := o39_7.ext x1
        have o45_8 := o45_8.ext x1
        have o48_9 := o48_9.ext x1
        have o55_10 := o55_10.ext x1
        have o60_11 := o60_11.ext x1
        have o66_12 := o66_12.ext x1
        have o69_13 := o69_13.ext x1
        have o75_14 := o75_14.ext x1
        have o78_15 := o78_15.ext x1
        clear x1
        refine J.s_op_g rfl rfl rfl rfl (fun _ => Yd.cv_64_32 Try.underlying23 Try.underlying28 rfl) rfl ?_
        refine J.s_op_g rfl rfl rfl rfl (fun _ => Yd.eql rfl rfl) rfl ?_
        refine J.s_op rfl (fun _ => Yd.pick_t rfl rfl) rfl ?_
        refine J.s_op rfl (fun _ => Yd.move rfl) rfl ?_
        refine J.know (t := 90) (v' := .bool true) rfl (tt (by rw [get64_top4])) ?_
        refine J.s_op_g rfl rfl rfl rfl (fun _ => Yd.move rfl) rfl ?_
        refine J.s_op_g rfl rfl rfl rfl (fun _ => Yd.move rfl) rfl ?_
        refine J.s_eff_g rfl rfl rfl rfl (Ye.call cl11 rfl (Get64_ok (Rd.ext ha e0))) rfl ?_
        rintro _ w18 ⟨rfl, x1⟩
        have e0 := e0.trans x1
        have o35_6 := o35_6.ext x1
        have o39_7 := o39_7.ext x1
        have o45_8 := o45_8.ext x1
        have o48_9 := o48_9.ext x1
        have o55_10 := o55_10.ext x1
        have o60_11 := o60_11.ext x1
        have o66_12 := o66_12.ext x1
        have o69_13 := o69_13.ext x1
        have o75_14 := o75_14.ext x1
        have o78_15 := o78_15.ext x1
        clear x1
        refine J.s_eff_g rfl rfl rfl rfl (Ye.call cl33 rfl (RGetBig_ok (n := 8) (Rd.ext ha e0) (by omega))) rfl ?_
        rintro _ w19 ⟨rfl, x1⟩
        have e0 := e0.trans x1
        have o35_6 := o35_6.ext x1
        have o39_7 := o39_7.ext x1
        have o45_8 := o45_8.ext x1
        have o48_9 := o48_9.ext x1
        have o55_10 := o55_10.ext x1
        have o60_11 := o60_11.ext x1
        have o66_12 := o66_12.ext x1
        have o69_13 := o69_13.ext x1
        have o75_14 := o75_14.ext x1
        have o78_15 := o78_15.ext x1
        clear x1
        refine J.s_op_g rfl rfl rfl rfl (fun _ => Yd.eql rfl rfl) rfl ?_
        refine J.s_op rfl (fun _ => Yd.pick_t rfl rfl) rfl ?_
        refine J.s_op rfl (fun _ => Yd.move rfl) rfl ?_
        refine J.know (t := 97) (v' := .bool true) rfl (tt (by rfl)) ?_
        refine J.s_eff_g rfl rfl rfl rfl (Ye.call cl9 rfl (awake_ok)) rfl ?_
        rintro _ w20 ⟨rfl, x1⟩
        have e0 := e0.trans x1
        have o35_6 := o35_6.ext x1
        have o39_7 := o39_7.ext x1
        have o45_8 := o45_8.ext x1
        have o48_9 := o48_9.ext x1
        have o55_10 := o55_10.ext x1
        have o60_11 := o60_11.ext x1
        have o66_12 := o66_12.ext x1
        have o69_13 := o69_13.ext x1
        have o75_14 := o75_14.ext x1
        have o78_15 := o78_15.ext x1
        clear x1
        refine J.s_op rfl (fun _ => Yd.pick_t rfl rfl) rfl ?_
        refine J.s_op rfl (fun _ => Yd.assign rfl) rfl ?_
        refine J.s_nil ?_
        refine J.n_np ?_
        refine J.n_then ?_
        refine J.ret ?_
        exact J.ret1 rfl rfl (⟨_, rfl, rfl, e0⟩)
end Ytonoafnjkpahjaa
end Go.Proofs
