import Derived.Test.YtpcbkeikhojmbaaT
import Derived.Test.YtpcbkeikhojmbaaK8
set_option linter.unusedVariables false
set_option linter.unusedSimpArgs false
set_option maxRecDepth 100000
set_option maxHeartbeats 4000000
namespace Go.Proofs
open Go.X Go.RowKit
namespace Ytpcbkeikhojmbaa
theorem Sha3Sums_ok {sl : Value} {vs : List Value} {ll : List (List UInt8)} {n : Int} {w : World} (hl : Rl w sl vs ll) : C Try.prog 4 [sl, I n] w (Ret fun v w' => v = .bool true ∧ Ext w w') := by
  have e0 := Ext.refl w
  refine C.enter Try.func4 rfl Try.ntmps4 rfl ?_
  refine J.seq ?_
  refine J.region ?_
  refine J.op (Yd.assign rfl) rfl ?_
  refine J.nil ?_
  refine J.n_then ?_
  refine J.seq ?_
  refine J.seq ?_
  refine J.region ?_
  refine J.op (Yd.move rfl) rfl ?_
  refine J.eff (Ye.call cl12 rfl (All_ok hl (by omega))) rfl ?_
  rintro _ w1 ⟨r, rfl, hr, htot, x1⟩
  have e0 := e0.trans x1
  clear x1
  refine J.op (Yd.gtr rfl rfl) rfl ?_
  refine J.op (Yd.move rfl) rfl ?_
  refine J.split_dec (t := 9) rfl (fun h1 => ?_) (fun h1 => ?_)
  · skip
    refine J.not_g rfl rfl rfl rfl rfl ?_
    refine J.not_g rfl rfl rfl rfl rfl ?_
    refine J.op (Yd.pick_t rfl rfl) rfl ?_
    refine J.nil ?_
    refine J.n_then ?_
    refine J.cond_true rfl ?_
    refine J.seq ?_
    refine J.region ?_
    refine J.eff (Ye.call cl11 rfl (awake_ok)) rfl ?_
    rintro _ w2 ⟨rfl, x1⟩
    have e0 := e0.trans x1
    clear x1
    refine J.op (Yd.assign rfl) rfl ?_
    refine J.nil ?_
    refine J.n_then ?_
    refine J.ret ?_
    refine J.r_then ?_
    exact J.ret1 rfl rfl (⟨_, rfl, rfl, e0⟩)
  · skip
    refine J.op_g rfl rfl rfl (Yd.move rfl) rfl ?_
    refine J.op_g rfl rfl rfl (Yd.gtr rfl rfl) rfl ?_
    refine J.op (Yd.pick_f rfl rfl) rfl ?_
    refine J.nil ?_
    refine J.n_then ?_
    refine J.cond_dec rfl (fun hc0 => ?_) (fun hc0 => ?_)
    · skip
      refine J.seq ?_
      refine J.region ?_
      refine J.eff (Ye.call cl11 rfl (awake_ok)) rfl ?_
      rintro _ w3 ⟨rfl, x1⟩
      have e0 := e0.trans x1
      clear x1
      refine J.op (Yd.assign rfl) rfl ?_
      refine J.nil ?_
      refine J.n_then ?_
      refine J.ret ?_
      refine J.r_then ?_
      exact J.ret1 rfl rfl (⟨_, rfl, rfl, e0⟩)
    · skip
      have htot' := htot (by omega)
      refine J.skip ?_
      refine J.n_then ?_
      refine J.seq ?_
      refine J.region ?_
      refine J.op (Yd.move rfl) rfl ?_
      refine J.eff (Ye.call cl13 rfl (ACat_ok (Rl.ext hl e0) (by first | omega | (simp [beN_len, leN_len, flipL_len, xorL_len] <;> omega)))) rfl ?_
      rintro s15_4 w4 ⟨os15_4, x1⟩
      have fr_s15_4 : Fr w.heap.size s15_4.ownBlock := Fr.le (Ow.fr os15_4) e0.size
      replace os15_4 := Ow.base os15_4 e0.size
      have e0 := e0.trans x1
      clear x1
      refine J.op (Yd.assign rfl) rfl ?_
      refine J.nil ?_
      refine J.n_then ?_
      refine J.seq ?_
      refine J.regionO [(0, true), (3, true), (1, false)] [(2, 1), (4, 0), (5, 1), (6, 1), (7, 1), (8, 1), (11, 1), (9, 0), (10, 1), (12, 0), (13, 1), (14, 1), (15, 1), (16, 1), (17, 1), (18, 1), (21, 1), (22, 1), (19, 0), (20, 1), (23, 0), (24, 1), (25, 1), (26, 1), (27, 1), (28, 1), (29, 1), (32, 1), (33, 1), (30, 0), (31, 1), (34, 0), (35, 1)] [(36, true), (37, true), (38, true), (39, false), (40, true), (41, true)] mix (by kernel_rfl) ?_
      refine J.s_op rfl (fun _ => Yd.move rfl) rfl ?_
      refine J.s_op rfl (fun _ => Yd.move rfl) rfl ?_
      refine J.s_eff rfl (Ye.call cl14 rfl (Sum256_ok (Rl.ext hl e0) (by first | omega | assumption))) rfl ?_
      rintro s17_5 w5 ⟨os17_5, x1⟩
      have ap_s15_4_s17_5 : Ap s15_4.ownBlock s17_5.ownBlock := Ap.mk (Ow.live os15_4) (Ow.fr os17_5)
      have fr_s17_5 : Fr w.heap.size s17_5.ownBlock := Fr.le (Ow.fr os17_5) e0.size
      replace os17_5 := Ow.base os17_5 e0.size
      have e0 := e0.trans x1
      have os15_4 := os15_4.ext x1
      clear x1
      refine J.s_nil ?_
      refine J.o_op rfl (Yd.bstr Try.underlying31 Try.underlying5 Try.underlying9 rfl (Ow.rd os17_5)) rfl ?_
      refine J.o_eff rfl (Ye.call cl15 rfl (RSha3_ok (R := 136) (by decide) rfl (Ow.rd os15_4) (by first | omega | assumption) (by decide))) rfl (fun _ _ h => h.2) ?_
      rintro s20_6 w6 ⟨os20_6, x1⟩
      have ap_s15_4_s20_6 : Ap s15_4.ownBlock s20_6.ownBlock := Ap.mk (Ow.live os15_4) (Ow.fr os20_6)
      have ap_s17_5_s20_6 : Ap s17_5.ownBlock s20_6.ownBlock := Ap.mk (Ow.live os17_5) (Ow.fr os20_6)
      have fr_s20_6 : Fr w.heap.size s20_6.ownBlock := Fr.le (Ow.fr os20_6) e0.size
      replace os20_6 := Ow.base os20_6 e0.size
      have e0 := e0.trans x1
      have os15_4 := os15_4.ext x1
      have os17_5 := os17_5.ext x1
      clear x1
      refine J.o_op rfl (Yd.bstr Try.underlying31 Try.underlying5 Try.underlying9 rfl (Ow.rd os20_6)) rfl ?_
      refine J.o_op rfl (Yd.seq rfl rfl) rfl ?_
      refine J.o_op rfl (Yd.move rfl) rfl ?_
      refine J.know (t := 23) (v' := .bool true) rfl (tt (by rfl)) ?_
      refine J.o_op_g rfl rfl rfl rfl (Yd.move rfl) rfl ?_
      refine J.o_op_g rfl rfl rfl rfl (Yd.move rfl) rfl ?_
      refine J.o_eff_g rfl rfl rfl rfl (Ye.call cl16 rfl (Sum512_ok (Rl.ext hl e0) (by first | omega | assumption))) rfl (fun _ _ h => h.2) ?_
      rintro s25_7 w7 ⟨os25_7, x1⟩
      have ap_s15_4_s25_7 : Ap s15_4.ownBlock s25_7.ownBlock := Ap.mk (Ow.live os15_4) (Ow.fr os25_7)
      have ap_s17_5_s25_7 : Ap s17_5.ownBlock s25_7.ownBlock := Ap.mk (Ow.live os17_5) (Ow.fr os25_7)
      have ap_s20_6_s25_7 : Ap s20_6.ownBlock s25_7.ownBlock := Ap.mk (Ow.live os20_6) (Ow.fr os25_7)
      have fr_s25_7 : Fr w.heap.size s25_7.ownBlock := Fr.le (Ow.fr os25_7) e0.size
      replace os25_7 := Ow.base os25_7 e0.size
      have e0 := e0.trans x1
      have os15_4 := os15_4.ext x1
      have os17_5 := os17_5.ext x1
      have os20_6 := os20_6.ext x1
      clear x1
      refine J.o_op_g rfl rfl rfl rfl (Yd.bstr Try.underlying31 Try.underlying5 Try.underlying9 rfl (Ow.rd os25_7)) rfl ?_
      refine J.o_eff_g rfl rfl rfl rfl (Ye.call cl15 rfl (RSha3_ok (R := 72) (by decide) rfl (Ow.rd os15_4) (by first | omega | assumption) (by decide))) rfl (fun _ _ h => h.2) ?_
      rintro s28_8 w8 ⟨os28_8, x1⟩
      have ap_s15_4_s28_8 : Ap s15_4.ownBlock s28_8.ownBlock := Ap.mk (Ow.live os15_4) (Ow.fr os28_8)
      have ap_s17_5_s28_8 : Ap s17_5.ownBlock s28_8.ownBlock := Ap.mk (Ow.live os17_5) (Ow.fr os28_8)
      have ap_s20_6_s28_8 : Ap s20_6.ownBlock s28_8.ownBlock := Ap.mk (Ow.live os20_6) (Ow.fr os28_8)
      have ap_s25_7_s28_8 : Ap s25_7.ownBlock s28_8.ownBlock := Ap.mk (Ow.live os25_7) (Ow.fr os28_8)
      have fr_s28_8 : Fr w.heap.size s28_8.ownBlock := Fr.le (Ow.fr os28_8) e0.size
      replace os28_8 := Ow.base os28_8 e0.size
      have e0 := e0.trans x1
      have os15_4 := os15_4.ext x1
      have os17_5 := os17_5.ext x1
      have os20_6 := os20_6.ext x1
      have os25_7 := os25_7.ext x1
      clear x1
      refine J.o_op_g rfl rfl rfl rfl (Yd.bstr Try.underlying31 Try.underlying5 Try.underlying9 rfl (Ow.rd os28_8)) rfl ?_
      refine J.o_op_g rfl rfl rfl rfl (Yd.seq rfl rfl) rfl ?_
      refine J.o_op rfl (Yd.pick_t rfl rfl) rfl ?_
      refine J.o_op rfl (Yd.move rfl) rfl ?_
      refine J.know (t := 32) (v' := .bool true) rfl (tt (by rfl)) ?_
      refine J.o_op_g rfl rfl rfl rfl (Yd.move rfl) rfl ?_
      refine J.o_op_g rfl rfl rfl rfl (Yd.move rfl) rfl ?_
      refine J.o_op_g rfl rfl rfl rfl (Yd.move rfl) rfl ?_
      refine J.o_op_g rfl rfl rfl rfl (Yd.move rfl) rfl ?_
      refine J.o_eff_g rfl rfl rfl rfl (Ye.call cl17 rfl (Shake128_ok (Rl.ext hl e0) (by first | omega | assumption))) rfl (fun _ _ h => h.2) ?_
      rintro s35_9 w9 ⟨os35_9, x1⟩
      have ap_s15_4_s35_9 : Ap s15_4.ownBlock s35_9.ownBlock := Ap.mk (Ow.live os15_4) (Ow.fr os35_9)
      have ap_s17_5_s35_9 : Ap s17_5.ownBlock s35_9.ownBlock := Ap.mk (Ow.live os17_5) (Ow.fr os35_9)
      have ap_s20_6_s35_9 : Ap s20_6.ownBlock s35_9.ownBlock := Ap.mk (Ow.live os20_6) (Ow.fr os35_9)
      have ap_s25_7_s35_9 : Ap s25_7.ownBlock s35_9.ownBlock := Ap.mk (Ow.live os25_7) (Ow.fr os35_9)
      have ap_s28_8_s35_9 : Ap s28_8.ownBlock s35_9.ownBlock := Ap.mk (Ow.live os28_8) (Ow.fr os35_9)
      have fr_s35_9 : Fr w.heap.size s35_9.ownBlock := Fr.le (Ow.fr os35_9) e0.size
      replace os35_9 := Ow.base os35_9 e0.size
      have e0 := e0.trans x1
      have os15_4 := os15_4.ext x1
      have os17_5 := os17_5.ext x1
      have os20_6 := os20_6.ext x1
      have os25_7 := os25_7.ext x1
      have os28_8 := os28_8.ext x1
      clear x1
      refine J.o_op_g rfl rfl rfl rfl (Yd.bstr Try.underlying31 Try.underlying5 Try.underlying9 rfl (Ow.rd os35_9)) rfl ?_
      refine J.o_eff_g rfl rfl rfl rfl (Ye.call cl18 rfl (RShake_ok (R := 168) (by decide) rfl (Ow.rd os15_4) (by first | omega | assumption))) rfl (fun _ _ h => h.2) ?_
      rintro s39_10 w10 ⟨os39_10, x1⟩
      have ap_s15_4_s39_10 : Ap s15_4.ownBlock s39_10.ownBlock := Ap.mk (Ow.live os15_4) (Ow.fr os39_10)
      have ap_s17_5_s39_10 : Ap s17_5.ownBlock s39_10.ownBlock := Ap.mk (Ow.live os17_5) (Ow.fr os39_10)
      have ap_s20_6_s39_10 : Ap s20_6.ownBlock s39_10.ownBlock := Ap.mk (Ow.live os20_6) (Ow.fr os39_10)
      have ap_s25_7_s39_10 : Ap s25_7.ownBlock s39_10.ownBlock := Ap.mk (Ow.live os25_7) (Ow.fr os39_10)
      have ap_s28_8_s39_10 : Ap s28_8.ownBlock s39_10.ownBlock := Ap.mk (Ow.live os28_8) (Ow.fr os39_10)
      have ap_s35_9_s39_10 : Ap s35_9.ownBlock s39_10.ownBlock := Ap.mk (Ow.live os35_9) (Ow.fr os39_10)
      have fr_s39_10 : Fr w.heap.size s39_10.ownBlock := Fr.le (Ow.fr os39_10) e0.size
      replace os39_10 := Ow.base os39_10 e0.size
      have e0 := e0.trans x1
      have os15_4 := os15_4.ext x1
      have os17_5 := os17_5.ext x1
      have os20_6 := os20_6.ext x1
      have os25_7 := os25_7.ext x1
      have os28_8 := os28_8.ext x1
      have os35_9 := os35_9.ext x1
      clear x1
      refine J.o_op_g rfl rfl rfl rfl (Yd.bstr Try.underlying31 Try.underlying5 Try.underlying9 rfl (Ow.rd os39_10)) rfl ?_
      refine J.o_op_g rfl rfl rfl rfl (Yd.seq rfl rfl) rfl ?_
      refine J.o_op rfl (Yd.pick_t rfl rfl) rfl ?_
      refine J.o_op rfl (Yd.move rfl) rfl ?_
      refine J.know (t := 43) (v' := .bool true) rfl (tt (by rfl)) ?_
      refine J.o_op_g rfl rfl rfl rfl (Yd.move rfl) rfl ?_
      refine J.o_op_g rfl rfl rfl rfl (Yd.move rfl) rfl ?_
      refine J.o_op_g rfl rfl rfl rfl (Yd.move rfl) rfl ?_
      refine J.o_op_g rfl rfl rfl rfl (Yd.move rfl) rfl ?_
      refine J.o_eff_g rfl rfl rfl rfl (Ye.call cl19 rfl (Shake256_ok (Rl.ext hl e0) (by first | omega | assumption))) rfl (fun _ _ h => h.2) ?_
      rintro s46_11 w11 ⟨os46_11, x1⟩
      have ap_s15_4_s46_11 : Ap s15_4.ownBlock s46_11.ownBlock := Ap.mk (Ow.live os15_4) (Ow.fr os46_11)
      have ap_s17_5_s46_11 : Ap s17_5.ownBlock s46_11.ownBlock := Ap.mk (Ow.live os17_5) (Ow.fr os46_11)
      have ap_s20_6_s46_11 : Ap s20_6.ownBlock s46_11.ownBlock := Ap.mk (Ow.live os20_6) (Ow.fr os46_11)
      have ap_s25_7_s46_11 : Ap s25_7.ownBlock s46_11.ownBlock := Ap.mk (Ow.live os25_7) (Ow.fr os46_11)
      have ap_s28_8_s46_11 : Ap s28_8.ownBlock s46_11.ownBlock := Ap.mk (Ow.live os28_8) (Ow.fr os46_11)
      have ap_s35_9_s46_11 : Ap s35_9.ownBlock s46_11.ownBlock := Ap.mk (Ow.live os35_9) (Ow.fr os46_11)
      have ap_s39_10_s46_11 : Ap s39_10.ownBlock s46_11.ownBlock := Ap.mk (Ow.live os39_10) (Ow.fr os46_11)
      have fr_s46_11 : Fr w.heap.size s46_11.ownBlock := Fr.le (Ow.fr os46_11) e0.size
      replace os46_11 := Ow.base os46_11 e0.size
      have e0 := e0.trans x1
      have os15_4 := os15_4.ext x1
      have os17_5 := os17_5.ext x1
      have os20_6 := os20_6.ext x1
      have os25_7 := os25_7.ext x1
      have os28_8 := os28_8.ext x1
      have os35_9 := os35_9.ext x1
      have os39_10 := os39_10.ext x1
      clear x1
      refine J.o_op_g rfl rfl rfl rfl (Yd.bstr Try.underlying31 Try.underlying5 Try.underlying9 rfl (Ow.rd os46_11)) rfl ?_
      refine J.o_eff_g rfl rfl rfl rfl (Ye.call cl18 rfl (RShake_ok (R := 136) (by decide) rfl (Ow.rd os15_4) (by first | omega | assumption))) rfl (fun _ _ h => h.2) ?_
      rintro s50_12 w12 ⟨os50_12, x1⟩
      have ap_s15_4_s50_12 : Ap s15_4.ownBlock s50_12.ownBlock := Ap.mk (Ow.live os15_4) (Ow.fr os50_12)
      have ap_s17_5_s50_12 : Ap s17_5.ownBlock s50_12.ownBlock := Ap.mk (Ow.live os17_5) (Ow.fr os50_12)
      have ap_s20_6_s50_12 : Ap s20_6.ownBlock s50_12.ownBlock := Ap.mk (Ow.live os20_6) (Ow.fr os50_12)
      have ap_s25_7_s50_12 : Ap s25_7.ownBlock s50_12.ownBlock := Ap.mk (Ow.live os25_7) (Ow.fr os50_12)
      have ap_s28_8_s50_12 : Ap s28_8.ownBlock s50_12.ownBlock := Ap.mk (Ow.live os28_8) (Ow.fr os50_12)
      have ap_s35_9_s50_12 : Ap s35_9.ownBlock s50_12.ownBlock := Ap.mk (Ow.live os35_9) (Ow.fr os50_12)
      have ap_s39_10_s50_12 : Ap s39_10.ownBlock s50_12.ownBlock := Ap.mk (Ow.live os39_10) (Ow.fr os50_12)
      have ap_s46_11_s50_12 : Ap s46_11.ownBlock s50_12.ownBlock := Ap.mk (Ow.live os46_11) (Ow.fr os50_12)
      have fr_s50_12 : Fr w.heap.size s50_12.ownBlock := Fr.le (Ow.fr os50_12) e0.size
      replace os50_12 := Ow.base os50_12 e0.size
      have e0 := e0.trans x1
      have os15_4 := os15_4.ext x1
      have os17_5 := os17_5.ext x1
      have os20_6 := os20_6.ext x1
      have os25_7 := os25_7.ext x1
      have os28_8 := os28_8.ext x1
      have os35_9 := os35_9.ext x1
      have os39_10 := os39_10.ext x1
      have os46_11 := os46_11.ext x1
      clear x1
      refine J.o_op_g rfl rfl rfl rfl (Yd.bstr Try.underlying31 Try.underlying5 Try.underlying9 rfl (Ow.rd os50_12)) rfl ?_
      refine J.o_nil ?_
      refine J.s_op_g rfl rfl rfl rfl (fun _ => Yd.seq rfl rfl) rfl ?_
      refine J.s_op rfl (fun _ => Yd.pick_t rfl rfl) rfl ?_
      refine J.s_op rfl (fun _ => Yd.move rfl) rfl ?_
      refine J.know (t := 54) (v' := .bool true) rfl (tt (by rfl)) ?_
      refine J.s_eff_g rfl rfl rfl rfl (Ye.call cl11 rfl (awake_ok)) rfl ?_
      rintro _ w13 ⟨rfl, x1⟩
      have e0 := e0.trans x1
      have os15_4 := os15_4.ext x1
      have os17_5 := os17_5.ext x1
      have os20_6 := os20_6.ext x1
      have os25_7 := os25_7.ext x1
      have os28_8 := os28_8.ext x1
      have os35_9 := os35_9.ext x1
      have os39_10 := os39_10.ext x1
      have os46_11 := os46_11.ext x1
      have os50_12 := os50_12.ext x1
      clear x1
      refine J.s_op rfl (fun _ => Yd.pick_t rfl rfl) rfl ?_
      refine J.s_op rfl (fun _ => Yd.assign rfl) rfl ?_
      refine J.s_nil ?_
      refine J.n_np ?_
      refine J.n_then ?_
      refine J.ret ?_
      exact J.ret1 rfl rfl (⟨_, rfl, rfl, e0⟩)
end Ytpcbkeikhojmbaa
end Go.Proofs
