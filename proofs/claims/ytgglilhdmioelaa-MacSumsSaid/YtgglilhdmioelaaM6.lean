import Derived.Test.YtgglilhdmioelaaT
import Derived.Test.YtgglilhdmioelaaM5
set_option linter.unusedVariables false
set_option linter.unusedSimpArgs false
set_option maxRecDepth 100000
set_option maxHeartbeats 4000000
namespace Go.Proofs
open Go.X Go.RowKit
namespace Ytgglilhdmioelaa
theorem MacSums_ok {a sl : Value} {vs : List Value} {key : List UInt8} {ll : List (List UInt8)} {w : World} (ha : Bs w a key) (hl : Rl w sl vs ll) : C Try.prog 3 [a, sl] w (Ret fun v w' => v = .bool true ∧ Ext w w') := by
  have e0 := Ext.refl w
  refine C.enter Try.func3 rfl Try.ntmps3 rfl ?_
  refine J.seq ?_
  refine J.region ?_
  refine J.op (Yd.assign rfl) rfl ?_
  refine J.nil ?_
  refine J.n_then ?_
  refine J.seq ?_
  refine J.seq ?_
  refine J.region ?_
  refine J.op (Yd.move rfl) rfl ?_
  refine J.op (Yd.len_b Try.underlying22 rfl ha) rfl ?_
  refine J.op (Yd.gtr rfl rfl) rfl ?_
  refine J.op (Yd.move rfl) rfl ?_
  refine J.split_dec (t := 12) rfl (fun h1 => ?_) (fun h1 => ?_)
  · skip
    refine J.not_g rfl rfl rfl rfl rfl ?_
    refine J.not_g rfl rfl rfl rfl rfl ?_
    refine J.not_g rfl rfl rfl rfl rfl ?_
    refine J.op (Yd.pick_t rfl rfl) rfl ?_
    refine J.nil ?_
    refine J.n_then ?_
    refine J.cond_true rfl ?_
    refine J.seq ?_
    refine J.region ?_
    refine J.eff (Ye.call cl7 rfl (awake_ok)) rfl ?_
    rintro _ w1 ⟨rfl, x1⟩
    have e0 := e0.trans x1
    clear x1
    refine J.op (Yd.assign rfl) rfl ?_
    refine J.nil ?_
    refine J.n_then ?_
    refine J.ret ?_
    refine J.r_then ?_
    exact J.ret1 rfl rfl (⟨_, rfl, rfl, e0⟩)
  · skip
    refine J.op_g rfl rfl rfl (Yd.move rfl) rfl ?_
    refine J.eff_g rfl rfl rfl (Ye.call cl6 rfl (All_ok hl (by omega))) rfl ?_
    rintro _ w2 ⟨r, rfl, hr, htot, x1⟩
    have e0 := e0.trans x1
    clear x1
    refine J.op_g rfl rfl rfl (Yd.gtr rfl rfl) rfl ?_
    refine J.op (Yd.pick_f rfl rfl) rfl ?_
    refine J.nil ?_
    refine J.n_then ?_
    refine J.cond_dec rfl (fun hc0 => ?_) (fun hc0 => ?_)
    · skip
      refine J.seq ?_
      refine J.region ?_
      refine J.eff (Ye.call cl7 rfl (awake_ok)) rfl ?_
      rintro _ w3 ⟨rfl, x1⟩
      have e0 := e0.trans x1
      clear x1
      refine J.op (Yd.assign rfl) rfl ?_
      refine J.nil ?_
      refine J.n_then ?_
      refine J.ret ?_
      refine J.r_then ?_
      exact J.ret1 rfl rfl (⟨_, rfl, rfl, e0⟩)
    · skip
      have htot' := htot (by omega)
      refine J.skip ?_
      refine J.n_then ?_
      refine J.seq ?_
      refine J.region ?_
      refine J.op (Yd.move rfl) rfl ?_
      refine J.op (Yd.move rfl) rfl ?_
      refine J.eff (Ye.call cl9 rfl (ACat_ok (Rl.ext hl e0) (by first | omega | (simp [beN_len, leN_len, flipL_len, xorL_len] <;> omega)))) rfl ?_
      rintro s20_4 w4 ⟨os20_4, x1⟩
      have fr_s20_4 : Fr w.heap.size s20_4.ownBlock := Fr.le (Ow.fr os20_4) e0.size
      replace os20_4 := Ow.base os20_4 e0.size
      have e0 := e0.trans x1
      clear x1
      refine J.eff (Ye.call cl8 rfl (RMac_ok (Rd.ext ha e0) (Ow.rd os20_4) (by first | omega | (simp only [List.length_append, List.flatten_cons, List.flatten_nil, List.append_nil, padL_len, sha256L_len, macL_len, List.length_nil, List.length_cons, Int.toNat_natCast]; omega) | (simp <;> omega)) (by first | omega | (simp only [List.length_append, List.flatten_cons, List.flatten_nil, List.append_nil, padL_len, sha256L_len, macL_len, List.length_nil, List.length_cons, Int.toNat_natCast]; omega) | (simp <;> omega)))) rfl ?_
      rintro s21_5 w5 ⟨os21_5, x1⟩
      have ap_s20_4_s21_5 : Ap s20_4.ownBlock s21_5.ownBlock := Ap.mk (Ow.live os20_4) (Ow.fr os21_5)
      have fr_s21_5 : Fr w.heap.size s21_5.ownBlock := Fr.le (Ow.fr os21_5) e0.size
      replace os21_5 := Ow.base os21_5 e0.size
      have e0 := e0.trans x1
      have os20_4 := os20_4.ext x1
      clear x1
      refine J.op (Yd.bstr Try.underlying22 Try.underlying5 Try.underlying9 rfl (Ow.rd os21_5)) rfl ?_
      refine J.op (Yd.assign rfl) rfl ?_
      refine J.nil ?_
      refine J.n_then ?_
      refine J.seq ?_
      refine J.region ?_
      refine J.op (Yd.move rfl) rfl ?_
      refine J.eff (Ye.call cl10 rfl (NewKey_ok (Rd.ext ha e0) (by first | omega | (simp only [List.length_append, List.flatten_cons, List.flatten_nil, List.append_nil, padL_len, sha256L_len, macL_len, List.length_nil, List.length_cons, Int.toNat_natCast]; omega) | (simp <;> omega)))) rfl ?_
      rintro _ w6 ⟨b24_6, rfl, kb24_6, x1⟩
      have e0 := e0.trans x1
      have os20_4 := os20_4.ext x1
      have os21_5 := os21_5.ext x1
      clear x1
      refine J.op (Yd.assign rfl) rfl ?_
      refine J.nil ?_
      refine J.n_then ?_
      refine J.seq ?_
      refine J.seq ?_
      refine J.region ?_
      refine J.op (Yd.move rfl) rfl ?_
      refine J.op (Yd.cast (Yd.eqPn Try.underlying28 rfl rfl) (show _ = Value.bool false from rfl)) rfl ?_
      refine J.nil ?_
      refine J.n_then ?_
      refine J.cond_false rfl ?_
      refine J.skip ?_
      refine J.n_then ?_
      refine J.seq ?_
      refine J.region ?_
      refine J.op (Yd.move rfl) rfl ?_
      refine J.op (Yd.mkFunc rfl) rfl ?_
      refine J.op (Yd.assign rfl) rfl ?_
      refine J.nil ?_
      refine J.n_then ?_
      refine J.seq ?_
      refine J.region ?_
      refine J.op (Yd.assign rfl) rfl ?_
      refine J.nil ?_
      refine J.n_then ?_
      refine J.seq ?_
      refine J.region ?_
      refine J.op (Yd.move rfl) rfl ?_
      refine J.op (Yd.move rfl) rfl ?_
      refine J.eff (Ye.call cl12 rfl (Mac_ok (Rd.ext ha e0) (Rl.ext hl e0) (by first | omega | (simp only [List.length_append, List.flatten_cons, List.flatten_nil, List.append_nil, padL_len, sha256L_len, macL_len, List.length_nil, List.length_cons, Int.toNat_natCast]; omega) | (simp <;> omega)) (by first | omega | (simp only [List.length_append, List.flatten_cons, List.flatten_nil, List.append_nil, padL_len, sha256L_len, macL_len, List.length_nil, List.length_cons, Int.toNat_natCast]; omega) | (simp <;> omega)))) rfl ?_
      rintro s31_7 w7 ⟨os31_7, x1⟩
      have ap_s20_4_s31_7 : Ap s20_4.ownBlock s31_7.ownBlock := Ap.mk (Ow.live os20_4) (Ow.fr os31_7)
      have ap_s21_5_s31_7 : Ap s21_5.ownBlock s31_7.ownBlock := Ap.mk (Ow.live os21_5) (Ow.fr os31_7)
      have fr_s31_7 : Fr w.heap.size s31_7.ownBlock := Fr.le (Ow.fr os31_7) e0.size
      replace os31_7 := Ow.base os31_7 e0.size
      have e0 := e0.trans x1
      have os20_4 := os20_4.ext x1
      have os21_5 := os21_5.ext x1
      have kb24_6 := kb24_6.ext x1
      clear x1
      refine J.op (Yd.bstr Try.underlying22 Try.underlying5 Try.underlying9 rfl (Ow.rd os31_7)) rfl ?_
      refine J.op (Yd.move rfl) rfl ?_
      refine J.op (Yd.seq rfl rfl) rfl ?_
      refine J.op (Yd.move rfl) rfl ?_
      refine J.know (t := 35) (v' := .bool true) rfl (tt (by rfl)) ?_
      refine J.op_g rfl rfl rfl (Yd.move rfl) rfl ?_
      refine J.op_g rfl rfl rfl (Yd.move rfl) rfl ?_
      refine J.eff_g rfl rfl rfl (Ye.callv cl11 rfl rfl (KMac_ok kb24_6 (Rl.ext hl e0) (by first | omega | (simp only [List.length_append, List.flatten_cons, List.flatten_nil, List.append_nil, padL_len, sha256L_len, macL_len, List.length_nil, List.length_cons, Int.toNat_natCast]; omega) | (simp <;> omega)))) rfl ?_
      rintro s38_8 w8 ⟨os38_8, x1⟩
      have ap_s20_4_s38_8 : Ap s20_4.ownBlock s38_8.ownBlock := Ap.mk (Ow.live os20_4) (Ow.fr os38_8)
      have ap_s21_5_s38_8 : Ap s21_5.ownBlock s38_8.ownBlock := Ap.mk (Ow.live os21_5) (Ow.fr os38_8)
      have ap_s31_7_s38_8 : Ap s31_7.ownBlock s38_8.ownBlock := Ap.mk (Ow.live os31_7) (Ow.fr os38_8)
      have fr_s38_8 : Fr w.heap.size s38_8.ownBlock := Fr.le (Ow.fr os38_8) e0.size
      replace os38_8 := Ow.base os38_8 e0.size
      have e0 := e0.trans x1
      have os20_4 := os20_4.ext x1
      have os21_5 := os21_5.ext x1
      have kb24_6 := kb24_6.ext x1
      have os31_7 := os31_7.ext x1
      clear x1
      refine J.op_g rfl rfl rfl (Yd.bstr Try.underlying22 Try.underlying5 Try.underlying9 rfl (Ow.rd os38_8)) rfl ?_
      refine J.op_g rfl rfl rfl (Yd.move rfl) rfl ?_
      refine J.op_g rfl rfl rfl (Yd.seq rfl rfl) rfl ?_
      refine J.op (Yd.pick_t rfl rfl) rfl ?_
      refine J.op (Yd.move rfl) rfl ?_
      refine J.know (t := 43) (v' := .bool true) rfl (tt (by rfl)) ?_
      refine J.op_g rfl rfl rfl (Yd.move rfl) rfl ?_
      refine J.op_g rfl rfl rfl (Yd.move rfl) rfl ?_
      refine J.eff_g rfl rfl rfl (Ye.callv cl11 rfl rfl (KMac_ok kb24_6 (Rl.ext hl e0) (by first | omega | (simp only [List.length_append, List.flatten_cons, List.flatten_nil, List.append_nil, padL_len, sha256L_len, macL_len, List.length_nil, List.length_cons, Int.toNat_natCast]; omega) | (simp <;> omega)))) rfl ?_
      rintro s46_9 w9 ⟨os46_9, x1⟩
      have ap_s20_4_s46_9 : Ap s20_4.ownBlock s46_9.ownBlock := Ap.mk (Ow.live os20_4) (Ow.fr os46_9)
      have ap_s21_5_s46_9 : Ap s21_5.ownBlock s46_9.ownBlock := Ap.mk (Ow.live os21_5) (Ow.fr os46_9)
      have ap_s31_7_s46_9 : Ap s31_7.ownBlock s46_9.ownBlock := Ap.mk (Ow.live os31_7) (Ow.fr os46_9)
      have ap_s38_8_s46_9 : Ap s38_8.ownBlock s46_9.ownBlock := Ap.mk (Ow.live os38_8) (Ow.fr os46_9)
      have fr_s46_9 : Fr w.heap.size s46_9.ownBlock := Fr.le (Ow.fr os46_9) e0.size
      replace os46_9 := Ow.base os46_9 e0.size
      have e0 := e0.trans x1
      have os20_4 := os20_4.ext x1
      have os21_5 := os21_5.ext x1
      have kb24_6 := kb24_6.ext x1
      have os31_7 := os31_7.ext x1
      have os38_8 := os38_8.ext x1
      clear x1
      refine J.op_g rfl rfl rfl (Yd.bstr Try.underlying22 Try.underlying5 Try.underlying9 rfl (Ow.rd os46_9)) rfl ?_
      refine J.op_g rfl rfl rfl (Yd.move rfl) rfl ?_
      refine J.op_g rfl rfl rfl (Yd.seq rfl rfl) rfl ?_
      refine J.op (Yd.pick_t rfl rfl) rfl ?_
      refine J.op (Yd.move rfl) rfl ?_
      refine J.know (t := 51) (v' := .bool true) rfl (tt (by rfl)) ?_
      refine J.op_g rfl rfl rfl (Yd.move rfl) rfl ?_
      refine J.op_g rfl rfl rfl (Yd.move rfl) rfl ?_
      refine J.eff_g rfl rfl rfl (Ye.call cl11 rfl (KMacNil_ok)) rfl ?_
      rintro _ w10 ⟨rfl, x1⟩
      have e0 := e0.trans x1
      have os20_4 := os20_4.ext x1
      have os21_5 := os21_5.ext x1
      have kb24_6 := kb24_6.ext x1
      have os31_7 := os31_7.ext x1
      have os38_8 := os38_8.ext x1
      have os46_9 := os46_9.ext x1
      clear x1
      refine J.op_g rfl rfl rfl (Yd.len_nil Try.underlying22 rfl) rfl ?_
      refine J.op_g rfl rfl rfl (Yd.eql rfl rfl) rfl ?_
      refine J.op (Yd.pick_t rfl rfl) rfl ?_
      refine J.op (Yd.move rfl) rfl ?_
      refine J.know (t := 58) (v' := .bool true) rfl (tt (by rfl)) ?_
      refine J.eff_g rfl rfl rfl (Ye.call cl7 rfl (awake_ok)) rfl ?_
      rintro _ w11 ⟨rfl, x1⟩
      have e0 := e0.trans x1
      have os20_4 := os20_4.ext x1
      have os21_5 := os21_5.ext x1
      have kb24_6 := kb24_6.ext x1
      have os31_7 := os31_7.ext x1
      have os38_8 := os38_8.ext x1
      have os46_9 := os46_9.ext x1
      clear x1
      refine J.op (Yd.pick_t rfl rfl) rfl ?_
      refine J.op (Yd.assign rfl) rfl ?_
      refine J.nil ?_
      refine J.n_then ?_
      refine J.ret ?_
      exact J.ret1 rfl rfl (⟨_, rfl, rfl, e0⟩)
end Ytgglilhdmioelaa
end Go.Proofs
