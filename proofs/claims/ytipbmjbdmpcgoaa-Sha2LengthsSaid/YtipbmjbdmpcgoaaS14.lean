import Derived.Test.YtipbmjbdmpcgoaaT
import Derived.Test.YtipbmjbdmpcgoaaS13
set_option linter.unusedVariables false
set_option linter.unusedSimpArgs false
set_option maxRecDepth 100000
set_option maxHeartbeats 4000000
namespace Go.Proofs
open Go.X Go.RowKit
namespace Ytipbmjbdmpcgoaa
theorem Sha2Sums_ok {sl : Value} {vs : List Value} {ll : List (List UInt8)} {w : World} (hl : Rl w sl vs ll) : C Try.prog 3 [sl] w (Ret fun v w' => v = .bool true ∧ Ext w w') := by
  have e0 := Ext.refl w
  refine C.enter Try.func3 rfl Try.ntmps3 rfl ?_
  refine J.seq ?_
  refine J.region ?_
  refine J.op (Yd.assign rfl) rfl ?_
  refine J.nil ?_
  refine J.n_then ?_
  refine J.seq ?_
  refine J.seq ?_
  refine J.region ?_
  refine J.op (Yd.move rfl) rfl ?_
  refine J.eff (Ye.call cl7 rfl (All_ok hl (by omega))) rfl ?_
  rintro _ w1 ⟨r, rfl, hr, htot, x1⟩
  have e0 := e0.trans x1
  clear x1
  refine J.op (Yd.gtr rfl rfl) rfl ?_
  refine J.nil ?_
  refine J.n_then ?_
  refine J.cond_dec rfl (fun hc0 => ?_) (fun hc0 => ?_)
  · skip
    refine J.seq ?_
    refine J.region ?_
    refine J.eff (Ye.call cl8 rfl (awake_ok)) rfl ?_
    rintro _ w2 ⟨rfl, x1⟩
    have e0 := e0.trans x1
    clear x1
    refine J.op (Yd.assign rfl) rfl ?_
    refine J.nil ?_
    refine J.n_then ?_
    refine J.ret ?_
    refine J.r_then ?_
    exact J.ret1 rfl rfl (⟨_, rfl, rfl, e0⟩)
  · skip
    have htot' := htot (by omega)
    refine J.skip ?_
    refine J.n_then ?_
    refine J.seq ?_
    refine J.region ?_
    refine J.op (Yd.move rfl) rfl ?_
    refine J.eff (Ye.call cl9 rfl (ACat_ok (Rl.ext hl e0) (by first | omega | (simp [beN_len, leN_len, flipL_len, xorL_len] <;> omega)))) rfl ?_
    rintro s9_3 w3 ⟨os9_3, x1⟩
    have fr_s9_3 : Fr w.heap.size s9_3.ownBlock := Fr.le (Ow.fr os9_3) e0.size
    replace os9_3 := Ow.base os9_3 e0.size
    have e0 := e0.trans x1
    clear x1
    refine J.op (Yd.assign rfl) rfl ?_
    refine J.nil ?_
    refine J.n_then ?_
    refine J.seq ?_
    refine J.regionO [(0, true), (3, true), (1, false)] [(2, 1), (4, 0), (5, 1), (6, 1), (7, 1), (8, 1), (11, 1), (9, 0), (10, 1), (12, 0), (13, 1)] [(14, true), (15, true), (16, true), (17, false), (18, true), (19, true)] mix (by kernel_rfl) ?_
    refine J.s_op rfl (fun _ => Yd.move rfl) rfl ?_
    refine J.s_op rfl (fun _ => Yd.move rfl) rfl ?_
    refine J.s_eff rfl (Ye.call cl10 rfl (Sum256_ok (Rl.ext hl e0) (by first | omega | (simp only [Int.toNat_natCast]; omega) | (simp <;> omega)))) rfl ?_
    rintro s11_4 w4 ⟨os11_4, x1⟩
    have ap_s9_3_s11_4 : Ap s9_3.ownBlock s11_4.ownBlock := Ap.mk (Ow.live os9_3) (Ow.fr os11_4)
    have fr_s11_4 : Fr w.heap.size s11_4.ownBlock := Fr.le (Ow.fr os11_4) e0.size
    replace os11_4 := Ow.base os11_4 e0.size
    have e0 := e0.trans x1
    have os9_3 := os9_3.ext x1
    clear x1
    refine J.s_nil ?_
    refine J.o_op rfl (Yd.bstr Try.underlying25 Try.underlying5 Try.underlying9 rfl (Ow.rd os11_4)) rfl ?_
    refine J.o_eff rfl (Ye.call cl11 rfl (RSum256_ok (Ow.rd os9_3) (by first | omega | (simp <;> omega)))) rfl (fun _ _ h => h.2) ?_
    rintro s14_5 w5 ⟨os14_5, x1⟩
    have ap_s9_3_s14_5 : Ap s9_3.ownBlock s14_5.ownBlock := Ap.mk (Ow.live os9_3) (Ow.fr os14_5)
    have ap_s11_4_s14_5 : Ap s11_4.ownBlock s14_5.ownBlock := Ap.mk (Ow.live os11_4) (Ow.fr os14_5)
    have fr_s14_5 : Fr w.heap.size s14_5.ownBlock := Fr.le (Ow.fr os14_5) e0.size
    replace os14_5 := Ow.base os14_5 e0.size
    have e0 := e0.trans x1
    have os9_3 := os9_3.ext x1
    have os11_4 := os11_4.ext x1
    clear x1
    refine J.o_op rfl (Yd.bstr Try.underlying25 Try.underlying5 Try.underlying9 rfl (Ow.rd os14_5)) rfl ?_
    refine J.o_op rfl (Yd.seq rfl rfl) rfl ?_
    refine J.o_op rfl (Yd.move rfl) rfl ?_
    refine J.know (t := 17) (v' := .bool true) rfl (tt (by rfl)) ?_
    refine J.o_op_g rfl rfl rfl rfl (Yd.move rfl) rfl ?_
    refine J.o_op_g rfl rfl rfl rfl (Yd.move rfl) rfl ?_
    refine J.o_eff_g rfl rfl rfl rfl (Ye.call cl12 rfl (Sum512_ok (Rl.ext hl e0) (by first | omega | (simp <;> omega)))) rfl (fun _ _ h => h.2) ?_
    rintro s19_6 w6 ⟨os19_6, x1⟩
    have ap_s9_3_s19_6 : Ap s9_3.ownBlock s19_6.ownBlock := Ap.mk (Ow.live os9_3) (Ow.fr os19_6)
    have ap_s11_4_s19_6 : Ap s11_4.ownBlock s19_6.ownBlock := Ap.mk (Ow.live os11_4) (Ow.fr os19_6)
    have ap_s14_5_s19_6 : Ap s14_5.ownBlock s19_6.ownBlock := Ap.mk (Ow.live os14_5) (Ow.fr os19_6)
    have fr_s19_6 : Fr w.heap.size s19_6.ownBlock := Fr.le (Ow.fr os19_6) e0.size
    replace os19_6 := Ow.base os19_6 e0.size
    have e0 := e0.trans x1
    have os9_3 := os9_3.ext x1
    have os11_4 := os11_4.ext x1
    have os14_5 := os14_5.ext x1
    clear x1
    refine J.o_op_g rfl rfl rfl rfl (Yd.bstr Try.underlying25 Try.underlying5 Try.underlying9 rfl (Ow.rd os19_6)) rfl ?_
    refine J.o_eff_g rfl rfl rfl rfl (Ye.call cl13 rfl (RSum512_ok (Ow.rd os9_3) (by first | omega | (simp <;> omega)))) rfl (fun _ _ h => h.2) ?_
    rintro s22_7 w7 ⟨os22_7, x1⟩
    have ap_s9_3_s22_7 : Ap s9_3.ownBlock s22_7.ownBlock := Ap.mk (Ow.live os9_3) (Ow.fr os22_7)
    have ap_s11_4_s22_7 : Ap s11_4.ownBlock s22_7.ownBlock := Ap.mk (Ow.live os11_4) (Ow.fr os22_7)
    have ap_s14_5_s22_7 : Ap s14_5.ownBlock s22_7.ownBlock := Ap.mk (Ow.live os14_5) (Ow.fr os22_7)
    have ap_s19_6_s22_7 : Ap s19_6.ownBlock s22_7.ownBlock := Ap.mk (Ow.live os19_6) (Ow.fr os22_7)
    have fr_s22_7 : Fr w.heap.size s22_7.ownBlock := Fr.le (Ow.fr os22_7) e0.size
    replace os22_7 := Ow.base os22_7 e0.size
    have e0 := e0.trans x1
    have os9_3 := os9_3.ext x1
    have os11_4 := os11_4.ext x1
    have os14_5 := os14_5.ext x1
    have os19_6 := os19_6.ext x1
    clear x1
    refine J.o_op_g rfl rfl rfl rfl (Yd.bstr Try.underlying25 Try.underlying5 Try.underlying9 rfl (Ow.rd os22_7)) rfl ?_
    refine J.o_nil ?_
    refine J.s_op_g rfl rfl rfl rfl (fun _ => Yd.seq rfl rfl) rfl ?_
    refine J.s_op rfl (fun _ => Yd.pick_t rfl rfl) rfl ?_
    refine J.s_op rfl (fun _ => Yd.move rfl) rfl ?_
    refine J.know (t := 26) (v' := .bool true) rfl (tt (by rfl)) ?_
    refine J.s_eff_g rfl rfl rfl rfl (Ye.call cl8 rfl (awake_ok)) rfl ?_
    rintro _ w8 ⟨rfl, x1⟩
    have e0 := e0.trans x1
    have os9_3 := os9_3.ext x1
    have os11_4 := os11_4.ext x1
    have os14_5 := os14_5.ext x1
    have os19_6 := os19_6.ext x1
    have os22_7 := os22_7.ext x1
    clear x1
    refine J.s_op rfl (fun _ => Yd.pick_t rfl rfl) rfl ?_
    refine J.s_op rfl (fun _ => Yd.assign rfl) rfl ?_
    refine J.s_nil ?_
    refine J.n_np ?_
    refine J.n_then ?_
    refine J.ret ?_
    exact J.ret1 rfl rfl (⟨_, rfl, rfl, e0⟩)

theorem Sha2Lengths_ok {n : Int} {w : World} : C Try.prog 4 [I n] w (Ret fun v w' => v = .bool true ∧ Ext w w') := by
  have e0 := Ext.refl w
  refine C.enter Try.func4 rfl Try.ntmps4 rfl ?_
  refine J.seq ?_
  refine J.region ?_
  refine J.op (Yd.assign rfl) rfl ?_
  refine J.nil ?_
  refine J.n_then ?_
  refine J.seq ?_
  refine J.seq ?_
  refine J.region ?_
  refine J.op (Yd.move rfl) rfl ?_
  refine J.op (Yd.lss rfl rfl) rfl ?_
  refine J.op (Yd.move rfl) rfl ?_
  refine J.split_dec (t := 6) rfl (fun hneg => ?_) (fun hneg => ?_)
  · skip
    refine J.not_g rfl rfl rfl rfl rfl ?_
    refine J.not_g rfl rfl rfl rfl rfl ?_
    refine J.op (Yd.pick_t rfl rfl) rfl ?_
    refine J.nil ?_
    refine J.n_then ?_
    refine J.cond_true rfl ?_
    refine J.seq ?_
    refine J.region ?_
    refine J.eff (Ye.call cl8 rfl (awake_ok)) rfl ?_
    rintro _ w1 ⟨rfl, x1⟩
    have e0 := e0.trans x1
    clear x1
    refine J.op (Yd.assign rfl) rfl ?_
    refine J.nil ?_
    refine J.n_then ?_
    refine J.ret ?_
    refine J.r_then ?_
    exact J.ret1 rfl rfl (⟨_, rfl, rfl, e0⟩)
  · skip
    refine J.op_g rfl rfl rfl (Yd.move rfl) rfl ?_
    refine J.op_g rfl rfl rfl (Yd.gtr rfl rfl) rfl ?_
    refine J.op (Yd.pick_f rfl rfl) rfl ?_
    refine J.nil ?_
    refine J.n_then ?_
    refine J.cond_dec rfl (fun hc0 => ?_) (fun hc0 => ?_)
    · skip
      refine J.seq ?_
      refine J.region ?_
      refine J.eff (Ye.call cl8 rfl (awake_ok)) rfl ?_
      rintro _ w2 ⟨rfl, x1⟩
      have e0 := e0.trans x1
      clear x1
      refine J.op (Yd.assign rfl) rfl ?_
      refine J.nil ?_
      refine J.n_then ?_
      refine J.ret ?_
      refine J.r_then ?_
      exact J.ret1 rfl rfl (⟨_, rfl, rfl, e0⟩)
    · skip
      refine J.skip ?_
      refine J.n_then ?_
      refine J.seq ?_
      refine J.region ?_
      refine J.op (Yd.move rfl) rfl ?_
      refine J.eff (Ye.make (base := w.heap.size) Try.underlying25 ti5 rfl rfl (by first | omega | (simp only [Int.toNat_natCast]; omega) | (simp only [List.length_map, List.length_drop, List.length_take, List.length_append, List.length_replicate]; omega) | (simp [sha256L_len, sha512L_len] <;> omega)) (by first | omega | (simp only [Int.toNat_natCast]; omega) | (simp only [List.length_map, List.length_drop, List.length_take, List.length_append, List.length_replicate]; omega) | (simp [sha256L_len, sha512L_len] <;> omega)) (by unfold maxLen; omega) rfl (Nat.le_refl _)) rfl ?_
      rintro s12_3 w3 ⟨o12_3, x1⟩
      have fr_s12_3 : Fr w.heap.size s12_3.ownBlock := Fr.le (Ow.fr o12_3) e0.size
      replace o12_3 := Ow.base o12_3 e0.size
      have e0 := e0.trans x1
      clear x1
      rw [rep_B] at o12_3
      refine J.op (Yd.assign rfl) rfl ?_
      refine J.nil ?_
      refine J.n_then ?_
      refine J.seq ?_
      refine J.regionO [(0, true), (4, true), (1, false), (2, false)] [(3, 1), (5, 0), (6, 1), (7, 1), (8, 1), (9, 1), (13, 1), (10, 0), (11, 0), (12, 1), (14, 0), (15, 1)] [(16, true), (17, true), (18, true), (19, false), (20, true), (21, true)] mix (by kernel_rfl) ?_
      refine J.s_op rfl (fun _ => Yd.move rfl) rfl ?_
      refine J.s_op rfl (fun _ => Yd.move rfl) rfl ?_
      refine J.s_eff rfl (Ye.litS1 Try.underlying22 ti25 rfl rfl (Ow.rd o12_3)) rfl ?_
      rintro s14_4 w4 ⟨o14_4, x1⟩
      have e0 := e0.trans x1
      have o12_3 := o12_3.ext x1
      clear x1
      refine J.s_eff rfl (Ye.call cl10 rfl (Sum256_ok o14_4 (by first | omega | (simp only [Int.toNat_natCast]; omega) | (simp <;> omega)))) rfl ?_
      rintro s15_5 w5 ⟨os15_5, x1⟩
      have ap_s12_3_s15_5 : Ap s12_3.ownBlock s15_5.ownBlock := Ap.mk (Ow.live o12_3) (Ow.fr os15_5)
      have fr_s15_5 : Fr w.heap.size s15_5.ownBlock := Fr.le (Ow.fr os15_5) e0.size
      replace os15_5 := Ow.base os15_5 e0.size
      have e0 := e0.trans x1
      have o12_3 := o12_3.ext x1
      have o14_4 := o14_4.ext x1
      clear x1
      refine J.s_nil ?_
      refine J.o_op rfl (Yd.bstr Try.underlying25 Try.underlying5 Try.underlying9 rfl (Ow.rd os15_5)) rfl ?_
      refine J.o_eff rfl (Ye.call cl11 rfl (RSum256_ok (Ow.rd o12_3) (by first | omega | (simp <;> omega)))) rfl (fun _ _ h => h.2) ?_
      rintro s18_6 w6 ⟨os18_6, x1⟩
      have ap_s12_3_s18_6 : Ap s12_3.ownBlock s18_6.ownBlock := Ap.mk (Ow.live o12_3) (Ow.fr os18_6)
      have ap_s15_5_s18_6 : Ap s15_5.ownBlock s18_6.ownBlock := Ap.mk (Ow.live os15_5) (Ow.fr os18_6)
      have fr_s18_6 : Fr w.heap.size s18_6.ownBlock := Fr.le (Ow.fr os18_6) e0.size
      replace os18_6 := Ow.base os18_6 e0.size
      have e0 := e0.trans x1
      have o12_3 := o12_3.ext x1
      have o14_4 := o14_4.ext x1
      have os15_5 := os15_5.ext x1
      clear x1
      refine J.o_op rfl (Yd.bstr Try.underlying25 Try.underlying5 Try.underlying9 rfl (Ow.rd os18_6)) rfl ?_
      refine J.o_op rfl (Yd.seq rfl rfl) rfl ?_
      refine J.o_op rfl (Yd.move rfl) rfl ?_
      refine J.know (t := 21) (v' := .bool true) rfl (tt (by simp)) ?_
      refine J.o_op_g rfl rfl rfl rfl (Yd.move rfl) rfl ?_
      refine J.o_op_g rfl rfl rfl rfl (Yd.move rfl) rfl ?_
      refine J.o_eff_g rfl rfl rfl rfl (Ye.litS1 Try.underlying22 ti25 rfl rfl (Ow.rd o12_3)) rfl (fun _ _ h => h.2) ?_
      rintro s23_7 w7 ⟨o23_7, x1⟩
      have e0 := e0.trans x1
      have o12_3 := o12_3.ext x1
      have o14_4 := o14_4.ext x1
      have os15_5 := os15_5.ext x1
      have os18_6 := os18_6.ext x1
      clear x1
      refine J.o_eff_g rfl rfl rfl rfl (Ye.call cl12 rfl (Sum512_ok o23_7 (by first | omega | (simp <;> omega)))) rfl (fun _ _ h => h.2) ?_
      rintro s24_8 w8 ⟨os24_8, x1⟩
      have ap_s12_3_s24_8 : Ap s12_3.ownBlock s24_8.ownBlock := Ap.mk (Ow.live o12_3) (Ow.fr os24_8)
      have ap_s15_5_s24_8 : Ap s15_5.ownBlock s24_8.ownBlock := Ap.mk (Ow.live os15_5) (Ow.fr os24_8)
      have ap_s18_6_s24_8 : Ap s18_6.ownBlock s24_8.ownBlock := Ap.mk (Ow.live os18_6) (Ow.fr os24_8)
      have fr_s24_8 : Fr w.heap.size s24_8.ownBlock := Fr.le (Ow.fr os24_8) e0.size
      replace os24_8 := Ow.base os24_8 e0.size
      have e0 := e0.trans x1
      have o12_3 := o12_3.ext x1
      have o14_4 := o14_4.ext x1
      have os15_5 := os15_5.ext x1
      have os18_6 := os18_6.ext x1
      have o23_7 := o23_7.ext x1
      clear x1
      refine J.o_op_g rfl rfl rfl rfl (Yd.bstr Try.underlying25 Try.underlying5 Try.underlying9 rfl (Ow.rd os24_8)) rfl ?_
      refine J.o_eff_g rfl rfl rfl rfl (Ye.call cl13 rfl (RSum512_ok (Ow.rd o12_3) (by first | omega | (simp <;> omega)))) rfl (fun _ _ h => h.2) ?_
      rintro s27_9 w9 ⟨os27_9, x1⟩
      have ap_s12_3_s27_9 : Ap s12_3.ownBlock s27_9.ownBlock := Ap.mk (Ow.live o12_3) (Ow.fr os27_9)
      have ap_s15_5_s27_9 : Ap s15_5.ownBlock s27_9.ownBlock := Ap.mk (Ow.live os15_5) (Ow.fr os27_9)
      have ap_s18_6_s27_9 : Ap s18_6.ownBlock s27_9.ownBlock := Ap.mk (Ow.live os18_6) (Ow.fr os27_9)
      have ap_s24_8_s27_9 : Ap s24_8.ownBlock s27_9.ownBlock := Ap.mk (Ow.live os24_8) (Ow.fr os27_9)
      have fr_s27_9 : Fr w.heap.size s27_9.ownBlock := Fr.le (Ow.fr os27_9) e0.size
      replace os27_9 := Ow.base os27_9 e0.size
      have e0 := e0.trans x1
      have o12_3 := o12_3.ext x1
      have o14_4 := o14_4.ext x1
      have os15_5 := os15_5.ext x1
      have os18_6 := os18_6.ext x1
      have o23_7 := o23_7.ext x1
      have os24_8 := os24_8.ext x1
      clear x1
      refine J.o_op_g rfl rfl rfl rfl (Yd.bstr Try.underlying25 Try.underlying5 Try.underlying9 rfl (Ow.rd os27_9)) rfl ?_
      refine J.o_nil ?_
      refine J.s_op_g rfl rfl rfl rfl (fun _ => Yd.seq rfl rfl) rfl ?_
      refine J.s_op rfl (fun _ => Yd.pick_t rfl rfl) rfl ?_
      refine J.s_op rfl (fun _ => Yd.move rfl) rfl ?_
      refine J.know (t := 31) (v' := .bool true) rfl (tt (by simp)) ?_
      refine J.s_eff_g rfl rfl rfl rfl (Ye.call cl8 rfl (awake_ok)) rfl ?_
      rintro _ w10 ⟨rfl, x1⟩
      have e0 := e0.trans x1
      have o12_3 := o12_3.ext x1
      have o14_4 := o14_4.ext x1
      have os15_5 := os15_5.ext x1
      have os18_6 := os18_6.ext x1
      have o23_7 := o23_7.ext x1
      have os24_8 := os24_8.ext x1
      have os27_9 := os27_9.ext x1
      clear x1
      refine J.s_op rfl (fun _ => Yd.pick_t rfl rfl) rfl ?_
      refine J.s_op rfl (fun _ => Yd.assign rfl) rfl ?_
      refine J.s_nil ?_
      refine J.n_np ?_
      refine J.n_then ?_
      refine J.ret ?_
      exact J.ret1 rfl rfl (⟨_, rfl, rfl, e0⟩)
end Ytipbmjbdmpcgoaa
end Go.Proofs
