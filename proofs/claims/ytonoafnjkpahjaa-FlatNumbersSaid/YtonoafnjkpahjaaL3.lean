import Derived.Test.YtonoafnjkpahjaaT
import Derived.Test.YtonoafnjkpahjaaPh
import Derived.Test.YtonoafnjkpahjaaF4
set_option linter.unusedVariables false
set_option linter.unusedSimpArgs false
set_option maxRecDepth 100000
namespace Go.Proofs
open Go.X Go.RowKit
namespace Ytonoafnjkpahjaa
theorem FlatNumbers_ok {b : Value} {n : UInt64} {m : List UInt8} {cut : Int} {w : World} (hb : Bs w b m) : C Try.prog 7 [W64 n, b, I cut] w (Ret fun v w' => v = .bool true ∧ Ext w w') := by
  have e0 := Ext.refl w
  refine C.enter Try.func7 rfl Try.ntmps7 rfl ?_
  refine J.seq ?_
  refine J.region ?_
  refine J.op (Yd.assign rfl) rfl ?_
  refine J.nil ?_
  refine J.n_then ?_
  refine J.seq ?_
  refine J.seq ?_
  refine J.region ?_
  refine J.op (Yd.move rfl) rfl ?_
  refine J.op (Yd.len_b Try.underlying22 rfl hb) rfl ?_
  refine J.op (Yd.gtr rfl rfl) rfl ?_
  refine J.nil ?_
  refine J.n_then ?_
  refine J.cond_dec rfl (fun hc0 => ?_) (fun hc0 => ?_)
  · skip
    refine J.seq ?_
    refine J.region ?_
    refine J.eff (Ye.call cl9 rfl (awake_ok)) rfl ?_
    rintro _ w1 ⟨rfl, x1⟩
    have e0 := e0.trans x1
    clear x1
    refine J.op (Yd.assign rfl) rfl ?_
    refine J.nil ?_
    refine J.n_then ?_
    refine J.ret ?_
    refine J.r_then ?_
    exact J.ret1 rfl rfl (⟨_, rfl, rfl, e0⟩)
  · skip
    refine J.skip ?_
    refine J.n_then ?_
    refine J.seq ?_
    refine J.region ?_
    refine J.op (Yd.move rfl) rfl ?_
    refine J.eff (Ye.call cl12 rfl (Put64_ok)) rfl ?_
    rintro s17_2 w2 ⟨o17_2, x1⟩
    replace o17_2 := Ow.base o17_2 e0.size
    have e0 := e0.trans x1
    clear x1
    refine J.op (Yd.assign rfl) rfl ?_
    refine J.nil ?_
    refine J.n_then ?_
    refine J.seq ?_
    refine J.region ?_
    refine J.op (Yd.move rfl) rfl ?_
    refine J.eff (Ye.call cl29 rfl (Little64_ok)) rfl ?_
    rintro s19_3 w3 ⟨o19_3, x1⟩
    replace o19_3 := Ow.base o19_3 e0.size
    have e0 := e0.trans x1
    have o17_2 := o17_2.ext x1
    clear x1
    refine J.op (Yd.assign rfl) rfl ?_
    refine J.nil ?_
    refine J.n_then ?_
    refine J.seq ?_
    refine J.seq ?_
    refine J.region ?_
    refine J.op (Yd.move rfl) rfl ?_
    refine J.op (Yd.len_b Try.underlying22 rfl (Ow.rd o17_2)) rfl ?_
    refine J.op (Yd.neq rfl rfl) rfl ?_
    refine J.op (Yd.move rfl) rfl ?_
    refine J.know (t := 23) (v' := .bool false) rfl (ff (by simp [beN_len])) ?_
    refine J.op_g rfl rfl rfl (Yd.move rfl) rfl ?_
    refine J.op_g rfl rfl rfl (Yd.len_b Try.underlying22 rfl (Ow.rd o19_3)) rfl ?_
    refine J.op_g rfl rfl rfl (Yd.neq rfl rfl) rfl ?_
    refine J.op (Yd.pick_f rfl rfl) rfl ?_
    refine J.op (Yd.move rfl) rfl ?_
    refine J.know (t := 28) (v' := .bool false) rfl (ff (by simp [leN_len])) ?_
    refine J.op_g rfl rfl rfl (Yd.move rfl) rfl ?_
    refine J.op_g rfl rfl rfl (Yd.move rfl) rfl ?_
    refine J.eff_g rfl rfl rfl (Ye.litS2 Try.underlying33 ti22 rfl rfl rfl (Ow.rd o17_2) (Rd.ext hb e0)) rfl ?_
    rintro s31_4 w4 ⟨o31_4, x1⟩
    have e0 := e0.trans x1
    have o17_2 := o17_2.ext x1
    have o19_3 := o19_3.ext x1
    clear x1
    refine J.eff_g rfl rfl rfl (Ye.call cl27 rfl (Cat_ok o31_4 (by first | omega | (simp [beN_len, leN_len, flipL_len, xorL_len] <;> omega)))) rfl ?_
    rintro s32_5 w5 ⟨o32_5, x1⟩
    replace o32_5 := Ow.base o32_5 e0.size
    have e0 := e0.trans x1
    have o17_2 := o17_2.ext x1
    have o19_3 := o19_3.ext x1
    have o31_4 := o31_4.ext x1
    clear x1
    refine J.eff_g rfl rfl rfl (Ye.call cl11 rfl (Get64_ok (Ow.rd o32_5))) rfl ?_
    rintro _ w6 ⟨rfl, x1⟩
    have e0 := e0.trans x1
    have o17_2 := o17_2.ext x1
    have o19_3 := o19_3.ext x1
    have o31_4 := o31_4.ext x1
    have o32_5 := o32_5.ext x1
    clear x1
    refine J.op_g rfl rfl rfl (Yd.move rfl) rfl ?_
    refine J.op_g rfl rfl rfl (Yd.neq rfl rfl) rfl ?_
    refine J.op (Yd.pick_f rfl rfl) rfl ?_
    refine J.nil ?_
    refine J.n_then ?_
    refine J.know (t := 36) (v' := .bool false) rfl (ff (by simp [get64_app])) ?_
    refine J.cond_false rfl ?_
    refine J.skip ?_
    refine J.n_then ?_
    refine J.seq ?_
    refine J.seq ?_
    refine J.region ?_
    refine J.op (Yd.assign rfl) rfl ?_
    refine J.nil ?_
    refine J.n_then ?_
    refine J.block ?_
    refine J.loop (ι := Nat) (fun i => [(0, W64 n), (1, b), (2, I cut), (7, s17_2), (8, s19_3), (9, I i)]) (fun i w' => i ≤ 8 ∧ Ob w.heap.size 5 w' s17_2 (beN n 8) ∧ Ob w.heap.size 5 w' s19_3 (leN n 8) ∧ Ext w w') (fun i => 8 - i) (0) ⟨rfl, rfl, rfl, rfl, rfl, rfl, trivial⟩ (⟨by omega, o17_2, o19_3, e0⟩) ?_
    rintro k w7 ⟨hk, hbe, hle, e0⟩
    have hl8 := beN_len n 8
    have hl9 := leN_len n 8
    refine J.seq ?_
    refine J.seq ?_
    refine J.region ?_
    refine J.op (Yd.move rfl) rfl ?_
    refine J.op (Yd.lss rfl rfl) rfl ?_
    refine J.nil ?_
    refine J.n_then ?_
    refine J.cond_dec rfl (fun hc2 => ?_) (fun hc2 => ?_)
    · skip
      refine J.skip ?_
      refine J.n_then ?_
      refine J.seq ?_
      refine J.block ?_
      refine J.seq ?_
      refine J.regionO [(0, true), (1, true), (4, true), (5, true), (6, true)] [(2, 1), (3, 1), (7, 1), (8, 1)] [(9, true), (10, true), (11, true), (12, true), (15, true), (16, true), (17, true), (18, true), (19, true), (20, true), (13, false), (14, false), (21, true), (22, true)] mix (by kernel_rfl) ?_
      refine J.s_op rfl (fun _ => Yd.move rfl) rfl ?_
      refine J.s_op rfl (fun _ => Yd.move rfl) rfl ?_
      refine J.s_op rfl (fun _ => Yd.move rfl) rfl ?_
      refine J.s_op rfl (fun _ => Yd.move rfl) rfl ?_
      refine J.s_op rfl (fun _ => Yd.sub rfl rfl (by first | omega | (simp only [Int.toNat_natCast]; omega) | (simp <;> omega))) rfl ?_
      refine J.s_nil ?_
      refine J.o_op rfl (Yd.idx_b Try.underlying22 ti5 rfl rfl (Ow.rd hbe) (by first | omega | (simp only [Int.toNat_natCast]; omega) | (simp <;> omega))) rfl ?_
      refine J.o_op rfl (Yd.load pl5 rfl (Bs.cell (Ow.rd hbe) (by first | omega | (simp only [Int.toNat_natCast]; omega) | (simp <;> omega)))) rfl ?_
      refine J.o_op rfl (Yd.idx_b Try.underlying22 ti5 rfl rfl (Ow.rd hle) (by first | omega | (simp only [Int.toNat_natCast]; omega) | (simp <;> omega))) rfl ?_
      refine J.o_op rfl (Yd.load pl5 rfl (Bs.cell (Ow.rd hle) (by first | omega | (simp only [Int.toNat_natCast]; omega) | (simp <;> omega)))) rfl ?_
      refine J.o_nil ?_
      refine J.s_op rfl (fun _ => Yd.neq rfl rfl) rfl ?_
      refine J.s_op rfl (fun _ => Yd.move rfl) rfl ?_
      refine J.know (t := 51) (v' := .bool false) rfl (ff (by rw [Int.toNat_natCast, show (7 - (k : Int)).toNat = 7 - k by omega, beN_leN n k (by omega)]; simp)) ?_
      refine J.s_op_g rfl rfl rfl rfl (fun _ => Yd.move rfl) rfl ?_
      refine J.s_op_g rfl rfl rfl rfl (fun _ => Yd.move rfl) rfl ?_
      refine J.s_op_g rfl rfl rfl rfl (fun _ => Yd.move rfl) rfl ?_
      refine J.s_op_g rfl rfl rfl rfl (fun _ => Yd.move rfl) rfl ?_
      refine J.s_op_g rfl rfl rfl rfl (fun _ => Yd.mul rfl rfl (by first | omega | (simp only [Int.toNat_natCast]; omega) | (simp <;> omega))) rfl ?_
      refine J.s_op_g rfl rfl rfl rfl (fun _ => Yd.sub rfl rfl (by first | omega | (simp only [Int.toNat_natCast]; omega) | (simp <;> omega))) rfl ?_
      refine J.s_op_g rfl rfl rfl rfl (fun _ => Yd.shr_u64 rfl rfl (by first | omega | (simp only [Int.toNat_natCast]; omega) | (simp <;> omega))) rfl ?_
      refine J.s_op_g rfl rfl rfl rfl (fun _ => Yd.cv_64_8 Try.underlying23 Try.underlying5 rfl) rfl ?_
      refine J.s_one_g rfl rfl rfl rfl (Yd.idx_b Try.underlying22 ti5 rfl rfl (Ow.rd hbe) (by first | omega | (simp only [Int.toNat_natCast]; omega) | (simp <;> omega))) rfl ?_
      refine J.s_one_g rfl rfl rfl rfl (Yd.load pl5 rfl (Bs.cell (Ow.rd hbe) (by first | omega | (simp only [Int.toNat_natCast]; omega) | (simp <;> omega)))) rfl ?_
      refine J.s_op_g rfl rfl rfl rfl (fun _ => Yd.neq rfl rfl) rfl ?_
      refine J.s_op rfl (fun _ => Yd.pick_f rfl rfl) rfl ?_
      refine J.s_nil ?_
      refine J.n_np ?_
      refine J.n_then ?_
      refine J.know (t := 63) (v' := .bool false) rfl (ff (by rw [Int.toNat_natCast, show (56 - 8 * (k : Int)).toNat = 8 * (7 - k) by omega, beN_shr n k (by omega)]; simp)) ?_
      refine J.cond_false rfl ?_
      refine J.skip ?_
      refine J.n_block ?_
      refine J.n_then ?_
      refine J.region ?_
      refine J.op (Yd.move rfl) rfl ?_
      refine J.op (Yd.add rfl rfl (by first | omega | (simp only [Int.toNat_natCast]; omega) | (simp <;> omega))) rfl ?_
      refine J.op (Yd.assign rfl) rfl ?_
      refine J.nil ?_
      refine J.n_then ?_
      exact J.round (k + 1) ⟨rfl, rfl, rfl, rfl, rfl, rfl, trivial⟩ (⟨by omega, hbe, hle, e0⟩) (by omega)
    · skip
      refine J.exit ?_
      refine J.x_then ?_
      refine J.x_then ?_
      refine J.x_block ?_
      refine J.n_then ?_
      refine J.seq ?_
      refine J.region ?_
      refine J.op (Yd.move rfl) rfl ?_
      refine J.eff (Ye.call cl19 rfl (Round_ok (by omega) (by omega))) rfl ?_
      rintro _ w8 ⟨rfl, x1⟩
      have e0 := e0.trans x1
      have hbe := hbe.ext x1
      have hle := hle.ext x1
      clear x1
      refine J.op (Yd.assign rfl) rfl ?_
      refine J.nil ?_
      refine J.n_then ?_
      refine J.seq ?_
      refine J.region ?_
      refine J.op (Yd.move rfl) rfl ?_
      refine J.op (Yd.assign rfl) rfl ?_
      refine J.nil ?_
      refine J.n_then ?_
      refine J.seq ?_
      refine J.seq ?_
      refine J.region ?_
      refine J.op (Yd.move rfl) rfl ?_
      refine J.op (Yd.lss rfl rfl) rfl ?_
      refine J.nil ?_
      refine J.n_then ?_
      refine J.cond_dec rfl (fun h8 => ?_) (fun h8 => ?_)
      · skip
        refine J.region ?_
        refine J.op (Yd.move rfl) rfl ?_
        refine J.op (Yd.move rfl) rfl ?_
        refine J.op (Yd.mul rfl rfl (by first | omega | (simp only [Int.toNat_natCast]; omega) | (simp <;> omega))) rfl ?_
        refine J.op (Yd.sub rfl rfl (by first | omega | (simp only [Int.toNat_natCast]; omega) | (simp <;> omega))) rfl ?_
        refine J.op (Yd.shr_u64 rfl rfl (by first | omega | (simp only [Int.toNat_natCast]; omega) | (simp <;> omega))) rfl ?_
        refine J.op (Yd.move rfl) rfl ?_
        refine J.op (Yd.mul rfl rfl (by first | omega | (simp only [Int.toNat_natCast]; omega) | (simp <;> omega))) rfl ?_
        refine J.op (Yd.sub rfl rfl (by first | omega | (simp only [Int.toNat_natCast]; omega) | (simp <;> omega))) rfl ?_
        refine J.op (Yd.shl_u64 rfl rfl (by first | omega | (simp only [Int.toNat_natCast]; omega) | (simp <;> omega))) rfl ?_
        refine J.op (Yd.assign rfl) rfl ?_
        refine J.nil ?_
        refine J.n_then ?_
        refine J.seq ?_
        refine J.region ?_
        refine J.op (Yd.move rfl) rfl ?_
        refine J.op (Yd.move rfl) rfl ?_
        refine J.op (Yd.slcH Try.underlying22 ti5 rfl (Ow.rd hbe) rfl (by first | omega | (simp only [Int.toNat_natCast]; omega) | (simp <;> omega))) rfl ?_
        refine J.eff (Ye.call cl11 rfl (Get64_ok (Bs.slc (Ow.rd hbe) (by first | omega | (simp only [Int.toNat_natCast]; omega) | (simp <;> omega)) (by first | omega | (simp only [Int.toNat_natCast]; omega) | (simp <;> omega))))) rfl ?_
        rintro _ w9 ⟨rfl, x1⟩
        have e0 := e0.trans x1
        have hbe := hbe.ext x1
        have hle := hle.ext x1
        clear x1
        refine J.op (Yd.move rfl) rfl ?_
        refine J.op (Yd.eql rfl rfl) rfl ?_
        refine J.op (Yd.move rfl) rfl ?_
        refine J.know (t := 84) (v' := .bool true) rfl (tt (by rw [cut_bytes n (cut % 9) (by omega) (by omega)]; try rw [shl_shr_all n (cut % 9) (by omega) (by omega)])) ?_
        refine J.eff_g rfl rfl rfl (Ye.call cl9 rfl (awake_ok)) rfl ?_
        rintro _ w10 ⟨rfl, x1⟩
        have e0 := e0.trans x1
        have hbe := hbe.ext x1
        have hle := hle.ext x1
        clear x1
        refine J.op (Yd.pick_t rfl rfl) rfl ?_
        refine J.op (Yd.assign rfl) rfl ?_
        refine J.nil ?_
        refine J.n_then ?_
        refine J.ret ?_
        exact J.ret1 rfl rfl (⟨_, rfl, rfl, e0⟩)
      · skip
        refine J.skip ?_
        refine J.n_then ?_
        refine J.seq ?_
        refine J.region ?_
        refine J.op (Yd.move rfl) rfl ?_
        refine J.op (Yd.move rfl) rfl ?_
        refine J.op (Yd.slcH Try.underlying22 ti5 rfl (Ow.rd hbe) rfl (by first | omega | (simp only [Int.toNat_natCast]; omega) | (simp <;> omega))) rfl ?_
        refine J.eff (Ye.call cl11 rfl (Get64_ok (Bs.slc (Ow.rd hbe) (by first | omega | (simp only [Int.toNat_natCast]; omega) | (simp <;> omega)) (by first | omega | (simp only [Int.toNat_natCast]; omega) | (simp <;> omega))))) rfl ?_
        rintro _ w11 ⟨rfl, x1⟩
        have e0 := e0.trans x1
        have hbe := hbe.ext x1
        have hle := hle.ext x1
        clear x1
        refine J.op (Yd.move rfl) rfl ?_
        refine J.op (Yd.eql rfl rfl) rfl ?_
        refine J.op (Yd.move rfl) rfl ?_
        refine J.know (t := 84) (v' := .bool true) rfl (tt (by rw [cut_bytes n (cut % 9) (by omega) (by omega)]; try rw [shl_shr_all n (cut % 9) (by omega) (by omega)])) ?_
        refine J.eff_g rfl rfl rfl (Ye.call cl9 rfl (awake_ok)) rfl ?_
        rintro _ w12 ⟨rfl, x1⟩
        have e0 := e0.trans x1
        have hbe := hbe.ext x1
        have hle := hle.ext x1
        clear x1
        refine J.op (Yd.pick_t rfl rfl) rfl ?_
        refine J.op (Yd.assign rfl) rfl ?_
        refine J.nil ?_
        refine J.n_then ?_
        refine J.ret ?_
        exact J.ret1 rfl rfl (⟨_, rfl, rfl, e0⟩)
end Ytonoafnjkpahjaa
end Go.Proofs
