import Derived.Test.YtonoafnjkpahjaaT
import Derived.Test.YtonoafnjkpahjaaPh
import Derived.Test.YtonoafnjkpahjaaF4
set_option linter.unusedVariables false
set_option linter.unusedSimpArgs false
set_option maxRecDepth 100000
namespace Go.Proofs
open Go.X Go.RowKit
namespace Ytonoafnjkpahjaa
theorem FlatEquals_ok {a : Value} {l : List UInt8} {bit : Int} {w : World} (ha : Bs w a l) : C Try.prog 6 [a, I bit] w (Ret fun v w' => v = .bool true ∧ Ext w w') := by
  have e0 := Ext.refl w
  refine C.enter Try.func6 rfl Try.ntmps6 rfl ?_
  refine J.seq ?_
  refine J.region ?_
  refine J.op (Yd.assign rfl) rfl ?_
  refine J.nil ?_
  refine J.n_then ?_
  refine J.seq ?_
  refine J.seq ?_
  refine J.region ?_
  refine J.op (Yd.move rfl) rfl ?_
  refine J.op (Yd.len_b Try.underlying22 rfl ha) rfl ?_
  refine J.op (Yd.eql rfl rfl) rfl ?_
  refine J.op (Yd.move rfl) rfl ?_
  refine J.split_dec (t := 8) rfl (fun hz => ?_) (fun hz => ?_)
  · skip
    refine J.not_g rfl rfl rfl rfl rfl ?_
    refine J.not_g rfl rfl rfl rfl rfl ?_
    refine J.not_g rfl rfl rfl rfl rfl ?_
    refine J.op (Yd.pick_t rfl rfl) rfl ?_
    refine J.nil ?_
    refine J.n_then ?_
    refine J.cond_true rfl ?_
    refine J.seq ?_
    refine J.region ?_
    refine J.eff (Ye.call cl9 rfl (awake_ok)) rfl ?_
    rintro _ w1 ⟨rfl, x1⟩
    have e0 := e0.trans x1
    clear x1
    refine J.op (Yd.assign rfl) rfl ?_
    refine J.nil ?_
    refine J.n_then ?_
    refine J.ret ?_
    refine J.r_then ?_
    exact J.ret1 rfl rfl (⟨_, rfl, rfl, e0⟩)
  · skip
    refine J.op_g rfl rfl rfl (Yd.move rfl) rfl ?_
    refine J.op_g rfl rfl rfl (Yd.len_b Try.underlying22 rfl ha) rfl ?_
    refine J.op_g rfl rfl rfl (Yd.gtr rfl rfl) rfl ?_
    refine J.op (Yd.pick_f rfl rfl) rfl ?_
    refine J.nil ?_
    refine J.n_then ?_
    refine J.cond_dec rfl (fun hc0 => ?_) (fun hc0 => ?_)
    · skip
      refine J.seq ?_
      refine J.region ?_
      refine J.eff (Ye.call cl9 rfl (awake_ok)) rfl ?_
      rintro _ w2 ⟨rfl, x1⟩
      have e0 := e0.trans x1
      clear x1
      refine J.op (Yd.assign rfl) rfl ?_
      refine J.nil ?_
      refine J.n_then ?_
      refine J.ret ?_
      refine J.r_then ?_
      exact J.ret1 rfl rfl (⟨_, rfl, rfl, e0⟩)
    · skip
      refine J.skip ?_
      refine J.n_then ?_
      refine J.seq ?_
      refine J.region ?_
      refine J.op (Yd.move rfl) rfl ?_
      refine J.op (Yd.move rfl) rfl ?_
      refine J.eff (Ye.litS1 Try.underlying33 ti22 rfl rfl ha) rfl ?_
      rintro s16_3 w3 ⟨o16_3, x1⟩
      have e0 := e0.trans x1
      clear x1
      refine J.eff (Ye.call cl27 rfl (Cat_ok o16_3 (by first | omega | (simp [beN_len, leN_len, flipL_len, xorL_len] <;> omega)))) rfl ?_
      rintro s17_4 w4 ⟨o17_4, x1⟩
      replace o17_4 := Ow.base o17_4 e0.size
      have e0 := e0.trans x1
      have o16_3 := o16_3.ext x1
      clear x1
      refine J.eff (Ye.call cl15 rfl (Equal_ok (Rd.ext ha e0) (Ow.rd o17_4))) rfl ?_
      rintro _ w5 ⟨rfl, x1⟩
      have e0 := e0.trans x1
      have o16_3 := o16_3.ext x1
      have o17_4 := o17_4.ext x1
      clear x1
      refine J.op (Yd.move rfl) rfl ?_
      refine J.know (t := 19) (v' := .bool true) rfl (tt (by simp)) ?_
      refine J.op_g rfl rfl rfl (Yd.move rfl) rfl ?_
      refine J.op_g rfl rfl rfl (Yd.move rfl) rfl ?_
      refine J.op_g rfl rfl rfl (Yd.move rfl) rfl ?_
      refine J.op_g rfl rfl rfl (Yd.len_b Try.underlying22 rfl (Rd.ext ha e0)) rfl ?_
      refine J.op_g rfl rfl rfl (Yd.sub rfl rfl (by first | omega | (simp only [Int.toNat_natCast]; omega) | (simp <;> omega))) rfl ?_
      refine J.op_g rfl rfl rfl (Yd.slcH Try.underlying22 ti5 rfl (Rd.ext ha e0) rfl (by first | omega | (simp only [Int.toNat_natCast]; omega) | (simp <;> omega))) rfl ?_
      refine J.eff_g rfl rfl rfl (Ye.call cl15 rfl (Equal_ok (Rd.ext ha e0) (Bs.slc (Rd.ext ha e0) (by first | omega | (simp only [Int.toNat_natCast]; omega) | (simp <;> omega)) (by first | omega | (simp only [Int.toNat_natCast]; omega) | (simp <;> omega))))) rfl ?_
      rintro _ w6 ⟨rfl, x1⟩
      have e0 := e0.trans x1
      have o16_3 := o16_3.ext x1
      have o17_4 := o17_4.ext x1
      clear x1
      refine J.op_g rfl rfl rfl (Yd.not_dec rfl) rfl ?_
      refine J.op (Yd.pick_t rfl rfl) rfl ?_
      refine J.op (Yd.move rfl) rfl ?_
      refine J.know (t := 29) (v' := .bool true) rfl (tt (by intro h; have h2 := congrArg List.length h; simp at h2; omega)) ?_
      refine J.op_g rfl rfl rfl (Yd.move rfl) rfl ?_
      refine J.op_g rfl rfl rfl (Yd.move rfl) rfl ?_
      refine J.eff_g rfl rfl rfl (Ye.lit1 (base := w.heap.size) (f := (fun x : UInt8 => B x)) (u := 0) Try.underlying22 ti5 rfl rfl (fun _ => rfl) e0.size) rfl ?_
      rintro s32_7 w7 ⟨o32_7, x1⟩
      have e0 := e0.trans x1
      have o16_3 := o16_3.ext x1
      have o17_4 := o17_4.ext x1
      clear x1
      refine J.eff_g rfl rfl rfl (Ye.litS2 Try.underlying33 ti22 rfl rfl rfl (Rd.ext ha e0) (Ow.rd o32_7)) rfl ?_
      rintro s33_8 w8 ⟨o33_8, x1⟩
      have e0 := e0.trans x1
      have o16_3 := o16_3.ext x1
      have o17_4 := o17_4.ext x1
      have o32_7 := o32_7.ext x1
      clear x1
      refine J.eff_g rfl rfl rfl (Ye.call cl27 rfl (Cat_ok o33_8 (by first | omega | (simp [beN_len, leN_len, flipL_len, xorL_len] <;> omega)))) rfl ?_
      rintro s34_9 w9 ⟨o34_9, x1⟩
      replace o34_9 := Ow.base o34_9 e0.size
      have e0 := e0.trans x1
      have o16_3 := o16_3.ext x1
      have o17_4 := o17_4.ext x1
      have o32_7 := o32_7.ext x1
      have o33_8 := o33_8.ext x1
      clear x1
      refine J.eff_g rfl rfl rfl (Ye.call cl15 rfl (Equal_ok (Rd.ext ha e0) (Ow.rd o34_9))) rfl ?_
      rintro _ w10 ⟨rfl, x1⟩
      have e0 := e0.trans x1
      have o16_3 := o16_3.ext x1
      have o17_4 := o17_4.ext x1
      have o32_7 := o32_7.ext x1
      have o33_8 := o33_8.ext x1
      have o34_9 := o34_9.ext x1
      clear x1
      refine J.op_g rfl rfl rfl (Yd.not_dec rfl) rfl ?_
      refine J.op (Yd.pick_t rfl rfl) rfl ?_
      refine J.op (Yd.move rfl) rfl ?_
      refine J.know (t := 38) (v' := .bool true) rfl (tt (by intro h; have h2 := congrArg List.length h; simp at h2)) ?_
      refine J.op_g rfl rfl rfl (Yd.move rfl) rfl ?_
      refine J.op_g rfl rfl rfl (Yd.move rfl) rfl ?_
      refine J.op_g rfl rfl rfl (Yd.move rfl) rfl ?_
      refine J.eff_g rfl rfl rfl (Ye.call cl28 rfl (Flip_ok (Rd.ext ha e0) (by omega))) rfl ?_
      rintro s42_11 w11 ⟨o42_11, x1⟩
      replace o42_11 := Ow.base o42_11 e0.size
      have e0 := e0.trans x1
      have o16_3 := o16_3.ext x1
      have o17_4 := o17_4.ext x1
      have o32_7 := o32_7.ext x1
      have o33_8 := o33_8.ext x1
      have o34_9 := o34_9.ext x1
      clear x1
      refine J.eff_g rfl rfl rfl (Ye.call cl15 rfl (Equal_ok (Rd.ext ha e0) (Ow.rd o42_11))) rfl ?_
      rintro _ w12 ⟨rfl, x1⟩
      have e0 := e0.trans x1
      have o16_3 := o16_3.ext x1
      have o17_4 := o17_4.ext x1
      have o32_7 := o32_7.ext x1
      have o33_8 := o33_8.ext x1
      have o34_9 := o34_9.ext x1
      have o42_11 := o42_11.ext x1
      clear x1
      refine J.op_g rfl rfl rfl (Yd.not_dec rfl) rfl ?_
      refine J.op (Yd.pick_t rfl rfl) rfl ?_
      refine J.op (Yd.move rfl) rfl ?_
      refine J.know (t := 46) (v' := .bool true) rfl (tt (by exact fun h => flipL_ne l bit (by omega) h.symm)) ?_
      refine J.op_g rfl rfl rfl (Yd.move rfl) rfl ?_
      refine J.op_g rfl rfl rfl (Yd.move rfl) rfl ?_
      refine J.eff_g rfl rfl rfl (Ye.call cl28 rfl (Flip_ok (Rd.ext ha e0) (by omega))) rfl ?_
      rintro s49_13 w13 ⟨o49_13, x1⟩
      replace o49_13 := Ow.base o49_13 e0.size
      have e0 := e0.trans x1
      have o16_3 := o16_3.ext x1
      have o17_4 := o17_4.ext x1
      have o32_7 := o32_7.ext x1
      have o33_8 := o33_8.ext x1
      have o34_9 := o34_9.ext x1
      have o42_11 := o42_11.ext x1
      clear x1
      refine J.op_g rfl rfl rfl (Yd.move rfl) rfl ?_
      refine J.eff_g rfl rfl rfl (Ye.call cl15 rfl (Equal_ok (Ow.rd o49_13) (Rd.ext ha e0))) rfl ?_
      rintro _ w14 ⟨rfl, x1⟩
      have e0 := e0.trans x1
      have o16_3 := o16_3.ext x1
      have o17_4 := o17_4.ext x1
      have o32_7 := o32_7.ext x1
      have o33_8 := o33_8.ext x1
      have o34_9 := o34_9.ext x1
      have o42_11 := o42_11.ext x1
      have o49_13 := o49_13.ext x1
      clear x1
      refine J.op_g rfl rfl rfl (Yd.not_dec rfl) rfl ?_
      refine J.op (Yd.pick_t rfl rfl) rfl ?_
      refine J.op (Yd.move rfl) rfl ?_
      refine J.know (t := 54) (v' := .bool true) rfl (tt (by exact flipL_ne l bit (by omega))) ?_
      refine J.eff_g rfl rfl rfl (Ye.call cl9 rfl (awake_ok)) rfl ?_
      rintro _ w15 ⟨rfl, x1⟩
      have e0 := e0.trans x1
      have o16_3 := o16_3.ext x1
      have o17_4 := o17_4.ext x1
      have o32_7 := o32_7.ext x1
      have o33_8 := o33_8.ext x1
      have o34_9 := o34_9.ext x1
      have o42_11 := o42_11.ext x1
      have o49_13 := o49_13.ext x1
      clear x1
      refine J.op (Yd.pick_t rfl rfl) rfl ?_
      refine J.op (Yd.assign rfl) rfl ?_
      refine J.nil ?_
      refine J.n_then ?_
      refine J.ret ?_
      exact J.ret1 rfl rfl (⟨_, rfl, rfl, e0⟩)
end Ytonoafnjkpahjaa
end Go.Proofs
