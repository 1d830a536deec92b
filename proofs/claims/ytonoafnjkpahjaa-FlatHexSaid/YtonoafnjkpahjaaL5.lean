import Derived.Test.YtonoafnjkpahjaaT
import Derived.Test.YtonoafnjkpahjaaPl
import Derived.Test.YtonoafnjkpahjaaF6
set_option linter.unusedVariables false
set_option linter.unusedSimpArgs false
set_option maxRecDepth 100000
namespace Go.Proofs
open Go.X Go.RowKit
namespace Ytonoafnjkpahjaa
theorem FlatHex_ok {a : Value} {l m : List UInt8} {w : World} (ha : Bs w a l) : C Try.prog 5 [a, Str m] w (Ret fun v w' => v = .bool true ∧ Ext w w') := by
  have e0 := Ext.refl w
  refine C.enter Try.func5 rfl Try.ntmps5 rfl ?_
  refine J.seq ?_
  refine J.region ?_
  refine J.op (Yd.assign rfl) rfl ?_
  refine J.nil ?_
  refine J.n_then ?_
  refine J.seq ?_
  refine J.seq ?_
  refine J.region ?_
  refine J.op (Yd.move rfl) rfl ?_
  refine J.op (Yd.len_b Try.underlying22 rfl ha) rfl ?_
  refine J.op (Yd.gtr rfl rfl) rfl ?_
  refine J.op (Yd.move rfl) rfl ?_
  refine J.split_dec (t := 14) rfl (fun hla => ?_) (fun hla => ?_)
  · skip
    refine J.not_g rfl rfl rfl rfl rfl ?_
    refine J.not_g rfl rfl rfl rfl rfl ?_
    refine J.not_g rfl rfl rfl rfl rfl ?_
    refine J.op (Yd.pick_t rfl rfl) rfl ?_
    refine J.nil ?_
    refine J.n_then ?_
    refine J.cond_true rfl ?_
    refine J.seq ?_
    refine J.region ?_
    refine J.eff (Ye.call cl9 rfl (awake_ok)) rfl ?_
    rintro _ w1 ⟨rfl, x1⟩
    have e0 := e0.trans x1
    clear x1
    refine J.op (Yd.assign rfl) rfl ?_
    refine J.nil ?_
    refine J.n_then ?_
    refine J.ret ?_
    refine J.r_then ?_
    exact J.ret1 rfl rfl (⟨_, rfl, rfl, e0⟩)
  · skip
    refine J.op_g rfl rfl rfl (Yd.move rfl) rfl ?_
    refine J.op_g rfl rfl rfl (Yd.slen Try.underlying9 rfl) rfl ?_
    refine J.op_g rfl rfl rfl (Yd.gtr rfl rfl) rfl ?_
    refine J.op (Yd.pick_f rfl rfl) rfl ?_
    refine J.nil ?_
    refine J.n_then ?_
    refine J.cond_dec rfl (fun hlb => ?_) (fun hlb => ?_)
    · skip
      refine J.seq ?_
      refine J.region ?_
      refine J.eff (Ye.call cl9 rfl (awake_ok)) rfl ?_
      rintro _ w2 ⟨rfl, x1⟩
      have e0 := e0.trans x1
      clear x1
      refine J.op (Yd.assign rfl) rfl ?_
      refine J.nil ?_
      refine J.n_then ?_
      refine J.ret ?_
      refine J.r_then ?_
      exact J.ret1 rfl rfl (⟨_, rfl, rfl, e0⟩)
    · skip
      refine J.skip ?_
      refine J.n_then ?_
      refine J.seq ?_
      refine J.region ?_
      refine J.op (Yd.move rfl) rfl ?_
      refine J.eff (Ye.call cl23 rfl (Unhex_ok (by first | omega | (simp [hexL_len] <;> omega)))) rfl ?_
      rintro _ w3 ⟨⟨s22_3, rfl, o22_3⟩, x1⟩
      have e0 := e0.trans x1
      clear x1
      refine J.op (Yd.move rfl) rfl ?_
      refine J.op (Yd.extract rfl rfl) rfl ?_
      refine J.op (Yd.extract rfl rfl) rfl ?_
      refine J.op (Yd.assign rfl) rfl ?_
      refine J.op (Yd.assign rfl) rfl ?_
      refine J.nil ?_
      refine J.n_then ?_
      refine J.seq ?_
      refine J.region ?_
      refine J.op (Yd.move rfl) rfl ?_
      refine J.eff (Ye.call cl24 rfl (RUnhex_ok (by first | omega | (simp [hexL_len] <;> omega)))) rfl ?_
      rintro _ w4 ⟨⟨s27_4, rfl, o27_4⟩, x1⟩
      have e0 := e0.trans x1
      have o22_3 := o22_3.ext x1
      clear x1
      refine J.op (Yd.move rfl) rfl ?_
      refine J.op (Yd.extract rfl rfl) rfl ?_
      refine J.op (Yd.extract rfl rfl) rfl ?_
      refine J.op (Yd.assign rfl) rfl ?_
      refine J.op (Yd.assign rfl) rfl ?_
      refine J.nil ?_
      refine J.n_then ?_
      refine J.seq ?_
      refine J.region ?_
      refine J.op (Yd.move rfl) rfl ?_
      refine J.eff (Ye.call cl25 rfl (Hex_ok (Rd.ext ha e0) (by first | omega | simp))) rfl ?_
      rintro _ w5 ⟨rfl, x1⟩
      have e0 := e0.trans x1
      have o22_3 := o22_3.ext x1
      have o27_4 := o27_4.ext x1
      clear x1
      refine J.eff (Ye.call cl23 rfl (Unhex_ok (by first | omega | (simp [hexL_len] <;> omega)))) rfl ?_
      rintro _ w6 ⟨⟨s33_6, rfl, o33_6⟩, x1⟩
      have e0 := e0.trans x1
      have o22_3 := o22_3.ext x1
      have o27_4 := o27_4.ext x1
      clear x1
      refine J.op (Yd.move rfl) rfl ?_
      refine J.op (Yd.extract rfl rfl) rfl ?_
      refine J.op (Yd.extract rfl rfl) rfl ?_
      refine J.op (Yd.assign rfl) rfl ?_
      refine J.op (Yd.assign rfl) rfl ?_
      refine J.nil ?_
      refine J.n_then ?_
      refine J.seq ?_
      refine J.region ?_
      refine J.op (Yd.move rfl) rfl ?_
      refine J.op (Yd.bstr Try.underlying22 Try.underlying5 Try.underlying9 rfl o22_3) rfl ?_
      refine J.op (Yd.move rfl) rfl ?_
      refine J.op (Yd.bstr Try.underlying22 Try.underlying5 Try.underlying9 rfl o27_4) rfl ?_
      refine J.op (Yd.seq rfl rfl) rfl ?_
      refine J.op (Yd.move rfl) rfl ?_
      refine J.know (t := 41) (v' := .bool true) rfl (tt (by rfl)) ?_
      refine J.op_g rfl rfl rfl (Yd.move rfl) rfl ?_
      refine J.op_g rfl rfl rfl (Yd.move rfl) rfl ?_
      refine J.op_g rfl rfl rfl (Yd.eqlb rfl rfl Try.underlying4) rfl ?_
      refine J.op (Yd.pick_t rfl rfl) rfl ?_
      refine J.op (Yd.move rfl) rfl ?_
      refine J.know (t := 46) (v' := .bool true) rfl (tt (by rfl)) ?_
      refine J.op_g rfl rfl rfl (Yd.move rfl) rfl ?_
      refine J.eff_g rfl rfl rfl (Ye.call cl25 rfl (Hex_ok (Rd.ext ha e0) (by first | omega | simp))) rfl ?_
      rintro _ w7 ⟨rfl, x1⟩
      have e0 := e0.trans x1
      have o22_3 := o22_3.ext x1
      have o27_4 := o27_4.ext x1
      have o33_6 := o33_6.ext x1
      clear x1
      refine J.op_g rfl rfl rfl (Yd.move rfl) rfl ?_
      refine J.eff_g rfl rfl rfl (Ye.call cl26 rfl (RHex_ok (Rd.ext ha e0) (by first | omega | simp))) rfl ?_
      rintro _ w8 ⟨rfl, x1⟩
      have e0 := e0.trans x1
      have o22_3 := o22_3.ext x1
      have o27_4 := o27_4.ext x1
      have o33_6 := o33_6.ext x1
      clear x1
      refine J.op_g rfl rfl rfl (Yd.seq rfl rfl) rfl ?_
      refine J.op (Yd.pick_t rfl rfl) rfl ?_
      refine J.op (Yd.move rfl) rfl ?_
      refine J.know (t := 53) (v' := .bool true) rfl (tt (by rfl)) ?_
      refine J.op_g rfl rfl rfl (Yd.move rfl) rfl ?_
      refine J.op (Yd.pick_t rfl rfl) rfl ?_
      refine J.op (Yd.move rfl) rfl ?_
      refine J.know (t := 56) (v' := .bool true) rfl (congrArg Value.bool (okH_hex l)) ?_
      refine J.op_g rfl rfl rfl (Yd.move rfl) rfl ?_
      refine J.op_g rfl rfl rfl (Yd.bstr Try.underlying22 Try.underlying5 Try.underlying9 rfl o33_6) rfl ?_
      refine J.op_g rfl rfl rfl (Yd.move rfl) rfl ?_
      refine J.op_g rfl rfl rfl (Yd.bstr Try.underlying22 Try.underlying5 Try.underlying9 rfl (Rd.ext ha e0)) rfl ?_
      refine J.op_g rfl rfl rfl (Yd.seq rfl rfl) rfl ?_
      refine J.op (Yd.pick_t rfl rfl) rfl ?_
      refine J.op (Yd.move rfl) rfl ?_
      refine J.know (t := 63) (v' := .bool true) rfl (tt (by rw [unH_hex])) ?_
      refine J.eff_g rfl rfl rfl (Ye.call cl9 rfl (awake_ok)) rfl ?_
      rintro _ w9 ⟨rfl, x1⟩
      have e0 := e0.trans x1
      have o22_3 := o22_3.ext x1
      have o27_4 := o27_4.ext x1
      have o33_6 := o33_6.ext x1
      clear x1
      refine J.op (Yd.pick_t rfl rfl) rfl ?_
      refine J.op (Yd.assign rfl) rfl ?_
      refine J.nil ?_
      refine J.n_then ?_
      refine J.ret ?_
      exact J.ret1 rfl rfl (⟨_, rfl, rfl, e0⟩)
end Ytonoafnjkpahjaa
end Go.Proofs
