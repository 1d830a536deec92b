import Derived.Test.YtonoafnjkpahjaaT
import Derived.Test.YtonoafnjkpahjaaPg
import Derived.Test.YtonoafnjkpahjaaF2
set_option linter.unusedVariables false
set_option maxRecDepth 100000
namespace Go.Proofs
open Go.X Go.RowKit
namespace Ytonoafnjkpahjaa
theorem FlatBack_ok {a b : Value} {l m : List UInt8} {n : UInt64} {w : World} (ha : Bs w a l) (hb : Bs w b m) : C Try.prog 3 [a, b, W64 n] w (Ret fun v w' => v = .bool true ∧ Ext w w') := by
  have e0 := Ext.refl w
  refine C.enter Try.func3 rfl Try.ntmps3 rfl ?_
  refine J.seq ?_
  refine J.region ?_
  refine J.op (Yd.assign rfl) rfl ?_
  refine J.nil ?_
  refine J.n_then ?_
  refine J.seq ?_
  refine J.seq ?_
  refine J.region ?_
  refine J.op (Yd.move rfl) rfl ?_
  refine J.op (Yd.len_b Try.underlying22 rfl ha) rfl ?_
  refine J.op (Yd.gtr rfl rfl) rfl ?_
  refine J.op (Yd.move rfl) rfl ?_
  refine J.split_dec (t := 12) rfl (fun hla => ?_) (fun hla => ?_)
  · skip
    refine J.not_g rfl rfl rfl rfl rfl ?_
    refine J.not_g rfl rfl rfl rfl rfl ?_
    refine J.not_g rfl rfl rfl rfl rfl ?_
    refine J.op (Yd.pick_t rfl rfl) rfl ?_
    refine J.nil ?_
    refine J.n_then ?_
    refine J.cond_true rfl ?_
    refine J.seq ?_
    refine J.region ?_
    refine J.eff (Ye.call cl9 rfl (awake_ok)) rfl ?_
    rintro _ w1 ⟨rfl, x1⟩
    have e0 := e0.trans x1
    clear x1
    refine J.op (Yd.assign rfl) rfl ?_
    refine J.nil ?_
    refine J.n_then ?_
    refine J.ret ?_
    refine J.r_then ?_
    exact J.ret1 rfl rfl (⟨_, rfl, rfl, e0⟩)
  · skip
    refine J.op_g rfl rfl rfl (Yd.move rfl) rfl ?_
    refine J.op_g rfl rfl rfl (Yd.len_b Try.underlying22 rfl hb) rfl ?_
    refine J.op_g rfl rfl rfl (Yd.gtr rfl rfl) rfl ?_
    refine J.op (Yd.pick_f rfl rfl) rfl ?_
    refine J.nil ?_
    refine J.n_then ?_
    refine J.cond_dec rfl (fun hc0 => ?_) (fun hc0 => ?_)
    · skip
      refine J.seq ?_
      refine J.region ?_
      refine J.eff (Ye.call cl9 rfl (awake_ok)) rfl ?_
      rintro _ w2 ⟨rfl, x1⟩
      have e0 := e0.trans x1
      clear x1
      refine J.op (Yd.assign rfl) rfl ?_
      refine J.nil ?_
      refine J.n_then ?_
      refine J.ret ?_
      refine J.r_then ?_
      exact J.ret1 rfl rfl (⟨_, rfl, rfl, e0⟩)
    · skip
      refine J.skip ?_
      refine J.n_then ?_
      refine J.seq ?_
      refine J.region ?_
      refine J.op (Yd.move rfl) rfl ?_
      refine J.op (Yd.len_b Try.underlying22 rfl ha) rfl ?_
      refine J.op (Yd.move rfl) rfl ?_
      refine J.op (Yd.len_b Try.underlying22 rfl hb) rfl ?_
      refine J.op (Yd.cast (Yd.mini rfl rfl) (congrArg (fun x => I x) (minI _ _))) rfl ?_
      refine J.op (Yd.assign rfl) rfl ?_
      refine J.nil ?_
      refine J.n_then ?_
      refine J.seq ?_
      refine J.region ?_
      refine J.op (Yd.move rfl) rfl ?_
      refine J.op (Yd.move rfl) rfl ?_
      refine J.eff (Ye.call cl10 rfl (Xor_ok ha hb (by first | omega | (simp [xorL_len] <;> omega)))) rfl ?_
      rintro s25_3 w3 ⟨o25_3, x1⟩
      replace o25_3 := Ow.base o25_3 e0.size
      have e0 := e0.trans x1
      clear x1
      refine J.op (Yd.move rfl) rfl ?_
      refine J.eff (Ye.call cl10 rfl (Xor_ok (Ow.rd o25_3) (Rd.ext hb e0) (by first | omega | (simp [xorL_len] <;> omega)))) rfl ?_
      rintro s27_4 w4 ⟨o27_4, x1⟩
      replace o27_4 := Ow.base o27_4 e0.size
      have e0 := e0.trans x1
      have o25_3 := o25_3.ext x1
      clear x1
      refine J.op (Yd.assign rfl) rfl ?_
      refine J.nil ?_
      refine J.n_then ?_
      refine J.seq ?_
      refine J.regionO [(0, true), (2, true), (3, true)] [(1, 1), (4, 1), (5, 1), (6, 1), (7, 1), (8, 1), (11, 1), (9, 0), (10, 0), (12, 1), (13, 1), (14, 1), (15, 1), (16, 1), (19, 1), (20, 1), (17, 0), (18, 0), (21, 1), (22, 1), (23, 1), (24, 1), (25, 1), (27, 1), (28, 1), (26, 31)] [(30, false), (31, true), (32, true), (33, false), (34, true), (35, true)] mix (by kernel_rfl) ?_
      refine J.s_op rfl (fun _ => Yd.move rfl) rfl ?_
      refine J.s_op rfl (fun _ => Yd.move rfl) rfl ?_
      refine J.s_op rfl (fun _ => Yd.move rfl) rfl ?_
      refine J.s_nil ?_
      refine J.o_op rfl (Yd.bstr Try.underlying22 Try.underlying5 Try.underlying9 rfl (Ow.rd o27_4)) rfl ?_
      refine J.o_op rfl (Yd.slcH Try.underlying22 ti5 rfl (Rd.ext ha e0) rfl (by first | omega | (simp <;> omega))) rfl ?_
      refine J.o_op rfl (Yd.bstr Try.underlying22 Try.underlying5 Try.underlying9 rfl (Bs.slc (Rd.ext ha e0) (by first | omega | (simp <;> omega)) (by first | omega | (simp <;> omega)))) rfl ?_
      refine J.o_op rfl (Yd.seq rfl rfl) rfl ?_
      refine J.o_op rfl (Yd.move rfl) rfl ?_
      refine J.know (t := 35) (v' := .bool true) rfl (tt (by rw [xorL_xorL]; simp)) ?_
      refine J.o_op_g rfl rfl rfl rfl (Yd.move rfl) rfl ?_
      refine J.o_op_g rfl rfl rfl rfl (Yd.move rfl) rfl ?_
      refine J.o_eff_g rfl rfl rfl rfl (Ye.call cl12 rfl (Put64_ok)) rfl (fun _ _ h => h.2) ?_
      rintro s37_5 w5 ⟨o37_5, x1⟩
      replace o37_5 := Ow.base o37_5 e0.size
      have e0 := e0.trans x1
      have o25_3 := o25_3.ext x1
      have o27_4 := o27_4.ext x1
      clear x1
      refine J.o_eff_g rfl rfl rfl rfl (Ye.call cl11 rfl (Get64_ok (Ow.rd o37_5))) rfl (fun _ _ h => h.2) ?_
      rintro _ w6 ⟨rfl, x1⟩
      have e0 := e0.trans x1
      have o25_3 := o25_3.ext x1
      have o27_4 := o27_4.ext x1
      have o37_5 := o37_5.ext x1
      clear x1
      refine J.o_op_g rfl rfl rfl rfl (Yd.eql rfl rfl) rfl ?_
      refine J.o_op rfl (Yd.pick_t rfl rfl) rfl ?_
      refine J.o_op rfl (Yd.move rfl) rfl ?_
      refine J.know (t := 42) (v' := .bool true) rfl (tt (by rw [get64_beN])) ?_
      refine J.o_op_g rfl rfl rfl rfl (Yd.move rfl) rfl ?_
      refine J.o_op_g rfl rfl rfl rfl (Yd.cv_64_32 Try.underlying23 Try.underlying28 rfl) rfl ?_
      refine J.o_op_g rfl rfl rfl rfl (Yd.move rfl) rfl ?_
      refine J.o_op_g rfl rfl rfl rfl (Yd.cv_64_32 Try.underlying23 Try.underlying28 rfl) rfl ?_
      refine J.o_eff_g rfl rfl rfl rfl (Ye.call cl14 rfl (Put32_ok)) rfl (fun _ _ h => h.2) ?_
      rintro s45_7 w7 ⟨o45_7, x1⟩
      have e0 := e0.trans x1
      have o25_3 := o25_3.ext x1
      have o27_4 := o27_4.ext x1
      have o37_5 := o37_5.ext x1
      clear x1
      refine J.o_eff_g rfl rfl rfl rfl (Ye.call cl13 rfl (Get32_ok o45_7)) rfl (fun _ _ h => h.2) ?_
      rintro _ w8 ⟨rfl, x1⟩
      have e0 := e0.trans x1
      have o25_3 := o25_3.ext x1
      have o27_4 := o27_4.ext x1
      have o37_5 := o37_5.ext x1
      have o45_7 := o45_7.ext x1
      clear x1
      refine J.o_op_g rfl rfl rfl rfl (Yd.eql rfl rfl) rfl ?_
      refine J.o_op rfl (Yd.pick_t rfl rfl) rfl ?_
      refine J.o_op rfl (Yd.move rfl) rfl ?_
      refine J.know (t := 51) (v' := .bool true) rfl (tt (by rw [get32_put32])) ?_
      refine J.o_op_g rfl rfl rfl rfl (Yd.move rfl) rfl ?_
      refine J.o_op_g rfl rfl rfl rfl (Yd.move rfl) rfl ?_
      refine J.o_op_g rfl rfl rfl rfl (Yd.move rfl) rfl ?_
      refine J.o_op_g rfl rfl rfl rfl (Yd.len_b Try.underlying22 rfl (Rd.ext ha e0)) rfl ?_
      refine J.o_both (ι := Value × Value) (fun i => [(51, .bool true), (54, i.1), (57, i.2)]) (fun i w' => Ob w.heap.size 5 w' i.1 (xorL l l) ∧ Bs w' i.2 (List.replicate l.length 0) ∧ Ext w w') ?_ ?_ ?_
      · skip
        refine J.one_eff_g rfl rfl rfl rfl (Ye.call cl10 rfl (Xor_ok (Rd.ext ha e0) (Rd.ext ha e0) (by first | omega | (simp [xorL_len] <;> omega)))) rfl (fun _ _ h => h.2) ?_
        rintro s54_9 w9 ⟨o54_9, x1⟩
        replace o54_9 := Ow.base o54_9 e0.size
        have e0 := e0.trans x1
        have o25_3 := o25_3.ext x1
        have o27_4 := o27_4.ext x1
        have o37_5 := o37_5.ext x1
        have o45_7 := o45_7.ext x1
        clear x1
        refine J.one_eff_g rfl rfl rfl rfl (Ye.make (w.heap.size) Try.underlying22 ti5 rfl rfl (by first | omega | (simp <;> omega)) (by first | omega | (simp <;> omega)) (by unfold maxLen; omega) rfl (e0.size)) rfl (fun _ _ h => h.2) ?_
        rintro s57_10 w10 ⟨o57_10, x1⟩
        have e0 := e0.trans x1
        have o25_3 := o25_3.ext x1
        have o27_4 := o27_4.ext x1
        have o37_5 := o37_5.ext x1
        have o45_7 := o45_7.ext x1
        have o54_9 := o54_9.ext x1
        clear x1
        rw [rep_B] at o57_10
        exact J.at ((s54_9, s57_10)) ⟨rfl, rfl, rfl, trivial⟩ (⟨o54_9, by have h := (Ow.rd o57_10); rw [Int.toNat_natCast] at h; exact h, e0⟩)
      · skip
        refine J.one_eff_g rfl rfl rfl rfl (Ye.make (w.heap.size) Try.underlying22 ti5 rfl rfl (by first | omega | (simp <;> omega)) (by first | omega | (simp <;> omega)) (by unfold maxLen; omega) rfl (e0.size)) rfl (fun _ _ h => h.2) ?_
        rintro s57_11 w11 ⟨o57_11, x1⟩
        have e0 := e0.trans x1
        have o25_3 := o25_3.ext x1
        have o27_4 := o27_4.ext x1
        have o37_5 := o37_5.ext x1
        have o45_7 := o45_7.ext x1
        clear x1
        rw [rep_B] at o57_11
        refine J.one_eff_g rfl rfl rfl rfl (Ye.call cl10 rfl (Xor_ok (Rd.ext ha e0) (Rd.ext ha e0) (by first | omega | (simp [xorL_len] <;> omega)))) rfl (fun _ _ h => h.2) ?_
        rintro s54_12 w12 ⟨o54_12, x1⟩
        replace o54_12 := Ow.base o54_12 e0.size
        have e0 := e0.trans x1
        have o25_3 := o25_3.ext x1
        have o27_4 := o27_4.ext x1
        have o37_5 := o37_5.ext x1
        have o45_7 := o45_7.ext x1
        have o57_11 := o57_11.ext x1
        clear x1
        exact J.at ((s54_12, s57_11)) ⟨rfl, rfl, rfl, trivial⟩ (⟨o54_12, by have h := (Ow.rd o57_11); rw [Int.toNat_natCast] at h; exact h, e0⟩)
      · skip
        rintro ⟨x, y⟩ w13 ⟨hx, hy, e0⟩
        dsimp only at hx hy ⊢
        refine J.o_nil ?_
        refine J.s_eff_g rfl rfl rfl rfl (Ye.call cl15 rfl (Equal_ok (Ow.rd hx) hy)) rfl ?_
        rintro _ w14 ⟨rfl, x1⟩
        have e0 := e0.trans x1
        have hx := hx.ext x1
        have hy := hy.ext x1
        clear x1
        refine J.s_op rfl (fun _ => Yd.pick_t rfl rfl) rfl ?_
        refine J.s_op rfl (fun _ => Yd.move rfl) rfl ?_
        refine J.know (t := 60) (v' := .bool true) rfl (tt (by rw [xorL_self])) ?_
        refine J.s_eff_g rfl rfl rfl rfl (Ye.call cl9 rfl (awake_ok)) rfl ?_
        rintro _ w15 ⟨rfl, x1⟩
        have e0 := e0.trans x1
        have hx := hx.ext x1
        have hy := hy.ext x1
        clear x1
        refine J.s_op rfl (fun _ => Yd.pick_t rfl rfl) rfl ?_
        refine J.s_op rfl (fun _ => Yd.assign rfl) rfl ?_
        refine J.s_nil ?_
        refine J.n_np ?_
        refine J.n_then ?_
        refine J.ret ?_
        exact J.ret1 rfl rfl (⟨_, rfl, rfl, e0⟩)
end Ytonoafnjkpahjaa
end Go.Proofs
