import Derived.Test.YtfefphcmfhabiaaT
import Derived.Test.YtfefphcmfhabiaaPA
set_option linter.unusedVariables false
set_option linter.unusedSimpArgs false
set_option maxRecDepth 100000
set_option maxHeartbeats 4000000
namespace Go.Proofs
open Go.X Go.RowKit
namespace Ytfefphcmfhabiaa
theorem EqualB_ok {a b : Value} {l m : List UInt8} {w : World} (ha : Bs w a l) (hb : Bs w b m) : C Try.prog 52 [a, b] w (Ret fun v w' => v = .bool (decide (l = m)) ∧ Ext w w') := by
  have e0 := Ext.refl w
  refine C.enter Try.func52 rfl Try.ntmps52 rfl ?_
  refine J.seq ?_
  refine J.region ?_
  refine J.op (Yd.assign rfl) rfl ?_
  refine J.nil ?_
  refine J.n_then ?_
  refine J.seq ?_
  refine J.seq ?_
  refine J.region ?_
  refine J.op (Yd.move rfl) rfl ?_
  refine J.op (Yd.len_b Try.underlying29 rfl ha) rfl ?_
  refine J.op (Yd.move rfl) rfl ?_
  refine J.op (Yd.len_b Try.underlying29 rfl hb) rfl ?_
  refine J.op (Yd.neq rfl rfl) rfl ?_
  refine J.nil ?_
  refine J.n_then ?_
  refine J.cond_dec rfl (fun hne => ?_) (fun hne => ?_)
  · skip
    refine J.seq ?_
    refine J.region ?_
    refine J.op (Yd.assign rfl) rfl ?_
    refine J.nil ?_
    refine J.n_then ?_
    refine J.ret ?_
    refine J.r_then ?_
    exact J.ret1 rfl rfl (⟨_, rfl, eqB_ret (by first | omega | assumption | exact eqB_len hne | exact eqB_diff hd | exact eqB_all hne (by omega) ht), e0⟩)
  · skip
    refine J.skip ?_
    refine J.n_then ?_
    refine J.seq ?_
    refine J.seq ?_
    refine J.region ?_
    refine J.op (Yd.move rfl) rfl ?_
    refine J.op (Yd.len_b Try.underlying29 rfl ha) rfl ?_
    refine J.op (Yd.move rfl) rfl ?_
    refine J.nil ?_
    refine J.n_then ?_
    refine J.block ?_
    refine J.loop (ι := Nat) (fun i => [(0, a), (1, b), (12, I l.length), (13, I i)]) (fun i w' => i ≤ l.length ∧ l.take i = m.take i ∧ Ext w w') (fun i => l.length - i) (0) ⟨rfl, rfl, rfl, rfl, trivial⟩ (⟨by omega, rfl, e0⟩) ?_
    rintro k w1 ⟨hk, ht, e0⟩
    have hma := Bs.max ha
    refine J.seq ?_
    refine J.region ?_
    refine J.op (Yd.lss rfl rfl) rfl ?_
    refine J.nil ?_
    refine J.n_then ?_
    refine J.seq ?_
    refine J.cond_dec rfl (fun hlt => ?_) (fun hlt => ?_)
    · skip
      refine J.skip ?_
      refine J.n_then ?_
      refine J.seq ?_
      refine J.block ?_
      refine J.seq ?_
      refine J.region ?_
      refine J.op (Yd.move rfl) rfl ?_
      refine J.op (Yd.assign rfl) rfl ?_
      refine J.nil ?_
      refine J.n_then ?_
      refine J.seq ?_
      refine J.regionO [(0, true), (1, true), (4, true), (5, true)] [(2, 1), (3, 1), (6, 1), (7, 1)] [(8, true)] mix (by kernel_rfl) ?_
      refine J.s_op rfl (fun _ => Yd.move rfl) rfl ?_
      refine J.s_op rfl (fun _ => Yd.move rfl) rfl ?_
      refine J.s_op rfl (fun _ => Yd.move rfl) rfl ?_
      refine J.s_op rfl (fun _ => Yd.move rfl) rfl ?_
      refine J.s_nil ?_
      refine J.o_op rfl (Yd.idx_b Try.underlying29 ti5 rfl rfl (Rd.ext ha e0) (by first | omega | (simp only [Int.toNat_natCast]; omega) | (simp <;> omega))) rfl ?_
      refine J.o_op rfl (Yd.load pl5 rfl (Bs.cell (Rd.ext ha e0) (by first | omega | (simp only [Int.toNat_natCast]; omega) | (simp <;> omega)))) rfl ?_
      refine J.o_op rfl (Yd.idx_b Try.underlying29 ti5 rfl rfl (Rd.ext hb e0) (by first | omega | (simp only [Int.toNat_natCast]; omega) | (simp <;> omega))) rfl ?_
      refine J.o_op rfl (Yd.load pl5 rfl (Bs.cell (Rd.ext hb e0) (by first | omega | (simp only [Int.toNat_natCast]; omega) | (simp <;> omega)))) rfl ?_
      refine J.o_nil ?_
      refine J.s_op rfl (fun _ => Yd.neq rfl rfl) rfl ?_
      refine J.s_nil ?_
      refine J.n_np ?_
      refine J.n_then ?_
      refine J.cond_dec rfl (fun hd => ?_) (fun hd => ?_)
      · skip
        refine J.seq ?_
        refine J.region ?_
        refine J.op (Yd.assign rfl) rfl ?_
        refine J.nil ?_
        refine J.n_then ?_
        refine J.ret ?_
        refine J.r_block ?_
        refine J.r_then ?_
        refine J.r_then ?_
        refine J.r_block ?_
        refine J.r_then ?_
        exact J.ret1 rfl rfl (⟨_, rfl, eqB_ret (by first | omega | assumption | exact eqB_len hne | exact eqB_diff hd | exact eqB_all hne (by omega) ht), e0⟩)
      · skip
        refine J.skip ?_
        refine J.n_block ?_
        refine J.n_then ?_
        refine J.region ?_
        refine J.op (Yd.add rfl rfl (by first | omega | (simp only [Int.toNat_natCast]; omega) | (simp <;> omega))) rfl ?_
        refine J.op (Yd.move rfl) rfl ?_
        refine J.nil ?_
        refine J.n_then ?_
        exact J.round (k + 1) ⟨rfl, rfl, rfl, rfl, trivial⟩ (⟨by omega, take_eq_succ (by omega) (by omega) ht hd, e0⟩) (by omega)
    · skip
      refine J.exit ?_
      refine J.x_then ?_
      refine J.x_then ?_
      refine J.x_block ?_
      refine J.n_then ?_
      refine J.seq ?_
      refine J.region ?_
      refine J.op (Yd.assign rfl) rfl ?_
      refine J.nil ?_
      refine J.n_then ?_
      refine J.ret ?_
      exact J.ret1 rfl rfl (⟨_, rfl, eqB_ret (by first | omega | assumption | exact eqB_len hne | exact eqB_diff hd | exact eqB_all hne (by omega) ht), e0⟩)

theorem Equal_ok {a b : Value} {l m : List UInt8} {w : World} (ha : Bs w a l) (hb : Bs w b m) : C Try.prog 36 [a, b] w (Ret fun v w' => v = .bool (decide (l = m)) ∧ Ext w w') := by
  have e0 := Ext.refl w
  refine C.enter Try.func36 rfl Try.ntmps36 rfl ?_
  refine J.seq ?_
  refine J.region ?_
  refine J.op (Yd.assign rfl) rfl ?_
  refine J.nil ?_
  refine J.n_then ?_
  refine J.seq ?_
  refine J.region ?_
  refine J.op (Yd.move rfl) rfl ?_
  refine J.op (Yd.move rfl) rfl ?_
  refine J.eff (Ye.call cl52 rfl (EqualB_ok ha hb)) rfl ?_
  rintro _ w1 ⟨rfl, x1⟩
  have e0 := e0.trans x1
  clear x1
  refine J.op (Yd.assign rfl) rfl ?_
  refine J.nil ?_
  refine J.n_then ?_
  refine J.ret ?_
  exact J.ret1 rfl rfl (⟨_, rfl, rfl, e0⟩)
end Ytfefphcmfhabiaa
end Go.Proofs
