import Derived.Test.YtfefphcmfhabiaaT
import Derived.Test.YtfefphcmfhabiaaW3
set_option linter.unusedVariables false
set_option linter.unusedSimpArgs false
set_option maxRecDepth 100000
set_option maxHeartbeats 4000000
namespace Go.Proofs
open Go.X Go.RowKit
namespace Ytfefphcmfhabiaa
theorem RdC_ret {b : Nat} {w : World} : CD Try.prog 48 [.pointer (some ⟨b, 0, none⟩)] .returning w fun e u' w' => (∃ x, e = .returned x) ∧ u' = .returning ∧ Ext w w' := by
  have e0 := Ext.refl w
  refine CD.enter_rec Try.func48 rfl Try.ntmps48 rfl (.inr ⟨rfl, rfl, rfl⟩) rfl rfl ?_
  refine J.seq ?_
  refine J.region ?_
  refine J.op (Yd.move rfl) rfl ?_
  refine J.op (Yd.neIface0 Try.underlying20 rfl) rfl ?_
  refine J.nil ?_
  refine J.n_then ?_
  refine J.cond_false rfl ?_
  refine J.skip ?_
  exact J.end0 rfl (⟨⟨_, rfl⟩, rfl, e0⟩)

theorem RdC_err {b : Nat} {n : Int} {v0 : Value} {older : List PanicEntry} {w : World} (hc : Cel w b 24 [(0, 1, [v0])]) (hn : ¬ n = 0) : CD Try.prog 48 [.pointer (some ⟨b, 0, none⟩)] (.panicking ({ v := (.iface 24 (I n)), recovered := false } :: older)) w fun e u' w' => (∃ x, e = .returned x) ∧ u' = .panicking ({ v := (.iface 24 (I n)), recovered := true } :: older) ∧ Cel w' b 24 [(0, 1, [I n])] ∧ Tn [some b] w w' := by
  have e0 := Tn.refl [(some b)] w
  refine CD.enter_rec Try.func48 rfl Try.ntmps48 rfl (.inl rfl) rfl rfl ?_
  refine J.seq ?_
  refine J.region ?_
  refine J.op (Yd.move rfl) rfl ?_
  refine J.op (Yd.neIface Try.underlying20 rfl rfl) rfl ?_
  refine J.nil ?_
  refine J.n_then ?_
  refine J.cond_true rfl ?_
  refine J.seq ?_
  refine J.region ?_
  refine J.op (Yd.move rfl) rfl ?_
  refine J.op (Yd.assertOk Try.underlying24 rfl rfl) rfl ?_
  refine J.op (Yd.move rfl) rfl ?_
  refine J.op (Yd.extract rfl rfl) rfl ?_
  refine J.op (Yd.extract rfl rfl) rfl ?_
  refine J.op (Yd.assign rfl) rfl ?_
  refine J.op (Yd.assign rfl) rfl ?_
  refine J.nil ?_
  refine J.n_then ?_
  refine J.seq ?_
  refine J.seq ?_
  refine J.region ?_
  refine J.op (Yd.move rfl) rfl ?_
  refine J.op (Yd.not rfl) rfl ?_
  refine J.op (Yd.move rfl) rfl ?_
  refine J.op_g rfl rfl rfl (Yd.move rfl) rfl ?_
  refine J.op_g rfl rfl rfl (Yd.eql rfl rfl) rfl ?_
  refine J.op (Yd.pick_f rfl rfl) rfl ?_
  refine J.nil ?_
  refine J.n_then ?_
  refine J.know (t := 17) (v' := .bool false) rfl (ff (by exact hn)) ?_
  refine J.cond_false rfl ?_
  refine J.skip ?_
  refine J.n_then ?_
  refine J.region ?_
  refine J.op (Yd.move rfl) rfl ?_
  refine J.eff0 (Ye.store1 ti24 hc 0 rfl rfl rfl rfl rfl rfl) ?_
  rintro _ w1 ⟨cX, hu⟩
  simp only [List.set_cons_zero, List.set_cons_succ] at cX
  have hg := hu.gb
  have e0 := Tn.gbk e0 (.inl (by simp)) hg
  clear hg
  replace hc := cX
  clear cX hu
  refine J.nil ?_
  exact J.end0 rfl (⟨⟨_, rfl⟩, rfl, hc, e0⟩)

theorem RdC_oth {b : Nat} {v : Value} {older : List PanicEntry} {w : World} : CD Try.prog 48 [.pointer (some ⟨b, 0, none⟩)] (.panicking ({ v := (.iface 9 v), recovered := false } :: older)) w fun e u' w' => e = .panicked [{ v := (.iface 9 v), recovered := false }] ∧ u' = .panicking ({ v := (.iface 9 v), recovered := true } :: older) ∧ Ext w w' := by
  have e0 := Ext.refl w
  refine CD.enter_rec Try.func48 rfl Try.ntmps48 rfl (.inl rfl) rfl rfl ?_
  refine J.seq ?_
  refine J.region ?_
  refine J.op (Yd.move rfl) rfl ?_
  refine J.op (Yd.neIface Try.underlying20 rfl rfl) rfl ?_
  refine J.nil ?_
  refine J.n_then ?_
  refine J.cond_true rfl ?_
  refine J.seq ?_
  refine J.region ?_
  refine J.op (Yd.move rfl) rfl ?_
  refine J.op (Yd.assertNo Try.underlying24 rfl ti24 rfl rfl) rfl ?_
  refine J.op (Yd.move rfl) rfl ?_
  refine J.op (Yd.extract rfl rfl) rfl ?_
  refine J.op (Yd.extract rfl rfl) rfl ?_
  refine J.op (Yd.assign rfl) rfl ?_
  refine J.op (Yd.assign rfl) rfl ?_
  refine J.nil ?_
  refine J.n_then ?_
  refine J.seq ?_
  refine J.seq ?_
  refine J.region ?_
  refine J.op (Yd.move rfl) rfl ?_
  refine J.op (Yd.not rfl) rfl ?_
  refine J.op (Yd.move rfl) rfl ?_
  refine J.not_g rfl rfl rfl rfl rfl ?_
  refine J.not_g rfl rfl rfl rfl rfl ?_
  refine J.op (Yd.pick_t rfl rfl) rfl ?_
  refine J.nil ?_
  refine J.n_then ?_
  refine J.cond_true rfl ?_
  refine J.region ?_
  refine J.op (Yd.move rfl) rfl ?_
  refine J.pan (Yp.panic rfl) ?_
  rintro _ _ ⟨rfl, rfl⟩
  refine J.p_then ?_
  exact J.fin_p (⟨rfl, rfl, e0⟩)
end Ytfefphcmfhabiaa
end Go.Proofs
