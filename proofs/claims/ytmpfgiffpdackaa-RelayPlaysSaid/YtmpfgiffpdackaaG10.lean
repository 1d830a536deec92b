import Derived.Test.YtmpfgiffpdackaaT
import Derived.Test.YtmpfgiffpdackaaG9
set_option linter.unusedVariables false
set_option linter.unusedSimpArgs false
set_option maxRecDepth 100000
set_option maxHeartbeats 4000000
namespace Go.Proofs
open Go.X Go.RowKit
namespace Ytmpfgiffpdackaa
theorem NewQ {t e : Int} {w : World} (he : exI t = e) : C Try.prog 9 [I t] w (Ret fun u w' => ∃ b K, u = .pointer (some ⟨b, 0, none⟩) ∧ Rq 65 36 w.heap.size K w' b (e, 0, 0) [] ∧ Ext w w') := he ▸ New_ok

theorem Awake_ok {w : World} : C Try.prog 8 [] w (Ret fun v w' => v = .bool true ∧ Ext w w') := by
  have e0 := Ext.refl w
  refine C.enter Try.func8 rfl Try.ntmps8 rfl ?_
  refine J.seq ?_
  refine J.region ?_
  refine J.op (Yd.assign rfl) rfl ?_
  refine J.nil ?_
  refine J.n_then ?_
  refine J.seq ?_
  refine J.region ?_
  refine J.eff (Ye.call cl9 rfl (NewQ (show exI 5 = 5 by decide))) rfl ?_
  rintro _ w1 ⟨b, K0, rfl, hq, x1⟩
  have hq := hq.le e0.size
  have e0 := e0.trans x1
  clear x1
  refine J.op (Yd.assign rfl) rfl ?_
  refine J.nil ?_
  refine J.n_then ?_
  refine J.seq ?_
  refine J.seq ?_
  refine J.region ?_
  refine J.op (Yd.move rfl) rfl ?_
  refine J.op (Yd.cast (Yd.eqPn Try.underlying24 rfl rfl) (show _ = Value.bool false from rfl)) rfl ?_
  refine J.nil ?_
  refine J.n_then ?_
  refine J.cond_false rfl ?_
  refine J.skip ?_
  refine J.n_then ?_
  refine J.seq ?_
  refine J.region ?_
  refine J.op (Yd.move rfl) rfl ?_
  refine J.eff (Ye.litM (base := w1.heap.size) (f := fun x : UInt8 => B x) ([120] : List UInt8) Try.underlying34 ti5 rfl rfl rfl rfl (fun _ => rfl) rfl (Nat.le_refl _)) rfl ?_
  rintro s11_2 w2 ⟨o11_2, x1⟩
  have fr_s11_2 : Fr w.heap.size s11_2.ownBlock := Fr.le (Ow.fr o11_2) e0.size
  have out_s11_2 : Out K0 s11_2.ownBlock := hq.out (Ow.fr o11_2)
  replace o11_2 := Ow.base o11_2 e0.size
  have e0 := e0.trans x1
  have hq := hq.ext x1
  clear x1
  refine J.eff (Ye.mark Try.underlying34 Try.underlying34 (by decide) Try.underlying5 rfl o11_2 (by decide)) rfl ?_
  rintro u_ w3 ⟨hu_, r12_3, hg⟩
  rw [hu_]; clear hu_
  have hq := hq.g1 hg out_s11_2
  have e0 := Ext.gbk e0 fr_s11_2 hg
  clear hg
  refine J.eff (Ye.call cl10 rfl (PutQ_ok hq ⟨by decide, by decide⟩ ⟨by decide, by decide⟩ r12_3.rd out_s11_2 (by decide) (by decide) (by decide))) rfl ?_
  rintro _ w4 ⟨rfl, K1_, hq2, hkk, hT2⟩
  have out_s11_2_ : Out K1_ s11_2.ownBlock := Out.kk out_s11_2 r12_3.live hkk
  have e0 := Ext.thK e0 hT2 hq.bb (fun k hk => (hq.kb k hk).1)
  replace hq := hq2
  clear hq2 hkk hT2
  replace hq : Rq 65 36 w.heap.size K1_ _ b (5, 0, 1) [([98], [(1, [97], 0, [120])])] := hq
  refine J.op (Yd.move rfl) rfl ?_
  refine J.op (Yd.extract rfl rfl) rfl ?_
  refine J.op (Yd.extract rfl rfl) rfl ?_
  refine J.op (Yd.assign rfl) rfl ?_
  refine J.op (Yd.assign rfl) rfl ?_
  refine J.nil ?_
  refine J.n_then ?_
  refine J.seq ?_
  refine J.region ?_
  refine J.op (Yd.move rfl) rfl ?_
  refine J.eff (Ye.call cl15 rfl (LenQ_ok hq)) rfl ?_
  rintro _ w5 ⟨rfl, x1⟩
  have e0 := e0.trans x1
  have hq := hq.ext x1
  clear x1
  refine J.op (Yd.assign rfl) rfl ?_
  refine J.nil ?_
  refine J.n_then ?_
  refine J.seq ?_
  refine J.region ?_
  refine J.op (Yd.move rfl) rfl ?_
  refine J.eff (Ye.call cl12 rfl (TickQ_ok hq (by decide) (by decide) (by decide) (by decide) (by decide))) rfl ?_
  rintro _ w6 ⟨rfl, K2_, hq2, hkk, hT2⟩
  have e0 := Ext.thK e0 hT2 hq.bb (fun k hk => (hq.kb k hk).1)
  replace hq := hq2
  clear hq2 hkk hT2
  refine J.op (Yd.assign rfl) rfl ?_
  refine J.nil ?_
  refine J.n_then ?_
  refine J.seq ?_
  refine J.region ?_
  refine J.op (Yd.move rfl) rfl ?_
  refine J.op (Yd.eql rfl rfl) rfl ?_
  refine J.op (Yd.move rfl) rfl ?_
  refine J.know (t := 22) (v' := .bool true) rfl (tt (by rfl)) ?_
  refine J.op_g rfl rfl rfl (Yd.move rfl) rfl ?_
  refine J.op_g rfl rfl rfl (Yd.eql rfl rfl) rfl ?_
  refine J.op (Yd.pick_t rfl rfl) rfl ?_
  refine J.op (Yd.move rfl) rfl ?_
  refine J.know (t := 26) (v' := .bool true) rfl (rfl) ?_
  refine J.op_g rfl rfl rfl (Yd.move rfl) rfl ?_
  refine J.op_g rfl rfl rfl (Yd.eql rfl rfl) rfl ?_
  refine J.op (Yd.pick_t rfl rfl) rfl ?_
  refine J.op (Yd.move rfl) rfl ?_
  refine J.know (t := 30) (v' := .bool true) rfl (tt (by decide)) ?_
  refine J.op_g rfl rfl rfl (Yd.move rfl) rfl ?_
  refine J.op_g rfl rfl rfl (Yd.eql rfl rfl) rfl ?_
  refine J.op (Yd.pick_t rfl rfl) rfl ?_
  refine J.op (Yd.move rfl) rfl ?_
  refine J.know (t := 34) (v' := .bool true) rfl (tt (by decide)) ?_
  refine J.op_g rfl rfl rfl (Yd.move rfl) rfl ?_
  refine J.eff_g rfl rfl rfl (Ye.call cl15 rfl (LenQ_ok hq)) rfl ?_
  rintro _ w7 ⟨rfl, x1⟩
  have e0 := e0.trans x1
  have hq := hq.ext x1
  clear x1
  refine J.op_g rfl rfl rfl (Yd.eql rfl rfl) rfl ?_
  refine J.op (Yd.pick_t rfl rfl) rfl ?_
  refine J.op (Yd.move rfl) rfl ?_
  refine J.know (t := 39) (v' := .bool true) rfl (tt (by decide)) ?_
  refine J.op_g rfl rfl rfl (Yd.move rfl) rfl ?_
  refine J.eff_g rfl rfl rfl (Ye.call cl14 rfl (NowQ_ok hq)) rfl ?_
  rintro _ w8 ⟨rfl, x1⟩
  have e0 := e0.trans x1
  have hq := hq.ext x1
  clear x1
  refine J.op_g rfl rfl rfl (Yd.eql rfl rfl) rfl ?_
  refine J.op (Yd.pick_t rfl rfl) rfl ?_
  refine J.op (Yd.assign rfl) rfl ?_
  refine J.nil ?_
  refine J.n_then ?_
  refine J.ret ?_
  exact J.ret1 rfl rfl (⟨_, rfl, (by first | rfl | exact congrArg Value.bool (by decide)), e0⟩)
end Ytmpfgiffpdackaa
end Go.Proofs
