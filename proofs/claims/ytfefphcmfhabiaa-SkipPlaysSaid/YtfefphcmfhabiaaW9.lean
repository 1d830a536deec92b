import Derived.Test.YtfefphcmfhabiaaT
import Derived.Test.YtfefphcmfhabiaaQx
import Derived.Test.YtfefphcmfhabiaaW5
set_option linter.unusedVariables false
set_option linter.unusedSimpArgs false
set_option maxRecDepth 100000
set_option maxHeartbeats 4000000
namespace Go.Proofs
open Go.X Go.RowKit
namespace Ytfefphcmfhabiaa
theorem RefNum_ok {n : UInt64} {w : World} : C Try.prog 45 [W64 n] w (Ret fun v w' => Ob w.heap.size 5 w' v (putN n) ∧ Ext w w') := by
  have e0 := Ext.refl w
  refine C.enter Try.func45 rfl Try.ntmps45 rfl ?_
  refine J.seq ?_
  refine J.region ?_
  refine J.op (Yd.assign rfl) rfl ?_
  refine J.nil ?_
  refine J.n_then ?_
  refine J.seq ?_
  refine J.region ?_
  refine J.op (Yd.assign rfl) rfl ?_
  refine J.nil ?_
  refine J.n_then ?_
  refine J.seq ?_
  refine J.block ?_
  refine J.loop (ι := UInt64 × List UInt8 × Value) (fun i => [(0, W64 i.1), (3, i.2.2)]) (fun i w' => i.2.1 ++ putN i.1 = putN n ∧ Ob w.heap.size 5 w' i.2.2 i.2.1 ∧ Fr w.heap.size (i.2.2).ownBlock ∧ Ext w w') (fun i => i.1.toNat) ((n, [], nilS)) ⟨rfl, rfl, trivial⟩ (⟨rfl, (Ow.nil _ _ _), Fr.nil, e0⟩) ?_
  rintro ⟨q, z, v3⟩ w1 ⟨heq, ho3, fr_v3, e0⟩
  dsimp only at *
  have hln := congrArg List.length heq
  rw [List.length_append] at hln
  have h10 := putN_len n
  have h11 := putN_pos q
  refine J.seq ?_
  refine J.seq ?_
  refine J.region ?_
  refine J.op (Yd.move rfl) rfl ?_
  refine J.op (Yd.geq rfl rfl) rfl ?_
  refine J.nil ?_
  refine J.n_then ?_
  refine J.cond_dec rfl (fun hc0 => ?_) (fun hc0 => ?_)
  · skip
    refine J.skip ?_
    refine J.n_then ?_
    refine J.block ?_
    refine J.seq ?_
    refine J.region ?_
    refine J.op (Yd.move rfl) rfl ?_
    refine J.op (Yd.move rfl) rfl ?_
    refine J.op (Yd.and_u64 (n := 127) rfl rfl) rfl ?_
    refine J.op (Yd.or_u64 (n := 128) rfl rfl) rfl ?_
    refine J.op (Yd.cv_64_8 Try.underlying68 Try.underlying5 rfl) rfl ?_
    refine J.eff (Ye.lit1 (base := w1.heap.size) (f := (fun x : UInt8 => B x)) Try.underlying29 ti5 rfl rfl (fun _ => rfl) (Nat.le_refl _)) rfl ?_
    rintro s11_2 w2 ⟨o11_2, x1⟩
    have ap_v3_s11_2 : Ap v3.ownBlock s11_2.ownBlock := Ap.mk (Ow.live ho3) (Ow.fr o11_2)
    have fr_s11_2 : Fr w.heap.size s11_2.ownBlock := Fr.le (Ow.fr o11_2) e0.size
    replace o11_2 := Ow.base o11_2 e0.size
    have e0 := e0.trans x1
    have ho3 := ho3.ext x1
    clear x1
    refine J.eff (Ye.appendS Try.underlying29 ti5 rfl rfl rfl rfl ho3 (Ow.rd o11_2) (fun _ => rfl) (by first | omega | exact idx_u8' _ | (simp only [Int.toNat_natCast]; omega) | (simp only [List.length_map, List.length_drop, List.length_take, List.length_append, List.length_replicate]; omega) | (simp <;> omega)) e0.size) rfl ?_
    rintro s12_3 w3 ⟨o12_3, hg, hsf⟩
    have ap_s11_2_s12_3 : Ap s11_2.ownBlock s12_3.ownBlock := Ap.sf (Ap.symm ap_v3_s11_2) (Ow.live o11_2) hsf
    have fr_s12_3 : Fr w.heap.size s12_3.ownBlock := Fr.sf fr_v3 hsf e0.size
    have o11_2 := Ow.gbk o11_2 hg (Ap.symm ap_v3_s11_2)
    have e0 := Ext.gbk e0 fr_v3 hg
    clear hg hsf
    refine J.op (Yd.assign rfl) rfl ?_
    refine J.nil ?_
    refine J.n_then ?_
    refine J.region ?_
    refine J.op (Yd.move rfl) rfl ?_
    refine J.op (Yd.shr_u64 rfl rfl (by first | omega | exact idx_u8' _ | (simp only [Int.toNat_natCast]; omega) | (simp only [List.length_map, List.length_drop, List.length_take, List.length_append, List.length_replicate]; omega) | (simp <;> omega))) rfl ?_
    refine J.op (Yd.assign rfl) rfl ?_
    refine J.nil ?_
    refine J.n_block ?_
    refine J.n_then ?_
    exact J.round ((shr_u64 q 7, z ++ [((q &&& 127) ||| 128).toUInt8], s12_3)) ⟨rfl, rfl, trivial⟩ (⟨(by rw [refb, List.append_assoc, List.singleton_append, ← putN_more hc0]; exact heq), o12_3, fr_s12_3, e0⟩) (by show (shr_u64 q 7).toNat < q.toNat; rw [shr7_nat]; omega)
  · skip
    refine J.exit ?_
    refine J.x_then ?_
    refine J.x_then ?_
    refine J.x_block ?_
    refine J.n_then ?_
    refine J.seq ?_
    refine J.region ?_
    refine J.op (Yd.move rfl) rfl ?_
    refine J.op (Yd.move rfl) rfl ?_
    refine J.op (Yd.cv_64_8 Try.underlying68 Try.underlying5 rfl) rfl ?_
    refine J.eff (Ye.lit1 (base := w1.heap.size) (f := (fun x : UInt8 => B x)) Try.underlying29 ti5 rfl rfl (fun _ => rfl) (Nat.le_refl _)) rfl ?_
    rintro s18_4 w4 ⟨o18_4, x1⟩
    have ap_v3_s18_4 : Ap v3.ownBlock s18_4.ownBlock := Ap.mk (Ow.live ho3) (Ow.fr o18_4)
    have fr_s18_4 : Fr w.heap.size s18_4.ownBlock := Fr.le (Ow.fr o18_4) e0.size
    replace o18_4 := Ow.base o18_4 e0.size
    have e0 := e0.trans x1
    have ho3 := ho3.ext x1
    clear x1
    refine J.eff (Ye.appendS Try.underlying29 ti5 rfl rfl rfl rfl ho3 (Ow.rd o18_4) (fun _ => rfl) (by first | omega | exact idx_u8' _ | (simp only [Int.toNat_natCast]; omega) | (simp only [List.length_map, List.length_drop, List.length_take, List.length_append, List.length_replicate]; omega) | (simp <;> omega)) e0.size) rfl ?_
    rintro s19_5 w5 ⟨o19_5, hg, hsf⟩
    have ap_s18_4_s19_5 : Ap s18_4.ownBlock s19_5.ownBlock := Ap.sf (Ap.symm ap_v3_s18_4) (Ow.live o18_4) hsf
    have fr_s19_5 : Fr w.heap.size s19_5.ownBlock := Fr.sf fr_v3 hsf e0.size
    have o18_4 := Ow.gbk o18_4 hg (Ap.symm ap_v3_s18_4)
    have e0 := Ext.gbk e0 fr_v3 hg
    clear hg hsf
    refine J.op (Yd.assign rfl) rfl ?_
    refine J.nil ?_
    refine J.n_then ?_
    refine J.ret ?_
    exact J.ret1 rfl rfl (⟨_, rfl, (by rw [← heq, putN_last hc0]; exact o19_5), e0⟩)

theorem WFixedNil_ok {a : Value} {w : World} : C Try.prog 30 [.pointer none, a] w (Ret fun v w' => v = .pointer none ∧ Ext w w') := by
  have e0 := Ext.refl w
  refine C.enter Try.func30 rfl Try.ntmps30 rfl ?_
  refine J.seq ?_
  refine J.region ?_
  refine J.op (Yd.assign rfl) rfl ?_
  refine J.nil ?_
  refine J.n_then ?_
  refine J.seq ?_
  refine J.seq ?_
  refine J.region ?_
  refine J.op (Yd.move rfl) rfl ?_
  refine J.op (Yd.cast (Yd.nePn Try.underlying64 rfl rfl) (show _ = Value.bool false from rfl)) rfl ?_
  refine J.nil ?_
  refine J.n_then ?_
  refine J.cond_false rfl ?_
  refine J.skip ?_
  refine J.n_then ?_
  refine J.seq ?_
  refine J.region ?_
  refine J.op (Yd.move rfl) rfl ?_
  refine J.op (Yd.assign rfl) rfl ?_
  refine J.nil ?_
  refine J.n_then ?_
  refine J.ret ?_
  exact J.ret1 rfl rfl (⟨_, rfl, rfl, e0⟩)

theorem WNumNil_ok {n : UInt64} {w : World} : C Try.prog 29 [.pointer none, W64 n] w (Ret fun v w' => v = .pointer none ∧ Ext w w') := by
  have e0 := Ext.refl w
  refine C.enter Try.func29 rfl Try.ntmps29 rfl ?_
  refine J.seq ?_
  refine J.region ?_
  refine J.op (Yd.assign rfl) rfl ?_
  refine J.nil ?_
  refine J.n_then ?_
  refine J.seq ?_
  refine J.block ?_
  refine J.loop (ι := UInt64) (fun i => [(0, .pointer none), (1, W64 i)]) (fun i w' => True ∧ Ext w w') (fun i => i.toNat) (n) ⟨rfl, rfl, trivial⟩ (⟨trivial, e0⟩) ?_
  rintro q w1 ⟨hT, e0⟩
  refine J.seq ?_
  refine J.seq ?_
  refine J.region ?_
  refine J.op (Yd.move rfl) rfl ?_
  refine J.op (Yd.geq rfl rfl) rfl ?_
  refine J.nil ?_
  refine J.n_then ?_
  refine J.cond_dec rfl (fun hc0 => ?_) (fun hc0 => ?_)
  · skip
    refine J.skip ?_
    refine J.n_then ?_
    refine J.seq ?_
    refine J.block ?_
    refine J.region ?_
    refine J.op (Yd.move rfl) rfl ?_
    refine J.op (Yd.move rfl) rfl ?_
    refine J.op (Yd.cv_64_8 Try.underlying68 Try.underlying5 rfl) rfl ?_
    refine J.op (Yd.or_u8 (n := 128) rfl rfl) rfl ?_
    refine J.eff (Ye.lit1 (base := w1.heap.size) (f := (fun x : UInt8 => B x)) Try.underlying29 ti5 rfl rfl (fun _ => rfl) (Nat.le_refl _)) rfl ?_
    rintro s13_2 w2 ⟨o13_2, x1⟩
    have fr_s13_2 : Fr w.heap.size s13_2.ownBlock := Fr.le (Ow.fr o13_2) e0.size
    replace o13_2 := Ow.base o13_2 e0.size
    have e0 := e0.trans x1
    clear x1
    refine J.eff (Ye.call cl30 rfl (WFixedNil_ok)) rfl ?_
    rintro _ w3 ⟨rfl, x1⟩
    have e0 := e0.trans x1
    have o13_2 := o13_2.ext x1
    clear x1
    refine J.nil ?_
    refine J.n_block ?_
    refine J.n_then ?_
    refine J.region ?_
    refine J.op (Yd.move rfl) rfl ?_
    refine J.op (Yd.shr_u64 rfl rfl (by first | omega | exact idx_u8' _ | (simp only [Int.toNat_natCast]; omega) | (simp only [List.length_map, List.length_drop, List.length_take, List.length_append, List.length_replicate]; omega) | (simp <;> omega))) rfl ?_
    refine J.op (Yd.assign rfl) rfl ?_
    refine J.nil ?_
    refine J.n_then ?_
    exact J.round ((shr_u64 q 7)) ⟨rfl, rfl, trivial⟩ (⟨trivial, e0⟩) (by show (shr_u64 q 7).toNat < q.toNat; rw [shr7_nat]; omega)
  · skip
    refine J.exit ?_
    refine J.x_then ?_
    refine J.x_then ?_
    refine J.x_block ?_
    refine J.n_then ?_
    refine J.seq ?_
    refine J.region ?_
    refine J.op (Yd.move rfl) rfl ?_
    refine J.op (Yd.move rfl) rfl ?_
    refine J.op (Yd.cv_64_8 Try.underlying68 Try.underlying5 rfl) rfl ?_
    refine J.eff (Ye.lit1 (base := w1.heap.size) (f := (fun x : UInt8 => B x)) Try.underlying29 ti5 rfl rfl (fun _ => rfl) (Nat.le_refl _)) rfl ?_
    rintro s18_4 w4 ⟨o18_4, x1⟩
    have fr_s18_4 : Fr w.heap.size s18_4.ownBlock := Fr.le (Ow.fr o18_4) e0.size
    replace o18_4 := Ow.base o18_4 e0.size
    have e0 := e0.trans x1
    clear x1
    refine J.eff (Ye.call cl30 rfl (WFixedNil_ok)) rfl ?_
    rintro _ w5 ⟨rfl, x1⟩
    have e0 := e0.trans x1
    have o18_4 := o18_4.ext x1
    clear x1
    refine J.op (Yd.assign rfl) rfl ?_
    refine J.nil ?_
    refine J.n_then ?_
    refine J.ret ?_
    exact J.ret1 rfl rfl (⟨_, rfl, rfl, e0⟩)

theorem WDoneNil_ok {w : World} : C Try.prog 31 [.pointer none] w (Ret fun v w' => v = nilS ∧ Ext w w') := by
  have e0 := Ext.refl w
  refine C.enter Try.func31 rfl Try.ntmps31 rfl ?_
  refine J.seq ?_
  refine J.region ?_
  refine J.op (Yd.assign rfl) rfl ?_
  refine J.nil ?_
  refine J.n_then ?_
  refine J.seq ?_
  refine J.seq ?_
  refine J.region ?_
  refine J.op (Yd.move rfl) rfl ?_
  refine J.op (Yd.cast (Yd.eqPn Try.underlying64 rfl rfl) (show _ = Value.bool true from rfl)) rfl ?_
  refine J.nil ?_
  refine J.n_then ?_
  refine J.cond_true rfl ?_
  refine J.seq ?_
  refine J.region ?_
  refine J.op (Yd.assign rfl) rfl ?_
  refine J.nil ?_
  refine J.n_then ?_
  refine J.ret ?_
  refine J.r_then ?_
  exact J.ret1 rfl rfl (⟨_, rfl, rfl, e0⟩)
end Ytfefphcmfhabiaa
end Go.Proofs
