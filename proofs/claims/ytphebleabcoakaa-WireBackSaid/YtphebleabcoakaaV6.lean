import Derived.Test.YtphebleabcoakaaT
import Derived.Test.YtphebleabcoakaaV5
set_option linter.unusedVariables false
set_option linter.unusedSimpArgs false
set_option maxRecDepth 100000
set_option maxHeartbeats 4000000
namespace Go.Proofs
open Go.X Go.RowKit
namespace Ytphebleabcoakaa
theorem Write_ok {base : Nat → Prop} {b : Nat} {l : List UInt8} {x : X.Item} {w : World} (hw : Wr 34 5 base w b l) (hbw : Hb base w) (hq : ∀ w', Thb base b w w' → itQ w' x) (hm : l.length + 10 * wt x ≤ 1000000) : C Try.prog 14 [.pointer (some ⟨b, 0, none⟩), .agg (itS.c x).toArray] w (Ret fun u w' => u = .pointer (some ⟨b, 0, none⟩) ∧ Wr 34 5 base w' b (l ++ wF x) ∧ Thb base b w w') := by
  have hq1 := fun w' h => (hq w' h).1
  have hq2 := fun w' h => (hq w' h).2
  have hm2 := hm
  unfold wt at hm2
  have e0 := Thb.refl base b w
  refine C.enter Try.func14 rfl Try.ntmps14 rfl ?_
  refine J.seq ?_
  refine J.region ?_
  refine J.eff (Ye.box (S := [(0, 1, [I x.1]), (1, 1, [W64 x.2.1]), (2, 1, [x.2.2.1.1]), (3, 1, [x.2.2.2.1])]) rfl (by simp [SegAll, SegOK, Value.cells, itS])) rfl ?_
  rintro _ w1 ⟨b3_0, rfl, hb_, c3_0, x1⟩
  have fr_b3_0 : Fr w.heap.size (some b3_0) := Fr.le (Fr.blk hb_) e0.size
  have hbw := Hb.le hbw x1.size
  have e0 := Thb.ext e0 x1
  have hw := hw.ext x1
  clear x1 hb_
  refine J.op (Yd.assign rfl) rfl ?_
  refine J.nil ?_
  refine J.n_then ?_
  refine J.seq ?_
  refine J.seq ?_
  refine J.region ?_
  refine J.op (Yd.cast (Yd.fieldA Try.underlying40 rfl ti3 rfl rfl) (show _ = Value.pointer (some ⟨b3_0, 0, none⟩) from rfl)) rfl ?_
  refine J.op (Yd.load pl3 rfl (Cel.cell1 c3_0 0 rfl)) rfl ?_
  refine J.nil ?_
  refine J.n_then ?_
  refine J.block ?_
  refine J.seq ?_
  refine J.region ?_
  refine J.op (Yd.eql rfl rfl) rfl ?_
  refine J.op (Yd.assign rfl) rfl ?_
  refine J.nil ?_
  refine J.n_then ?_
  refine J.cond_dec rfl (fun hc0 => ?_) (fun hc0 => ?_)
  · skip
    refine J.seq ?_
    refine J.region ?_
    refine J.op (Yd.move rfl) rfl ?_
    refine J.op (Yd.cast (Yd.fieldA Try.underlying40 rfl ti37 rfl rfl) (show _ = Value.pointer (some ⟨b3_0, 1, none⟩) from rfl)) rfl ?_
    refine J.op (Yd.load pl37 rfl (Cel.cell1 c3_0 1 rfl)) rfl ?_
    refine J.eff (Ye.call cl27 rfl (WNum_ok hw hbw  (by omega))) rfl ?_
    rintro _ w2 ⟨rfl, hw2, x1⟩
    have e0 := Thb.trans e0 x1
    have hbw := Hb.le hbw x1.size
    replace hw := hw2
    clear hw2 x1
    refine J.op (Yd.assign rfl) rfl ?_
    refine J.nil ?_
    refine J.n_then ?_
    refine J.ret ?_
    refine J.r_block ?_
    refine J.r_then ?_
    exact J.ret1 rfl rfl (⟨_, rfl, rfl, (by unfold wF; first | (rw [if_pos hc0]; exact hw) | (rw [if_neg hc0, if_pos hc1]; unfold bF; rw [← List.append_assoc]; exact hw) | (rw [if_neg hc0, if_neg hc1, if_pos hc2, ← List.append_assoc]; exact hw) | (rw [if_neg hc0, if_neg hc1, if_neg hc2, if_pos hc3]; exact hw) | (rw [if_neg hc0, if_neg hc1, if_neg hc2, if_neg hc3, List.append_nil]; exact hw)), e0⟩)
  · skip
    refine J.seq ?_
    refine J.region ?_
    refine J.op (Yd.eql rfl rfl) rfl ?_
    refine J.op (Yd.assign rfl) rfl ?_
    refine J.nil ?_
    refine J.n_then ?_
    refine J.cond_dec rfl (fun hc1 => ?_) (fun hc1 => ?_)
    · skip
      refine J.seq ?_
      refine J.region ?_
      refine J.op (Yd.move rfl) rfl ?_
      refine J.op (Yd.cast (Yd.fieldA Try.underlying40 rfl ti32 rfl rfl) (show _ = Value.pointer (some ⟨b3_0, 2, none⟩) from rfl)) rfl ?_
      refine J.op (Yd.load pl32 rfl (Cel.cell1 c3_0 2 rfl)) rfl ?_
      refine J.eff (Ye.call cl20 rfl (WBytes_ok hw hbw (fun w' ht => hq1 _ (e0.trans ht)) (by omega))) rfl ?_
      rintro _ w3 ⟨rfl, hw2, x1⟩
      have e0 := Thb.trans e0 x1
      have hbw := Hb.le hbw x1.size
      replace hw := hw2
      clear hw2 x1
      refine J.op (Yd.assign rfl) rfl ?_
      refine J.nil ?_
      refine J.n_then ?_
      refine J.ret ?_
      refine J.r_block ?_
      refine J.r_then ?_
      exact J.ret1 rfl rfl (⟨_, rfl, rfl, (by unfold wF; first | (rw [if_pos hc0]; exact hw) | (rw [if_neg hc0, if_pos hc1]; unfold bF; rw [← List.append_assoc]; exact hw) | (rw [if_neg hc0, if_neg hc1, if_pos hc2, ← List.append_assoc]; exact hw) | (rw [if_neg hc0, if_neg hc1, if_neg hc2, if_pos hc3]; exact hw) | (rw [if_neg hc0, if_neg hc1, if_neg hc2, if_neg hc3, List.append_nil]; exact hw)), e0⟩)
    · skip
      refine J.seq ?_
      refine J.region ?_
      refine J.op (Yd.eql rfl rfl) rfl ?_
      refine J.op (Yd.assign rfl) rfl ?_
      refine J.nil ?_
      refine J.n_then ?_
      refine J.cond_dec rfl (fun hc2 => ?_) (fun hc2 => ?_)
      · skip
        refine J.seq ?_
        refine J.region ?_
        refine J.op (Yd.move rfl) rfl ?_
        refine J.op (Yd.cast (Yd.fieldA Try.underlying40 rfl ti38 rfl rfl) (show _ = Value.pointer (some ⟨b3_0, 3, none⟩) from rfl)) rfl ?_
        refine J.op (Yd.load pl38 rfl (Cel.cell1 c3_0 3 rfl)) rfl ?_
        refine J.eff (Ye.call cl22 rfl (WList_ok hw hbw (fun w' ht => hq2 _ (e0.trans ht)) (by omega))) rfl ?_
        rintro _ w4 ⟨rfl, hw2, x1⟩
        have e0 := Thb.trans e0 x1
        have hbw := Hb.le hbw x1.size
        replace hw := hw2
        clear hw2 x1
        refine J.op (Yd.assign rfl) rfl ?_
        refine J.nil ?_
        refine J.n_then ?_
        refine J.ret ?_
        refine J.r_block ?_
        refine J.r_then ?_
        exact J.ret1 rfl rfl (⟨_, rfl, rfl, (by unfold wF; first | (rw [if_pos hc0]; exact hw) | (rw [if_neg hc0, if_pos hc1]; unfold bF; rw [← List.append_assoc]; exact hw) | (rw [if_neg hc0, if_neg hc1, if_pos hc2, ← List.append_assoc]; exact hw) | (rw [if_neg hc0, if_neg hc1, if_neg hc2, if_pos hc3]; exact hw) | (rw [if_neg hc0, if_neg hc1, if_neg hc2, if_neg hc3, List.append_nil]; exact hw)), e0⟩)
      · skip
        refine J.seq ?_
        refine J.region ?_
        refine J.op (Yd.eql rfl rfl) rfl ?_
        refine J.op (Yd.assign rfl) rfl ?_
        refine J.nil ?_
        refine J.n_then ?_
        refine J.cond_dec rfl (fun hc3 => ?_) (fun hc3 => ?_)
        · skip
          refine J.seq ?_
          refine J.region ?_
          refine J.op (Yd.move rfl) rfl ?_
          refine J.op (Yd.cast (Yd.fieldA Try.underlying40 rfl ti32 rfl rfl) (show _ = Value.pointer (some ⟨b3_0, 2, none⟩) from rfl)) rfl ?_
          refine J.op (Yd.load pl32 rfl (Cel.cell1 c3_0 2 rfl)) rfl ?_
          refine J.eff (Ye.call cl36 rfl (WFixed_ok hw hbw (hq1 _ e0) (by omega))) rfl ?_
          rintro _ w5 ⟨rfl, hw2, x1⟩
          have e0 := Thb.trans e0 x1
          have hbw := Hb.le hbw x1.size
          replace hw := hw2
          clear hw2 x1
          refine J.op (Yd.assign rfl) rfl ?_
          refine J.nil ?_
          refine J.n_then ?_
          refine J.ret ?_
          refine J.r_block ?_
          refine J.r_then ?_
          exact J.ret1 rfl rfl (⟨_, rfl, rfl, (by unfold wF; first | (rw [if_pos hc0]; exact hw) | (rw [if_neg hc0, if_pos hc1]; unfold bF; rw [← List.append_assoc]; exact hw) | (rw [if_neg hc0, if_neg hc1, if_pos hc2, ← List.append_assoc]; exact hw) | (rw [if_neg hc0, if_neg hc1, if_neg hc2, if_pos hc3]; exact hw) | (rw [if_neg hc0, if_neg hc1, if_neg hc2, if_neg hc3, List.append_nil]; exact hw)), e0⟩)
        · skip
          refine J.skip ?_
          refine J.n_block ?_
          refine J.n_then ?_
          refine J.seq ?_
          refine J.region ?_
          refine J.op (Yd.move rfl) rfl ?_
          refine J.op (Yd.assign rfl) rfl ?_
          refine J.nil ?_
          refine J.n_then ?_
          refine J.ret ?_
          exact J.ret1 rfl rfl (⟨_, rfl, rfl, (by unfold wF; first | (rw [if_pos hc0]; exact hw) | (rw [if_neg hc0, if_pos hc1]; unfold bF; rw [← List.append_assoc]; exact hw) | (rw [if_neg hc0, if_neg hc1, if_pos hc2, ← List.append_assoc]; exact hw) | (rw [if_neg hc0, if_neg hc1, if_neg hc2, if_pos hc3]; exact hw) | (rw [if_neg hc0, if_neg hc1, if_neg hc2, if_neg hc3, List.append_nil]; exact hw)), e0⟩)

theorem Write_raw {b : Nat} {s : Value} {l : List UInt8} {x : X.Item} {w : World} (hc : Cel w b 34 [(0, 1, [s])]) (ho : Ob 0 5 w s l) (hap : Ap (some b) s.ownBlock) (hq : ∀ w', Tn [some b, s.ownBlock] w w' → itQ w' x) (hm : l.length + 10 * wt x ≤ 1000000) : C Try.prog 14 [.pointer (some ⟨b, 0, none⟩), .agg (itS.c x).toArray] w (Ret fun u w' => u = .pointer (some ⟨b, 0, none⟩) ∧ ∃ s', Cel w' b 34 [(0, 1, [s'])] ∧ Ob 0 5 w' s' (l ++ wF x) ∧ SF w s.ownBlock s'.ownBlock ∧ Ap (some b) s'.ownBlock ∧ Tn [some b, s.ownBlock] w w') := by
  refine (Write_ok (Wr.kn hc ho hap) (Hb.kn _ _) (fun w' h => hq w' h.tn) hm).ret fun u w' h => ?_
  obtain ⟨h1, h2, h3⟩ := h
  obtain ⟨s', g1, g2, g3, g4⟩ := h2.raw
  exact ⟨h1, s', g1, g2, g3, g4, h3.tn⟩

theorem WriteNil_ok {x : X.Item} {w : World} (hq : itQ w x) : C Try.prog 14 [.pointer none, .agg (itS.c x).toArray] w (Ret fun v w' => v = .pointer none ∧ Ext w w') := by
  have hq1 := hq.1
  have hq2 := hq.2
  have e0 := Ext.refl w
  refine C.enter Try.func14 rfl Try.ntmps14 rfl ?_
  refine J.seq ?_
  refine J.region ?_
  refine J.eff (Ye.box (S := [(0, 1, [I x.1]), (1, 1, [W64 x.2.1]), (2, 1, [x.2.2.1.1]), (3, 1, [x.2.2.2.1])]) rfl (by simp [SegAll, SegOK, Value.cells, itS])) rfl ?_
  rintro _ w1 ⟨b3_0, rfl, hb_, c3_0, x1⟩
  have fr_b3_0 : Fr w.heap.size (some b3_0) := Fr.le (Fr.blk hb_) e0.size
  have e0 := e0.trans x1
  clear x1 hb_
  refine J.op (Yd.assign rfl) rfl ?_
  refine J.nil ?_
  refine J.n_then ?_
  refine J.seq ?_
  refine J.seq ?_
  refine J.region ?_
  refine J.op (Yd.cast (Yd.fieldA Try.underlying40 rfl ti3 rfl rfl) (show _ = Value.pointer (some ⟨b3_0, 0, none⟩) from rfl)) rfl ?_
  refine J.op (Yd.load pl3 rfl (Cel.cell1 c3_0 0 rfl)) rfl ?_
  refine J.nil ?_
  refine J.n_then ?_
  refine J.block ?_
  refine J.seq ?_
  refine J.region ?_
  refine J.op (Yd.eql rfl rfl) rfl ?_
  refine J.op (Yd.assign rfl) rfl ?_
  refine J.nil ?_
  refine J.n_then ?_
  refine J.cond_dec rfl (fun hc0 => ?_) (fun hc0 => ?_)
  · skip
    refine J.seq ?_
    refine J.region ?_
    refine J.op (Yd.move rfl) rfl ?_
    refine J.op (Yd.cast (Yd.fieldA Try.underlying40 rfl ti37 rfl rfl) (show _ = Value.pointer (some ⟨b3_0, 1, none⟩) from rfl)) rfl ?_
    refine J.op (Yd.load pl37 rfl (Cel.cell1 c3_0 1 rfl)) rfl ?_
    refine J.eff (Ye.call cl27 rfl (WNumNil_ok)) rfl ?_
    rintro _ w2 ⟨rfl, x1⟩
    have e0 := e0.trans x1
    have c3_0 := c3_0.ext x1
    clear x1
    refine J.op (Yd.assign rfl) rfl ?_
    refine J.nil ?_
    refine J.n_then ?_
    refine J.ret ?_
    refine J.r_block ?_
    refine J.r_then ?_
    exact J.ret1 rfl rfl (⟨_, rfl, rfl, e0⟩)
  · skip
    refine J.seq ?_
    refine J.region ?_
    refine J.op (Yd.eql rfl rfl) rfl ?_
    refine J.op (Yd.assign rfl) rfl ?_
    refine J.nil ?_
    refine J.n_then ?_
    refine J.cond_dec rfl (fun hc1 => ?_) (fun hc1 => ?_)
    · skip
      refine J.seq ?_
      refine J.region ?_
      refine J.op (Yd.move rfl) rfl ?_
      refine J.op (Yd.cast (Yd.fieldA Try.underlying40 rfl ti32 rfl rfl) (show _ = Value.pointer (some ⟨b3_0, 2, none⟩) from rfl)) rfl ?_
      refine J.op (Yd.load pl32 rfl (Cel.cell1 c3_0 2 rfl)) rfl ?_
      refine J.eff (Ye.call cl20 rfl (WBytesNil_ok (Rd.ext hq1 e0))) rfl ?_
      rintro _ w3 ⟨rfl, x1⟩
      have e0 := e0.trans x1
      have c3_0 := c3_0.ext x1
      clear x1
      refine J.op (Yd.assign rfl) rfl ?_
      refine J.nil ?_
      refine J.n_then ?_
      refine J.ret ?_
      refine J.r_block ?_
      refine J.r_then ?_
      exact J.ret1 rfl rfl (⟨_, rfl, rfl, e0⟩)
    · skip
      refine J.seq ?_
      refine J.region ?_
      refine J.op (Yd.eql rfl rfl) rfl ?_
      refine J.op (Yd.assign rfl) rfl ?_
      refine J.nil ?_
      refine J.n_then ?_
      refine J.cond_dec rfl (fun hc2 => ?_) (fun hc2 => ?_)
      · skip
        refine J.seq ?_
        refine J.region ?_
        refine J.op (Yd.move rfl) rfl ?_
        refine J.op (Yd.cast (Yd.fieldA Try.underlying40 rfl ti38 rfl rfl) (show _ = Value.pointer (some ⟨b3_0, 3, none⟩) from rfl)) rfl ?_
        refine J.op (Yd.load pl38 rfl (Cel.cell1 c3_0 3 rfl)) rfl ?_
        refine J.eff (Ye.call cl22 rfl (WListNil_ok (Rl.ext hq2 e0))) rfl ?_
        rintro _ w4 ⟨rfl, x1⟩
        have e0 := e0.trans x1
        have c3_0 := c3_0.ext x1
        clear x1
        refine J.op (Yd.assign rfl) rfl ?_
        refine J.nil ?_
        refine J.n_then ?_
        refine J.ret ?_
        refine J.r_block ?_
        refine J.r_then ?_
        exact J.ret1 rfl rfl (⟨_, rfl, rfl, e0⟩)
      · skip
        refine J.seq ?_
        refine J.region ?_
        refine J.op (Yd.eql rfl rfl) rfl ?_
        refine J.op (Yd.assign rfl) rfl ?_
        refine J.nil ?_
        refine J.n_then ?_
        refine J.cond_dec rfl (fun hc3 => ?_) (fun hc3 => ?_)
        · skip
          refine J.seq ?_
          refine J.region ?_
          refine J.op (Yd.move rfl) rfl ?_
          refine J.op (Yd.cast (Yd.fieldA Try.underlying40 rfl ti32 rfl rfl) (show _ = Value.pointer (some ⟨b3_0, 2, none⟩) from rfl)) rfl ?_
          refine J.op (Yd.load pl32 rfl (Cel.cell1 c3_0 2 rfl)) rfl ?_
          refine J.eff (Ye.call cl36 rfl (WFixedNil_ok)) rfl ?_
          rintro _ w5 ⟨rfl, x1⟩
          have e0 := e0.trans x1
          have c3_0 := c3_0.ext x1
          clear x1
          refine J.op (Yd.assign rfl) rfl ?_
          refine J.nil ?_
          refine J.n_then ?_
          refine J.ret ?_
          refine J.r_block ?_
          refine J.r_then ?_
          exact J.ret1 rfl rfl (⟨_, rfl, rfl, e0⟩)
        · skip
          refine J.skip ?_
          refine J.n_block ?_
          refine J.n_then ?_
          refine J.seq ?_
          refine J.region ?_
          refine J.op (Yd.move rfl) rfl ?_
          refine J.op (Yd.assign rfl) rfl ?_
          refine J.nil ?_
          refine J.n_then ?_
          refine J.ret ?_
          exact J.ret1 rfl rfl (⟨_, rfl, rfl, e0⟩)

theorem RefItem_ok {x : X.Item} {w : World} (hq : itQ w x) (hm : wt x ≤ 10000) : C Try.prog 15 [.agg (itS.c x).toArray] w (Ret fun v w' => Bs w' v (wF x) ∧ Ext w w') := by
  have hq1 := hq.1
  have hq2 := hq.2
  have hm2 := hm
  unfold wt at hm2
  have e0 := Ext.refl w
  refine C.enter Try.func15 rfl Try.ntmps15 rfl ?_
  refine J.seq ?_
  refine J.region ?_
  refine J.eff (Ye.box (S := [(0, 1, [I x.1]), (1, 1, [W64 x.2.1]), (2, 1, [x.2.2.1.1]), (3, 1, [x.2.2.2.1])]) rfl (by simp [SegAll, SegOK, Value.cells, itS])) rfl ?_
  rintro _ w1 ⟨b1_0, rfl, hb_, c1_0, x1⟩
  have fr_b1_0 : Fr w.heap.size (some b1_0) := Fr.le (Fr.blk hb_) e0.size
  have e0 := e0.trans x1
  clear x1 hb_
  refine J.op (Yd.assign rfl) rfl ?_
  refine J.nil ?_
  refine J.n_then ?_
  refine J.seq ?_
  refine J.seq ?_
  refine J.region ?_
  refine J.op (Yd.cast (Yd.fieldA Try.underlying40 rfl ti3 rfl rfl) (show _ = Value.pointer (some ⟨b1_0, 0, none⟩) from rfl)) rfl ?_
  refine J.op (Yd.load pl3 rfl (Cel.cell1 c1_0 0 rfl)) rfl ?_
  refine J.nil ?_
  refine J.n_then ?_
  refine J.block ?_
  refine J.seq ?_
  refine J.region ?_
  refine J.op (Yd.eql rfl rfl) rfl ?_
  refine J.op (Yd.assign rfl) rfl ?_
  refine J.nil ?_
  refine J.n_then ?_
  refine J.cond_dec rfl (fun hc0 => ?_) (fun hc0 => ?_)
  · skip
    refine J.seq ?_
    refine J.region ?_
    refine J.op (Yd.cast (Yd.fieldA Try.underlying40 rfl ti37 rfl rfl) (show _ = Value.pointer (some ⟨b1_0, 1, none⟩) from rfl)) rfl ?_
    refine J.op (Yd.load pl37 rfl (Cel.cell1 c1_0 1 rfl)) rfl ?_
    refine J.eff (Ye.call cl37 rfl (RefNum_ok)) rfl ?_
    rintro s11_2 w2 ⟨os11_2, x1⟩
    have ap_b1_0_s11_2 : Ap (some b1_0) s11_2.ownBlock := Ap.mk (Cel.live c1_0) (Ow.fr os11_2)
    have fr_s11_2 : Fr w.heap.size s11_2.ownBlock := Fr.le (Ow.fr os11_2) e0.size
    replace os11_2 := Ow.base os11_2 e0.size
    have e0 := e0.trans x1
    have c1_0 := c1_0.ext x1
    clear x1
    refine J.op (Yd.assign rfl) rfl ?_
    refine J.nil ?_
    refine J.n_then ?_
    refine J.ret ?_
    refine J.r_block ?_
    refine J.r_then ?_
    exact J.ret1 rfl rfl (⟨_, rfl, (by unfold wF; first | (rw [if_pos hc0]; exact (Ow.rd os11_2)) | (rw [if_neg hc0, if_pos hc1]; exact (Ow.rd os11_2)) | (rw [if_neg hc0, if_neg hc1, if_pos hc2]; have h9 := (Ow.rd os11_2); rw [show i = x.2.2.2.2.2.length by omega, List.take_length] at h9; exact h9) | (rw [if_neg hc0, if_neg hc1, if_neg hc2, if_pos hc4]; exact (Ow.rd os11_2)) | (rw [if_neg hc0, if_neg hc1, if_neg hc2, if_neg hc4]; exact Rd.nilM _ _)), e0⟩)
  · skip
    refine J.seq ?_
    refine J.region ?_
    refine J.op (Yd.eql rfl rfl) rfl ?_
    refine J.op (Yd.assign rfl) rfl ?_
    refine J.nil ?_
    refine J.n_then ?_
    refine J.cond_dec rfl (fun hc1 => ?_) (fun hc1 => ?_)
    · skip
      refine J.seq ?_
      refine J.region ?_
      refine J.op (Yd.cast (Yd.fieldA Try.underlying40 rfl ti32 rfl rfl) (show _ = Value.pointer (some ⟨b1_0, 2, none⟩) from rfl)) rfl ?_
      refine J.op (Yd.load pl32 rfl (Cel.cell1 c1_0 2 rfl)) rfl ?_
      refine J.eff (Ye.call cl38 rfl (RefBytes_ok (Rd.ext hq1 e0) (by first | omega | (simp only [Int.toNat_natCast]; omega)))) rfl ?_
      rintro s16_3 w3 ⟨os16_3, x1⟩
      have ap_b1_0_s16_3 : Ap (some b1_0) s16_3.ownBlock := Ap.mk (Cel.live c1_0) (Ow.fr os16_3)
      have fr_s16_3 : Fr w.heap.size s16_3.ownBlock := Fr.le (Ow.fr os16_3) e0.size
      replace os16_3 := Ow.base os16_3 e0.size
      have e0 := e0.trans x1
      have c1_0 := c1_0.ext x1
      clear x1
      refine J.op (Yd.assign rfl) rfl ?_
      refine J.nil ?_
      refine J.n_then ?_
      refine J.ret ?_
      refine J.r_block ?_
      refine J.r_then ?_
      exact J.ret1 rfl rfl (⟨_, rfl, (by unfold wF; first | (rw [if_pos hc0]; exact (Ow.rd os16_3)) | (rw [if_neg hc0, if_pos hc1]; exact (Ow.rd os16_3)) | (rw [if_neg hc0, if_neg hc1, if_pos hc2]; have h9 := (Ow.rd os16_3); rw [show i = x.2.2.2.2.2.length by omega, List.take_length] at h9; exact h9) | (rw [if_neg hc0, if_neg hc1, if_neg hc2, if_pos hc4]; exact (Ow.rd os16_3)) | (rw [if_neg hc0, if_neg hc1, if_neg hc2, if_neg hc4]; exact Rd.nilM _ _)), e0⟩)
    · skip
      refine J.seq ?_
      refine J.region ?_
      refine J.op (Yd.eql rfl rfl) rfl ?_
      refine J.op (Yd.assign rfl) rfl ?_
      refine J.nil ?_
      refine J.n_then ?_
      refine J.cond_dec rfl (fun hc2 => ?_) (fun hc2 => ?_)
      · skip
        refine J.seq ?_
        refine J.region ?_
        refine J.op (Yd.cast (Yd.fieldA Try.underlying40 rfl ti38 rfl rfl) (show _ = Value.pointer (some ⟨b1_0, 3, none⟩) from rfl)) rfl ?_
        refine J.op (Yd.load pl38 rfl (Cel.cell1 c1_0 3 rfl)) rfl ?_
        refine J.op (Yd.len_l Try.underlying38 rfl (Rl.ext hq2 e0)) rfl ?_
        refine J.op (Yd.cv_i_64 Try.underlying3 Try.underlying37 rfl (by first | omega | exact idx_u8' _ | (simp only [Int.toNat_natCast]; omega) | (simp only [List.length_map, List.length_drop, List.length_take, List.length_append, List.length_replicate]; omega) | (simp <;> omega))) rfl ?_
        refine J.eff (Ye.call cl37 rfl (RefNum_ok)) rfl ?_
        rintro s23_4 w4 ⟨os23_4, x1⟩
        have ap_b1_0_s23_4 : Ap (some b1_0) s23_4.ownBlock := Ap.mk (Cel.live c1_0) (Ow.fr os23_4)
        have fr_s23_4 : Fr w.heap.size s23_4.ownBlock := Fr.le (Ow.fr os23_4) e0.size
        replace os23_4 := Ow.base os23_4 e0.size
        have e0 := e0.trans x1
        have c1_0 := c1_0.ext x1
        clear x1
        refine J.op (Yd.assign rfl) rfl ?_
        refine J.nil ?_
        refine J.n_then ?_
        refine J.seq ?_
        refine J.seq ?_
        refine J.region ?_
        refine J.op (Yd.assign rfl) rfl ?_
        refine J.nil ?_
        refine J.n_then ?_
        refine J.block ?_
        refine J.loop (ι := Nat × Value) (fun i => [(4, I (i.1 : Int)), (1, .pointer (some ⟨b1_0, 0, none⟩)), (3, i.2)]) (fun i w' => i.1 ≤ x.2.2.2.2.2.length ∧ Cel w' b1_0 40 [(0, 1, [I x.1]), (1, 1, [W64 x.2.1]), (2, 1, [x.2.2.1.1]), (3, 1, [x.2.2.2.1])] ∧ Ob w.heap.size 5 w' i.2 (putN (UInt64.ofNat x.2.2.2.2.2.length) ++ (x.2.2.2.2.2.take i.1).flatMap bF) ∧ Fr w.heap.size (i.2).ownBlock ∧ Ap (some b1_0) (i.2).ownBlock ∧ Ext w w') (fun i => x.2.2.2.2.2.length - i.1) ((0, s23_4)) ⟨rfl, rfl, rfl, trivial⟩ (⟨Nat.zero_le _, c1_0, (by rw [List.take_zero, List.flatMap_nil, List.append_nil]; have h9 := os23_4; rw [Int.toNat_natCast] at h9; exact h9), fr_s23_4, ap_b1_0_s23_4, e0⟩) ?_
        rintro ⟨i, v3⟩ w5 ⟨hk, c1_0, ho3, fr_v3, ap_b1_0_v3, e0⟩
        dsimp only at *
        have h10 := putN_len (UInt64.ofNat x.2.2.2.2.2.length)
        have h11 := bFs_len (x.2.2.2.2.2.take i)
        have h12 := bF_takelen x.2.2.2.2.2 i
        refine J.seq ?_
        refine J.seq ?_
        refine J.region ?_
        refine J.op (Yd.move rfl) rfl ?_
        refine J.op (Yd.cast (Yd.fieldA Try.underlying40 rfl ti38 rfl rfl) (show _ = Value.pointer (some ⟨b1_0, 3, none⟩) from rfl)) rfl ?_
        refine J.op (Yd.load pl38 rfl (Cel.cell1 c1_0 3 rfl)) rfl ?_
        refine J.op (Yd.len_l Try.underlying38 rfl (Rl.ext hq2 e0)) rfl ?_
        refine J.op (Yd.lss rfl rfl) rfl ?_
        refine J.nil ?_
        refine J.n_then ?_
        refine J.cond_dec rfl (fun hc3 => ?_) (fun hc3 => ?_)
        · skip
          have h13 := ll_get_len (ll := x.2.2.2.2.2) (i := i) (by omega)
          have h14 := bF_len (x.2.2.2.2.2.getD i [])
          refine J.skip ?_
          refine J.n_then ?_
          refine J.seq ?_
          refine J.block ?_
          refine J.region ?_
          refine J.op (Yd.move rfl) rfl ?_
          refine J.op (Yd.cast (Yd.fieldA Try.underlying40 rfl ti38 rfl rfl) (show _ = Value.pointer (some ⟨b1_0, 3, none⟩) from rfl)) rfl ?_
          refine J.op (Yd.load pl38 rfl (Cel.cell1 c1_0 3 rfl)) rfl ?_
          refine J.op (Yd.move rfl) rfl ?_
          refine J.op (Yd.idx_l Try.underlying38 ti32 rfl rfl (Rl.ext hq2 e0) (by first | omega | exact idx_u8' _ | (simp only [Int.toNat_natCast]; omega) | (simp only [List.length_map, List.length_drop, List.length_take, List.length_append, List.length_replicate]; omega) | (simp <;> omega))) rfl ?_
          refine J.op (Yd.load pl32 rfl (Rl.cell (Rl.ext hq2 e0) (by first | omega | exact idx_u8' _ | (simp only [Int.toNat_natCast]; omega) | (simp only [List.length_map, List.length_drop, List.length_take, List.length_append, List.length_replicate]; omega) | (simp <;> omega)))) rfl ?_
          refine J.eff (Ye.call cl38 rfl (RefBytes_ok (Rl.at' (Rl.ext hq2 e0) (by first | omega | exact idx_u8' _ | (simp only [Int.toNat_natCast]; omega) | (simp only [List.length_map, List.length_drop, List.length_take, List.length_append, List.length_replicate]; omega) | (simp <;> omega))) (by first | omega | (simp only [Int.toNat_natCast]; omega)))) rfl ?_
          rintro s37_6 w6 ⟨os37_6, x1⟩
          have ap_b1_0_s37_6 : Ap (some b1_0) s37_6.ownBlock := Ap.mk (Cel.live c1_0) (Ow.fr os37_6)
          have ap_v3_s37_6 : Ap v3.ownBlock s37_6.ownBlock := Ap.mk (Ow.live ho3) (Ow.fr os37_6)
          have fr_s37_6 : Fr w.heap.size s37_6.ownBlock := Fr.le (Ow.fr os37_6) e0.size
          replace os37_6 := Ow.base os37_6 e0.size
          have e0 := e0.trans x1
          have c1_0 := c1_0.ext x1
          have ho3 := ho3.ext x1
          clear x1
          refine J.eff (Ye.appendS Try.underlying32 ti5 rfl rfl rfl rfl ho3 (Ow.rd os37_6) (fun _ => rfl) (by simp only [List.length_append, Int.toNat_natCast]; omega) e0.size) rfl ?_
          rintro s38_7 w7 ⟨o38_7, hg, hsf⟩
          have ap_b1_0_s38_7 : Ap (some b1_0) s38_7.ownBlock := Ap.sf ap_b1_0_v3 (Cel.live c1_0) hsf
          have ap_s37_6_s38_7 : Ap s37_6.ownBlock s38_7.ownBlock := Ap.sf (Ap.symm ap_v3_s37_6) (Ow.live os37_6) hsf
          have fr_s38_7 : Fr w.heap.size s38_7.ownBlock := Fr.sf fr_v3 hsf e0.size
          have c1_0 := Cel.gbk c1_0 hg ap_b1_0_v3
          have os37_6 := Ow.gbk os37_6 hg (Ap.symm ap_v3_s37_6)
          have e0 := Ext.gbk e0 fr_v3 hg
          clear hg hsf
          refine J.op (Yd.assign rfl) rfl ?_
          refine J.nil ?_
          refine J.n_block ?_
          refine J.n_then ?_
          refine J.region ?_
          refine J.op (Yd.move rfl) rfl ?_
          refine J.op (Yd.add rfl rfl (by first | omega | exact idx_u8' _ | (simp only [Int.toNat_natCast]; omega) | (simp only [List.length_map, List.length_drop, List.length_take, List.length_append, List.length_replicate]; omega) | (simp <;> omega))) rfl ?_
          refine J.op (Yd.assign rfl) rfl ?_
          refine J.nil ?_
          refine J.n_then ?_
          exact J.round ((i + 1, s38_7)) ⟨rfl, rfl, rfl, trivial⟩ (⟨by show i + 1 ≤ x.2.2.2.2.2.length; omega, c1_0, (by rw [bF_take (by omega), ← List.append_assoc]; have h9 := o38_7; rw [Int.toNat_natCast] at h9; exact h9), fr_s38_7, ap_b1_0_s38_7, e0⟩) (by show x.2.2.2.2.2.length - (i + 1) < x.2.2.2.2.2.length - i; omega)
        · skip
          refine J.exit ?_
          refine J.x_then ?_
          refine J.x_then ?_
          refine J.x_block ?_
          refine J.n_then ?_
          refine J.seq ?_
          refine J.region ?_
          refine J.op (Yd.move rfl) rfl ?_
          refine J.op (Yd.assign rfl) rfl ?_
          refine J.nil ?_
          refine J.n_then ?_
          refine J.ret ?_
          refine J.r_block ?_
          refine J.r_then ?_
          exact J.ret1 rfl rfl (⟨_, rfl, (by unfold wF; first | (rw [if_pos hc0]; exact (Ow.rd ho3)) | (rw [if_neg hc0, if_pos hc1]; exact (Ow.rd ho3)) | (rw [if_neg hc0, if_neg hc1, if_pos hc2]; have h9 := (Ow.rd ho3); rw [show i = x.2.2.2.2.2.length by omega, List.take_length] at h9; exact h9) | (rw [if_neg hc0, if_neg hc1, if_neg hc2, if_pos hc4]; exact (Ow.rd ho3)) | (rw [if_neg hc0, if_neg hc1, if_neg hc2, if_neg hc4]; exact Rd.nilM _ _)), e0⟩)
      · skip
        refine J.seq ?_
        refine J.region ?_
        refine J.op (Yd.eql rfl rfl) rfl ?_
        refine J.op (Yd.assign rfl) rfl ?_
        refine J.nil ?_
        refine J.n_then ?_
        refine J.cond_dec rfl (fun hc4 => ?_) (fun hc4 => ?_)
        · skip
          refine J.seq ?_
          refine J.region ?_
          refine J.op (Yd.cast (Yd.fieldA Try.underlying40 rfl ti32 rfl rfl) (show _ = Value.pointer (some ⟨b1_0, 2, none⟩) from rfl)) rfl ?_
          refine J.op (Yd.load pl32 rfl (Cel.cell1 c1_0 2 rfl)) rfl ?_
          refine J.op (Yd.assign rfl) rfl ?_
          refine J.nil ?_
          refine J.n_then ?_
          refine J.ret ?_
          refine J.r_block ?_
          refine J.r_then ?_
          exact J.ret1 rfl rfl (⟨_, rfl, (by unfold wF; first | (rw [if_pos hc0]; exact (Rd.ext hq1 e0)) | (rw [if_neg hc0, if_pos hc1]; exact (Rd.ext hq1 e0)) | (rw [if_neg hc0, if_neg hc1, if_pos hc2]; have h9 := (Rd.ext hq1 e0); rw [show i = x.2.2.2.2.2.length by omega, List.take_length] at h9; exact h9) | (rw [if_neg hc0, if_neg hc1, if_neg hc2, if_pos hc4]; exact (Rd.ext hq1 e0)) | (rw [if_neg hc0, if_neg hc1, if_neg hc2, if_neg hc4]; exact Rd.nilM _ _)), e0⟩)
        · skip
          refine J.skip ?_
          refine J.n_block ?_
          refine J.n_then ?_
          refine J.seq ?_
          refine J.region ?_
          refine J.op (Yd.assign rfl) rfl ?_
          refine J.nil ?_
          refine J.n_then ?_
          refine J.ret ?_
          exact J.ret1 rfl rfl (⟨_, rfl, (by unfold wF; first | (rw [if_pos hc0]; exact (Rd.nilM (fun x : UInt8 => B x) _)) | (rw [if_neg hc0, if_pos hc1]; exact (Rd.nilM (fun x : UInt8 => B x) _)) | (rw [if_neg hc0, if_neg hc1, if_pos hc2]; have h9 := (Rd.nilM (fun x : UInt8 => B x) _); rw [show i = x.2.2.2.2.2.length by omega, List.take_length] at h9; exact h9) | (rw [if_neg hc0, if_neg hc1, if_neg hc2, if_pos hc4]; exact (Rd.nilM (fun x : UInt8 => B x) _)) | (rw [if_neg hc0, if_neg hc1, if_neg hc2, if_neg hc4]; exact Rd.nilM _ _)), e0⟩)
end Ytphebleabcoakaa
end Go.Proofs
