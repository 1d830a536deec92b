import Derived.Test.YtfefphcmfhabiaaT
import Derived.Test.YtfefphcmfhabiaaJ11
set_option linter.unusedVariables false
set_option linter.unusedSimpArgs false
set_option maxRecDepth 100000
set_option maxHeartbeats 4000000
namespace Go.Proofs
open Go.X Go.RowKit
namespace Ytfefphcmfhabiaa
theorem B32_ok {q : Int} {w : World} (hq : 0 ≤ q ∧ q ≤ 1000000000) : C Try.prog 11 [I 32, I q] w (Ret fun v w' => Ob w.heap.size 5 w' v (blkL 32 q) ∧ Ext w w') := Block_ok (n := 32) (by omega) hq

theorem OldestOut_ok {n m : Int} {w : World} (hb : ¬ (1 ≤ n ∧ n ≤ 60 ∧ 0 ≤ m ∧ m ≤ 150)) : C Try.prog 3 [I n, I m] w (Ret fun v w' => v = .bool true ∧ Ext w w') := by
  have e0 := Ext.refl w
  refine C.enter Try.func3 rfl Try.ntmps3 rfl ?_
  refine J.seq ?_
  refine J.region ?_
  refine J.op (Yd.assign rfl) rfl ?_
  refine J.nil ?_
  refine J.n_then ?_
  refine J.seq ?_
  refine J.seq ?_
  refine J.region ?_
  refine J.op (Yd.move rfl) rfl ?_
  refine J.op (Yd.lss rfl rfl) rfl ?_
  refine J.op (Yd.move rfl) rfl ?_
  refine J.split_dec (t := 16) rfl (fun hg1 => ?_) (fun hg1 => ?_)
  · skip
    refine J.not_g rfl rfl rfl rfl rfl ?_
    refine J.not_g rfl rfl rfl rfl rfl ?_
    refine J.op (Yd.pick_t rfl rfl) rfl ?_
    refine J.op (Yd.move rfl) rfl ?_
    refine J.not_g rfl rfl rfl rfl rfl ?_
    refine J.not_g rfl rfl rfl rfl rfl ?_
    refine J.op (Yd.pick_t rfl rfl) rfl ?_
    refine J.op (Yd.move rfl) rfl ?_
    refine J.not_g rfl rfl rfl rfl rfl ?_
    refine J.not_g rfl rfl rfl rfl rfl ?_
    refine J.op (Yd.pick_t rfl rfl) rfl ?_
    refine J.nil ?_
    refine J.n_then ?_
    refine J.cond_true rfl ?_
    refine J.seq ?_
    refine J.region ?_
    refine J.eff (Ye.call cl8 rfl (Awake_ok)) rfl ?_
    rintro _ w1 ⟨rfl, x1⟩
    have e0 := e0.trans x1
    clear x1
    refine J.op (Yd.assign rfl) rfl ?_
    refine J.nil ?_
    refine J.n_then ?_
    refine J.ret ?_
    refine J.r_then ?_
    exact J.ret1 rfl rfl (⟨_, rfl, rfl, e0⟩)
  · skip
    refine J.op_g rfl rfl rfl (Yd.move rfl) rfl ?_
    refine J.op_g rfl rfl rfl (Yd.gtr rfl rfl) rfl ?_
    refine J.op (Yd.pick_f rfl rfl) rfl ?_
    refine J.op (Yd.move rfl) rfl ?_
    refine J.split_dec (t := 20) rfl (fun hg2 => ?_) (fun hg2 => ?_)
    · skip
      refine J.not_g rfl rfl rfl rfl rfl ?_
      refine J.not_g rfl rfl rfl rfl rfl ?_
      refine J.op (Yd.pick_t rfl rfl) rfl ?_
      refine J.op (Yd.move rfl) rfl ?_
      refine J.not_g rfl rfl rfl rfl rfl ?_
      refine J.not_g rfl rfl rfl rfl rfl ?_
      refine J.op (Yd.pick_t rfl rfl) rfl ?_
      refine J.nil ?_
      refine J.n_then ?_
      refine J.cond_true rfl ?_
      refine J.seq ?_
      refine J.region ?_
      refine J.eff (Ye.call cl8 rfl (Awake_ok)) rfl ?_
      rintro _ w2 ⟨rfl, x1⟩
      have e0 := e0.trans x1
      clear x1
      refine J.op (Yd.assign rfl) rfl ?_
      refine J.nil ?_
      refine J.n_then ?_
      refine J.ret ?_
      refine J.r_then ?_
      exact J.ret1 rfl rfl (⟨_, rfl, rfl, e0⟩)
    · skip
      refine J.op_g rfl rfl rfl (Yd.move rfl) rfl ?_
      refine J.op_g rfl rfl rfl (Yd.lss rfl rfl) rfl ?_
      refine J.op (Yd.pick_f rfl rfl) rfl ?_
      refine J.op (Yd.move rfl) rfl ?_
      refine J.split_dec (t := 24) rfl (fun hg3 => ?_) (fun hg3 => ?_)
      · skip
        refine J.not_g rfl rfl rfl rfl rfl ?_
        refine J.not_g rfl rfl rfl rfl rfl ?_
        refine J.op (Yd.pick_t rfl rfl) rfl ?_
        refine J.nil ?_
        refine J.n_then ?_
        refine J.cond_true rfl ?_
        refine J.seq ?_
        refine J.region ?_
        refine J.eff (Ye.call cl8 rfl (Awake_ok)) rfl ?_
        rintro _ w3 ⟨rfl, x1⟩
        have e0 := e0.trans x1
        clear x1
        refine J.op (Yd.assign rfl) rfl ?_
        refine J.nil ?_
        refine J.n_then ?_
        refine J.ret ?_
        refine J.r_then ?_
        exact J.ret1 rfl rfl (⟨_, rfl, rfl, e0⟩)
      · skip
        refine J.op_g rfl rfl rfl (Yd.move rfl) rfl ?_
        refine J.op_g rfl rfl rfl (Yd.gtr rfl rfl) rfl ?_
        refine J.op (Yd.pick_f rfl rfl) rfl ?_
        refine J.nil ?_
        refine J.n_then ?_
        refine J.know (t := 27) (v' := .bool true) rfl (tt (by omega)) ?_
        refine J.cond_true rfl ?_
        refine J.seq ?_
        refine J.region ?_
        refine J.eff (Ye.call cl8 rfl (Awake_ok)) rfl ?_
        rintro _ w4 ⟨rfl, x1⟩
        have e0 := e0.trans x1
        clear x1
        refine J.op (Yd.assign rfl) rfl ?_
        refine J.nil ?_
        refine J.n_then ?_
        refine J.ret ?_
        refine J.r_then ?_
        exact J.ret1 rfl rfl (⟨_, rfl, rfl, e0⟩)

theorem OldestIn_ok {n m : Nat} {w : World} (hb : 1 ≤ n ∧ n ≤ 60 ∧ m ≤ 150) : C Try.prog 3 [I (n : Int), I (m : Int)] w (Ret fun v w' => v = .bool true ∧ Ext w w') := by
  have e0 := Ext.refl w
  refine C.enter Try.func3 rfl Try.ntmps3 rfl ?_
  refine J.seq ?_
  refine J.region ?_
  refine J.op (Yd.assign rfl) rfl ?_
  refine J.nil ?_
  refine J.n_then ?_
  refine J.seq ?_
  refine J.seq ?_
  refine J.region ?_
  refine J.op (Yd.move rfl) rfl ?_
  refine J.op (Yd.lss rfl rfl) rfl ?_
  refine J.op (Yd.move rfl) rfl ?_
  refine J.know (t := 16) (v' := .bool false) rfl (ff (by omega)) ?_
  refine J.op_g rfl rfl rfl (Yd.move rfl) rfl ?_
  refine J.op_g rfl rfl rfl (Yd.gtr rfl rfl) rfl ?_
  refine J.op (Yd.pick_f rfl rfl) rfl ?_
  refine J.op (Yd.move rfl) rfl ?_
  refine J.know (t := 20) (v' := .bool false) rfl (ff (by omega)) ?_
  refine J.op_g rfl rfl rfl (Yd.move rfl) rfl ?_
  refine J.op_g rfl rfl rfl (Yd.lss rfl rfl) rfl ?_
  refine J.op (Yd.pick_f rfl rfl) rfl ?_
  refine J.op (Yd.move rfl) rfl ?_
  refine J.know (t := 24) (v' := .bool false) rfl (ff (by omega)) ?_
  refine J.op_g rfl rfl rfl (Yd.move rfl) rfl ?_
  refine J.op_g rfl rfl rfl (Yd.gtr rfl rfl) rfl ?_
  refine J.op (Yd.pick_f rfl rfl) rfl ?_
  refine J.nil ?_
  refine J.n_then ?_
  refine J.know (t := 27) (v' := .bool false) rfl (ff (by omega)) ?_
  refine J.cond_false rfl ?_
  refine J.skip ?_
  refine J.n_then ?_
  refine J.seq ?_
  refine J.region ?_
  refine J.op (Yd.move rfl) rfl ?_
  refine J.eff (Ye.call cl9 rfl (New_sk (by omega))) rfl ?_
  rintro _ w1 ⟨b31_1, rfl, hs, x1⟩
  replace hs := Sk.le hs e0.size
  have e0 := e0.trans x1
  clear x1
  refine J.op (Yd.move rfl) rfl ?_
  refine J.op (Yd.extract rfl rfl) rfl ?_
  refine J.op (Yd.extract rfl rfl) rfl ?_
  refine J.op (Yd.assign rfl) rfl ?_
  refine J.op (Yd.assign rfl) rfl ?_
  refine J.nil ?_
  refine J.n_then ?_
  refine J.seq ?_
  refine J.seq ?_
  refine J.region ?_
  refine J.op (Yd.move rfl) rfl ?_
  refine J.op (Yd.neq rfl rfl) rfl ?_
  refine J.op (Yd.move rfl) rfl ?_
  refine J.know (t := 36) (v' := .bool false) rfl (ff (by decide)) ?_
  refine J.op_g rfl rfl rfl (Yd.move rfl) rfl ?_
  refine J.op_g rfl rfl rfl (Yd.cast (Yd.eqPn Try.underlying23 rfl rfl) (show _ = Value.bool false from rfl)) rfl ?_
  refine J.op (Yd.pick_f rfl rfl) rfl ?_
  refine J.nil ?_
  refine J.n_then ?_
  refine J.cond_false rfl ?_
  refine J.skip ?_
  refine J.n_then ?_
  refine J.seq ?_
  refine J.seq ?_
  refine J.region ?_
  refine J.op (Yd.assign rfl) rfl ?_
  refine J.nil ?_
  refine J.n_then ?_
  refine J.block ?_
  refine J.loop (ι := Nat) (fun i => [(0, I (n : Int)), (1, I (m : Int)), (7, I (i : Int)), (5, .pointer (some ⟨b31_1, 0, none⟩))]) (fun i w' => i ≤ m ∧ Sk 56 60 w.heap.size w' b31_1 n (LO n i) ∧ Ext w w') (fun i => m - i) (0) ⟨rfl, rfl, rfl, rfl, trivial⟩ (⟨Nat.zero_le _, (by rw [LO_zero]; exact hs), e0⟩) ?_
  rintro i w2 ⟨hk, hs, e0⟩
  refine J.seq ?_
  refine J.seq ?_
  refine J.region ?_
  refine J.op (Yd.move rfl) rfl ?_
  refine J.op (Yd.move rfl) rfl ?_
  refine J.op (Yd.lss rfl rfl) rfl ?_
  refine J.nil ?_
  refine J.n_then ?_
  refine J.cond_dec rfl (fun hc2 => ?_) (fun hc2 => ?_)
  · skip
    refine J.skip ?_
    refine J.n_then ?_
    refine J.seq ?_
    refine J.block ?_
    refine J.seq ?_
    refine J.region ?_
    refine J.op (Yd.move rfl) rfl ?_
    refine J.op (Yd.move rfl) rfl ?_
    refine J.op (Yd.move rfl) rfl ?_
    refine J.eff (Ye.call cl11 rfl (B32_ok (by omega))) rfl ?_
    rintro v49 w3 ⟨hv, hx⟩
    have hbw := e0.size
    have e0 := e0.trans hx
    refine J.eff (Ye.call cl10 rfl (Put_sk hs hx hv hbw (by omega) (by rw [LO_len]; omega) (⟨by decide, by unfold wiK; omega, by rw [blkL_len]⟩) (LO_no))) rfl ?_
    rintro _ w4 ⟨rfl, hs2, x1⟩
    have e0 := e0.th x1
    replace hs := hs2
    clear hs2 x1
    refine J.op (Yd.move rfl) rfl ?_
    refine J.op (Yd.extract rfl rfl) rfl ?_
    refine J.op (Yd.extract rfl rfl) rfl ?_
    refine J.op (Yd.assign rfl) rfl ?_
    refine J.op (Yd.assign rfl) rfl ?_
    refine J.nil ?_
    refine J.n_then ?_
    refine J.seq ?_
    refine J.region ?_
    refine J.op (Yd.assign rfl) rfl ?_
    refine J.nil ?_
    refine J.n_then ?_
    refine J.seq ?_
    refine J.seq ?_
    refine J.region ?_
    refine J.op (Yd.move rfl) rfl ?_
    refine J.op (Yd.move rfl) rfl ?_
    refine J.op (Yd.geq rfl rfl) rfl ?_
    refine J.nil ?_
    refine J.n_then ?_
    refine J.cond_dec rfl (fun hc3 => ?_) (fun hc3 => ?_)
    · skip
      refine J.region ?_
      refine J.op (Yd.assign rfl) rfl ?_
      refine J.nil ?_
      refine J.n_then ?_
      refine J.seq ?_
      refine J.region ?_
      refine J.op (Yd.move rfl) rfl ?_
      refine J.op (Yd.neq rfl rfl) rfl ?_
      refine J.op (Yd.move rfl) rfl ?_
      refine J.know (t := 58) (v' := .bool false) rfl (ff (by decide)) ?_
      refine J.op_g rfl rfl rfl (Yd.move rfl) rfl ?_
      refine J.op_g rfl rfl rfl (Yd.move rfl) rfl ?_
      refine J.op_g rfl rfl rfl (Yd.neq rfl rfl) rfl ?_
      refine J.op (Yd.pick_f rfl rfl) rfl ?_
      refine J.nil ?_
      refine J.n_then ?_
      refine J.know (t := 62) (v' := .bool false) rfl (ff (by rw [pshR_LO]; split <;> omega)) ?_
      refine J.cond_false rfl ?_
      refine J.skip ?_
      refine J.n_block ?_
      refine J.n_then ?_
      refine J.region ?_
      refine J.op (Yd.move rfl) rfl ?_
      refine J.op (Yd.add rfl rfl (by first | omega | exact idx_u8' _ | (simp only [Int.toNat_natCast]; omega) | (simp only [List.length_map, List.length_drop, List.length_take, List.length_append, List.length_replicate]; omega) | (simp <;> omega))) rfl ?_
      refine J.op (Yd.assign rfl) rfl ?_
      refine J.nil ?_
      refine J.n_then ?_
      exact J.round (i + 1) ⟨rfl, rfl, rfl, rfl, trivial⟩ (⟨by omega, (by rw [← LO_psh (by omega)]; exact hs), e0⟩) (by omega)
    · skip
      refine J.skip ?_
      refine J.n_then ?_
      refine J.seq ?_
      refine J.region ?_
      refine J.op (Yd.move rfl) rfl ?_
      refine J.op (Yd.neq rfl rfl) rfl ?_
      refine J.op (Yd.move rfl) rfl ?_
      refine J.know (t := 58) (v' := .bool false) rfl (ff (by decide)) ?_
      refine J.op_g rfl rfl rfl (Yd.move rfl) rfl ?_
      refine J.op_g rfl rfl rfl (Yd.move rfl) rfl ?_
      refine J.op_g rfl rfl rfl (Yd.neq rfl rfl) rfl ?_
      refine J.op (Yd.pick_f rfl rfl) rfl ?_
      refine J.nil ?_
      refine J.n_then ?_
      refine J.know (t := 62) (v' := .bool false) rfl (ff (by rw [pshR_LO]; split <;> omega)) ?_
      refine J.cond_false rfl ?_
      refine J.skip ?_
      refine J.n_block ?_
      refine J.n_then ?_
      refine J.region ?_
      refine J.op (Yd.move rfl) rfl ?_
      refine J.op (Yd.add rfl rfl (by first | omega | exact idx_u8' _ | (simp only [Int.toNat_natCast]; omega) | (simp only [List.length_map, List.length_drop, List.length_take, List.length_append, List.length_replicate]; omega) | (simp <;> omega))) rfl ?_
      refine J.op (Yd.assign rfl) rfl ?_
      refine J.nil ?_
      refine J.n_then ?_
      exact J.round (i + 1) ⟨rfl, rfl, rfl, rfl, trivial⟩ (⟨by omega, (by rw [← LO_psh (by omega)]; exact hs), e0⟩) (by omega)
  · skip
    refine J.exit ?_
    refine J.x_then ?_
    refine J.x_then ?_
    refine J.x_block ?_
    refine J.n_then ?_
    refine J.seq ?_
    refine J.seq ?_
    refine J.region ?_
    refine J.op (Yd.assign rfl) rfl ?_
    refine J.nil ?_
    refine J.n_then ?_
    refine J.block ?_
    refine J.loop (ι := Nat) (fun i => [(0, I (n : Int)), (1, I (m : Int)), (11, I (i : Int)), (5, .pointer (some ⟨b31_1, 0, none⟩))]) (fun i w' => i ≤ m ∧ Sk 56 60 w.heap.size w' b31_1 n (LTk n m i) ∧ Ext w w') (fun i => m - i) (0) ⟨rfl, rfl, rfl, rfl, trivial⟩ (⟨Nat.zero_le _, (by have hkm : i = m := (by omega); subst hkm; rw [LT_zero]; exact hs), e0⟩) ?_
    rintro i w5 ⟨hk, hs, e0⟩
    refine J.seq ?_
    refine J.seq ?_
    refine J.region ?_
    refine J.op (Yd.move rfl) rfl ?_
    refine J.op (Yd.move rfl) rfl ?_
    refine J.op (Yd.lss rfl rfl) rfl ?_
    refine J.nil ?_
    refine J.n_then ?_
    refine J.cond_dec rfl (fun hc5 => ?_) (fun hc5 => ?_)
    · skip
      refine J.skip ?_
      refine J.n_then ?_
      refine J.seq ?_
      refine J.block ?_
      refine J.seq ?_
      refine J.region ?_
      refine J.op (Yd.move rfl) rfl ?_
      refine J.op (Yd.move rfl) rfl ?_
      by_cases hge : (m : Int) - n ≤ i
      · skip
        refine J.eff (Ye.call cl12 rfl (Take_sk hs (LT_pos hge (by omega)) (LT_idx hge (by omega)))) rfl ?_
        rintro _ w6 ⟨v71, rfl, rv, hs2, x1⟩
        have e0 := e0.th x1
        rw [LT_next hge (by omega)] at hs2
        rw [LT_get hge (by omega)] at rv
        replace hs := hs2
        clear hs2 x1
        refine J.op (Yd.move rfl) rfl ?_
        refine J.op (Yd.extract rfl rfl) rfl ?_
        refine J.op (Yd.extract rfl rfl) rfl ?_
        refine J.op (Yd.assign rfl) rfl ?_
        refine J.op (Yd.assign rfl) rfl ?_
        refine J.nil ?_
        refine J.n_then ?_
        refine J.seq ?_
        refine J.regionO [(0, true), (1, true), (2, true), (3, true), (4, true), (5, true), (6, true), (7, true), (8, true), (9, true), (10, true), (11, true), (12, true), (14, true)] [(13, 1), (15, 0), (16, 1)] [(17, true), (18, true), (19, true), (20, true), (21, true), (22, true), (23, true), (24, true), (25, true), (26, true), (27, true)] mix (by kernel_rfl) ?_
        refine J.s_op rfl (fun _ => Yd.move rfl) rfl ?_
        refine J.s_op rfl (fun _ => Yd.eql rfl rfl) rfl ?_
        refine J.s_op rfl (fun _ => Yd.move rfl) rfl ?_
        refine J.s_op rfl (fun _ => Yd.move rfl) rfl ?_
        refine J.s_op rfl (fun _ => Yd.move rfl) rfl ?_
        refine J.s_op rfl (fun _ => Yd.sub rfl rfl (by first | omega | exact idx_u8' _ | (simp only [Int.toNat_natCast]; omega) | (simp only [List.length_map, List.length_drop, List.length_take, List.length_append, List.length_replicate]; omega) | (simp <;> omega))) rfl ?_
        refine J.s_op rfl (fun _ => Yd.geq rfl rfl) rfl ?_
        refine J.s_op rfl (fun _ => Yd.neqb rfl rfl Try.underlying4) rfl ?_
        refine J.s_op rfl (fun _ => Yd.move rfl) rfl ?_
        refine J.know (t := 82) (v' := .bool false) rfl (ff (by simp; omega)) ?_
        refine J.s_op_g rfl rfl rfl rfl (fun _ => Yd.move rfl) rfl ?_
        refine J.s_op_g rfl rfl rfl rfl (fun _ => Yd.eql rfl rfl) rfl ?_
        refine J.s_op_g rfl rfl rfl rfl (fun _ => Yd.move rfl) rfl ?_
        refine J.know (t := 85) (v' := .bool true) rfl (tt (by decide)) ?_
        refine J.s_op_g rfl rfl rfl rfl (fun _ => Yd.move rfl) rfl ?_
        refine J.s_op_g rfl rfl rfl rfl (fun _ => Yd.move rfl) rfl ?_
        refine J.s_nil ?_
        refine J.o_op_g rfl rfl rfl rfl (Yd.bstr Try.underlying29 Try.underlying5 Try.underlying9 rfl rv) rfl ?_
        refine J.o_eff_g rfl rfl rfl rfl (Ye.call cl11 rfl (B32_ok (by omega))) rfl (fun _ _ h => h.2) ?_
        rintro s89_7 w7 ⟨os89_7, x1⟩
        have fr_s89_7 : Fr w.heap.size s89_7.ownBlock := Fr.le (Ow.fr os89_7) e0.size
        replace os89_7 := Ow.base os89_7 e0.size
        have e0 := e0.trans x1
        have hs := hs.ext x1
        have rv := rv.ext x1
        clear x1
        refine J.o_op_g rfl rfl rfl rfl (Yd.bstr Try.underlying29 Try.underlying5 Try.underlying9 rfl (Ow.rd os89_7)) rfl ?_
        refine J.o_nil ?_
        refine J.s_op_g rfl rfl rfl rfl (fun _ => Yd.sne rfl rfl) rfl ?_
        refine J.s_op_g rfl rfl rfl rfl (fun _ => Yd.pick_t rfl rfl) rfl ?_
        refine J.s_op rfl (fun _ => Yd.pick_f rfl rfl) rfl ?_
        refine J.s_op rfl (fun _ => Yd.move rfl) rfl ?_
        refine J.know (t := 94) (v' := .bool false) rfl (ff (by exact fun h => h rfl)) ?_
        refine J.s_op_g rfl rfl rfl rfl (fun _ => Yd.move rfl) rfl ?_
        refine J.s_op_g rfl rfl rfl rfl (fun _ => Yd.neq rfl rfl) rfl ?_
        refine J.s_op_g rfl rfl rfl rfl (fun _ => Yd.move rfl) rfl ?_
        refine J.know (t := 97) (v' := .bool false) rfl (ff (by decide)) ?_
        refine J.s_not_g rfl rfl rfl rfl rfl rfl ?_
        refine J.s_not_g rfl rfl rfl rfl rfl rfl ?_
        refine J.s_op_g rfl rfl rfl rfl (fun _ => Yd.pick_f rfl rfl) rfl ?_
        refine J.s_op rfl (fun _ => Yd.pick_f rfl rfl) rfl ?_
        refine J.s_nil ?_
        refine J.n_np ?_
        refine J.n_then ?_
        refine J.cond_false rfl ?_
        refine J.skip ?_
        refine J.n_block ?_
        refine J.n_then ?_
        refine J.region ?_
        refine J.op (Yd.move rfl) rfl ?_
        refine J.op (Yd.add rfl rfl (by first | omega | exact idx_u8' _ | (simp only [Int.toNat_natCast]; omega) | (simp only [List.length_map, List.length_drop, List.length_take, List.length_append, List.length_replicate]; omega) | (simp <;> omega))) rfl ?_
        refine J.op (Yd.assign rfl) rfl ?_
        refine J.nil ?_
        refine J.n_then ?_
        exact J.round (i + 1) ⟨rfl, rfl, rfl, rfl, trivial⟩ (⟨by omega, hs, e0⟩) (by omega)
      · skip
        refine J.eff (Ye.call cl12 rfl (Take_skno hs (LT_no hge))) rfl ?_
        rintro _ w8 ⟨rfl, x1⟩
        have e0 := e0.trans x1
        have hs := hs.ext x1
        clear x1
        refine J.op (Yd.move rfl) rfl ?_
        refine J.op (Yd.extract rfl rfl) rfl ?_
        refine J.op (Yd.extract rfl rfl) rfl ?_
        refine J.op (Yd.assign rfl) rfl ?_
        refine J.op (Yd.assign rfl) rfl ?_
        refine J.nil ?_
        refine J.n_then ?_
        refine J.seq ?_
        refine J.regionO [(0, true), (1, true), (2, true), (3, true), (4, true), (5, true), (6, true), (7, true), (8, true), (9, true), (10, true), (11, true), (12, true), (14, true)] [(13, 1), (15, 0), (16, 1)] [(17, true), (18, true), (19, true), (20, true), (21, true), (22, true), (23, true), (24, true), (25, true), (26, true), (27, true)] mix (by kernel_rfl) ?_
        refine J.s_op rfl (fun _ => Yd.move rfl) rfl ?_
        refine J.s_op rfl (fun _ => Yd.eql rfl rfl) rfl ?_
        refine J.s_op rfl (fun _ => Yd.move rfl) rfl ?_
        refine J.s_op rfl (fun _ => Yd.move rfl) rfl ?_
        refine J.s_op rfl (fun _ => Yd.move rfl) rfl ?_
        refine J.s_op rfl (fun _ => Yd.sub rfl rfl (by first | omega | exact idx_u8' _ | (simp only [Int.toNat_natCast]; omega) | (simp only [List.length_map, List.length_drop, List.length_take, List.length_append, List.length_replicate]; omega) | (simp <;> omega))) rfl ?_
        refine J.s_op rfl (fun _ => Yd.geq rfl rfl) rfl ?_
        refine J.s_op rfl (fun _ => Yd.neqb rfl rfl Try.underlying4) rfl ?_
        refine J.s_op rfl (fun _ => Yd.move rfl) rfl ?_
        refine J.know (t := 82) (v' := .bool false) rfl (ff (by simp; omega)) ?_
        refine J.s_op_g rfl rfl rfl rfl (fun _ => Yd.move rfl) rfl ?_
        refine J.s_op_g rfl rfl rfl rfl (fun _ => Yd.eql rfl rfl) rfl ?_
        refine J.s_op_g rfl rfl rfl rfl (fun _ => Yd.move rfl) rfl ?_
        refine J.know (t := 85) (v' := .bool false) rfl (ff (by decide)) ?_
        refine J.s_not_g rfl rfl rfl rfl rfl rfl ?_
        refine J.s_not_g rfl rfl rfl rfl rfl rfl ?_
        refine J.s_nil ?_
        refine J.o_not_g rfl rfl rfl rfl rfl rfl ?_
        refine J.o_skip_g rfl rfl rfl rfl rfl rfl ?_
        refine J.o_not_g rfl rfl rfl rfl rfl rfl ?_
        refine J.o_nil ?_
        refine J.s_not_g rfl rfl rfl rfl rfl rfl ?_
        refine J.s_op_g rfl rfl rfl rfl (fun _ => Yd.pick_f rfl rfl) rfl ?_
        refine J.s_op rfl (fun _ => Yd.pick_f rfl rfl) rfl ?_
        refine J.s_op rfl (fun _ => Yd.move rfl) rfl ?_
        refine J.s_op_g rfl rfl rfl rfl (fun _ => Yd.move rfl) rfl ?_
        refine J.s_op_g rfl rfl rfl rfl (fun _ => Yd.neq rfl rfl) rfl ?_
        refine J.s_op_g rfl rfl rfl rfl (fun _ => Yd.move rfl) rfl ?_
        refine J.know (t := 97) (v' := .bool true) rfl (tt (by decide)) ?_
        refine J.s_op_g rfl rfl rfl rfl (fun _ => Yd.move rfl) rfl ?_
        refine J.s_op_g rfl rfl rfl rfl (fun _ => Yd.neq rfl rfl) rfl ?_
        refine J.s_op_g rfl rfl rfl rfl (fun _ => Yd.pick_t rfl rfl) rfl ?_
        refine J.s_op rfl (fun _ => Yd.pick_f rfl rfl) rfl ?_
        refine J.s_nil ?_
        refine J.n_np ?_
        refine J.n_then ?_
        refine J.know (t := 101) (v' := .bool false) rfl (ff (by decide)) ?_
        refine J.cond_false rfl ?_
        refine J.skip ?_
        refine J.n_block ?_
        refine J.n_then ?_
        refine J.region ?_
        refine J.op (Yd.move rfl) rfl ?_
        refine J.op (Yd.add rfl rfl (by first | omega | exact idx_u8' _ | (simp only [Int.toNat_natCast]; omega) | (simp only [List.length_map, List.length_drop, List.length_take, List.length_append, List.length_replicate]; omega) | (simp <;> omega))) rfl ?_
        refine J.op (Yd.assign rfl) rfl ?_
        refine J.nil ?_
        refine J.n_then ?_
        exact J.round (i + 1) ⟨rfl, rfl, rfl, rfl, trivial⟩ (⟨by omega, (by rw [LT_keep hge]; exact hs), e0⟩) (by omega)
    · skip
      refine J.exit ?_
      refine J.x_then ?_
      refine J.x_then ?_
      refine J.x_block ?_
      refine J.n_then ?_
      refine J.seq ?_
      refine J.region ?_
      refine J.op (Yd.move rfl) rfl ?_
      refine J.eff (Ye.call cl13 rfl (Len_sk hs)) rfl ?_
      rintro _ w9 ⟨rfl, x1⟩
      have e0 := e0.trans x1
      have hs := hs.ext x1
      clear x1
      refine J.op (Yd.eql rfl rfl) rfl ?_
      refine J.op (Yd.move rfl) rfl ?_
      refine J.know (t := 105) (v' := .bool true) rfl (tt (by rw [LT_len]; omega)) ?_
      refine J.eff_g rfl rfl rfl (Ye.call cl8 rfl (Awake_ok)) rfl ?_
      rintro _ w10 ⟨rfl, x1⟩
      have e0 := e0.trans x1
      have hs := hs.ext x1
      clear x1
      refine J.op (Yd.pick_t rfl rfl) rfl ?_
      refine J.op (Yd.assign rfl) rfl ?_
      refine J.nil ?_
      refine J.n_then ?_
      refine J.ret ?_
      exact J.ret1 rfl rfl (⟨_, rfl, rfl, e0⟩)

theorem Oldest_ok {n m : Int} {w : World} : C Try.prog 3 [I n, I m] w (Ret fun v w' => v = .bool true ∧ Ext w w') := by
  by_cases hb : 1 ≤ n ∧ n ≤ 60 ∧ 0 ≤ m ∧ m ≤ 150
  · obtain ⟨a, rfl⟩ := Int.eq_ofNat_of_zero_le (show 0 ≤ n by omega)
    obtain ⟨b, rfl⟩ := Int.eq_ofNat_of_zero_le (show 0 ≤ m by omega)
    exact OldestIn_ok (by omega)
  · exact OldestOut_ok hb
end Ytfefphcmfhabiaa
end Go.Proofs
