import Derived.Test.YtghklimejpmpnaaT
import Derived.Test.YtghklimejpmpnaaC15
set_option linter.unusedVariables false
set_option linter.unusedSimpArgs false
set_option maxRecDepth 100000
set_option maxHeartbeats 4000000
namespace Go.Proofs
open Go.X Go.RowKit
namespace Ytghklimejpmpnaa
theorem RNum_30 {a : Value} {l : List UInt8} {w : World} (ha : Bs w a l) (hl : l.length ≤ 1000000) : C Try.prog 42 [a, W64 1073741824] w (Ret fun u w' => ∃ v, u = .tuple #[I (numV l 1073741824).1, v, .bool (numV l 1073741824).2.2] ∧ (∀ W, Bs W a l → Bs W v (numV l 1073741824).2.1) ∧ Ext w w') := RNum_any (t := 1073741824) ha hl (by decide)
theorem GetB_err {a : Value} {l : List UInt8} {w : World} {e : Int} (ha : Bs w a l) (hl : l.length ≤ 1000000) (hb : byF l e) : C Try.prog 43 [a, I 1000] w (Ret fun v w' => v = .tuple #[nilS, I 0, I e] ∧ Ext w w') := by
  rcases hb with ⟨h1, rfl⟩ | ⟨q, k, h1, ⟨h2, rfl⟩ | ⟨h2, h3, rfl⟩⟩
  · exact GetB_none ha hl h1
  · exact GetB_big ha hl h1 h2
  · exact GetB_short ha hl h1 h2 h3

theorem DecodeP_any {a : Value} {l : List UInt8} {w : World} (ha : Bs w a l) (hl : l.length ≤ 1000000) : C Try.prog 25 [a] w (Ret fun u w' => ∃ (y : Pc) (d : List UInt8) (k : Int), u = .tuple #[.agg (pcS.c y).toArray, I k] ∧ Ob w.heap.size 5 w' y.2.2.2 d ∧ decV l = (y.1, y.2.1, y.2.2.1, d, k) ∧ Ext w w') := by
  have e0 := Ext.refl w
  refine C.enter Try.func25 rfl Try.ntmps25 rfl ?_
  refine J.seq ?_
  refine J.region ?_
  refine J.eff (Ye.alloc ti31 (S := [(0, 4, [I 0, I 0, I 0, nilS])]) (by simp [SegAll, SegOK, Value.cells, nilS])) rfl ?_
  rintro _ w1 ⟨b2_0, rfl, hb_, c2_0, x1⟩
  have fr_b2_0 : Fr w.heap.size (some b2_0) := Fr.le (Fr.blk hb_) e0.size
  have e0 := e0.trans x1
  clear x1 hb_
  refine J.op (Yd.assign rfl) rfl ?_
  refine J.nil ?_
  refine J.n_then ?_
  refine J.seq ?_
  refine J.region ?_
  refine J.op (Yd.move rfl) rfl ?_
  refine J.eff (Ye.call cl42 rfl (RNum_30 (Rd.ext ha e0) hl)) rfl ?_
  rintro _ w2 ⟨v21_2, rfl, hv21_2, x1⟩
  have e0 := e0.trans x1
  have c2_0 := c2_0.ext x1
  clear x1
  have hvv0 : ∀ W_, Ext w W_ → Bs W_ v21_2 (numV l 1073741824).2.1 := fun W_ e_ => hv21_2 W_ (ha.ext e_)
  refine J.op (Yd.move rfl) rfl ?_
  refine J.op (Yd.extract rfl rfl) rfl ?_
  refine J.op (Yd.extract rfl rfl) rfl ?_
  refine J.op (Yd.extract rfl rfl) rfl ?_
  refine J.op (Yd.assign rfl) rfl ?_
  refine J.op (Yd.assign rfl) rfl ?_
  refine J.op (Yd.assign rfl) rfl ?_
  refine J.nil ?_
  refine J.n_then ?_
  refine J.seq ?_
  refine J.region ?_
  refine J.op (Yd.move rfl) rfl ?_
  refine J.eff (Ye.call cl42 rfl (RNum_30 (hvv0 _ e0) (Nat.le_trans (numV_len _ _) hl))) rfl ?_
  rintro _ w3 ⟨v27_3, rfl, hv27_3, x1⟩
  have e0 := e0.trans x1
  have c2_0 := c2_0.ext x1
  clear x1
  have hvv1 : ∀ W_, Ext w W_ → Bs W_ v27_3 (numV (numV l 1073741824).2.1 1073741824).2.1 := fun W_ e_ => hv27_3 W_ (hvv0 W_ e_)
  refine J.op (Yd.move rfl) rfl ?_
  refine J.op (Yd.extract rfl rfl) rfl ?_
  refine J.op (Yd.extract rfl rfl) rfl ?_
  refine J.op (Yd.extract rfl rfl) rfl ?_
  refine J.op (Yd.assign rfl) rfl ?_
  refine J.op (Yd.assign rfl) rfl ?_
  refine J.op (Yd.assign rfl) rfl ?_
  refine J.nil ?_
  refine J.n_then ?_
  refine J.seq ?_
  refine J.region ?_
  refine J.op (Yd.move rfl) rfl ?_
  refine J.eff (Ye.call cl42 rfl (RNum_30 (hvv1 _ e0) (Nat.le_trans (numV_len _ _) (Nat.le_trans (numV_len _ _) hl)))) rfl ?_
  rintro _ w4 ⟨v33_4, rfl, hv33_4, x1⟩
  have e0 := e0.trans x1
  have c2_0 := c2_0.ext x1
  clear x1
  have hvv2 : ∀ W_, Ext w W_ → Bs W_ v33_4 (numV (numV (numV l 1073741824).2.1 1073741824).2.1 1073741824).2.1 := fun W_ e_ => hv33_4 W_ (hvv1 W_ e_)
  refine J.op (Yd.move rfl) rfl ?_
  refine J.op (Yd.extract rfl rfl) rfl ?_
  refine J.op (Yd.extract rfl rfl) rfl ?_
  refine J.op (Yd.extract rfl rfl) rfl ?_
  refine J.op (Yd.assign rfl) rfl ?_
  refine J.op (Yd.assign rfl) rfl ?_
  refine J.op (Yd.assign rfl) rfl ?_
  refine J.nil ?_
  refine J.n_then ?_
  refine J.seq ?_
  refine J.seq ?_
  refine J.region ?_
  rcases nums_cases l with ⟨hN, hA⟩ | ⟨hN, hA, hB⟩ | ⟨hN, hA, hB, hD⟩ | ⟨z0, z1, z2, r1, r2, r, hN, h1, h2, h3⟩
  · skip
    refine J.op (Yd.move rfl) rfl ?_
    refine J.op (Yd.not rfl) rfl ?_
    refine J.op (Yd.move rfl) rfl ?_
    refine J.know (t := 39) (v' := .bool true) rfl (by rw [hA]; rfl) ?_
    refine J.not_g rfl rfl rfl rfl rfl ?_
    refine J.not_g rfl rfl rfl rfl rfl ?_
    refine J.op (Yd.pick_t rfl rfl) rfl ?_
    refine J.op (Yd.move rfl) rfl ?_
    refine J.not_g rfl rfl rfl rfl rfl ?_
    refine J.not_g rfl rfl rfl rfl rfl ?_
    refine J.op (Yd.pick_t rfl rfl) rfl ?_
    refine J.nil ?_
    refine J.n_then ?_
    refine J.cond_true rfl ?_
    refine J.seq ?_
    refine J.region ?_
    refine J.op (Yd.cast (Yd.buildS (cells := #[I 0, I 0, I 0, nilS]) (pl := [(0, 1), (1, 1), (2, 1), (3, 1)]) Try.underlying31 (by kernel_rfl) ti31 rfl (by rfl)) (show _ = .agg (pcS.c pcD).toArray from rfl)) rfl ?_
    refine J.eff0 (Ye.storeA (ys := pcS.c pcD) ti31 c2_0 0 rfl rfl rfl rfl (by rfl) (by intro v_ hv_; simp only [pcS, pcD, List.mem_cons, List.mem_nil_iff, or_false] at hv_; rcases hv_ with rfl | rfl | rfl | rfl; rfl; rfl; rfl; rfl)) ?_
    rintro _ w5 ⟨cX, hu⟩
    simp only [List.set_cons_zero, List.set_cons_succ] at cX
    have hg := hu.gb
    have e0 := Ext.gbk e0 fr_b2_0 hg
    clear hg
    replace c2_0 := cX
    clear cX hu
    refine J.op (Yd.assign rfl) rfl ?_
    refine J.nil ?_
    refine J.n_then ?_
    refine J.ret ?_
    refine J.r_then ?_
    exact J.ret2cb rfl rfl ag31 ti31 c2_0 0 rfl rfl (⟨_, rfl, pcD, [], 2, rfl, Ow.nil _ _ _, decV_no (decR_no hN), e0⟩)
  · skip
    refine J.op (Yd.move rfl) rfl ?_
    refine J.op (Yd.not rfl) rfl ?_
    refine J.op (Yd.move rfl) rfl ?_
    refine J.know (t := 39) (v' := .bool false) rfl (by rw [hA]; rfl) ?_
    refine J.op_g rfl rfl rfl (Yd.move rfl) rfl ?_
    refine J.op_g rfl rfl rfl (Yd.not rfl) rfl ?_
    refine J.op (Yd.pick_f rfl rfl) rfl ?_
    refine J.op (Yd.move rfl) rfl ?_
    refine J.know (t := 43) (v' := .bool true) rfl (by rw [hB]; rfl) ?_
    refine J.not_g rfl rfl rfl rfl rfl ?_
    refine J.not_g rfl rfl rfl rfl rfl ?_
    refine J.op (Yd.pick_t rfl rfl) rfl ?_
    refine J.nil ?_
    refine J.n_then ?_
    refine J.cond_true rfl ?_
    refine J.seq ?_
    refine J.region ?_
    refine J.op (Yd.cast (Yd.buildS (cells := #[I 0, I 0, I 0, nilS]) (pl := [(0, 1), (1, 1), (2, 1), (3, 1)]) Try.underlying31 (by kernel_rfl) ti31 rfl (by rfl)) (show _ = .agg (pcS.c pcD).toArray from rfl)) rfl ?_
    refine J.eff0 (Ye.storeA (ys := pcS.c pcD) ti31 c2_0 0 rfl rfl rfl rfl (by rfl) (by intro v_ hv_; simp only [pcS, pcD, List.mem_cons, List.mem_nil_iff, or_false] at hv_; rcases hv_ with rfl | rfl | rfl | rfl; rfl; rfl; rfl; rfl)) ?_
    rintro _ w6 ⟨cX, hu⟩
    simp only [List.set_cons_zero, List.set_cons_succ] at cX
    have hg := hu.gb
    have e0 := Ext.gbk e0 fr_b2_0 hg
    clear hg
    replace c2_0 := cX
    clear cX hu
    refine J.op (Yd.assign rfl) rfl ?_
    refine J.nil ?_
    refine J.n_then ?_
    refine J.ret ?_
    refine J.r_then ?_
    exact J.ret2cb rfl rfl ag31 ti31 c2_0 0 rfl rfl (⟨_, rfl, pcD, [], 2, rfl, Ow.nil _ _ _, decV_no (decR_no hN), e0⟩)
  · skip
    refine J.op (Yd.move rfl) rfl ?_
    refine J.op (Yd.not rfl) rfl ?_
    refine J.op (Yd.move rfl) rfl ?_
    refine J.know (t := 39) (v' := .bool false) rfl (by rw [hA]; rfl) ?_
    refine J.op_g rfl rfl rfl (Yd.move rfl) rfl ?_
    refine J.op_g rfl rfl rfl (Yd.not rfl) rfl ?_
    refine J.op (Yd.pick_f rfl rfl) rfl ?_
    refine J.op (Yd.move rfl) rfl ?_
    refine J.know (t := 43) (v' := .bool false) rfl (by rw [hB]; rfl) ?_
    refine J.op_g rfl rfl rfl (Yd.move rfl) rfl ?_
    refine J.op_g rfl rfl rfl (Yd.not rfl) rfl ?_
    refine J.op (Yd.pick_f rfl rfl) rfl ?_
    refine J.nil ?_
    refine J.n_then ?_
    refine J.know (t := 46) (v' := .bool true) rfl (by rw [hD]; rfl) ?_
    refine J.cond_true rfl ?_
    refine J.seq ?_
    refine J.region ?_
    refine J.op (Yd.cast (Yd.buildS (cells := #[I 0, I 0, I 0, nilS]) (pl := [(0, 1), (1, 1), (2, 1), (3, 1)]) Try.underlying31 (by kernel_rfl) ti31 rfl (by rfl)) (show _ = .agg (pcS.c pcD).toArray from rfl)) rfl ?_
    refine J.eff0 (Ye.storeA (ys := pcS.c pcD) ti31 c2_0 0 rfl rfl rfl rfl (by rfl) (by intro v_ hv_; simp only [pcS, pcD, List.mem_cons, List.mem_nil_iff, or_false] at hv_; rcases hv_ with rfl | rfl | rfl | rfl; rfl; rfl; rfl; rfl)) ?_
    rintro _ w7 ⟨cX, hu⟩
    simp only [List.set_cons_zero, List.set_cons_succ] at cX
    have hg := hu.gb
    have e0 := Ext.gbk e0 fr_b2_0 hg
    clear hg
    replace c2_0 := cX
    clear cX hu
    refine J.op (Yd.assign rfl) rfl ?_
    refine J.nil ?_
    refine J.n_then ?_
    refine J.ret ?_
    refine J.r_then ?_
    exact J.ret2cb rfl rfl ag31 ti31 c2_0 0 rfl rfl (⟨_, rfl, pcD, [], 2, rfl, Ow.nil _ _ _, decV_no (decR_no hN), e0⟩)
  · skip
    have hA1 : (numV l 1073741824).1 = z0 := by rw [h1]
    have hB1 : (numV (numV l 1073741824).2.1 1073741824).1 = z1 := by rw [h1]; show (numV r1 1073741824).1 = z1; rw [h2]
    have hD1 : (numV (numV (numV l 1073741824).2.1 1073741824).2.1 1073741824).1 = z2 := by rw [h1]; show (numV (numV r1 1073741824).2.1 1073741824).1 = z2; rw [h2]; show (numV r2 1073741824).1 = z2; rw [h3]
    have hvr := hvv2
    rw [h1] at hvr
    dsimp only at hvr
    rw [h2] at hvr
    dsimp only at hvr
    rw [h3] at hvr
    dsimp only at hvr
    have hrl := (rdN_len hN).2
    have hrl2 : r.length ≤ 1000000 := Nat.le_trans hrl hl
    refine J.op (Yd.move rfl) rfl ?_
    refine J.op (Yd.not rfl) rfl ?_
    refine J.op (Yd.move rfl) rfl ?_
    refine J.know (t := 39) (v' := .bool false) rfl (by rw [h1]; rfl) ?_
    refine J.op_g rfl rfl rfl (Yd.move rfl) rfl ?_
    refine J.op_g rfl rfl rfl (Yd.not rfl) rfl ?_
    refine J.op (Yd.pick_f rfl rfl) rfl ?_
    refine J.op (Yd.move rfl) rfl ?_
    refine J.know (t := 43) (v' := .bool false) rfl (by rw [h1]; show Value.bool (!(numV r1 1073741824).2.2) = _; rw [h2]; rfl) ?_
    refine J.op_g rfl rfl rfl (Yd.move rfl) rfl ?_
    refine J.op_g rfl rfl rfl (Yd.not rfl) rfl ?_
    refine J.op (Yd.pick_f rfl rfl) rfl ?_
    refine J.nil ?_
    refine J.n_then ?_
    refine J.know (t := 46) (v' := .bool false) rfl (by rw [h1]; show Value.bool (!(numV (numV r1 1073741824).2.1 1073741824).2.2) = _; rw [h2]; show Value.bool (!(numV r2 1073741824).2.2) = _; rw [h3]; rfl) ?_
    refine J.cond_false rfl ?_
    refine J.skip ?_
    refine J.n_then ?_
    refine J.seq ?_
    refine J.region ?_
    rcases dec_cases hN with ⟨e, hbf, hV⟩ | ⟨q, k, hg, hq, hk, hne, hV⟩ | ⟨q, k, hg, hq, hk, hne, hE, hV⟩ | ⟨q, k, hg, hq, hk, hne, hE, hV⟩
    · skip
      refine J.op (Yd.move rfl) rfl ?_
      refine J.eff (Ye.call cl43 rfl (GetB_err (hvr _ e0) hrl2 hbf)) rfl ?_
      rintro _ w8 ⟨rfl, x1⟩
      have e0 := e0.trans x1
      have c2_0 := c2_0.ext x1
      clear x1
      refine J.op (Yd.move rfl) rfl ?_
      refine J.op (Yd.extract rfl rfl) rfl ?_
      refine J.op (Yd.extract rfl rfl) rfl ?_
      refine J.op (Yd.extract rfl rfl) rfl ?_
      refine J.op (Yd.assign rfl) rfl ?_
      refine J.op (Yd.assign rfl) rfl ?_
      refine J.op (Yd.assign rfl) rfl ?_
      refine J.nil ?_
      refine J.n_then ?_
      refine J.seq ?_
      refine J.seq ?_
      refine J.region ?_
      refine J.op (Yd.move rfl) rfl ?_
      refine J.op (Yd.neq rfl rfl) rfl ?_
      refine J.op (Yd.move rfl) rfl ?_
      refine J.know (t := 56) (v' := .bool true) rfl (tt (by exact byF_ne hbf)) ?_
      refine J.not_g rfl rfl rfl rfl rfl ?_
      refine J.not_g rfl rfl rfl rfl rfl ?_
      refine J.not_g rfl rfl rfl rfl rfl ?_
      refine J.not_g rfl rfl rfl rfl rfl ?_
      refine J.op (Yd.pick_t rfl rfl) rfl ?_
      refine J.nil ?_
      refine J.n_then ?_
      refine J.cond_true rfl ?_
      refine J.seq ?_
      refine J.region ?_
      refine J.op (Yd.cast (Yd.buildS (cells := #[I 0, I 0, I 0, nilS]) (pl := [(0, 1), (1, 1), (2, 1), (3, 1)]) Try.underlying31 (by kernel_rfl) ti31 rfl (by rfl)) (show _ = .agg (pcS.c pcD).toArray from rfl)) rfl ?_
      refine J.eff0 (Ye.storeA (ys := pcS.c pcD) ti31 c2_0 0 rfl rfl rfl rfl (by rfl) (by intro v_ hv_; simp only [pcS, pcD, List.mem_cons, List.mem_nil_iff, or_false] at hv_; rcases hv_ with rfl | rfl | rfl | rfl; rfl; rfl; rfl; rfl)) ?_
      rintro _ w9 ⟨cX, hu⟩
      simp only [List.set_cons_zero, List.set_cons_succ] at cX
      have hg := hu.gb
      have e0 := Ext.gbk e0 fr_b2_0 hg
      clear hg
      replace c2_0 := cX
      clear cX hu
      refine J.op (Yd.assign rfl) rfl ?_
      refine J.nil ?_
      refine J.n_then ?_
      refine J.ret ?_
      refine J.r_then ?_
      exact J.ret2cb rfl rfl ag31 ti31 c2_0 0 rfl rfl (⟨_, rfl, pcD, [], 2, rfl, Ow.nil _ _ _, hV, e0⟩)
    · skip
      refine J.op (Yd.move rfl) rfl ?_
      refine J.eff (Ye.call cl43 rfl (GetB_ok (hvr _ e0) hrl2 hg hq hk)) rfl ?_
      rintro _ w10 ⟨v50_10, rfl, ov50_10, x1⟩
      have ap_b2_0_v50_10 : Ap (some b2_0) v50_10.ownBlock := Ap.mk (Cel.live c2_0) (Ow.fr ov50_10)
      have fr_v50_10 : Fr w.heap.size v50_10.ownBlock := Fr.le (Ow.fr ov50_10) e0.size
      replace ov50_10 := Ow.base ov50_10 e0.size
      have e0 := e0.trans x1
      have c2_0 := c2_0.ext x1
      clear x1
      refine J.op (Yd.move rfl) rfl ?_
      refine J.op (Yd.extract rfl rfl) rfl ?_
      refine J.op (Yd.extract rfl rfl) rfl ?_
      refine J.op (Yd.extract rfl rfl) rfl ?_
      refine J.op (Yd.assign rfl) rfl ?_
      refine J.op (Yd.assign rfl) rfl ?_
      refine J.op (Yd.assign rfl) rfl ?_
      refine J.nil ?_
      refine J.n_then ?_
      refine J.seq ?_
      refine J.seq ?_
      refine J.region ?_
      refine J.op (Yd.move rfl) rfl ?_
      refine J.op (Yd.neq rfl rfl) rfl ?_
      refine J.op (Yd.move rfl) rfl ?_
      refine J.know (t := 56) (v' := .bool false) rfl (ff (by decide)) ?_
      refine J.op_g rfl rfl rfl (Yd.move rfl) rfl ?_
      refine J.op_g rfl rfl rfl (Yd.move rfl) rfl ?_
      refine J.op_g rfl rfl rfl (Yd.len_b Try.underlying22 rfl (hvr _ e0)) rfl ?_
      refine J.op_g rfl rfl rfl (Yd.neq rfl rfl) rfl ?_
      refine J.op (Yd.pick_f rfl rfl) rfl ?_
      refine J.nil ?_
      refine J.n_then ?_
      refine J.know (t := 61) (v' := .bool true) rfl (tt (by omega)) ?_
      refine J.cond_true rfl ?_
      refine J.seq ?_
      refine J.region ?_
      refine J.op (Yd.cast (Yd.buildS (cells := #[I 0, I 0, I 0, nilS]) (pl := [(0, 1), (1, 1), (2, 1), (3, 1)]) Try.underlying31 (by kernel_rfl) ti31 rfl (by rfl)) (show _ = .agg (pcS.c pcD).toArray from rfl)) rfl ?_
      refine J.eff0 (Ye.storeA (ys := pcS.c pcD) ti31 c2_0 0 rfl rfl rfl rfl (by rfl) (by intro v_ hv_; simp only [pcS, pcD, List.mem_cons, List.mem_nil_iff, or_false] at hv_; rcases hv_ with rfl | rfl | rfl | rfl; rfl; rfl; rfl; rfl)) ?_
      rintro _ w11 ⟨cX, hu⟩
      simp only [List.set_cons_zero, List.set_cons_succ] at cX
      have hg := hu.gb
      have ov50_10 := Ow.gbk ov50_10 hg (Ap.symm ap_b2_0_v50_10)
      have e0 := Ext.gbk e0 fr_b2_0 hg
      clear hg
      replace c2_0 := cX
      clear cX hu
      refine J.op (Yd.assign rfl) rfl ?_
      refine J.nil ?_
      refine J.n_then ?_
      refine J.ret ?_
      refine J.r_then ?_
      exact J.ret2cb rfl rfl ag31 ti31 c2_0 0 rfl rfl (⟨_, rfl, pcD, [], 2, rfl, Ow.nil _ _ _, hV, e0⟩)
    · skip
      refine J.op (Yd.move rfl) rfl ?_
      refine J.eff (Ye.call cl43 rfl (GetB_ok (hvr _ e0) hrl2 hg hq hk)) rfl ?_
      rintro _ w12 ⟨v50_12, rfl, ov50_12, x1⟩
      have ap_b2_0_v50_12 : Ap (some b2_0) v50_12.ownBlock := Ap.mk (Cel.live c2_0) (Ow.fr ov50_12)
      have fr_v50_12 : Fr w.heap.size v50_12.ownBlock := Fr.le (Ow.fr ov50_12) e0.size
      replace ov50_12 := Ow.base ov50_12 e0.size
      have e0 := e0.trans x1
      have c2_0 := c2_0.ext x1
      clear x1
      refine J.op (Yd.move rfl) rfl ?_
      refine J.op (Yd.extract rfl rfl) rfl ?_
      refine J.op (Yd.extract rfl rfl) rfl ?_
      refine J.op (Yd.extract rfl rfl) rfl ?_
      refine J.op (Yd.assign rfl) rfl ?_
      refine J.op (Yd.assign rfl) rfl ?_
      refine J.op (Yd.assign rfl) rfl ?_
      refine J.nil ?_
      refine J.n_then ?_
      refine J.seq ?_
      refine J.seq ?_
      refine J.region ?_
      refine J.op (Yd.move rfl) rfl ?_
      refine J.op (Yd.neq rfl rfl) rfl ?_
      refine J.op (Yd.move rfl) rfl ?_
      refine J.know (t := 56) (v' := .bool false) rfl (ff (by decide)) ?_
      refine J.op_g rfl rfl rfl (Yd.move rfl) rfl ?_
      refine J.op_g rfl rfl rfl (Yd.move rfl) rfl ?_
      refine J.op_g rfl rfl rfl (Yd.len_b Try.underlying22 rfl (hvr _ e0)) rfl ?_
      refine J.op_g rfl rfl rfl (Yd.neq rfl rfl) rfl ?_
      refine J.op (Yd.pick_f rfl rfl) rfl ?_
      refine J.nil ?_
      refine J.n_then ?_
      refine J.know (t := 61) (v' := .bool false) rfl (ff (by omega)) ?_
      refine J.cond_false rfl ?_
      refine J.skip ?_
      refine J.n_then ?_
      refine J.seq ?_
      refine J.region ?_
      refine J.op (Yd.move rfl) rfl ?_
      refine J.op (Yd.move rfl) rfl ?_
      refine J.op (Yd.move rfl) rfl ?_
      refine J.op (Yd.move rfl) rfl ?_
      have hcV := Rd.cells (Ow.rd ov50_12)
      have hoV := Rd.one (Ow.rd ov50_12)
      refine J.op (Yd.cast (Yd.buildS (cells := #[I (numV l 1073741824).1, I (numV (numV l 1073741824).2.1 1073741824).1, I (numV (numV (numV l 1073741824).2.1 1073741824).2.1 1073741824).1, v50_12]) (pl := [(0, 1), (1, 1), (2, 1), (3, 1)]) Try.underlying31 (by kernel_rfl) ti31 rfl (by simp [Instr.fill, cells_int, cells_agg, hcV])) (show _ = .agg (pcS.c ((z0, z1, z2, v50_12) : Pc)).toArray by rw [hA1, hB1, hD1]; rfl)) rfl ?_
      refine J.eff (Ye.alloc ti31 (S := [(0, 4, [I 0, I 0, I 0, nilS])]) (by simp [SegAll, SegOK, Value.cells, nilS])) rfl ?_
      rintro _ w13 ⟨b16_12, rfl, hb_, c16_12, x1⟩
      have ap_b2_0_b16_12 : Ap (some b2_0) (some b16_12) := Ap.mk (Cel.live c2_0) (Fr.blk hb_)
      have ap_v50_12_b16_12 : Ap v50_12.ownBlock (some b16_12) := Ap.mk (Ow.live ov50_12) (Fr.blk hb_)
      have fr_b16_12 : Fr w.heap.size (some b16_12) := Fr.le (Fr.blk hb_) e0.size
      have e0 := e0.trans x1
      have c2_0 := c2_0.ext x1
      have ov50_12 := ov50_12.ext x1
      clear x1 hb_
      refine J.eff0 (Ye.storeA (ys := pcS.c ((z0, z1, z2, v50_12) : Pc)) ti31 c16_12 0 rfl rfl rfl rfl (by rfl) (by intro v_ hv_; simp only [pcS, pcD, List.mem_cons, List.mem_nil_iff, or_false] at hv_; rcases hv_ with rfl | rfl | rfl | rfl; rfl; rfl; rfl; exact hoV)) ?_
      rintro _ w14 ⟨cX, hu⟩
      simp only [List.set_cons_zero, List.set_cons_succ] at cX
      have hg := hu.gb
      have c2_0 := Cel.gbk c2_0 hg ap_b2_0_b16_12
      have ov50_12 := Ow.gbk ov50_12 hg ap_v50_12_b16_12
      have e0 := Ext.gbk e0 fr_b16_12 hg
      clear hg
      replace c16_12 := cX
      clear cX hu
      refine J.nil ?_
      refine J.n_then ?_
      refine J.seq ?_
      refine J.region ?_
      refine J.op (Yd.cast (Yd.loadA ag31 ti31 rfl c16_12 0 rfl) (show _ = .agg (pcS.c ((z0, z1, z2, v50_12) : Pc)).toArray from rfl)) rfl ?_
      refine J.eff (Ye.call cl23 rfl (EncodeP_any (x := (z0, z1, z2, v50_12)) (l := ((r.drop k).take q.toNat)) (Ow.rd ov50_12))) rfl ?_
      rintro _ w15 ⟨v70_15, rfl, ov70_15, x1⟩
      have ap_b2_0_v70_15 : Ap (some b2_0) v70_15.ownBlock := Ap.mk (Cel.live c2_0) (Ow.fr ov70_15)
      have ap_v50_12_v70_15 : Ap v50_12.ownBlock v70_15.ownBlock := Ap.mk (Ow.live ov50_12) (Ow.fr ov70_15)
      have ap_b16_12_v70_15 : Ap (some b16_12) v70_15.ownBlock := Ap.mk (Cel.live c16_12) (Ow.fr ov70_15)
      have fr_v70_15 : Fr w.heap.size v70_15.ownBlock := Fr.le (Ow.fr ov70_15) e0.size
      replace ov70_15 := Ow.base ov70_15 e0.size
      have e0 := e0.trans x1
      have c2_0 := c2_0.ext x1
      have ov50_12 := ov50_12.ext x1
      have c16_12 := c16_12.ext x1
      clear x1
      refine J.op (Yd.move rfl) rfl ?_
      refine J.op (Yd.extract rfl rfl) rfl ?_
      refine J.op (Yd.extract rfl rfl) rfl ?_
      refine J.op (Yd.assign rfl) rfl ?_
      refine J.op (Yd.assign rfl) rfl ?_
      refine J.nil ?_
      refine J.n_then ?_
      refine J.seq ?_
      refine J.seq ?_
      refine J.region ?_
      refine J.op (Yd.move rfl) rfl ?_
      refine J.op (Yd.neq rfl rfl) rfl ?_
      refine J.nil ?_
      refine J.n_then ?_
      refine J.know (t := 74) (v' := .bool true) rfl (tt (by rw [hE]; decide)) ?_
      refine J.cond_true rfl ?_
      refine J.seq ?_
      refine J.region ?_
      refine J.op (Yd.cast (Yd.buildS (cells := #[I 0, I 0, I 0, nilS]) (pl := [(0, 1), (1, 1), (2, 1), (3, 1)]) Try.underlying31 (by kernel_rfl) ti31 rfl (by rfl)) (show _ = .agg (pcS.c pcD).toArray from rfl)) rfl ?_
      refine J.eff0 (Ye.storeA (ys := pcS.c pcD) ti31 c2_0 0 rfl rfl rfl rfl (by rfl) (by intro v_ hv_; simp only [pcS, pcD, List.mem_cons, List.mem_nil_iff, or_false] at hv_; rcases hv_ with rfl | rfl | rfl | rfl; rfl; rfl; rfl; rfl)) ?_
      rintro _ w16 ⟨cX, hu⟩
      simp only [List.set_cons_zero, List.set_cons_succ] at cX
      have hg := hu.gb
      have ov50_12 := Ow.gbk ov50_12 hg (Ap.symm ap_b2_0_v50_12)
      have c16_12 := Cel.gbk c16_12 hg (Ap.symm ap_b2_0_b16_12)
      have ov70_15 := Ow.gbk ov70_15 hg (Ap.symm ap_b2_0_v70_15)
      have e0 := Ext.gbk e0 fr_b2_0 hg
      clear hg
      replace c2_0 := cX
      clear cX hu
      refine J.op (Yd.assign rfl) rfl ?_
      refine J.nil ?_
      refine J.n_then ?_
      refine J.ret ?_
      refine J.r_then ?_
      exact J.ret2cb rfl rfl ag31 ti31 c2_0 0 rfl rfl (⟨_, rfl, pcD, [], 2, rfl, Ow.nil _ _ _, hV, e0⟩)
    · skip
      refine J.op (Yd.move rfl) rfl ?_
      refine J.eff (Ye.call cl43 rfl (GetB_ok (hvr _ e0) hrl2 hg hq hk)) rfl ?_
      rintro _ w17 ⟨v50_17, rfl, ov50_17, x1⟩
      have ap_b2_0_v50_17 : Ap (some b2_0) v50_17.ownBlock := Ap.mk (Cel.live c2_0) (Ow.fr ov50_17)
      have fr_v50_17 : Fr w.heap.size v50_17.ownBlock := Fr.le (Ow.fr ov50_17) e0.size
      replace ov50_17 := Ow.base ov50_17 e0.size
      have e0 := e0.trans x1
      have c2_0 := c2_0.ext x1
      clear x1
      refine J.op (Yd.move rfl) rfl ?_
      refine J.op (Yd.extract rfl rfl) rfl ?_
      refine J.op (Yd.extract rfl rfl) rfl ?_
      refine J.op (Yd.extract rfl rfl) rfl ?_
      refine J.op (Yd.assign rfl) rfl ?_
      refine J.op (Yd.assign rfl) rfl ?_
      refine J.op (Yd.assign rfl) rfl ?_
      refine J.nil ?_
      refine J.n_then ?_
      refine J.seq ?_
      refine J.seq ?_
      refine J.region ?_
      refine J.op (Yd.move rfl) rfl ?_
      refine J.op (Yd.neq rfl rfl) rfl ?_
      refine J.op (Yd.move rfl) rfl ?_
      refine J.know (t := 56) (v' := .bool false) rfl (ff (by decide)) ?_
      refine J.op_g rfl rfl rfl (Yd.move rfl) rfl ?_
      refine J.op_g rfl rfl rfl (Yd.move rfl) rfl ?_
      refine J.op_g rfl rfl rfl (Yd.len_b Try.underlying22 rfl (hvr _ e0)) rfl ?_
      refine J.op_g rfl rfl rfl (Yd.neq rfl rfl) rfl ?_
      refine J.op (Yd.pick_f rfl rfl) rfl ?_
      refine J.nil ?_
      refine J.n_then ?_
      refine J.know (t := 61) (v' := .bool false) rfl (ff (by omega)) ?_
      refine J.cond_false rfl ?_
      refine J.skip ?_
      refine J.n_then ?_
      refine J.seq ?_
      refine J.region ?_
      refine J.op (Yd.move rfl) rfl ?_
      refine J.op (Yd.move rfl) rfl ?_
      refine J.op (Yd.move rfl) rfl ?_
      refine J.op (Yd.move rfl) rfl ?_
      have hcV := Rd.cells (Ow.rd ov50_17)
      have hoV := Rd.one (Ow.rd ov50_17)
      refine J.op (Yd.cast (Yd.buildS (cells := #[I (numV l 1073741824).1, I (numV (numV l 1073741824).2.1 1073741824).1, I (numV (numV (numV l 1073741824).2.1 1073741824).2.1 1073741824).1, v50_17]) (pl := [(0, 1), (1, 1), (2, 1), (3, 1)]) Try.underlying31 (by kernel_rfl) ti31 rfl (by simp [Instr.fill, cells_int, cells_agg, hcV])) (show _ = .agg (pcS.c ((z0, z1, z2, v50_17) : Pc)).toArray by rw [hA1, hB1, hD1]; rfl)) rfl ?_
      refine J.eff (Ye.alloc ti31 (S := [(0, 4, [I 0, I 0, I 0, nilS])]) (by simp [SegAll, SegOK, Value.cells, nilS])) rfl ?_
      rintro _ w18 ⟨b16_17, rfl, hb_, c16_17, x1⟩
      have ap_b2_0_b16_17 : Ap (some b2_0) (some b16_17) := Ap.mk (Cel.live c2_0) (Fr.blk hb_)
      have ap_v50_17_b16_17 : Ap v50_17.ownBlock (some b16_17) := Ap.mk (Ow.live ov50_17) (Fr.blk hb_)
      have fr_b16_17 : Fr w.heap.size (some b16_17) := Fr.le (Fr.blk hb_) e0.size
      have e0 := e0.trans x1
      have c2_0 := c2_0.ext x1
      have ov50_17 := ov50_17.ext x1
      clear x1 hb_
      refine J.eff0 (Ye.storeA (ys := pcS.c ((z0, z1, z2, v50_17) : Pc)) ti31 c16_17 0 rfl rfl rfl rfl (by rfl) (by intro v_ hv_; simp only [pcS, pcD, List.mem_cons, List.mem_nil_iff, or_false] at hv_; rcases hv_ with rfl | rfl | rfl | rfl; rfl; rfl; rfl; exact hoV)) ?_
      rintro _ w19 ⟨cX, hu⟩
      simp only [List.set_cons_zero, List.set_cons_succ] at cX
      have hg := hu.gb
      have c2_0 := Cel.gbk c2_0 hg ap_b2_0_b16_17
      have ov50_17 := Ow.gbk ov50_17 hg ap_v50_17_b16_17
      have e0 := Ext.gbk e0 fr_b16_17 hg
      clear hg
      replace c16_17 := cX
      clear cX hu
      refine J.nil ?_
      refine J.n_then ?_
      refine J.seq ?_
      refine J.region ?_
      refine J.op (Yd.cast (Yd.loadA ag31 ti31 rfl c16_17 0 rfl) (show _ = .agg (pcS.c ((z0, z1, z2, v50_17) : Pc)).toArray from rfl)) rfl ?_
      refine J.eff (Ye.call cl23 rfl (EncodeP_any (x := (z0, z1, z2, v50_17)) (l := ((r.drop k).take q.toNat)) (Ow.rd ov50_17))) rfl ?_
      rintro _ w20 ⟨v70_20, rfl, ov70_20, x1⟩
      have ap_b2_0_v70_20 : Ap (some b2_0) v70_20.ownBlock := Ap.mk (Cel.live c2_0) (Ow.fr ov70_20)
      have ap_v50_17_v70_20 : Ap v50_17.ownBlock v70_20.ownBlock := Ap.mk (Ow.live ov50_17) (Ow.fr ov70_20)
      have ap_b16_17_v70_20 : Ap (some b16_17) v70_20.ownBlock := Ap.mk (Cel.live c16_17) (Ow.fr ov70_20)
      have fr_v70_20 : Fr w.heap.size v70_20.ownBlock := Fr.le (Ow.fr ov70_20) e0.size
      replace ov70_20 := Ow.base ov70_20 e0.size
      have e0 := e0.trans x1
      have c2_0 := c2_0.ext x1
      have ov50_17 := ov50_17.ext x1
      have c16_17 := c16_17.ext x1
      clear x1
      refine J.op (Yd.move rfl) rfl ?_
      refine J.op (Yd.extract rfl rfl) rfl ?_
      refine J.op (Yd.extract rfl rfl) rfl ?_
      refine J.op (Yd.assign rfl) rfl ?_
      refine J.op (Yd.assign rfl) rfl ?_
      refine J.nil ?_
      refine J.n_then ?_
      refine J.seq ?_
      refine J.seq ?_
      refine J.region ?_
      refine J.op (Yd.move rfl) rfl ?_
      refine J.op (Yd.neq rfl rfl) rfl ?_
      refine J.nil ?_
      refine J.n_then ?_
      refine J.know (t := 74) (v' := .bool false) rfl (ff (by exact fun h => h hE)) ?_
      refine J.cond_false rfl ?_
      refine J.skip ?_
      refine J.n_then ?_
      refine J.seq ?_
      refine J.region ?_
      refine J.op (Yd.cast (Yd.loadA ag31 ti31 rfl c16_17 0 rfl) (show _ = .agg (pcS.c ((z0, z1, z2, v50_17) : Pc)).toArray from rfl)) rfl ?_
      refine J.eff0 (Ye.storeA (ys := pcS.c ((z0, z1, z2, v50_17) : Pc)) ti31 c2_0 0 rfl rfl rfl rfl (by rfl) (by intro v_ hv_; simp only [pcS, pcD, List.mem_cons, List.mem_nil_iff, or_false] at hv_; rcases hv_ with rfl | rfl | rfl | rfl; rfl; rfl; rfl; exact hoV)) ?_
      rintro _ w21 ⟨cX, hu⟩
      simp only [List.set_cons_zero, List.set_cons_succ] at cX
      have hg := hu.gb
      have ov50_17 := Ow.gbk ov50_17 hg (Ap.symm ap_b2_0_v50_17)
      have c16_17 := Cel.gbk c16_17 hg (Ap.symm ap_b2_0_b16_17)
      have ov70_20 := Ow.gbk ov70_20 hg (Ap.symm ap_b2_0_v70_20)
      have e0 := Ext.gbk e0 fr_b2_0 hg
      clear hg
      replace c2_0 := cX
      clear cX hu
      refine J.op (Yd.assign rfl) rfl ?_
      refine J.nil ?_
      refine J.n_then ?_
      refine J.ret ?_
      exact J.ret2cb rfl rfl ag31 ti31 c2_0 0 rfl rfl (⟨_, rfl, (z0, z1, z2, v50_17), ((r.drop k).take q.toNat), 0, rfl, ov50_17, hV, e0⟩)
end Ytghklimejpmpnaa
end Go.Proofs
