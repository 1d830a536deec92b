import Derived.Test.YtpcbkeikhojmbaaT
import Derived.Test.YtpcbkeikhojmbaaK5
set_option linter.unusedVariables false
set_option linter.unusedSimpArgs false
set_option maxRecDepth 100000
set_option maxHeartbeats 4000000
namespace Go.Proofs
open Go.X Go.RowKit
namespace Ytpcbkeikhojmbaa
theorem Sum256_ok {sl : Value} {vs : List Value} {ll : List (List UInt8)} {w : World} (hl : Rl w sl vs ll) (ht : ll.flatten.length ≤ 1000000) : C Try.prog 14 [sl] w (Ret fun v w' => Ob w.heap.size 5 w' v (sqL (soakK 136 6 ll.flatten) 136 32) ∧ Ext w w') := by
  have e0 := Ext.refl w
  refine C.enter Try.func14 rfl Try.ntmps14 rfl ?_
  refine J.seq ?_
  refine J.region ?_
  refine J.op (Yd.assign rfl) rfl ?_
  refine J.nil ?_
  refine J.n_then ?_
  refine J.seq ?_
  refine J.region ?_
  refine J.op (Yd.move rfl) rfl ?_
  refine J.eff (Ye.call cl27 rfl (Soaked_ok (R := 136) (e := 6) (by decide) hl (by first | omega | assumption))) rfl ?_
  rintro _ w1 ⟨b4_1, rfl, hbb4_1, cb4_1, x1⟩
  have fr_b4_1 : Fr w.heap.size (some b4_1) := Fr.le (Fr.blk hbb4_1) e0.size
  have e0 := e0.trans x1
  clear x1
  refine J.eff (Ye.call cl28 rfl (Read_ok (by decide) (soakK_len _ _ _) cb4_1 (by omega))) rfl ?_
  rintro v5_2 w2 ⟨ov5_2, cX1, x1⟩
  have ap_b4_1_v5_2 : Ap (some b4_1) v5_2.ownBlock := Ap.mk (Cel.live cb4_1) (Ow.fr ov5_2)
  have fr_v5_2 : Fr w.heap.size v5_2.ownBlock := Fr.le (Ow.fr ov5_2) e0.size
  replace ov5_2 := Ow.base ov5_2 e0.size
  have e0 := Ext.tnk e0 (fun q hq => by simp only [List.mem_singleton] at hq; subst hq; exact fr_b4_1) x1
  clear x1
  replace cb4_1 := cX1
  clear cX1
  refine J.op (Yd.assign rfl) rfl ?_
  refine J.nil ?_
  refine J.n_then ?_
  refine J.ret ?_
  exact J.ret1 rfl rfl (⟨_, rfl, ov5_2, e0⟩)

theorem Sum512_ok {sl : Value} {vs : List Value} {ll : List (List UInt8)} {w : World} (hl : Rl w sl vs ll) (ht : ll.flatten.length ≤ 1000000) : C Try.prog 16 [sl] w (Ret fun v w' => Ob w.heap.size 5 w' v (sqL (soakK 72 6 ll.flatten) 72 64) ∧ Ext w w') := by
  have e0 := Ext.refl w
  refine C.enter Try.func16 rfl Try.ntmps16 rfl ?_
  refine J.seq ?_
  refine J.region ?_
  refine J.op (Yd.assign rfl) rfl ?_
  refine J.nil ?_
  refine J.n_then ?_
  refine J.seq ?_
  refine J.region ?_
  refine J.op (Yd.move rfl) rfl ?_
  refine J.eff (Ye.call cl27 rfl (Soaked_ok (R := 72) (e := 6) (by decide) hl (by first | omega | assumption))) rfl ?_
  rintro _ w1 ⟨b4_1, rfl, hbb4_1, cb4_1, x1⟩
  have fr_b4_1 : Fr w.heap.size (some b4_1) := Fr.le (Fr.blk hbb4_1) e0.size
  have e0 := e0.trans x1
  clear x1
  refine J.eff (Ye.call cl28 rfl (Read_ok (by decide) (soakK_len _ _ _) cb4_1 (by omega))) rfl ?_
  rintro v5_2 w2 ⟨ov5_2, cX1, x1⟩
  have ap_b4_1_v5_2 : Ap (some b4_1) v5_2.ownBlock := Ap.mk (Cel.live cb4_1) (Ow.fr ov5_2)
  have fr_v5_2 : Fr w.heap.size v5_2.ownBlock := Fr.le (Ow.fr ov5_2) e0.size
  replace ov5_2 := Ow.base ov5_2 e0.size
  have e0 := Ext.tnk e0 (fun q hq => by simp only [List.mem_singleton] at hq; subst hq; exact fr_b4_1) x1
  clear x1
  replace cb4_1 := cX1
  clear cX1
  refine J.op (Yd.assign rfl) rfl ?_
  refine J.nil ?_
  refine J.n_then ?_
  refine J.ret ?_
  exact J.ret1 rfl rfl (⟨_, rfl, ov5_2, e0⟩)

theorem Shake128_ok {sl : Value} {vs : List Value} {ll : List (List UInt8)} {n : Int} {w : World} (hl : Rl w sl vs ll) (ht : ll.flatten.length ≤ 1000000) : C Try.prog 17 [I n, sl] w (Ret fun v w' => Ob w.heap.size 5 w' v (sqL (soakK 168 31 ll.flatten) 168 (shN n)) ∧ Ext w w') := by
  have e0 := Ext.refl w
  refine C.enter Try.func17 rfl Try.ntmps17 rfl ?_
  refine J.seq ?_
  refine J.region ?_
  refine J.op (Yd.assign rfl) rfl ?_
  refine J.nil ?_
  refine J.n_then ?_
  refine J.seq ?_
  refine J.region ?_
  refine J.op (Yd.move rfl) rfl ?_
  refine J.eff (Ye.call cl27 rfl (Soaked_ok (R := 168) (e := 31) (by decide) hl (by first | omega | assumption))) rfl ?_
  rintro _ w1 ⟨b6_1, rfl, hbb6_1, cb6_1, x1⟩
  have fr_b6_1 : Fr w.heap.size (some b6_1) := Fr.le (Fr.blk hbb6_1) e0.size
  have e0 := e0.trans x1
  clear x1
  refine J.op (Yd.move rfl) rfl ?_
  refine J.op (Yd.mini rfl rfl) rfl ?_
  refine J.eff (Ye.call cl28 rfl (Read_ok (by decide) (soakK_len _ _ _) cb6_1 (by split <;> omega))) rfl ?_
  rintro v9_2 w2 ⟨ov9_2, cX1, x1⟩
  have ap_b6_1_v9_2 : Ap (some b6_1) v9_2.ownBlock := Ap.mk (Cel.live cb6_1) (Ow.fr ov9_2)
  have fr_v9_2 : Fr w.heap.size v9_2.ownBlock := Fr.le (Ow.fr ov9_2) e0.size
  replace ov9_2 := Ow.base ov9_2 e0.size
  have e0 := Ext.tnk e0 (fun q hq => by simp only [List.mem_singleton] at hq; subst hq; exact fr_b6_1) x1
  clear x1
  replace cb6_1 := cX1
  clear cX1
  refine J.op (Yd.assign rfl) rfl ?_
  refine J.nil ?_
  refine J.n_then ?_
  refine J.ret ?_
  exact J.ret1 rfl rfl (⟨_, rfl, (by have h9 := ov9_2; rw [shk_n] at h9; exact h9), e0⟩)

theorem Shake256_ok {sl : Value} {vs : List Value} {ll : List (List UInt8)} {n : Int} {w : World} (hl : Rl w sl vs ll) (ht : ll.flatten.length ≤ 1000000) : C Try.prog 19 [I n, sl] w (Ret fun v w' => Ob w.heap.size 5 w' v (sqL (soakK 136 31 ll.flatten) 136 (shN n)) ∧ Ext w w') := by
  have e0 := Ext.refl w
  refine C.enter Try.func19 rfl Try.ntmps19 rfl ?_
  refine J.seq ?_
  refine J.region ?_
  refine J.op (Yd.assign rfl) rfl ?_
  refine J.nil ?_
  refine J.n_then ?_
  refine J.seq ?_
  refine J.region ?_
  refine J.op (Yd.move rfl) rfl ?_
  refine J.eff (Ye.call cl27 rfl (Soaked_ok (R := 136) (e := 31) (by decide) hl (by first | omega | assumption))) rfl ?_
  rintro _ w1 ⟨b6_1, rfl, hbb6_1, cb6_1, x1⟩
  have fr_b6_1 : Fr w.heap.size (some b6_1) := Fr.le (Fr.blk hbb6_1) e0.size
  have e0 := e0.trans x1
  clear x1
  refine J.op (Yd.move rfl) rfl ?_
  refine J.op (Yd.mini rfl rfl) rfl ?_
  refine J.eff (Ye.call cl28 rfl (Read_ok (by decide) (soakK_len _ _ _) cb6_1 (by split <;> omega))) rfl ?_
  rintro v9_2 w2 ⟨ov9_2, cX1, x1⟩
  have ap_b6_1_v9_2 : Ap (some b6_1) v9_2.ownBlock := Ap.mk (Cel.live cb6_1) (Ow.fr ov9_2)
  have fr_v9_2 : Fr w.heap.size v9_2.ownBlock := Fr.le (Ow.fr ov9_2) e0.size
  replace ov9_2 := Ow.base ov9_2 e0.size
  have e0 := Ext.tnk e0 (fun q hq => by simp only [List.mem_singleton] at hq; subst hq; exact fr_b6_1) x1
  clear x1
  replace cb6_1 := cX1
  clear cX1
  refine J.op (Yd.assign rfl) rfl ?_
  refine J.nil ?_
  refine J.n_then ?_
  refine J.ret ?_
  exact J.ret1 rfl rfl (⟨_, rfl, (by have h9 := ov9_2; rw [shk_n] at h9; exact h9), e0⟩)

theorem NewReader_ok {sl : Value} {vs : List Value} {ll : List (List UInt8)} {w : World} (hl : Rl w sl vs ll) (ht : ll.flatten.length ≤ 1000000) : C Try.prog 20 [sl] w (Ret fun u w' => ∃ b bp, u = .pointer (some ⟨b, 0, none⟩) ∧ w.heap.size ≤ b ∧ w.heap.size ≤ bp ∧ Ap (some bp) (some b) ∧ Cel w' b 58 [(0, 1, [.pointer (some ⟨bp, 0, none⟩)])] ∧ Cel w' bp 61 (spS (soakK 168 31 ll.flatten) 168 0) ∧ Ext w w') := by
  have e0 := Ext.refl w
  refine C.enter Try.func20 rfl Try.ntmps20 rfl ?_
  refine J.seq ?_
  refine J.region ?_
  refine J.op (Yd.assign rfl) rfl ?_
  refine J.nil ?_
  refine J.n_then ?_
  refine J.seq ?_
  refine J.region ?_
  refine J.op (Yd.move rfl) rfl ?_
  refine J.eff (Ye.call cl27 rfl (Soaked_ok (R := 168) (e := 31) (by decide) hl (by first | omega | assumption))) rfl ?_
  rintro _ w1 ⟨b4_1, rfl, hbb4_1, cb4_1, x1⟩
  have fr_b4_1 : Fr w.heap.size (some b4_1) := Fr.le (Fr.blk hbb4_1) e0.size
  have e0 := e0.trans x1
  clear x1
  refine J.op (Yd.buildV (pl := [(0, 1)]) Try.underlying58 (by kernel_rfl) ti58 rfl rfl (by simp [OffOK, cells_agg, cells_ptr]) (by simp [catV, cells_agg, cells_ptr])) rfl ?_
  refine J.eff (Ye.box (S := [(0, 1, [.pointer (some ⟨b4_1, 0, none⟩)])]) rfl (by simp [SegAll, SegOK, catV, cells_agg, cells_ptr])) rfl ?_
  rintro _ w2 ⟨b6_1, rfl, hb_, c6_1, x1⟩
  have ap_b4_1_b6_1 : Ap (some b4_1) (some b6_1) := Ap.mk (Cel.live cb4_1) (Fr.blk hb_)
  have fr_b6_1 : Fr w.heap.size (some b6_1) := Fr.le (Fr.blk hb_) e0.size
  have e0 := e0.trans x1
  have cb4_1 := cb4_1.ext x1
  clear x1 hb_
  refine J.op (Yd.assign rfl) rfl ?_
  refine J.nil ?_
  refine J.n_then ?_
  refine J.ret ?_
  exact J.ret1 rfl rfl (⟨_, rfl, b6_1, b4_1, rfl, fr_b6_1 _ rfl, fr_b4_1 _ rfl, ap_b4_1_b6_1, c6_1, cb4_1, e0⟩)

theorem RRead_ok {b bp t : Nat} {s : List UInt64} {n : Int} {w : World} (hs : s.length = 25) (hb : Cel w b 58 [(0, 1, [.pointer (some ⟨bp, 0, none⟩)])]) (hc : Cel w bp 61 (spS s 168 t)) (hap : Ap (some bp) (some b)) : C Try.prog 21 [.pointer (some ⟨b, 0, none⟩), I n] w (Ret fun v w' => Ob w.heap.size 5 w' v (sqF s 168 t (rdN n)) ∧ Cel w' bp 61 (spS s 168 (t + rdN n)) ∧ Tn [some bp] w w') := by
  have e0 := Tn.refl [(some bp)] w
  refine C.enter Try.func21 rfl Try.ntmps21 rfl ?_
  refine J.seq ?_
  refine J.region ?_
  refine J.op (Yd.assign rfl) rfl ?_
  refine J.nil ?_
  refine J.n_then ?_
  refine J.seq ?_
  refine J.seq ?_
  refine J.region ?_
  refine J.op (Yd.move rfl) rfl ?_
  refine J.op (Yd.cast (Yd.eqPn Try.underlying39 rfl rfl) (show _ = Value.bool false from rfl)) rfl ?_
  refine J.op (Yd.move rfl) rfl ?_
  refine J.op_g rfl rfl rfl (Yd.move rfl) rfl ?_
  refine J.op_g rfl rfl rfl (Yd.lss rfl rfl) rfl ?_
  refine J.op (Yd.pick_f rfl rfl) rfl ?_
  refine J.op (Yd.move rfl) rfl ?_
  refine J.split_dec (t := 11) rfl (fun h3 => ?_) (fun h3 => ?_)
  · skip
    refine J.not_g rfl rfl rfl rfl rfl ?_
    refine J.not_g rfl rfl rfl rfl rfl ?_
    refine J.op (Yd.pick_t rfl rfl) rfl ?_
    refine J.nil ?_
    refine J.n_then ?_
    refine J.cond_true rfl ?_
    refine J.seq ?_
    refine J.region ?_
    refine J.op (Yd.assign rfl) rfl ?_
    refine J.nil ?_
    refine J.n_then ?_
    refine J.ret ?_
    refine J.r_then ?_
    exact J.ret1 rfl rfl (⟨_, rfl, (by rw [rdN_no (by omega)]; exact Ow.nil _ _ _), (by rw [rdN_no (by omega), Nat.add_zero]; exact hc), e0⟩)
  · skip
    refine J.op_g rfl rfl rfl (Yd.move rfl) rfl ?_
    refine J.op_g rfl rfl rfl (Yd.gtr rfl rfl) rfl ?_
    refine J.op (Yd.pick_f rfl rfl) rfl ?_
    refine J.nil ?_
    refine J.n_then ?_
    refine J.cond_dec rfl (fun hc0 => ?_) (fun hc0 => ?_)
    · skip
      refine J.seq ?_
      refine J.region ?_
      refine J.op (Yd.assign rfl) rfl ?_
      refine J.nil ?_
      refine J.n_then ?_
      refine J.ret ?_
      refine J.r_then ?_
      exact J.ret1 rfl rfl (⟨_, rfl, (by rw [rdN_no (by omega)]; exact Ow.nil _ _ _), (by rw [rdN_no (by omega), Nat.add_zero]; exact hc), e0⟩)
    · skip
      refine J.skip ?_
      refine J.n_then ?_
      refine J.seq ?_
      refine J.seq ?_
      refine J.region ?_
      refine J.op (Yd.move rfl) rfl ?_
      refine J.op (Yd.nilCheck rfl) rfl ?_
      refine J.op (Yd.cast (Yd.fieldA Try.underlying58 rfl ti54 rfl rfl) (show _ = Value.pointer (some ⟨b, 0, none⟩) from rfl)) rfl ?_
      refine J.op (Yd.load pl54 rfl (Cel.cell1 hb 0 rfl)) rfl ?_
      refine J.op (Yd.cast (Yd.eqPn Try.underlying54 rfl rfl) (show _ = Value.bool false from rfl)) rfl ?_
      refine J.nil ?_
      refine J.n_then ?_
      refine J.cond_false rfl ?_
      refine J.skip ?_
      refine J.n_then ?_
      refine J.seq ?_
      refine J.region ?_
      refine J.op (Yd.move rfl) rfl ?_
      refine J.op (Yd.nilCheck rfl) rfl ?_
      refine J.op (Yd.cast (Yd.fieldA Try.underlying58 rfl ti54 rfl rfl) (show _ = Value.pointer (some ⟨b, 0, none⟩) from rfl)) rfl ?_
      refine J.op (Yd.load pl54 rfl (Cel.cell1 hb 0 rfl)) rfl ?_
      refine J.op (Yd.move rfl) rfl ?_
      refine J.eff (Ye.call cl28 rfl (Read_ok (by decide) hs hc (by omega))) rfl ?_
      rintro v29_1 w1 ⟨ov29_1, cX1, x1⟩
      have ap_b_v29_1 : Ap (some b) v29_1.ownBlock := Ap.mk (Cel.live hb) (Ow.fr ov29_1)
      have ap_bp_v29_1 : Ap (some bp) v29_1.ownBlock := Ap.mk (Cel.live hc) (Ow.fr ov29_1)
      have fr_v29_1 : Fr w.heap.size v29_1.ownBlock := Fr.le (Ow.fr ov29_1) e0.size
      replace ov29_1 := Ow.base ov29_1 e0.size
      have hb := Cel.tnk hb x1 (ApL.one (Ap.symm hap))
      have e0 := Tn.tnk e0 (fun q hq => by simp only [List.mem_singleton] at hq; subst hq; exact .inl (by simp)) x1
      clear x1
      replace hc := cX1
      clear cX1
      refine J.op (Yd.assign rfl) rfl ?_
      refine J.nil ?_
      refine J.n_then ?_
      refine J.ret ?_
      exact J.ret1 rfl rfl (⟨_, rfl, (by rw [rdN_yes (by omega)]; exact ov29_1), (by rw [rdN_yes (by omega)]; exact hc), e0⟩)

theorem RReadNil_ok {n : Int} {w : World} : C Try.prog 21 [.pointer none, I n] w (Ret fun v w' => v = nilS ∧ Ext w w') := by
  have e0 := Ext.refl w
  refine C.enter Try.func21 rfl Try.ntmps21 rfl ?_
  refine J.seq ?_
  refine J.region ?_
  refine J.op (Yd.assign rfl) rfl ?_
  refine J.nil ?_
  refine J.n_then ?_
  refine J.seq ?_
  refine J.seq ?_
  refine J.region ?_
  refine J.op (Yd.move rfl) rfl ?_
  refine J.op (Yd.cast (Yd.eqPn Try.underlying39 rfl rfl) (show _ = Value.bool true from rfl)) rfl ?_
  refine J.op (Yd.move rfl) rfl ?_
  refine J.not_g rfl rfl rfl rfl rfl ?_
  refine J.not_g rfl rfl rfl rfl rfl ?_
  refine J.op (Yd.pick_t rfl rfl) rfl ?_
  refine J.op (Yd.move rfl) rfl ?_
  refine J.not_g rfl rfl rfl rfl rfl ?_
  refine J.not_g rfl rfl rfl rfl rfl ?_
  refine J.op (Yd.pick_t rfl rfl) rfl ?_
  refine J.nil ?_
  refine J.n_then ?_
  refine J.cond_true rfl ?_
  refine J.seq ?_
  refine J.region ?_
  refine J.op (Yd.assign rfl) rfl ?_
  refine J.nil ?_
  refine J.n_then ?_
  refine J.ret ?_
  refine J.r_then ?_
  exact J.ret1 rfl rfl (⟨_, rfl, rfl, e0⟩)
end Ytpcbkeikhojmbaa
end Go.Proofs
