import Derived.Test.YtpcbkeikhojmbaaT
import Derived.Test.YtpcbkeikhojmbaaK1
set_option linter.unusedVariables false
set_option linter.unusedSimpArgs false
set_option maxRecDepth 100000
set_option maxHeartbeats 4000000
namespace Go.Proofs
open Go.X Go.RowKit
namespace Ytpcbkeikhojmbaa
theorem Rounds3_ok {w : World} : C Try.prog 25 [] w (Ret fun v w' => v = Ag (fun x : UInt64 => W64 x) rcL ∧ Ext w w') := by
  have e0 := Ext.refl w
  refine C.enter Try.func25 rfl Try.ntmps25 rfl ?_
  refine J.seq ?_
  refine J.region ?_
  refine J.eff (Ye.alloc ti49 (S := [(0, 24, (List.replicate 24 0).map (fun x : UInt64 => W64 x))]) (by simp [SegAll, SegOK, Value.cells])) rfl ?_
  rintro _ w1 ⟨b0_0, rfl, hb_, c0_0, x1⟩
  have fr_b0_0 : Fr w.heap.size (some b0_0) := Fr.le (Fr.blk hb_) e0.size
  have e0 := e0.trans x1
  clear x1 hb_
  refine J.nil ?_
  refine J.n_then ?_
  refine J.seq ?_
  refine J.region ?_
  refine J.op (Yd.buildA (cells := (rcL.map fun x => W64 x).toArray) Try.underlying49 ti23 ti49 rfl (by kernel_rfl)) rfl ?_
  refine J.eff0 (Ye.storeA (ys := List.map (fun x : UInt64 => W64 x) _) ti49 c0_0 0 rfl rfl rfl rfl (by first | (rw [List.length_map]; omega) | (simp; done) | rfl | (simp <;> omega)) (one_M _ (fun _ => rfl))) ?_
  rintro _ w2 ⟨cX, hu⟩
  simp only [List.set_cons_zero, List.set_cons_succ] at cX
  have hg := hu.gb
  have e0 := Ext.gbk e0 fr_b0_0 hg
  clear hg
  replace c0_0 := cX
  clear cX hu
  refine J.nil ?_
  refine J.n_then ?_
  refine J.ret ?_
  exact J.ret1c rfl rfl ag49 ti49 c0_0 0 rfl (⟨_, rfl, rfl, e0⟩)

theorem Permute_ok {a : List UInt64} {w : World} (ha : a.length = 25) : C Try.prog 9 [Ag (fun x : UInt64 => W64 x) a] w (Ret fun v w' => v = Ag (fun x : UInt64 => W64 x) (permL a) ∧ Ext w w') := by
  have e0 := Ext.refl w
  refine C.enter Try.func9 rfl Try.ntmps9 rfl ?_
  refine J.seq ?_
  refine J.region ?_
  refine J.eff (Ye.box rfl (Ag.all _ _ (n := 25) (by first | omega | exact idx_u8' _ | (simp only [Int.toNat_natCast]; omega) | (simp only [List.length_map, List.length_drop, List.length_take, List.length_append, List.length_replicate]; omega) | (simp <;> omega)))) rfl ?_
  rintro _ w1 ⟨b1_0, rfl, hb_, c1_0, x1⟩
  have fr_b1_0 : Fr w.heap.size (some b1_0) := Fr.le (Fr.blk hb_) e0.size
  have e0 := e0.trans x1
  clear x1 hb_
  refine J.eff (Ye.alloc ti24 (S := [(0, 25, (List.replicate 25 0).map (fun x : UInt64 => W64 x))]) (by simp [SegAll, SegOK, Value.cells])) rfl ?_
  rintro _ w2 ⟨b2_1, rfl, hb_, c2_1, x1⟩
  have ap_b1_0_b2_1 : Ap (some b1_0) (some b2_1) := Ap.mk (Cel.live c1_0) (Fr.blk hb_)
  have fr_b2_1 : Fr w.heap.size (some b2_1) := Fr.le (Fr.blk hb_) e0.size
  have e0 := e0.trans x1
  have c1_0 := c1_0.ext x1
  clear x1 hb_
  refine J.nil ?_
  refine J.n_then ?_
  refine J.seq ?_
  refine J.region ?_
  refine J.op (Yd.loadA ag24 ti24 rfl c1_0 0 rfl) rfl ?_
  refine J.eff (Ye.alloc ti45 (S := [(0, 25, (List.replicate 25 0).map (fun x : UInt64 => W64 x))]) (by simp [SegAll, SegOK, Value.cells])) rfl ?_
  rintro _ w3 ⟨b3_2, rfl, hb_, c3_2, x1⟩
  have ap_b1_0_b3_2 : Ap (some b1_0) (some b3_2) := Ap.mk (Cel.live c1_0) (Fr.blk hb_)
  have ap_b2_1_b3_2 : Ap (some b2_1) (some b3_2) := Ap.mk (Cel.live c2_1) (Fr.blk hb_)
  have fr_b3_2 : Fr w.heap.size (some b3_2) := Fr.le (Fr.blk hb_) e0.size
  have e0 := e0.trans x1
  have c1_0 := c1_0.ext x1
  have c2_1 := c2_1.ext x1
  clear x1 hb_
  refine J.eff0 (Ye.storeA (ys := List.map (fun x : UInt64 => W64 x) _) ti45 c3_2 0 rfl rfl rfl rfl (by first | (rw [List.length_map]; omega) | (simp; done) | rfl | (simp <;> omega)) (one_M _ (fun _ => rfl))) ?_
  rintro _ w4 ⟨cX, hu⟩
  simp only [List.set_cons_zero, List.set_cons_succ] at cX
  have hg := hu.gb
  have c1_0 := Cel.gbk c1_0 hg ap_b1_0_b3_2
  have c2_1 := Cel.gbk c2_1 hg ap_b2_1_b3_2
  have e0 := Ext.gbk e0 fr_b3_2 hg
  clear hg
  replace c3_2 := cX
  clear cX hu
  refine J.nil ?_
  refine J.n_then ?_
  refine J.seq ?_
  refine J.region ?_
  refine J.op (Yd.buildA (cells := #[.func (.func 22) #[] #[], .func (.func 23) #[] #[], .func (.func 24) #[] #[]]) Try.underlying48 ti46 ti48 rfl (by kernel_rfl)) rfl ?_
  refine J.eff (Ye.alloc ti48 (S := [(0, 3, List.replicate 3 (.nilFunc))]) (by simp [SegAll, SegOK, Value.cells])) rfl ?_
  rintro _ w5 ⟨b4_4, rfl, hb_, c4_4, x1⟩
  have ap_b1_0_b4_4 : Ap (some b1_0) (some b4_4) := Ap.mk (Cel.live c1_0) (Fr.blk hb_)
  have ap_b2_1_b4_4 : Ap (some b2_1) (some b4_4) := Ap.mk (Cel.live c2_1) (Fr.blk hb_)
  have ap_b3_2_b4_4 : Ap (some b3_2) (some b4_4) := Ap.mk (Cel.live c3_2) (Fr.blk hb_)
  have fr_b4_4 : Fr w.heap.size (some b4_4) := Fr.le (Fr.blk hb_) e0.size
  have e0 := e0.trans x1
  have c1_0 := c1_0.ext x1
  have c2_1 := c2_1.ext x1
  have c3_2 := c3_2.ext x1
  clear x1 hb_
  refine J.eff0 (Ye.storeA (ys := [.func (.func 22) #[] #[], .func (.func 23) #[] #[], .func (.func 24) #[] #[]]) ti48 c4_4 0 rfl rfl rfl rfl (by rfl) (by intro v hv; simp only [List.mem_cons, List.mem_nil_iff, or_false] at hv; rcases hv with rfl | rfl | rfl <;> rfl)) ?_
  rintro _ w6 ⟨cX, hu⟩
  simp only [List.set_cons_zero, List.set_cons_succ] at cX
  have hg := hu.gb
  have c1_0 := Cel.gbk c1_0 hg ap_b1_0_b4_4
  have c2_1 := Cel.gbk c2_1 hg ap_b2_1_b4_4
  have c3_2 := Cel.gbk c3_2 hg ap_b3_2_b4_4
  have e0 := Ext.gbk e0 fr_b4_4 hg
  clear hg
  replace c4_4 := cX
  clear cX hu
  refine J.nil ?_
  refine J.n_then ?_
  refine J.seq ?_
  refine J.seq ?_
  refine J.region ?_
  refine J.eff (Ye.call cl25 rfl (Rounds3_ok)) rfl ?_
  rintro _ w7 ⟨rfl, x1⟩
  have e0 := e0.trans x1
  have c1_0 := c1_0.ext x1
  have c2_1 := c2_1.ext x1
  have c3_2 := c3_2.ext x1
  have c4_4 := c4_4.ext x1
  clear x1
  refine J.op (Yd.move rfl) rfl ?_
  refine J.nil ?_
  refine J.n_then ?_
  refine J.block ?_
  refine J.loop (ι := Nat) (fun i => [(11, Ag (fun x : UInt64 => W64 x) rcL), (12, I i), (1, .pointer (some ⟨b1_0, 0, none⟩)), (2, .pointer (some ⟨b2_1, 0, none⟩)), (3, .pointer (some ⟨b3_2, 0, none⟩)), (4, .pointer (some ⟨b4_4, 0, none⟩))]) (fun i w' => i ≤ 24 ∧ Cel w' b1_0 24 [(0, 25, (a).map (fun x : UInt64 => W64 x))] ∧ Cel w' b2_1 24 [(0, 25, (List.replicate 25 0).map (fun x : UInt64 => W64 x))] ∧ Cel w' b3_2 45 [(0, 25, (permN a i).map (fun x : UInt64 => W64 x))] ∧ Cel w' b4_4 48 [(0, 3, [.func (.func 22) #[] #[], .func (.func 23) #[] #[], .func (.func 24) #[] #[]])] ∧ Ext w w') (fun i => 24 - i) (0) ⟨rfl, rfl, rfl, rfl, rfl, rfl, trivial⟩ (⟨by omega, c1_0, c2_1, Cel.eq c3_2 (by rfl), c4_4, e0⟩) ?_
  rintro k w8 ⟨hk, c1_0, c2_1, c3_2, c4_4, e0⟩
  have hrc : rcL.length = 24 := rfl
  refine J.seq ?_
  refine J.region ?_
  refine J.op (Yd.lss rfl rfl) rfl ?_
  refine J.nil ?_
  refine J.n_then ?_
  refine J.seq ?_
  refine J.cond_dec rfl (fun hc0 => ?_) (fun hc0 => ?_)
  · skip
    refine J.skip ?_
    refine J.n_then ?_
    refine J.seq ?_
    refine J.block ?_
    refine J.seq ?_
    refine J.region ?_
    refine J.op (Yd.idxV Try.underlying49 pl23 ti23 rfl rfl (by first | omega | exact idx_u8' _ | (simp only [Int.toNat_natCast]; omega) | (simp only [List.length_map, List.length_drop, List.length_take, List.length_append, List.length_replicate]; omega) | (simp <;> omega)) (Ag.get (fun x : UInt64 => W64 x) _ 0 (by first | omega | exact idx_u8' _ | (simp only [Int.toNat_natCast]; omega) | (simp only [List.length_map, List.length_drop, List.length_take, List.length_append, List.length_replicate]; omega) | (simp <;> omega)))) rfl ?_
    refine J.op (Yd.assign rfl) rfl ?_
    refine J.nil ?_
    refine J.n_then ?_
    refine J.seq ?_
    refine J.seq ?_
    refine J.region ?_
    refine J.op (Yd.loadA ag48 ti48 rfl c4_4 0 rfl) rfl ?_
    refine J.op (Yd.move rfl) rfl ?_
    refine J.nil ?_
    refine J.n_then ?_
    refine J.block ?_
    refine J.loop (ι := Nat) (fun i => [(6, W64 (rcL.getD (k : Int).toNat 0)), (11, Ag (fun x : UInt64 => W64 x) rcL), (12, I (k : Int)), (15, .agg #[.func (.func 22) #[] #[], .func (.func 23) #[] #[], .func (.func 24) #[] #[]]), (16, I i), (1, .pointer (some ⟨b1_0, 0, none⟩)), (2, .pointer (some ⟨b2_1, 0, none⟩)), (3, .pointer (some ⟨b3_2, 0, none⟩)), (4, .pointer (some ⟨b4_4, 0, none⟩))]) (fun i w' => i ≤ 3 ∧ Cel w' b1_0 24 [(0, 25, (a).map (fun x : UInt64 => W64 x))] ∧ Cel w' b2_1 24 [(0, 25, (List.replicate 25 0).map (fun x : UInt64 => W64 x))] ∧ Cel w' b3_2 45 [(0, 25, (stpK (permN a k) i).map (fun x : UInt64 => W64 x))] ∧ Cel w' b4_4 48 [(0, 3, [.func (.func 22) #[] #[], .func (.func 23) #[] #[], .func (.func 24) #[] #[]])] ∧ Ext w w') (fun i => 3 - i) (0) ⟨rfl, rfl, rfl, rfl, rfl, rfl, rfl, rfl, rfl, trivial⟩ (⟨by omega, c1_0, c2_1, Cel.eq c3_2 (by rfl), c4_4, e0⟩) ?_
    rintro j w9 ⟨hj, c1_0, c2_1, c3_2, c4_4, e0⟩
    have hpl := permN_len a ha k
    refine J.seq ?_
    refine J.region ?_
    refine J.op (Yd.lss rfl rfl) rfl ?_
    refine J.nil ?_
    refine J.n_then ?_
    refine J.seq ?_
    refine J.cond_dec rfl (fun hc1 => ?_) (fun hc1 => ?_)
    · skip
      refine J.skip ?_
      refine J.n_then ?_
      refine J.seq ?_
      refine J.block ?_
      refine J.seq ?_
      refine J.region ?_
      rcases (show j = 0 ∨ j = 1 ∨ j = 2 by omega) with rfl | rfl | rfl
      · skip
        refine J.op (Yd.idxV Try.underlying48 pl46 ti46 rfl rfl (by decide) rfl) rfl ?_
        refine J.op (Yd.assign rfl) rfl ?_
        refine J.nil ?_
        refine J.n_then ?_
        refine J.region ?_
        refine J.op (Yd.move rfl) rfl ?_
        refine J.op (Yd.loadA ag45 ti45 rfl c3_2 0 rfl) rfl ?_
        refine J.eff (Ye.callv cl22 rfl rfl (Theta_ok (by first | exact stpK_len _ hpl _ | assumption | exact thL_len _ | exact rhL_len _ (thL_len _) | exact stpK_len _ hpl _))) rfl ?_
        rintro _ w10 ⟨rfl, x1⟩
        have e0 := e0.trans x1
        have c1_0 := c1_0.ext x1
        have c2_1 := c2_1.ext x1
        have c3_2 := c3_2.ext x1
        have c4_4 := c4_4.ext x1
        clear x1
        refine J.eff0 (Ye.storeA (ys := List.map (fun x : UInt64 => W64 x) _) ti45 c3_2 0 rfl rfl rfl rfl (by rw [List.length_map]; exact thL_len _) (one_M _ (fun _ => rfl))) ?_
        rintro _ w11 ⟨cX, hu⟩
        simp only [List.set_cons_zero, List.set_cons_succ] at cX
        have hg := hu.gb
        have c1_0 := Cel.gbk c1_0 hg ap_b1_0_b3_2
        have c2_1 := Cel.gbk c2_1 hg ap_b2_1_b3_2
        have c4_4 := Cel.gbk c4_4 hg (Ap.symm ap_b3_2_b4_4)
        have e0 := Ext.gbk e0 fr_b3_2 hg
        clear hg
        replace c3_2 := cX
        clear cX hu
        refine J.nil ?_
        refine J.n_block ?_
        refine J.n_then ?_
        refine J.region ?_
        refine J.op (Yd.add rfl rfl (by first | omega | exact idx_u8' _ | (simp only [Int.toNat_natCast]; omega) | (simp only [List.length_map, List.length_drop, List.length_take, List.length_append, List.length_replicate]; omega) | (simp <;> omega))) rfl ?_
        refine J.op (Yd.move rfl) rfl ?_
        refine J.nil ?_
        refine J.n_then ?_
        generalize permN a k = PN at *
        exact J.round (1) ⟨rfl, rfl, rfl, rfl, rfl, rfl, rfl, rfl, rfl, trivial⟩ (⟨by omega, c1_0, c2_1, Cel.eq c3_2 (by exact congrArg (fun l => [(0, 25, List.map (fun x : UInt64 => W64 x) l)]) (stp0 _)), c4_4, e0⟩) (by omega)
      · skip
        refine J.op (Yd.idxV Try.underlying48 pl46 ti46 rfl rfl (by decide) rfl) rfl ?_
        refine J.op (Yd.assign rfl) rfl ?_
        refine J.nil ?_
        refine J.n_then ?_
        refine J.region ?_
        refine J.op (Yd.move rfl) rfl ?_
        refine J.op (Yd.loadA ag45 ti45 rfl c3_2 0 rfl) rfl ?_
        refine J.eff (Ye.callv cl23 rfl rfl (Rho_ok (by first | exact stpK_len _ hpl _ | assumption | exact thL_len _ | exact rhL_len _ (thL_len _) | exact stpK_len _ hpl _))) rfl ?_
        rintro _ w12 ⟨rfl, x1⟩
        have e0 := e0.trans x1
        have c1_0 := c1_0.ext x1
        have c2_1 := c2_1.ext x1
        have c3_2 := c3_2.ext x1
        have c4_4 := c4_4.ext x1
        clear x1
        refine J.eff0 (Ye.storeA (ys := List.map (fun x : UInt64 => W64 x) _) ti45 c3_2 0 rfl rfl rfl rfl (by rw [List.length_map]; exact rhL_len _ (stpK_len _ hpl 1)) (one_M _ (fun _ => rfl))) ?_
        rintro _ w13 ⟨cX, hu⟩
        simp only [List.set_cons_zero, List.set_cons_succ] at cX
        have hg := hu.gb
        have c1_0 := Cel.gbk c1_0 hg ap_b1_0_b3_2
        have c2_1 := Cel.gbk c2_1 hg ap_b2_1_b3_2
        have c4_4 := Cel.gbk c4_4 hg (Ap.symm ap_b3_2_b4_4)
        have e0 := Ext.gbk e0 fr_b3_2 hg
        clear hg
        replace c3_2 := cX
        clear cX hu
        refine J.nil ?_
        refine J.n_block ?_
        refine J.n_then ?_
        refine J.region ?_
        refine J.op (Yd.add rfl rfl (by first | omega | exact idx_u8' _ | (simp only [Int.toNat_natCast]; omega) | (simp only [List.length_map, List.length_drop, List.length_take, List.length_append, List.length_replicate]; omega) | (simp <;> omega))) rfl ?_
        refine J.op (Yd.move rfl) rfl ?_
        refine J.nil ?_
        refine J.n_then ?_
        generalize permN a k = PN at *
        exact J.round (2) ⟨rfl, rfl, rfl, rfl, rfl, rfl, rfl, rfl, rfl, trivial⟩ (⟨by omega, c1_0, c2_1, Cel.eq c3_2 (by exact congrArg (fun l => [(0, 25, List.map (fun x : UInt64 => W64 x) l)]) (stp1 _)), c4_4, e0⟩) (by omega)
      · skip
        refine J.op (Yd.idxV Try.underlying48 pl46 ti46 rfl rfl (by decide) rfl) rfl ?_
        refine J.op (Yd.assign rfl) rfl ?_
        refine J.nil ?_
        refine J.n_then ?_
        refine J.region ?_
        refine J.op (Yd.move rfl) rfl ?_
        refine J.op (Yd.loadA ag45 ti45 rfl c3_2 0 rfl) rfl ?_
        refine J.eff (Ye.callv cl24 rfl rfl (Chi_ok (by first | exact stpK_len _ hpl _ | assumption | exact thL_len _ | exact rhL_len _ (thL_len _) | exact stpK_len _ hpl _))) rfl ?_
        rintro _ w14 ⟨rfl, x1⟩
        have e0 := e0.trans x1
        have c1_0 := c1_0.ext x1
        have c2_1 := c2_1.ext x1
        have c3_2 := c3_2.ext x1
        have c4_4 := c4_4.ext x1
        clear x1
        refine J.eff0 (Ye.storeA (ys := List.map (fun x : UInt64 => W64 x) _) ti45 c3_2 0 rfl rfl rfl rfl (by rw [List.length_map]; exact chL_len _) (one_M _ (fun _ => rfl))) ?_
        rintro _ w15 ⟨cX, hu⟩
        simp only [List.set_cons_zero, List.set_cons_succ] at cX
        have hg := hu.gb
        have c1_0 := Cel.gbk c1_0 hg ap_b1_0_b3_2
        have c2_1 := Cel.gbk c2_1 hg ap_b2_1_b3_2
        have c4_4 := Cel.gbk c4_4 hg (Ap.symm ap_b3_2_b4_4)
        have e0 := Ext.gbk e0 fr_b3_2 hg
        clear hg
        replace c3_2 := cX
        clear cX hu
        refine J.nil ?_
        refine J.n_block ?_
        refine J.n_then ?_
        refine J.region ?_
        refine J.op (Yd.add rfl rfl (by first | omega | exact idx_u8' _ | (simp only [Int.toNat_natCast]; omega) | (simp only [List.length_map, List.length_drop, List.length_take, List.length_append, List.length_replicate]; omega) | (simp <;> omega))) rfl ?_
        refine J.op (Yd.move rfl) rfl ?_
        refine J.nil ?_
        refine J.n_then ?_
        generalize permN a k = PN at *
        exact J.round (3) ⟨rfl, rfl, rfl, rfl, rfl, rfl, rfl, rfl, rfl, trivial⟩ (⟨by omega, c1_0, c2_1, Cel.eq c3_2 (by exact congrArg (fun l => [(0, 25, List.map (fun x : UInt64 => W64 x) l)]) (stp2 _)), c4_4, e0⟩) (by omega)
    · skip
      refine J.exit ?_
      refine J.x_then ?_
      refine J.x_then ?_
      refine J.x_block ?_
      refine J.n_then ?_
      refine J.region ?_
      refine J.op (Yd.idxA Try.underlying45 ti23 rfl rfl (by first | omega | exact idx_u8' _ | (simp only [Int.toNat_natCast]; omega) | (simp only [List.length_map, List.length_drop, List.length_take, List.length_append, List.length_replicate]; omega) | (simp <;> omega))) rfl ?_
      refine J.op (Yd.load pl23 rfl (Cel.cellM c3_2 0 rfl 0 (by have hl_ := Cel.lenM c3_2 0 rfl; first | omega | (rw [hl_]; exact idx_u8' _) | (simp only [Int.toNat_natCast]; omega) | (simp at hl_ ⊢ <;> omega)))) rfl ?_
      refine J.op (Yd.move rfl) rfl ?_
      refine J.op (Yd.xor_u64 rfl rfl) rfl ?_
      refine J.op (Yd.idxA Try.underlying45 ti23 rfl rfl (by first | omega | exact idx_u8' _ | (simp only [Int.toNat_natCast]; omega) | (simp only [List.length_map, List.length_drop, List.length_take, List.length_append, List.length_replicate]; omega) | (simp <;> omega))) rfl ?_
      refine J.eff0 (Ye.storeM ti23 c3_2 0 rfl rfl rfl rfl (by first | omega | exact idx_u8' _ | (simp only [Int.toNat_natCast]; omega) | (simp only [List.length_map, List.length_drop, List.length_take, List.length_append, List.length_replicate]; omega) | (simp <;> omega)) (fun _ => rfl) (fun _ => rfl)) ?_
      rintro _ w16 ⟨cX, hu⟩
      simp only [List.set_cons_zero, List.set_cons_succ] at cX
      have hg := hu.gb
      have c1_0 := Cel.gbk c1_0 hg ap_b1_0_b3_2
      have c2_1 := Cel.gbk c2_1 hg ap_b2_1_b3_2
      have c4_4 := Cel.gbk c4_4 hg (Ap.symm ap_b3_2_b4_4)
      have e0 := Ext.gbk e0 fr_b3_2 hg
      clear hg
      replace c3_2 := cX
      clear cX hu
      refine J.nil ?_
      refine J.n_block ?_
      refine J.n_then ?_
      refine J.region ?_
      refine J.op (Yd.add rfl rfl (by first | omega | exact idx_u8' _ | (simp only [Int.toNat_natCast]; omega) | (simp only [List.length_map, List.length_drop, List.length_take, List.length_append, List.length_replicate]; omega) | (simp <;> omega))) rfl ?_
      refine J.op (Yd.move rfl) rfl ?_
      refine J.nil ?_
      refine J.n_then ?_
      exact J.round (k + 1) ⟨rfl, rfl, rfl, rfl, rfl, rfl, trivial⟩ (⟨by omega, c1_0, c2_1, Cel.eq c3_2 (by rw [show j = 3 by omega, Int.toNat_natCast]; exact congrArg (fun l => [(0, 25, List.map (fun x : UInt64 => W64 x) l)]) (permN_step a k)), c4_4, e0⟩) (by omega)
  · skip
    refine J.exit ?_
    refine J.x_then ?_
    refine J.x_then ?_
    refine J.x_block ?_
    refine J.n_then ?_
    refine J.seq ?_
    refine J.region ?_
    refine J.op (Yd.loadA ag45 ti45 rfl c3_2 0 rfl) rfl ?_
    refine J.eff0 (Ye.storeA (ys := List.map (fun x : UInt64 => W64 x) _) ti24 c2_1 0 rfl rfl rfl rfl (by rw [List.length_map]; exact permN_len a ha _) (one_M _ (fun _ => rfl))) ?_
    rintro _ w17 ⟨cX, hu⟩
    simp only [List.set_cons_zero, List.set_cons_succ] at cX
    have hg := hu.gb
    have c1_0 := Cel.gbk c1_0 hg ap_b1_0_b2_1
    have c3_2 := Cel.gbk c3_2 hg (Ap.symm ap_b2_1_b3_2)
    have c4_4 := Cel.gbk c4_4 hg (Ap.symm ap_b2_1_b4_4)
    have e0 := Ext.gbk e0 fr_b2_1 hg
    clear hg
    replace c2_1 := cX
    clear cX hu
    refine J.nil ?_
    refine J.n_then ?_
    refine J.ret ?_
    exact J.ret1c rfl rfl ag24 ti24 c2_1 0 rfl (⟨_, rfl, by rw [show k = 24 by omega]; rfl, e0⟩)
end Ytpcbkeikhojmbaa
end Go.Proofs
