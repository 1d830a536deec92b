import Derived.Test.YtpcbkeikhojmbaaT
import Derived.Test.YtpcbkeikhojmbaaX23
import Derived.Test.YtpcbkeikhojmbaaK8
set_option linter.unusedVariables false
set_option linter.unusedSimpArgs false
set_option maxRecDepth 100000
set_option maxHeartbeats 4000000
namespace Go.Proofs
open Go.X Go.RowKit
namespace Ytpcbkeikhojmbaa
theorem Sha3Permutes_ok {v : Value} {l : List UInt64} {n : Int} {w : World} (hl : Rd w v (l.map (fun x : UInt64 => W64 x))) : C Try.prog 3 [v, I n] w (Ret fun v w' => v = .bool true ∧ Ext w w') := by
  have hlm : (l.map (fun x : UInt64 => W64 x)).length = l.length := List.length_map ..
  have e0 := Ext.refl w
  refine C.enter Try.func3 rfl Try.ntmps3 rfl ?_
  refine J.seq ?_
  refine J.region ?_
  refine J.op (Yd.assign rfl) rfl ?_
  refine J.nil ?_
  refine J.n_then ?_
  refine J.seq ?_
  refine J.region ?_
  refine J.eff (Ye.alloc ti24 (S := [(0, 25, (List.replicate 25 0).map (fun x : UInt64 => W64 x))]) (by simp [SegAll, SegOK, Value.cells])) rfl ?_
  rintro _ w1 ⟨b5_0, rfl, hb_, c5_0, x1⟩
  have fr_b5_0 : Fr w.heap.size (some b5_0) := Fr.le (Fr.blk hb_) e0.size
  have e0 := e0.trans x1
  clear x1 hb_
  refine J.nil ?_
  refine J.n_then ?_
  refine J.seq ?_
  refine J.seq ?_
  refine J.region ?_
  refine J.op (Yd.assign rfl) rfl ?_
  refine J.nil ?_
  refine J.n_then ?_
  refine J.block ?_
  refine J.loop (ι := Nat) (fun i => [(0, v), (1, I n), (6, I i), (5, .pointer (some ⟨b5_0, 0, none⟩))]) (fun i w' => i ≤ 25 ∧ Cel w' b5_0 24 [(0, 25, (fillU (fun j => l.getD j 0) (List.replicate 25 0) i).map (fun x : UInt64 => W64 x))] ∧ Ext w w') (fun i => 25 - i) (0) ⟨rfl, rfl, rfl, rfl, trivial⟩ (⟨by omega, Cel.eq c5_0 (by rw [fillU_zero]), e0⟩) ?_
  rintro k w2 ⟨hk, c5_0, e0⟩
  have hfl := fillU_len (fun j => l.getD j 0) (List.replicate 25 0) k
  rw [List.length_replicate] at hfl
  refine J.seq ?_
  refine J.seq ?_
  refine J.region ?_
  refine J.op (Yd.move rfl) rfl ?_
  refine J.op (Yd.lss rfl rfl) rfl ?_
  refine J.op (Yd.move rfl) rfl ?_
  refine J.split_dec (t := 11) rfl (fun h3 => ?_) (fun h3 => ?_)
  · skip
    refine J.op_g rfl rfl rfl (Yd.move rfl) rfl ?_
    refine J.op_g rfl rfl rfl (Yd.move rfl) rfl ?_
    refine J.op_g rfl rfl rfl (Yd.len Try.underlying22 rfl (Rd.ext hl e0)) rfl ?_
    refine J.op_g rfl rfl rfl (Yd.lss rfl rfl) rfl ?_
    refine J.op (Yd.pick_t rfl rfl) rfl ?_
    refine J.nil ?_
    refine J.n_then ?_
    refine J.cond_dec rfl (fun hc0 => ?_) (fun hc0 => ?_)
    · skip
      refine J.skip ?_
      refine J.n_then ?_
      refine J.seq ?_
      refine J.block ?_
      refine J.region ?_
      refine J.op (Yd.move rfl) rfl ?_
      refine J.op (Yd.move rfl) rfl ?_
      refine J.op (Yd.move rfl) rfl ?_
      refine J.op (Yd.idx_m Try.underlying22 ti23 rfl rfl (Rd.ext hl e0) (by first | omega | exact idx_u8' _ | (simp only [Int.toNat_natCast]; omega) | (simp only [List.length_map, List.length_drop, List.length_take, List.length_append, List.length_replicate]; omega) | (simp <;> omega))) rfl ?_
      refine J.op (Yd.load pl23 rfl (Rd.cellW (Rd.ext hl e0) (by first | omega | exact idx_u8' _ | (simp only [Int.toNat_natCast]; omega) | (simp only [List.length_map, List.length_drop, List.length_take, List.length_append, List.length_replicate]; omega) | (simp <;> omega)))) rfl ?_
      refine J.op (Yd.idxA Try.underlying24 ti23 rfl rfl (by first | omega | exact idx_u8' _ | (simp only [Int.toNat_natCast]; omega) | (simp only [List.length_map, List.length_drop, List.length_take, List.length_append, List.length_replicate]; omega) | (simp <;> omega))) rfl ?_
      refine J.eff0 (Ye.storeM ti23 c5_0 0 rfl rfl rfl rfl (by first | omega | exact idx_u8' _ | (simp only [Int.toNat_natCast]; omega) | (simp only [List.length_map, List.length_drop, List.length_take, List.length_append, List.length_replicate]; omega) | (simp <;> omega)) (fun _ => rfl) (fun _ => rfl)) ?_
      rintro _ w3 ⟨cX, hu⟩
      simp only [List.set_cons_zero, List.set_cons_succ] at cX
      have hg := hu.gb
      have e0 := Ext.gbk e0 fr_b5_0 hg
      clear hg
      replace c5_0 := cX
      clear cX hu
      refine J.nil ?_
      refine J.n_block ?_
      refine J.n_then ?_
      refine J.region ?_
      refine J.op (Yd.move rfl) rfl ?_
      refine J.op (Yd.add rfl rfl (by first | omega | exact idx_u8' _ | (simp only [Int.toNat_natCast]; omega) | (simp only [List.length_map, List.length_drop, List.length_take, List.length_append, List.length_replicate]; omega) | (simp <;> omega))) rfl ?_
      refine J.op (Yd.assign rfl) rfl ?_
      refine J.nil ?_
      refine J.n_then ?_
      exact J.round (k + 1) ⟨rfl, rfl, rfl, rfl, trivial⟩ (⟨by omega, Cel.eq c5_0 (by rw [Int.toNat_natCast]; exact congrArg (fun l => [(0, 25, List.map (fun x : UInt64 => W64 x) l)]) (fillU_set (fun j => l.getD j 0) _ k)), e0⟩) (by omega)
    · skip
      refine J.exit ?_
      refine J.x_then ?_
      refine J.x_then ?_
      refine J.x_block ?_
      refine J.n_then ?_
      refine J.seq ?_
      refine J.region ?_
      refine J.op (Yd.loadA ag24 ti24 rfl c5_0 0 rfl) rfl ?_
      refine J.eff (Ye.alloc ti24 (S := [(0, 25, (List.replicate 25 0).map (fun x : UInt64 => W64 x))]) (by simp [SegAll, SegOK, Value.cells])) rfl ?_
      rintro _ w4 ⟨b7_3, rfl, hb_, c7_3, x1⟩
      have ap_b5_0_b7_3 : Ap (some b5_0) (some b7_3) := Ap.mk (Cel.live c5_0) (Fr.blk hb_)
      have fr_b7_3 : Fr w.heap.size (some b7_3) := Fr.le (Fr.blk hb_) e0.size
      have e0 := e0.trans x1
      have c5_0 := c5_0.ext x1
      clear x1 hb_
      refine J.eff0 (Ye.storeA (ys := List.map (fun x : UInt64 => W64 x) _) ti24 c7_3 0 rfl rfl rfl rfl (by first | (rw [List.length_map]; omega) | (simp; done) | rfl | (simp <;> omega)) (one_M _ (fun _ => rfl))) ?_
      rintro _ w5 ⟨cX, hu⟩
      simp only [List.set_cons_zero, List.set_cons_succ] at cX
      have hg := hu.gb
      have c5_0 := Cel.gbk c5_0 hg ap_b5_0_b7_3
      have e0 := Ext.gbk e0 fr_b7_3 hg
      clear hg
      replace c7_3 := cX
      clear cX hu
      refine J.nil ?_
      refine J.n_then ?_
      refine J.seq ?_
      refine J.seq ?_
      refine J.region ?_
      refine J.op (Yd.assign rfl) rfl ?_
      refine J.nil ?_
      refine J.n_then ?_
      refine J.block ?_
      refine J.loop (ι := Nat) (fun i => [(1, I n), (8, I i), (5, .pointer (some ⟨b5_0, 0, none⟩)), (7, .pointer (some ⟨b7_3, 0, none⟩))]) (fun i w' => i ≤ 3 ∧ Cel w' b5_0 24 [(0, 25, (sqS (fillU (fun j => l.getD j 0) (List.replicate 25 0) k) i).map (fun x : UInt64 => W64 x))] ∧ Cel w' b7_3 24 [(0, 25, (sqS (fillU (fun j => l.getD j 0) (List.replicate 25 0) k) i).map (fun x : UInt64 => W64 x))] ∧ Ext w w') (fun i => 3 - i) (0) ⟨rfl, rfl, rfl, rfl, trivial⟩ (⟨by omega, Cel.eq c5_0 (by rfl), Cel.eq c7_3 (by rfl), e0⟩) ?_
      rintro j w6 ⟨hj, c5_0, c7_3, e0⟩
      have hql := sqS_len (fillU (fun j => l.getD j 0) (List.replicate 25 0) k) hfl j
      refine J.seq ?_
      refine J.seq ?_
      refine J.region ?_
      refine J.op (Yd.move rfl) rfl ?_
      refine J.op (Yd.move rfl) rfl ?_
      refine J.eff (Ye.call cl8 rfl (Round_ok (by omega) (by omega))) rfl ?_
      rintro _ w7 ⟨rfl, x1⟩
      have e0 := e0.trans x1
      have c5_0 := c5_0.ext x1
      have c7_3 := c7_3.ext x1
      clear x1
      refine J.op (Yd.leq rfl rfl) rfl ?_
      refine J.nil ?_
      refine J.n_then ?_
      refine J.cond_dec rfl (fun hc1 => ?_) (fun hc1 => ?_)
      · skip
        refine J.skip ?_
        refine J.n_then ?_
        refine J.seq ?_
        refine J.block ?_
        refine J.seq ?_
        refine J.region ?_
        refine J.op (Yd.loadA ag24 ti24 rfl c5_0 0 rfl) rfl ?_
        refine J.eff (Ye.call cl9 rfl (Permute_ok hql)) rfl ?_
        rintro _ w8 ⟨rfl, x1⟩
        have e0 := e0.trans x1
        have c5_0 := c5_0.ext x1
        have c7_3 := c7_3.ext x1
        clear x1
        refine J.eff0 (Ye.storeA (ys := List.map (fun x : UInt64 => W64 x) _) ti24 c5_0 0 rfl rfl rfl rfl (by rw [List.length_map]; exact permL_len _) (one_M _ (fun _ => rfl))) ?_
        rintro _ w9 ⟨cX, hu⟩
        simp only [List.set_cons_zero, List.set_cons_succ] at cX
        have hg := hu.gb
        have c7_3 := Cel.gbk c7_3 hg (Ap.symm ap_b5_0_b7_3)
        have e0 := Ext.gbk e0 fr_b5_0 hg
        clear hg
        replace c5_0 := cX
        clear cX hu
        refine J.nil ?_
        refine J.n_then ?_
        refine J.region ?_
        refine J.op (Yd.loadA ag24 ti24 rfl c7_3 0 rfl) rfl ?_
        refine J.eff (Ye.call cl10 rfl (RPermute_ok hql)) rfl ?_
        rintro _ w10 ⟨rfl, x1⟩
        have e0 := e0.trans x1
        have c5_0 := c5_0.ext x1
        have c7_3 := c7_3.ext x1
        clear x1
        refine J.eff0 (Ye.storeA (ys := List.map (fun x : UInt64 => W64 x) _) ti24 c7_3 0 rfl rfl rfl rfl (by rw [List.length_map]; exact permL_len _) (one_M _ (fun _ => rfl))) ?_
        rintro _ w11 ⟨cX, hu⟩
        simp only [List.set_cons_zero, List.set_cons_succ] at cX
        have hg := hu.gb
        have c5_0 := Cel.gbk c5_0 hg ap_b5_0_b7_3
        have e0 := Ext.gbk e0 fr_b7_3 hg
        clear hg
        replace c7_3 := cX
        clear cX hu
        refine J.nil ?_
        refine J.n_block ?_
        refine J.n_then ?_
        refine J.region ?_
        refine J.op (Yd.move rfl) rfl ?_
        refine J.op (Yd.add rfl rfl (by first | omega | exact idx_u8' _ | (simp only [Int.toNat_natCast]; omega) | (simp only [List.length_map, List.length_drop, List.length_take, List.length_append, List.length_replicate]; omega) | (simp <;> omega))) rfl ?_
        refine J.op (Yd.assign rfl) rfl ?_
        refine J.nil ?_
        refine J.n_then ?_
        exact J.round (j + 1) ⟨rfl, rfl, rfl, rfl, trivial⟩ (⟨by omega, Cel.eq c5_0 (by rfl), Cel.eq c7_3 (by rfl), e0⟩) (by omega)
      · skip
        refine J.exit ?_
        refine J.x_then ?_
        refine J.x_then ?_
        refine J.x_block ?_
        refine J.n_then ?_
        refine J.seq ?_
        refine J.region ?_
        refine J.op (Yd.loadA ag24 ti24 rfl c5_0 0 rfl) rfl ?_
        refine J.op (Yd.loadA ag24 ti24 rfl c7_3 0 rfl) rfl ?_
        refine J.op (Yd.eqlA Try.underlying24 Try.underlying23 ti23 (by kernel_rfl) (fun x => ⟨_, _, rfl⟩) (sqS_len _ hfl j) rfl rfl) rfl ?_
        refine J.op (Yd.move rfl) rfl ?_
        refine J.eff_g rfl rfl rfl (Ye.call cl11 rfl (awake_ok)) rfl ?_
        rintro _ w12 ⟨rfl, x1⟩
        have e0 := e0.trans x1
        have c5_0 := c5_0.ext x1
        have c7_3 := c7_3.ext x1
        clear x1
        refine J.op (Yd.pick_t rfl rfl) rfl ?_
        refine J.op (Yd.assign rfl) rfl ?_
        refine J.nil ?_
        refine J.n_then ?_
        refine J.ret ?_
        exact J.ret1 rfl rfl (⟨_, rfl, rfl, e0⟩)
  · skip
    refine J.not_g rfl rfl rfl rfl rfl ?_
    refine J.not_g rfl rfl rfl rfl rfl ?_
    refine J.not_g rfl rfl rfl rfl rfl ?_
    refine J.not_g rfl rfl rfl rfl rfl ?_
    refine J.op (Yd.pick_f rfl rfl) rfl ?_
    refine J.nil ?_
    refine J.n_then ?_
    refine J.cond_false rfl ?_
    refine J.exit ?_
    refine J.x_then ?_
    refine J.x_then ?_
    refine J.x_block ?_
    refine J.n_then ?_
    refine J.seq ?_
    refine J.region ?_
    refine J.op (Yd.loadA ag24 ti24 rfl c5_0 0 rfl) rfl ?_
    refine J.eff (Ye.alloc ti24 (S := [(0, 25, (List.replicate 25 0).map (fun x : UInt64 => W64 x))]) (by simp [SegAll, SegOK, Value.cells])) rfl ?_
    rintro _ w13 ⟨b7_12, rfl, hb_, c7_12, x1⟩
    have ap_b5_0_b7_12 : Ap (some b5_0) (some b7_12) := Ap.mk (Cel.live c5_0) (Fr.blk hb_)
    have fr_b7_12 : Fr w.heap.size (some b7_12) := Fr.le (Fr.blk hb_) e0.size
    have e0 := e0.trans x1
    have c5_0 := c5_0.ext x1
    clear x1 hb_
    refine J.eff0 (Ye.storeA (ys := List.map (fun x : UInt64 => W64 x) _) ti24 c7_12 0 rfl rfl rfl rfl (by first | (rw [List.length_map]; omega) | (simp; done) | rfl | (simp <;> omega)) (one_M _ (fun _ => rfl))) ?_
    rintro _ w14 ⟨cX, hu⟩
    simp only [List.set_cons_zero, List.set_cons_succ] at cX
    have hg := hu.gb
    have c5_0 := Cel.gbk c5_0 hg ap_b5_0_b7_12
    have e0 := Ext.gbk e0 fr_b7_12 hg
    clear hg
    replace c7_12 := cX
    clear cX hu
    refine J.nil ?_
    refine J.n_then ?_
    refine J.seq ?_
    refine J.seq ?_
    refine J.region ?_
    refine J.op (Yd.assign rfl) rfl ?_
    refine J.nil ?_
    refine J.n_then ?_
    refine J.block ?_
    refine J.loop (ι := Nat) (fun i => [(1, I n), (8, I i), (5, .pointer (some ⟨b5_0, 0, none⟩)), (7, .pointer (some ⟨b7_12, 0, none⟩))]) (fun i w' => i ≤ 3 ∧ Cel w' b5_0 24 [(0, 25, (sqS (fillU (fun j => l.getD j 0) (List.replicate 25 0) k) i).map (fun x : UInt64 => W64 x))] ∧ Cel w' b7_12 24 [(0, 25, (sqS (fillU (fun j => l.getD j 0) (List.replicate 25 0) k) i).map (fun x : UInt64 => W64 x))] ∧ Ext w w') (fun i => 3 - i) (0) ⟨rfl, rfl, rfl, rfl, trivial⟩ (⟨by omega, Cel.eq c5_0 (by rfl), Cel.eq c7_12 (by rfl), e0⟩) ?_
    rintro j w15 ⟨hj, c5_0, c7_12, e0⟩
    have hql := sqS_len (fillU (fun j => l.getD j 0) (List.replicate 25 0) k) hfl j
    refine J.seq ?_
    refine J.seq ?_
    refine J.region ?_
    refine J.op (Yd.move rfl) rfl ?_
    refine J.op (Yd.move rfl) rfl ?_
    refine J.eff (Ye.call cl8 rfl (Round_ok (by omega) (by omega))) rfl ?_
    rintro _ w16 ⟨rfl, x1⟩
    have e0 := e0.trans x1
    have c5_0 := c5_0.ext x1
    have c7_12 := c7_12.ext x1
    clear x1
    refine J.op (Yd.leq rfl rfl) rfl ?_
    refine J.nil ?_
    refine J.n_then ?_
    refine J.cond_dec rfl (fun hc1 => ?_) (fun hc1 => ?_)
    · skip
      refine J.skip ?_
      refine J.n_then ?_
      refine J.seq ?_
      refine J.block ?_
      refine J.seq ?_
      refine J.region ?_
      refine J.op (Yd.loadA ag24 ti24 rfl c5_0 0 rfl) rfl ?_
      refine J.eff (Ye.call cl9 rfl (Permute_ok hql)) rfl ?_
      rintro _ w17 ⟨rfl, x1⟩
      have e0 := e0.trans x1
      have c5_0 := c5_0.ext x1
      have c7_12 := c7_12.ext x1
      clear x1
      refine J.eff0 (Ye.storeA (ys := List.map (fun x : UInt64 => W64 x) _) ti24 c5_0 0 rfl rfl rfl rfl (by rw [List.length_map]; exact permL_len _) (one_M _ (fun _ => rfl))) ?_
      rintro _ w18 ⟨cX, hu⟩
      simp only [List.set_cons_zero, List.set_cons_succ] at cX
      have hg := hu.gb
      have c7_12 := Cel.gbk c7_12 hg (Ap.symm ap_b5_0_b7_12)
      have e0 := Ext.gbk e0 fr_b5_0 hg
      clear hg
      replace c5_0 := cX
      clear cX hu
      refine J.nil ?_
      refine J.n_then ?_
      refine J.region ?_
      refine J.op (Yd.loadA ag24 ti24 rfl c7_12 0 rfl) rfl ?_
      refine J.eff (Ye.call cl10 rfl (RPermute_ok hql)) rfl ?_
      rintro _ w19 ⟨rfl, x1⟩
      have e0 := e0.trans x1
      have c5_0 := c5_0.ext x1
      have c7_12 := c7_12.ext x1
      clear x1
      refine J.eff0 (Ye.storeA (ys := List.map (fun x : UInt64 => W64 x) _) ti24 c7_12 0 rfl rfl rfl rfl (by rw [List.length_map]; exact permL_len _) (one_M _ (fun _ => rfl))) ?_
      rintro _ w20 ⟨cX, hu⟩
      simp only [List.set_cons_zero, List.set_cons_succ] at cX
      have hg := hu.gb
      have c5_0 := Cel.gbk c5_0 hg ap_b5_0_b7_12
      have e0 := Ext.gbk e0 fr_b7_12 hg
      clear hg
      replace c7_12 := cX
      clear cX hu
      refine J.nil ?_
      refine J.n_block ?_
      refine J.n_then ?_
      refine J.region ?_
      refine J.op (Yd.move rfl) rfl ?_
      refine J.op (Yd.add rfl rfl (by first | omega | exact idx_u8' _ | (simp only [Int.toNat_natCast]; omega) | (simp only [List.length_map, List.length_drop, List.length_take, List.length_append, List.length_replicate]; omega) | (simp <;> omega))) rfl ?_
      refine J.op (Yd.assign rfl) rfl ?_
      refine J.nil ?_
      refine J.n_then ?_
      exact J.round (j + 1) ⟨rfl, rfl, rfl, rfl, trivial⟩ (⟨by omega, Cel.eq c5_0 (by rfl), Cel.eq c7_12 (by rfl), e0⟩) (by omega)
    · skip
      refine J.exit ?_
      refine J.x_then ?_
      refine J.x_then ?_
      refine J.x_block ?_
      refine J.n_then ?_
      refine J.seq ?_
      refine J.region ?_
      refine J.op (Yd.loadA ag24 ti24 rfl c5_0 0 rfl) rfl ?_
      refine J.op (Yd.loadA ag24 ti24 rfl c7_12 0 rfl) rfl ?_
      refine J.op (Yd.eqlA Try.underlying24 Try.underlying23 ti23 (by kernel_rfl) (fun x => ⟨_, _, rfl⟩) (sqS_len _ hfl j) rfl rfl) rfl ?_
      refine J.op (Yd.move rfl) rfl ?_
      refine J.eff_g rfl rfl rfl (Ye.call cl11 rfl (awake_ok)) rfl ?_
      rintro _ w21 ⟨rfl, x1⟩
      have e0 := e0.trans x1
      have c5_0 := c5_0.ext x1
      have c7_12 := c7_12.ext x1
      clear x1
      refine J.op (Yd.pick_t rfl rfl) rfl ?_
      refine J.op (Yd.assign rfl) rfl ?_
      refine J.nil ?_
      refine J.n_then ?_
      refine J.ret ?_
      exact J.ret1 rfl rfl (⟨_, rfl, rfl, e0⟩)
end Ytpcbkeikhojmbaa
end Go.Proofs
