import Derived.Test.YtphebleabcoakaaT
import Derived.Test.YtphebleabcoakaaV3
set_option linter.unusedVariables false
set_option linter.unusedSimpArgs false
set_option maxRecDepth 100000
set_option maxHeartbeats 4000000
namespace Go.Proofs
open Go.X Go.RowKit
namespace Ytphebleabcoakaa
theorem LimF {n : Nat} {m : Int} {w : World} (hn : n ≤ 300) (hn1 : 1 ≤ n) (hm : 0 ≤ m ∧ m ≤ 300) : C Try.prog 6 [I (n : Int), I m, .bool false] w (Ret fun v w' => v = .bool true ∧ Ext w w') := by
  have hpl := putN_len (UInt64.ofNat n)
  have hpp := putN_pos (UInt64.ofNat n)
  have hbl := blkL_len n 1
  have e0 := Ext.refl w
  refine C.enter Try.func6 rfl Try.ntmps6 rfl ?_
  refine J.seq ?_
  refine J.region ?_
  refine J.eff (Ye.box (S := [(0, 1, [I m])]) rfl (by simp [SegAll, SegOK, Value.cells])) rfl ?_
  rintro _ w1 ⟨b4_0, rfl, hb_, c4_0, x1⟩
  have fr_b4_0 : Fr w.heap.size (some b4_0) := Fr.le (Fr.blk hb_) e0.size
  have e0 := e0.trans x1
  clear x1 hb_
  refine J.op (Yd.assign rfl) rfl ?_
  refine J.nil ?_
  refine J.n_then ?_
  refine J.seq ?_
  refine J.seq ?_
  refine J.region ?_
  refine J.op (Yd.move rfl) rfl ?_
  refine J.op (Yd.lss rfl rfl) rfl ?_
  refine J.op (Yd.move rfl) rfl ?_
  refine J.know (t := 18) (v' := .bool false) rfl (ff (by omega)) ?_
  refine J.op_g rfl rfl rfl (Yd.move rfl) rfl ?_
  refine J.op_g rfl rfl rfl (Yd.gtr rfl rfl) rfl ?_
  refine J.op (Yd.pick_f rfl rfl) rfl ?_
  refine J.op (Yd.move rfl) rfl ?_
  refine J.know (t := 22) (v' := .bool false) rfl (ff (by omega)) ?_
  refine J.op_g rfl rfl rfl (Yd.load pl3 rfl (Cel.cell1 c4_0 0 rfl)) rfl ?_
  refine J.op_g rfl rfl rfl (Yd.lss rfl rfl) rfl ?_
  refine J.op (Yd.pick_f rfl rfl) rfl ?_
  refine J.op (Yd.move rfl) rfl ?_
  refine J.know (t := 26) (v' := .bool false) rfl (ff (by omega)) ?_
  refine J.op_g rfl rfl rfl (Yd.load pl3 rfl (Cel.cell1 c4_0 0 rfl)) rfl ?_
  refine J.op_g rfl rfl rfl (Yd.gtr rfl rfl) rfl ?_
  refine J.op (Yd.pick_f rfl rfl) rfl ?_
  refine J.nil ?_
  refine J.n_then ?_
  refine J.know (t := 29) (v' := .bool false) rfl (ff (by omega)) ?_
  refine J.cond_false rfl ?_
  refine J.skip ?_
  refine J.n_then ?_
  refine J.seq ?_
  refine J.region ?_
  refine J.eff (Ye.alloc ti34 (S := [(0, 1, [.slice none 0 0])]) (by simp [SegAll, SegOK, Value.cells])) rfl ?_
  rintro _ w2 ⟨b7_1, rfl, hb_, c7_1, x1⟩
  have ap_b4_0_b7_1 : Ap (some b4_0) (some b7_1) := Ap.mk (Cel.live c4_0) (Fr.blk hb_)
  have fr_b7_1 : Fr w.heap.size (some b7_1) := Fr.le (Fr.blk hb_) e0.size
  have e0 := e0.trans x1
  have c4_0 := c4_0.ext x1
  clear x1 hb_
  refine J.eff (Ye.alloc ti34 (S := [(0, 1, [.slice none 0 0])]) (by simp [SegAll, SegOK, Value.cells])) rfl ?_
  rintro _ w3 ⟨b8_2, rfl, hb_, c8_2, x1⟩
  have ap_b4_0_b8_2 : Ap (some b4_0) (some b8_2) := Ap.mk (Cel.live c4_0) (Fr.blk hb_)
  have ap_b7_1_b8_2 : Ap (some b7_1) (some b8_2) := Ap.mk (Cel.live c7_1) (Fr.blk hb_)
  have fr_b8_2 : Fr w.heap.size (some b8_2) := Fr.le (Fr.blk hb_) e0.size
  have e0 := e0.trans x1
  have c4_0 := c4_0.ext x1
  have c7_1 := c7_1.ext x1
  clear x1 hb_
  refine J.nil ?_
  refine J.n_then ?_
  refine J.seq ?_
  refine J.region ?_
  refine J.op (Yd.move rfl) rfl ?_
  refine J.eff (Ye.call cl21 rfl (BlockN_ok (by omega))) rfl ?_
  rintro s32_4 w4 ⟨os32_4, x1⟩
  have ap_b4_0_s32_4 : Ap (some b4_0) s32_4.ownBlock := Ap.mk (Cel.live c4_0) (Ow.fr os32_4)
  have ap_b7_1_s32_4 : Ap (some b7_1) s32_4.ownBlock := Ap.mk (Cel.live c7_1) (Ow.fr os32_4)
  have ap_b8_2_s32_4 : Ap (some b8_2) s32_4.ownBlock := Ap.mk (Cel.live c8_2) (Ow.fr os32_4)
  have fr_s32_4 : Fr w.heap.size s32_4.ownBlock := Fr.le (Ow.fr os32_4) e0.size
  replace os32_4 := Ow.base os32_4 e0.size
  have e0 := e0.trans x1
  have c4_0 := c4_0.ext x1
  have c7_1 := c7_1.ext x1
  have c8_2 := c8_2.ext x1
  clear x1
  have hw := Wr.new (TW := 34) (E := 5) w4.heap.size c7_1
  refine J.eff (Ye.call cl20 rfl (WBytes_ok hw (Nat.le_refl _) (fun w' ht => Rd.thb (Ow.rd os32_4) ht (Ap.symm ap_b7_1_s32_4) (Ow.live os32_4)) (by rw [blkL_len, List.length_nil]; omega))) rfl ?_
  rintro _ w5 ⟨rfl, hw2, x1⟩
  have e0 := e0.th' (Thb.th x1 (fr_b7_1 _ rfl) e0.size)
  have c4_0 := Cel.thb c4_0 x1 (Cel.lt c4_0) (fun e => ap_b4_0_b7_1 _ rfl (by rw [e]))
  have c8_2 := Cel.thb c8_2 x1 (Cel.lt c8_2) (fun e => (Ap.symm ap_b7_1_b8_2) _ rfl (by rw [e]))
  have os32_4 := Ow.thb os32_4 x1 (Ap.symm ap_b7_1_s32_4) (Ow.live os32_4)
  replace hw := hw2
  clear hw2 x1
  rw [List.nil_append, blkL_len] at hw
  refine J.eff (Ye.call cl16 rfl (WDone_ok hw (by have h9 := putN_len (UInt64.ofNat n); simp only [List.length_append, List.length_replicate, blkL_len]; omega))) rfl ?_
  rintro s34_6 w6 ⟨os34_6, x1⟩
  have ap_b4_0_s34_6 : Ap (some b4_0) s34_6.ownBlock := Ap.mk (Cel.live c4_0) (Ow.fr os34_6)
  have ap_b8_2_s34_6 : Ap (some b8_2) s34_6.ownBlock := Ap.mk (Cel.live c8_2) (Ow.fr os34_6)
  have ap_s32_4_s34_6 : Ap s32_4.ownBlock s34_6.ownBlock := Ap.mk (Ow.live os32_4) (Ow.fr os34_6)
  have fr_s34_6 : Fr w.heap.size s34_6.ownBlock := Fr.le (Ow.fr os34_6) e0.size
  replace os34_6 := Ow.base os34_6 e0.size
  have e0 := e0.trans x1
  have c4_0 := c4_0.ext x1
  have c8_2 := c8_2.ext x1
  have os32_4 := os32_4.ext x1
  have hw := hw.ext x1
  clear x1
  refine J.op (Yd.assign rfl) rfl ?_
  refine J.nil ?_
  refine J.n_then ?_
  refine J.seq ?_
  refine J.region ?_
  refine J.op (Yd.assign rfl) rfl ?_
  refine J.nil ?_
  refine J.n_then ?_
  refine J.seq ?_
  refine J.seq ?_
  refine J.region ?_
  refine J.op (Yd.assign rfl) rfl ?_
  refine J.nil ?_
  refine J.n_then ?_
  refine J.block ?_
  refine J.loop (ι := Nat × Value) (fun i => [(0, I (n : Int)), (2, .bool false), (11, I (i.1 : Int)), (4, .pointer (some ⟨b4_0, 0, none⟩)), (8, .pointer (some ⟨b8_2, 0, none⟩)), (9, s34_6), (10, i.2)]) (fun i w' => i.1 ≤ n ∧ Cel w' b4_0 3 [(0, 1, [I m])] ∧ Cel w' b8_2 34 [(0, 1, [nilS])] ∧ Ob w.heap.size 5 w' s34_6 (putN (UInt64.ofNat n) ++ blkL n 1) ∧ Ow w.heap.size 32 w' i.2 ((List.replicate i.1 0).map fun _ : Nat => nilS) ∧ Fr w.heap.size (i.2).ownBlock ∧ Ap (some b4_0) (i.2).ownBlock ∧ Ap (some b8_2) (i.2).ownBlock ∧ Ap s34_6.ownBlock (i.2).ownBlock ∧ Ext w w') (fun i => n - i.1) ((0, nilS)) ⟨rfl, rfl, rfl, rfl, rfl, rfl, rfl, trivial⟩ (⟨Nat.zero_le _, c4_0, c8_2, os34_6, Ow.nilM _ _ _ _, Fr.nil, Ap.nil_r, Ap.nil_r, Ap.nil_r, e0⟩) ?_
  rintro ⟨i, v10⟩ w7 ⟨hk, c4_0, c8_2, ho9, ho10, fr_v10, ap_b4_0_v10, ap_b8_2_v10, ap_s34_6_v10, e0⟩
  dsimp only at *
  refine J.seq ?_
  refine J.seq ?_
  refine J.region ?_
  refine J.op (Yd.move rfl) rfl ?_
  refine J.op (Yd.move rfl) rfl ?_
  refine J.op (Yd.lss rfl rfl) rfl ?_
  refine J.nil ?_
  refine J.n_then ?_
  refine J.cond_dec rfl (fun hc1 => ?_) (fun hc1 => ?_)
  · skip
    refine J.skip ?_
    refine J.n_then ?_
    refine J.seq ?_
    refine J.block ?_
    refine J.region ?_
    refine J.op (Yd.move rfl) rfl ?_
    refine J.eff (Ye.lit1 (base := w7.heap.size) (f := fun _ : Nat => nilS) (u := 0) Try.underlying38 ti32 rfl rfl (fun _ => rfl) (Nat.le_refl _)) rfl ?_
    rintro s41_8 w8 ⟨o41_8, x1⟩
    have ap_b4_0_s41_8 : Ap (some b4_0) s41_8.ownBlock := Ap.mk (Cel.live c4_0) (Ow.fr o41_8)
    have ap_b8_2_s41_8 : Ap (some b8_2) s41_8.ownBlock := Ap.mk (Cel.live c8_2) (Ow.fr o41_8)
    have ap_s34_6_s41_8 : Ap s34_6.ownBlock s41_8.ownBlock := Ap.mk (Ow.live ho9) (Ow.fr o41_8)
    have ap_v10_s41_8 : Ap v10.ownBlock s41_8.ownBlock := Ap.mk (Ow.live ho10) (Ow.fr o41_8)
    have fr_s41_8 : Fr w.heap.size s41_8.ownBlock := Fr.le (Ow.fr o41_8) e0.size
    replace o41_8 := Ow.base o41_8 e0.size
    have e0 := e0.trans x1
    have c4_0 := c4_0.ext x1
    have c8_2 := c8_2.ext x1
    have ho9 := ho9.ext x1
    have ho10 := ho10.ext x1
    clear x1
    refine J.eff (Ye.appendS Try.underlying38 ti32 rfl rfl rfl rfl ho10 (Ow.rd o41_8) (fun _ => rfl) (by first | omega | (simp only [List.length_append, List.length_replicate, List.length_map, List.length_singleton, Int.toNat_natCast]; omega)) e0.size) rfl ?_
    rintro s42_9 w9 ⟨o42_9, hg, hsf⟩
    have ap_b4_0_s42_9 : Ap (some b4_0) s42_9.ownBlock := Ap.sf ap_b4_0_v10 (Cel.live c4_0) hsf
    have ap_b8_2_s42_9 : Ap (some b8_2) s42_9.ownBlock := Ap.sf ap_b8_2_v10 (Cel.live c8_2) hsf
    have ap_s34_6_s42_9 : Ap s34_6.ownBlock s42_9.ownBlock := Ap.sf ap_s34_6_v10 (Ow.live ho9) hsf
    have ap_s41_8_s42_9 : Ap s41_8.ownBlock s42_9.ownBlock := Ap.sf (Ap.symm ap_v10_s41_8) (Ow.live o41_8) hsf
    have fr_s42_9 : Fr w.heap.size s42_9.ownBlock := Fr.sf fr_v10 hsf e0.size
    have c4_0 := Cel.gbk c4_0 hg ap_b4_0_v10
    have c8_2 := Cel.gbk c8_2 hg ap_b8_2_v10
    have ho9 := Ow.gbk ho9 hg ap_s34_6_v10
    have o41_8 := Ow.gbk o41_8 hg (Ap.symm ap_v10_s41_8)
    have e0 := Ext.gbk e0 fr_v10 hg
    clear hg hsf
    refine J.op (Yd.assign rfl) rfl ?_
    refine J.nil ?_
    refine J.n_block ?_
    refine J.n_then ?_
    refine J.region ?_
    refine J.op (Yd.move rfl) rfl ?_
    refine J.op (Yd.add rfl rfl (by first | omega | (simp only [List.length_append, List.length_replicate, List.length_map, List.length_singleton, Int.toNat_natCast]; omega))) rfl ?_
    refine J.op (Yd.assign rfl) rfl ?_
    refine J.nil ?_
    refine J.n_then ?_
    exact J.round ((i + 1, s42_9)) ⟨rfl, rfl, rfl, rfl, rfl, rfl, rfl, trivial⟩ (⟨by show i + 1 ≤ n; omega, c4_0, c8_2, ho9, (by rw [List.replicate_succ']; exact o42_9), fr_s42_9, ap_b4_0_s42_9, ap_b8_2_s42_9, ap_s34_6_s42_9, e0⟩) (by show n - (i + 1) < n - i; omega)
  · skip
    refine J.exit ?_
    refine J.x_then ?_
    refine J.x_then ?_
    refine J.x_block ?_
    refine J.n_then ?_
    refine J.seq ?_
    refine J.region ?_
    refine J.op (Yd.move rfl) rfl ?_
    have hw := Wr.new (TW := 34) (E := 5) w7.heap.size c8_2
    refine J.eff (Ye.call cl22 rfl (WList0_ok (n := n) hw (Nat.le_refl _) (fun w' ht => by have h9 := Rd.thb (Ow.rd ho10) ht (Ap.symm ap_b8_2_v10) (Ow.live ho10); rw [List.map_replicate, show i = n by omega] at h9; exact h9) (by rw [List.length_nil]; omega))) rfl ?_
    rintro _ w10 ⟨rfl, hw2, x1⟩
    have e0 := e0.th' (Thb.th x1 (fr_b8_2 _ rfl) e0.size)
    have c4_0 := Cel.thb c4_0 x1 (Cel.lt c4_0) (fun e => ap_b4_0_b8_2 _ rfl (by rw [e]))
    have ho9 := Ow.thb ho9 x1 (Ap.symm ap_b8_2_s34_6) (Ow.live ho9)
    have ho10 := Ow.thb ho10 x1 (Ap.symm ap_b8_2_v10) (Ow.live ho10)
    replace hw := hw2
    clear hw2 x1
    rw [List.nil_append] at hw
    refine J.eff (Ye.call cl16 rfl (WDone_ok hw (by have h9 := putN_len (UInt64.ofNat n); simp only [List.length_append, List.length_replicate, blkL_len]; omega))) rfl ?_
    rintro s45_11 w11 ⟨os45_11, x1⟩
    have ap_b4_0_s45_11 : Ap (some b4_0) s45_11.ownBlock := Ap.mk (Cel.live c4_0) (Ow.fr os45_11)
    have ap_s34_6_s45_11 : Ap s34_6.ownBlock s45_11.ownBlock := Ap.mk (Ow.live ho9) (Ow.fr os45_11)
    have ap_v10_s45_11 : Ap v10.ownBlock s45_11.ownBlock := Ap.mk (Ow.live ho10) (Ow.fr os45_11)
    have fr_s45_11 : Fr w.heap.size s45_11.ownBlock := Fr.le (Ow.fr os45_11) e0.size
    replace os45_11 := Ow.base os45_11 e0.size
    have e0 := e0.trans x1
    have c4_0 := c4_0.ext x1
    have ho9 := ho9.ext x1
    have ho10 := ho10.ext x1
    have hw := hw.ext x1
    clear x1
    refine J.op (Yd.assign rfl) rfl ?_
    refine J.nil ?_
    refine J.n_then ?_
    refine J.seq ?_
    refine J.seq ?_
    refine J.region ?_
    refine J.op (Yd.move rfl) rfl ?_
    refine J.op (Yd.move rfl) rfl ?_
    refine J.know (t := 47) (v' := .bool false) rfl (rfl) ?_
    refine J.not_g rfl rfl rfl rfl rfl ?_
    refine J.not_g rfl rfl rfl rfl rfl ?_
    refine J.not_g rfl rfl rfl rfl rfl ?_
    refine J.op (Yd.pick_f rfl rfl) rfl ?_
    refine J.op (Yd.move rfl) rfl ?_
    refine J.not_g rfl rfl rfl rfl rfl ?_
    refine J.not_g rfl rfl rfl rfl rfl ?_
    refine J.not_g rfl rfl rfl rfl rfl ?_
    refine J.op (Yd.pick_f rfl rfl) rfl ?_
    refine J.nil ?_
    refine J.n_then ?_
    refine J.cond_false rfl ?_
    refine J.skip ?_
    refine J.n_then ?_
    refine J.seq ?_
    refine J.region ?_
    refine J.op (Yd.assign rfl) rfl ?_
    refine J.nil ?_
    refine J.n_then ?_
    refine J.seq ?_
    refine J.block ?_
    refine J.seq ?_
    refine J.region ?_
    refine J.op (Yd.move rfl) rfl ?_
    refine J.op (Yd.load pl3 rfl (Cel.cell1 c4_0 0 rfl)) rfl ?_
    by_cases hbig : (n : Int) > m
    · skip
      refine J.op (Yd.gtr rfl rfl) rfl ?_
      refine J.op (Yd.assign rfl) rfl ?_
      refine J.nil ?_
      refine J.n_then ?_
      refine J.know (t := 67) (v' := .bool true) rfl (tt (by omega)) ?_
      refine J.cond_true rfl ?_
      refine J.region ?_
      refine J.op (Yd.assign rfl) rfl ?_
      refine J.nil ?_
      refine J.n_block ?_
      refine J.n_then ?_
      refine J.seq ?_
      refine J.seq ?_
      refine J.region ?_
      refine J.op (Yd.move rfl) rfl ?_
      refine J.op (Yd.eql rfl rfl) rfl ?_
      refine J.nil ?_
      refine J.n_then ?_
      refine J.know (t := 74) (v' := .bool false) rfl (ff (by omega)) ?_
      refine J.cond_false rfl ?_
      refine J.skip ?_
      refine J.n_then ?_
      refine J.seq ?_
      refine J.region ?_
      refine J.op (Yd.move rfl) rfl ?_
      refine J.op (Yd.mkFuncC rfl rfl) rfl ?_
      refine J.eff (Ye.call cl11 rfl (Read_err (f := 23) (fst := #[]) (cap := #[.pointer (some ⟨b4_0, 0, none⟩)]) (rs := []) (l := (putN (UInt64.ofNat n) ++ blkL n 1)) (n := 11) (Φ := fun _ => True) cl23 LoL.nil (Ow.rd ho9) (show ((putN (UInt64.ofNat n) ++ blkL n 1)).length ≤ 1000000000 by have h9 := putN_len (UInt64.ofNat n); simp only [List.length_append, List.length_take, List.length_replicate, blkL_len]; omega) (by decide) (fun w1 be br hx hbe hlt hr => (CA_big (z := 0) hr (c4_0.ext hx) (Ap.mk (Cel.live c4_0) (Fr.blk (Nat.le_trans hbe (Nat.le_of_lt hlt)))) (show ((putN (UInt64.ofNat n) ++ blkL n 1)).length ≤ 1000000000 by have h9 := putN_len (UInt64.ofNat n); simp only [List.length_append, List.length_take, List.length_replicate, blkL_len]; omega) (by omega) (gN_put _ _) (show ¬ ((UInt64.ofNat n).toNat : Int) ≤ m by rw [u64_nat (by omega)]; omega)).pan fun ch w2 h => ⟨h.1, h.2, fun _ _ => trivial⟩))) rfl ?_
      rintro _ w12 ⟨rfl, x1, _⟩
      have x1 := Tn.nil x1
      have e0 := e0.trans x1
      have c4_0 := c4_0.ext x1
      have ho9 := ho9.ext x1
      have ho10 := ho10.ext x1
      have hw := hw.ext x1
      have os45_11 := os45_11.ext x1
      clear x1
      refine J.op (Yd.assign rfl) rfl ?_
      refine J.nil ?_
      refine J.n_then ?_
      refine J.seq ?_
      refine J.region ?_
      refine J.op (Yd.move rfl) rfl ?_
      refine J.op (Yd.mkFuncC rfl rfl) rfl ?_
      refine J.eff (Ye.call cl11 rfl (Read_err (f := 25) (fst := #[]) (cap := #[.pointer (some ⟨b4_0, 0, none⟩)]) (rs := []) (l := (putN (UInt64.ofNat n) ++ List.replicate n 0)) (n := 11) (Φ := fun _ => True) cl25 LoL.nil (Ow.rd os45_11) (show ((putN (UInt64.ofNat n) ++ List.replicate n 0)).length ≤ 1000000000 by have h9 := putN_len (UInt64.ofNat n); simp only [List.length_append, List.length_take, List.length_replicate, blkL_len]; omega) (by decide) (fun w1 be br hx hbe hlt hr => (CL_big (z := 0) hr (c4_0.ext hx) (Ap.mk (Cel.live c4_0) (Fr.blk (Nat.le_trans hbe (Nat.le_of_lt hlt)))) (show ((putN (UInt64.ofNat n) ++ List.replicate n 0)).length ≤ 1000000000 by have h9 := putN_len (UInt64.ofNat n); simp only [List.length_append, List.length_take, List.length_replicate, blkL_len]; omega) (by omega) (gN_put _ _) (show ¬ ((UInt64.ofNat n).toNat : Int) ≤ m by rw [u64_nat (by omega)]; omega)).pan fun ch w2 h => ⟨h.1, h.2, fun _ _ => trivial⟩))) rfl ?_
      rintro _ w13 ⟨rfl, x1, _⟩
      have x1 := Tn.nil x1
      have e0 := e0.trans x1
      have c4_0 := c4_0.ext x1
      have ho9 := ho9.ext x1
      have ho10 := ho10.ext x1
      have hw := hw.ext x1
      have os45_11 := os45_11.ext x1
      clear x1
      refine J.op (Yd.assign rfl) rfl ?_
      refine J.nil ?_
      refine J.n_then ?_
      refine J.seq ?_
      refine J.region ?_
      refine J.op (Yd.move rfl) rfl ?_
      refine J.op (Yd.move rfl) rfl ?_
      refine J.op (Yd.eql rfl rfl) rfl ?_
      refine J.op (Yd.move rfl) rfl ?_
      refine J.know (t := 85) (v' := .bool true) rfl (tt (by decide)) ?_
      refine J.op_g rfl rfl rfl (Yd.move rfl) rfl ?_
      refine J.op_g rfl rfl rfl (Yd.move rfl) rfl ?_
      refine J.op_g rfl rfl rfl (Yd.eql rfl rfl) rfl ?_
      refine J.op (Yd.pick_t rfl rfl) rfl ?_
      refine J.op (Yd.move rfl) rfl ?_
      refine J.know (t := 90) (v' := .bool true) rfl (tt (by decide)) ?_
      refine J.eff_g rfl rfl rfl (Ye.call cl7 rfl (Awake_ok)) rfl ?_
      rintro _ w14 ⟨rfl, x1⟩
      have e0 := e0.trans x1
      have c4_0 := c4_0.ext x1
      have ho9 := ho9.ext x1
      have ho10 := ho10.ext x1
      have hw := hw.ext x1
      have os45_11 := os45_11.ext x1
      clear x1
      refine J.op (Yd.pick_t rfl rfl) rfl ?_
      refine J.op (Yd.assign rfl) rfl ?_
      refine J.nil ?_
      refine J.n_then ?_
      refine J.ret ?_
      exact J.ret1 rfl rfl (⟨_, rfl, rfl, e0⟩)
    · skip
      refine J.op (Yd.gtr rfl rfl) rfl ?_
      refine J.op (Yd.assign rfl) rfl ?_
      refine J.nil ?_
      refine J.n_then ?_
      refine J.know (t := 67) (v' := .bool false) rfl (ff (by omega)) ?_
      refine J.cond_false rfl ?_
      refine J.seq ?_
      refine J.region ?_
      refine J.op (Yd.move rfl) rfl ?_
      refine J.op (Yd.assign rfl) rfl ?_
      refine J.nil ?_
      refine J.n_then ?_
      refine J.know (t := 71) (v' := .bool false) rfl (rfl) ?_
      refine J.cond_false rfl ?_
      refine J.skip ?_
      refine J.n_block ?_
      refine J.n_then ?_
      refine J.seq ?_
      refine J.seq ?_
      refine J.region ?_
      refine J.op (Yd.move rfl) rfl ?_
      refine J.op (Yd.eql rfl rfl) rfl ?_
      refine J.nil ?_
      refine J.n_then ?_
      refine J.know (t := 74) (v' := .bool false) rfl (ff (by omega)) ?_
      refine J.cond_false rfl ?_
      refine J.skip ?_
      refine J.n_then ?_
      refine J.seq ?_
      refine J.region ?_
      refine J.op (Yd.move rfl) rfl ?_
      refine J.op (Yd.mkFuncC rfl rfl) rfl ?_
      refine J.eff (Ye.call cl11 rfl (Read_ret (f := 23) (fst := #[]) (cap := #[.pointer (some ⟨b4_0, 0, none⟩)]) (rs := []) (l := (putN (UInt64.ofNat n) ++ blkL n 1)) (Φ := fun _ l2 => l2 = []) cl23 LoL.nil (Ow.rd ho9) (show ((putN (UInt64.ofNat n) ++ blkL n 1)).length ≤ 1000000000 by have h9 := putN_len (UInt64.ofNat n); simp only [List.length_append, List.length_take, List.length_replicate, blkL_len]; omega) (fun w1 be br hx hbe hlt hr => (CA_ok (z := 0) hr (c4_0.ext hx) (Ap.mk (Cel.live c4_0) (Fr.blk (Nat.le_trans hbe (Nat.le_of_lt hlt)))) (show ((putN (UInt64.ofNat n) ++ blkL n 1)).length ≤ 1000000000 by have h9 := putN_len (UInt64.ofNat n); simp only [List.length_append, List.length_take, List.length_replicate, blkL_len]; omega) (by omega) (gN_put _ _) (show ((UInt64.ofNat n).toNat : Int) ≤ m by rw [u64_nat (by omega)]; omega) (by rw [u64_nat (show n < 18446744073709551616 by omega), List.length_append, blkL_len])).ret fun _ w2 h => ⟨[], h.1, h.2, fun _ _ => rfl⟩))) rfl ?_
      rintro _ w15 ⟨l2, rfl, x1, rfl⟩
      have x1 := Tn.nil x1
      have e0 := e0.trans x1
      have c4_0 := c4_0.ext x1
      have ho9 := ho9.ext x1
      have ho10 := ho10.ext x1
      have hw := hw.ext x1
      have os45_11 := os45_11.ext x1
      clear x1
      refine J.op (Yd.assign rfl) rfl ?_
      refine J.nil ?_
      refine J.n_then ?_
      refine J.seq ?_
      refine J.region ?_
      refine J.op (Yd.move rfl) rfl ?_
      refine J.op (Yd.mkFuncC rfl rfl) rfl ?_
      refine J.eff (Ye.call cl11 rfl (Read_ret (f := 25) (fst := #[]) (cap := #[.pointer (some ⟨b4_0, 0, none⟩)]) (rs := []) (l := (putN (UInt64.ofNat n) ++ List.replicate n 0)) (Φ := fun _ l2 => l2 = []) cl25 LoL.nil (Ow.rd os45_11) (show ((putN (UInt64.ofNat n) ++ List.replicate n 0)).length ≤ 1000000000 by have h9 := putN_len (UInt64.ofNat n); simp only [List.length_append, List.length_take, List.length_replicate, blkL_len]; omega) (fun w1 be br hx hbe hlt hr => (CL_ok hr (c4_0.ext hx) (Ap.mk (Cel.live c4_0) (Fr.blk (Nat.le_trans hbe (Nat.le_of_lt hlt)))) (show ((putN (UInt64.ofNat n) ++ List.replicate n 0)).length ≤ 1000000000 by have h9 := putN_len (UInt64.ofNat n); simp only [List.length_append, List.length_take, List.length_replicate, blkL_len]; omega) (by omega) (gN_put _ _) (show ((UInt64.ofNat n).toNat : Int) ≤ m by rw [u64_nat (by omega)]; omega) (z := n) (by rw [List.drop_left]) (u64_nat (show n < 18446744073709551616 by omega)).symm (by omega)).ret fun _ w2 h => ⟨[], h.1, h.2, fun _ _ => rfl⟩))) rfl ?_
      rintro _ w16 ⟨l2, rfl, x1, rfl⟩
      have x1 := Tn.nil x1
      have e0 := e0.trans x1
      have c4_0 := c4_0.ext x1
      have ho9 := ho9.ext x1
      have ho10 := ho10.ext x1
      have hw := hw.ext x1
      have os45_11 := os45_11.ext x1
      clear x1
      refine J.op (Yd.assign rfl) rfl ?_
      refine J.nil ?_
      refine J.n_then ?_
      refine J.seq ?_
      refine J.region ?_
      refine J.op (Yd.move rfl) rfl ?_
      refine J.op (Yd.move rfl) rfl ?_
      refine J.op (Yd.eql rfl rfl) rfl ?_
      refine J.op (Yd.move rfl) rfl ?_
      refine J.know (t := 85) (v' := .bool true) rfl (tt (by decide)) ?_
      refine J.op_g rfl rfl rfl (Yd.move rfl) rfl ?_
      refine J.op_g rfl rfl rfl (Yd.move rfl) rfl ?_
      refine J.op_g rfl rfl rfl (Yd.eql rfl rfl) rfl ?_
      refine J.op (Yd.pick_t rfl rfl) rfl ?_
      refine J.op (Yd.move rfl) rfl ?_
      refine J.know (t := 90) (v' := .bool true) rfl (tt (by decide)) ?_
      refine J.eff_g rfl rfl rfl (Ye.call cl7 rfl (Awake_ok)) rfl ?_
      rintro _ w17 ⟨rfl, x1⟩
      have e0 := e0.trans x1
      have c4_0 := c4_0.ext x1
      have ho9 := ho9.ext x1
      have ho10 := ho10.ext x1
      have hw := hw.ext x1
      have os45_11 := os45_11.ext x1
      clear x1
      refine J.op (Yd.pick_t rfl rfl) rfl ?_
      refine J.op (Yd.assign rfl) rfl ?_
      refine J.nil ?_
      refine J.n_then ?_
      refine J.ret ?_
      exact J.ret1 rfl rfl (⟨_, rfl, rfl, e0⟩)

theorem LimT {n : Nat} {m : Int} {w : World} (hn : n ≤ 300) (hn1 : 1 ≤ n) (hm : 0 ≤ m ∧ m ≤ 300) : C Try.prog 6 [I (n : Int), I m, .bool true] w (Ret fun v w' => v = .bool true ∧ Ext w w') := by
  have hpl := putN_len (UInt64.ofNat n)
  have hpp := putN_pos (UInt64.ofNat n)
  have hbl := blkL_len n 1
  have e0 := Ext.refl w
  refine C.enter Try.func6 rfl Try.ntmps6 rfl ?_
  refine J.seq ?_
  refine J.region ?_
  refine J.eff (Ye.box (S := [(0, 1, [I m])]) rfl (by simp [SegAll, SegOK, Value.cells])) rfl ?_
  rintro _ w1 ⟨b4_0, rfl, hb_, c4_0, x1⟩
  have fr_b4_0 : Fr w.heap.size (some b4_0) := Fr.le (Fr.blk hb_) e0.size
  have e0 := e0.trans x1
  clear x1 hb_
  refine J.op (Yd.assign rfl) rfl ?_
  refine J.nil ?_
  refine J.n_then ?_
  refine J.seq ?_
  refine J.seq ?_
  refine J.region ?_
  refine J.op (Yd.move rfl) rfl ?_
  refine J.op (Yd.lss rfl rfl) rfl ?_
  refine J.op (Yd.move rfl) rfl ?_
  refine J.know (t := 18) (v' := .bool false) rfl (ff (by omega)) ?_
  refine J.op_g rfl rfl rfl (Yd.move rfl) rfl ?_
  refine J.op_g rfl rfl rfl (Yd.gtr rfl rfl) rfl ?_
  refine J.op (Yd.pick_f rfl rfl) rfl ?_
  refine J.op (Yd.move rfl) rfl ?_
  refine J.know (t := 22) (v' := .bool false) rfl (ff (by omega)) ?_
  refine J.op_g rfl rfl rfl (Yd.load pl3 rfl (Cel.cell1 c4_0 0 rfl)) rfl ?_
  refine J.op_g rfl rfl rfl (Yd.lss rfl rfl) rfl ?_
  refine J.op (Yd.pick_f rfl rfl) rfl ?_
  refine J.op (Yd.move rfl) rfl ?_
  refine J.know (t := 26) (v' := .bool false) rfl (ff (by omega)) ?_
  refine J.op_g rfl rfl rfl (Yd.load pl3 rfl (Cel.cell1 c4_0 0 rfl)) rfl ?_
  refine J.op_g rfl rfl rfl (Yd.gtr rfl rfl) rfl ?_
  refine J.op (Yd.pick_f rfl rfl) rfl ?_
  refine J.nil ?_
  refine J.n_then ?_
  refine J.know (t := 29) (v' := .bool false) rfl (ff (by omega)) ?_
  refine J.cond_false rfl ?_
  refine J.skip ?_
  refine J.n_then ?_
  refine J.seq ?_
  refine J.region ?_
  refine J.eff (Ye.alloc ti34 (S := [(0, 1, [.slice none 0 0])]) (by simp [SegAll, SegOK, Value.cells])) rfl ?_
  rintro _ w2 ⟨b7_1, rfl, hb_, c7_1, x1⟩
  have ap_b4_0_b7_1 : Ap (some b4_0) (some b7_1) := Ap.mk (Cel.live c4_0) (Fr.blk hb_)
  have fr_b7_1 : Fr w.heap.size (some b7_1) := Fr.le (Fr.blk hb_) e0.size
  have e0 := e0.trans x1
  have c4_0 := c4_0.ext x1
  clear x1 hb_
  refine J.eff (Ye.alloc ti34 (S := [(0, 1, [.slice none 0 0])]) (by simp [SegAll, SegOK, Value.cells])) rfl ?_
  rintro _ w3 ⟨b8_2, rfl, hb_, c8_2, x1⟩
  have ap_b4_0_b8_2 : Ap (some b4_0) (some b8_2) := Ap.mk (Cel.live c4_0) (Fr.blk hb_)
  have ap_b7_1_b8_2 : Ap (some b7_1) (some b8_2) := Ap.mk (Cel.live c7_1) (Fr.blk hb_)
  have fr_b8_2 : Fr w.heap.size (some b8_2) := Fr.le (Fr.blk hb_) e0.size
  have e0 := e0.trans x1
  have c4_0 := c4_0.ext x1
  have c7_1 := c7_1.ext x1
  clear x1 hb_
  refine J.nil ?_
  refine J.n_then ?_
  refine J.seq ?_
  refine J.region ?_
  refine J.op (Yd.move rfl) rfl ?_
  refine J.eff (Ye.call cl21 rfl (BlockN_ok (by omega))) rfl ?_
  rintro s32_4 w4 ⟨os32_4, x1⟩
  have ap_b4_0_s32_4 : Ap (some b4_0) s32_4.ownBlock := Ap.mk (Cel.live c4_0) (Ow.fr os32_4)
  have ap_b7_1_s32_4 : Ap (some b7_1) s32_4.ownBlock := Ap.mk (Cel.live c7_1) (Ow.fr os32_4)
  have ap_b8_2_s32_4 : Ap (some b8_2) s32_4.ownBlock := Ap.mk (Cel.live c8_2) (Ow.fr os32_4)
  have fr_s32_4 : Fr w.heap.size s32_4.ownBlock := Fr.le (Ow.fr os32_4) e0.size
  replace os32_4 := Ow.base os32_4 e0.size
  have e0 := e0.trans x1
  have c4_0 := c4_0.ext x1
  have c7_1 := c7_1.ext x1
  have c8_2 := c8_2.ext x1
  clear x1
  have hw := Wr.new (TW := 34) (E := 5) w4.heap.size c7_1
  refine J.eff (Ye.call cl20 rfl (WBytes_ok hw (Nat.le_refl _) (fun w' ht => Rd.thb (Ow.rd os32_4) ht (Ap.symm ap_b7_1_s32_4) (Ow.live os32_4)) (by rw [blkL_len, List.length_nil]; omega))) rfl ?_
  rintro _ w5 ⟨rfl, hw2, x1⟩
  have e0 := e0.th' (Thb.th x1 (fr_b7_1 _ rfl) e0.size)
  have c4_0 := Cel.thb c4_0 x1 (Cel.lt c4_0) (fun e => ap_b4_0_b7_1 _ rfl (by rw [e]))
  have c8_2 := Cel.thb c8_2 x1 (Cel.lt c8_2) (fun e => (Ap.symm ap_b7_1_b8_2) _ rfl (by rw [e]))
  have os32_4 := Ow.thb os32_4 x1 (Ap.symm ap_b7_1_s32_4) (Ow.live os32_4)
  replace hw := hw2
  clear hw2 x1
  rw [List.nil_append, blkL_len] at hw
  refine J.eff (Ye.call cl16 rfl (WDone_ok hw (by have h9 := putN_len (UInt64.ofNat n); simp only [List.length_append, List.length_replicate, blkL_len]; omega))) rfl ?_
  rintro s34_6 w6 ⟨os34_6, x1⟩
  have ap_b4_0_s34_6 : Ap (some b4_0) s34_6.ownBlock := Ap.mk (Cel.live c4_0) (Ow.fr os34_6)
  have ap_b8_2_s34_6 : Ap (some b8_2) s34_6.ownBlock := Ap.mk (Cel.live c8_2) (Ow.fr os34_6)
  have ap_s32_4_s34_6 : Ap s32_4.ownBlock s34_6.ownBlock := Ap.mk (Ow.live os32_4) (Ow.fr os34_6)
  have fr_s34_6 : Fr w.heap.size s34_6.ownBlock := Fr.le (Ow.fr os34_6) e0.size
  replace os34_6 := Ow.base os34_6 e0.size
  have e0 := e0.trans x1
  have c4_0 := c4_0.ext x1
  have c8_2 := c8_2.ext x1
  have os32_4 := os32_4.ext x1
  have hw := hw.ext x1
  clear x1
  refine J.op (Yd.assign rfl) rfl ?_
  refine J.nil ?_
  refine J.n_then ?_
  refine J.seq ?_
  refine J.region ?_
  refine J.op (Yd.assign rfl) rfl ?_
  refine J.nil ?_
  refine J.n_then ?_
  refine J.seq ?_
  refine J.seq ?_
  refine J.region ?_
  refine J.op (Yd.assign rfl) rfl ?_
  refine J.nil ?_
  refine J.n_then ?_
  refine J.block ?_
  refine J.loop (ι := Nat × Value) (fun i => [(0, I (n : Int)), (2, .bool true), (11, I (i.1 : Int)), (4, .pointer (some ⟨b4_0, 0, none⟩)), (8, .pointer (some ⟨b8_2, 0, none⟩)), (9, s34_6), (10, i.2)]) (fun i w' => i.1 ≤ n ∧ Cel w' b4_0 3 [(0, 1, [I m])] ∧ Cel w' b8_2 34 [(0, 1, [nilS])] ∧ Ob w.heap.size 5 w' s34_6 (putN (UInt64.ofNat n) ++ blkL n 1) ∧ Ow w.heap.size 32 w' i.2 ((List.replicate i.1 0).map fun _ : Nat => nilS) ∧ Fr w.heap.size (i.2).ownBlock ∧ Ap (some b4_0) (i.2).ownBlock ∧ Ap (some b8_2) (i.2).ownBlock ∧ Ap s34_6.ownBlock (i.2).ownBlock ∧ Ext w w') (fun i => n - i.1) ((0, nilS)) ⟨rfl, rfl, rfl, rfl, rfl, rfl, rfl, trivial⟩ (⟨Nat.zero_le _, c4_0, c8_2, os34_6, Ow.nilM _ _ _ _, Fr.nil, Ap.nil_r, Ap.nil_r, Ap.nil_r, e0⟩) ?_
  rintro ⟨i, v10⟩ w7 ⟨hk, c4_0, c8_2, ho9, ho10, fr_v10, ap_b4_0_v10, ap_b8_2_v10, ap_s34_6_v10, e0⟩
  dsimp only at *
  refine J.seq ?_
  refine J.seq ?_
  refine J.region ?_
  refine J.op (Yd.move rfl) rfl ?_
  refine J.op (Yd.move rfl) rfl ?_
  refine J.op (Yd.lss rfl rfl) rfl ?_
  refine J.nil ?_
  refine J.n_then ?_
  refine J.cond_dec rfl (fun hc1 => ?_) (fun hc1 => ?_)
  · skip
    refine J.skip ?_
    refine J.n_then ?_
    refine J.seq ?_
    refine J.block ?_
    refine J.region ?_
    refine J.op (Yd.move rfl) rfl ?_
    refine J.eff (Ye.lit1 (base := w7.heap.size) (f := fun _ : Nat => nilS) (u := 0) Try.underlying38 ti32 rfl rfl (fun _ => rfl) (Nat.le_refl _)) rfl ?_
    rintro s41_8 w8 ⟨o41_8, x1⟩
    have ap_b4_0_s41_8 : Ap (some b4_0) s41_8.ownBlock := Ap.mk (Cel.live c4_0) (Ow.fr o41_8)
    have ap_b8_2_s41_8 : Ap (some b8_2) s41_8.ownBlock := Ap.mk (Cel.live c8_2) (Ow.fr o41_8)
    have ap_s34_6_s41_8 : Ap s34_6.ownBlock s41_8.ownBlock := Ap.mk (Ow.live ho9) (Ow.fr o41_8)
    have ap_v10_s41_8 : Ap v10.ownBlock s41_8.ownBlock := Ap.mk (Ow.live ho10) (Ow.fr o41_8)
    have fr_s41_8 : Fr w.heap.size s41_8.ownBlock := Fr.le (Ow.fr o41_8) e0.size
    replace o41_8 := Ow.base o41_8 e0.size
    have e0 := e0.trans x1
    have c4_0 := c4_0.ext x1
    have c8_2 := c8_2.ext x1
    have ho9 := ho9.ext x1
    have ho10 := ho10.ext x1
    clear x1
    refine J.eff (Ye.appendS Try.underlying38 ti32 rfl rfl rfl rfl ho10 (Ow.rd o41_8) (fun _ => rfl) (by first | omega | (simp only [List.length_append, List.length_replicate, List.length_map, List.length_singleton, Int.toNat_natCast]; omega)) e0.size) rfl ?_
    rintro s42_9 w9 ⟨o42_9, hg, hsf⟩
    have ap_b4_0_s42_9 : Ap (some b4_0) s42_9.ownBlock := Ap.sf ap_b4_0_v10 (Cel.live c4_0) hsf
    have ap_b8_2_s42_9 : Ap (some b8_2) s42_9.ownBlock := Ap.sf ap_b8_2_v10 (Cel.live c8_2) hsf
    have ap_s34_6_s42_9 : Ap s34_6.ownBlock s42_9.ownBlock := Ap.sf ap_s34_6_v10 (Ow.live ho9) hsf
    have ap_s41_8_s42_9 : Ap s41_8.ownBlock s42_9.ownBlock := Ap.sf (Ap.symm ap_v10_s41_8) (Ow.live o41_8) hsf
    have fr_s42_9 : Fr w.heap.size s42_9.ownBlock := Fr.sf fr_v10 hsf e0.size
    have c4_0 := Cel.gbk c4_0 hg ap_b4_0_v10
    have c8_2 := Cel.gbk c8_2 hg ap_b8_2_v10
    have ho9 := Ow.gbk ho9 hg ap_s34_6_v10
    have o41_8 := Ow.gbk o41_8 hg (Ap.symm ap_v10_s41_8)
    have e0 := Ext.gbk e0 fr_v10 hg
    clear hg hsf
    refine J.op (Yd.assign rfl) rfl ?_
    refine J.nil ?_
    refine J.n_block ?_
    refine J.n_then ?_
    refine J.region ?_
    refine J.op (Yd.move rfl) rfl ?_
    refine J.op (Yd.add rfl rfl (by first | omega | (simp only [List.length_append, List.length_replicate, List.length_map, List.length_singleton, Int.toNat_natCast]; omega))) rfl ?_
    refine J.op (Yd.assign rfl) rfl ?_
    refine J.nil ?_
    refine J.n_then ?_
    exact J.round ((i + 1, s42_9)) ⟨rfl, rfl, rfl, rfl, rfl, rfl, rfl, trivial⟩ (⟨by show i + 1 ≤ n; omega, c4_0, c8_2, ho9, (by rw [List.replicate_succ']; exact o42_9), fr_s42_9, ap_b4_0_s42_9, ap_b8_2_s42_9, ap_s34_6_s42_9, e0⟩) (by show n - (i + 1) < n - i; omega)
  · skip
    refine J.exit ?_
    refine J.x_then ?_
    refine J.x_then ?_
    refine J.x_block ?_
    refine J.n_then ?_
    refine J.seq ?_
    refine J.region ?_
    refine J.op (Yd.move rfl) rfl ?_
    have hw := Wr.new (TW := 34) (E := 5) w7.heap.size c8_2
    refine J.eff (Ye.call cl22 rfl (WList0_ok (n := n) hw (Nat.le_refl _) (fun w' ht => by have h9 := Rd.thb (Ow.rd ho10) ht (Ap.symm ap_b8_2_v10) (Ow.live ho10); rw [List.map_replicate, show i = n by omega] at h9; exact h9) (by rw [List.length_nil]; omega))) rfl ?_
    rintro _ w10 ⟨rfl, hw2, x1⟩
    have e0 := e0.th' (Thb.th x1 (fr_b8_2 _ rfl) e0.size)
    have c4_0 := Cel.thb c4_0 x1 (Cel.lt c4_0) (fun e => ap_b4_0_b8_2 _ rfl (by rw [e]))
    have ho9 := Ow.thb ho9 x1 (Ap.symm ap_b8_2_s34_6) (Ow.live ho9)
    have ho10 := Ow.thb ho10 x1 (Ap.symm ap_b8_2_v10) (Ow.live ho10)
    replace hw := hw2
    clear hw2 x1
    rw [List.nil_append] at hw
    refine J.eff (Ye.call cl16 rfl (WDone_ok hw (by have h9 := putN_len (UInt64.ofNat n); simp only [List.length_append, List.length_replicate, blkL_len]; omega))) rfl ?_
    rintro s45_11 w11 ⟨os45_11, x1⟩
    have ap_b4_0_s45_11 : Ap (some b4_0) s45_11.ownBlock := Ap.mk (Cel.live c4_0) (Ow.fr os45_11)
    have ap_s34_6_s45_11 : Ap s34_6.ownBlock s45_11.ownBlock := Ap.mk (Ow.live ho9) (Ow.fr os45_11)
    have ap_v10_s45_11 : Ap v10.ownBlock s45_11.ownBlock := Ap.mk (Ow.live ho10) (Ow.fr os45_11)
    have fr_s45_11 : Fr w.heap.size s45_11.ownBlock := Fr.le (Ow.fr os45_11) e0.size
    replace os45_11 := Ow.base os45_11 e0.size
    have e0 := e0.trans x1
    have c4_0 := c4_0.ext x1
    have ho9 := ho9.ext x1
    have ho10 := ho10.ext x1
    have hw := hw.ext x1
    clear x1
    refine J.op (Yd.assign rfl) rfl ?_
    refine J.nil ?_
    refine J.n_then ?_
    refine J.seq ?_
    refine J.seq ?_
    refine J.region ?_
    refine J.op (Yd.move rfl) rfl ?_
    refine J.op (Yd.move rfl) rfl ?_
    refine J.know (t := 47) (v' := .bool true) rfl (rfl) ?_
    refine J.op_g rfl rfl rfl (Yd.move rfl) rfl ?_
    refine J.op_g rfl rfl rfl (Yd.len_b Try.underlying32 rfl (Ow.rd ho9)) rfl ?_
    refine J.op_g rfl rfl rfl (Yd.gtr rfl rfl) rfl ?_
    refine J.op (Yd.pick_t rfl rfl) rfl ?_
    refine J.op (Yd.move rfl) rfl ?_
    refine J.know (t := 52) (v' := .bool true) rfl (tt (by simp only [List.length_append, List.length_replicate]; omega)) ?_
    refine J.op_g rfl rfl rfl (Yd.move rfl) rfl ?_
    refine J.op_g rfl rfl rfl (Yd.len_b Try.underlying32 rfl (Ow.rd os45_11)) rfl ?_
    refine J.op_g rfl rfl rfl (Yd.gtr rfl rfl) rfl ?_
    refine J.op (Yd.pick_t rfl rfl) rfl ?_
    refine J.nil ?_
    refine J.n_then ?_
    refine J.know (t := 56) (v' := .bool true) rfl (tt (by simp only [List.length_append, List.length_replicate]; omega)) ?_
    refine J.cond_true rfl ?_
    refine J.seq ?_
    refine J.region ?_
    refine J.op (Yd.move rfl) rfl ?_
    refine J.op (Yd.move rfl) rfl ?_
    refine J.op (Yd.len_b Try.underlying32 rfl (Ow.rd ho9)) rfl ?_
    refine J.op (Yd.sub rfl rfl (by first | omega | (simp only [List.length_append, List.length_replicate, List.length_map, List.length_singleton, Int.toNat_natCast]; omega))) rfl ?_
    refine J.op (Yd.slcH Try.underlying32 ti5 rfl (Ow.rd ho9) rfl (by first | omega | (simp only [List.length_append, List.length_replicate, List.length_map, List.length_singleton, Int.toNat_natCast]; omega))) rfl ?_
    refine J.op (Yd.assign rfl) rfl ?_
    refine J.nil ?_
    refine J.n_then ?_
    refine J.region ?_
    refine J.op (Yd.move rfl) rfl ?_
    refine J.op (Yd.move rfl) rfl ?_
    refine J.op (Yd.len_b Try.underlying32 rfl (Ow.rd os45_11)) rfl ?_
    refine J.op (Yd.sub rfl rfl (by first | omega | (simp only [List.length_append, List.length_replicate, List.length_map, List.length_singleton, Int.toNat_natCast]; omega))) rfl ?_
    refine J.op (Yd.slcH Try.underlying32 ti5 rfl (Ow.rd os45_11) rfl (by first | omega | (simp only [List.length_append, List.length_replicate, List.length_map, List.length_singleton, Int.toNat_natCast]; omega))) rfl ?_
    refine J.op (Yd.assign rfl) rfl ?_
    refine J.nil ?_
    refine J.n_then ?_
    refine J.seq ?_
    refine J.region ?_
    refine J.op (Yd.assign rfl) rfl ?_
    refine J.nil ?_
    refine J.n_then ?_
    refine J.seq ?_
    refine J.block ?_
    refine J.seq ?_
    refine J.region ?_
    refine J.op (Yd.move rfl) rfl ?_
    refine J.op (Yd.load pl3 rfl (Cel.cell1 c4_0 0 rfl)) rfl ?_
    by_cases hbig : (n : Int) > m
    · skip
      refine J.op (Yd.gtr rfl rfl) rfl ?_
      refine J.op (Yd.assign rfl) rfl ?_
      refine J.nil ?_
      refine J.n_then ?_
      refine J.know (t := 67) (v' := .bool true) rfl (tt (by omega)) ?_
      refine J.cond_true rfl ?_
      refine J.region ?_
      refine J.op (Yd.assign rfl) rfl ?_
      refine J.nil ?_
      refine J.n_block ?_
      refine J.n_then ?_
      refine J.seq ?_
      refine J.seq ?_
      refine J.region ?_
      refine J.op (Yd.move rfl) rfl ?_
      refine J.op (Yd.eql rfl rfl) rfl ?_
      refine J.nil ?_
      refine J.n_then ?_
      refine J.know (t := 74) (v' := .bool false) rfl (ff (by omega)) ?_
      refine J.cond_false rfl ?_
      refine J.skip ?_
      refine J.n_then ?_
      refine J.seq ?_
      refine J.region ?_
      refine J.op (Yd.move rfl) rfl ?_
      refine J.op (Yd.mkFuncC rfl rfl) rfl ?_
      refine J.eff (Ye.call cl11 rfl (Read_err (f := 23) (fst := #[]) (cap := #[.pointer (some ⟨b4_0, 0, none⟩)]) (rs := []) (l := (putN (UInt64.ofNat n) ++ (blkL n 1).take ((blkL n 1).length - 1))) (n := 11) (Φ := fun _ => True) cl23 LoL.nil (show Bs _ _ (putN (UInt64.ofNat n) ++ (blkL n 1).take ((blkL n 1).length - 1)) from by rw [← cutL (k := ((((putN (UInt64.ofNat n) ++ blkL n 1)).length : Int) - 1).toNat) (by simp only [List.length_append, List.length_replicate]; omega) (by first | omega | (simp only [List.length_replicate]; omega))]; exact (Bs.slc (Ow.rd ho9) (by first | omega | (simp only [List.length_append, List.length_replicate, List.length_map, List.length_singleton, Int.toNat_natCast]; omega)) (by first | omega | (simp only [List.length_append, List.length_replicate, List.length_map, List.length_singleton, Int.toNat_natCast]; omega)))) (show ((putN (UInt64.ofNat n) ++ (blkL n 1).take ((blkL n 1).length - 1))).length ≤ 1000000000 by have h9 := putN_len (UInt64.ofNat n); simp only [List.length_append, List.length_take, List.length_replicate, blkL_len]; omega) (by decide) (fun w1 be br hx hbe hlt hr => (CA_big (z := 0) hr (c4_0.ext hx) (Ap.mk (Cel.live c4_0) (Fr.blk (Nat.le_trans hbe (Nat.le_of_lt hlt)))) (show ((putN (UInt64.ofNat n) ++ (blkL n 1).take ((blkL n 1).length - 1))).length ≤ 1000000000 by have h9 := putN_len (UInt64.ofNat n); simp only [List.length_append, List.length_take, List.length_replicate, blkL_len]; omega) (by omega) (gN_put _ _) (show ¬ ((UInt64.ofNat n).toNat : Int) ≤ m by rw [u64_nat (by omega)]; omega)).pan fun ch w2 h => ⟨h.1, h.2, fun _ _ => trivial⟩))) rfl ?_
      rintro _ w12 ⟨rfl, x1, _⟩
      have x1 := Tn.nil x1
      have e0 := e0.trans x1
      have c4_0 := c4_0.ext x1
      have ho9 := ho9.ext x1
      have ho10 := ho10.ext x1
      have hw := hw.ext x1
      have os45_11 := os45_11.ext x1
      clear x1
      refine J.op (Yd.assign rfl) rfl ?_
      refine J.nil ?_
      refine J.n_then ?_
      refine J.seq ?_
      refine J.region ?_
      refine J.op (Yd.move rfl) rfl ?_
      refine J.op (Yd.mkFuncC rfl rfl) rfl ?_
      refine J.eff (Ye.call cl11 rfl (Read_err (f := 25) (fst := #[]) (cap := #[.pointer (some ⟨b4_0, 0, none⟩)]) (rs := []) (l := (putN (UInt64.ofNat n) ++ (List.replicate n (0 : UInt8)).take ((List.replicate n (0 : UInt8)).length - 1))) (n := 11) (Φ := fun _ => True) cl25 LoL.nil (show Bs _ _ (putN (UInt64.ofNat n) ++ (List.replicate n (0 : UInt8)).take ((List.replicate n (0 : UInt8)).length - 1)) from by rw [← cutL (k := ((((putN (UInt64.ofNat n) ++ List.replicate n 0)).length : Int) - 1).toNat) (by simp only [List.length_append, List.length_replicate]; omega) (by first | omega | (simp only [List.length_replicate]; omega))]; exact (Bs.slc (Ow.rd os45_11) (by first | omega | (simp only [List.length_append, List.length_replicate, List.length_map, List.length_singleton, Int.toNat_natCast]; omega)) (by first | omega | (simp only [List.length_append, List.length_replicate, List.length_map, List.length_singleton, Int.toNat_natCast]; omega)))) (show ((putN (UInt64.ofNat n) ++ (List.replicate n (0 : UInt8)).take ((List.replicate n (0 : UInt8)).length - 1))).length ≤ 1000000000 by have h9 := putN_len (UInt64.ofNat n); simp only [List.length_append, List.length_take, List.length_replicate, blkL_len]; omega) (by decide) (fun w1 be br hx hbe hlt hr => (CL_big (z := 0) hr (c4_0.ext hx) (Ap.mk (Cel.live c4_0) (Fr.blk (Nat.le_trans hbe (Nat.le_of_lt hlt)))) (show ((putN (UInt64.ofNat n) ++ (List.replicate n (0 : UInt8)).take ((List.replicate n (0 : UInt8)).length - 1))).length ≤ 1000000000 by have h9 := putN_len (UInt64.ofNat n); simp only [List.length_append, List.length_take, List.length_replicate, blkL_len]; omega) (by omega) (gN_put _ _) (show ¬ ((UInt64.ofNat n).toNat : Int) ≤ m by rw [u64_nat (by omega)]; omega)).pan fun ch w2 h => ⟨h.1, h.2, fun _ _ => trivial⟩))) rfl ?_
      rintro _ w13 ⟨rfl, x1, _⟩
      have x1 := Tn.nil x1
      have e0 := e0.trans x1
      have c4_0 := c4_0.ext x1
      have ho9 := ho9.ext x1
      have ho10 := ho10.ext x1
      have hw := hw.ext x1
      have os45_11 := os45_11.ext x1
      clear x1
      refine J.op (Yd.assign rfl) rfl ?_
      refine J.nil ?_
      refine J.n_then ?_
      refine J.seq ?_
      refine J.region ?_
      refine J.op (Yd.move rfl) rfl ?_
      refine J.op (Yd.move rfl) rfl ?_
      refine J.op (Yd.eql rfl rfl) rfl ?_
      refine J.op (Yd.move rfl) rfl ?_
      refine J.know (t := 85) (v' := .bool true) rfl (tt (by decide)) ?_
      refine J.op_g rfl rfl rfl (Yd.move rfl) rfl ?_
      refine J.op_g rfl rfl rfl (Yd.move rfl) rfl ?_
      refine J.op_g rfl rfl rfl (Yd.eql rfl rfl) rfl ?_
      refine J.op (Yd.pick_t rfl rfl) rfl ?_
      refine J.op (Yd.move rfl) rfl ?_
      refine J.know (t := 90) (v' := .bool true) rfl (tt (by decide)) ?_
      refine J.eff_g rfl rfl rfl (Ye.call cl7 rfl (Awake_ok)) rfl ?_
      rintro _ w14 ⟨rfl, x1⟩
      have e0 := e0.trans x1
      have c4_0 := c4_0.ext x1
      have ho9 := ho9.ext x1
      have ho10 := ho10.ext x1
      have hw := hw.ext x1
      have os45_11 := os45_11.ext x1
      clear x1
      refine J.op (Yd.pick_t rfl rfl) rfl ?_
      refine J.op (Yd.assign rfl) rfl ?_
      refine J.nil ?_
      refine J.n_then ?_
      refine J.ret ?_
      exact J.ret1 rfl rfl (⟨_, rfl, rfl, e0⟩)
    · skip
      refine J.op (Yd.gtr rfl rfl) rfl ?_
      refine J.op (Yd.assign rfl) rfl ?_
      refine J.nil ?_
      refine J.n_then ?_
      refine J.know (t := 67) (v' := .bool false) rfl (ff (by omega)) ?_
      refine J.cond_false rfl ?_
      refine J.seq ?_
      refine J.region ?_
      refine J.op (Yd.move rfl) rfl ?_
      refine J.op (Yd.assign rfl) rfl ?_
      refine J.nil ?_
      refine J.n_then ?_
      refine J.know (t := 71) (v' := .bool true) rfl (rfl) ?_
      refine J.cond_true rfl ?_
      refine J.region ?_
      refine J.op (Yd.assign rfl) rfl ?_
      refine J.nil ?_
      refine J.n_block ?_
      refine J.n_then ?_
      refine J.seq ?_
      refine J.seq ?_
      refine J.region ?_
      refine J.op (Yd.move rfl) rfl ?_
      refine J.op (Yd.eql rfl rfl) rfl ?_
      refine J.nil ?_
      refine J.n_then ?_
      refine J.know (t := 74) (v' := .bool false) rfl (ff (by omega)) ?_
      refine J.cond_false rfl ?_
      refine J.skip ?_
      refine J.n_then ?_
      refine J.seq ?_
      refine J.region ?_
      refine J.op (Yd.move rfl) rfl ?_
      refine J.op (Yd.mkFuncC rfl rfl) rfl ?_
      refine J.eff (Ye.call cl11 rfl (Read_err (f := 23) (fst := #[]) (cap := #[.pointer (some ⟨b4_0, 0, none⟩)]) (rs := []) (l := (putN (UInt64.ofNat n) ++ (blkL n 1).take ((blkL n 1).length - 1))) (n := 2) (Φ := fun _ => True) cl23 LoL.nil (show Bs _ _ (putN (UInt64.ofNat n) ++ (blkL n 1).take ((blkL n 1).length - 1)) from by rw [← cutL (k := ((((putN (UInt64.ofNat n) ++ blkL n 1)).length : Int) - 1).toNat) (by simp only [List.length_append, List.length_replicate]; omega) (by first | omega | (simp only [List.length_replicate]; omega))]; exact (Bs.slc (Ow.rd ho9) (by first | omega | (simp only [List.length_append, List.length_replicate, List.length_map, List.length_singleton, Int.toNat_natCast]; omega)) (by first | omega | (simp only [List.length_append, List.length_replicate, List.length_map, List.length_singleton, Int.toNat_natCast]; omega)))) (show ((putN (UInt64.ofNat n) ++ (blkL n 1).take ((blkL n 1).length - 1))).length ≤ 1000000000 by have h9 := putN_len (UInt64.ofNat n); simp only [List.length_append, List.length_take, List.length_replicate, blkL_len]; omega) (by decide) (fun w1 be br hx hbe hlt hr => (CA_short (z := 0) hr (c4_0.ext hx) (Ap.mk (Cel.live c4_0) (Fr.blk (Nat.le_trans hbe (Nat.le_of_lt hlt)))) (show ((putN (UInt64.ofNat n) ++ (blkL n 1).take ((blkL n 1).length - 1))).length ≤ 1000000000 by have h9 := putN_len (UInt64.ofNat n); simp only [List.length_append, List.length_take, List.length_replicate, blkL_len]; omega) (by omega) (gN_put _ _) (show ((UInt64.ofNat n).toNat : Int) ≤ m by rw [u64_nat (by omega)]; omega) (by rw [u64_nat (show n < 18446744073709551616 by omega), List.length_append, List.length_take, blkL_len]; omega)).pan fun ch w2 h => ⟨h.1, h.2, fun _ _ => trivial⟩))) rfl ?_
      rintro _ w15 ⟨rfl, x1, _⟩
      have x1 := Tn.nil x1
      have e0 := e0.trans x1
      have c4_0 := c4_0.ext x1
      have ho9 := ho9.ext x1
      have ho10 := ho10.ext x1
      have hw := hw.ext x1
      have os45_11 := os45_11.ext x1
      clear x1
      refine J.op (Yd.assign rfl) rfl ?_
      refine J.nil ?_
      refine J.n_then ?_
      refine J.seq ?_
      refine J.region ?_
      refine J.op (Yd.move rfl) rfl ?_
      refine J.op (Yd.mkFuncC rfl rfl) rfl ?_
      refine J.eff (Ye.call cl11 rfl (Read_err (f := 25) (fst := #[]) (cap := #[.pointer (some ⟨b4_0, 0, none⟩)]) (rs := []) (l := (putN (UInt64.ofNat n) ++ (List.replicate n (0 : UInt8)).take ((List.replicate n (0 : UInt8)).length - 1))) (n := 2) (Φ := fun _ => True) cl25 LoL.nil (show Bs _ _ (putN (UInt64.ofNat n) ++ (List.replicate n (0 : UInt8)).take ((List.replicate n (0 : UInt8)).length - 1)) from by rw [← cutL (k := ((((putN (UInt64.ofNat n) ++ List.replicate n 0)).length : Int) - 1).toNat) (by simp only [List.length_append, List.length_replicate]; omega) (by first | omega | (simp only [List.length_replicate]; omega))]; exact (Bs.slc (Ow.rd os45_11) (by first | omega | (simp only [List.length_append, List.length_replicate, List.length_map, List.length_singleton, Int.toNat_natCast]; omega)) (by first | omega | (simp only [List.length_append, List.length_replicate, List.length_map, List.length_singleton, Int.toNat_natCast]; omega)))) (show ((putN (UInt64.ofNat n) ++ (List.replicate n (0 : UInt8)).take ((List.replicate n (0 : UInt8)).length - 1))).length ≤ 1000000000 by have h9 := putN_len (UInt64.ofNat n); simp only [List.length_append, List.length_take, List.length_replicate, blkL_len]; omega) (by decide) (fun w1 be br hx hbe hlt hr => (CL_short hr (c4_0.ext hx) (Ap.mk (Cel.live c4_0) (Fr.blk (Nat.le_trans hbe (Nat.le_of_lt hlt)))) (show ((putN (UInt64.ofNat n) ++ (List.replicate n (0 : UInt8)).take ((List.replicate n (0 : UInt8)).length - 1))).length ≤ 1000000000 by have h9 := putN_len (UInt64.ofNat n); simp only [List.length_append, List.length_take, List.length_replicate, blkL_len]; omega) (by omega) (gN_put _ _) (show ((UInt64.ofNat n).toNat : Int) ≤ m by rw [u64_nat (by omega)]; omega) (z := n - 1) (by rw [List.drop_left, List.take_replicate, List.length_replicate, Nat.min_eq_left (by omega)]) (by rw [u64_nat (show n < 18446744073709551616 by omega)]; omega) (by omega)).pan fun ch w2 h => ⟨h.1, h.2, fun _ _ => trivial⟩))) rfl ?_
      rintro _ w16 ⟨rfl, x1, _⟩
      have x1 := Tn.nil x1
      have e0 := e0.trans x1
      have c4_0 := c4_0.ext x1
      have ho9 := ho9.ext x1
      have ho10 := ho10.ext x1
      have hw := hw.ext x1
      have os45_11 := os45_11.ext x1
      clear x1
      refine J.op (Yd.assign rfl) rfl ?_
      refine J.nil ?_
      refine J.n_then ?_
      refine J.seq ?_
      refine J.region ?_
      refine J.op (Yd.move rfl) rfl ?_
      refine J.op (Yd.move rfl) rfl ?_
      refine J.op (Yd.eql rfl rfl) rfl ?_
      refine J.op (Yd.move rfl) rfl ?_
      refine J.know (t := 85) (v' := .bool true) rfl (tt (by decide)) ?_
      refine J.op_g rfl rfl rfl (Yd.move rfl) rfl ?_
      refine J.op_g rfl rfl rfl (Yd.move rfl) rfl ?_
      refine J.op_g rfl rfl rfl (Yd.eql rfl rfl) rfl ?_
      refine J.op (Yd.pick_t rfl rfl) rfl ?_
      refine J.op (Yd.move rfl) rfl ?_
      refine J.know (t := 90) (v' := .bool true) rfl (tt (by decide)) ?_
      refine J.eff_g rfl rfl rfl (Ye.call cl7 rfl (Awake_ok)) rfl ?_
      rintro _ w17 ⟨rfl, x1⟩
      have e0 := e0.trans x1
      have c4_0 := c4_0.ext x1
      have ho9 := ho9.ext x1
      have ho10 := ho10.ext x1
      have hw := hw.ext x1
      have os45_11 := os45_11.ext x1
      clear x1
      refine J.op (Yd.pick_t rfl rfl) rfl ?_
      refine J.op (Yd.assign rfl) rfl ?_
      refine J.nil ?_
      refine J.n_then ?_
      refine J.ret ?_
      exact J.ret1 rfl rfl (⟨_, rfl, rfl, e0⟩)

theorem Lim0F {n : Nat} {m : Int} {w : World} (hn : n ≤ 300) (hn1 : n = 0) (hm : 0 ≤ m ∧ m ≤ 300) : C Try.prog 6 [I (n : Int), I m, .bool false] w (Ret fun v w' => v = .bool true ∧ Ext w w') := by
  have hpl := putN_len (UInt64.ofNat n)
  have hpp := putN_pos (UInt64.ofNat n)
  have hbl := blkL_len n 1
  have h00 : (putN (UInt64.ofNat n)).length = 1 := by rw [hn1, show UInt64.ofNat 0 = 0 from rfl, putN_0]; rfl
  have e0 := Ext.refl w
  refine C.enter Try.func6 rfl Try.ntmps6 rfl ?_
  refine J.seq ?_
  refine J.region ?_
  refine J.eff (Ye.box (S := [(0, 1, [I m])]) rfl (by simp [SegAll, SegOK, Value.cells])) rfl ?_
  rintro _ w1 ⟨b4_0, rfl, hb_, c4_0, x1⟩
  have fr_b4_0 : Fr w.heap.size (some b4_0) := Fr.le (Fr.blk hb_) e0.size
  have e0 := e0.trans x1
  clear x1 hb_
  refine J.op (Yd.assign rfl) rfl ?_
  refine J.nil ?_
  refine J.n_then ?_
  refine J.seq ?_
  refine J.seq ?_
  refine J.region ?_
  refine J.op (Yd.move rfl) rfl ?_
  refine J.op (Yd.lss rfl rfl) rfl ?_
  refine J.op (Yd.move rfl) rfl ?_
  refine J.know (t := 18) (v' := .bool false) rfl (ff (by omega)) ?_
  refine J.op_g rfl rfl rfl (Yd.move rfl) rfl ?_
  refine J.op_g rfl rfl rfl (Yd.gtr rfl rfl) rfl ?_
  refine J.op (Yd.pick_f rfl rfl) rfl ?_
  refine J.op (Yd.move rfl) rfl ?_
  refine J.know (t := 22) (v' := .bool false) rfl (ff (by omega)) ?_
  refine J.op_g rfl rfl rfl (Yd.load pl3 rfl (Cel.cell1 c4_0 0 rfl)) rfl ?_
  refine J.op_g rfl rfl rfl (Yd.lss rfl rfl) rfl ?_
  refine J.op (Yd.pick_f rfl rfl) rfl ?_
  refine J.op (Yd.move rfl) rfl ?_
  refine J.know (t := 26) (v' := .bool false) rfl (ff (by omega)) ?_
  refine J.op_g rfl rfl rfl (Yd.load pl3 rfl (Cel.cell1 c4_0 0 rfl)) rfl ?_
  refine J.op_g rfl rfl rfl (Yd.gtr rfl rfl) rfl ?_
  refine J.op (Yd.pick_f rfl rfl) rfl ?_
  refine J.nil ?_
  refine J.n_then ?_
  refine J.know (t := 29) (v' := .bool false) rfl (ff (by omega)) ?_
  refine J.cond_false rfl ?_
  refine J.skip ?_
  refine J.n_then ?_
  refine J.seq ?_
  refine J.region ?_
  refine J.eff (Ye.alloc ti34 (S := [(0, 1, [.slice none 0 0])]) (by simp [SegAll, SegOK, Value.cells])) rfl ?_
  rintro _ w2 ⟨b7_1, rfl, hb_, c7_1, x1⟩
  have ap_b4_0_b7_1 : Ap (some b4_0) (some b7_1) := Ap.mk (Cel.live c4_0) (Fr.blk hb_)
  have fr_b7_1 : Fr w.heap.size (some b7_1) := Fr.le (Fr.blk hb_) e0.size
  have e0 := e0.trans x1
  have c4_0 := c4_0.ext x1
  clear x1 hb_
  refine J.eff (Ye.alloc ti34 (S := [(0, 1, [.slice none 0 0])]) (by simp [SegAll, SegOK, Value.cells])) rfl ?_
  rintro _ w3 ⟨b8_2, rfl, hb_, c8_2, x1⟩
  have ap_b4_0_b8_2 : Ap (some b4_0) (some b8_2) := Ap.mk (Cel.live c4_0) (Fr.blk hb_)
  have ap_b7_1_b8_2 : Ap (some b7_1) (some b8_2) := Ap.mk (Cel.live c7_1) (Fr.blk hb_)
  have fr_b8_2 : Fr w.heap.size (some b8_2) := Fr.le (Fr.blk hb_) e0.size
  have e0 := e0.trans x1
  have c4_0 := c4_0.ext x1
  have c7_1 := c7_1.ext x1
  clear x1 hb_
  refine J.nil ?_
  refine J.n_then ?_
  refine J.seq ?_
  refine J.region ?_
  refine J.op (Yd.move rfl) rfl ?_
  refine J.eff (Ye.call cl21 rfl (BlockN_ok (by omega))) rfl ?_
  rintro s32_4 w4 ⟨os32_4, x1⟩
  have ap_b4_0_s32_4 : Ap (some b4_0) s32_4.ownBlock := Ap.mk (Cel.live c4_0) (Ow.fr os32_4)
  have ap_b7_1_s32_4 : Ap (some b7_1) s32_4.ownBlock := Ap.mk (Cel.live c7_1) (Ow.fr os32_4)
  have ap_b8_2_s32_4 : Ap (some b8_2) s32_4.ownBlock := Ap.mk (Cel.live c8_2) (Ow.fr os32_4)
  have fr_s32_4 : Fr w.heap.size s32_4.ownBlock := Fr.le (Ow.fr os32_4) e0.size
  replace os32_4 := Ow.base os32_4 e0.size
  have e0 := e0.trans x1
  have c4_0 := c4_0.ext x1
  have c7_1 := c7_1.ext x1
  have c8_2 := c8_2.ext x1
  clear x1
  have hw := Wr.new (TW := 34) (E := 5) w4.heap.size c7_1
  refine J.eff (Ye.call cl20 rfl (WBytes_ok hw (Nat.le_refl _) (fun w' ht => Rd.thb (Ow.rd os32_4) ht (Ap.symm ap_b7_1_s32_4) (Ow.live os32_4)) (by rw [blkL_len, List.length_nil]; omega))) rfl ?_
  rintro _ w5 ⟨rfl, hw2, x1⟩
  have e0 := e0.th' (Thb.th x1 (fr_b7_1 _ rfl) e0.size)
  have c4_0 := Cel.thb c4_0 x1 (Cel.lt c4_0) (fun e => ap_b4_0_b7_1 _ rfl (by rw [e]))
  have c8_2 := Cel.thb c8_2 x1 (Cel.lt c8_2) (fun e => (Ap.symm ap_b7_1_b8_2) _ rfl (by rw [e]))
  have os32_4 := Ow.thb os32_4 x1 (Ap.symm ap_b7_1_s32_4) (Ow.live os32_4)
  replace hw := hw2
  clear hw2 x1
  rw [List.nil_append, blkL_len] at hw
  refine J.eff (Ye.call cl16 rfl (WDone_ok hw (by have h9 := putN_len (UInt64.ofNat n); simp only [List.length_append, List.length_replicate, blkL_len]; omega))) rfl ?_
  rintro s34_6 w6 ⟨os34_6, x1⟩
  have ap_b4_0_s34_6 : Ap (some b4_0) s34_6.ownBlock := Ap.mk (Cel.live c4_0) (Ow.fr os34_6)
  have ap_b8_2_s34_6 : Ap (some b8_2) s34_6.ownBlock := Ap.mk (Cel.live c8_2) (Ow.fr os34_6)
  have ap_s32_4_s34_6 : Ap s32_4.ownBlock s34_6.ownBlock := Ap.mk (Ow.live os32_4) (Ow.fr os34_6)
  have fr_s34_6 : Fr w.heap.size s34_6.ownBlock := Fr.le (Ow.fr os34_6) e0.size
  replace os34_6 := Ow.base os34_6 e0.size
  have e0 := e0.trans x1
  have c4_0 := c4_0.ext x1
  have c8_2 := c8_2.ext x1
  have os32_4 := os32_4.ext x1
  have hw := hw.ext x1
  clear x1
  refine J.op (Yd.assign rfl) rfl ?_
  refine J.nil ?_
  refine J.n_then ?_
  refine J.seq ?_
  refine J.region ?_
  refine J.op (Yd.assign rfl) rfl ?_
  refine J.nil ?_
  refine J.n_then ?_
  refine J.seq ?_
  refine J.seq ?_
  refine J.region ?_
  refine J.op (Yd.assign rfl) rfl ?_
  refine J.nil ?_
  refine J.n_then ?_
  refine J.block ?_
  refine J.loop (ι := Nat × Value) (fun i => [(0, I (n : Int)), (2, .bool false), (11, I (i.1 : Int)), (4, .pointer (some ⟨b4_0, 0, none⟩)), (8, .pointer (some ⟨b8_2, 0, none⟩)), (9, s34_6), (10, i.2)]) (fun i w' => i.1 ≤ n ∧ Cel w' b4_0 3 [(0, 1, [I m])] ∧ Cel w' b8_2 34 [(0, 1, [nilS])] ∧ Ob w.heap.size 5 w' s34_6 (putN (UInt64.ofNat n) ++ blkL n 1) ∧ Ow w.heap.size 32 w' i.2 ((List.replicate i.1 0).map fun _ : Nat => nilS) ∧ Fr w.heap.size (i.2).ownBlock ∧ Ap (some b4_0) (i.2).ownBlock ∧ Ap (some b8_2) (i.2).ownBlock ∧ Ap s34_6.ownBlock (i.2).ownBlock ∧ Ext w w') (fun i => n - i.1) ((0, nilS)) ⟨rfl, rfl, rfl, rfl, rfl, rfl, rfl, trivial⟩ (⟨Nat.zero_le _, c4_0, c8_2, os34_6, Ow.nilM _ _ _ _, Fr.nil, Ap.nil_r, Ap.nil_r, Ap.nil_r, e0⟩) ?_
  rintro ⟨i, v10⟩ w7 ⟨hk, c4_0, c8_2, ho9, ho10, fr_v10, ap_b4_0_v10, ap_b8_2_v10, ap_s34_6_v10, e0⟩
  dsimp only at *
  refine J.seq ?_
  refine J.seq ?_
  refine J.region ?_
  refine J.op (Yd.move rfl) rfl ?_
  refine J.op (Yd.move rfl) rfl ?_
  refine J.op (Yd.lss rfl rfl) rfl ?_
  refine J.nil ?_
  refine J.n_then ?_
  refine J.cond_dec rfl (fun hc1 => ?_) (fun hc1 => ?_)
  · skip
    refine J.skip ?_
    refine J.n_then ?_
    refine J.seq ?_
    refine J.block ?_
    refine J.region ?_
    refine J.op (Yd.move rfl) rfl ?_
    refine J.eff (Ye.lit1 (base := w7.heap.size) (f := fun _ : Nat => nilS) (u := 0) Try.underlying38 ti32 rfl rfl (fun _ => rfl) (Nat.le_refl _)) rfl ?_
    rintro s41_8 w8 ⟨o41_8, x1⟩
    have ap_b4_0_s41_8 : Ap (some b4_0) s41_8.ownBlock := Ap.mk (Cel.live c4_0) (Ow.fr o41_8)
    have ap_b8_2_s41_8 : Ap (some b8_2) s41_8.ownBlock := Ap.mk (Cel.live c8_2) (Ow.fr o41_8)
    have ap_s34_6_s41_8 : Ap s34_6.ownBlock s41_8.ownBlock := Ap.mk (Ow.live ho9) (Ow.fr o41_8)
    have ap_v10_s41_8 : Ap v10.ownBlock s41_8.ownBlock := Ap.mk (Ow.live ho10) (Ow.fr o41_8)
    have fr_s41_8 : Fr w.heap.size s41_8.ownBlock := Fr.le (Ow.fr o41_8) e0.size
    replace o41_8 := Ow.base o41_8 e0.size
    have e0 := e0.trans x1
    have c4_0 := c4_0.ext x1
    have c8_2 := c8_2.ext x1
    have ho9 := ho9.ext x1
    have ho10 := ho10.ext x1
    clear x1
    refine J.eff (Ye.appendS Try.underlying38 ti32 rfl rfl rfl rfl ho10 (Ow.rd o41_8) (fun _ => rfl) (by first | omega | (simp only [List.length_append, List.length_replicate, List.length_map, List.length_singleton, Int.toNat_natCast]; omega)) e0.size) rfl ?_
    rintro s42_9 w9 ⟨o42_9, hg, hsf⟩
    have ap_b4_0_s42_9 : Ap (some b4_0) s42_9.ownBlock := Ap.sf ap_b4_0_v10 (Cel.live c4_0) hsf
    have ap_b8_2_s42_9 : Ap (some b8_2) s42_9.ownBlock := Ap.sf ap_b8_2_v10 (Cel.live c8_2) hsf
    have ap_s34_6_s42_9 : Ap s34_6.ownBlock s42_9.ownBlock := Ap.sf ap_s34_6_v10 (Ow.live ho9) hsf
    have ap_s41_8_s42_9 : Ap s41_8.ownBlock s42_9.ownBlock := Ap.sf (Ap.symm ap_v10_s41_8) (Ow.live o41_8) hsf
    have fr_s42_9 : Fr w.heap.size s42_9.ownBlock := Fr.sf fr_v10 hsf e0.size
    have c4_0 := Cel.gbk c4_0 hg ap_b4_0_v10
    have c8_2 := Cel.gbk c8_2 hg ap_b8_2_v10
    have ho9 := Ow.gbk ho9 hg ap_s34_6_v10
    have o41_8 := Ow.gbk o41_8 hg (Ap.symm ap_v10_s41_8)
    have e0 := Ext.gbk e0 fr_v10 hg
    clear hg hsf
    refine J.op (Yd.assign rfl) rfl ?_
    refine J.nil ?_
    refine J.n_block ?_
    refine J.n_then ?_
    refine J.region ?_
    refine J.op (Yd.move rfl) rfl ?_
    refine J.op (Yd.add rfl rfl (by first | omega | (simp only [List.length_append, List.length_replicate, List.length_map, List.length_singleton, Int.toNat_natCast]; omega))) rfl ?_
    refine J.op (Yd.assign rfl) rfl ?_
    refine J.nil ?_
    refine J.n_then ?_
    exact J.round ((i + 1, s42_9)) ⟨rfl, rfl, rfl, rfl, rfl, rfl, rfl, trivial⟩ (⟨by show i + 1 ≤ n; omega, c4_0, c8_2, ho9, (by rw [List.replicate_succ']; exact o42_9), fr_s42_9, ap_b4_0_s42_9, ap_b8_2_s42_9, ap_s34_6_s42_9, e0⟩) (by show n - (i + 1) < n - i; omega)
  · skip
    refine J.exit ?_
    refine J.x_then ?_
    refine J.x_then ?_
    refine J.x_block ?_
    refine J.n_then ?_
    refine J.seq ?_
    refine J.region ?_
    refine J.op (Yd.move rfl) rfl ?_
    have hw := Wr.new (TW := 34) (E := 5) w7.heap.size c8_2
    refine J.eff (Ye.call cl22 rfl (WList0_ok (n := n) hw (Nat.le_refl _) (fun w' ht => by have h9 := Rd.thb (Ow.rd ho10) ht (Ap.symm ap_b8_2_v10) (Ow.live ho10); rw [List.map_replicate, show i = n by omega] at h9; exact h9) (by rw [List.length_nil]; omega))) rfl ?_
    rintro _ w10 ⟨rfl, hw2, x1⟩
    have e0 := e0.th' (Thb.th x1 (fr_b8_2 _ rfl) e0.size)
    have c4_0 := Cel.thb c4_0 x1 (Cel.lt c4_0) (fun e => ap_b4_0_b8_2 _ rfl (by rw [e]))
    have ho9 := Ow.thb ho9 x1 (Ap.symm ap_b8_2_s34_6) (Ow.live ho9)
    have ho10 := Ow.thb ho10 x1 (Ap.symm ap_b8_2_v10) (Ow.live ho10)
    replace hw := hw2
    clear hw2 x1
    rw [List.nil_append] at hw
    refine J.eff (Ye.call cl16 rfl (WDone_ok hw (by have h9 := putN_len (UInt64.ofNat n); simp only [List.length_append, List.length_replicate, blkL_len]; omega))) rfl ?_
    rintro s45_11 w11 ⟨os45_11, x1⟩
    have ap_b4_0_s45_11 : Ap (some b4_0) s45_11.ownBlock := Ap.mk (Cel.live c4_0) (Ow.fr os45_11)
    have ap_s34_6_s45_11 : Ap s34_6.ownBlock s45_11.ownBlock := Ap.mk (Ow.live ho9) (Ow.fr os45_11)
    have ap_v10_s45_11 : Ap v10.ownBlock s45_11.ownBlock := Ap.mk (Ow.live ho10) (Ow.fr os45_11)
    have fr_s45_11 : Fr w.heap.size s45_11.ownBlock := Fr.le (Ow.fr os45_11) e0.size
    replace os45_11 := Ow.base os45_11 e0.size
    have e0 := e0.trans x1
    have c4_0 := c4_0.ext x1
    have ho9 := ho9.ext x1
    have ho10 := ho10.ext x1
    have hw := hw.ext x1
    clear x1
    refine J.op (Yd.assign rfl) rfl ?_
    refine J.nil ?_
    refine J.n_then ?_
    refine J.seq ?_
    refine J.seq ?_
    refine J.region ?_
    refine J.op (Yd.move rfl) rfl ?_
    refine J.op (Yd.move rfl) rfl ?_
    refine J.know (t := 47) (v' := .bool false) rfl (rfl) ?_
    refine J.not_g rfl rfl rfl rfl rfl ?_
    refine J.not_g rfl rfl rfl rfl rfl ?_
    refine J.not_g rfl rfl rfl rfl rfl ?_
    refine J.op (Yd.pick_f rfl rfl) rfl ?_
    refine J.op (Yd.move rfl) rfl ?_
    refine J.not_g rfl rfl rfl rfl rfl ?_
    refine J.not_g rfl rfl rfl rfl rfl ?_
    refine J.not_g rfl rfl rfl rfl rfl ?_
    refine J.op (Yd.pick_f rfl rfl) rfl ?_
    refine J.nil ?_
    refine J.n_then ?_
    refine J.cond_false rfl ?_
    refine J.skip ?_
    refine J.n_then ?_
    refine J.seq ?_
    refine J.region ?_
    refine J.op (Yd.assign rfl) rfl ?_
    refine J.nil ?_
    refine J.n_then ?_
    refine J.seq ?_
    refine J.block ?_
    refine J.seq ?_
    refine J.region ?_
    refine J.op (Yd.move rfl) rfl ?_
    refine J.op (Yd.load pl3 rfl (Cel.cell1 c4_0 0 rfl)) rfl ?_
    refine J.op (Yd.gtr rfl rfl) rfl ?_
    refine J.op (Yd.assign rfl) rfl ?_
    refine J.nil ?_
    refine J.n_then ?_
    refine J.know (t := 67) (v' := .bool false) rfl (ff (by omega)) ?_
    refine J.cond_false rfl ?_
    refine J.seq ?_
    refine J.region ?_
    refine J.op (Yd.move rfl) rfl ?_
    refine J.op (Yd.assign rfl) rfl ?_
    refine J.nil ?_
    refine J.n_then ?_
    refine J.know (t := 71) (v' := .bool false) rfl (rfl) ?_
    refine J.cond_false rfl ?_
    refine J.skip ?_
    refine J.n_block ?_
    refine J.n_then ?_
    refine J.seq ?_
    refine J.seq ?_
    refine J.region ?_
    refine J.op (Yd.move rfl) rfl ?_
    refine J.op (Yd.eql rfl rfl) rfl ?_
    refine J.nil ?_
    refine J.n_then ?_
    refine J.know (t := 74) (v' := .bool true) rfl (tt (by omega)) ?_
    refine J.cond_true rfl ?_
    refine J.seq ?_
    refine J.region ?_
    refine J.eff (Ye.call cl7 rfl (Awake_ok)) rfl ?_
    rintro _ w12 ⟨rfl, x1⟩
    have e0 := e0.trans x1
    have c4_0 := c4_0.ext x1
    have ho9 := ho9.ext x1
    have ho10 := ho10.ext x1
    have hw := hw.ext x1
    have os45_11 := os45_11.ext x1
    clear x1
    refine J.op (Yd.assign rfl) rfl ?_
    refine J.nil ?_
    refine J.n_then ?_
    refine J.ret ?_
    refine J.r_then ?_
    exact J.ret1 rfl rfl (⟨_, rfl, rfl, e0⟩)

theorem Lim0T {n : Nat} {m : Int} {w : World} (hn : n ≤ 300) (hn1 : n = 0) (hm : 0 ≤ m ∧ m ≤ 300) : C Try.prog 6 [I (n : Int), I m, .bool true] w (Ret fun v w' => v = .bool true ∧ Ext w w') := by
  have hpl := putN_len (UInt64.ofNat n)
  have hpp := putN_pos (UInt64.ofNat n)
  have hbl := blkL_len n 1
  have h00 : (putN (UInt64.ofNat n)).length = 1 := by rw [hn1, show UInt64.ofNat 0 = 0 from rfl, putN_0]; rfl
  have e0 := Ext.refl w
  refine C.enter Try.func6 rfl Try.ntmps6 rfl ?_
  refine J.seq ?_
  refine J.region ?_
  refine J.eff (Ye.box (S := [(0, 1, [I m])]) rfl (by simp [SegAll, SegOK, Value.cells])) rfl ?_
  rintro _ w1 ⟨b4_0, rfl, hb_, c4_0, x1⟩
  have fr_b4_0 : Fr w.heap.size (some b4_0) := Fr.le (Fr.blk hb_) e0.size
  have e0 := e0.trans x1
  clear x1 hb_
  refine J.op (Yd.assign rfl) rfl ?_
  refine J.nil ?_
  refine J.n_then ?_
  refine J.seq ?_
  refine J.seq ?_
  refine J.region ?_
  refine J.op (Yd.move rfl) rfl ?_
  refine J.op (Yd.lss rfl rfl) rfl ?_
  refine J.op (Yd.move rfl) rfl ?_
  refine J.know (t := 18) (v' := .bool false) rfl (ff (by omega)) ?_
  refine J.op_g rfl rfl rfl (Yd.move rfl) rfl ?_
  refine J.op_g rfl rfl rfl (Yd.gtr rfl rfl) rfl ?_
  refine J.op (Yd.pick_f rfl rfl) rfl ?_
  refine J.op (Yd.move rfl) rfl ?_
  refine J.know (t := 22) (v' := .bool false) rfl (ff (by omega)) ?_
  refine J.op_g rfl rfl rfl (Yd.load pl3 rfl (Cel.cell1 c4_0 0 rfl)) rfl ?_
  refine J.op_g rfl rfl rfl (Yd.lss rfl rfl) rfl ?_
  refine J.op (Yd.pick_f rfl rfl) rfl ?_
  refine J.op (Yd.move rfl) rfl ?_
  refine J.know (t := 26) (v' := .bool false) rfl (ff (by omega)) ?_
  refine J.op_g rfl rfl rfl (Yd.load pl3 rfl (Cel.cell1 c4_0 0 rfl)) rfl ?_
  refine J.op_g rfl rfl rfl (Yd.gtr rfl rfl) rfl ?_
  refine J.op (Yd.pick_f rfl rfl) rfl ?_
  refine J.nil ?_
  refine J.n_then ?_
  refine J.know (t := 29) (v' := .bool false) rfl (ff (by omega)) ?_
  refine J.cond_false rfl ?_
  refine J.skip ?_
  refine J.n_then ?_
  refine J.seq ?_
  refine J.region ?_
  refine J.eff (Ye.alloc ti34 (S := [(0, 1, [.slice none 0 0])]) (by simp [SegAll, SegOK, Value.cells])) rfl ?_
  rintro _ w2 ⟨b7_1, rfl, hb_, c7_1, x1⟩
  have ap_b4_0_b7_1 : Ap (some b4_0) (some b7_1) := Ap.mk (Cel.live c4_0) (Fr.blk hb_)
  have fr_b7_1 : Fr w.heap.size (some b7_1) := Fr.le (Fr.blk hb_) e0.size
  have e0 := e0.trans x1
  have c4_0 := c4_0.ext x1
  clear x1 hb_
  refine J.eff (Ye.alloc ti34 (S := [(0, 1, [.slice none 0 0])]) (by simp [SegAll, SegOK, Value.cells])) rfl ?_
  rintro _ w3 ⟨b8_2, rfl, hb_, c8_2, x1⟩
  have ap_b4_0_b8_2 : Ap (some b4_0) (some b8_2) := Ap.mk (Cel.live c4_0) (Fr.blk hb_)
  have ap_b7_1_b8_2 : Ap (some b7_1) (some b8_2) := Ap.mk (Cel.live c7_1) (Fr.blk hb_)
  have fr_b8_2 : Fr w.heap.size (some b8_2) := Fr.le (Fr.blk hb_) e0.size
  have e0 := e0.trans x1
  have c4_0 := c4_0.ext x1
  have c7_1 := c7_1.ext x1
  clear x1 hb_
  refine J.nil ?_
  refine J.n_then ?_
  refine J.seq ?_
  refine J.region ?_
  refine J.op (Yd.move rfl) rfl ?_
  refine J.eff (Ye.call cl21 rfl (BlockN_ok (by omega))) rfl ?_
  rintro s32_4 w4 ⟨os32_4, x1⟩
  have ap_b4_0_s32_4 : Ap (some b4_0) s32_4.ownBlock := Ap.mk (Cel.live c4_0) (Ow.fr os32_4)
  have ap_b7_1_s32_4 : Ap (some b7_1) s32_4.ownBlock := Ap.mk (Cel.live c7_1) (Ow.fr os32_4)
  have ap_b8_2_s32_4 : Ap (some b8_2) s32_4.ownBlock := Ap.mk (Cel.live c8_2) (Ow.fr os32_4)
  have fr_s32_4 : Fr w.heap.size s32_4.ownBlock := Fr.le (Ow.fr os32_4) e0.size
  replace os32_4 := Ow.base os32_4 e0.size
  have e0 := e0.trans x1
  have c4_0 := c4_0.ext x1
  have c7_1 := c7_1.ext x1
  have c8_2 := c8_2.ext x1
  clear x1
  have hw := Wr.new (TW := 34) (E := 5) w4.heap.size c7_1
  refine J.eff (Ye.call cl20 rfl (WBytes_ok hw (Nat.le_refl _) (fun w' ht => Rd.thb (Ow.rd os32_4) ht (Ap.symm ap_b7_1_s32_4) (Ow.live os32_4)) (by rw [blkL_len, List.length_nil]; omega))) rfl ?_
  rintro _ w5 ⟨rfl, hw2, x1⟩
  have e0 := e0.th' (Thb.th x1 (fr_b7_1 _ rfl) e0.size)
  have c4_0 := Cel.thb c4_0 x1 (Cel.lt c4_0) (fun e => ap_b4_0_b7_1 _ rfl (by rw [e]))
  have c8_2 := Cel.thb c8_2 x1 (Cel.lt c8_2) (fun e => (Ap.symm ap_b7_1_b8_2) _ rfl (by rw [e]))
  have os32_4 := Ow.thb os32_4 x1 (Ap.symm ap_b7_1_s32_4) (Ow.live os32_4)
  replace hw := hw2
  clear hw2 x1
  rw [List.nil_append, blkL_len] at hw
  refine J.eff (Ye.call cl16 rfl (WDone_ok hw (by have h9 := putN_len (UInt64.ofNat n); simp only [List.length_append, List.length_replicate, blkL_len]; omega))) rfl ?_
  rintro s34_6 w6 ⟨os34_6, x1⟩
  have ap_b4_0_s34_6 : Ap (some b4_0) s34_6.ownBlock := Ap.mk (Cel.live c4_0) (Ow.fr os34_6)
  have ap_b8_2_s34_6 : Ap (some b8_2) s34_6.ownBlock := Ap.mk (Cel.live c8_2) (Ow.fr os34_6)
  have ap_s32_4_s34_6 : Ap s32_4.ownBlock s34_6.ownBlock := Ap.mk (Ow.live os32_4) (Ow.fr os34_6)
  have fr_s34_6 : Fr w.heap.size s34_6.ownBlock := Fr.le (Ow.fr os34_6) e0.size
  replace os34_6 := Ow.base os34_6 e0.size
  have e0 := e0.trans x1
  have c4_0 := c4_0.ext x1
  have c8_2 := c8_2.ext x1
  have os32_4 := os32_4.ext x1
  have hw := hw.ext x1
  clear x1
  refine J.op (Yd.assign rfl) rfl ?_
  refine J.nil ?_
  refine J.n_then ?_
  refine J.seq ?_
  refine J.region ?_
  refine J.op (Yd.assign rfl) rfl ?_
  refine J.nil ?_
  refine J.n_then ?_
  refine J.seq ?_
  refine J.seq ?_
  refine J.region ?_
  refine J.op (Yd.assign rfl) rfl ?_
  refine J.nil ?_
  refine J.n_then ?_
  refine J.block ?_
  refine J.loop (ι := Nat × Value) (fun i => [(0, I (n : Int)), (2, .bool true), (11, I (i.1 : Int)), (4, .pointer (some ⟨b4_0, 0, none⟩)), (8, .pointer (some ⟨b8_2, 0, none⟩)), (9, s34_6), (10, i.2)]) (fun i w' => i.1 ≤ n ∧ Cel w' b4_0 3 [(0, 1, [I m])] ∧ Cel w' b8_2 34 [(0, 1, [nilS])] ∧ Ob w.heap.size 5 w' s34_6 (putN (UInt64.ofNat n) ++ blkL n 1) ∧ Ow w.heap.size 32 w' i.2 ((List.replicate i.1 0).map fun _ : Nat => nilS) ∧ Fr w.heap.size (i.2).ownBlock ∧ Ap (some b4_0) (i.2).ownBlock ∧ Ap (some b8_2) (i.2).ownBlock ∧ Ap s34_6.ownBlock (i.2).ownBlock ∧ Ext w w') (fun i => n - i.1) ((0, nilS)) ⟨rfl, rfl, rfl, rfl, rfl, rfl, rfl, trivial⟩ (⟨Nat.zero_le _, c4_0, c8_2, os34_6, Ow.nilM _ _ _ _, Fr.nil, Ap.nil_r, Ap.nil_r, Ap.nil_r, e0⟩) ?_
  rintro ⟨i, v10⟩ w7 ⟨hk, c4_0, c8_2, ho9, ho10, fr_v10, ap_b4_0_v10, ap_b8_2_v10, ap_s34_6_v10, e0⟩
  dsimp only at *
  refine J.seq ?_
  refine J.seq ?_
  refine J.region ?_
  refine J.op (Yd.move rfl) rfl ?_
  refine J.op (Yd.move rfl) rfl ?_
  refine J.op (Yd.lss rfl rfl) rfl ?_
  refine J.nil ?_
  refine J.n_then ?_
  refine J.cond_dec rfl (fun hc1 => ?_) (fun hc1 => ?_)
  · skip
    refine J.skip ?_
    refine J.n_then ?_
    refine J.seq ?_
    refine J.block ?_
    refine J.region ?_
    refine J.op (Yd.move rfl) rfl ?_
    refine J.eff (Ye.lit1 (base := w7.heap.size) (f := fun _ : Nat => nilS) (u := 0) Try.underlying38 ti32 rfl rfl (fun _ => rfl) (Nat.le_refl _)) rfl ?_
    rintro s41_8 w8 ⟨o41_8, x1⟩
    have ap_b4_0_s41_8 : Ap (some b4_0) s41_8.ownBlock := Ap.mk (Cel.live c4_0) (Ow.fr o41_8)
    have ap_b8_2_s41_8 : Ap (some b8_2) s41_8.ownBlock := Ap.mk (Cel.live c8_2) (Ow.fr o41_8)
    have ap_s34_6_s41_8 : Ap s34_6.ownBlock s41_8.ownBlock := Ap.mk (Ow.live ho9) (Ow.fr o41_8)
    have ap_v10_s41_8 : Ap v10.ownBlock s41_8.ownBlock := Ap.mk (Ow.live ho10) (Ow.fr o41_8)
    have fr_s41_8 : Fr w.heap.size s41_8.ownBlock := Fr.le (Ow.fr o41_8) e0.size
    replace o41_8 := Ow.base o41_8 e0.size
    have e0 := e0.trans x1
    have c4_0 := c4_0.ext x1
    have c8_2 := c8_2.ext x1
    have ho9 := ho9.ext x1
    have ho10 := ho10.ext x1
    clear x1
    refine J.eff (Ye.appendS Try.underlying38 ti32 rfl rfl rfl rfl ho10 (Ow.rd o41_8) (fun _ => rfl) (by first | omega | (simp only [List.length_append, List.length_replicate, List.length_map, List.length_singleton, Int.toNat_natCast]; omega)) e0.size) rfl ?_
    rintro s42_9 w9 ⟨o42_9, hg, hsf⟩
    have ap_b4_0_s42_9 : Ap (some b4_0) s42_9.ownBlock := Ap.sf ap_b4_0_v10 (Cel.live c4_0) hsf
    have ap_b8_2_s42_9 : Ap (some b8_2) s42_9.ownBlock := Ap.sf ap_b8_2_v10 (Cel.live c8_2) hsf
    have ap_s34_6_s42_9 : Ap s34_6.ownBlock s42_9.ownBlock := Ap.sf ap_s34_6_v10 (Ow.live ho9) hsf
    have ap_s41_8_s42_9 : Ap s41_8.ownBlock s42_9.ownBlock := Ap.sf (Ap.symm ap_v10_s41_8) (Ow.live o41_8) hsf
    have fr_s42_9 : Fr w.heap.size s42_9.ownBlock := Fr.sf fr_v10 hsf e0.size
    have c4_0 := Cel.gbk c4_0 hg ap_b4_0_v10
    have c8_2 := Cel.gbk c8_2 hg ap_b8_2_v10
    have ho9 := Ow.gbk ho9 hg ap_s34_6_v10
    have o41_8 := Ow.gbk o41_8 hg (Ap.symm ap_v10_s41_8)
    have e0 := Ext.gbk e0 fr_v10 hg
    clear hg hsf
    refine J.op (Yd.assign rfl) rfl ?_
    refine J.nil ?_
    refine J.n_block ?_
    refine J.n_then ?_
    refine J.region ?_
    refine J.op (Yd.move rfl) rfl ?_
    refine J.op (Yd.add rfl rfl (by first | omega | (simp only [List.length_append, List.length_replicate, List.length_map, List.length_singleton, Int.toNat_natCast]; omega))) rfl ?_
    refine J.op (Yd.assign rfl) rfl ?_
    refine J.nil ?_
    refine J.n_then ?_
    exact J.round ((i + 1, s42_9)) ⟨rfl, rfl, rfl, rfl, rfl, rfl, rfl, trivial⟩ (⟨by show i + 1 ≤ n; omega, c4_0, c8_2, ho9, (by rw [List.replicate_succ']; exact o42_9), fr_s42_9, ap_b4_0_s42_9, ap_b8_2_s42_9, ap_s34_6_s42_9, e0⟩) (by show n - (i + 1) < n - i; omega)
  · skip
    refine J.exit ?_
    refine J.x_then ?_
    refine J.x_then ?_
    refine J.x_block ?_
    refine J.n_then ?_
    refine J.seq ?_
    refine J.region ?_
    refine J.op (Yd.move rfl) rfl ?_
    have hw := Wr.new (TW := 34) (E := 5) w7.heap.size c8_2
    refine J.eff (Ye.call cl22 rfl (WList0_ok (n := n) hw (Nat.le_refl _) (fun w' ht => by have h9 := Rd.thb (Ow.rd ho10) ht (Ap.symm ap_b8_2_v10) (Ow.live ho10); rw [List.map_replicate, show i = n by omega] at h9; exact h9) (by rw [List.length_nil]; omega))) rfl ?_
    rintro _ w10 ⟨rfl, hw2, x1⟩
    have e0 := e0.th' (Thb.th x1 (fr_b8_2 _ rfl) e0.size)
    have c4_0 := Cel.thb c4_0 x1 (Cel.lt c4_0) (fun e => ap_b4_0_b8_2 _ rfl (by rw [e]))
    have ho9 := Ow.thb ho9 x1 (Ap.symm ap_b8_2_s34_6) (Ow.live ho9)
    have ho10 := Ow.thb ho10 x1 (Ap.symm ap_b8_2_v10) (Ow.live ho10)
    replace hw := hw2
    clear hw2 x1
    rw [List.nil_append] at hw
    refine J.eff (Ye.call cl16 rfl (WDone_ok hw (by have h9 := putN_len (UInt64.ofNat n); simp only [List.length_append, List.length_replicate, blkL_len]; omega))) rfl ?_
    rintro s45_11 w11 ⟨os45_11, x1⟩
    have ap_b4_0_s45_11 : Ap (some b4_0) s45_11.ownBlock := Ap.mk (Cel.live c4_0) (Ow.fr os45_11)
    have ap_s34_6_s45_11 : Ap s34_6.ownBlock s45_11.ownBlock := Ap.mk (Ow.live ho9) (Ow.fr os45_11)
    have ap_v10_s45_11 : Ap v10.ownBlock s45_11.ownBlock := Ap.mk (Ow.live ho10) (Ow.fr os45_11)
    have fr_s45_11 : Fr w.heap.size s45_11.ownBlock := Fr.le (Ow.fr os45_11) e0.size
    replace os45_11 := Ow.base os45_11 e0.size
    have e0 := e0.trans x1
    have c4_0 := c4_0.ext x1
    have ho9 := ho9.ext x1
    have ho10 := ho10.ext x1
    have hw := hw.ext x1
    clear x1
    refine J.op (Yd.assign rfl) rfl ?_
    refine J.nil ?_
    refine J.n_then ?_
    refine J.seq ?_
    refine J.seq ?_
    refine J.region ?_
    refine J.op (Yd.move rfl) rfl ?_
    refine J.op (Yd.move rfl) rfl ?_
    refine J.know (t := 47) (v' := .bool true) rfl (rfl) ?_
    refine J.op_g rfl rfl rfl (Yd.move rfl) rfl ?_
    refine J.op_g rfl rfl rfl (Yd.len_b Try.underlying32 rfl (Ow.rd ho9)) rfl ?_
    refine J.op_g rfl rfl rfl (Yd.gtr rfl rfl) rfl ?_
    refine J.op (Yd.pick_t rfl rfl) rfl ?_
    refine J.op (Yd.move rfl) rfl ?_
    refine J.know (t := 52) (v' := .bool false) rfl (ff (by simp only [List.length_append, List.length_replicate]; omega)) ?_
    refine J.not_g rfl rfl rfl rfl rfl ?_
    refine J.not_g rfl rfl rfl rfl rfl ?_
    refine J.not_g rfl rfl rfl rfl rfl ?_
    refine J.op (Yd.pick_f rfl rfl) rfl ?_
    refine J.nil ?_
    refine J.n_then ?_
    refine J.cond_false rfl ?_
    refine J.skip ?_
    refine J.n_then ?_
    refine J.seq ?_
    refine J.region ?_
    refine J.op (Yd.assign rfl) rfl ?_
    refine J.nil ?_
    refine J.n_then ?_
    refine J.seq ?_
    refine J.block ?_
    refine J.seq ?_
    refine J.region ?_
    refine J.op (Yd.move rfl) rfl ?_
    refine J.op (Yd.load pl3 rfl (Cel.cell1 c4_0 0 rfl)) rfl ?_
    refine J.op (Yd.gtr rfl rfl) rfl ?_
    refine J.op (Yd.assign rfl) rfl ?_
    refine J.nil ?_
    refine J.n_then ?_
    refine J.know (t := 67) (v' := .bool false) rfl (ff (by omega)) ?_
    refine J.cond_false rfl ?_
    refine J.seq ?_
    refine J.region ?_
    refine J.op (Yd.move rfl) rfl ?_
    refine J.op (Yd.assign rfl) rfl ?_
    refine J.nil ?_
    refine J.n_then ?_
    refine J.know (t := 71) (v' := .bool true) rfl (rfl) ?_
    refine J.cond_true rfl ?_
    refine J.region ?_
    refine J.op (Yd.assign rfl) rfl ?_
    refine J.nil ?_
    refine J.n_block ?_
    refine J.n_then ?_
    refine J.seq ?_
    refine J.seq ?_
    refine J.region ?_
    refine J.op (Yd.move rfl) rfl ?_
    refine J.op (Yd.eql rfl rfl) rfl ?_
    refine J.nil ?_
    refine J.n_then ?_
    refine J.know (t := 74) (v' := .bool true) rfl (tt (by omega)) ?_
    refine J.cond_true rfl ?_
    refine J.seq ?_
    refine J.region ?_
    refine J.eff (Ye.call cl7 rfl (Awake_ok)) rfl ?_
    rintro _ w12 ⟨rfl, x1⟩
    have e0 := e0.trans x1
    have c4_0 := c4_0.ext x1
    have ho9 := ho9.ext x1
    have ho10 := ho10.ext x1
    have hw := hw.ext x1
    have os45_11 := os45_11.ext x1
    clear x1
    refine J.op (Yd.assign rfl) rfl ?_
    refine J.nil ?_
    refine J.n_then ?_
    refine J.ret ?_
    refine J.r_then ?_
    exact J.ret1 rfl rfl (⟨_, rfl, rfl, e0⟩)

theorem LimOut {n m : Int} {o : Bool} {w : World} (hb : ¬ (0 ≤ n ∧ n ≤ 300 ∧ 0 ≤ m ∧ m ≤ 300)) : C Try.prog 6 [I n, I m, .bool o] w (Ret fun v w' => v = .bool true ∧ Ext w w') := by
  have e0 := Ext.refl w
  refine C.enter Try.func6 rfl Try.ntmps6 rfl ?_
  refine J.seq ?_
  refine J.region ?_
  refine J.eff (Ye.box (S := [(0, 1, [I m])]) rfl (by simp [SegAll, SegOK, Value.cells])) rfl ?_
  rintro _ w1 ⟨b4_0, rfl, hb_, c4_0, x1⟩
  have fr_b4_0 : Fr w.heap.size (some b4_0) := Fr.le (Fr.blk hb_) e0.size
  have e0 := e0.trans x1
  clear x1 hb_
  refine J.op (Yd.assign rfl) rfl ?_
  refine J.nil ?_
  refine J.n_then ?_
  refine J.seq ?_
  refine J.seq ?_
  refine J.region ?_
  refine J.op (Yd.move rfl) rfl ?_
  refine J.op (Yd.lss rfl rfl) rfl ?_
  refine J.op (Yd.move rfl) rfl ?_
  refine J.split_dec (t := 18) rfl (fun hg1 => ?_) (fun hg1 => ?_)
  · skip
    refine J.not_g rfl rfl rfl rfl rfl ?_
    refine J.not_g rfl rfl rfl rfl rfl ?_
    refine J.op (Yd.pick_t rfl rfl) rfl ?_
    refine J.op (Yd.move rfl) rfl ?_
    refine J.not_g rfl rfl rfl rfl rfl ?_
    refine J.not_g rfl rfl rfl rfl rfl ?_
    refine J.op (Yd.pick_t rfl rfl) rfl ?_
    refine J.op (Yd.move rfl) rfl ?_
    refine J.not_g rfl rfl rfl rfl rfl ?_
    refine J.not_g rfl rfl rfl rfl rfl ?_
    refine J.op (Yd.pick_t rfl rfl) rfl ?_
    refine J.nil ?_
    refine J.n_then ?_
    refine J.cond_true rfl ?_
    refine J.seq ?_
    refine J.region ?_
    refine J.eff (Ye.call cl7 rfl (Awake_ok)) rfl ?_
    rintro _ w2 ⟨rfl, x1⟩
    have e0 := e0.trans x1
    have c4_0 := c4_0.ext x1
    clear x1
    refine J.op (Yd.assign rfl) rfl ?_
    refine J.nil ?_
    refine J.n_then ?_
    refine J.ret ?_
    refine J.r_then ?_
    exact J.ret1 rfl rfl (⟨_, rfl, rfl, e0⟩)
  · skip
    refine J.op_g rfl rfl rfl (Yd.move rfl) rfl ?_
    refine J.op_g rfl rfl rfl (Yd.gtr rfl rfl) rfl ?_
    refine J.op (Yd.pick_f rfl rfl) rfl ?_
    refine J.op (Yd.move rfl) rfl ?_
    refine J.split_dec (t := 22) rfl (fun hg2 => ?_) (fun hg2 => ?_)
    · skip
      refine J.not_g rfl rfl rfl rfl rfl ?_
      refine J.not_g rfl rfl rfl rfl rfl ?_
      refine J.op (Yd.pick_t rfl rfl) rfl ?_
      refine J.op (Yd.move rfl) rfl ?_
      refine J.not_g rfl rfl rfl rfl rfl ?_
      refine J.not_g rfl rfl rfl rfl rfl ?_
      refine J.op (Yd.pick_t rfl rfl) rfl ?_
      refine J.nil ?_
      refine J.n_then ?_
      refine J.cond_true rfl ?_
      refine J.seq ?_
      refine J.region ?_
      refine J.eff (Ye.call cl7 rfl (Awake_ok)) rfl ?_
      rintro _ w3 ⟨rfl, x1⟩
      have e0 := e0.trans x1
      have c4_0 := c4_0.ext x1
      clear x1
      refine J.op (Yd.assign rfl) rfl ?_
      refine J.nil ?_
      refine J.n_then ?_
      refine J.ret ?_
      refine J.r_then ?_
      exact J.ret1 rfl rfl (⟨_, rfl, rfl, e0⟩)
    · skip
      refine J.op_g rfl rfl rfl (Yd.load pl3 rfl (Cel.cell1 c4_0 0 rfl)) rfl ?_
      refine J.op_g rfl rfl rfl (Yd.lss rfl rfl) rfl ?_
      refine J.op (Yd.pick_f rfl rfl) rfl ?_
      refine J.op (Yd.move rfl) rfl ?_
      refine J.split_dec (t := 26) rfl (fun hg3 => ?_) (fun hg3 => ?_)
      · skip
        refine J.not_g rfl rfl rfl rfl rfl ?_
        refine J.not_g rfl rfl rfl rfl rfl ?_
        refine J.op (Yd.pick_t rfl rfl) rfl ?_
        refine J.nil ?_
        refine J.n_then ?_
        refine J.cond_true rfl ?_
        refine J.seq ?_
        refine J.region ?_
        refine J.eff (Ye.call cl7 rfl (Awake_ok)) rfl ?_
        rintro _ w4 ⟨rfl, x1⟩
        have e0 := e0.trans x1
        have c4_0 := c4_0.ext x1
        clear x1
        refine J.op (Yd.assign rfl) rfl ?_
        refine J.nil ?_
        refine J.n_then ?_
        refine J.ret ?_
        refine J.r_then ?_
        exact J.ret1 rfl rfl (⟨_, rfl, rfl, e0⟩)
      · skip
        refine J.op_g rfl rfl rfl (Yd.load pl3 rfl (Cel.cell1 c4_0 0 rfl)) rfl ?_
        refine J.op_g rfl rfl rfl (Yd.gtr rfl rfl) rfl ?_
        refine J.op (Yd.pick_f rfl rfl) rfl ?_
        refine J.nil ?_
        refine J.n_then ?_
        refine J.know (t := 29) (v' := .bool true) rfl (tt (by omega)) ?_
        refine J.cond_true rfl ?_
        refine J.seq ?_
        refine J.region ?_
        refine J.eff (Ye.call cl7 rfl (Awake_ok)) rfl ?_
        rintro _ w5 ⟨rfl, x1⟩
        have e0 := e0.trans x1
        have c4_0 := c4_0.ext x1
        clear x1
        refine J.op (Yd.assign rfl) rfl ?_
        refine J.nil ?_
        refine J.n_then ?_
        refine J.ret ?_
        refine J.r_then ?_
        exact J.ret1 rfl rfl (⟨_, rfl, rfl, e0⟩)

theorem Limits_ok {n m : Int} {o : Bool} {w : World} : C Try.prog 6 [I n, I m, .bool o] w (Ret fun v w' => v = .bool true ∧ Ext w w') := by
  by_cases hb : 0 ≤ n ∧ n ≤ 300 ∧ 0 ≤ m ∧ m ≤ 300
  · obtain ⟨a, rfl⟩ := Int.eq_ofNat_of_zero_le hb.1
    by_cases h0 : a = 0
    · cases o
      · exact Lim0F (by omega) h0 (by omega)
      · exact Lim0T (by omega) h0 (by omega)
    · cases o
      · exact LimF (by omega) (by omega) (by omega)
      · exact LimT (by omega) (by omega) (by omega)
  · exact LimOut hb
end Ytphebleabcoakaa
end Go.Proofs
