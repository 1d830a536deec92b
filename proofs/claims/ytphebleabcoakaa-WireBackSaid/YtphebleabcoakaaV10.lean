import Derived.Test.YtphebleabcoakaaT
import Derived.Test.YtphebleabcoakaaV9
set_option linter.unusedVariables false
set_option linter.unusedSimpArgs false
set_option maxRecDepth 100000
set_option maxHeartbeats 4000000
namespace Go.Proofs
open Go.X Go.RowKit
namespace Ytphebleabcoakaa
theorem Back_ok {s : Value} {es : List X.Item} {w : World} (hr : Er itS w s es) (hq : ∀ u ∈ es, itQ w u) : C Try.prog 5 [s] w (Ret fun v w' => v = .bool true ∧ Ext w w') := by
  have hmx := hr.max
  have hcS := Er.cells hr
  have e0 := Ext.refl w
  refine C.enter Try.func5 rfl Try.ntmps5 rfl ?_
  refine J.seq ?_
  refine J.region ?_
  refine J.eff (Ye.box (S := [(0, 1, [s])]) rfl (by simp [SegAll, SegOK, hcS])) rfl ?_
  rintro _ w1 ⟨b1_0, rfl, hb_, c1_0, x1⟩
  have fr_b1_0 : Fr w.heap.size (some b1_0) := Fr.le (Fr.blk hb_) e0.size
  have e0 := e0.trans x1
  clear x1 hb_
  refine J.op (Yd.assign rfl) rfl ?_
  refine J.nil ?_
  refine J.n_then ?_
  refine J.seq ?_
  refine J.seq ?_
  refine J.region ?_
  refine J.op (Yd.load pl30 rfl (Cel.cell1 c1_0 0 rfl)) rfl ?_
  refine J.eff (Ye.call cl13 rfl (Small_ok (hr.ext e0) (fun u hu => (hq u hu).ext e0))) rfl ?_
  rintro _ w2 ⟨t1, rfl, hsm, x1⟩
  have e0 := e0.trans x1
  have c1_0 := c1_0.ext x1
  clear x1
  refine J.op (Yd.not rfl) rfl ?_
  refine J.nil ?_
  refine J.n_then ?_
  refine J.cond rfl (fun hc0 => ?_) (fun hc0 => ?_)
  · skip
    refine J.seq ?_
    refine J.region ?_
    refine J.eff (Ye.call cl7 rfl (Awake_ok)) rfl ?_
    rintro _ w3 ⟨rfl, x1⟩
    have e0 := e0.trans x1
    have c1_0 := c1_0.ext x1
    clear x1
    refine J.op (Yd.assign rfl) rfl ?_
    refine J.nil ?_
    refine J.n_then ?_
    refine J.ret ?_
    refine J.r_then ?_
    exact J.ret1 rfl rfl (⟨_, rfl, rfl, e0⟩)
  · skip
    have hsm2 := hsm (by simpa using hc0)
    refine J.skip ?_
    refine J.n_then ?_
    refine J.seq ?_
    refine J.region ?_
    refine J.eff (Ye.alloc ti34 (S := [(0, 1, [.slice none 0 0])]) (by simp [SegAll, SegOK, Value.cells])) rfl ?_
    rintro _ w4 ⟨b3_3, rfl, hb_, c3_3, x1⟩
    have ap_b1_0_b3_3 : Ap (some b1_0) (some b3_3) := Ap.mk (Cel.live c1_0) (Fr.blk hb_)
    have fr_b3_3 : Fr w.heap.size (some b3_3) := Fr.le (Fr.blk hb_) e0.size
    have e0 := e0.trans x1
    have c1_0 := c1_0.ext x1
    clear x1 hb_
    refine J.nil ?_
    refine J.n_then ?_
    refine J.seq ?_
    refine J.seq ?_
    refine J.region ?_
    refine J.op (Yd.assign rfl) rfl ?_
    refine J.nil ?_
    refine J.n_then ?_
    refine J.block ?_
    refine J.loop (ι := Nat × Value) (fun i => [(0, s), (4, I (i.1 : Int)), (1, .pointer (some ⟨b1_0, 0, none⟩)), (3, .pointer (some ⟨b3_3, 0, none⟩))]) (fun i w' => i.1 ≤ es.length ∧ Cel w' b1_0 30 [(0, 1, [s])] ∧ Cel w' b3_3 34 [(0, 1, [i.2])] ∧ Ob 0 5 w' i.2 ((es.take i.1).flatMap wF) ∧ Fr w.heap.size (i.2).ownBlock ∧ Ap (some b1_0) (i.2).ownBlock ∧ Ap (some b3_3) (i.2).ownBlock ∧ Ext w w') (fun i => es.length - i.1) ((0, nilS)) ⟨rfl, rfl, rfl, rfl, trivial⟩ (⟨Nat.zero_le _, c1_0, c3_3, (Ow.nil _ _ _), Fr.nil, Ap.nil_r, Ap.nil_r, e0⟩) ?_
    rintro ⟨i, s3⟩ w5 ⟨hk, c1_0, c3_3, os3, fr_s3, ap_b1_0_s3, ap_b3_3_s3, e0⟩
    dsimp only at *
    have hwl := wFs_len (es.take i)
    have hwk := wts_le es i
    refine J.seq ?_
    refine J.seq ?_
    refine J.region ?_
    refine J.op (Yd.move rfl) rfl ?_
    refine J.op (Yd.load pl30 rfl (Cel.cell1 c1_0 0 rfl)) rfl ?_
    refine J.op (Yd.lenE (K := itS) Try.underlying30 rfl (Er.ext hr e0)) rfl ?_
    refine J.op (Yd.lss rfl rfl) rfl ?_
    refine J.nil ?_
    refine J.n_then ?_
    refine J.cond_dec rfl (fun hc1 => ?_) (fun hc1 => ?_)
    · skip
      have hwt := wts_take (es := es) (i := i) (by omega)
      have hwk1 := wts_le es (i + 1)
      have hwt2 := wF_len (es.getD i itD)
      refine J.skip ?_
      refine J.n_then ?_
      refine J.seq ?_
      refine J.block ?_
      refine J.region ?_
      refine J.op (Yd.load pl30 rfl (Cel.cell1 c1_0 0 rfl)) rfl ?_
      refine J.op (Yd.move rfl) rfl ?_
      refine J.op (Yd.idxE (K := itS) Try.underlying30 ti40 rfl rfl (Er.ext hr e0) (by first | omega | exact idx_u8' _ | (simp only [Int.toNat_natCast]; omega) | (simp only [List.length_map, List.length_drop, List.length_take, List.length_append, List.length_replicate]; omega) | (simp <;> omega))) rfl ?_
      refine J.op (Yd.loadEd (K := itS) itD ag40 ti40 rfl (Er.ext hr e0) (by first | omega | exact idx_u8' _ | (simp only [Int.toNat_natCast]; omega) | (simp only [List.length_map, List.length_drop, List.length_take, List.length_append, List.length_replicate]; omega) | (simp <;> omega))) rfl ?_
      refine J.eff (Ye.call cl14 rfl (Write_raw c3_3 os3 ap_b3_3_s3 (fun w' ht => (hq _ (it_mem (show (i : Int).toNat < es.length by omega))).ext (e0.tnk (fun q hq => by simp only [List.mem_cons, List.mem_nil_iff, or_false] at hq; rcases hq with rfl | rfl; exact fr_b3_3; exact fr_s3) ht)) (by rw [Int.toNat_natCast]; omega))) rfl ?_
      rintro _ w6 ⟨rfl, s7_23, hc7, hos7_23, hsf, hap7, x1⟩
      have ap_b1_0_s7_23 : Ap (some b1_0) s7_23.ownBlock := Ap.sf ap_b1_0_s3 (Cel.live c1_0) hsf
      have ap_b3_3_s7_23 : Ap (some b3_3) s7_23.ownBlock := Ap.sf ap_b3_3_s3 (Cel.live c3_3) hsf
      have fr_s7_23 : Fr w.heap.size s7_23.ownBlock := Fr.sf fr_s3 hsf e0.size
      have ap_b3_3_s7_23 := hap7
      have c1_0 := Cel.tnk c1_0 x1 (ApL.two ap_b1_0_b3_3 ap_b1_0_s3)
      have e0 := Ext.tnk e0 (fun q hq => by simp only [List.mem_cons, List.mem_nil_iff, or_false] at hq; rcases hq with rfl | rfl; exact fr_b3_3; exact fr_s3) x1
      clear x1 hsf hap7
      replace c3_3 := hc7
      clear hc7
      refine J.nil ?_
      refine J.n_block ?_
      refine J.n_then ?_
      refine J.region ?_
      refine J.op (Yd.move rfl) rfl ?_
      refine J.op (Yd.add rfl rfl (by first | omega | exact idx_u8' _ | (simp only [Int.toNat_natCast]; omega) | (simp only [List.length_map, List.length_drop, List.length_take, List.length_append, List.length_replicate]; omega) | (simp <;> omega))) rfl ?_
      refine J.op (Yd.assign rfl) rfl ?_
      refine J.nil ?_
      refine J.n_then ?_
      exact J.round ((i + 1, s7_23)) ⟨rfl, rfl, rfl, rfl, trivial⟩ (⟨by show i + 1 ≤ es.length; omega, c1_0, c3_3, (by rw [wF_take (by omega)]; have h9 := hos7_23; rw [Int.toNat_natCast] at h9; exact h9), fr_s7_23, ap_b1_0_s7_23, ap_b3_3_s7_23, e0⟩) (by show es.length - (i + 1) < es.length - i; omega)
    · skip
      refine J.exit ?_
      refine J.x_then ?_
      refine J.x_then ?_
      refine J.x_block ?_
      refine J.n_then ?_
      refine J.seq ?_
      refine J.region ?_
      refine J.eff (Ye.call cl16 rfl (WDone_raw c3_3 (Ow.rd os3) (by omega))) rfl ?_
      rintro s24_7 w7 ⟨os24_7, x1⟩
      have ap_b1_0_s24_7 : Ap (some b1_0) s24_7.ownBlock := Ap.mk (Cel.live c1_0) (Ow.fr os24_7)
      have ap_b3_3_s24_7 : Ap (some b3_3) s24_7.ownBlock := Ap.mk (Cel.live c3_3) (Ow.fr os24_7)
      have ap_s3_s24_7 : Ap s3.ownBlock s24_7.ownBlock := Ap.mk (Ow.live os3) (Ow.fr os24_7)
      have fr_s24_7 : Fr w.heap.size s24_7.ownBlock := Fr.le (Ow.fr os24_7) e0.size
      replace os24_7 := Ow.base os24_7 e0.size
      have e0 := e0.trans x1
      have c1_0 := c1_0.ext x1
      have c3_3 := c3_3.ext x1
      have os3 := os3.ext x1
      clear x1
      refine J.op (Yd.assign rfl) rfl ?_
      refine J.nil ?_
      refine J.n_then ?_
      refine J.seq ?_
      refine J.region ?_
      refine J.eff (Ye.alloc ti4 (S := [(0, 1, [.bool false])]) (by simp [SegAll, SegOK, Value.cells])) rfl ?_
      rintro _ w8 ⟨b6_7, rfl, hb_, c6_7, x1⟩
      have ap_b1_0_b6_7 : Ap (some b1_0) (some b6_7) := Ap.mk (Cel.live c1_0) (Fr.blk hb_)
      have ap_b3_3_b6_7 : Ap (some b3_3) (some b6_7) := Ap.mk (Cel.live c3_3) (Fr.blk hb_)
      have ap_s3_b6_7 : Ap s3.ownBlock (some b6_7) := Ap.mk (Ow.live os3) (Fr.blk hb_)
      have ap_s24_7_b6_7 : Ap s24_7.ownBlock (some b6_7) := Ap.mk (Ow.live os24_7) (Fr.blk hb_)
      have fr_b6_7 : Fr w.heap.size (some b6_7) := Fr.le (Fr.blk hb_) e0.size
      have e0 := e0.trans x1
      have c1_0 := c1_0.ext x1
      have c3_3 := c3_3.ext x1
      have os3 := os3.ext x1
      have os24_7 := os24_7.ext x1
      clear x1 hb_
      refine J.eff0 (Ye.store1 ti4 c6_7 0 rfl rfl rfl rfl rfl rfl) ?_
      rintro _ w9 ⟨cX, hu⟩
      simp only [List.set_cons_zero, List.set_cons_succ] at cX
      have hg := hu.gb
      have c1_0 := Cel.gbk c1_0 hg ap_b1_0_b6_7
      have c3_3 := Cel.gbk c3_3 hg ap_b3_3_b6_7
      have os3 := Ow.gbk os3 hg ap_s3_b6_7
      have os24_7 := Ow.gbk os24_7 hg ap_s24_7_b6_7
      have e0 := Ext.gbk e0 fr_b6_7 hg
      clear hg
      replace c6_7 := cX
      clear cX hu
      refine J.nil ?_
      refine J.n_then ?_
      refine J.seq ?_
      refine J.region ?_
      refine J.op (Yd.move rfl) rfl ?_
      refine J.op (Yd.mkFuncC rfl rfl) rfl ?_
      refine J.eff (Ye.call cl11 rfl (Read_ret (f := 17) (fst := #[]) (cap := #[.pointer (some ⟨b1_0, 0, none⟩), .pointer (some ⟨b6_7, 0, none⟩)]) (rs := [some b6_7]) (l := (es.flatMap wF)) (Φ := fun w' l2 => l2 = [] ∧ Cel w' b6_7 4 [(0, 1, [.bool true])]) cl17 (LoL.one (Cel.live c6_7)) (show Bs _ _ (es.flatMap wF) from by have h8 := (Ow.rd os24_7); rw [show i = es.length by omega, List.take_length] at h8; exact h8) (show ((es.flatMap wF)).length ≤ 1000000000 by have h9 := wFs_len es; omega) (fun w1 be br hx hbe hlt hrd => by have hX : ∀ w', Tn [some br, some b6_7] w1 w' → Ext w w' := fun w' ht => (e0.trans hx).tnk (fun q hq => by simp only [List.mem_cons, List.mem_nil_iff, or_false] at hq; rcases hq with rfl | rfl; exact Fr.blk (Nat.le_trans e0.size (Nat.le_trans hbe (Nat.le_of_lt hlt))); exact fr_b6_7) ht; exact (Back1_ok hrd (c1_0.ext hx) (c6_7.ext hx) (Ap.mk (Cel.live c1_0) (Fr.blk (Nat.le_trans hbe (Nat.le_of_lt hlt)))) ap_b1_0_b6_7 (Ap.mk (Cel.live c6_7) (Fr.blk (Nat.le_trans hbe (Nat.le_of_lt hlt)))) (Lo.out (Cel.live c6_7)) (fun w' ht => hr.ext (hX w' ht)) (fun w' ht u hu => (hq u hu).ext (hX w' ht)) hsm2).ret fun _ w2 h => ⟨[], h.2.1, h.2.2, fun w3 ht => ⟨rfl, h.1.tnk ht (ApL.one (Ap.mk (Cel.live c6_7) (Fr.blk hbe)))⟩⟩))) rfl ?_
      rintro _ w10 ⟨l2, rfl, x1, rfl, h6'⟩
      have c1_0 := Cel.tnk c1_0 x1 (ApL.one ap_b1_0_b6_7)
      have c3_3 := Cel.tnk c3_3 x1 (ApL.one ap_b3_3_b6_7)
      have os3 := Ow.tnk os3 x1 (ApL.one ap_s3_b6_7)
      have os24_7 := Ow.tnk os24_7 x1 (ApL.one ap_s24_7_b6_7)
      have e0 := Ext.tnk e0 (fun q hq => by simp only [List.mem_singleton] at hq; subst hq; exact fr_b6_7) x1
      clear x1
      replace c6_7 := h6'
      clear h6'
      refine J.op (Yd.assign rfl) rfl ?_
      refine J.nil ?_
      refine J.n_then ?_
      refine J.seq ?_
      refine J.region ?_
      refine J.eff (Ye.lit0 (base := w10.heap.size) (f := (fun x : UInt8 => B x)) Try.underlying32 ti5 rfl (Nat.le_refl _)) rfl ?_
      rintro s28_11 w11 ⟨o28_11, x1⟩
      have ap_b1_0_s28_11 : Ap (some b1_0) s28_11.ownBlock := Ap.mk (Cel.live c1_0) (Ow.fr o28_11)
      have ap_b3_3_s28_11 : Ap (some b3_3) s28_11.ownBlock := Ap.mk (Cel.live c3_3) (Ow.fr o28_11)
      have ap_s3_s28_11 : Ap s3.ownBlock s28_11.ownBlock := Ap.mk (Ow.live os3) (Ow.fr o28_11)
      have ap_s24_7_s28_11 : Ap s24_7.ownBlock s28_11.ownBlock := Ap.mk (Ow.live os24_7) (Ow.fr o28_11)
      have ap_b6_7_s28_11 : Ap (some b6_7) s28_11.ownBlock := Ap.mk (Cel.live c6_7) (Ow.fr o28_11)
      have fr_s28_11 : Fr w.heap.size s28_11.ownBlock := Fr.le (Ow.fr o28_11) e0.size
      replace o28_11 := Ow.base o28_11 e0.size
      have e0 := e0.trans x1
      have c1_0 := c1_0.ext x1
      have c3_3 := c3_3.ext x1
      have os3 := os3.ext x1
      have os24_7 := os24_7.ext x1
      have c6_7 := c6_7.ext x1
      clear x1
      refine J.op (Yd.move rfl) rfl ?_
      refine J.eff (Ye.appendS Try.underlying32 ti5 rfl rfl rfl rfl o28_11 (Ow.rd os24_7) (fun _ => rfl) (by simp only [List.length_append, List.length_nil, List.length_singleton, Int.toNat_natCast]; omega) e0.size) rfl ?_
      rintro s30_12 w12 ⟨o30_12, hg, hsf⟩
      have ap_b1_0_s30_12 : Ap (some b1_0) s30_12.ownBlock := Ap.sf ap_b1_0_s28_11 (Cel.live c1_0) hsf
      have ap_b3_3_s30_12 : Ap (some b3_3) s30_12.ownBlock := Ap.sf ap_b3_3_s28_11 (Cel.live c3_3) hsf
      have ap_s3_s30_12 : Ap s3.ownBlock s30_12.ownBlock := Ap.sf ap_s3_s28_11 (Ow.live os3) hsf
      have ap_s24_7_s30_12 : Ap s24_7.ownBlock s30_12.ownBlock := Ap.sf ap_s24_7_s28_11 (Ow.live os24_7) hsf
      have ap_b6_7_s30_12 : Ap (some b6_7) s30_12.ownBlock := Ap.sf ap_b6_7_s28_11 (Cel.live c6_7) hsf
      have fr_s30_12 : Fr w.heap.size s30_12.ownBlock := Fr.sf fr_s28_11 hsf e0.size
      have c1_0 := Cel.gbk c1_0 hg ap_b1_0_s28_11
      have c3_3 := Cel.gbk c3_3 hg ap_b3_3_s28_11
      have os3 := Ow.gbk os3 hg ap_s3_s28_11
      have os24_7 := Ow.gbk os24_7 hg ap_s24_7_s28_11
      have c6_7 := Cel.gbk c6_7 hg ap_b6_7_s28_11
      have e0 := Ext.gbk e0 fr_s28_11 hg
      clear hg hsf
      rw [List.nil_append] at o30_12
      refine J.eff (Ye.litM (base := w12.heap.size) (f := fun x : UInt8 => B x) ([0] : List UInt8) Try.underlying32 ti5 rfl rfl rfl rfl (fun _ => rfl) rfl (Nat.le_refl _)) rfl ?_
      rintro s31_13 w13 ⟨o31_13, x1⟩
      have ap_b1_0_s31_13 : Ap (some b1_0) s31_13.ownBlock := Ap.mk (Cel.live c1_0) (Ow.fr o31_13)
      have ap_b3_3_s31_13 : Ap (some b3_3) s31_13.ownBlock := Ap.mk (Cel.live c3_3) (Ow.fr o31_13)
      have ap_s3_s31_13 : Ap s3.ownBlock s31_13.ownBlock := Ap.mk (Ow.live os3) (Ow.fr o31_13)
      have ap_s24_7_s31_13 : Ap s24_7.ownBlock s31_13.ownBlock := Ap.mk (Ow.live os24_7) (Ow.fr o31_13)
      have ap_b6_7_s31_13 : Ap (some b6_7) s31_13.ownBlock := Ap.mk (Cel.live c6_7) (Ow.fr o31_13)
      have ap_s30_12_s31_13 : Ap s30_12.ownBlock s31_13.ownBlock := Ap.mk (Ow.live o30_12) (Ow.fr o31_13)
      have fr_s31_13 : Fr w.heap.size s31_13.ownBlock := Fr.le (Ow.fr o31_13) e0.size
      replace o31_13 := Ow.base o31_13 e0.size
      have e0 := e0.trans x1
      have c1_0 := c1_0.ext x1
      have c3_3 := c3_3.ext x1
      have os3 := os3.ext x1
      have os24_7 := os24_7.ext x1
      have c6_7 := c6_7.ext x1
      have o30_12 := o30_12.ext x1
      clear x1
      refine J.eff (Ye.appendS Try.underlying32 ti5 rfl rfl rfl rfl o30_12 (Ow.rd o31_13) (fun _ => rfl) (by simp only [List.length_append, List.length_nil, List.length_singleton, Int.toNat_natCast]; omega) e0.size) rfl ?_
      rintro s32_14 w14 ⟨o32_14, hg, hsf⟩
      have ap_b1_0_s32_14 : Ap (some b1_0) s32_14.ownBlock := Ap.sf ap_b1_0_s30_12 (Cel.live c1_0) hsf
      have ap_b3_3_s32_14 : Ap (some b3_3) s32_14.ownBlock := Ap.sf ap_b3_3_s30_12 (Cel.live c3_3) hsf
      have ap_s3_s32_14 : Ap s3.ownBlock s32_14.ownBlock := Ap.sf ap_s3_s30_12 (Ow.live os3) hsf
      have ap_s24_7_s32_14 : Ap s24_7.ownBlock s32_14.ownBlock := Ap.sf ap_s24_7_s30_12 (Ow.live os24_7) hsf
      have ap_b6_7_s32_14 : Ap (some b6_7) s32_14.ownBlock := Ap.sf ap_b6_7_s30_12 (Cel.live c6_7) hsf
      have ap_s31_13_s32_14 : Ap s31_13.ownBlock s32_14.ownBlock := Ap.sf (Ap.symm ap_s30_12_s31_13) (Ow.live o31_13) hsf
      have fr_s32_14 : Fr w.heap.size s32_14.ownBlock := Fr.sf fr_s30_12 hsf e0.size
      have c1_0 := Cel.gbk c1_0 hg ap_b1_0_s30_12
      have c3_3 := Cel.gbk c3_3 hg ap_b3_3_s30_12
      have os3 := Ow.gbk os3 hg ap_s3_s30_12
      have os24_7 := Ow.gbk os24_7 hg ap_s24_7_s30_12
      have c6_7 := Cel.gbk c6_7 hg ap_b6_7_s30_12
      have o31_13 := Ow.gbk o31_13 hg (Ap.symm ap_s30_12_s31_13)
      have e0 := Ext.gbk e0 fr_s30_12 hg
      clear hg hsf
      refine J.op (Yd.mkFuncC rfl rfl) rfl ?_
      refine J.eff (Ye.call cl11 rfl (Read_ret (f := 19) (fst := #[]) (cap := #[.pointer (some ⟨b1_0, 0, none⟩)]) (rs := []) (l := (es.flatMap wF ++ [0])) (Φ := fun _ l2 => l2 = [0]) cl19 LoL.nil (show Bs _ _ (es.flatMap wF ++ [0]) from by have h8 := (Ow.rd o32_14); rw [show i = es.length by omega, List.take_length] at h8; exact h8) (show ((es.flatMap wF ++ [0])).length ≤ 1000000000 by have h9 := wFs_len es; simp only [List.length_append, List.length_singleton]; omega) (fun w1 be br hx hbe hlt hrd => by have hX : ∀ w', Tn [some br] w1 w' → Ext w w' := fun w' ht => (e0.trans hx).tnk (fun q hq => by simp only [List.mem_singleton] at hq; subst hq; exact Fr.blk (Nat.le_trans e0.size (Nat.le_trans hbe (Nat.le_of_lt hlt)))) ht; exact (Back2_ok hrd (c1_0.ext hx) (Ap.mk (Cel.live c1_0) (Fr.blk (Nat.le_trans hbe (Nat.le_of_lt hlt)))) (fun w' ht => hr.ext (hX w' ht)) (fun w' ht u hu => (hq u hu).ext (hX w' ht)) hsm2 (by decide)).ret fun _ w2 h => ⟨[0], h.1, h.2, fun w3 ht => rfl⟩))) rfl ?_
      rintro _ w15 ⟨l2, rfl, x1, rfl⟩
      have x1 := Tn.nil x1
      have e0 := e0.trans x1
      have c1_0 := c1_0.ext x1
      have c3_3 := c3_3.ext x1
      have os3 := os3.ext x1
      have os24_7 := os24_7.ext x1
      have c6_7 := c6_7.ext x1
      have o31_13 := o31_13.ext x1
      have o32_14 := o32_14.ext x1
      clear x1
      refine J.op (Yd.assign rfl) rfl ?_
      refine J.nil ?_
      refine J.n_then ?_
      refine J.seq ?_
      refine J.region ?_
      refine J.op (Yd.move rfl) rfl ?_
      refine J.op (Yd.eql rfl rfl) rfl ?_
      refine J.op (Yd.move rfl) rfl ?_
      refine J.know (t := 37) (v' := .bool true) rfl (tt (by rfl)) ?_
      refine J.op_g rfl rfl rfl (Yd.load pl4 rfl (Cel.cell1 c6_7 0 rfl)) rfl ?_
      refine J.op (Yd.pick_t rfl rfl) rfl ?_
      refine J.op (Yd.move rfl) rfl ?_
      refine J.op_g rfl rfl rfl (Yd.move rfl) rfl ?_
      refine J.op_g rfl rfl rfl (Yd.eql rfl rfl) rfl ?_
      refine J.op (Yd.pick_t rfl rfl) rfl ?_
      refine J.op (Yd.move rfl) rfl ?_
      refine J.know (t := 44) (v' := .bool true) rfl (tt (by rfl)) ?_
      refine J.eff_g rfl rfl rfl (Ye.call cl7 rfl (Awake_ok)) rfl ?_
      rintro _ w16 ⟨rfl, x1⟩
      have e0 := e0.trans x1
      have c1_0 := c1_0.ext x1
      have c3_3 := c3_3.ext x1
      have os3 := os3.ext x1
      have os24_7 := os24_7.ext x1
      have c6_7 := c6_7.ext x1
      have o31_13 := o31_13.ext x1
      have o32_14 := o32_14.ext x1
      clear x1
      refine J.op (Yd.pick_t rfl rfl) rfl ?_
      refine J.op (Yd.assign rfl) rfl ?_
      refine J.nil ?_
      refine J.n_then ?_
      refine J.ret ?_
      exact J.ret1 rfl rfl (⟨_, rfl, rfl, e0⟩)
end Ytphebleabcoakaa
end Go.Proofs
