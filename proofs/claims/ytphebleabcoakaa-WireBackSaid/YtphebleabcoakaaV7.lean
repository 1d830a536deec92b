import Derived.Test.YtphebleabcoakaaT
import Derived.Test.YtphebleabcoakaaV6
set_option linter.unusedVariables false
set_option linter.unusedSimpArgs false
set_option maxRecDepth 100000
set_option maxHeartbeats 4000000
namespace Go.Proofs
open Go.X Go.RowKit
namespace Ytphebleabcoakaa
theorem Writes_ok {s : Value} {es : List X.Item} {w : World} (hr : Er itS w s es) (hq : ∀ u ∈ es, itQ w u) : C Try.prog 4 [s] w (Ret fun v w' => v = .bool true ∧ Ext w w') := by
  have hmx := hr.max
  have e0 := Ext.refl w
  refine C.enter Try.func4 rfl Try.ntmps4 rfl ?_
  refine J.seq ?_
  refine J.region ?_
  refine J.op (Yd.assign rfl) rfl ?_
  refine J.nil ?_
  refine J.n_then ?_
  refine J.seq ?_
  refine J.seq ?_
  refine J.region ?_
  refine J.op (Yd.move rfl) rfl ?_
  refine J.eff (Ye.call cl13 rfl (Small_ok (hr.ext e0) (fun u hu => (hq u hu).ext e0))) rfl ?_
  rintro _ w1 ⟨t1, rfl, hsm, x1⟩
  have e0 := e0.trans x1
  clear x1
  refine J.op (Yd.not rfl) rfl ?_
  refine J.nil ?_
  refine J.n_then ?_
  refine J.cond rfl (fun hc0 => ?_) (fun hc0 => ?_)
  · skip
    refine J.seq ?_
    refine J.region ?_
    refine J.eff (Ye.call cl7 rfl (Awake_ok)) rfl ?_
    rintro _ w2 ⟨rfl, x1⟩
    have e0 := e0.trans x1
    clear x1
    refine J.op (Yd.assign rfl) rfl ?_
    refine J.nil ?_
    refine J.n_then ?_
    refine J.ret ?_
    refine J.r_then ?_
    exact J.ret1 rfl rfl (⟨_, rfl, rfl, e0⟩)
  · skip
    have hsm2 := hsm (by simpa using hc0)
    refine J.skip ?_
    refine J.n_then ?_
    refine J.seq ?_
    refine J.region ?_
    refine J.eff (Ye.alloc ti34 (S := [(0, 1, [.slice none 0 0])]) (by simp [SegAll, SegOK, Value.cells])) rfl ?_
    rintro _ w3 ⟨b3_2, rfl, hb_, c3_2, x1⟩
    have fr_b3_2 : Fr w.heap.size (some b3_2) := Fr.le (Fr.blk hb_) e0.size
    have e0 := e0.trans x1
    clear x1 hb_
    refine J.nil ?_
    refine J.n_then ?_
    refine J.seq ?_
    refine J.region ?_
    refine J.op (Yd.assign rfl) rfl ?_
    refine J.nil ?_
    refine J.n_then ?_
    refine J.seq ?_
    refine J.region ?_
    refine J.op (Yd.assign rfl) rfl ?_
    refine J.nil ?_
    refine J.n_then ?_
    refine J.seq ?_
    refine J.seq ?_
    refine J.region ?_
    refine J.op (Yd.assign rfl) rfl ?_
    refine J.nil ?_
    refine J.n_then ?_
    refine J.block ?_
    refine J.loop (ι := Nat × Value × Value) (fun i => [(0, s), (4, .pointer none), (6, I (i.1 : Int)), (3, .pointer (some ⟨b3_2, 0, none⟩)), (5, i.2.2)]) (fun i w' => i.1 ≤ es.length ∧ Cel w' b3_2 34 [(0, 1, [i.2.1])] ∧ Ob 0 5 w' i.2.1 ((es.take i.1).flatMap wF) ∧ Ob w.heap.size 5 w' i.2.2 ((es.take i.1).flatMap wF) ∧ Fr w.heap.size (i.2.1).ownBlock ∧ Ap (some b3_2) (i.2.1).ownBlock ∧ Fr w.heap.size (i.2.2).ownBlock ∧ Ap (some b3_2) (i.2.2).ownBlock ∧ Ap (i.2.1).ownBlock (i.2.2).ownBlock ∧ Ext w w') (fun i => es.length - i.1) ((0, nilS, nilS)) ⟨rfl, rfl, rfl, rfl, rfl, trivial⟩ (⟨Nat.zero_le _, c3_2, (Ow.nil _ _ _), (Ow.nil _ _ _), Fr.nil, Ap.nil_r, Fr.nil, Ap.nil_r, Ap.nil_l, e0⟩) ?_
    rintro ⟨i, s3, v5⟩ w4 ⟨hk, c3_2, os3, ho5, fr_s3, ap_b3_2_s3, fr_v5, ap_b3_2_v5, ap_s3_v5, e0⟩
    dsimp only at *
    have hwl := wFs_len (es.take i)
    have hwk := wts_le es i
    refine J.seq ?_
    refine J.seq ?_
    refine J.region ?_
    refine J.op (Yd.move rfl) rfl ?_
    refine J.op (Yd.move rfl) rfl ?_
    refine J.op (Yd.lenE (K := itS) Try.underlying30 rfl (Er.ext hr e0)) rfl ?_
    refine J.op (Yd.lss rfl rfl) rfl ?_
    refine J.nil ?_
    refine J.n_then ?_
    refine J.cond_dec rfl (fun hc1 => ?_) (fun hc1 => ?_)
    · skip
      have hwt := wts_take (es := es) (i := i) (by omega)
      have hwk1 := wts_le es (i + 1)
      have hwt2 := wF_len (es.getD i itD)
      refine J.skip ?_
      refine J.n_then ?_
      refine J.seq ?_
      refine J.block ?_
      refine J.seq ?_
      refine J.seq ?_
      refine J.region ?_
      refine J.op (Yd.move rfl) rfl ?_
      refine J.op (Yd.move rfl) rfl ?_
      refine J.op (Yd.idxE (K := itS) Try.underlying30 ti40 rfl rfl (Er.ext hr e0) (by first | omega | exact idx_u8' _ | (simp only [Int.toNat_natCast]; omega) | (simp only [List.length_map, List.length_drop, List.length_take, List.length_append, List.length_replicate]; omega) | (simp <;> omega))) rfl ?_
      refine J.op (Yd.loadEd (K := itS) itD ag40 ti40 rfl (Er.ext hr e0) (by first | omega | exact idx_u8' _ | (simp only [Int.toNat_natCast]; omega) | (simp only [List.length_map, List.length_drop, List.length_take, List.length_append, List.length_replicate]; omega) | (simp <;> omega))) rfl ?_
      refine J.eff (Ye.call cl14 rfl (Write_raw c3_2 os3 ap_b3_2_s3 (fun w' ht => (hq _ (it_mem (show (i : Int).toNat < es.length by omega))).ext (e0.tnk (fun q hq => by simp only [List.mem_cons, List.mem_nil_iff, or_false] at hq; rcases hq with rfl | rfl; exact fr_b3_2; exact fr_s3) ht)) (by rw [Int.toNat_natCast]; omega))) rfl ?_
      rintro _ w5 ⟨rfl, s7_21, hc7, hos7_21, hsf, hap7, x1⟩
      have ap_b3_2_s7_21 : Ap (some b3_2) s7_21.ownBlock := Ap.sf ap_b3_2_s3 (Cel.live c3_2) hsf
      have ap_v5_s7_21 : Ap v5.ownBlock s7_21.ownBlock := Ap.sf (Ap.symm ap_s3_v5) (Ow.live ho5) hsf
      have fr_s7_21 : Fr w.heap.size s7_21.ownBlock := Fr.sf fr_s3 hsf e0.size
      have ap_b3_2_s7_21 := hap7
      have ho5 := Ow.tnk ho5 x1 (ApL.two (Ap.symm ap_b3_2_v5) (Ap.symm ap_s3_v5))
      have e0 := Ext.tnk e0 (fun q hq => by simp only [List.mem_cons, List.mem_nil_iff, or_false] at hq; rcases hq with rfl | rfl; exact fr_b3_2; exact fr_s3) x1
      clear x1 hsf hap7
      replace c3_2 := hc7
      clear hc7
      refine J.op (Yd.nePS Try.underlying35 ti34 rfl rfl) rfl ?_
      refine J.op (Yd.move rfl) rfl ?_
      refine J.op_g rfl rfl rfl (Yd.move rfl) rfl ?_
      refine J.op_g rfl rfl rfl (Yd.move rfl) rfl ?_
      refine J.op_g rfl rfl rfl (Yd.move rfl) rfl ?_
      refine J.op_g rfl rfl rfl (Yd.idxE (K := itS) Try.underlying30 ti40 rfl rfl (Er.ext hr e0) (by first | omega | exact idx_u8' _ | (simp only [Int.toNat_natCast]; omega) | (simp only [List.length_map, List.length_drop, List.length_take, List.length_append, List.length_replicate]; omega) | (simp <;> omega))) rfl ?_
      refine J.op_g rfl rfl rfl (Yd.loadEd (K := itS) itD ag40 ti40 rfl (Er.ext hr e0) (by first | omega | exact idx_u8' _ | (simp only [Int.toNat_natCast]; omega) | (simp only [List.length_map, List.length_drop, List.length_take, List.length_append, List.length_replicate]; omega) | (simp <;> omega))) rfl ?_
      refine J.eff_g rfl rfl rfl (Ye.call cl14 rfl (WriteNil_ok ((hq _ (it_mem (show (i : Int).toNat < es.length by omega))).ext e0))) rfl ?_
      rintro _ w6 ⟨rfl, x1⟩
      have e0 := e0.trans x1
      have c3_2 := c3_2.ext x1
      have ho5 := ho5.ext x1
      have hos7_21 := hos7_21.ext x1
      clear x1
      refine J.op_g rfl rfl rfl (Yd.cast (Yd.nePn Try.underlying35 rfl rfl) (show _ = Value.bool false from rfl)) rfl ?_
      refine J.op (Yd.pick_f rfl rfl) rfl ?_
      refine J.nil ?_
      refine J.n_then ?_
      refine J.cond_false rfl ?_
      refine J.skip ?_
      refine J.n_then ?_
      refine J.region ?_
      refine J.op (Yd.move rfl) rfl ?_
      refine J.op (Yd.move rfl) rfl ?_
      refine J.op (Yd.move rfl) rfl ?_
      refine J.op (Yd.idxE (K := itS) Try.underlying30 ti40 rfl rfl (Er.ext hr e0) (by first | omega | exact idx_u8' _ | (simp only [Int.toNat_natCast]; omega) | (simp only [List.length_map, List.length_drop, List.length_take, List.length_append, List.length_replicate]; omega) | (simp <;> omega))) rfl ?_
      refine J.op (Yd.loadEd (K := itS) itD ag40 ti40 rfl (Er.ext hr e0) (by first | omega | exact idx_u8' _ | (simp only [Int.toNat_natCast]; omega) | (simp only [List.length_map, List.length_drop, List.length_take, List.length_append, List.length_replicate]; omega) | (simp <;> omega))) rfl ?_
      refine J.eff (Ye.call cl15 rfl (RefItem_ok ((hq _ (it_mem (show (i : Int).toNat < es.length by omega))).ext e0) (by rw [Int.toNat_natCast]; omega))) rfl ?_
      rintro v37 w7 ⟨hbv37, x1⟩
      have e0 := e0.trans x1
      have c3_2 := c3_2.ext x1
      have ho5 := ho5.ext x1
      have hos7_21 := hos7_21.ext x1
      clear x1
      refine J.eff (Ye.appendS Try.underlying32 ti5 rfl rfl rfl rfl ho5 hbv37 (fun _ => rfl) (by first | omega | exact idx_u8' _ | (simp only [Int.toNat_natCast]; omega) | (simp only [List.length_map, List.length_drop, List.length_take, List.length_append, List.length_replicate]; omega) | (simp <;> omega)) e0.size) rfl ?_
      rintro s38_8 w8 ⟨o38_8, hg, hsf⟩
      have ap_b3_2_s38_8 : Ap (some b3_2) s38_8.ownBlock := Ap.sf ap_b3_2_v5 (Cel.live c3_2) hsf
      have ap_s7_21_s38_8 : Ap s7_21.ownBlock s38_8.ownBlock := Ap.sf (Ap.symm ap_v5_s7_21) (Ow.live hos7_21) hsf
      have fr_s38_8 : Fr w.heap.size s38_8.ownBlock := Fr.sf fr_v5 hsf e0.size
      have c3_2 := Cel.gbk c3_2 hg ap_b3_2_v5
      have hos7_21 := Ow.gbk hos7_21 hg (Ap.symm ap_v5_s7_21)
      have e0 := Ext.gbk e0 fr_v5 hg
      clear hg hsf
      refine J.op (Yd.assign rfl) rfl ?_
      refine J.nil ?_
      refine J.n_block ?_
      refine J.n_then ?_
      refine J.region ?_
      refine J.op (Yd.move rfl) rfl ?_
      refine J.op (Yd.add rfl rfl (by first | omega | exact idx_u8' _ | (simp only [Int.toNat_natCast]; omega) | (simp only [List.length_map, List.length_drop, List.length_take, List.length_append, List.length_replicate]; omega) | (simp <;> omega))) rfl ?_
      refine J.op (Yd.assign rfl) rfl ?_
      refine J.nil ?_
      refine J.n_then ?_
      exact J.round ((i + 1, s7_21, s38_8)) ⟨rfl, rfl, rfl, rfl, rfl, trivial⟩ (⟨by show i + 1 ≤ es.length; omega, c3_2, (by rw [wF_take (by omega)]; have h9 := hos7_21; rw [Int.toNat_natCast] at h9; exact h9), (by rw [wF_take (by omega)]; have h9 := o38_8; rw [Int.toNat_natCast] at h9; exact h9), fr_s7_21, ap_b3_2_s7_21, fr_s38_8, ap_b3_2_s38_8, ap_s7_21_s38_8, e0⟩) (by show es.length - (i + 1) < es.length - i; omega)
    · skip
      refine J.exit ?_
      refine J.x_then ?_
      refine J.x_then ?_
      refine J.x_block ?_
      refine J.n_then ?_
      refine J.seq ?_
      refine J.regionO [(2, true)] [(3, 1), (0, 0), (1, 1)] [(4, true), (5, true), (6, true), (7, false), (8, false), (9, true), (10, true), (11, true), (12, false), (13, true), (14, true)] mix (by kernel_rfl) ?_
      refine J.s_op rfl (fun _ => Yd.move rfl) rfl ?_
      refine J.s_nil ?_
      refine J.o_op rfl (Yd.bstr Try.underlying32 Try.underlying5 Try.underlying9 rfl (Ow.rd ho5)) rfl ?_
      refine J.o_eff rfl (Ye.call cl16 rfl (WDone_raw c3_2 (Ow.rd os3) (by omega))) rfl (fun _ _ h => h.2) ?_
      rintro s39_9 w9 ⟨os39_9, x1⟩
      have ap_b3_2_s39_9 : Ap (some b3_2) s39_9.ownBlock := Ap.mk (Cel.live c3_2) (Ow.fr os39_9)
      have ap_s3_s39_9 : Ap s3.ownBlock s39_9.ownBlock := Ap.mk (Ow.live os3) (Ow.fr os39_9)
      have ap_v5_s39_9 : Ap v5.ownBlock s39_9.ownBlock := Ap.mk (Ow.live ho5) (Ow.fr os39_9)
      have fr_s39_9 : Fr w.heap.size s39_9.ownBlock := Fr.le (Ow.fr os39_9) e0.size
      replace os39_9 := Ow.base os39_9 e0.size
      have e0 := e0.trans x1
      have c3_2 := c3_2.ext x1
      have os3 := os3.ext x1
      have ho5 := ho5.ext x1
      clear x1
      refine J.o_op rfl (Yd.bstr Try.underlying32 Try.underlying5 Try.underlying9 rfl (Ow.rd os39_9)) rfl ?_
      refine J.o_nil ?_
      refine J.s_op rfl (fun _ => Yd.seq rfl rfl) rfl ?_
      refine J.s_op rfl (fun _ => Yd.move rfl) rfl ?_
      refine J.know (t := 44) (v' := .bool true) rfl (tt (by rfl)) ?_
      refine J.s_op_g rfl rfl rfl rfl (fun _ => Yd.move rfl) rfl ?_
      refine J.s_eff_g rfl rfl rfl rfl (Ye.call cl16 rfl (WDoneNil_ok)) rfl ?_
      rintro _ w10 ⟨rfl, x1⟩
      have e0 := e0.trans x1
      have c3_2 := c3_2.ext x1
      have os3 := os3.ext x1
      have ho5 := ho5.ext x1
      have os39_9 := os39_9.ext x1
      clear x1
      refine J.s_one_g rfl rfl rfl rfl (Yd.len_nil Try.underlying32 rfl) rfl ?_
      refine J.s_op_g rfl rfl rfl rfl (fun _ => Yd.eql rfl rfl) rfl ?_
      refine J.s_op rfl (fun _ => Yd.pick_t rfl rfl) rfl ?_
      refine J.s_op rfl (fun _ => Yd.move rfl) rfl ?_
      refine J.know (t := 50) (v' := .bool true) rfl (tt (by rfl)) ?_
      refine J.s_eff_g rfl rfl rfl rfl (Ye.call cl7 rfl (Awake_ok)) rfl ?_
      rintro _ w11 ⟨rfl, x1⟩
      have e0 := e0.trans x1
      have c3_2 := c3_2.ext x1
      have os3 := os3.ext x1
      have ho5 := ho5.ext x1
      have os39_9 := os39_9.ext x1
      clear x1
      refine J.s_op rfl (fun _ => Yd.pick_t rfl rfl) rfl ?_
      refine J.s_op rfl (fun _ => Yd.assign rfl) rfl ?_
      refine J.s_nil ?_
      refine J.n_np ?_
      refine J.n_then ?_
      refine J.ret ?_
      exact J.ret1 rfl rfl (⟨_, rfl, rfl, e0⟩)
end Ytphebleabcoakaa
end Go.Proofs
