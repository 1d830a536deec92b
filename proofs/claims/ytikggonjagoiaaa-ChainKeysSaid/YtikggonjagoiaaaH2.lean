import Derived.Test.YtikggonjagoiaaaT
import Derived.Test.YtikggonjagoiaaaH1
set_option linter.unusedVariables false
set_option linter.unusedSimpArgs false
set_option maxRecDepth 100000
set_option maxHeartbeats 4000000
namespace Go.Proofs
open Go.X Go.RowKit
namespace Ytikggonjagoiaaa
theorem Next_ok {b n : Nat} {s : Value} {key : List UInt8} {w : World} (hc : Cel w b 53 (chS s n)) (hs : Bs w s key) (hk : key.length = 32) (hn : Ap (some b) s.ownBlock) (hn1 : n ≤ 1000000) : C Try.prog 13 [.pointer (some ⟨b, 0, none⟩)] w (Ret fun v w' => ∃ s', Ob w.heap.size 5 w' v (macL key [1]) ∧ Cel w' b 53 (chS s' (n + 1)) ∧ Ob w.heap.size 5 w' s' (macL key [2]) ∧ Tn [some b] w w') := by
  unfold chS at hc
  have e0 := Tn.refl [(some b)] w
  refine C.enter Try.func13 rfl Try.ntmps13 rfl ?_
  refine J.seq ?_
  refine J.region ?_
  refine J.op (Yd.assign rfl) rfl ?_
  refine J.nil ?_
  refine J.n_then ?_
  refine J.seq ?_
  refine J.seq ?_
  refine J.region ?_
  refine J.op (Yd.move rfl) rfl ?_
  refine J.eff (Ye.call cl25 rfl (None_ok (show Cel _ _ _ (chS _ _) from hc) hs (by first | assumption | omega))) rfl ?_
  rintro _ w1 ⟨rfl, x1⟩
  have e0 := Tn.ext e0 x1
  have hs := hs.ext x1
  have hc := hc.ext x1
  clear x1
  refine J.nil ?_
  refine J.n_then ?_
  refine J.cond_false rfl ?_
  refine J.skip ?_
  refine J.n_then ?_
  refine J.seq ?_
  refine J.region ?_
  refine J.op (Yd.move rfl) rfl ?_
  refine J.op (Yd.nilCheck rfl) rfl ?_
  refine J.op (Yd.cast (Yd.fieldA Try.underlying53 rfl ti22 rfl rfl) (show _ = Value.pointer (some ⟨b, 0, none⟩) from rfl)) rfl ?_
  refine J.op (Yd.load pl22 rfl (Cel.cell1 hc 0 rfl)) rfl ?_
  refine J.eff (Ye.call cl26 rfl (NewKeyF_ok hs (by first | omega | (simp only [List.length_append, List.flatten_cons, List.flatten_nil, List.append_nil, padL_len, sha256L_len, macL_len, List.length_nil, List.length_cons, Int.toNat_natCast]; omega) | (simp <;> omega)))) rfl ?_
  rintro _ w2 ⟨b10_2, rfl, kb10_2, x1⟩
  have lo_b_b10_2 : Lo w1.heap.size (some b) := (Cel.live hc)
  have e0 := Tn.ext e0 x1
  have hs := hs.ext x1
  have hc := hc.ext x1
  clear x1
  refine J.op (Yd.assign rfl) rfl ?_
  refine J.nil ?_
  refine J.n_then ?_
  refine J.seq ?_
  refine J.region ?_
  refine J.op (Yd.move rfl) rfl ?_
  refine J.op (Yd.move rfl) rfl ?_
  refine J.eff (Ye.litM (base := w2.heap.size) (f := fun x : UInt8 => B x) ([2] : List UInt8) Try.underlying22 ti5 rfl rfl rfl rfl (fun _ => rfl) rfl (Nat.le_refl _)) rfl ?_
  rintro s13_3 w3 ⟨o13_3, x1⟩
  have ap_b_s13_3 : Ap (some b) s13_3.ownBlock := Ap.mk (Cel.live hc) (Ow.fr o13_3)
  have fr_s13_3 : Fr w.heap.size s13_3.ownBlock := Fr.le (Ow.fr o13_3) e0.size
  replace o13_3 := Ow.base o13_3 e0.size
  have e0 := Tn.ext e0 x1
  have hs := hs.ext x1
  have hc := hc.ext x1
  have kb10_2 := kb10_2.ext x1
  clear x1
  refine J.eff (Ye.litS1 Try.underlying30 ti22 rfl rfl (Ow.rd o13_3)) rfl ?_
  rintro s14_4 w4 ⟨o14_4, x1⟩
  have e0 := Tn.ext e0 x1
  have hs := hs.ext x1
  have hc := hc.ext x1
  have kb10_2 := kb10_2.ext x1
  have o13_3 := o13_3.ext x1
  clear x1
  refine J.eff (Ye.call cl27 rfl (KMac_ok (KeyF.p kb10_2) o14_4 (by first | omega | (simp only [List.length_append, List.flatten_cons, List.flatten_nil, List.append_nil, padL_len, sha256L_len, macL_len, List.length_nil, List.length_cons, Int.toNat_natCast]; omega) | (simp <;> omega)))) rfl ?_
  rintro s15_5 w5 ⟨os15_5, x1⟩
  have ap_b_s15_5 : Ap (some b) s15_5.ownBlock := Ap.mk (Cel.live hc) (Ow.fr os15_5)
  have ap_s13_3_s15_5 : Ap s13_3.ownBlock s15_5.ownBlock := Ap.mk (Ow.live o13_3) (Ow.fr os15_5)
  have fr_s15_5 : Fr w.heap.size s15_5.ownBlock := Fr.le (Ow.fr os15_5) e0.size
  replace os15_5 := Ow.base os15_5 e0.size
  have e0 := Tn.ext e0 x1
  have hs := hs.ext x1
  have hc := hc.ext x1
  have kb10_2 := kb10_2.ext x1
  have o13_3 := o13_3.ext x1
  have o14_4 := o14_4.ext x1
  clear x1
  refine J.op (Yd.nilCheck rfl) rfl ?_
  refine J.op (Yd.cast (Yd.fieldA Try.underlying53 rfl ti22 rfl rfl) (show _ = Value.pointer (some ⟨b, 0, none⟩) from rfl)) rfl ?_
  refine J.eff0 (Ye.store1 ti22 hc 0 rfl rfl rfl rfl (Rd.cells (Ow.rd os15_5)) (Rd.one (Ow.rd os15_5))) ?_
  rintro _ w6 ⟨cX, hu⟩
  simp only [List.set_cons_zero, List.set_cons_succ] at cX
  have hg := hu.gb
  have hs := Rd.gbk hs hg (Ap.symm hn)
  have kb10_2 := KeyF.gbk kb10_2 hg lo_b_b10_2
  have o13_3 := Ow.gbk o13_3 hg (Ap.symm ap_b_s13_3)
  have os15_5 := Ow.gbk os15_5 hg (Ap.symm ap_b_s15_5)
  have e0 := Tn.gbk e0 (.inl (by simp)) hg
  clear hg
  replace hc := cX
  clear cX hu
  refine J.nil ?_
  refine J.n_then ?_
  refine J.seq ?_
  refine J.region ?_
  refine J.op (Yd.move rfl) rfl ?_
  refine J.op (Yd.nilCheck rfl) rfl ?_
  refine J.op (Yd.cast (Yd.fieldA Try.underlying53 rfl ti3 rfl rfl) (show _ = Value.pointer (some ⟨b, 1, none⟩) from rfl)) rfl ?_
  refine J.op (Yd.load pl3 rfl (Cel.cell1 hc 1 rfl)) rfl ?_
  refine J.op (Yd.add rfl rfl (by first | omega | exact idx_u8' _ | (simp only [Int.toNat_natCast]; omega) | (simp only [List.length_map, List.length_drop, List.length_take, List.length_append, List.length_replicate]; omega) | (simp <;> omega))) rfl ?_
  refine J.op (Yd.nilCheck rfl) rfl ?_
  refine J.op (Yd.cast (Yd.fieldA Try.underlying53 rfl ti3 rfl rfl) (show _ = Value.pointer (some ⟨b, 1, none⟩) from rfl)) rfl ?_
  refine J.eff0 (Ye.store1 ti3 hc 1 rfl rfl rfl rfl rfl rfl) ?_
  rintro _ w7 ⟨cX, hu⟩
  simp only [List.set_cons_zero, List.set_cons_succ] at cX
  have hg := hu.gb
  have hs := Rd.gbk hs hg (Ap.symm hn)
  have kb10_2 := KeyF.gbk kb10_2 hg lo_b_b10_2
  have o13_3 := Ow.gbk o13_3 hg (Ap.symm ap_b_s13_3)
  have os15_5 := Ow.gbk os15_5 hg (Ap.symm ap_b_s15_5)
  have e0 := Tn.gbk e0 (.inl (by simp)) hg
  clear hg
  replace hc := cX
  clear cX hu
  refine J.nil ?_
  refine J.n_then ?_
  refine J.seq ?_
  refine J.region ?_
  refine J.op (Yd.move rfl) rfl ?_
  refine J.eff (Ye.litM (base := w7.heap.size) (f := fun x : UInt8 => B x) ([1] : List UInt8) Try.underlying22 ti5 rfl rfl rfl rfl (fun _ => rfl) rfl (Nat.le_refl _)) rfl ?_
  rintro s26_8 w8 ⟨o26_8, x1⟩
  have ap_b_s26_8 : Ap (some b) s26_8.ownBlock := Ap.mk (Cel.live hc) (Ow.fr o26_8)
  have ap_s13_3_s26_8 : Ap s13_3.ownBlock s26_8.ownBlock := Ap.mk (Ow.live o13_3) (Ow.fr o26_8)
  have ap_s15_5_s26_8 : Ap s15_5.ownBlock s26_8.ownBlock := Ap.mk (Ow.live os15_5) (Ow.fr o26_8)
  have fr_s26_8 : Fr w.heap.size s26_8.ownBlock := Fr.le (Ow.fr o26_8) e0.size
  replace o26_8 := Ow.base o26_8 e0.size
  have e0 := Tn.ext e0 x1
  have hs := hs.ext x1
  have hc := hc.ext x1
  have kb10_2 := kb10_2.ext x1
  have o13_3 := o13_3.ext x1
  have os15_5 := os15_5.ext x1
  clear x1
  refine J.eff (Ye.litS1 Try.underlying30 ti22 rfl rfl (Ow.rd o26_8)) rfl ?_
  rintro s27_9 w9 ⟨o27_9, x1⟩
  have e0 := Tn.ext e0 x1
  have hs := hs.ext x1
  have hc := hc.ext x1
  have kb10_2 := kb10_2.ext x1
  have o13_3 := o13_3.ext x1
  have os15_5 := os15_5.ext x1
  have o26_8 := o26_8.ext x1
  clear x1
  refine J.eff (Ye.call cl27 rfl (KMac_ok (KeyF.p kb10_2) o27_9 (by first | omega | (simp only [List.length_append, List.flatten_cons, List.flatten_nil, List.append_nil, padL_len, sha256L_len, macL_len, List.length_nil, List.length_cons, Int.toNat_natCast]; omega) | (simp <;> omega)))) rfl ?_
  rintro s28_10 w10 ⟨os28_10, x1⟩
  have ap_b_s28_10 : Ap (some b) s28_10.ownBlock := Ap.mk (Cel.live hc) (Ow.fr os28_10)
  have ap_s13_3_s28_10 : Ap s13_3.ownBlock s28_10.ownBlock := Ap.mk (Ow.live o13_3) (Ow.fr os28_10)
  have ap_s15_5_s28_10 : Ap s15_5.ownBlock s28_10.ownBlock := Ap.mk (Ow.live os15_5) (Ow.fr os28_10)
  have ap_s26_8_s28_10 : Ap s26_8.ownBlock s28_10.ownBlock := Ap.mk (Ow.live o26_8) (Ow.fr os28_10)
  have fr_s28_10 : Fr w.heap.size s28_10.ownBlock := Fr.le (Ow.fr os28_10) e0.size
  replace os28_10 := Ow.base os28_10 e0.size
  have e0 := Tn.ext e0 x1
  have hs := hs.ext x1
  have hc := hc.ext x1
  have kb10_2 := kb10_2.ext x1
  have o13_3 := o13_3.ext x1
  have os15_5 := os15_5.ext x1
  have o26_8 := o26_8.ext x1
  have o27_9 := o27_9.ext x1
  clear x1
  refine J.op (Yd.assign rfl) rfl ?_
  refine J.nil ?_
  refine J.n_then ?_
  refine J.ret ?_
  exact J.ret1 rfl rfl (⟨_, rfl, s15_5, os28_10, (show Cel _ _ 53 (chS s15_5 (n + 1)) from hc), os15_5, e0⟩)

theorem NextNil_ok {w : World} : C Try.prog 13 [.pointer none] w (Ret fun v w' => v = nilS ∧ Ext w w') := by
  have e0 := Ext.refl w
  refine C.enter Try.func13 rfl Try.ntmps13 rfl ?_
  refine J.seq ?_
  refine J.region ?_
  refine J.op (Yd.assign rfl) rfl ?_
  refine J.nil ?_
  refine J.n_then ?_
  refine J.seq ?_
  refine J.seq ?_
  refine J.region ?_
  refine J.op (Yd.move rfl) rfl ?_
  refine J.eff (Ye.call cl25 rfl (NoneNil_ok)) rfl ?_
  rintro _ w1 ⟨rfl, x1⟩
  have e0 := e0.trans x1
  clear x1
  refine J.nil ?_
  refine J.n_then ?_
  refine J.cond_true rfl ?_
  refine J.seq ?_
  refine J.region ?_
  refine J.op (Yd.assign rfl) rfl ?_
  refine J.nil ?_
  refine J.n_then ?_
  refine J.ret ?_
  refine J.r_then ?_
  exact J.ret1 rfl rfl (⟨_, rfl, rfl, e0⟩)

theorem NextZero_ok {b n : Nat} {w : World} (hc : Cel w b 53 (chS nilS n)) : C Try.prog 13 [.pointer (some ⟨b, 0, none⟩)] w (Ret fun v w' => v = nilS ∧ Ext w w') := by
  unfold chS at hc
  have e0 := Ext.refl w
  refine C.enter Try.func13 rfl Try.ntmps13 rfl ?_
  refine J.seq ?_
  refine J.region ?_
  refine J.op (Yd.assign rfl) rfl ?_
  refine J.nil ?_
  refine J.n_then ?_
  refine J.seq ?_
  refine J.seq ?_
  refine J.region ?_
  refine J.op (Yd.move rfl) rfl ?_
  refine J.eff (Ye.call cl25 rfl (NoneZero_ok (show Cel _ _ _ (chS _ _) from (Cel.ext hc e0)))) rfl ?_
  rintro _ w1 ⟨rfl, x1⟩
  have e0 := e0.trans x1
  clear x1
  refine J.nil ?_
  refine J.n_then ?_
  refine J.cond_true rfl ?_
  refine J.seq ?_
  refine J.region ?_
  refine J.op (Yd.assign rfl) rfl ?_
  refine J.nil ?_
  refine J.n_then ?_
  refine J.ret ?_
  refine J.r_then ?_
  exact J.ret1 rfl rfl (⟨_, rfl, rfl, e0⟩)

theorem Copy_ok {b n : Nat} {s : Value} {key : List UInt8} {w : World} (hc : Cel w b 53 (chS s n)) (hs : Bs w s key) (hk : key.length = 32) : C Try.prog 21 [.pointer (some ⟨b, 0, none⟩)] w (Ret fun u w' => ∃ b' s', u = .pointer (some ⟨b', 0, none⟩) ∧ w.heap.size ≤ b' ∧ Cel w' b' 53 (chS s' n) ∧ Ob w.heap.size 5 w' s' key ∧ Ap (some b') s'.ownBlock ∧ Ext w w') := by
  unfold chS at hc
  have e0 := Ext.refl w
  refine C.enter Try.func21 rfl Try.ntmps21 rfl ?_
  refine J.seq ?_
  refine J.region ?_
  refine J.op (Yd.assign rfl) rfl ?_
  refine J.nil ?_
  refine J.n_then ?_
  refine J.seq ?_
  refine J.seq ?_
  refine J.region ?_
  refine J.op (Yd.move rfl) rfl ?_
  refine J.eff (Ye.call cl25 rfl (None_ok (show Cel _ _ _ (chS _ _) from (Cel.ext hc e0)) hs (by first | assumption | omega))) rfl ?_
  rintro _ w1 ⟨rfl, x1⟩
  have e0 := e0.trans x1
  clear x1
  refine J.nil ?_
  refine J.n_then ?_
  refine J.cond_false rfl ?_
  refine J.skip ?_
  refine J.n_then ?_
  refine J.seq ?_
  refine J.regionO [(0, true), (1, true), (2, true), (5, true), (6, true), (7, true)] [(3, 1), (8, 1), (4, 0)] [(9, false), (10, false), (11, true)] mix (by kernel_rfl) ?_
  refine J.s_op rfl (fun _ => Yd.move rfl) rfl ?_
  refine J.s_op rfl (fun _ => Yd.nilCheck rfl) rfl ?_
  refine J.s_op rfl (fun _ => Yd.cast (Yd.fieldA Try.underlying53 rfl ti22 rfl rfl) (show _ = Value.pointer (some ⟨b, 0, none⟩) from rfl)) rfl ?_
  refine J.s_op rfl (fun _ => Yd.move rfl) rfl ?_
  refine J.s_op rfl (fun _ => Yd.nilCheck rfl) rfl ?_
  refine J.s_op rfl (fun _ => Yd.cast (Yd.fieldA Try.underlying53 rfl ti3 rfl rfl) (show _ = Value.pointer (some ⟨b, 1, none⟩) from rfl)) rfl ?_
  refine J.s_nil ?_
  refine J.o_op rfl (Yd.load pl22 rfl (Cel.cell1 (Cel.ext hc e0) 0 rfl)) rfl ?_
  refine J.o_op rfl (Yd.load pl3 rfl (Cel.cell1 (Cel.ext hc e0) 1 rfl)) rfl ?_
  refine J.o_eff rfl (Ye.call cl29 rfl (Clone_ok (Rd.ext hs e0) (by first | omega | (simp <;> omega)))) rfl (fun _ _ h => h.2) ?_
  rintro s9_2 w2 ⟨os9_2, x1⟩
  have fr_s9_2 : Fr w.heap.size s9_2.ownBlock := Fr.le (Ow.fr os9_2) e0.size
  replace os9_2 := Ow.base os9_2 e0.size
  have e0 := e0.trans x1
  clear x1
  refine J.o_nil ?_
  have hcS := Rd.cells (Ow.rd os9_2)
  refine J.s_one rfl (Yd.buildV (pl := [(0, 1), (1, 1)]) Try.underlying53 (by kernel_rfl) ti53 rfl rfl (by simp [OffOK, cells_agg, cells_int, hcS]) (by simp [catV, cells_agg, cells_int, hcS])) rfl ?_
  refine J.s_eff rfl (Ye.box (S := chS s9_2 n) rfl (by simp [chS, SegAll, SegOK, catV, cells_agg, cells_int, hcS])) rfl ?_
  rintro _ w3 ⟨b15_2, rfl, hb_, c15_2, x1⟩
  have ap_s9_2_b15_2 : Ap s9_2.ownBlock (some b15_2) := Ap.mk (Ow.live os9_2) (Fr.blk hb_)
  have fr_b15_2 : Fr w.heap.size (some b15_2) := Fr.le (Fr.blk hb_) e0.size
  have e0 := e0.trans x1
  have os9_2 := os9_2.ext x1
  clear x1 hb_
  refine J.s_op rfl (fun _ => Yd.assign rfl) rfl ?_
  refine J.s_nil ?_
  refine J.n_np ?_
  refine J.n_then ?_
  refine J.ret ?_
  exact J.ret1 rfl rfl (⟨_, rfl, b15_2, s9_2, rfl, fr_b15_2 _ rfl, c15_2, os9_2, (Ap.symm ap_s9_2_b15_2), e0⟩)

theorem CopyNil_ok {w : World} : C Try.prog 21 [.pointer none] w (Ret fun v w' => v = .pointer none ∧ Ext w w') := by
  have e0 := Ext.refl w
  refine C.enter Try.func21 rfl Try.ntmps21 rfl ?_
  refine J.seq ?_
  refine J.region ?_
  refine J.op (Yd.assign rfl) rfl ?_
  refine J.nil ?_
  refine J.n_then ?_
  refine J.seq ?_
  refine J.seq ?_
  refine J.region ?_
  refine J.op (Yd.move rfl) rfl ?_
  refine J.eff (Ye.call cl25 rfl (NoneNil_ok)) rfl ?_
  rintro _ w1 ⟨rfl, x1⟩
  have e0 := e0.trans x1
  clear x1
  refine J.nil ?_
  refine J.n_then ?_
  refine J.cond_true rfl ?_
  refine J.seq ?_
  refine J.region ?_
  refine J.op (Yd.assign rfl) rfl ?_
  refine J.nil ?_
  refine J.n_then ?_
  refine J.ret ?_
  refine J.r_then ?_
  exact J.ret1 rfl rfl (⟨_, rfl, rfl, e0⟩)
end Ytikggonjagoiaaa
end Go.Proofs
