import Derived.Test.YtghklimejpmpnaaT
import Derived.Test.YtghklimejpmpnaaC2
set_option linter.unusedVariables false
set_option linter.unusedSimpArgs false
set_option maxRecDepth 100000
set_option maxHeartbeats 4000000
namespace Go.Proofs
open Go.X Go.RowKit
namespace Ytghklimejpmpnaa
theorem Split_no {a : Value} {l : List UInt8} {id n : Int} {w : World} (ha : Bs w a l) (hb : ¬ ((0 ≤ id ∧ id ≤ 1073741824) ∧ (1 ≤ n ∧ n ≤ 1000) ∧ (1 ≤ (l.length : Int) ∧ (l.length : Int) ≤ 10000))) : C Try.prog 9 [I id, a, I n] w (Ret fun v w' => v = .tuple #[nilS, I 1] ∧ Ext w w') := by
  have e0 := Ext.refl w
  refine C.enterM Try.func9 rfl Try.ntmps9 rfl ?_
  refine J.seq ?_
  refine J.region ?_
  refine J.eff (Ye.box (S := [(0, 1, [I id])]) rfl (by simp [SegAll, SegOK, Value.cells])) rfl ?_
  rintro _ w1 ⟨b3_0, rfl, hb_, c3_0, x1⟩
  have fr_b3_0 : Fr w.heap.size (some b3_0) := Fr.le (Fr.blk hb_) e0.size
  have e0 := e0.trans x1
  clear x1 hb_
  refine J.eff (Ye.alloc ti24 (S := [(0, 1, [.slice none 0 0])]) (by simp [SegAll, SegOK, Value.cells])) rfl ?_
  rintro _ w2 ⟨b6_1, rfl, hb_, c6_1, x1⟩
  have ap_b3_0_b6_1 : Ap (some b3_0) (some b6_1) := Ap.mk (Cel.live c3_0) (Fr.blk hb_)
  have fr_b6_1 : Fr w.heap.size (some b6_1) := Fr.le (Fr.blk hb_) e0.size
  have e0 := e0.trans x1
  have c3_0 := c3_0.ext x1
  clear x1 hb_
  refine J.op (Yd.assign rfl) rfl ?_
  refine J.nil ?_
  refine J.n_then ?_
  refine J.seq ?_
  refine J.seq ?_
  refine J.region ?_
  refine J.op (Yd.load pl3 rfl (Cel.cell1 c3_0 0 rfl)) rfl ?_
  refine J.eff (Ye.call cl27 rfl (Within_ok)) rfl ?_
  rintro _ w3 ⟨rfl, x1⟩
  have e0 := e0.trans x1
  have c3_0 := c3_0.ext x1
  have c6_1 := c6_1.ext x1
  clear x1
  refine J.op (Yd.not_dec rfl) rfl ?_
  refine J.op (Yd.move rfl) rfl ?_
  refine J.split_dec (t := 13) rfl (fun h1 => ?_) (fun h1 => ?_)
  · skip
    refine J.not_g rfl rfl rfl rfl rfl ?_
    refine J.not_g rfl rfl rfl rfl rfl ?_
    refine J.not_g rfl rfl rfl rfl rfl ?_
    refine J.op (Yd.pick_t rfl rfl) rfl ?_
    refine J.op (Yd.move rfl) rfl ?_
    refine J.not_g rfl rfl rfl rfl rfl ?_
    refine J.not_g rfl rfl rfl rfl rfl ?_
    refine J.not_g rfl rfl rfl rfl rfl ?_
    refine J.not_g rfl rfl rfl rfl rfl ?_
    refine J.op (Yd.pick_t rfl rfl) rfl ?_
    refine J.nil ?_
    refine J.n_then ?_
    refine J.cond_true rfl ?_
    refine J.seq ?_
    refine J.region ?_
    refine J.eff0 (Ye.store1 ti24 c6_1 0 rfl rfl rfl rfl rfl rfl) ?_
    rintro _ w4 ⟨cX, hu⟩
    simp only [List.set_cons_zero, List.set_cons_succ] at cX
    have hg := hu.gb
    have c3_0 := Cel.gbk c3_0 hg ap_b3_0_b6_1
    have e0 := Ext.gbk e0 fr_b6_1 hg
    clear hg
    replace c6_1 := cX
    clear cX hu
    refine J.op (Yd.assign rfl) rfl ?_
    refine J.nil ?_
    refine J.n_then ?_
    refine J.ret ?_
    refine J.r_then ?_
    exact J.ret_ct0 rfl pl24 rfl (Cel.cell1 c6_1 0 rfl) rfl (⟨_, rfl, rfl, e0⟩)
  · skip
    refine J.op_g rfl rfl rfl (Yd.move rfl) rfl ?_
    refine J.eff_g rfl rfl rfl (Ye.call cl27 rfl (Within_ok)) rfl ?_
    rintro _ w5 ⟨rfl, x1⟩
    have e0 := e0.trans x1
    have c3_0 := c3_0.ext x1
    have c6_1 := c6_1.ext x1
    clear x1
    refine J.op_g rfl rfl rfl (Yd.not_dec rfl) rfl ?_
    refine J.op (Yd.pick_f rfl rfl) rfl ?_
    refine J.op (Yd.move rfl) rfl ?_
    refine J.split_dec (t := 18) rfl (fun h2 => ?_) (fun h2 => ?_)
    · skip
      refine J.not_g rfl rfl rfl rfl rfl ?_
      refine J.not_g rfl rfl rfl rfl rfl ?_
      refine J.not_g rfl rfl rfl rfl rfl ?_
      refine J.not_g rfl rfl rfl rfl rfl ?_
      refine J.op (Yd.pick_t rfl rfl) rfl ?_
      refine J.nil ?_
      refine J.n_then ?_
      refine J.cond_true rfl ?_
      refine J.seq ?_
      refine J.region ?_
      refine J.eff0 (Ye.store1 ti24 c6_1 0 rfl rfl rfl rfl rfl rfl) ?_
      rintro _ w6 ⟨cX, hu⟩
      simp only [List.set_cons_zero, List.set_cons_succ] at cX
      have hg := hu.gb
      have c3_0 := Cel.gbk c3_0 hg ap_b3_0_b6_1
      have e0 := Ext.gbk e0 fr_b6_1 hg
      clear hg
      replace c6_1 := cX
      clear cX hu
      refine J.op (Yd.assign rfl) rfl ?_
      refine J.nil ?_
      refine J.n_then ?_
      refine J.ret ?_
      refine J.r_then ?_
      exact J.ret_ct0 rfl pl24 rfl (Cel.cell1 c6_1 0 rfl) rfl (⟨_, rfl, rfl, e0⟩)
    · skip
      refine J.op_g rfl rfl rfl (Yd.move rfl) rfl ?_
      refine J.op_g rfl rfl rfl (Yd.len_b Try.underlying22 rfl (Rd.ext ha e0)) rfl ?_
      refine J.eff_g rfl rfl rfl (Ye.call cl27 rfl (Within_ok)) rfl ?_
      rintro _ w7 ⟨rfl, x1⟩
      have e0 := e0.trans x1
      have c3_0 := c3_0.ext x1
      have c6_1 := c6_1.ext x1
      clear x1
      refine J.op_g rfl rfl rfl (Yd.not_dec rfl) rfl ?_
      refine J.op (Yd.pick_f rfl rfl) rfl ?_
      refine J.nil ?_
      refine J.n_then ?_
      refine J.know (t := 23) (v' := .bool true) rfl (tt (by omega)) ?_
      refine J.cond_true rfl ?_
      refine J.seq ?_
      refine J.region ?_
      refine J.eff0 (Ye.store1 ti24 c6_1 0 rfl rfl rfl rfl rfl rfl) ?_
      rintro _ w8 ⟨cX, hu⟩
      simp only [List.set_cons_zero, List.set_cons_succ] at cX
      have hg := hu.gb
      have c3_0 := Cel.gbk c3_0 hg ap_b3_0_b6_1
      have e0 := Ext.gbk e0 fr_b6_1 hg
      clear hg
      replace c6_1 := cX
      clear cX hu
      refine J.op (Yd.assign rfl) rfl ?_
      refine J.nil ?_
      refine J.n_then ?_
      refine J.ret ?_
      refine J.r_then ?_
      exact J.ret_ct0 rfl pl24 rfl (Cel.cell1 c6_1 0 rfl) rfl (⟨_, rfl, rfl, e0⟩)

theorem Awake_ok {w : World} : C Try.prog 8 [] w (Ret fun v w' => v = .bool true ∧ Ext w w') := by
  have e0 := Ext.refl w
  refine C.enter Try.func8 rfl Try.ntmps8 rfl ?_
  refine J.seq ?_
  refine J.region ?_
  refine J.op (Yd.assign rfl) rfl ?_
  refine J.nil ?_
  refine J.n_then ?_
  refine J.seq ?_
  refine J.region ?_
  refine J.eff (Ye.litM (base := w.heap.size) (f := fun x : UInt8 => B x) ([97, 98, 99, 100, 101] : List UInt8) Try.underlying22 ti5 rfl rfl rfl rfl (fun _ => rfl) rfl (Nat.le_refl _)) rfl ?_
  rintro s6_1 w1 ⟨o6_1, x1⟩
  have fr_s6_1 : Fr w.heap.size s6_1.ownBlock := Fr.le (Ow.fr o6_1) e0.size
  replace o6_1 := Ow.base o6_1 e0.size
  have e0 := e0.trans x1
  clear x1
  refine J.eff (Ye.mark Try.underlying22 Try.underlying22 (by decide) Try.underlying5 rfl o6_1 (by decide)) rfl ?_
  rintro u_ w2 ⟨hu_, r7_2, hg⟩
  rw [hu_]; clear hu_
  have e0 := Ext.gbk e0 fr_s6_1 hg
  clear hg
  refine J.eff (Ye.call cl9 rfl (Split_ok (id := 1) (n := 2) r7_2.rd (by decide) (by decide))) rfl ?_
  rintro _ w3 ⟨s8, a8, rfl, os8, oa8, frs, apas, x1⟩
  have ap_s6_1_s8 : Ap s6_1.ownBlock s8.ownBlock := Ap.mk r7_2.live frs
  have fr_s8 : Fr w.heap.size s8.ownBlock := Fr.le frs e0.size
  have ap_s6_1_a8 : Ap s6_1.ownBlock a8.ownBlock := Ap.mk r7_2.live (Ow.fr oa8)
  have fr_a8 : Fr w.heap.size a8.ownBlock := Fr.le (Ow.fr oa8) e0.size
  have ap_a8_s8 := apas
  replace oa8 := Ow.base oa8 e0.size
  have e0 := e0.trans x1
  have r7_2 := r7_2.ext x1
  clear x1 frs apas
  refine J.op (Yd.move rfl) rfl ?_
  refine J.op (Yd.extract rfl rfl) rfl ?_
  refine J.op (Yd.extract rfl rfl) rfl ?_
  refine J.op (Yd.assign rfl) rfl ?_
  refine J.op (Yd.assign rfl) rfl ?_
  refine J.nil ?_
  refine J.n_then ?_
  refine J.seq ?_
  refine J.region ?_
  refine J.eff (Ye.call cl9 rfl (Split_no (l := []) (Rd.nilM (fun x : UInt8 => B x) _) (by decide))) rfl ?_
  rintro _ w4 ⟨rfl, x1⟩
  have e0 := e0.trans x1
  have r7_2 := r7_2.ext x1
  have os8 := os8.ext x1
  have oa8 := oa8.ext x1
  clear x1
  refine J.op (Yd.move rfl) rfl ?_
  refine J.op (Yd.extract rfl rfl) rfl ?_
  refine J.op (Yd.extract rfl rfl) rfl ?_
  refine J.op (Yd.assign rfl) rfl ?_
  refine J.op (Yd.assign rfl) rfl ?_
  refine J.nil ?_
  refine J.n_then ?_
  refine J.seq ?_
  refine J.region ?_
  refine J.op (Yd.move rfl) rfl ?_
  refine J.op (Yd.eql rfl rfl) rfl ?_
  refine J.op (Yd.move rfl) rfl ?_
  refine J.know (t := 17) (v' := .bool true) rfl (tt (by decide)) ?_
  refine J.op_g rfl rfl rfl (Yd.move rfl) rfl ?_
  refine J.op_g rfl rfl rfl (Yd.lenE (K := pcS) Try.underlying24 rfl (Es.rd os8)) rfl ?_
  refine J.op_g rfl rfl rfl (Yd.eql rfl rfl) rfl ?_
  refine J.op (Yd.pick_t rfl rfl) rfl ?_
  refine J.op (Yd.move rfl) rfl ?_
  refine J.know (t := 22) (v' := .bool true) rfl (tt (by rw [pcL_len]; decide)) ?_
  refine J.op_g rfl rfl rfl (Yd.move rfl) rfl ?_
  refine J.op_g rfl rfl rfl (Yd.idxE (K := pcS) Try.underlying24 ti29 rfl rfl (Es.rd os8) (by first | omega | (rw [pcL_len]; decide))) rfl ?_
  refine J.op_g rfl rfl rfl (Yd.fieldE (K := pcS) (Es.rd os8) (by rw [pcL_len]; decide) Try.underlying29 rfl ti22 rfl rfl) rfl ?_
  refine J.op_g rfl rfl rfl (Yd.cast (Yd.loadFd (K := pcS) pcD pl22 rfl (Es.rd os8) (by first | omega | (rw [pcL_len]; decide)) rfl) (show _ = chV a8 2 5 2 from rfl)) rfl ?_
  refine J.op_g rfl rfl rfl (Yd.bstr Try.underlying22 Try.underlying5 Try.underlying9 rfl (show Bs _ (chV a8 2 5 2) [101] from chV_bs (l := [97, 98, 99, 100, 101]) (n := 2) (i := 2) (Ow.rd oa8) (by decide))) rfl ?_
  refine J.op_g rfl rfl rfl (Yd.seq rfl rfl) rfl ?_
  refine J.op (Yd.pick_t rfl rfl) rfl ?_
  refine J.op (Yd.move rfl) rfl ?_
  refine J.know (t := 30) (v' := .bool true) rfl (tt (by rfl)) ?_
  refine J.op_g rfl rfl rfl (Yd.move rfl) rfl ?_
  refine J.op_g rfl rfl rfl (Yd.eql rfl rfl) rfl ?_
  refine J.op (Yd.pick_t rfl rfl) rfl ?_
  refine J.op (Yd.assign rfl) rfl ?_
  refine J.nil ?_
  refine J.n_then ?_
  refine J.ret ?_
  exact J.ret1 rfl rfl (⟨_, rfl, rfl, e0⟩)
end Ytghklimejpmpnaa
end Go.Proofs
