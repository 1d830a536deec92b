import Derived.Test.YtpcbkeikhojmbaaT
import Derived.Test.YtpcbkeikhojmbaaK3
set_option linter.unusedVariables false
set_option linter.unusedSimpArgs false
set_option maxRecDepth 100000
set_option maxHeartbeats 4000000
namespace Go.Proofs
open Go.X Go.RowKit
namespace Ytpcbkeikhojmbaa
theorem Soaked_ok {R : Nat} {e : UInt8} {sl : Value} {vs : List Value} {ll : List (List UInt8)} {w : World} (hR : 0 < R ∧ R ≤ 200) (hl : Rl w sl vs ll) (ht : ll.flatten.length ≤ 1000000) : C Try.prog 27 [I (R : Int), B e, sl] w (Ret fun u w' => ∃ b, u = .pointer (some ⟨b, 0, none⟩) ∧ w.heap.size ≤ b ∧ Cel w' b 61 (spS (soakK R e ll.flatten) R 0) ∧ Ext w w') := by
  have hpl := padK_len R e ll.flatten
  have hpp := padK_pos hR.1 e ll.flatten
  have hzl := zpK_lt (n := ll.flatten.length + 1) hR.1
  have hpz := pzK_len R e ll.flatten
  have hzo := zp_of (n := ll.flatten.length + 1) hR.1
  have hm0 := Int.emod_nonneg (((ll.flatten.length + 1 : Nat) : Int)) (show (R : Int) ≠ 0 by omega)
  have hm1 := Int.emod_lt_of_pos (((ll.flatten.length + 1 : Nat) : Int)) (show 0 < (R : Int) by omega)
  have e0 := Ext.refl w
  refine C.enter Try.func27 rfl Try.ntmps27 rfl ?_
  refine J.seq ?_
  refine J.region ?_
  refine J.op (Yd.assign rfl) rfl ?_
  refine J.nil ?_
  refine J.n_then ?_
  refine J.seq ?_
  refine J.region ?_
  refine J.op (Yd.move rfl) rfl ?_
  refine J.eff (Ye.call cl31 rfl (Cat_ok hl (by first | omega | assumption))) rfl ?_
  rintro s11_1 w1 ⟨os11_1, x1⟩
  have fr_s11_1 : Fr w.heap.size s11_1.ownBlock := Fr.le (Ow.fr os11_1) e0.size
  replace os11_1 := Ow.base os11_1 e0.size
  have e0 := e0.trans x1
  clear x1
  refine J.op (Yd.move rfl) rfl ?_
  refine J.eff (Ye.lit1 (base := w1.heap.size) (f := (fun x : UInt8 => B x)) Try.underlying31 ti5 rfl rfl (fun _ => rfl) (Nat.le_refl _)) rfl ?_
  rintro s13_2 w2 ⟨o13_2, x1⟩
  have ap_s11_1_s13_2 : Ap s11_1.ownBlock s13_2.ownBlock := Ap.mk (Ow.live os11_1) (Ow.fr o13_2)
  have fr_s13_2 : Fr w.heap.size s13_2.ownBlock := Fr.le (Ow.fr o13_2) e0.size
  replace o13_2 := Ow.base o13_2 e0.size
  have e0 := e0.trans x1
  have os11_1 := os11_1.ext x1
  clear x1
  refine J.eff (Ye.appendS Try.underlying31 ti5 rfl rfl rfl rfl os11_1 (Ow.rd o13_2) (fun _ => rfl) (by first | omega | (simp only [List.length_append, List.length_cons, List.length_nil]; omega) | (simp only [Int.toNat_natCast]; omega) | (simp <;> omega)) e0.size) rfl ?_
  rintro s14_3 w3 ⟨o14_3, hg, hsf⟩
  have ap_s13_2_s14_3 : Ap s13_2.ownBlock s14_3.ownBlock := Ap.sf (Ap.symm ap_s11_1_s13_2) (Ow.live o13_2) hsf
  have fr_s14_3 : Fr w.heap.size s14_3.ownBlock := Fr.sf fr_s11_1 hsf e0.size
  have o13_2 := Ow.gbk o13_2 hg (Ap.symm ap_s11_1_s13_2)
  have e0 := Ext.gbk e0 fr_s11_1 hg
  clear hg hsf
  refine J.op (Yd.assign rfl) rfl ?_
  refine J.nil ?_
  refine J.n_then ?_
  refine J.seq ?_
  refine J.region ?_
  refine J.op (Yd.move rfl) rfl ?_
  refine J.op (Yd.move rfl) rfl ?_
  refine J.op (Yd.move rfl) rfl ?_
  refine J.op (Yd.len_b Try.underlying31 rfl (Ow.rd o14_3)) rfl ?_
  refine J.op (Yd.move rfl) rfl ?_
  refine J.op (Yd.cast (Yd.rem rfl rfl (by omega) (by omega)) (congrArg (fun x => I x) (show ((ll.flatten ++ [e]).length : Int) % (R : Int) = ((ll.flatten.length + 1 : Nat) : Int) % (R : Int) by rw [List.length_append]; rfl))) rfl ?_
  refine J.op (Yd.sub rfl rfl (by first | omega | (simp only [List.length_append, List.length_cons, List.length_nil]; omega) | (simp only [Int.toNat_natCast]; omega) | (simp <;> omega))) rfl ?_
  refine J.op (Yd.move rfl) rfl ?_
  refine J.op (Yd.rem rfl rfl (by omega) (by omega)) rfl ?_
  refine J.eff (Ye.appendZS Try.underlying31 Try.underlying3 ti5 rfl rfl rfl rfl rfl o14_3 (by exact Int.emod_nonneg _ (by omega)) (by simp only [List.length_append, List.length_map, List.length_cons, List.length_nil]; omega) e0.size) rfl ?_
  rintro s24_4 w4 ⟨o24_4, hg, hsf⟩
  have ap_s13_2_s24_4 : Ap s13_2.ownBlock s24_4.ownBlock := Ap.sf ap_s13_2_s14_3 (Ow.live o13_2) hsf
  have fr_s24_4 : Fr w.heap.size s24_4.ownBlock := Fr.sf fr_s14_3 hsf e0.size
  have o13_2 := Ow.gbk o13_2 hg ap_s13_2_s14_3
  have e0 := Ext.gbk e0 fr_s14_3 hg
  clear hg hsf
  rw [rep_B, ← List.map_append] at o24_4
  rw [hzo] at o24_4; replace o24_4 := (show Ob _ _ _ _ (pzK R e ll.flatten) from o24_4)
  refine J.op (Yd.assign rfl) rfl ?_
  refine J.nil ?_
  refine J.n_then ?_
  refine J.seq ?_
  refine J.region ?_
  refine J.op (Yd.move rfl) rfl ?_
  refine J.op (Yd.move rfl) rfl ?_
  refine J.op (Yd.len_b Try.underlying31 rfl (Ow.rd o24_4)) rfl ?_
  refine J.op (Yd.sub rfl rfl (by first | omega | (simp only [List.length_append, List.length_cons, List.length_nil]; omega) | (simp only [Int.toNat_natCast]; omega) | (simp <;> omega))) rfl ?_
  refine J.op (Yd.idx_b Try.underlying31 ti5 rfl rfl (Ow.rd o24_4) (by first | omega | (simp only [List.length_append, List.length_cons, List.length_nil]; omega) | (simp only [Int.toNat_natCast]; omega) | (simp <;> omega))) rfl ?_
  refine J.op (Yd.load pl5 rfl (Bs.cell (Ow.rd o24_4) (by first | omega | (simp only [List.length_append, List.length_cons, List.length_nil]; omega) | (simp only [Int.toNat_natCast]; omega) | (simp <;> omega)))) rfl ?_
  refine J.op (Yd.or_u8 (n := 128) rfl rfl) rfl ?_
  refine J.op (Yd.idx_b Try.underlying31 ti5 rfl rfl (Ow.rd o24_4) (by first | omega | (simp only [List.length_append, List.length_cons, List.length_nil]; omega) | (simp only [Int.toNat_natCast]; omega) | (simp <;> omega))) rfl ?_
  refine J.eff0 (Ye.storeOwM ti5 o24_4 rfl rfl (by first | omega | (simp only [List.length_append, List.length_cons, List.length_nil]; omega) | (simp only [Int.toNat_natCast]; omega) | (simp <;> omega)) (fun _ => rfl) (fun _ => rfl)) ?_
  rintro _ w5 ⟨o', hg⟩
  have o13_2 := Ow.gbk o13_2 hg ap_s13_2_s24_4
  have e0 := Ext.gbk e0 fr_s24_4 hg
  replace o24_4 := o'
  clear hg o'
  refine J.nil ?_
  refine J.n_then ?_
  refine J.seq ?_
  refine J.region ?_
  refine J.op (Yd.move rfl) rfl ?_
  refine J.op (Yd.buildS (cells := (((List.replicate 25 (0 : UInt64)).map (fun x : UInt64 => W64 x)) ++ [I (R : Int), I 0]).toArray) (pl := [(0, 25), (25, 1), (26, 1)]) Try.underlying61 (by kernel_rfl) ti61 rfl (by kernel_rfl)) rfl ?_
  refine J.eff (Ye.box (S := [(0, 25, (List.replicate 25 0).map (fun x : UInt64 => W64 x)), (25, 1, [I (R : Int)]), (26, 1, [I 0])]) rfl (by have h := box_segs [(List.replicate 25 (0 : UInt64)).map (fun x : UInt64 => W64 x), [I (R : Int)], [I 0]]; exact h)) rfl ?_
  rintro _ w6 ⟨b35_5, rfl, hb_, c35_5, x1⟩
  have ap_s13_2_b35_5 : Ap s13_2.ownBlock (some b35_5) := Ap.mk (Ow.live o13_2) (Fr.blk hb_)
  have ap_s24_4_b35_5 : Ap s24_4.ownBlock (some b35_5) := Ap.mk (Ow.live o24_4) (Fr.blk hb_)
  have fr_b35_5 : Fr w.heap.size (some b35_5) := Fr.le (Fr.blk hb_) e0.size
  have e0 := e0.trans x1
  have o13_2 := o13_2.ext x1
  have o24_4 := o24_4.ext x1
  clear x1 hb_
  refine J.op (Yd.assign rfl) rfl ?_
  refine J.nil ?_
  refine J.n_then ?_
  refine J.seq ?_
  refine J.block ?_
  have hM : Bs _ _ (padK R e ll.flatten) := (by have h9 := Ow.rd o24_4; rw [show (((pzK R e ll.flatten).length : Int) - 1).toNat = (pzK R e ll.flatten).length - 1 by omega] at h9; exact h9)
  refine J.loop (ι := Nat × Value) (fun i => [(0, I (R : Int)), (8, .pointer (some ⟨b35_5, 0, none⟩)), (7, i.2)]) (fun i w' => R * i.1 ≤ (padK R e ll.flatten).length ∧ Cel w' b35_5 61 [(0, 25, (skK R (padK R e ll.flatten) i.1).map (fun x : UInt64 => W64 x)), (25, 1, [I (R : Int)]), (26, 1, [I 0])] ∧ Bs w' i.2 ((padK R e ll.flatten).drop (R * i.1)) ∧ Ap (some b35_5) (i.2).ownBlock ∧ Ext w w') (fun i => (padK R e ll.flatten).length - R * i.1) ((0, s24_4)) ⟨rfl, rfl, rfl, trivial⟩ (⟨Nat.zero_le _, Cel.eq c35_5 (by rfl), (by show Bs _ _ ((padK R e ll.flatten).drop (R * 0)); rw [Nat.mul_zero, List.drop_zero]; exact hM), (Ap.symm ap_s24_4_b35_5), e0⟩) ?_
  rintro ⟨k, v⟩ w7 ⟨hk, c35_5, hv, ap_b35_5_v, e0⟩
  dsimp only at hk hv ⊢
  replace hk : R * k ≤ (padK R e ll.flatten).length := hk
  have hdl : ((padK R e ll.flatten).drop (R * k)).length = (padK R e ll.flatten).length - R * k := by rw [List.length_drop]
  have hms : R * (k + 1) = R * k + R := Nat.mul_succ R k
  refine J.seq ?_
  refine J.seq ?_
  refine J.region ?_
  refine J.op (Yd.move rfl) rfl ?_
  refine J.op (Yd.len_b Try.underlying31 rfl hv) rfl ?_
  refine J.op (Yd.gtr rfl rfl) rfl ?_
  refine J.nil ?_
  refine J.n_then ?_
  refine J.cond_dec rfl (fun hc0 => ?_) (fun hc0 => ?_)
  · skip
    have hbi := blk_in (R := R) (k := k) (j := 0) (n := (padK R e ll.flatten).length) (by omega) (padK_mod hR.1 e ll.flatten) hR.1
    refine J.skip ?_
    refine J.n_then ?_
    refine J.seq ?_
    refine J.block ?_
    refine J.seq ?_
    refine J.seq ?_
    refine J.region ?_
    refine J.op (Yd.move rfl) rfl ?_
    refine J.op (Yd.move rfl) rfl ?_
    refine J.nil ?_
    refine J.n_then ?_
    refine J.block ?_
    refine J.loop (ι := Nat) (fun i => [(0, I (R : Int)), (42, I (R : Int)), (43, I i), (8, .pointer (some ⟨b35_5, 0, none⟩)), (7, v)]) (fun i w' => i ≤ R ∧ Cel w' b35_5 61 [(0, 25, (abK (skK R (padK R e ll.flatten) k) (padK R e ll.flatten) (R * k) i).map (fun x : UInt64 => W64 x)), (25, 1, [I (R : Int)]), (26, 1, [I 0])] ∧ Bs w' v ((padK R e ll.flatten).drop (R * k)) ∧ Ext w w') (fun i => R - i) (0) ⟨rfl, rfl, rfl, rfl, rfl, trivial⟩ (⟨Nat.zero_le _, Cel.eq c35_5 (by rfl), hv, e0⟩) ?_
    rintro j w8 ⟨hj, c35_5, hv, e0⟩
    have hal := abK_len (skK R (padK R e ll.flatten) k) (padK R e ll.flatten) (R * k) j
    rw [skK_len] at hal
    refine J.seq ?_
    refine J.region ?_
    refine J.op (Yd.lss rfl rfl) rfl ?_
    refine J.nil ?_
    refine J.n_then ?_
    refine J.seq ?_
    refine J.cond_dec rfl (fun hc1 => ?_) (fun hc1 => ?_)
    · skip
      have hbj := blk_in (R := R) (k := k) (j := j) (n := (padK R e ll.flatten).length) (by omega) (padK_mod hR.1 e ll.flatten) (by omega)
      refine J.skip ?_
      refine J.n_then ?_
      refine J.seq ?_
      refine J.block ?_
      refine J.seq ?_
      refine J.region ?_
      refine J.op (Yd.move rfl) rfl ?_
      refine J.op (Yd.assign rfl) rfl ?_
      refine J.nil ?_
      refine J.n_then ?_
      refine J.regionO [(0, true), (1, true), (2, true), (3, true), (4, true), (5, true), (7, true), (8, true), (12, true), (13, true), (14, true), (17, true), (18, true)] [(6, 1), (9, 1), (10, 1), (11, 1), (15, 1)] [(16, true), (19, true), (20, false)] mix (by kernel_rfl) ?_
      refine J.s_op rfl (fun _ => Yd.move rfl) rfl ?_
      refine J.s_op rfl (fun _ => Yd.move rfl) rfl ?_
      refine J.s_op rfl (fun _ => Yd.quo rfl rfl (by first | omega | (simp only [List.length_append, List.length_cons, List.length_nil]; omega) | (simp only [Int.toNat_natCast]; omega) | (simp <;> omega)) (by first | omega | (simp only [List.length_append, List.length_cons, List.length_nil]; omega) | (simp only [Int.toNat_natCast]; omega) | (simp <;> omega)) (by first | omega | (simp only [List.length_append, List.length_cons, List.length_nil]; omega) | (simp only [Int.toNat_natCast]; omega) | (simp <;> omega))) rfl ?_
      refine J.s_op rfl (fun _ => Yd.nilCheck rfl) rfl ?_
      refine J.s_op rfl (fun _ => Yd.cast (Yd.fieldA Try.underlying61 rfl ti24 rfl rfl) (show _ = Value.pointer (some ⟨b35_5, 0, none⟩) from rfl)) rfl ?_
      refine J.s_op rfl (fun _ => Yd.idxA Try.underlying24 ti23 rfl rfl (by first | omega | (simp only [List.length_append, List.length_cons, List.length_nil]; omega) | (simp only [Int.toNat_natCast]; omega) | (simp <;> omega))) rfl ?_
      refine J.s_op rfl (fun _ => Yd.move rfl) rfl ?_
      refine J.s_op rfl (fun _ => Yd.move rfl) rfl ?_
      refine J.s_op rfl (fun _ => Yd.move rfl) rfl ?_
      refine J.s_op rfl (fun _ => Yd.rem rfl rfl (by first | omega | (simp only [List.length_append, List.length_cons, List.length_nil]; omega) | (simp only [Int.toNat_natCast]; omega) | (simp <;> omega)) (by first | omega | (simp only [List.length_append, List.length_cons, List.length_nil]; omega) | (simp only [Int.toNat_natCast]; omega) | (simp <;> omega))) rfl ?_
      refine J.s_op rfl (fun _ => Yd.mul rfl rfl (by first | omega | (simp only [List.length_append, List.length_cons, List.length_nil]; omega) | (simp only [Int.toNat_natCast]; omega) | (simp <;> omega))) rfl ?_
      refine J.s_op rfl (fun _ => Yd.nilCheck rfl) rfl ?_
      refine J.s_op rfl (fun _ => Yd.cast (Yd.fieldA Try.underlying61 rfl ti24 rfl rfl) (show _ = Value.pointer (some ⟨b35_5, 0, none⟩) from rfl)) rfl ?_
      refine J.s_nil ?_
      refine J.o_op rfl (Yd.load pl23 rfl (Cel.cellM c35_5 0 rfl 0 (by have hl_ := Cel.lenM c35_5 0 rfl; first | omega | (rw [hl_]; exact idx_u8' _) | (simp only [Int.toNat_natCast]; omega) | (simp at hl_ ⊢ <;> omega)))) rfl ?_
      refine J.o_op rfl (Yd.idx_b Try.underlying31 ti5 rfl rfl hv (by first | omega | (simp only [List.length_append, List.length_cons, List.length_nil]; omega) | (simp only [Int.toNat_natCast]; omega) | (simp <;> omega))) rfl ?_
      refine J.o_op rfl (Yd.load pl5 rfl (Bs.cell hv (by first | omega | (simp only [List.length_append, List.length_cons, List.length_nil]; omega) | (simp only [Int.toNat_natCast]; omega) | (simp <;> omega)))) rfl ?_
      refine J.o_op rfl (Yd.cv_8_64 Try.underlying5 Try.underlying23 rfl) rfl ?_
      refine J.o_op rfl (Yd.shl_u64 rfl rfl (by first | omega | (simp only [List.length_append, List.length_cons, List.length_nil]; omega) | (simp only [Int.toNat_natCast]; omega) | (simp <;> omega))) rfl ?_
      refine J.o_nil ?_
      refine J.s_op rfl (fun _ => Yd.xor_u64 rfl rfl) rfl ?_
      refine J.s_op rfl (fun _ => Yd.idxA Try.underlying24 ti23 rfl rfl (by first | omega | (simp only [List.length_append, List.length_cons, List.length_nil]; omega) | (simp only [Int.toNat_natCast]; omega) | (simp <;> omega))) rfl ?_
      refine J.s_eff0 rfl (Ye.storeM ti23 c35_5 0 rfl rfl rfl rfl (by first | omega | (simp only [List.length_append, List.length_cons, List.length_nil]; omega) | (simp only [Int.toNat_natCast]; omega) | (simp <;> omega)) (fun _ => rfl) (fun _ => rfl)) ?_
      rintro _ w9 ⟨cX, hu⟩
      simp only [List.set_cons_zero, List.set_cons_succ] at cX
      have hg := hu.gb
      have hv := Rd.gbk hv hg (Ap.symm ap_b35_5_v)
      have e0 := Ext.gbk e0 fr_b35_5 hg
      clear hg
      replace c35_5 := cX
      clear cX hu
      refine J.s_nil ?_
      refine J.n_np ?_
      refine J.n_block ?_
      refine J.n_then ?_
      refine J.region ?_
      refine J.op (Yd.add rfl rfl (by first | omega | (simp only [List.length_append, List.length_cons, List.length_nil]; omega) | (simp only [Int.toNat_natCast]; omega) | (simp <;> omega))) rfl ?_
      refine J.op (Yd.move rfl) rfl ?_
      refine J.nil ?_
      refine J.n_then ?_
      exact J.round (j + 1) ⟨rfl, rfl, rfl, rfl, rfl, trivial⟩ (⟨by omega, Cel.eq c35_5 (by exact congrArg (fun l => [(0, 25, List.map (fun x : UInt64 => W64 x) l), (25, 1, [I (R : Int)]), (26, 1, [I 0])]) (abK_next _ _ _ j (ab_ix j) (by rw [ab_ix, ab_sh, Int.toNat_natCast, getD_dropK]))), hv, e0⟩) (by omega)
    · skip
      refine J.exit ?_
      refine J.x_then ?_
      refine J.x_then ?_
      refine J.x_block ?_
      refine J.n_then ?_
      refine J.region ?_
      refine J.op (Yd.move rfl) rfl ?_
      refine J.op (Yd.move rfl) rfl ?_
      refine J.op (Yd.nilCheck rfl) rfl ?_
      refine J.op (Yd.cast (Yd.fieldA Try.underlying61 rfl ti24 rfl rfl) (show _ = Value.pointer (some ⟨b35_5, 0, none⟩) from rfl)) rfl ?_
      refine J.op (Yd.loadA ag24 ti24 rfl c35_5 0 rfl) rfl ?_
      refine J.eff (Ye.call cl9 rfl (Permute_ok (by first | assumption | exact permL_len _))) rfl ?_
      rintro _ w10 ⟨rfl, x1⟩
      have e0 := e0.trans x1
      have c35_5 := c35_5.ext x1
      have hv := hv.ext x1
      clear x1
      refine J.op (Yd.nilCheck rfl) rfl ?_
      refine J.op (Yd.cast (Yd.fieldA Try.underlying61 rfl ti24 rfl rfl) (show _ = Value.pointer (some ⟨b35_5, 0, none⟩) from rfl)) rfl ?_
      refine J.eff0 (Ye.storeA (ys := List.map (fun x : UInt64 => W64 x) _) ti24 c35_5 0 rfl rfl rfl rfl (by first | (rw [List.length_map]; omega) | (simp; done) | rfl | (simp <;> omega)) (one_M _ (fun _ => rfl))) ?_
      rintro _ w11 ⟨cX, hu⟩
      simp only [List.set_cons_zero, List.set_cons_succ] at cX
      have hg := hu.gb
      have hv := Rd.gbk hv hg (Ap.symm ap_b35_5_v)
      have e0 := Ext.gbk e0 fr_b35_5 hg
      clear hg
      replace c35_5 := cX
      clear cX hu
      refine J.nil ?_
      refine J.n_block ?_
      refine J.n_then ?_
      refine J.region ?_
      refine J.op (Yd.move rfl) rfl ?_
      refine J.op (Yd.move rfl) rfl ?_
      refine J.op (Yd.slcL Try.underlying31 ti5 rfl hv rfl (by first | omega | (simp only [List.length_append, List.length_cons, List.length_nil]; omega) | (simp only [Int.toNat_natCast]; omega) | (simp <;> omega))) rfl ?_
      refine J.op (Yd.assign rfl) rfl ?_
      refine J.nil ?_
      refine J.n_then ?_
      exact J.round ((k + 1, _)) ⟨rfl, rfl, rfl, trivial⟩ (⟨by show R * (k + 1) ≤ (padK R e ll.flatten).length; exact hbi.2, Cel.eq c35_5 (by exact congrArg (fun l => [(0, 25, List.map (fun x : UInt64 => W64 x) l), (25, 1, [I (R : Int)]), (26, 1, [I 0])]) (skK_next (by omega) k)), by show Bs _ _ ((padK R e ll.flatten).drop (R * (k + 1))); rw [hms, ← List.drop_drop]; exact Bs.tail hv (by rw [List.length_drop]; omega) (by rw [List.length_map]), (Ap.symm (Ap.slc (Ap.symm ap_b35_5_v))), e0⟩) (by show (padK R e ll.flatten).length - R * (k + 1) < (padK R e ll.flatten).length - R * k; have hms : R * (k + 1) = R * k + R := Nat.mul_succ R k; omega)
  · skip
    refine J.exit ?_
    refine J.x_then ?_
    refine J.x_then ?_
    refine J.x_block ?_
    refine J.n_then ?_
    refine J.seq ?_
    refine J.region ?_
    refine J.op (Yd.move rfl) rfl ?_
    refine J.op (Yd.assign rfl) rfl ?_
    refine J.nil ?_
    refine J.n_then ?_
    refine J.ret ?_
    exact J.ret1 rfl rfl (⟨_, rfl, b35_5, rfl, fr_b35_5 _ rfl, (by have h9 : Cel _ _ _ [(0, 25, (skK R (padK R e ll.flatten) k).map (fun x : UInt64 => W64 x)), (25, 1, [I (R : Int)]), (26, 1, [I 0])] := c35_5; rw [soak_of hR.1 (by omega), spS_zero] at h9; exact h9), e0⟩)
end Ytpcbkeikhojmbaa
end Go.Proofs
