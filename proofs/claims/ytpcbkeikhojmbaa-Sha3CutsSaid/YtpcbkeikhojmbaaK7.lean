import Derived.Test.YtpcbkeikhojmbaaT
import Derived.Test.YtpcbkeikhojmbaaX22
import Derived.Test.YtpcbkeikhojmbaaK6
set_option linter.unusedVariables false
set_option linter.unusedSimpArgs false
set_option maxRecDepth 100000
set_option maxHeartbeats 4000000
namespace Go.Proofs
open Go.X Go.RowKit
namespace Ytpcbkeikhojmbaa
theorem RSponge_ok {R : Nat} {e : UInt8} {a : Value} {l : List UInt8} {n : Int} {w : World} (hR : 0 < R ∧ R ≤ 200) (ha : Bs w a l) (hl : l.length ≤ 1000000) (hn : n ≤ 1000000) : C Try.prog 29 [I (R : Int), B e, a, I n] w (Ret fun v w' => Ob w.heap.size 5 w' v (sqL (soakK R e l) R n.toNat) ∧ Ext w w') := by
  have hpl := padK_len R e l
  have hpp := padK_pos hR.1 e l
  have hzl := zpK_lt (n := l.length + 1) hR.1
  have hpz := pzK_len R e l
  have e0 := Ext.refl w
  refine C.enter Try.func29 rfl Try.ntmps29 rfl ?_
  refine J.seq ?_
  refine J.region ?_
  refine J.op (Yd.assign rfl) rfl ?_
  refine J.nil ?_
  refine J.n_then ?_
  refine J.seq ?_
  refine J.region ?_
  refine J.eff (Ye.lit0 (base := w.heap.size) (f := (fun x : UInt8 => B x)) Try.underlying31 ti5 rfl (Nat.le_refl _)) rfl ?_
  rintro s15_1 w1 ⟨o15_1, x1⟩
  have fr_s15_1 : Fr w.heap.size s15_1.ownBlock := Fr.le (Ow.fr o15_1) e0.size
  replace o15_1 := Ow.base o15_1 e0.size
  have e0 := e0.trans x1
  clear x1
  refine J.op (Yd.move rfl) rfl ?_
  refine J.eff (Ye.appendS Try.underlying31 ti5 rfl rfl rfl rfl o15_1 (Rd.ext ha e0) (fun _ => rfl) (by first | omega | (simp only [List.length_append, List.length_cons, List.length_nil, List.length_replicate]; omega) | (simp only [Int.toNat_natCast]; omega) | (simp <;> omega)) e0.size) rfl ?_
  rintro s17_2 w2 ⟨o17_2, hg, hsf⟩
  have fr_s17_2 : Fr w.heap.size s17_2.ownBlock := Fr.sf fr_s15_1 hsf e0.size
  have e0 := Ext.gbk e0 fr_s15_1 hg
  clear hg hsf
  rw [List.nil_append] at o17_2
  refine J.op (Yd.move rfl) rfl ?_
  refine J.eff (Ye.lit1 (base := w2.heap.size) (f := (fun x : UInt8 => B x)) Try.underlying31 ti5 rfl rfl (fun _ => rfl) (Nat.le_refl _)) rfl ?_
  rintro s19_3 w3 ⟨o19_3, x1⟩
  have ap_s17_2_s19_3 : Ap s17_2.ownBlock s19_3.ownBlock := Ap.mk (Ow.live o17_2) (Ow.fr o19_3)
  have fr_s19_3 : Fr w.heap.size s19_3.ownBlock := Fr.le (Ow.fr o19_3) e0.size
  replace o19_3 := Ow.base o19_3 e0.size
  have e0 := e0.trans x1
  have o17_2 := o17_2.ext x1
  clear x1
  refine J.eff (Ye.appendS Try.underlying31 ti5 rfl rfl rfl rfl o17_2 (Ow.rd o19_3) (fun _ => rfl) (by first | omega | (simp only [List.length_append, List.length_cons, List.length_nil, List.length_replicate]; omega) | (simp only [Int.toNat_natCast]; omega) | (simp <;> omega)) e0.size) rfl ?_
  rintro s20_4 w4 ⟨o20_4, hg, hsf⟩
  have ap_s19_3_s20_4 : Ap s19_3.ownBlock s20_4.ownBlock := Ap.sf (Ap.symm ap_s17_2_s19_3) (Ow.live o19_3) hsf
  have fr_s20_4 : Fr w.heap.size s20_4.ownBlock := Fr.sf fr_s17_2 hsf e0.size
  have o19_3 := Ow.gbk o19_3 hg (Ap.symm ap_s17_2_s19_3)
  have e0 := Ext.gbk e0 fr_s17_2 hg
  clear hg hsf
  refine J.op (Yd.assign rfl) rfl ?_
  refine J.nil ?_
  refine J.n_then ?_
  refine J.seq ?_
  refine J.block ?_
  refine J.loop (ι := Nat × Value) (fun i => [(0, I (R : Int)), (3, I n), (9, i.2)]) (fun i w' => i.1 ≤ zpK R (l.length + 1) ∧ Ob w.heap.size 5 w' i.2 (l ++ [e] ++ List.replicate i.1 0) ∧ Fr w.heap.size (i.2).ownBlock ∧ Ext w w') (fun i => zpK R (l.length + 1) - i.1) ((0, s20_4)) ⟨rfl, rfl, rfl, trivial⟩ (⟨Nat.zero_le _, (by rw [List.replicate_zero, List.append_nil]; exact o20_4), fr_s20_4, e0⟩) ?_
  rintro ⟨z, v9⟩ w5 ⟨hz, ho9, fr_v9, e0⟩
  dsimp only at *
  have hl9 : (l ++ [e] ++ List.replicate z (0 : UInt8)).length = l.length + 1 + z := by simp; omega
  replace hz : z ≤ zpK R (l.length + 1) := hz
  refine J.seq ?_
  refine J.seq ?_
  refine J.region ?_
  refine J.op (Yd.move rfl) rfl ?_
  refine J.op (Yd.len_b Try.underlying31 rfl (Ow.rd ho9)) rfl ?_
  refine J.op (Yd.move rfl) rfl ?_
  refine J.op (Yd.rem rfl rfl (by first | omega | (simp only [List.length_append, List.length_cons, List.length_nil, List.length_replicate]; omega) | (simp only [Int.toNat_natCast]; omega) | (simp <;> omega)) (by first | omega | (simp only [List.length_append, List.length_cons, List.length_nil, List.length_replicate]; omega) | (simp only [Int.toNat_natCast]; omega) | (simp <;> omega))) rfl ?_
  refine J.op (Yd.neq rfl rfl) rfl ?_
  refine J.nil ?_
  refine J.n_then ?_
  refine J.cond_dec rfl (fun hc0 => ?_) (fun hc0 => ?_)
  · skip
    have hz2 : (l.length + 1 + z) % R ≠ 0 := zp_int (by rw [← hl9]; exact hc0)
    refine J.skip ?_
    refine J.n_then ?_
    refine J.block ?_
    refine J.region ?_
    refine J.op (Yd.move rfl) rfl ?_
    refine J.eff (Ye.litM (base := w5.heap.size) (f := fun x : UInt8 => B x) ([0] : List UInt8) Try.underlying31 ti5 rfl rfl rfl rfl (fun _ => rfl) rfl (Nat.le_refl _)) rfl ?_
    rintro s27_6 w6 ⟨o27_6, x1⟩
    have ap_v9_s27_6 : Ap v9.ownBlock s27_6.ownBlock := Ap.mk (Ow.live ho9) (Ow.fr o27_6)
    have fr_s27_6 : Fr w.heap.size s27_6.ownBlock := Fr.le (Ow.fr o27_6) e0.size
    replace o27_6 := Ow.base o27_6 e0.size
    have e0 := e0.trans x1
    have ho9 := ho9.ext x1
    clear x1
    refine J.eff (Ye.appendS Try.underlying31 ti5 rfl rfl rfl rfl ho9 (Ow.rd o27_6) (fun _ => rfl) (by first | omega | (simp only [List.length_append, List.length_cons, List.length_nil, List.length_replicate]; omega) | (simp only [Int.toNat_natCast]; omega) | (simp <;> omega)) e0.size) rfl ?_
    rintro s28_7 w7 ⟨o28_7, hg, hsf⟩
    have ap_s27_6_s28_7 : Ap s27_6.ownBlock s28_7.ownBlock := Ap.sf (Ap.symm ap_v9_s27_6) (Ow.live o27_6) hsf
    have fr_s28_7 : Fr w.heap.size s28_7.ownBlock := Fr.sf fr_v9 hsf e0.size
    have o27_6 := Ow.gbk o27_6 hg (Ap.symm ap_v9_s27_6)
    have e0 := Ext.gbk e0 fr_v9 hg
    clear hg hsf
    refine J.op (Yd.assign rfl) rfl ?_
    refine J.nil ?_
    refine J.n_block ?_
    refine J.n_then ?_
    exact J.round ((z + 1, s28_7)) ⟨rfl, rfl, rfl, trivial⟩ (⟨by show z + 1 ≤ zpK R (l.length + 1); rcases (show z < zpK R (l.length + 1) ∨ z = zpK R (l.length + 1) by omega) with h | rfl; exact h; exact absurd (zpK_mod hR.1) hz2, (by show Ob _ _ _ _ (l ++ [e] ++ List.replicate (z + 1) 0); rw [List.replicate_succ', ← List.append_assoc]; exact o28_7), fr_s28_7, e0⟩) (by show zpK R (l.length + 1) - (z + 1) < zpK R (l.length + 1) - z; rcases (show z < zpK R (l.length + 1) ∨ z = zpK R (l.length + 1) by omega) with h | rfl; omega; exact absurd (zpK_mod hR.1) hz2)
  · skip
    have hz3 : (l.length + 1 + z) % R = 0 := zp_int0 (by rw [← hl9]; exact hc0)
    have hz4 : z = zpK R (l.length + 1) := by rcases (show z < zpK R (l.length + 1) ∨ z = zpK R (l.length + 1) by omega) with h | h; exact absurd hz3 (zpK_no hR.1 h); exact h
    have hpl9 : l ++ [e] ++ List.replicate z 0 = (pzK R e l) := by rw [hz4]; rfl
    rw [hpl9] at hl9
    refine J.exit ?_
    refine J.x_then ?_
    refine J.x_then ?_
    refine J.x_block ?_
    refine J.n_then ?_
    refine J.seq ?_
    refine J.region ?_
    refine J.op (Yd.move rfl) rfl ?_
    refine J.op (Yd.move rfl) rfl ?_
    refine J.op (Yd.len_b Try.underlying31 rfl (Ow.rd ho9)) rfl ?_
    refine J.op (Yd.sub rfl rfl (by first | omega | (simp only [List.length_append, List.length_cons, List.length_nil, List.length_replicate]; omega) | (simp only [Int.toNat_natCast]; omega) | (simp <;> omega))) rfl ?_
    refine J.op (Yd.move rfl) rfl ?_
    refine J.op (Yd.move rfl) rfl ?_
    refine J.op (Yd.len_b Try.underlying31 rfl (Ow.rd ho9)) rfl ?_
    refine J.op (Yd.sub rfl rfl (by first | omega | (simp only [List.length_append, List.length_cons, List.length_nil, List.length_replicate]; omega) | (simp only [Int.toNat_natCast]; omega) | (simp <;> omega))) rfl ?_
    refine J.op (Yd.idx_b Try.underlying31 ti5 rfl rfl (Ow.rd ho9) (by first | omega | (simp only [List.length_append, List.length_cons, List.length_nil, List.length_replicate]; omega) | (simp only [Int.toNat_natCast]; omega) | (simp <;> omega))) rfl ?_
    refine J.op (Yd.load pl5 rfl (Bs.cell (Ow.rd ho9) (by first | omega | (simp only [List.length_append, List.length_cons, List.length_nil, List.length_replicate]; omega) | (simp only [Int.toNat_natCast]; omega) | (simp <;> omega)))) rfl ?_
    refine J.op (Yd.or_u8 (n := 128) rfl rfl) rfl ?_
    refine J.op (Yd.idx_b Try.underlying31 ti5 rfl rfl (Ow.rd ho9) (by first | omega | (simp only [List.length_append, List.length_cons, List.length_nil, List.length_replicate]; omega) | (simp only [Int.toNat_natCast]; omega) | (simp <;> omega))) rfl ?_
    refine J.eff0 (Ye.storeOwM ti5 ho9 rfl rfl (by first | omega | (simp only [List.length_append, List.length_cons, List.length_nil, List.length_replicate]; omega) | (simp only [Int.toNat_natCast]; omega) | (simp <;> omega)) (fun _ => rfl) (fun _ => rfl)) ?_
    rintro _ w8 ⟨o', hg⟩
    have e0 := Ext.gbk e0 fr_v9 hg
    replace ho9 := o'
    clear hg o'
    refine J.nil ?_
    refine J.n_then ?_
    refine J.seq ?_
    refine J.region ?_
    refine J.eff (Ye.alloc ti24 (S := [(0, 25, (List.replicate 25 0).map (fun x : UInt64 => W64 x))]) (by simp [SegAll, SegOK, Value.cells])) rfl ?_
    rintro _ w9 ⟨b10_8, rfl, hb_, c10_8, x1⟩
    have ap_v9_b10_8 : Ap v9.ownBlock (some b10_8) := Ap.mk (Ow.live ho9) (Fr.blk hb_)
    have fr_b10_8 : Fr w.heap.size (some b10_8) := Fr.le (Fr.blk hb_) e0.size
    have e0 := e0.trans x1
    have ho9 := ho9.ext x1
    clear x1 hb_
    refine J.nil ?_
    refine J.n_then ?_
    refine J.seq ?_
    refine J.seq ?_
    refine J.region ?_
    refine J.op (Yd.assign rfl) rfl ?_
    refine J.nil ?_
    refine J.n_then ?_
    refine J.block ?_
    have hM : Ob w.heap.size 5 _ v9 (padK R e l) := (by have h9 := ho9; rw [hpl9, show (((pzK R e l).length : Int) - 1).toNat = (pzK R e l).length - 1 by omega] at h9; exact h9)
    refine J.loop (ι := Nat) (fun i => [(0, I (R : Int)), (3, I n), (11, I ((R * i : Nat) : Int)), (10, .pointer (some ⟨b10_8, 0, none⟩)), (9, v9)]) (fun i w' => R * i ≤ (padK R e l).length ∧ Cel w' b10_8 24 [(0, 25, (skK R (padK R e l) i).map (fun x : UInt64 => W64 x))] ∧ Ob w.heap.size 5 w' v9 (padK R e l) ∧ Ext w w') (fun i => (padK R e l).length - R * i) (0) ⟨rfl, rfl, (someI (by rw [Nat.mul_zero]; rfl)), rfl, rfl, trivial⟩ (⟨Nat.zero_le _, Cel.eq c10_8 (by rfl), hM, e0⟩) ?_
    rintro k w10 ⟨hk, c10_8, hM, e0⟩
    refine J.seq ?_
    refine J.seq ?_
    refine J.region ?_
    refine J.op (Yd.move rfl) rfl ?_
    refine J.op (Yd.move rfl) rfl ?_
    refine J.op (Yd.len_b Try.underlying31 rfl (Ow.rd hM)) rfl ?_
    refine J.op (Yd.lss rfl rfl) rfl ?_
    refine J.nil ?_
    refine J.n_then ?_
    refine J.cond_dec rfl (fun hc1 => ?_) (fun hc1 => ?_)
    · skip
      have hbi := blk_in (R := R) (k := k) (j := 0) (n := (padK R e l).length) (by omega) (padK_mod hR.1 e l) hR.1
      refine J.skip ?_
      refine J.n_then ?_
      refine J.seq ?_
      refine J.block ?_
      refine J.seq ?_
      refine J.seq ?_
      refine J.region ?_
      refine J.op (Yd.assign rfl) rfl ?_
      refine J.nil ?_
      refine J.n_then ?_
      refine J.block ?_
      refine J.loop (ι := Nat) (fun i => [(0, I (R : Int)), (3, I n), (11, I ((R * k : Nat) : Int)), (12, I i), (10, .pointer (some ⟨b10_8, 0, none⟩)), (9, v9)]) (fun i w' => i ≤ R ∧ Cel w' b10_8 24 [(0, 25, (abK (skK R (padK R e l) k) (padK R e l) (R * k) i).map (fun x : UInt64 => W64 x))] ∧ Ob w.heap.size 5 w' v9 (padK R e l) ∧ Ext w w') (fun i => R - i) (0) ⟨rfl, rfl, rfl, rfl, rfl, rfl, trivial⟩ (⟨Nat.zero_le _, Cel.eq c10_8 (by rfl), hM, e0⟩) ?_
      rintro j w11 ⟨hj, c10_8, hM, e0⟩
      have hal := abK_len (skK R (padK R e l) k) (padK R e l) (R * k) j
      rw [skK_len] at hal
      refine J.seq ?_
      refine J.seq ?_
      refine J.region ?_
      refine J.op (Yd.move rfl) rfl ?_
      refine J.op (Yd.move rfl) rfl ?_
      refine J.op (Yd.lss rfl rfl) rfl ?_
      refine J.nil ?_
      refine J.n_then ?_
      refine J.cond_dec rfl (fun hc2 => ?_) (fun hc2 => ?_)
      · skip
        have hbj := blk_in (R := R) (k := k) (j := j) (n := (padK R e l).length) (by omega) (padK_mod hR.1 e l) (by omega)
        refine J.skip ?_
        refine J.n_then ?_
        refine J.seq ?_
        refine J.block ?_
        refine J.regionO [(0, true), (1, true), (2, true), (3, true), (4, true), (6, true), (7, true), (8, true), (9, true), (13, true), (14, true), (15, true)] [(5, 1), (10, 1), (11, 1), (12, 1), (16, 1)] [(17, true), (18, true), (19, false)] mix (by kernel_rfl) ?_
        refine J.s_op rfl (fun _ => Yd.move rfl) rfl ?_
        refine J.s_op rfl (fun _ => Yd.quo rfl rfl (by first | omega | (simp only [List.length_append, List.length_cons, List.length_nil, List.length_replicate]; omega) | (simp only [Int.toNat_natCast]; omega) | (simp <;> omega)) (by first | omega | (simp only [List.length_append, List.length_cons, List.length_nil, List.length_replicate]; omega) | (simp only [Int.toNat_natCast]; omega) | (simp <;> omega)) (by first | omega | (simp only [List.length_append, List.length_cons, List.length_nil, List.length_replicate]; omega) | (simp only [Int.toNat_natCast]; omega) | (simp <;> omega))) rfl ?_
        refine J.s_op rfl (fun _ => Yd.move rfl) rfl ?_
        refine J.s_op rfl (fun _ => Yd.quo rfl rfl (by first | omega | (simp only [List.length_append, List.length_cons, List.length_nil, List.length_replicate]; omega) | (simp only [Int.toNat_natCast]; omega) | (simp <;> omega)) (by first | omega | (simp only [List.length_append, List.length_cons, List.length_nil, List.length_replicate]; omega) | (simp only [Int.toNat_natCast]; omega) | (simp <;> omega)) (by first | omega | (simp only [List.length_append, List.length_cons, List.length_nil, List.length_replicate]; omega) | (simp only [Int.toNat_natCast]; omega) | (simp <;> omega))) rfl ?_
        refine J.s_op rfl (fun _ => Yd.idxA Try.underlying24 ti23 rfl rfl (by first | omega | (simp only [List.length_append, List.length_cons, List.length_nil, List.length_replicate]; omega) | (simp only [Int.toNat_natCast]; omega) | (simp <;> omega))) rfl ?_
        refine J.s_op rfl (fun _ => Yd.move rfl) rfl ?_
        refine J.s_op rfl (fun _ => Yd.move rfl) rfl ?_
        refine J.s_op rfl (fun _ => Yd.move rfl) rfl ?_
        refine J.s_op rfl (fun _ => Yd.add rfl rfl (by first | omega | (simp only [List.length_append, List.length_cons, List.length_nil, List.length_replicate]; omega) | (simp only [Int.toNat_natCast]; omega) | (simp <;> omega))) rfl ?_
        refine J.s_op rfl (fun _ => Yd.move rfl) rfl ?_
        refine J.s_op rfl (fun _ => Yd.rem rfl rfl (by first | omega | (simp only [List.length_append, List.length_cons, List.length_nil, List.length_replicate]; omega) | (simp only [Int.toNat_natCast]; omega) | (simp <;> omega)) (by first | omega | (simp only [List.length_append, List.length_cons, List.length_nil, List.length_replicate]; omega) | (simp only [Int.toNat_natCast]; omega) | (simp <;> omega))) rfl ?_
        refine J.s_op rfl (fun _ => Yd.mul rfl rfl (by first | omega | (simp only [List.length_append, List.length_cons, List.length_nil, List.length_replicate]; omega) | (simp only [Int.toNat_natCast]; omega) | (simp <;> omega))) rfl ?_
        refine J.s_nil ?_
        refine J.o_op rfl (Yd.load pl23 rfl (Cel.cellM c10_8 0 rfl 0 (by have hl_ := Cel.lenM c10_8 0 rfl; first | omega | (rw [hl_]; exact idx_u8' _) | (simp only [Int.toNat_natCast]; omega) | (simp at hl_ ⊢ <;> omega)))) rfl ?_
        refine J.o_op rfl (Yd.idx_b Try.underlying31 ti5 rfl rfl (Ow.rd hM) (by first | omega | (simp only [List.length_append, List.length_cons, List.length_nil, List.length_replicate]; omega) | (simp only [Int.toNat_natCast]; omega) | (simp <;> omega))) rfl ?_
        refine J.o_op rfl (Yd.load pl5 rfl (Bs.cell (Ow.rd hM) (by first | omega | (simp only [List.length_append, List.length_cons, List.length_nil, List.length_replicate]; omega) | (simp only [Int.toNat_natCast]; omega) | (simp <;> omega)))) rfl ?_
        refine J.o_op rfl (Yd.cv_8_64 Try.underlying5 Try.underlying23 rfl) rfl ?_
        refine J.o_op rfl (Yd.shl_u64 rfl rfl (by first | omega | (simp only [List.length_append, List.length_cons, List.length_nil, List.length_replicate]; omega) | (simp only [Int.toNat_natCast]; omega) | (simp <;> omega))) rfl ?_
        refine J.o_nil ?_
        refine J.s_op rfl (fun _ => Yd.xor_u64 rfl rfl) rfl ?_
        refine J.s_op rfl (fun _ => Yd.idxA Try.underlying24 ti23 rfl rfl (by first | omega | (simp only [List.length_append, List.length_cons, List.length_nil, List.length_replicate]; omega) | (simp only [Int.toNat_natCast]; omega) | (simp <;> omega))) rfl ?_
        refine J.s_eff0 rfl (Ye.storeM ti23 c10_8 0 rfl rfl rfl rfl (by first | omega | (simp only [List.length_append, List.length_cons, List.length_nil, List.length_replicate]; omega) | (simp only [Int.toNat_natCast]; omega) | (simp <;> omega)) (fun _ => rfl) (fun _ => rfl)) ?_
        rintro _ w12 ⟨cX, hu⟩
        simp only [List.set_cons_zero, List.set_cons_succ] at cX
        have hg := hu.gb
        have hM := Ow.gbk hM hg ap_v9_b10_8
        have e0 := Ext.gbk e0 fr_b10_8 hg
        clear hg
        replace c10_8 := cX
        clear cX hu
        refine J.s_nil ?_
        refine J.n_np ?_
        refine J.n_block ?_
        refine J.n_then ?_
        refine J.region ?_
        refine J.op (Yd.move rfl) rfl ?_
        refine J.op (Yd.add rfl rfl (by first | omega | (simp only [List.length_append, List.length_cons, List.length_nil, List.length_replicate]; omega) | (simp only [Int.toNat_natCast]; omega) | (simp <;> omega))) rfl ?_
        refine J.op (Yd.assign rfl) rfl ?_
        refine J.nil ?_
        refine J.n_then ?_
        exact J.round (j + 1) ⟨rfl, rfl, rfl, rfl, rfl, rfl, trivial⟩ (⟨by omega, Cel.eq c10_8 (by exact congrArg (fun l => [(0, 25, List.map (fun x : UInt64 => W64 x) l)]) (abK_next _ _ _ j (ab_ix j) (by rw [ab_ix, ab_sh, show (((R * k : Nat) : Int) + (j : Int)).toNat = R * k + j by omega]))), hM, e0⟩) (by omega)
      · skip
        refine J.exit ?_
        refine J.x_then ?_
        refine J.x_then ?_
        refine J.x_block ?_
        refine J.n_then ?_
        refine J.region ?_
        refine J.op (Yd.loadA ag24 ti24 rfl c10_8 0 rfl) rfl ?_
        refine J.eff (Ye.call cl10 rfl (RPermute_ok (by first | (rw [abK_len, skK_len]; done) | exact hqs))) rfl ?_
        rintro _ w13 ⟨rfl, x1⟩
        have e0 := e0.trans x1
        have c10_8 := c10_8.ext x1
        have hM := hM.ext x1
        clear x1
        refine J.eff0 (Ye.storeA (ys := List.map (fun x : UInt64 => W64 x) _) ti24 c10_8 0 rfl rfl rfl rfl (by first | (rw [List.length_map]; omega) | (simp; done) | rfl | (simp <;> omega)) (one_M _ (fun _ => rfl))) ?_
        rintro _ w14 ⟨cX, hu⟩
        simp only [List.set_cons_zero, List.set_cons_succ] at cX
        have hg := hu.gb
        have hM := Ow.gbk hM hg ap_v9_b10_8
        have e0 := Ext.gbk e0 fr_b10_8 hg
        clear hg
        replace c10_8 := cX
        clear cX hu
        refine J.nil ?_
        refine J.n_block ?_
        refine J.n_then ?_
        refine J.region ?_
        refine J.op (Yd.move rfl) rfl ?_
        refine J.op (Yd.move rfl) rfl ?_
        refine J.op (Yd.add rfl rfl (by first | omega | (simp only [List.length_append, List.length_cons, List.length_nil, List.length_replicate]; omega) | (simp only [Int.toNat_natCast]; omega) | (simp <;> omega))) rfl ?_
        refine J.op (Yd.assign rfl) rfl ?_
        refine J.nil ?_
        refine J.n_then ?_
        exact J.round (k + 1) ⟨rfl, rfl, (someI (by have hms : R * (k + 1) = R * k + R := Nat.mul_succ R k; omega)), rfl, rfl, trivial⟩ (⟨hbi.2, Cel.eq c10_8 (by exact congrArg (fun l => [(0, 25, List.map (fun x : UInt64 => W64 x) l)]) (skK_next (by omega) k)), hM, e0⟩) (by have hms : R * (k + 1) = R * k + R := Nat.mul_succ R k; omega)
    · skip
      refine J.exit ?_
      refine J.x_then ?_
      refine J.x_then ?_
      refine J.x_block ?_
      refine J.n_then ?_
      refine J.seq ?_
      refine J.region ?_
      refine J.op (Yd.assign rfl) rfl ?_
      refine J.nil ?_
      refine J.n_then ?_
      refine J.seq ?_
      refine J.block ?_
      refine J.loop (ι := Nat × Value) (fun i => [(0, I (R : Int)), (3, I n), (10, .pointer (some ⟨b10_8, 0, none⟩)), (13, i.2)]) (fun i w' => Cel w' b10_8 24 [(0, 25, (sqS (soakK R e l) i.1).map (fun x : UInt64 => W64 x))] ∧ Ob w.heap.size 5 w' i.2 (sqL (soakK R e l) R (min n.toNat (R * i.1))) ∧ Fr w.heap.size (i.2).ownBlock ∧ Ap (some b10_8) (i.2).ownBlock ∧ Ext w w') (fun i => n.toNat - R * i.1) ((0, nilS)) ⟨rfl, rfl, rfl, rfl, trivial⟩ (⟨Cel.eq c10_8 (by rw [soak_of hR.1 (by omega)]; rfl), (by rw [Nat.mul_zero, Nat.min_zero]; exact Ow.nil _ _ _), Fr.nil, Ap.nil_r, e0⟩) ?_
      rintro ⟨q, v13⟩ w15 ⟨c10_8, ho13, fr_v13, ap_b10_8_v13, e0⟩
      dsimp only at *
      have hsl := sqL_len (soakK R e l) R (min n.toNat (R * q))
      have hmq : R * (q + 1) = R * q + R := Nat.mul_succ R q
      have hqs := sqS_len (soakK R e l) (soakK_len _ _ _) q
      refine J.seq ?_
      refine J.seq ?_
      refine J.region ?_
      refine J.op (Yd.move rfl) rfl ?_
      refine J.op (Yd.len_b Try.underlying31 rfl (Ow.rd ho13)) rfl ?_
      refine J.op (Yd.move rfl) rfl ?_
      refine J.op (Yd.lss rfl rfl) rfl ?_
      refine J.nil ?_
      refine J.n_then ?_
      refine J.cond_dec rfl (fun hc3 => ?_) (fun hc3 => ?_)
      · skip
        refine J.skip ?_
        refine J.n_then ?_
        refine J.block ?_
        refine J.seq ?_
        refine J.seq ?_
        refine J.region ?_
        refine J.op (Yd.assign rfl) rfl ?_
        refine J.nil ?_
        refine J.n_then ?_
        refine J.block ?_
        refine J.loop (ι := Nat × Value) (fun i => [(0, I (R : Int)), (3, I n), (14, I i.1), (10, .pointer (some ⟨b10_8, 0, none⟩)), (13, i.2)]) (fun i w' => i.1 ≤ R ∧ R * q + i.1 ≤ n.toNat ∧ Cel w' b10_8 24 [(0, 25, (sqS (soakK R e l) q).map (fun x : UInt64 => W64 x))] ∧ Ob w.heap.size 5 w' i.2 (sqL (soakK R e l) R (R * q + i.1)) ∧ Fr w.heap.size (i.2).ownBlock ∧ Ap (some b10_8) (i.2).ownBlock ∧ Ext w w') (fun i => R - i.1) ((0, v13)) ⟨rfl, rfl, rfl, rfl, rfl, trivial⟩ (⟨Nat.zero_le _, by show R * q + 0 ≤ n.toNat; omega, c10_8, (by show Ob _ _ _ _ (sqL (soakK R e l) R (R * q + 0)); rw [Nat.add_zero, ← show min n.toNat (R * q) = R * q by omega]; exact ho13), fr_v13, ap_b10_8_v13, e0⟩) ?_
        rintro ⟨i, u13⟩ w16 ⟨hi, hi2, c10_8, hu13, fr_u13, ap_b10_8_u13, e0⟩
        dsimp only at *
        have hsl2 := sqL_len (soakK R e l) R (R * q + i)
        refine J.seq ?_
        refine J.seq ?_
        refine J.region ?_
        refine J.op (Yd.move rfl) rfl ?_
        refine J.op (Yd.move rfl) rfl ?_
        refine J.op (Yd.lss rfl rfl) rfl ?_
        refine J.op (Yd.move rfl) rfl ?_
        refine J.split_dec (t := 81) rfl (fun h17 => ?_) (fun h17 => ?_)
        · skip
          refine J.op_g rfl rfl rfl (Yd.move rfl) rfl ?_
          refine J.op_g rfl rfl rfl (Yd.len_b Try.underlying31 rfl (Ow.rd hu13)) rfl ?_
          refine J.op_g rfl rfl rfl (Yd.move rfl) rfl ?_
          refine J.op_g rfl rfl rfl (Yd.lss rfl rfl) rfl ?_
          refine J.op (Yd.pick_t rfl rfl) rfl ?_
          refine J.nil ?_
          refine J.n_then ?_
          refine J.cond_dec rfl (fun hc4 => ?_) (fun hc4 => ?_)
          · skip
            refine J.skip ?_
            refine J.n_then ?_
            refine J.seq ?_
            refine J.block ?_
            refine J.region ?_
            refine J.op (Yd.move rfl) rfl ?_
            refine J.op (Yd.move rfl) rfl ?_
            refine J.op (Yd.quo rfl rfl (by first | omega | (simp only [List.length_append, List.length_cons, List.length_nil, List.length_replicate]; omega) | (simp only [Int.toNat_natCast]; omega) | (simp <;> omega)) (by first | omega | (simp only [List.length_append, List.length_cons, List.length_nil, List.length_replicate]; omega) | (simp only [Int.toNat_natCast]; omega) | (simp <;> omega)) (by first | omega | (simp only [List.length_append, List.length_cons, List.length_nil, List.length_replicate]; omega) | (simp only [Int.toNat_natCast]; omega) | (simp <;> omega))) rfl ?_
            refine J.op (Yd.idxA Try.underlying24 ti23 rfl rfl (by first | omega | (simp only [List.length_append, List.length_cons, List.length_nil, List.length_replicate]; omega) | (simp only [Int.toNat_natCast]; omega) | (simp <;> omega))) rfl ?_
            refine J.op (Yd.load pl23 rfl (Cel.cellM c10_8 0 rfl 0 (by have hl_ := Cel.lenM c10_8 0 rfl; first | omega | (rw [hl_]; exact idx_u8' _) | (simp only [Int.toNat_natCast]; omega) | (simp at hl_ ⊢ <;> omega)))) rfl ?_
            refine J.op (Yd.move rfl) rfl ?_
            refine J.op (Yd.rem rfl rfl (by first | omega | (simp only [List.length_append, List.length_cons, List.length_nil, List.length_replicate]; omega) | (simp only [Int.toNat_natCast]; omega) | (simp <;> omega)) (by first | omega | (simp only [List.length_append, List.length_cons, List.length_nil, List.length_replicate]; omega) | (simp only [Int.toNat_natCast]; omega) | (simp <;> omega))) rfl ?_
            refine J.op (Yd.mul rfl rfl (by first | omega | (simp only [List.length_append, List.length_cons, List.length_nil, List.length_replicate]; omega) | (simp only [Int.toNat_natCast]; omega) | (simp <;> omega))) rfl ?_
            refine J.op (Yd.shr_u64 rfl rfl (by first | omega | (simp only [List.length_append, List.length_cons, List.length_nil, List.length_replicate]; omega) | (simp only [Int.toNat_natCast]; omega) | (simp <;> omega))) rfl ?_
            refine J.op (Yd.cv_64_8 Try.underlying23 Try.underlying5 rfl) rfl ?_
            refine J.eff (Ye.lit1 (base := w16.heap.size) (f := (fun x : UInt8 => B x)) Try.underlying31 ti5 rfl rfl (fun _ => rfl) (Nat.le_refl _)) rfl ?_
            rintro s99_17 w17 ⟨o99_17, x1⟩
            have ap_b10_8_s99_17 : Ap (some b10_8) s99_17.ownBlock := Ap.mk (Cel.live c10_8) (Ow.fr o99_17)
            have ap_u13_s99_17 : Ap u13.ownBlock s99_17.ownBlock := Ap.mk (Ow.live hu13) (Ow.fr o99_17)
            have fr_s99_17 : Fr w.heap.size s99_17.ownBlock := Fr.le (Ow.fr o99_17) e0.size
            replace o99_17 := Ow.base o99_17 e0.size
            have e0 := e0.trans x1
            have c10_8 := c10_8.ext x1
            have hu13 := hu13.ext x1
            clear x1
            refine J.eff (Ye.appendS Try.underlying31 ti5 rfl rfl rfl rfl hu13 (Ow.rd o99_17) (fun _ => rfl) (by first | omega | (simp only [List.length_append, List.length_cons, List.length_nil, List.length_replicate]; omega) | (simp only [Int.toNat_natCast]; omega) | (simp <;> omega)) e0.size) rfl ?_
            rintro s100_18 w18 ⟨o100_18, hg, hsf⟩
            have ap_b10_8_s100_18 : Ap (some b10_8) s100_18.ownBlock := Ap.sf ap_b10_8_u13 (Cel.live c10_8) hsf
            have ap_s99_17_s100_18 : Ap s99_17.ownBlock s100_18.ownBlock := Ap.sf (Ap.symm ap_u13_s99_17) (Ow.live o99_17) hsf
            have fr_s100_18 : Fr w.heap.size s100_18.ownBlock := Fr.sf fr_u13 hsf e0.size
            have c10_8 := Cel.gbk c10_8 hg ap_b10_8_u13
            have o99_17 := Ow.gbk o99_17 hg (Ap.symm ap_u13_s99_17)
            have e0 := Ext.gbk e0 fr_u13 hg
            clear hg hsf
            refine J.op (Yd.assign rfl) rfl ?_
            refine J.nil ?_
            refine J.n_block ?_
            refine J.n_then ?_
            refine J.region ?_
            refine J.op (Yd.move rfl) rfl ?_
            refine J.op (Yd.add rfl rfl (by first | omega | (simp only [List.length_append, List.length_cons, List.length_nil, List.length_replicate]; omega) | (simp only [Int.toNat_natCast]; omega) | (simp <;> omega))) rfl ?_
            refine J.op (Yd.assign rfl) rfl ?_
            refine J.nil ?_
            refine J.n_then ?_
            exact J.round ((i + 1, s100_18)) ⟨rfl, rfl, rfl, rfl, rfl, trivial⟩ (⟨by show i + 1 ≤ R; omega, by show R * q + (i + 1) ≤ n.toNat; omega, c10_8, (by show Ob _ _ _ _ (sqL (soakK R e l) R (R * q + (i + 1))); have h9 := o100_18; rw [ab_ix, ab_sh, ← sqB_at (R := R) (i := i) (soakK R e l) q (by omega)] at h9; unfold sqL at h9 ⊢; rw [← Nat.add_assoc, sqF_succ, Nat.zero_add]; exact h9), fr_s100_18, ap_b10_8_s100_18, e0⟩) (by show R - (i + 1) < R - i; omega)
          · skip
            refine J.exit ?_
            refine J.x_then ?_
            refine J.x_then ?_
            refine J.x_block ?_
            refine J.n_then ?_
            refine J.region ?_
            refine J.op (Yd.loadA ag24 ti24 rfl c10_8 0 rfl) rfl ?_
            refine J.eff (Ye.call cl10 rfl (RPermute_ok (by first | (rw [abK_len, skK_len]; done) | exact hqs))) rfl ?_
            rintro _ w19 ⟨rfl, x1⟩
            have e0 := e0.trans x1
            have c10_8 := c10_8.ext x1
            have hu13 := hu13.ext x1
            clear x1
            refine J.eff0 (Ye.storeA (ys := List.map (fun x : UInt64 => W64 x) _) ti24 c10_8 0 rfl rfl rfl rfl (by first | (rw [List.length_map]; omega) | (simp; done) | rfl | (simp <;> omega)) (one_M _ (fun _ => rfl))) ?_
            rintro _ w20 ⟨cX, hu⟩
            simp only [List.set_cons_zero, List.set_cons_succ] at cX
            have hg := hu.gb
            have hu13 := Ow.gbk hu13 hg (Ap.symm ap_b10_8_u13)
            have e0 := Ext.gbk e0 fr_b10_8 hg
            clear hg
            replace c10_8 := cX
            clear cX hu
            refine J.nil ?_
            refine J.n_block ?_
            refine J.n_then ?_
            exact J.round ((q + 1, u13)) ⟨rfl, rfl, rfl, rfl, trivial⟩ (⟨Cel.eq c10_8 (by rfl), (by show Ob _ _ _ _ (sqL (soakK R e l) R (min n.toNat (R * (q + 1)))); rw [show min n.toNat (R * (q + 1)) = R * q + i by omega]; exact hu13), fr_u13, ap_b10_8_u13, e0⟩) (by show n.toNat - R * (q + 1) < n.toNat - R * q; omega)
        · skip
          refine J.not_g rfl rfl rfl rfl rfl ?_
          refine J.not_g rfl rfl rfl rfl rfl ?_
          refine J.not_g rfl rfl rfl rfl rfl ?_
          refine J.not_g rfl rfl rfl rfl rfl ?_
          refine J.op (Yd.pick_f rfl rfl) rfl ?_
          refine J.nil ?_
          refine J.n_then ?_
          refine J.cond_false rfl ?_
          refine J.exit ?_
          refine J.x_then ?_
          refine J.x_then ?_
          refine J.x_block ?_
          refine J.n_then ?_
          refine J.region ?_
          refine J.op (Yd.loadA ag24 ti24 rfl c10_8 0 rfl) rfl ?_
          refine J.eff (Ye.call cl10 rfl (RPermute_ok (by first | (rw [abK_len, skK_len]; done) | exact hqs))) rfl ?_
          rintro _ w21 ⟨rfl, x1⟩
          have e0 := e0.trans x1
          have c10_8 := c10_8.ext x1
          have hu13 := hu13.ext x1
          clear x1
          refine J.eff0 (Ye.storeA (ys := List.map (fun x : UInt64 => W64 x) _) ti24 c10_8 0 rfl rfl rfl rfl (by first | (rw [List.length_map]; omega) | (simp; done) | rfl | (simp <;> omega)) (one_M _ (fun _ => rfl))) ?_
          rintro _ w22 ⟨cX, hu⟩
          simp only [List.set_cons_zero, List.set_cons_succ] at cX
          have hg := hu.gb
          have hu13 := Ow.gbk hu13 hg (Ap.symm ap_b10_8_u13)
          have e0 := Ext.gbk e0 fr_b10_8 hg
          clear hg
          replace c10_8 := cX
          clear cX hu
          refine J.nil ?_
          refine J.n_block ?_
          refine J.n_then ?_
          exact J.round ((q + 1, u13)) ⟨rfl, rfl, rfl, rfl, trivial⟩ (⟨Cel.eq c10_8 (by rfl), (by show Ob _ _ _ _ (sqL (soakK R e l) R (min n.toNat (R * (q + 1)))); rw [show min n.toNat (R * (q + 1)) = R * q + i by omega]; exact hu13), fr_u13, ap_b10_8_u13, e0⟩) (by show n.toNat - R * (q + 1) < n.toNat - R * q; omega)
      · skip
        refine J.exit ?_
        refine J.x_then ?_
        refine J.x_then ?_
        refine J.x_block ?_
        refine J.n_then ?_
        refine J.seq ?_
        refine J.region ?_
        refine J.op (Yd.move rfl) rfl ?_
        refine J.op (Yd.assign rfl) rfl ?_
        refine J.nil ?_
        refine J.n_then ?_
        refine J.ret ?_
        exact J.ret1 rfl rfl (⟨_, rfl, (by have h9 := ho13; rw [show min n.toNat (R * q) = n.toNat by omega] at h9; exact h9), e0⟩)
end Ytpcbkeikhojmbaa
end Go.Proofs
