import Derived.Test.YtghklimejpmpnaaT
import Derived.Test.YtghklimejpmpnaaC1
set_option linter.unusedVariables false
set_option linter.unusedSimpArgs false
set_option maxRecDepth 100000
set_option maxHeartbeats 4000000
namespace Go.Proofs
open Go.X Go.RowKit
namespace Ytghklimejpmpnaa
theorem Split_ok {a : Value} {l : List UInt8} {id : Int} {n : Nat} {w : World} (ha : Bs w a l) (hn : (0 ≤ id ∧ id ≤ 1073741824) ∧ 1 ≤ n ∧ n ≤ 1000) (hl : 1 ≤ l.length ∧ l.length ≤ 10000) : C Try.prog 9 [I id, a, I (n : Int)] w (Ret fun u w' => ∃ s a', u = .tuple #[s, I 0] ∧ Es pcS 0 29 w' s (pcL id a' n l.length (nPc l.length n) (nPc l.length n)) ∧ Ob w.heap.size 5 w' a' l ∧ Fr w.heap.size s.ownBlock ∧ Ap a'.ownBlock s.ownBlock ∧ Ext w w') := by
  have e0 := Ext.refl w
  refine C.enterM Try.func9 rfl Try.ntmps9 rfl ?_
  refine J.seq ?_
  refine J.region ?_
  refine J.eff (Ye.box (S := [(0, 1, [I id])]) rfl (by simp [SegAll, SegOK, Value.cells])) rfl ?_
  rintro _ w1 ⟨b3_0, rfl, hb_, c3_0, x1⟩
  have fr_b3_0 : Fr w.heap.size (some b3_0) := Fr.le (Fr.blk hb_) e0.size
  have e0 := e0.trans x1
  clear x1 hb_
  refine J.eff (Ye.alloc ti24 (S := [(0, 1, [.slice none 0 0])]) (by simp [SegAll, SegOK, Value.cells])) rfl ?_
  rintro _ w2 ⟨b6_1, rfl, hb_, c6_1, x1⟩
  have ap_b3_0_b6_1 : Ap (some b3_0) (some b6_1) := Ap.mk (Cel.live c3_0) (Fr.blk hb_)
  have fr_b6_1 : Fr w.heap.size (some b6_1) := Fr.le (Fr.blk hb_) e0.size
  have e0 := e0.trans x1
  have c3_0 := c3_0.ext x1
  clear x1 hb_
  refine J.op (Yd.assign rfl) rfl ?_
  refine J.nil ?_
  refine J.n_then ?_
  refine J.seq ?_
  refine J.seq ?_
  refine J.region ?_
  refine J.op (Yd.load pl3 rfl (Cel.cell1 c3_0 0 rfl)) rfl ?_
  refine J.eff (Ye.call cl27 rfl (Within_ok)) rfl ?_
  rintro _ w3 ⟨rfl, x1⟩
  have e0 := e0.trans x1
  have c3_0 := c3_0.ext x1
  have c6_1 := c6_1.ext x1
  clear x1
  refine J.op (Yd.not_dec rfl) rfl ?_
  refine J.op (Yd.move rfl) rfl ?_
  refine J.know (t := 13) (v' := .bool false) rfl (ff (by omega)) ?_
  refine J.op_g rfl rfl rfl (Yd.move rfl) rfl ?_
  refine J.eff_g rfl rfl rfl (Ye.call cl27 rfl (Within_ok)) rfl ?_
  rintro _ w4 ⟨rfl, x1⟩
  have e0 := e0.trans x1
  have c3_0 := c3_0.ext x1
  have c6_1 := c6_1.ext x1
  clear x1
  refine J.op_g rfl rfl rfl (Yd.not_dec rfl) rfl ?_
  refine J.op (Yd.pick_f rfl rfl) rfl ?_
  refine J.op (Yd.move rfl) rfl ?_
  refine J.know (t := 18) (v' := .bool false) rfl (ff (by omega)) ?_
  refine J.op_g rfl rfl rfl (Yd.move rfl) rfl ?_
  refine J.op_g rfl rfl rfl (Yd.len_b Try.underlying22 rfl (Rd.ext ha e0)) rfl ?_
  refine J.eff_g rfl rfl rfl (Ye.call cl27 rfl (Within_ok)) rfl ?_
  rintro _ w5 ⟨rfl, x1⟩
  have e0 := e0.trans x1
  have c3_0 := c3_0.ext x1
  have c6_1 := c6_1.ext x1
  clear x1
  refine J.op_g rfl rfl rfl (Yd.not_dec rfl) rfl ?_
  refine J.op (Yd.pick_f rfl rfl) rfl ?_
  refine J.nil ?_
  refine J.n_then ?_
  refine J.know (t := 23) (v' := .bool false) rfl (ff (by omega)) ?_
  refine J.cond_false rfl ?_
  refine J.skip ?_
  refine J.n_then ?_
  refine J.seq ?_
  refine J.seq ?_
  refine J.region ?_
  refine J.op (Yd.move rfl) rfl ?_
  refine J.eff (Ye.call cl29 rfl (Clone_ok (Rd.ext ha e0) (by omega))) rfl ?_
  rintro s25_6 w6 ⟨os25_6, x1⟩
  have ap_b3_0_s25_6 : Ap (some b3_0) s25_6.ownBlock := Ap.mk (Cel.live c3_0) (Ow.fr os25_6)
  have ap_b6_1_s25_6 : Ap (some b6_1) s25_6.ownBlock := Ap.mk (Cel.live c6_1) (Ow.fr os25_6)
  have fr_s25_6 : Fr w.heap.size s25_6.ownBlock := Fr.le (Ow.fr os25_6) e0.size
  replace os25_6 := Ow.base os25_6 e0.size
  have e0 := e0.trans x1
  have c3_0 := c3_0.ext x1
  have c6_1 := c6_1.ext x1
  clear x1
  refine J.op (Yd.move rfl) rfl ?_
  refine J.eff (Ye.call cl28 rfl (Chunk_ok (Ow.rd os25_6) (by omega))) rfl ?_
  rintro _ w7 ⟨bA, bB, rfl, hbA, hbB, apAB, cA, cB, x1⟩
  have ap_b3_0_bA : Ap (some b3_0) (some bA) := Ap.mk (Cel.live c3_0) (Fr.blk hbA)
  have ap_b6_1_bA : Ap (some b6_1) (some bA) := Ap.mk (Cel.live c6_1) (Fr.blk hbA)
  have ap_s25_6_bA : Ap s25_6.ownBlock (some bA) := Ap.mk (Ow.live os25_6) (Fr.blk hbA)
  have fr_bA : Fr w.heap.size (some bA) := Fr.le (Fr.blk hbA) e0.size
  have ap_b3_0_bB : Ap (some b3_0) (some bB) := Ap.mk (Cel.live c3_0) (Fr.blk hbB)
  have ap_b6_1_bB : Ap (some b6_1) (some bB) := Ap.mk (Cel.live c6_1) (Fr.blk hbB)
  have ap_s25_6_bB : Ap s25_6.ownBlock (some bB) := Ap.mk (Ow.live os25_6) (Fr.blk hbB)
  have fr_bB : Fr w.heap.size (some bB) := Fr.le (Fr.blk hbB) e0.size
  have e0 := e0.trans x1
  have c3_0 := c3_0.ext x1
  have c6_1 := c6_1.ext x1
  have os25_6 := os25_6.ext x1
  clear x1
  refine J.nil ?_
  refine J.n_then ?_
  refine J.block ?_
  have l6 := Cel.lt c6_1
  have l3 := Cel.lt c3_0
  have lA := Cel.lt cA
  have lB := Cel.lt cB
  have lv := Ow.live os25_6
  have hsz := e0.size
  refine J.range (p := 28) (gf := 44) (lb := #[.pointer (some ⟨bA, 0, none⟩), .pointer (some ⟨bB, 0, none⟩)]) (enc := fun i => (chV s25_6 n l.length i)) (σ1 := fun i => [(8, (chV s25_6 n l.length i)), (28, (chV s25_6 n l.length i))]) (M := nPc l.length n) (I := fun lr i W => SpI 24 29 3 22 3 5 w w7 b6_1 b3_0 bA bB s25_6 l id n lr i W) rfl cl44 rfl ?_ ?_ ?_ ?_ ?_ ?_
  · skip
    intro W lr hx h1 h2 h3
    exact ⟨nilS, ⟨h3, by omega⟩, e0.trans hx, c6_1.ext hx, Es.nil _ _ _ _, c3_0.ext hx, cA.ext hx, cB.ext hx, Ow.ext os25_6 hx, Fr.nil, Ap.nil_r, Ap.nil_r, Ap.nil_r, Ap.nil_r, Ap.nil_r, Ap.nil_l, Ap.nil_l⟩
  · skip
    intro lr i W W' hI hg
    exact SpI.gbk hsz l6 l3 lA lB lv hI hg
  · skip
    intro lr W Inv hI hY h0
    exact Chunk1_ok (M := nPc l.length n) (fun i W h => by obtain ⟨s, _, _, _, _, _, q7, q8, q9, _⟩ := hI i W h; exact ⟨q7, q8, Ow.rd q9⟩) hn.2 (by omega) (fun i h1 h2 => nPc_eq hn.2.1 h1 h2) (fun i W h hi => hY i W h ((nPc_lt hn.2.1).2 hi)) h0
  · skip
    intro lr i W K hK
    exact J.iregion (J.i_op rfl (Yd.assign rfl) rfl (J.i_nil hK))
  · skip
    rintro lr i W ⟨s6, ⟨q1, q2⟩, q3, d6, os6, d3, dA, dB, oa, fr6, a66, a63, a6A, a6B, a6a, a6l, a6m⟩ hi hlr
    have hi' := (nPc_lt hn.2.1).1 hi
    have hmn := nPc_le l.length n
    have e0 := Tn.refl [some b6_1, s6.ownBlock] W
    have hcV := Rd.cells (chV_bs (Ow.rd oa) hi')
    have hoV := Rd.one (chV_bs (Ow.rd oa) hi')
    refine J.iblock (J.iregion ?_)
    refine J.i_op rfl (Yd.load pl24 rfl (Cel.cell1 d6 0 rfl)) rfl ?_
    refine J.i_op rfl (Yd.load pl3 rfl (Cel.cell1 d3 0 rfl)) rfl ?_
    refine J.i_op rfl (Yd.load pl24 rfl (Cel.cell1 d6 0 rfl)) rfl ?_
    refine J.i_op rfl (Yd.cast (Yd.lenE (K := pcS) Try.underlying24 rfl (Es.rd os6)) (congrArg (fun z : Nat => I (z : Int)) pcL_len)) rfl ?_
    refine J.i_op rfl (Yd.move rfl) rfl ?_
    refine J.i_op rfl (Yd.cast (Yd.buildS (cells := #[I id, I (i : Int), I 0, chV s25_6 n l.length i]) (pl := [(0, 1), (1, 1), (2, 1), (3, 1)]) Try.underlying29 (by kernel_rfl) ti29 rfl (by simp [Instr.fill, cells_int, cells_agg, hcV])) (show _ = Value.agg (pcS.c (id, (i : Int), 0, chV s25_6 n l.length i)).toArray from rfl)) rfl ?_
    refine J.i_eff rfl (Ye.litE1 (K := pcS) (u := (id, (i : Int), 0, chV s25_6 n l.length i)) (base := W.heap.size) Try.underlying24 ti29 rfl rfl rfl (Nat.le_refl _)) rfl ?_
    rintro sl w8 ⟨hsl, x1⟩
    have e0 := Tn.ext e0 x1
    have d6 := d6.ext x1
    have d3 := d3.ext x1
    have dA := dA.ext x1
    have dB := dB.ext x1
    have os6 := os6.ext x1
    have oa := oa.ext x1
    clear x1
    refine J.i_eff rfl (Ye.appendE (K := pcS) Try.underlying24 ti29 rfl rfl rfl rfl os6 (Es.rd hsl) (pc_one hoV) (by rw [pcL_len, List.length_singleton]; omega) (Nat.zero_le _)) rfl ?_
    rintro s7 w9 ⟨os7, hg, hsf⟩
    have hlr2 := Nat.lt_of_lt_of_le hlr e0.size
    have ap7l : Ap (some lr) s7.ownBlock := Ap.sf (Ap.symm a6l) (fun k e => by cases e; exact hlr2) hsf
    have ap7m : Ap (some (lr - 1)) s7.ownBlock := Ap.sf (Ap.symm a6m) (fun k e => by cases e; omega) hsf
    have fr7 : Fr w.heap.size s7.ownBlock := Fr.sf fr6 hsf (Nat.le_trans q3.size e0.size)
    have ap_b6_1_s7 : Ap (some b6_1) s7.ownBlock := Ap.sf a66 (Cel.live d6) hsf
    have ap_b3_0_s7 : Ap (some b3_0) s7.ownBlock := Ap.sf a63 (Cel.live d3) hsf
    have ap_bA_s7 : Ap (some bA) s7.ownBlock := Ap.sf a6A (Cel.live dA) hsf
    have ap_bB_s7 : Ap (some bB) s7.ownBlock := Ap.sf a6B (Cel.live dB) hsf
    have ap_av_s7 : Ap s25_6.ownBlock s7.ownBlock := Ap.sf a6a (Ow.live oa) hsf
    have d6 := Cel.gbk d6 hg a66
    have d3 := Cel.gbk d3 hg a63
    have dA := Cel.gbk dA hg a6A
    have dB := Cel.gbk dB hg a6B
    have oa := Ow.gbk oa hg a6a
    have e0 := Tn.gbk e0 (.inl (by simp)) hg
    clear hg hsf
    refine J.i_eff0 rfl (Ye.store1 ti24 d6 0 rfl rfl rfl rfl (Er.cells (Es.rd os7)) (Er.one (Es.rd os7))) ?_
    rintro _ w10 ⟨cX, hu⟩
    simp only [List.set_cons_zero, List.set_cons_succ] at cX
    have hg := hu.gb
    have d3 := Cel.gbk d3 hg ap_b3_0_b6_1
    have dA := Cel.gbk dA hg (Ap.symm ap_b6_1_bA)
    have dB := Cel.gbk dB hg (Ap.symm ap_b6_1_bB)
    have oa := Ow.gbk oa hg (Ap.symm ap_b6_1_s25_6)
    have os7 := Es.gbk os7 hg (Ap.symm ap_b6_1_s7)
    have e0 := Tn.gbk e0 (.inl (by simp)) hg
    clear hg
    replace d6 := cX
    clear cX hu
    refine J.i_nil ?_
    refine J.n_block ?_
    intro a_ w_ hf_ hs_
    have al6 := (ap_lr l6 q1)
    have hts : Ext W w10 ∨ True := .inr trivial
    have hE := Ext.tnk q3 (fun q hq => by simp only [List.mem_cons, List.mem_nil_iff, or_false] at hq; rcases hq with rfl | rfl; exact Fr.blk (fr_b6_1 _ rfl); exact fr6) e0
    refine ⟨rfl, w10, hs_, ⟨s7, ⟨q1, q2⟩, hE, d6, (by rw [pcL_succ]; exact os7), d3, dA, dB, oa, fr7, ap_b6_1_s7, ap_b3_0_s7, ap_bA_s7, ap_bB_s7, ap_av_s7, (Ap.symm ap7l), (Ap.symm ap7m)⟩, e0.block lr hlr (fun q hq e => ?_), e0.block (lr - 1) (by omega) (fun q hq e => ?_)⟩
    · skip
      simp only [List.mem_cons, List.mem_nil_iff, or_false] at hq
      rcases hq with rfl | rfl
      · exact al6.1 _ rfl e.symm
      · exact a6l _ e rfl
    · skip
      simp only [List.mem_cons, List.mem_nil_iff, or_false] at hq
      rcases hq with rfl | rfl
      · exact al6.2 _ rfl e.symm
      · exact a6m _ e rfl
  · skip
    rintro lr W ⟨s6, ⟨q1, q2⟩, e0, d6, os6, d3, dA, dB, oa, fr6, a66, a63, a6A, a6B, a6a, a6l, a6m⟩ hD
    have hmn := nPc_le l.length n
    rw [← pcM_zero] at os6
    replace hD : Dk W (lr - 1) := hD
    have fr_s6 := fr6
    refine J.n_block ?_
    refine J.n_then ?_
    refine J.seq ?_
    refine J.seq ?_
    refine J.region ?_
    refine J.op (Yd.load pl24 rfl (Cel.cell1 d6 0 rfl)) rfl ?_
    refine J.op (Yd.cast (Yd.lenE (K := pcS) Try.underlying24 rfl (Es.rd os6)) (congrArg (fun z : Nat => I (z : Int)) pcM_len)) rfl ?_
    refine J.op (Yd.move rfl) rfl ?_
    refine J.nil ?_
    refine J.n_then ?_
    refine J.block ?_
    refine J.loop (ι := Nat) (fun i => [(38, I (nPc l.length n : Int)), (39, I (i : Int)), (6, .pointer (some ⟨b6_1, 0, none⟩))]) (fun i w' => i ≤ nPc l.length n ∧ Dk w' (lr - 1) ∧ Cel w' b6_1 24 [(0, 1, [s6])] ∧ Es pcS 0 29 w' s6 (pcM id s25_6 n l.length (nPc l.length n) i) ∧ Ob w.heap.size 5 w' s25_6 l ∧ Ext w w') (fun i => nPc l.length n - i) (0) ⟨rfl, rfl, rfl, trivial⟩ (⟨Nat.zero_le _, hD, d6, os6, oa, e0⟩) ?_
    rintro i w11 ⟨hk, hD, d6, os6, oa, e0⟩
    refine J.seq ?_
    refine J.region ?_
    refine J.op (Yd.lss rfl rfl) rfl ?_
    refine J.nil ?_
    refine J.n_then ?_
    refine J.seq ?_
    refine J.cond_dec rfl (fun hc1 => ?_) (fun hc1 => ?_)
    · skip
      refine J.skip ?_
      refine J.n_then ?_
      refine J.seq ?_
      refine J.block ?_
      refine J.seq ?_
      refine J.region ?_
      refine J.op (Yd.move rfl) rfl ?_
      refine J.op (Yd.assign rfl) rfl ?_
      refine J.nil ?_
      refine J.n_then ?_
      refine J.region ?_
      refine J.op (Yd.load pl24 rfl (Cel.cell1 d6 0 rfl)) rfl ?_
      refine J.op (Yd.move rfl) rfl ?_
      refine J.op (Yd.load pl24 rfl (Cel.cell1 d6 0 rfl)) rfl ?_
      refine J.op (Yd.cast (Yd.lenE (K := pcS) Try.underlying24 rfl (Es.rd os6)) (congrArg (fun z : Nat => I (z : Int)) pcM_len)) rfl ?_
      refine J.op (Yd.idxE (K := pcS) Try.underlying24 ti29 rfl rfl (Es.rd os6) (by first | omega | (rw [pcM_len]; omega) | (simp only [Int.toNat_natCast, pcM_len]; omega))) rfl ?_
      refine J.op (Yd.fieldE (K := pcS) (Es.rd os6) (by rw [pcM_len]; omega) Try.underlying29 rfl ti3 rfl rfl) rfl ?_
      refine J.eff0 (Ye.storeF (K := pcS) (j := 2) (v := I (nPc l.length n : Int)) (u' := (id, (i : Int), (nPc l.length n : Int), chV s25_6 n l.length i)) pcD ti3 os6 rfl rfl rfl rfl (by rw [pcM_len, Int.toNat_natCast]; omega) (by decide) (by rw [Int.toNat_natCast, pcM_get (by omega)]; rfl)) ?_
      rintro _ w12 ⟨os6', hg⟩
      have d6 := Cel.gbk d6 hg a66
      have oa := Ow.gbk oa hg a6a
      have hD := Dk.gbk hD hg (Ap.symm a6m)
      have e0 := Ext.gbk e0 fr_s6 hg
      clear hg
      replace os6 := os6'
      clear os6'
      rw [Int.toNat_natCast, pcM_set (by omega)] at os6
      refine J.nil ?_
      refine J.n_block ?_
      refine J.n_then ?_
      refine J.region ?_
      refine J.op (Yd.add rfl rfl (by first | omega | (rw [pcM_len]; omega) | (simp only [Int.toNat_natCast, pcM_len]; omega))) rfl ?_
      refine J.op (Yd.move rfl) rfl ?_
      refine J.nil ?_
      refine J.n_then ?_
      exact J.round (i + 1) ⟨rfl, rfl, rfl, trivial⟩ (⟨by omega, hD, d6, os6, oa, e0⟩) (by omega)
    · skip
      refine J.exit ?_
      refine J.x_then ?_
      refine J.x_then ?_
      refine J.x_block ?_
      refine J.n_then ?_
      refine J.seq ?_
      refine J.region ?_
      refine J.op (Yd.load pl24 rfl (Cel.cell1 d6 0 rfl)) rfl ?_
      refine J.eff0 (Ye.store1 ti24 d6 0 rfl rfl rfl rfl (Er.cells (Es.rd os6)) (Er.one (Es.rd os6))) ?_
      rintro _ w13 ⟨cX, hu⟩
      simp only [List.set_cons_zero, List.set_cons_succ] at cX
      have hg := hu.gb
      have os6 := Es.gbk os6 hg (Ap.symm a66)
      have oa := Ow.gbk oa hg (Ap.symm ap_b6_1_s25_6)
      have hD := Dk.gbk hD hg (Ap.symm (ap_lr l6 q1).2)
      have e0 := Ext.gbk e0 fr_b6_1 hg
      clear hg
      replace d6 := cX
      clear cX hu
      refine J.op (Yd.assign rfl) rfl ?_
      refine J.nil ?_
      refine J.n_then ?_
      refine J.ret ?_
      exact J.ret_ct1 rfl pl24 rfl rfl hD (fun w' hg => ⟨Cel.cell1 (Cel.gbk d6 hg (ap_lr l6 q1).2) 0 rfl, _, rfl, s6, s25_6, rfl, (by rw [← pcM_all]; have h9 := Es.gbk os6 hg a6m; rw [show i = nPc l.length n by omega] at h9; exact h9), Ow.gbk oa hg (ap_lrO lv q1).2, fr6, a6a, Ext.gbk e0 (Fr.blk (by omega)) hg⟩)
end Ytghklimejpmpnaa
end Go.Proofs
