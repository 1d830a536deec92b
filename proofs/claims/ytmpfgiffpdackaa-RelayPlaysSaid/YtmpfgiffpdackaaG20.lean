import Derived.Test.YtmpfgiffpdackaaT
import Derived.Test.YtmpfgiffpdackaaR3
import Derived.Test.YtmpfgiffpdackaaG19
set_option linter.unusedVariables false
set_option linter.unusedSimpArgs false
set_option maxRecDepth 100000
set_option maxHeartbeats 4000000
namespace Go.Proofs
open Go.X Go.RowKit
namespace Ytmpfgiffpdackaa
theorem strp_get {R : List R5} {j : Nat} (h : j < R.length) : (R.map strp).getD j itD0 = strp (R.getD j r5D) := by
  rw [List.getD_eq_getElem?_getD, List.getD_eq_getElem?_getD, List.getElem?_map, List.getElem?_eq_getElem h]; rfl

theorem Plays_ok {ex : Int} {s : Value} {es : List Stp} {w : World} (hr : Er stS w s es) (hsq : ∀ u ∈ es, StQ w u) : C Try.prog 5 [I ex, s] w (Ret fun v w' => v = .bool true ∧ Ext w w') := by
  have hmx := Er.max hr
  have e0 := Ext.refl w
  refine C.enter Try.func5 rfl Try.ntmps5 rfl ?_
  refine J.seq ?_
  refine J.region ?_
  refine J.op (Yd.assign rfl) rfl ?_
  refine J.nil ?_
  refine J.n_then ?_
  refine J.seq ?_
  refine J.seq ?_
  refine J.region ?_
  refine J.op (Yd.move rfl) rfl ?_
  refine J.op (Yd.lenE (K := stS) Try.underlying40 rfl (Er.ext hr e0)) rfl ?_
  refine J.op (Yd.gtr rfl rfl) rfl ?_
  refine J.nil ?_
  refine J.n_then ?_
  refine J.cond_dec rfl (fun hc0 => ?_) (fun hc0 => ?_)
  · skip
    refine J.seq ?_
    refine J.region ?_
    refine J.eff (Ye.call cl8 rfl (Awake_ok)) rfl ?_
    rintro _ w1 ⟨rfl, x1⟩
    have e0 := e0.trans x1
    clear x1
    refine J.op (Yd.assign rfl) rfl ?_
    refine J.nil ?_
    refine J.n_then ?_
    refine J.ret ?_
    refine J.r_then ?_
    exact J.ret1 rfl rfl (⟨_, rfl, rfl, e0⟩)
  · skip
    refine J.skip ?_
    refine J.n_then ?_
    refine J.seq ?_
    refine J.region ?_
    refine J.op (Yd.move rfl) rfl ?_
    refine J.eff (Ye.call cl9 rfl (New_ok)) rfl ?_
    rintro _ w2 ⟨b, K0, rfl, hs, x1⟩
    have hs := hs.le e0.size
    have e0 := e0.trans x1
    clear x1
    refine J.op (Yd.assign rfl) rfl ?_
    refine J.nil ?_
    refine J.n_then ?_
    refine J.seq ?_
    refine J.region ?_
    refine J.op (Yd.move rfl) rfl ?_
    refine J.eff (Ye.call cl17 rfl (NewR_ok)) rfl ?_
    rintro _ w3 ⟨b2, rfl, hb2, c2, x1⟩
    have hsz := e0.size
    have hq := RT.init hs x1 hb2 c2 (e0.trans x1) hsz
    have e0 := e0.trans x1
    clear x1 c2 hs
    refine J.op (Yd.assign rfl) rfl ?_
    refine J.nil ?_
    refine J.n_then ?_
    refine J.seq ?_
    refine J.seq ?_
    refine J.region ?_
    refine J.op (Yd.move rfl) rfl ?_
    refine J.op (Yd.cast (Yd.eqPn Try.underlying24 rfl rfl) (show _ = Value.bool false from rfl)) rfl ?_
    refine J.nil ?_
    refine J.n_then ?_
    refine J.cond_false rfl ?_
    refine J.skip ?_
    refine J.n_then ?_
    refine J.seq ?_
    refine J.region ?_
    refine J.op (Yd.move rfl) rfl ?_
    refine J.op (Yd.mkFunc rfl) rfl ?_
    refine J.op (Yd.assign rfl) rfl ?_
    refine J.nil ?_
    refine J.n_then ?_
    refine J.seq ?_
    refine J.region ?_
    refine J.op (Yd.assign rfl) rfl ?_
    refine J.nil ?_
    refine J.n_then ?_
    refine J.seq ?_
    refine J.seq ?_
    refine J.region ?_
    refine J.op (Yd.assign rfl) rfl ?_
    refine J.nil ?_
    refine J.n_then ?_
    refine J.block ?_
    refine J.loop (ι := Nat × Int × (Int × Int × Int) × List R5) (fun i => [(1, s), (7, .func (.func 10) #[.pointer (some ⟨b, 0, none⟩)] #[]), (8, I i.2.1), (9, I (i.1 : Int)), (5, .pointer (some ⟨b, 0, none⟩)), (6, .pointer (some ⟨b2, 0, none⟩))]) (fun i w' => i.1 ≤ es.length ∧ (0 ≤ i.2.1 ∧ i.2.1 ≤ 1099511627776) ∧ GR i.1 i.2.2.1 i.2.2.2 ∧ RT 65 36 52 [] w w' b i.2.2.1 i.2.2.2 b2 i.2.2.1 i.2.2.2 ∧ Ext w w') (fun i => es.length - i.1) ((0, (0 : Int), (exI ex, 0, 0), [])) ⟨rfl, rfl, rfl, rfl, rfl, rfl, trivial⟩ (⟨Nat.zero_le _, (show (0 : Int) ≤ 0 ∧ (0 : Int) ≤ 1099511627776 from by decide), GR.init _, hq, e0⟩) ?_
    rintro ⟨n0, tl, c, R⟩ w4 ⟨hk, hb, hg, hq, e0⟩
    dsimp only at *
    refine J.seq ?_
    refine J.seq ?_
    refine J.region ?_
    refine J.op (Yd.move rfl) rfl ?_
    refine J.op (Yd.move rfl) rfl ?_
    refine J.op (Yd.lenE (K := stS) Try.underlying40 rfl (Er.ext hr e0)) rfl ?_
    refine J.op (Yd.lss rfl rfl) rfl ?_
    refine J.nil ?_
    refine J.n_then ?_
    refine J.cond_dec rfl (fun hc2 => ?_) (fun hc2 => ?_)
    · skip
      refine J.skip ?_
      refine J.n_then ?_
      refine J.seq ?_
      refine J.block ?_
      refine J.seq ?_
      refine J.region ?_
      refine J.op (Yd.move rfl) rfl ?_
      refine J.op (Yd.move rfl) rfl ?_
      refine J.op (Yd.idxE (K := stS) Try.underlying40 ti44 rfl rfl (Er.ext hr e0) (by first | omega | exact idx_u8' _ | (simp only [Int.toNat_natCast]; omega) | (simp only [List.length_map, List.length_drop, List.length_take, List.length_append, List.length_replicate]; omega) | (simp <;> omega))) rfl ?_
      obtain ⟨⟨lx, hlx⟩, ids, hids⟩ := hsq _ (getD_memE stD (show (n0 : Int).toNat < es.length by omega))
      have hmx2 := Rd.max hlx
      rw [List.length_map] at hmx2
      have hmx3 := Rd.max hids
      rw [List.length_map] at hmx3
      refine J.op (Yd.cast (Yd.loadEd (K := stS) stD ag44 ti44 rfl (Er.ext hr e0) (by first | omega | exact idx_u8' _ | (simp only [Int.toNat_natCast]; omega) | (simp only [List.length_map, List.length_drop, List.length_take, List.length_append, List.length_replicate]; omega) | (simp <;> omega))) (show _ = Value.agg (stS.c (es.getD (n0 : Int).toNat stD)).toArray from rfl)) rfl ?_
      refine J.eff (Ye.alloc ti44 (S := [(0, 6, [I 0, Str [], Str [], nilS, nilS, I 0])]) (by simp [SegAll, SegOK, Value.cells, nilS])) rfl ?_
      rintro _ w5 ⟨b10, rfl, hb_b10, c_b10, xA⟩
      refine J.eff0 (Ye.storeA (ys := stS.c (es.getD (n0 : Int).toNat stD)) ti44 c_b10 0 rfl rfl rfl rfl (by rfl) (StQ.one ⟨⟨lx, hlx⟩, ids, hids⟩)) ?_
      rintro _ w6 ⟨cX, hu⟩
      simp only [List.set_cons_zero, List.set_cons_succ] at cX
      have xA := Ext.gbk xA (Fr.blk hb_b10) hu.gb
      replace c_b10 := cX
      clear cX hu
      have e0 := e0.trans xA
      have hq := RT.more hq xA (Fr.blk hb_b10) (Cel.live c_b10)
      clear xA
      replace c_b10 := Cel.s6 c_b10
      refine J.nil ?_
      refine J.n_then ?_
      refine J.seq ?_
      refine J.region ?_
      refine J.op (Yd.move rfl) rfl ?_
      refine J.op (Yd.cast (Yd.fieldA Try.underlying44 rfl ti34 rfl rfl) (show _ = Value.pointer (some ⟨b10, 3, none⟩) from rfl)) rfl ?_
      refine J.op (Yd.load pl34 rfl (Cel.cell1 c_b10 3 rfl)) rfl ?_
      refine J.op (Yd.len_b Try.underlying34 rfl (Rd.ext hlx e0)) rfl ?_
      refine J.eff (Ye.litM (base := w6.heap.size) (f := fun x : Int => I x) [(lx.length : Int)] Try.underlying22 ti3 rfl rfl rfl rfl (fun _ => rfl) rfl (Nat.le_refl _)) rfl ?_
      rintro s47_7 w7 ⟨o47_7, x1⟩
      have ap_b10_s47_7 : Ap (some b10) s47_7.ownBlock := Ap.mk (Cel.live c_b10) (Ow.fr o47_7)
      have fr_s47_7 : Fr w.heap.size s47_7.ownBlock := Fr.le (Ow.fr o47_7) e0.size
      replace o47_7 := Ow.base o47_7 e0.size
      have hq := hq.ext x1
      have e0 := e0.trans x1
      have c_b10 := c_b10.ext x1
      clear x1
      refine J.eff (Ye.call cl18 rfl (Sum_ok (Ow.rd o47_7) (by omega) (by intro x hx; simp only [List.mem_cons, List.not_mem_nil, or_false] at hx; omega))) rfl ?_
      rintro _ w8 ⟨r, rfl, hr_, hsum, x1⟩
      have hq := hq.ext x1
      have e0 := e0.trans x1
      have c_b10 := c_b10.ext x1
      have o47_7 := o47_7.ext x1
      clear x1 hsum
      refine J.op (Yd.assign rfl) rfl ?_
      refine J.nil ?_
      refine J.n_then ?_
      refine J.seq ?_
      refine J.seq ?_
      refine J.region ?_
      by_cases hin : r ≤ 20000 ∧ (es.getD (n0 : Int).toNat stD).2.1.length ≤ 50 ∧ (es.getD (n0 : Int).toNat stD).2.2.1.length ≤ 50 ∧ ids.length ≤ 20
      · skip
        refine J.op (Yd.move rfl) rfl ?_
        refine J.op (Yd.gtr rfl rfl) rfl ?_
        refine J.op (Yd.move rfl) rfl ?_
        refine J.know (t := 51) (v' := .bool false) rfl (ff (by omega)) ?_
        refine J.op_g rfl rfl rfl (Yd.cast (Yd.fieldA Try.underlying44 rfl ti9 rfl rfl) (show _ = Value.pointer (some ⟨b10, 1, none⟩) from rfl)) rfl ?_
        refine J.op_g rfl rfl rfl (Yd.load pl9 rfl (Cel.cell1 c_b10 1 rfl)) rfl ?_
        refine J.op_g rfl rfl rfl (Yd.slen Try.underlying9 rfl) rfl ?_
        refine J.op_g rfl rfl rfl (Yd.gtr rfl rfl) rfl ?_
        refine J.op (Yd.pick_f rfl rfl) rfl ?_
        refine J.op (Yd.move rfl) rfl ?_
        refine J.know (t := 57) (v' := .bool false) rfl (ff (by omega)) ?_
        refine J.op_g rfl rfl rfl (Yd.cast (Yd.fieldA Try.underlying44 rfl ti9 rfl rfl) (show _ = Value.pointer (some ⟨b10, 2, none⟩) from rfl)) rfl ?_
        refine J.op_g rfl rfl rfl (Yd.load pl9 rfl (Cel.cell1 c_b10 2 rfl)) rfl ?_
        refine J.op_g rfl rfl rfl (Yd.slen Try.underlying9 rfl) rfl ?_
        refine J.op_g rfl rfl rfl (Yd.gtr rfl rfl) rfl ?_
        refine J.op (Yd.pick_f rfl rfl) rfl ?_
        refine J.op (Yd.move rfl) rfl ?_
        refine J.know (t := 63) (v' := .bool false) rfl (ff (by omega)) ?_
        refine J.op_g rfl rfl rfl (Yd.cast (Yd.fieldA Try.underlying44 rfl ti22 rfl rfl) (show _ = Value.pointer (some ⟨b10, 4, none⟩) from rfl)) rfl ?_
        refine J.op_g rfl rfl rfl (Yd.load pl22 rfl (Cel.cell1 c_b10 4 rfl)) rfl ?_
        refine J.op_g rfl rfl rfl (Yd.len_m Try.underlying22 rfl (Rd.ext hids e0)) rfl ?_
        refine J.op_g rfl rfl rfl (Yd.gtr rfl rfl) rfl ?_
        refine J.op (Yd.pick_f rfl rfl) rfl ?_
        refine J.nil ?_
        refine J.n_then ?_
        refine J.know (t := 68) (v' := .bool false) rfl (ff (by omega)) ?_
        refine J.cond_false rfl ?_
        refine J.skip ?_
        refine J.n_then ?_
        refine J.seq ?_
        refine J.seq ?_
        refine J.region ?_
        refine J.op (Yd.cast (Yd.fieldA Try.underlying44 rfl ti3 rfl rfl) (show _ = Value.pointer (some ⟨b10, 0, none⟩) from rfl)) rfl ?_
        refine J.op (Yd.load pl3 rfl (Cel.cell1 c_b10 0 rfl)) rfl ?_
        refine J.nil ?_
        refine J.n_then ?_
        refine J.block ?_
        refine J.seq ?_
        refine J.region ?_
        refine J.op (Yd.eql rfl rfl) rfl ?_
        refine J.op (Yd.assign rfl) rfl ?_
        refine J.nil ?_
        refine J.n_then ?_
        refine J.cond_dec rfl (fun k1 => ?_) (fun k1 => ?_)
        · skip
          refine J.seq ?_
          refine J.region ?_
          refine J.op (Yd.move rfl) rfl ?_
          refine J.op (Yd.cast (Yd.fieldA Try.underlying44 rfl ti9 rfl rfl) (show _ = Value.pointer (some ⟨b10, 1, none⟩) from rfl)) rfl ?_
          refine J.op (Yd.load pl9 rfl (Cel.cell1 c_b10 1 rfl)) rfl ?_
          refine J.op (Yd.cast (Yd.fieldA Try.underlying44 rfl ti9 rfl rfl) (show _ = Value.pointer (some ⟨b10, 2, none⟩) from rfl)) rfl ?_
          refine J.op (Yd.load pl9 rfl (Cel.cell1 c_b10 2 rfl)) rfl ?_
          refine J.op (Yd.cast (Yd.fieldA Try.underlying44 rfl ti34 rfl rfl) (show _ = Value.pointer (some ⟨b10, 3, none⟩) from rfl)) rfl ?_
          refine J.op (Yd.load pl34 rfl (Cel.cell1 c_b10 3 rfl)) rfl ?_
          refine J.eff (Ye.callv cl10 rfl rfl (TPut1 hq hg (by omega) (by omega) (by omega) (fun W e => hlx.ext e))) rfl ?_
          rintro _ w9 ⟨rfl, hq2, ht⟩
          have c_b10 := Cel.tx c_b10 ht (by simp)
          replace hq := hq2
          clear hq2 ht
          have e0 := hq.e
          refine J.op (Yd.move rfl) rfl ?_
          refine J.op (Yd.extract rfl rfl) rfl ?_
          refine J.op (Yd.extract rfl rfl) rfl ?_
          refine J.op (Yd.assign rfl) rfl ?_
          refine J.op (Yd.assign rfl) rfl ?_
          refine J.nil ?_
          refine J.n_then ?_
          refine J.seq ?_
          refine J.region ?_
          refine J.op (Yd.move rfl) rfl ?_
          refine J.op (Yd.cast (Yd.fieldA Try.underlying44 rfl ti9 rfl rfl) (show _ = Value.pointer (some ⟨b10, 1, none⟩) from rfl)) rfl ?_
          refine J.op (Yd.load pl9 rfl (Cel.cell1 c_b10 1 rfl)) rfl ?_
          refine J.op (Yd.cast (Yd.fieldA Try.underlying44 rfl ti9 rfl rfl) (show _ = Value.pointer (some ⟨b10, 2, none⟩) from rfl)) rfl ?_
          refine J.op (Yd.load pl9 rfl (Cel.cell1 c_b10 2 rfl)) rfl ?_
          refine J.op (Yd.cast (Yd.fieldA Try.underlying44 rfl ti34 rfl rfl) (show _ = Value.pointer (some ⟨b10, 3, none⟩) from rfl)) rfl ?_
          refine J.op (Yd.load pl34 rfl (Cel.cell1 c_b10 3 rfl)) rfl ?_
          refine J.eff (Ye.call cl19 rfl (TPut2 hq hg (by omega) (by omega) (by omega) (fun W e => hlx.ext e))) rfl ?_
          rintro _ w10 ⟨rfl, hq2, ht⟩
          have c_b10 := Cel.tx c_b10 ht (by simp)
          replace hq := hq2
          clear hq2 ht
          have e0 := hq.e
          refine J.op (Yd.move rfl) rfl ?_
          refine J.op (Yd.extract rfl rfl) rfl ?_
          refine J.op (Yd.extract rfl rfl) rfl ?_
          refine J.op (Yd.assign rfl) rfl ?_
          refine J.op (Yd.assign rfl) rfl ?_
          refine J.nil ?_
          refine J.n_then ?_
          refine J.seq ?_
          refine J.region ?_
          refine J.op (Yd.move rfl) rfl ?_
          refine J.op (Yd.move rfl) rfl ?_
          refine J.op (Yd.neq rfl rfl) rfl ?_
          refine J.op (Yd.move rfl) rfl ?_
          refine J.know (t := 99) (v' := .bool false) rfl (ff (by exact fun h => h rfl)) ?_
          refine J.op_g rfl rfl rfl (Yd.move rfl) rfl ?_
          refine J.op_g rfl rfl rfl (Yd.move rfl) rfl ?_
          refine J.op_g rfl rfl rfl (Yd.neq rfl rfl) rfl ?_
          refine J.op (Yd.pick_f rfl rfl) rfl ?_
          refine J.nil ?_
          refine J.n_then ?_
          refine J.know (t := 103) (v' := .bool false) rfl (ff (by exact fun h => h rfl)) ?_
          refine J.cond_false rfl ?_
          refine J.skip ?_
          refine J.n_block ?_
          refine J.n_then ?_
          refine J.seq ?_
          refine J.regionO [(0, true), (1, true), (4, true), (5, true)] [(2, 1), (6, 1), (3, 0)] [(7, false), (8, true), (9, true)] mix (by kernel_rfl) ?_
          refine J.s_op rfl (fun _ => Yd.move rfl) rfl ?_
          refine J.s_op rfl (fun _ => Yd.cast (Yd.fieldA Try.underlying44 rfl ti9 rfl rfl) (show _ = Value.pointer (some ⟨b10, 2, none⟩) from rfl)) rfl ?_
          refine J.s_op rfl (fun _ => Yd.move rfl) rfl ?_
          refine J.s_op rfl (fun _ => Yd.cast (Yd.fieldA Try.underlying44 rfl ti9 rfl rfl) (show _ = Value.pointer (some ⟨b10, 2, none⟩) from rfl)) rfl ?_
          refine J.s_nil ?_
          refine J.o_op rfl (Yd.load pl9 rfl (Cel.cell1 c_b10 2 rfl)) rfl ?_
          refine J.o_op rfl (Yd.load pl9 rfl (Cel.cell1 c_b10 2 rfl)) rfl ?_
          obtain ⟨c1, R1, hq, hg1⟩ : ∃ c1 R1, RT 65 36 52 [some b10] w w10 b c1 R1 b2 c1 R1 ∧ GR (n0 + 1) c1 R1 := ⟨_, _, hq, (by first | exact hg.put _ _ _ | exact hg.ack _ _ | exact hg.tick _ | exact hg.up)⟩
          refine J.o_eff rfl (Ye.call cl13 rfl (TList1 hq hg1 (by omega))) rfl (fun _ _ ⟨_, _, _, h⟩ => h) ?_
          rintro v15 w11 ⟨es15, o15, hls, x1⟩
          have ap_b10_v15 : Ap (some b10) v15.ownBlock := Ap.mk (Cel.live c_b10) (Es.fr o15)
          have fr_v15 : Fr w.heap.size v15.ownBlock := Fr.le (Es.fr o15) e0.size
          replace o15 := Es.base o15 e0.size
          have hq := hq.ext x1
          have e0 := e0.trans x1
          have c_b10 := c_b10.ext x1
          clear x1
          have hl15 := R2.len (show R2 (Eq3 _) _ _ from hls)
          rw [List.length_map] at hl15
          refine J.o_nil ?_
          refine J.s_eff rfl (Ye.call cl22 rfl (TList2 hq hg1 (by omega))) rfl ?_
          rintro v16 w12 ⟨es16, r16, hki, x1⟩
          have hq := hq.ext x1
          have e0 := e0.trans x1
          have c_b10 := c_b10.ext x1
          have o15 := o15.ext x1
          have hls := hls.ext x1
          clear x1
          have hl16 := R2.len hki
          have hq9 := hq
          obtain ⟨K9, q9, s9, es9, h9⟩ := hq9
          have cb2 := h9.c2
          clear h9
          have hfl9 := List.length_filter_le (toB (es.getD (n0 : Int).toNat stD).2.2.1) R1
          have hgl := hg1.len
          refine J.s_op rfl (fun _ => Yd.assign rfl) rfl ?_
          refine J.s_op rfl (fun _ => Yd.assign rfl) rfl ?_
          refine J.s_nil ?_
          refine J.n_np ?_
          refine J.n_then ?_
          refine J.seq ?_
          refine J.seq ?_
          refine J.regionO [(0, true), (2, true)] [(1, 1), (3, 1), (4, 1), (5, 1), (6, 1), (7, 1), (8, 1), (10, 1), (11, 1), (9, 0), (12, 1), (13, 1), (14, 1), (15, 1), (17, 1), (18, 1), (19, 1), (20, 1), (16, 0)] [(21, true), (22, true)] mix (by kernel_rfl) ?_
          refine J.s_op rfl (fun _ => Yd.move rfl) rfl ?_
          refine J.s_op rfl (fun _ => Yd.move rfl) rfl ?_
          refine J.s_nil ?_
          refine J.o_op rfl (Yd.lenE (K := itmS) Try.underlying31 rfl (Es.rd o15)) rfl ?_
          refine J.o_op rfl (Yd.lenE (K := riS) Try.underlying49 rfl r16) rfl ?_
          refine J.o_op rfl (Yd.neq rfl rfl) rfl ?_
          refine J.o_op rfl (Yd.move rfl) rfl ?_
          refine J.know (t := 143) (v' := .bool false) rfl (ff (by omega)) ?_
          refine J.o_op_g rfl rfl rfl rfl (Yd.move rfl) rfl ?_
          refine J.o_op_g rfl rfl rfl rfl (Yd.cast (Yd.fieldA Try.underlying44 rfl ti9 rfl rfl) (show _ = Value.pointer (some ⟨b10, 2, none⟩) from rfl)) rfl ?_
          refine J.o_op_g rfl rfl rfl rfl (Yd.load pl9 rfl (Cel.cell1 c_b10 2 rfl)) rfl ?_
          refine J.o_op_g rfl rfl rfl rfl (Yd.move rfl) rfl ?_
          refine J.o_op_g rfl rfl rfl rfl (Yd.lenE (K := riS) Try.underlying49 rfl r16) rfl ?_
          refine J.o_eff_g rfl rfl rfl rfl (Ye.call cl15 rfl (TLen1 (i := 0) hq)) rfl (fun _ _ ⟨_, h⟩ => h) ?_
          rintro _ w13 ⟨rfl, x1⟩
          have hq := hq.ext x1
          have e0 := e0.trans x1
          have c_b10 := c_b10.ext x1
          have o15 := o15.ext x1
          have hls := hls.ext x1
          have r16 := r16.ext x1
          have cb2 := cb2.ext x1
          clear x1
          refine J.o_op_g rfl rfl rfl rfl (Yd.neq rfl rfl) rfl ?_
          refine J.o_op rfl (Yd.pick_f rfl rfl) rfl ?_
          refine J.o_op rfl (Yd.move rfl) rfl ?_
          refine J.know (t := 152) (v' := .bool false) rfl (ff (by omega)) ?_
          refine J.o_op_g rfl rfl rfl rfl (Yd.move rfl) rfl ?_
          refine J.o_op_g rfl rfl rfl rfl (Yd.move rfl) rfl ?_
          refine J.o_op_g rfl rfl rfl rfl (Yd.nilCheck rfl) rfl ?_
          refine J.o_op_g rfl rfl rfl rfl (Yd.cast (Yd.fieldA Try.underlying52 rfl ti3 rfl rfl) (show _ = Value.pointer (some ⟨b2, 1, none⟩) from rfl)) rfl ?_
          refine J.o_op_g rfl rfl rfl rfl (Yd.load pl3 rfl (Cel.cell1 cb2 1 rfl)) rfl ?_
          refine J.o_eff_g rfl rfl rfl rfl (Ye.call cl14 rfl (TNow1 (i := 0) hq)) rfl (fun _ _ ⟨_, h⟩ => h) ?_
          rintro _ w14 ⟨rfl, x1⟩
          have hq := hq.ext x1
          have e0 := e0.trans x1
          have c_b10 := c_b10.ext x1
          have o15 := o15.ext x1
          have hls := hls.ext x1
          have r16 := r16.ext x1
          have cb2 := cb2.ext x1
          clear x1
          refine J.o_nil ?_
          refine J.s_op_g rfl rfl rfl rfl (fun _ => Yd.neq rfl rfl) rfl ?_
          refine J.s_op rfl (fun _ => Yd.pick_f rfl rfl) rfl ?_
          refine J.s_nil ?_
          refine J.n_np ?_
          refine J.n_then ?_
          refine J.know (t := 160) (v' := .bool false) rfl (ff (by omega)) ?_
          refine J.cond_false rfl ?_
          refine J.skip ?_
          refine J.n_then ?_
          refine J.seq ?_
          refine J.region ?_
          refine J.op (Yd.move rfl) rfl ?_
          refine J.op (Yd.cast (Yd.fieldA Try.underlying44 rfl ti9 rfl rfl) (show _ = Value.pointer (some ⟨b10, 2, none⟩) from rfl)) rfl ?_
          refine J.op (Yd.load pl9 rfl (Cel.cell1 c_b10 2 rfl)) rfl ?_
          refine J.op (Yd.cast (Yd.fieldA Try.underlying44 rfl ti3 rfl rfl) (show _ = Value.pointer (some ⟨b10, 5, none⟩) from rfl)) rfl ?_
          refine J.op (Yd.load pl3 rfl (Cel.cell1 c_b10 5 rfl)) rfl ?_
          refine J.eff (Ye.call cl23 rfl (TGet1 hq hg1 (by omega))) rfl ?_
          rintro _ w15 ⟨x9, rfl, hx9, x1⟩
          have hq := hq.ext x1
          have e0 := e0.trans x1
          have c_b10 := c_b10.ext x1
          have o15 := o15.ext x1
          have hls := hls.ext x1
          have r16 := r16.ext x1
          have cb2 := cb2.ext x1
          clear x1
          refine J.op (Yd.move rfl) rfl ?_
          refine J.op (Yd.extract rfl rfl) rfl ?_
          refine J.op (Yd.extract rfl rfl) rfl ?_
          refine J.eff (Ye.alloc ti36 (S := [(0, 4, [I 0, Str [], I 0, nilS])]) (by simp [SegAll, SegOK, Value.cells, nilS])) rfl ?_
          rintro _ w16 ⟨b17, rfl, hb_b17, c_b17, xA⟩
          refine J.eff0 (Ye.storeA (ys := itmS.c x9) ti36 c_b17 0 rfl rfl rfl rfl (by rfl) (itm_one1 (x := x9) (Rd.one hx9.2.2.2) _ (List.mem_singleton.2 rfl))) ?_
          rintro _ w17 ⟨cX, hu⟩
          simp only [List.set_cons_zero, List.set_cons_succ] at cX
          have xA := Ext.gbk xA (Fr.blk hb_b17) hu.gb
          replace c_b17 := cX
          clear cX hu
          have e0 := e0.trans xA
          have c_b10 := c_b10.ext xA
          have o15 := o15.ext xA
          have hls := hls.ext xA
          have r16 := r16.ext xA
          have cb2 := cb2.ext xA
          have hx9 := hx9.ext xA
          have hq := hq.ext xA
          clear xA
          refine J.op (Yd.assign rfl) rfl ?_
          refine J.nil ?_
          refine J.n_then ?_
          refine J.seq ?_
          refine J.region ?_
          refine J.op (Yd.assign rfl) rfl ?_
          refine J.nil ?_
          refine J.n_then ?_
          refine J.seq ?_
          refine J.seq ?_
          refine J.region ?_
          refine J.op (Yd.assign rfl) rfl ?_
          refine J.nil ?_
          refine J.n_then ?_
          refine J.block ?_
          refine J.loop (ι := Nat) (fun i => [(1, s), (7, .func (.func 10) #[.pointer (some ⟨b, 0, none⟩)] #[]), (8, I r), (9, I (n0 : Int)), (18, I (gtE ((R1.filter (toB (es.getD (n0 : Int).toNat stD).2.2.1)).map strp) (es.getD (n0 : Int).toNat stD).2.2.2.2.2)), (19, I (wnt ((R1.filter (toB (es.getD (n0 : Int).toNat stD).2.2.1)).map strp) (es.getD (n0 : Int).toNat stD).2.2.2.2.2 i)), (20, I (i : Int)), (5, .pointer (some ⟨b, 0, none⟩)), (6, .pointer (some ⟨b2, 0, none⟩)), (10, .pointer (some ⟨b10, 0, none⟩)), (17, .pointer (some ⟨b17, 0, none⟩)), (15, v15), (16, v16)]) (fun i w' => i ≤ (R1.filter (toB (es.getD (n0 : Int).toNat stD).2.2.1)).length ∧ LsB w' es15 ((R1.filter (toB (es.getD (n0 : Int).toNat stD).2.2.1)).map strp) ∧ Eq3 w' x9 (gtI ((R1.filter (toB (es.getD (n0 : Int).toNat stD).2.2.1)).map strp) (es.getD (n0 : Int).toNat stD).2.2.2.2.2) ∧ Er riS w' v16 es16 ∧ RT 65 36 52 [some b10] w w' b c1 R1 b2 c1 R1 ∧ Cel w' b10 44 [(0, 1, [I (es.getD (n0 : Int).toNat stD).1]), (1, 1, [Str (es.getD (n0 : Int).toNat stD).2.1]), (2, 1, [Str (es.getD (n0 : Int).toNat stD).2.2.1]), (3, 1, [(es.getD (n0 : Int).toNat stD).2.2.2.1]), (4, 1, [(es.getD (n0 : Int).toNat stD).2.2.2.2.1]), (5, 1, [I (es.getD (n0 : Int).toNat stD).2.2.2.2.2])] ∧ Cel w' b17 36 [(0, 4, itmS.c x9)] ∧ Es itmS w.heap.size 36 w' v15 es15 ∧ Ext w w') (fun i => (R1.filter (toB (es.getD (n0 : Int).toNat stD).2.2.1)).length - i) (0) ⟨rfl, rfl, rfl, rfl, rfl, (someI (wnt_0 _ _).symm), rfl, rfl, rfl, rfl, rfl, rfl, rfl, trivial⟩ (⟨Nat.zero_le _, hls, hx9, r16, hq, c_b10, c_b17, o15, e0⟩) ?_
          rintro j w18 ⟨hk2, hls, hx9, r16, hq, c_b10, c_b17, o15, e0⟩
          refine J.seq ?_
          refine J.seq ?_
          refine J.region ?_
          refine J.op (Yd.move rfl) rfl ?_
          refine J.op (Yd.move rfl) rfl ?_
          refine J.op (Yd.lenE (K := itmS) Try.underlying31 rfl (Es.rd o15)) rfl ?_
          refine J.op (Yd.lss rfl rfl) rfl ?_
          refine J.nil ?_
          refine J.n_then ?_
          refine J.cond_dec rfl (fun hc11 => ?_) (fun hc11 => ?_)
          · skip
            refine J.skip ?_
            refine J.n_then ?_
            refine J.seq ?_
            refine J.block ?_
            refine J.seq ?_
            refine J.seq ?_
            refine J.regionO [(0, true), (1, true), (4, true), (5, true)] [(2, 1), (3, 1), (6, 1), (7, 1)] [(8, false), (9, true)] mix (by kernel_rfl) ?_
            refine J.s_op rfl (fun _ => Yd.move rfl) rfl ?_
            refine J.s_op rfl (fun _ => Yd.move rfl) rfl ?_
            refine J.s_op rfl (fun _ => Yd.move rfl) rfl ?_
            refine J.s_op rfl (fun _ => Yd.move rfl) rfl ?_
            refine J.s_nil ?_
            refine J.o_op rfl (Yd.idxE (K := itmS) Try.underlying31 ti36 rfl rfl (Es.rd o15) (by first | omega | exact idx_u8' _ | (simp only [Int.toNat_natCast]; omega) | (simp only [List.length_map, List.length_drop, List.length_take, List.length_append, List.length_replicate]; omega) | (simp <;> omega))) rfl ?_
            refine J.o_op rfl (Yd.loadEd (K := itmS) itmD ag36 ti36 rfl (Es.rd o15) (by first | omega | exact idx_u8' _ | (simp only [Int.toNat_natCast]; omega) | (simp only [List.length_map, List.length_drop, List.length_take, List.length_append, List.length_replicate]; omega) | (simp <;> omega))) rfl ?_
            refine J.o_op rfl (Yd.idxE (K := riS) Try.underlying49 ti57 rfl rfl r16 (by first | omega | exact idx_u8' _ | (simp only [Int.toNat_natCast]; omega) | (simp only [List.length_map, List.length_drop, List.length_take, List.length_append, List.length_replicate]; omega) | (simp <;> omega))) rfl ?_
            refine J.o_op rfl (Yd.loadEd (K := riS) riD ag57 ti57 rfl r16 (by first | omega | exact idx_u8' _ | (simp only [Int.toNat_natCast]; omega) | (simp only [List.length_map, List.length_drop, List.length_take, List.length_append, List.length_replicate]; omega) | (simp <;> omega))) rfl ?_
            refine J.o_nil ?_
            refine J.s_eff rfl (Ye.call cl24 rfl (Same_is (R2.get itmD itD0 (show R2 (Eq3 _) _ _ from hls) (i := (j : Int).toNat) (by omega)) (R2.get riD r5D hki (i := (j : Int).toNat) (by omega)) e0 (strp_get (by omega)))) rfl ?_
            rintro _ w19 ⟨rfl, x1⟩
            have hq := hq.ext x1
            have e0 := e0.trans x1
            have c_b10 := c_b10.ext x1
            have c_b17 := c_b17.ext x1
            have o15 := o15.ext x1
            have hls := hls.ext x1
            have hx9 := hx9.ext x1
            have r16 := r16.ext x1
            clear x1
            refine J.s_op rfl (fun _ => Yd.not rfl) rfl ?_
            refine J.s_nil ?_
            refine J.n_np ?_
            refine J.n_then ?_
            refine J.cond_false rfl ?_
            refine J.skip ?_
            refine J.n_then ?_
            refine J.seq ?_
            refine J.regionO [(0, true), (1, true), (5, true)] [(2, 1), (6, 1), (3, 1), (4, 1)] [(7, true)] mix (by kernel_rfl) ?_
            refine J.s_op rfl (fun _ => Yd.move rfl) rfl ?_
            refine J.s_op rfl (fun _ => Yd.move rfl) rfl ?_
            refine J.s_op rfl (fun _ => Yd.cast (Yd.fieldA Try.underlying44 rfl ti3 rfl rfl) (show _ = Value.pointer (some ⟨b10, 5, none⟩) from rfl)) rfl ?_
            refine J.s_nil ?_
            refine J.o_op rfl (Yd.idxE (K := riS) Try.underlying49 ti57 rfl rfl r16 (by first | omega | exact idx_u8' _ | (simp only [Int.toNat_natCast]; omega) | (simp only [List.length_map, List.length_drop, List.length_take, List.length_append, List.length_replicate]; omega) | (simp <;> omega))) rfl ?_
            refine J.o_op rfl (Yd.load pl3 rfl (Cel.cell1 c_b10 5 rfl)) rfl ?_
            refine J.o_op rfl (Yd.fieldE (K := riS) r16 (by omega) Try.underlying57 rfl ti3 rfl rfl) rfl ?_
            refine J.o_op rfl (Yd.cast (Yd.loadFd (K := riS) riD pl3 rfl r16 (by first | omega | exact idx_u8' _ | (simp only [Int.toNat_natCast]; omega) | (simp only [List.length_map, List.length_drop, List.length_take, List.length_append, List.length_replicate]; omega) | (simp <;> omega)) rfl) (show _ = I (es16.getD (j : Int).toNat riD).1 from rfl)) rfl ?_
            refine J.o_nil ?_
            refine J.s_op rfl (fun _ => Yd.eql rfl rfl) rfl ?_
            refine J.s_nil ?_
            refine J.n_np ?_
            refine J.n_then ?_
            refine J.cond_dec rfl (fun hc13 => ?_) (fun hc13 => ?_)
            · skip
              have hix : idxI (eqP (es.getD (n0 : Int).toNat stD).2.2.2.2.2) ((R1.filter (toB (es.getD (n0 : Int).toNat stD).2.2.1)).map strp) = (j : Int) := inc_idx (strp_inc hg1.inc _) (by rw [List.length_map]; omega) (by rw [strp_get (by omega)]; exact (show ((R1.filter (toB (es.getD (n0 : Int).toNat stD).2.2.1)).getD j r5D).1 = _ from by have h8 := (R2.get riD r5D hki (i := (j : Int).toNat) (by omega)).1; rw [Int.toNat_natCast] at h8 hc13; exact h8.symm.trans hc13))
              have hgt : gtI ((R1.filter (toB (es.getD (n0 : Int).toNat stD).2.2.1)).map strp) (es.getD (n0 : Int).toNat stD).2.2.2.2.2 = strp ((R1.filter (toB (es.getD (n0 : Int).toNat stD).2.2.1)).getD (j : Int).toNat r5D) := by rw [gtI_at hix, strp_get (by omega), show (j : Int).toNat = j from Int.toNat_natCast j]
              obtain ⟨_, _⟩ := (⟨trivial, trivial⟩ : True ∧ True)
              refine J.seq ?_
              refine J.region ?_
              refine J.op (Yd.assign rfl) rfl ?_
              refine J.nil ?_
              refine J.n_then ?_
              refine J.seq ?_
              refine J.regionO [(1, true), (2, true)] [(0, 1), (3, 1), (4, 1)] [(5, false), (6, true)] mix (by kernel_rfl) ?_
              refine J.s_op rfl (fun _ => Yd.move rfl) rfl ?_
              refine J.s_op rfl (fun _ => Yd.move rfl) rfl ?_
              refine J.s_nil ?_
              refine J.o_op rfl (Yd.loadA ag36 ti36 rfl c_b17 0 rfl) rfl ?_
              refine J.o_op rfl (Yd.idxE (K := riS) Try.underlying49 ti57 rfl rfl r16 (by first | omega | exact idx_u8' _ | (simp only [Int.toNat_natCast]; omega) | (simp only [List.length_map, List.length_drop, List.length_take, List.length_append, List.length_replicate]; omega) | (simp <;> omega))) rfl ?_
              refine J.o_op rfl (Yd.loadEd (K := riS) riD ag57 ti57 rfl r16 (by first | omega | exact idx_u8' _ | (simp only [Int.toNat_natCast]; omega) | (simp only [List.length_map, List.length_drop, List.length_take, List.length_append, List.length_replicate]; omega) | (simp <;> omega))) rfl ?_
              refine J.o_nil ?_
              refine J.s_eff rfl (Ye.call cl24 rfl (Same_is hx9 (R2.get riD r5D hki (i := (j : Int).toNat) (by omega)) e0 hgt)) rfl ?_
              rintro _ w20 ⟨rfl, x1⟩
              have hq := hq.ext x1
              have e0 := e0.trans x1
              have c_b10 := c_b10.ext x1
              have c_b17 := c_b17.ext x1
              have o15 := o15.ext x1
              have hls := hls.ext x1
              have hx9 := hx9.ext x1
              have r16 := r16.ext x1
              clear x1
              refine J.s_op rfl (fun _ => Yd.not rfl) rfl ?_
              refine J.s_nil ?_
              refine J.n_np ?_
              refine J.n_then ?_
              refine J.cond_false rfl ?_
              refine J.skip ?_
              refine J.n_block ?_
              refine J.n_then ?_
              refine J.region ?_
              refine J.op (Yd.move rfl) rfl ?_
              refine J.op (Yd.add rfl rfl (by first | omega | exact idx_u8' _ | (simp only [Int.toNat_natCast]; omega) | (simp only [List.length_map, List.length_drop, List.length_take, List.length_append, List.length_replicate]; omega) | (simp <;> omega))) rfl ?_
              refine J.op (Yd.assign rfl) rfl ?_
              refine J.nil ?_
              refine J.n_then ?_
              exact J.round (j + 1) ⟨rfl, rfl, rfl, rfl, rfl, (someI (wnt_yes hix).symm), rfl, rfl, rfl, rfl, rfl, rfl, rfl, trivial⟩ (⟨by omega, hls, hx9, r16, hq, c_b10, c_b17, o15, e0⟩) (by omega)
            · skip
              have hix : idxI (eqP (es.getD (n0 : Int).toNat stD).2.2.2.2.2) ((R1.filter (toB (es.getD (n0 : Int).toNat stD).2.2.1)).map strp) ≠ (j : Int) := idx_nd (by rw [List.length_map]; omega) (by rw [strp_get (by omega)]; exact (show ¬ ((R1.filter (toB (es.getD (n0 : Int).toNat stD).2.2.1)).getD j r5D).1 = _ from by have h8 := (R2.get riD r5D hki (i := (j : Int).toNat) (by omega)).1; rw [Int.toNat_natCast] at h8 hc13; rw [← h8]; exact hc13))
              refine J.skip ?_
              refine J.n_block ?_
              refine J.n_then ?_
              refine J.region ?_
              refine J.op (Yd.move rfl) rfl ?_
              refine J.op (Yd.add rfl rfl (by first | omega | exact idx_u8' _ | (simp only [Int.toNat_natCast]; omega) | (simp only [List.length_map, List.length_drop, List.length_take, List.length_append, List.length_replicate]; omega) | (simp <;> omega))) rfl ?_
              refine J.op (Yd.assign rfl) rfl ?_
              refine J.nil ?_
              refine J.n_then ?_
              exact J.round (j + 1) ⟨rfl, rfl, rfl, rfl, rfl, (someI (wnt_no hix).symm), rfl, rfl, rfl, rfl, rfl, rfl, rfl, trivial⟩ (⟨by omega, hls, hx9, r16, hq, c_b10, c_b17, o15, e0⟩) (by omega)
          · skip
            refine J.exit ?_
            refine J.x_then ?_
            refine J.x_then ?_
            refine J.x_block ?_
            refine J.n_then ?_
            refine J.seq ?_
            refine J.region ?_
            refine J.op (Yd.move rfl) rfl ?_
            refine J.op (Yd.move rfl) rfl ?_
            refine J.op (Yd.neq rfl rfl) rfl ?_
            refine J.op (Yd.move rfl) rfl ?_
            refine J.know (t := 204) (v' := .bool false) rfl (ff (by rw [show j = ((R1.filter (toB (es.getD (n0 : Int).toNat stD).2.2.1)).map strp).length by rw [List.length_map]; omega, wnt_all]; exact fun h => h rfl)) ?_
            refine J.op_g rfl rfl rfl (Yd.move rfl) rfl ?_
            refine J.op_g rfl rfl rfl (Yd.neq rfl rfl) rfl ?_
            refine J.op_g rfl rfl rfl (Yd.move rfl) rfl ?_
            refine J.split_dec (t := 207) rfl (fun hge => ?_) (fun hge => ?_)
            · skip
              refine J.op_g rfl rfl rfl (Yd.loadA ag36 ti36 rfl c_b17 0 rfl) rfl ?_
              refine J.op_g rfl rfl rfl (Yd.cast (Yd.buildS (cells := #[I 0, Str [], Str [], I 0, nilS]) (pl := [(0, 1), (1, 1), (2, 1), (3, 1), (4, 1)]) Try.underlying57 (by kernel_rfl) ti57 rfl (by rfl)) (show _ = .agg (riS.c riD).toArray from rfl)) rfl ?_
              refine J.eff_g rfl rfl rfl (Ye.call cl24 rfl (Same_is (z := itD0) (r := r5D) (w0 := w) (by have h8 := hx9; rw [gtI_no hge] at h8; exact h8) ⟨rfl, rfl, rfl, rfl, fun W e => Rd.nilM (fun x : UInt8 => B x) _⟩ e0 rfl)) rfl ?_
              rintro _ w21 ⟨rfl, x1⟩
              have hq := hq.ext x1
              have e0 := e0.trans x1
              have c_b10 := c_b10.ext x1
              have c_b17 := c_b17.ext x1
              have o15 := o15.ext x1
              have hls := hls.ext x1
              have hx9 := hx9.ext x1
              have r16 := r16.ext x1
              clear x1
              refine J.op_g rfl rfl rfl (Yd.not rfl) rfl ?_
              refine J.op_g rfl rfl rfl (Yd.pick_t rfl rfl) rfl ?_
              refine J.op (Yd.pick_f rfl rfl) rfl ?_
              refine J.nil ?_
              refine J.n_then ?_
              refine J.cond_false rfl ?_
              refine J.skip ?_
              refine J.n_block ?_
              refine J.n_then ?_
              refine J.region ?_
              refine J.op (Yd.move rfl) rfl ?_
              refine J.op (Yd.add rfl rfl (by first | omega | exact idx_u8' _ | (simp only [Int.toNat_natCast]; omega) | (simp only [List.length_map, List.length_drop, List.length_take, List.length_append, List.length_replicate]; omega) | (simp <;> omega))) rfl ?_
              refine J.op (Yd.assign rfl) rfl ?_
              refine J.nil ?_
              refine J.n_then ?_
              exact J.round ((n0 + 1, r, c1, R1)) ⟨rfl, rfl, rfl, rfl, rfl, rfl, trivial⟩ (⟨by show n0 + 1 ≤ es.length; omega, hr_, hg1, hq.less, e0⟩) (by show es.length - (n0 + 1) < es.length - n0; omega)
            · skip
              refine J.not_g rfl rfl rfl rfl rfl ?_
              refine J.not_g rfl rfl rfl rfl rfl ?_
              refine J.not_g rfl rfl rfl rfl rfl ?_
              refine J.not_g rfl rfl rfl rfl rfl ?_
              refine J.op_g rfl rfl rfl (Yd.pick_f rfl rfl) rfl ?_
              refine J.op (Yd.pick_f rfl rfl) rfl ?_
              refine J.nil ?_
              refine J.n_then ?_
              refine J.cond_false rfl ?_
              refine J.skip ?_
              refine J.n_block ?_
              refine J.n_then ?_
              refine J.region ?_
              refine J.op (Yd.move rfl) rfl ?_
              refine J.op (Yd.add rfl rfl (by first | omega | exact idx_u8' _ | (simp only [Int.toNat_natCast]; omega) | (simp only [List.length_map, List.length_drop, List.length_take, List.length_append, List.length_replicate]; omega) | (simp <;> omega))) rfl ?_
              refine J.op (Yd.assign rfl) rfl ?_
              refine J.nil ?_
              refine J.n_then ?_
              exact J.round ((n0 + 1, r, c1, R1)) ⟨rfl, rfl, rfl, rfl, rfl, rfl, trivial⟩ (⟨by show n0 + 1 ≤ es.length; omega, hr_, hg1, hq.less, e0⟩) (by show es.length - (n0 + 1) < es.length - n0; omega)
        · skip
          refine J.seq ?_
          refine J.region ?_
          refine J.op (Yd.eql rfl rfl) rfl ?_
          refine J.op (Yd.assign rfl) rfl ?_
          refine J.nil ?_
          refine J.n_then ?_
          refine J.cond_dec rfl (fun k2 => ?_) (fun k2 => ?_)
          · skip
            refine J.seq ?_
            refine J.regionG (Tx w.heap.size [some b10]) [(0, true), (1, true), (3, true), (6, true), (7, true), (9, true)] [(2, 1), (4, 1), (8, 1), (10, 1), (5, 0)] [(11, false), (12, true)] mix (by kernel_rfl) ?_
            refine J.s_op rfl (fun _ => Yd.move rfl) rfl ?_
            refine J.s_op rfl (fun _ => Yd.cast (Yd.fieldA Try.underlying44 rfl ti9 rfl rfl) (show _ = Value.pointer (some ⟨b10, 2, none⟩) from rfl)) rfl ?_
            refine J.s_op rfl (fun _ => Yd.cast (Yd.fieldA Try.underlying44 rfl ti22 rfl rfl) (show _ = Value.pointer (some ⟨b10, 4, none⟩) from rfl)) rfl ?_
            refine J.s_op rfl (fun _ => Yd.move rfl) rfl ?_
            refine J.s_op rfl (fun _ => Yd.cast (Yd.fieldA Try.underlying44 rfl ti9 rfl rfl) (show _ = Value.pointer (some ⟨b10, 2, none⟩) from rfl)) rfl ?_
            refine J.s_op rfl (fun _ => Yd.cast (Yd.fieldA Try.underlying44 rfl ti22 rfl rfl) (show _ = Value.pointer (some ⟨b10, 4, none⟩) from rfl)) rfl ?_
            refine J.s_nil ?_
            refine J.g_op rfl (fun w1 ht => Yd.load pl9 rfl (Cel.cell1 (Cel.tx c_b10 ht (by simp)) 2 rfl)) rfl ?_
            refine J.g_op rfl (fun w1 ht => Yd.load pl22 rfl (Cel.cell1 (Cel.tx c_b10 ht (by simp)) 4 rfl)) rfl ?_
            refine J.g_op rfl (fun w1 ht => Yd.load pl9 rfl (Cel.cell1 (Cel.tx c_b10 ht (by simp)) 2 rfl)) rfl ?_
            refine J.g_op rfl (fun w1 ht => Yd.load pl22 rfl (Cel.cell1 (Cel.tx c_b10 ht (by simp)) 4 rfl)) rfl ?_
            refine J.g_eff rfl (Ye.call cl16 rfl (TAck1 hq hg (by omega) hids)) rfl (fun _ _ h => h.2.2) ?_
            rintro _ w22 ⟨rfl, hq2, ht⟩
            have c_b10 := Cel.tx c_b10 ht (by simp)
            replace hq := hq2
            clear hq2 ht
            have e0 := hq.e
            refine J.g_nil ?_
            refine J.s_eff rfl (Ye.call cl20 rfl (TAck2 hq hg (by omega) hids)) rfl ?_
            rintro _ w23 ⟨rfl, hq2, ht⟩
            have c_b10 := Cel.tx c_b10 ht (by simp)
            replace hq := hq2
            clear hq2 ht
            have e0 := hq.e
            refine J.s_op rfl (fun _ => Yd.neq rfl rfl) rfl ?_
            refine J.s_nil ?_
            refine J.n_np ?_
            refine J.n_then ?_
            refine J.know (t := 118) (v' := .bool false) rfl (ff (by exact fun h => h rfl)) ?_
            refine J.cond_false rfl ?_
            refine J.skip ?_
            refine J.n_block ?_
            refine J.n_then ?_
            refine J.seq ?_
            refine J.regionO [(0, true), (1, true), (4, true), (5, true)] [(2, 1), (6, 1), (3, 0)] [(7, false), (8, true), (9, true)] mix (by kernel_rfl) ?_
            refine J.s_op rfl (fun _ => Yd.move rfl) rfl ?_
            refine J.s_op rfl (fun _ => Yd.cast (Yd.fieldA Try.underlying44 rfl ti9 rfl rfl) (show _ = Value.pointer (some ⟨b10, 2, none⟩) from rfl)) rfl ?_
            refine J.s_op rfl (fun _ => Yd.move rfl) rfl ?_
            refine J.s_op rfl (fun _ => Yd.cast (Yd.fieldA Try.underlying44 rfl ti9 rfl rfl) (show _ = Value.pointer (some ⟨b10, 2, none⟩) from rfl)) rfl ?_
            refine J.s_nil ?_
            refine J.o_op rfl (Yd.load pl9 rfl (Cel.cell1 c_b10 2 rfl)) rfl ?_
            refine J.o_op rfl (Yd.load pl9 rfl (Cel.cell1 c_b10 2 rfl)) rfl ?_
            obtain ⟨c1, R1, hq, hg1⟩ : ∃ c1 R1, RT 65 36 52 [some b10] w w23 b c1 R1 b2 c1 R1 ∧ GR (n0 + 1) c1 R1 := ⟨_, _, hq, (by first | exact hg.put _ _ _ | exact hg.ack _ _ | exact hg.tick _ | exact hg.up)⟩
            refine J.o_eff rfl (Ye.call cl13 rfl (TList1 hq hg1 (by omega))) rfl (fun _ _ ⟨_, _, _, h⟩ => h) ?_
            rintro v15 w24 ⟨es15, o15, hls, x1⟩
            have ap_b10_v15 : Ap (some b10) v15.ownBlock := Ap.mk (Cel.live c_b10) (Es.fr o15)
            have fr_v15 : Fr w.heap.size v15.ownBlock := Fr.le (Es.fr o15) e0.size
            replace o15 := Es.base o15 e0.size
            have hq := hq.ext x1
            have e0 := e0.trans x1
            have c_b10 := c_b10.ext x1
            clear x1
            have hl15 := R2.len (show R2 (Eq3 _) _ _ from hls)
            rw [List.length_map] at hl15
            refine J.o_nil ?_
            refine J.s_eff rfl (Ye.call cl22 rfl (TList2 hq hg1 (by omega))) rfl ?_
            rintro v16 w25 ⟨es16, r16, hki, x1⟩
            have hq := hq.ext x1
            have e0 := e0.trans x1
            have c_b10 := c_b10.ext x1
            have o15 := o15.ext x1
            have hls := hls.ext x1
            clear x1
            have hl16 := R2.len hki
            have hq9 := hq
            obtain ⟨K9, q9, s9, es9, h9⟩ := hq9
            have cb2 := h9.c2
            clear h9
            have hfl9 := List.length_filter_le (toB (es.getD (n0 : Int).toNat stD).2.2.1) R1
            have hgl := hg1.len
            refine J.s_op rfl (fun _ => Yd.assign rfl) rfl ?_
            refine J.s_op rfl (fun _ => Yd.assign rfl) rfl ?_
            refine J.s_nil ?_
            refine J.n_np ?_
            refine J.n_then ?_
            refine J.seq ?_
            refine J.seq ?_
            refine J.regionO [(0, true), (2, true)] [(1, 1), (3, 1), (4, 1), (5, 1), (6, 1), (7, 1), (8, 1), (10, 1), (11, 1), (9, 0), (12, 1), (13, 1), (14, 1), (15, 1), (17, 1), (18, 1), (19, 1), (20, 1), (16, 0)] [(21, true), (22, true)] mix (by kernel_rfl) ?_
            refine J.s_op rfl (fun _ => Yd.move rfl) rfl ?_
            refine J.s_op rfl (fun _ => Yd.move rfl) rfl ?_
            refine J.s_nil ?_
            refine J.o_op rfl (Yd.lenE (K := itmS) Try.underlying31 rfl (Es.rd o15)) rfl ?_
            refine J.o_op rfl (Yd.lenE (K := riS) Try.underlying49 rfl r16) rfl ?_
            refine J.o_op rfl (Yd.neq rfl rfl) rfl ?_
            refine J.o_op rfl (Yd.move rfl) rfl ?_
            refine J.know (t := 143) (v' := .bool false) rfl (ff (by omega)) ?_
            refine J.o_op_g rfl rfl rfl rfl (Yd.move rfl) rfl ?_
            refine J.o_op_g rfl rfl rfl rfl (Yd.cast (Yd.fieldA Try.underlying44 rfl ti9 rfl rfl) (show _ = Value.pointer (some ⟨b10, 2, none⟩) from rfl)) rfl ?_
            refine J.o_op_g rfl rfl rfl rfl (Yd.load pl9 rfl (Cel.cell1 c_b10 2 rfl)) rfl ?_
            refine J.o_op_g rfl rfl rfl rfl (Yd.move rfl) rfl ?_
            refine J.o_op_g rfl rfl rfl rfl (Yd.lenE (K := riS) Try.underlying49 rfl r16) rfl ?_
            refine J.o_eff_g rfl rfl rfl rfl (Ye.call cl15 rfl (TLen1 (i := 0) hq)) rfl (fun _ _ ⟨_, h⟩ => h) ?_
            rintro _ w26 ⟨rfl, x1⟩
            have hq := hq.ext x1
            have e0 := e0.trans x1
            have c_b10 := c_b10.ext x1
            have o15 := o15.ext x1
            have hls := hls.ext x1
            have r16 := r16.ext x1
            have cb2 := cb2.ext x1
            clear x1
            refine J.o_op_g rfl rfl rfl rfl (Yd.neq rfl rfl) rfl ?_
            refine J.o_op rfl (Yd.pick_f rfl rfl) rfl ?_
            refine J.o_op rfl (Yd.move rfl) rfl ?_
            refine J.know (t := 152) (v' := .bool false) rfl (ff (by omega)) ?_
            refine J.o_op_g rfl rfl rfl rfl (Yd.move rfl) rfl ?_
            refine J.o_op_g rfl rfl rfl rfl (Yd.move rfl) rfl ?_
            refine J.o_op_g rfl rfl rfl rfl (Yd.nilCheck rfl) rfl ?_
            refine J.o_op_g rfl rfl rfl rfl (Yd.cast (Yd.fieldA Try.underlying52 rfl ti3 rfl rfl) (show _ = Value.pointer (some ⟨b2, 1, none⟩) from rfl)) rfl ?_
            refine J.o_op_g rfl rfl rfl rfl (Yd.load pl3 rfl (Cel.cell1 cb2 1 rfl)) rfl ?_
            refine J.o_eff_g rfl rfl rfl rfl (Ye.call cl14 rfl (TNow1 (i := 0) hq)) rfl (fun _ _ ⟨_, h⟩ => h) ?_
            rintro _ w27 ⟨rfl, x1⟩
            have hq := hq.ext x1
            have e0 := e0.trans x1
            have c_b10 := c_b10.ext x1
            have o15 := o15.ext x1
            have hls := hls.ext x1
            have r16 := r16.ext x1
            have cb2 := cb2.ext x1
            clear x1
            refine J.o_nil ?_
            refine J.s_op_g rfl rfl rfl rfl (fun _ => Yd.neq rfl rfl) rfl ?_
            refine J.s_op rfl (fun _ => Yd.pick_f rfl rfl) rfl ?_
            refine J.s_nil ?_
            refine J.n_np ?_
            refine J.n_then ?_
            refine J.know (t := 160) (v' := .bool false) rfl (ff (by omega)) ?_
            refine J.cond_false rfl ?_
            refine J.skip ?_
            refine J.n_then ?_
            refine J.seq ?_
            refine J.region ?_
            refine J.op (Yd.move rfl) rfl ?_
            refine J.op (Yd.cast (Yd.fieldA Try.underlying44 rfl ti9 rfl rfl) (show _ = Value.pointer (some ⟨b10, 2, none⟩) from rfl)) rfl ?_
            refine J.op (Yd.load pl9 rfl (Cel.cell1 c_b10 2 rfl)) rfl ?_
            refine J.op (Yd.cast (Yd.fieldA Try.underlying44 rfl ti3 rfl rfl) (show _ = Value.pointer (some ⟨b10, 5, none⟩) from rfl)) rfl ?_
            refine J.op (Yd.load pl3 rfl (Cel.cell1 c_b10 5 rfl)) rfl ?_
            refine J.eff (Ye.call cl23 rfl (TGet1 hq hg1 (by omega))) rfl ?_
            rintro _ w28 ⟨x9, rfl, hx9, x1⟩
            have hq := hq.ext x1
            have e0 := e0.trans x1
            have c_b10 := c_b10.ext x1
            have o15 := o15.ext x1
            have hls := hls.ext x1
            have r16 := r16.ext x1
            have cb2 := cb2.ext x1
            clear x1
            refine J.op (Yd.move rfl) rfl ?_
            refine J.op (Yd.extract rfl rfl) rfl ?_
            refine J.op (Yd.extract rfl rfl) rfl ?_
            refine J.eff (Ye.alloc ti36 (S := [(0, 4, [I 0, Str [], I 0, nilS])]) (by simp [SegAll, SegOK, Value.cells, nilS])) rfl ?_
            rintro _ w29 ⟨b17, rfl, hb_b17, c_b17, xA⟩
            refine J.eff0 (Ye.storeA (ys := itmS.c x9) ti36 c_b17 0 rfl rfl rfl rfl (by rfl) (itm_one1 (x := x9) (Rd.one hx9.2.2.2) _ (List.mem_singleton.2 rfl))) ?_
            rintro _ w30 ⟨cX, hu⟩
            simp only [List.set_cons_zero, List.set_cons_succ] at cX
            have xA := Ext.gbk xA (Fr.blk hb_b17) hu.gb
            replace c_b17 := cX
            clear cX hu
            have e0 := e0.trans xA
            have c_b10 := c_b10.ext xA
            have o15 := o15.ext xA
            have hls := hls.ext xA
            have r16 := r16.ext xA
            have cb2 := cb2.ext xA
            have hx9 := hx9.ext xA
            have hq := hq.ext xA
            clear xA
            refine J.op (Yd.assign rfl) rfl ?_
            refine J.nil ?_
            refine J.n_then ?_
            refine J.seq ?_
            refine J.region ?_
            refine J.op (Yd.assign rfl) rfl ?_
            refine J.nil ?_
            refine J.n_then ?_
            refine J.seq ?_
            refine J.seq ?_
            refine J.region ?_
            refine J.op (Yd.assign rfl) rfl ?_
            refine J.nil ?_
            refine J.n_then ?_
            refine J.block ?_
            refine J.loop (ι := Nat) (fun i => [(1, s), (7, .func (.func 10) #[.pointer (some ⟨b, 0, none⟩)] #[]), (8, I r), (9, I (n0 : Int)), (18, I (gtE ((R1.filter (toB (es.getD (n0 : Int).toNat stD).2.2.1)).map strp) (es.getD (n0 : Int).toNat stD).2.2.2.2.2)), (19, I (wnt ((R1.filter (toB (es.getD (n0 : Int).toNat stD).2.2.1)).map strp) (es.getD (n0 : Int).toNat stD).2.2.2.2.2 i)), (20, I (i : Int)), (5, .pointer (some ⟨b, 0, none⟩)), (6, .pointer (some ⟨b2, 0, none⟩)), (10, .pointer (some ⟨b10, 0, none⟩)), (17, .pointer (some ⟨b17, 0, none⟩)), (15, v15), (16, v16)]) (fun i w' => i ≤ (R1.filter (toB (es.getD (n0 : Int).toNat stD).2.2.1)).length ∧ LsB w' es15 ((R1.filter (toB (es.getD (n0 : Int).toNat stD).2.2.1)).map strp) ∧ Eq3 w' x9 (gtI ((R1.filter (toB (es.getD (n0 : Int).toNat stD).2.2.1)).map strp) (es.getD (n0 : Int).toNat stD).2.2.2.2.2) ∧ Er riS w' v16 es16 ∧ RT 65 36 52 [some b10] w w' b c1 R1 b2 c1 R1 ∧ Cel w' b10 44 [(0, 1, [I (es.getD (n0 : Int).toNat stD).1]), (1, 1, [Str (es.getD (n0 : Int).toNat stD).2.1]), (2, 1, [Str (es.getD (n0 : Int).toNat stD).2.2.1]), (3, 1, [(es.getD (n0 : Int).toNat stD).2.2.2.1]), (4, 1, [(es.getD (n0 : Int).toNat stD).2.2.2.2.1]), (5, 1, [I (es.getD (n0 : Int).toNat stD).2.2.2.2.2])] ∧ Cel w' b17 36 [(0, 4, itmS.c x9)] ∧ Es itmS w.heap.size 36 w' v15 es15 ∧ Ext w w') (fun i => (R1.filter (toB (es.getD (n0 : Int).toNat stD).2.2.1)).length - i) (0) ⟨rfl, rfl, rfl, rfl, rfl, (someI (wnt_0 _ _).symm), rfl, rfl, rfl, rfl, rfl, rfl, rfl, trivial⟩ (⟨Nat.zero_le _, hls, hx9, r16, hq, c_b10, c_b17, o15, e0⟩) ?_
            rintro j w31 ⟨hk2, hls, hx9, r16, hq, c_b10, c_b17, o15, e0⟩
            refine J.seq ?_
            refine J.seq ?_
            refine J.region ?_
            refine J.op (Yd.move rfl) rfl ?_
            refine J.op (Yd.move rfl) rfl ?_
            refine J.op (Yd.lenE (K := itmS) Try.underlying31 rfl (Es.rd o15)) rfl ?_
            refine J.op (Yd.lss rfl rfl) rfl ?_
            refine J.nil ?_
            refine J.n_then ?_
            refine J.cond_dec rfl (fun hc11 => ?_) (fun hc11 => ?_)
            · skip
              refine J.skip ?_
              refine J.n_then ?_
              refine J.seq ?_
              refine J.block ?_
              refine J.seq ?_
              refine J.seq ?_
              refine J.regionO [(0, true), (1, true), (4, true), (5, true)] [(2, 1), (3, 1), (6, 1), (7, 1)] [(8, false), (9, true)] mix (by kernel_rfl) ?_
              refine J.s_op rfl (fun _ => Yd.move rfl) rfl ?_
              refine J.s_op rfl (fun _ => Yd.move rfl) rfl ?_
              refine J.s_op rfl (fun _ => Yd.move rfl) rfl ?_
              refine J.s_op rfl (fun _ => Yd.move rfl) rfl ?_
              refine J.s_nil ?_
              refine J.o_op rfl (Yd.idxE (K := itmS) Try.underlying31 ti36 rfl rfl (Es.rd o15) (by first | omega | exact idx_u8' _ | (simp only [Int.toNat_natCast]; omega) | (simp only [List.length_map, List.length_drop, List.length_take, List.length_append, List.length_replicate]; omega) | (simp <;> omega))) rfl ?_
              refine J.o_op rfl (Yd.loadEd (K := itmS) itmD ag36 ti36 rfl (Es.rd o15) (by first | omega | exact idx_u8' _ | (simp only [Int.toNat_natCast]; omega) | (simp only [List.length_map, List.length_drop, List.length_take, List.length_append, List.length_replicate]; omega) | (simp <;> omega))) rfl ?_
              refine J.o_op rfl (Yd.idxE (K := riS) Try.underlying49 ti57 rfl rfl r16 (by first | omega | exact idx_u8' _ | (simp only [Int.toNat_natCast]; omega) | (simp only [List.length_map, List.length_drop, List.length_take, List.length_append, List.length_replicate]; omega) | (simp <;> omega))) rfl ?_
              refine J.o_op rfl (Yd.loadEd (K := riS) riD ag57 ti57 rfl r16 (by first | omega | exact idx_u8' _ | (simp only [Int.toNat_natCast]; omega) | (simp only [List.length_map, List.length_drop, List.length_take, List.length_append, List.length_replicate]; omega) | (simp <;> omega))) rfl ?_
              refine J.o_nil ?_
              refine J.s_eff rfl (Ye.call cl24 rfl (Same_is (R2.get itmD itD0 (show R2 (Eq3 _) _ _ from hls) (i := (j : Int).toNat) (by omega)) (R2.get riD r5D hki (i := (j : Int).toNat) (by omega)) e0 (strp_get (by omega)))) rfl ?_
              rintro _ w32 ⟨rfl, x1⟩
              have hq := hq.ext x1
              have e0 := e0.trans x1
              have c_b10 := c_b10.ext x1
              have c_b17 := c_b17.ext x1
              have o15 := o15.ext x1
              have hls := hls.ext x1
              have hx9 := hx9.ext x1
              have r16 := r16.ext x1
              clear x1
              refine J.s_op rfl (fun _ => Yd.not rfl) rfl ?_
              refine J.s_nil ?_
              refine J.n_np ?_
              refine J.n_then ?_
              refine J.cond_false rfl ?_
              refine J.skip ?_
              refine J.n_then ?_
              refine J.seq ?_
              refine J.regionO [(0, true), (1, true), (5, true)] [(2, 1), (6, 1), (3, 1), (4, 1)] [(7, true)] mix (by kernel_rfl) ?_
              refine J.s_op rfl (fun _ => Yd.move rfl) rfl ?_
              refine J.s_op rfl (fun _ => Yd.move rfl) rfl ?_
              refine J.s_op rfl (fun _ => Yd.cast (Yd.fieldA Try.underlying44 rfl ti3 rfl rfl) (show _ = Value.pointer (some ⟨b10, 5, none⟩) from rfl)) rfl ?_
              refine J.s_nil ?_
              refine J.o_op rfl (Yd.idxE (K := riS) Try.underlying49 ti57 rfl rfl r16 (by first | omega | exact idx_u8' _ | (simp only [Int.toNat_natCast]; omega) | (simp only [List.length_map, List.length_drop, List.length_take, List.length_append, List.length_replicate]; omega) | (simp <;> omega))) rfl ?_
              refine J.o_op rfl (Yd.load pl3 rfl (Cel.cell1 c_b10 5 rfl)) rfl ?_
              refine J.o_op rfl (Yd.fieldE (K := riS) r16 (by omega) Try.underlying57 rfl ti3 rfl rfl) rfl ?_
              refine J.o_op rfl (Yd.cast (Yd.loadFd (K := riS) riD pl3 rfl r16 (by first | omega | exact idx_u8' _ | (simp only [Int.toNat_natCast]; omega) | (simp only [List.length_map, List.length_drop, List.length_take, List.length_append, List.length_replicate]; omega) | (simp <;> omega)) rfl) (show _ = I (es16.getD (j : Int).toNat riD).1 from rfl)) rfl ?_
              refine J.o_nil ?_
              refine J.s_op rfl (fun _ => Yd.eql rfl rfl) rfl ?_
              refine J.s_nil ?_
              refine J.n_np ?_
              refine J.n_then ?_
              refine J.cond_dec rfl (fun hc13 => ?_) (fun hc13 => ?_)
              · skip
                have hix : idxI (eqP (es.getD (n0 : Int).toNat stD).2.2.2.2.2) ((R1.filter (toB (es.getD (n0 : Int).toNat stD).2.2.1)).map strp) = (j : Int) := inc_idx (strp_inc hg1.inc _) (by rw [List.length_map]; omega) (by rw [strp_get (by omega)]; exact (show ((R1.filter (toB (es.getD (n0 : Int).toNat stD).2.2.1)).getD j r5D).1 = _ from by have h8 := (R2.get riD r5D hki (i := (j : Int).toNat) (by omega)).1; rw [Int.toNat_natCast] at h8 hc13; exact h8.symm.trans hc13))
                have hgt : gtI ((R1.filter (toB (es.getD (n0 : Int).toNat stD).2.2.1)).map strp) (es.getD (n0 : Int).toNat stD).2.2.2.2.2 = strp ((R1.filter (toB (es.getD (n0 : Int).toNat stD).2.2.1)).getD (j : Int).toNat r5D) := by rw [gtI_at hix, strp_get (by omega), show (j : Int).toNat = j from Int.toNat_natCast j]
                obtain ⟨_, _⟩ := (⟨trivial, trivial⟩ : True ∧ True)
                refine J.seq ?_
                refine J.region ?_
                refine J.op (Yd.assign rfl) rfl ?_
                refine J.nil ?_
                refine J.n_then ?_
                refine J.seq ?_
                refine J.regionO [(1, true), (2, true)] [(0, 1), (3, 1), (4, 1)] [(5, false), (6, true)] mix (by kernel_rfl) ?_
                refine J.s_op rfl (fun _ => Yd.move rfl) rfl ?_
                refine J.s_op rfl (fun _ => Yd.move rfl) rfl ?_
                refine J.s_nil ?_
                refine J.o_op rfl (Yd.loadA ag36 ti36 rfl c_b17 0 rfl) rfl ?_
                refine J.o_op rfl (Yd.idxE (K := riS) Try.underlying49 ti57 rfl rfl r16 (by first | omega | exact idx_u8' _ | (simp only [Int.toNat_natCast]; omega) | (simp only [List.length_map, List.length_drop, List.length_take, List.length_append, List.length_replicate]; omega) | (simp <;> omega))) rfl ?_
                refine J.o_op rfl (Yd.loadEd (K := riS) riD ag57 ti57 rfl r16 (by first | omega | exact idx_u8' _ | (simp only [Int.toNat_natCast]; omega) | (simp only [List.length_map, List.length_drop, List.length_take, List.length_append, List.length_replicate]; omega) | (simp <;> omega))) rfl ?_
                refine J.o_nil ?_
                refine J.s_eff rfl (Ye.call cl24 rfl (Same_is hx9 (R2.get riD r5D hki (i := (j : Int).toNat) (by omega)) e0 hgt)) rfl ?_
                rintro _ w33 ⟨rfl, x1⟩
                have hq := hq.ext x1
                have e0 := e0.trans x1
                have c_b10 := c_b10.ext x1
                have c_b17 := c_b17.ext x1
                have o15 := o15.ext x1
                have hls := hls.ext x1
                have hx9 := hx9.ext x1
                have r16 := r16.ext x1
                clear x1
                refine J.s_op rfl (fun _ => Yd.not rfl) rfl ?_
                refine J.s_nil ?_
                refine J.n_np ?_
                refine J.n_then ?_
                refine J.cond_false rfl ?_
                refine J.skip ?_
                refine J.n_block ?_
                refine J.n_then ?_
                refine J.region ?_
                refine J.op (Yd.move rfl) rfl ?_
                refine J.op (Yd.add rfl rfl (by first | omega | exact idx_u8' _ | (simp only [Int.toNat_natCast]; omega) | (simp only [List.length_map, List.length_drop, List.length_take, List.length_append, List.length_replicate]; omega) | (simp <;> omega))) rfl ?_
                refine J.op (Yd.assign rfl) rfl ?_
                refine J.nil ?_
                refine J.n_then ?_
                exact J.round (j + 1) ⟨rfl, rfl, rfl, rfl, rfl, (someI (wnt_yes hix).symm), rfl, rfl, rfl, rfl, rfl, rfl, rfl, trivial⟩ (⟨by omega, hls, hx9, r16, hq, c_b10, c_b17, o15, e0⟩) (by omega)
              · skip
                have hix : idxI (eqP (es.getD (n0 : Int).toNat stD).2.2.2.2.2) ((R1.filter (toB (es.getD (n0 : Int).toNat stD).2.2.1)).map strp) ≠ (j : Int) := idx_nd (by rw [List.length_map]; omega) (by rw [strp_get (by omega)]; exact (show ¬ ((R1.filter (toB (es.getD (n0 : Int).toNat stD).2.2.1)).getD j r5D).1 = _ from by have h8 := (R2.get riD r5D hki (i := (j : Int).toNat) (by omega)).1; rw [Int.toNat_natCast] at h8 hc13; rw [← h8]; exact hc13))
                refine J.skip ?_
                refine J.n_block ?_
                refine J.n_then ?_
                refine J.region ?_
                refine J.op (Yd.move rfl) rfl ?_
                refine J.op (Yd.add rfl rfl (by first | omega | exact idx_u8' _ | (simp only [Int.toNat_natCast]; omega) | (simp only [List.length_map, List.length_drop, List.length_take, List.length_append, List.length_replicate]; omega) | (simp <;> omega))) rfl ?_
                refine J.op (Yd.assign rfl) rfl ?_
                refine J.nil ?_
                refine J.n_then ?_
                exact J.round (j + 1) ⟨rfl, rfl, rfl, rfl, rfl, (someI (wnt_no hix).symm), rfl, rfl, rfl, rfl, rfl, rfl, rfl, trivial⟩ (⟨by omega, hls, hx9, r16, hq, c_b10, c_b17, o15, e0⟩) (by omega)
            · skip
              refine J.exit ?_
              refine J.x_then ?_
              refine J.x_then ?_
              refine J.x_block ?_
              refine J.n_then ?_
              refine J.seq ?_
              refine J.region ?_
              refine J.op (Yd.move rfl) rfl ?_
              refine J.op (Yd.move rfl) rfl ?_
              refine J.op (Yd.neq rfl rfl) rfl ?_
              refine J.op (Yd.move rfl) rfl ?_
              refine J.know (t := 204) (v' := .bool false) rfl (ff (by rw [show j = ((R1.filter (toB (es.getD (n0 : Int).toNat stD).2.2.1)).map strp).length by rw [List.length_map]; omega, wnt_all]; exact fun h => h rfl)) ?_
              refine J.op_g rfl rfl rfl (Yd.move rfl) rfl ?_
              refine J.op_g rfl rfl rfl (Yd.neq rfl rfl) rfl ?_
              refine J.op_g rfl rfl rfl (Yd.move rfl) rfl ?_
              refine J.split_dec (t := 207) rfl (fun hge => ?_) (fun hge => ?_)
              · skip
                refine J.op_g rfl rfl rfl (Yd.loadA ag36 ti36 rfl c_b17 0 rfl) rfl ?_
                refine J.op_g rfl rfl rfl (Yd.cast (Yd.buildS (cells := #[I 0, Str [], Str [], I 0, nilS]) (pl := [(0, 1), (1, 1), (2, 1), (3, 1), (4, 1)]) Try.underlying57 (by kernel_rfl) ti57 rfl (by rfl)) (show _ = .agg (riS.c riD).toArray from rfl)) rfl ?_
                refine J.eff_g rfl rfl rfl (Ye.call cl24 rfl (Same_is (z := itD0) (r := r5D) (w0 := w) (by have h8 := hx9; rw [gtI_no hge] at h8; exact h8) ⟨rfl, rfl, rfl, rfl, fun W e => Rd.nilM (fun x : UInt8 => B x) _⟩ e0 rfl)) rfl ?_
                rintro _ w34 ⟨rfl, x1⟩
                have hq := hq.ext x1
                have e0 := e0.trans x1
                have c_b10 := c_b10.ext x1
                have c_b17 := c_b17.ext x1
                have o15 := o15.ext x1
                have hls := hls.ext x1
                have hx9 := hx9.ext x1
                have r16 := r16.ext x1
                clear x1
                refine J.op_g rfl rfl rfl (Yd.not rfl) rfl ?_
                refine J.op_g rfl rfl rfl (Yd.pick_t rfl rfl) rfl ?_
                refine J.op (Yd.pick_f rfl rfl) rfl ?_
                refine J.nil ?_
                refine J.n_then ?_
                refine J.cond_false rfl ?_
                refine J.skip ?_
                refine J.n_block ?_
                refine J.n_then ?_
                refine J.region ?_
                refine J.op (Yd.move rfl) rfl ?_
                refine J.op (Yd.add rfl rfl (by first | omega | exact idx_u8' _ | (simp only [Int.toNat_natCast]; omega) | (simp only [List.length_map, List.length_drop, List.length_take, List.length_append, List.length_replicate]; omega) | (simp <;> omega))) rfl ?_
                refine J.op (Yd.assign rfl) rfl ?_
                refine J.nil ?_
                refine J.n_then ?_
                exact J.round ((n0 + 1, r, c1, R1)) ⟨rfl, rfl, rfl, rfl, rfl, rfl, trivial⟩ (⟨by show n0 + 1 ≤ es.length; omega, hr_, hg1, hq.less, e0⟩) (by show es.length - (n0 + 1) < es.length - n0; omega)
              · skip
                refine J.not_g rfl rfl rfl rfl rfl ?_
                refine J.not_g rfl rfl rfl rfl rfl ?_
                refine J.not_g rfl rfl rfl rfl rfl ?_
                refine J.not_g rfl rfl rfl rfl rfl ?_
                refine J.op_g rfl rfl rfl (Yd.pick_f rfl rfl) rfl ?_
                refine J.op (Yd.pick_f rfl rfl) rfl ?_
                refine J.nil ?_
                refine J.n_then ?_
                refine J.cond_false rfl ?_
                refine J.skip ?_
                refine J.n_block ?_
                refine J.n_then ?_
                refine J.region ?_
                refine J.op (Yd.move rfl) rfl ?_
                refine J.op (Yd.add rfl rfl (by first | omega | exact idx_u8' _ | (simp only [Int.toNat_natCast]; omega) | (simp only [List.length_map, List.length_drop, List.length_take, List.length_append, List.length_replicate]; omega) | (simp <;> omega))) rfl ?_
                refine J.op (Yd.assign rfl) rfl ?_
                refine J.nil ?_
                refine J.n_then ?_
                exact J.round ((n0 + 1, r, c1, R1)) ⟨rfl, rfl, rfl, rfl, rfl, rfl, trivial⟩ (⟨by show n0 + 1 ≤ es.length; omega, hr_, hg1, hq.less, e0⟩) (by show es.length - (n0 + 1) < es.length - n0; omega)
          · skip
            refine J.seq ?_
            refine J.region ?_
            refine J.op (Yd.eql rfl rfl) rfl ?_
            refine J.op (Yd.assign rfl) rfl ?_
            refine J.nil ?_
            refine J.n_then ?_
            refine J.cond_dec rfl (fun k3 => ?_) (fun k3 => ?_)
            · skip
              refine J.seq ?_
              refine J.regionG (Tx w.heap.size [some b10]) [(0, true), (1, true), (4, true), (5, true)] [(2, 1), (6, 1), (3, 0)] [(7, false), (8, true)] mix (by kernel_rfl) ?_
              refine J.s_op rfl (fun _ => Yd.move rfl) rfl ?_
              refine J.s_op rfl (fun _ => Yd.cast (Yd.fieldA Try.underlying44 rfl ti3 rfl rfl) (show _ = Value.pointer (some ⟨b10, 5, none⟩) from rfl)) rfl ?_
              refine J.s_op rfl (fun _ => Yd.move rfl) rfl ?_
              refine J.s_op rfl (fun _ => Yd.cast (Yd.fieldA Try.underlying44 rfl ti3 rfl rfl) (show _ = Value.pointer (some ⟨b10, 5, none⟩) from rfl)) rfl ?_
              refine J.s_nil ?_
              refine J.g_op rfl (fun w1 ht => Yd.load pl3 rfl (Cel.cell1 (Cel.tx c_b10 ht (by simp)) 5 rfl)) rfl ?_
              refine J.g_op rfl (fun w1 ht => Yd.load pl3 rfl (Cel.cell1 (Cel.tx c_b10 ht (by simp)) 5 rfl)) rfl ?_
              refine J.g_eff rfl (Ye.call cl12 rfl (TTick1 hq hg (by omega))) rfl (fun _ _ h => h.2.2) ?_
              rintro _ w35 ⟨rfl, hq2, ht⟩
              have c_b10 := Cel.tx c_b10 ht (by simp)
              replace hq := hq2
              clear hq2 ht
              have e0 := hq.e
              refine J.g_nil ?_
              refine J.s_eff rfl (Ye.call cl21 rfl (TTick2 hq hg (by omega))) rfl ?_
              rintro _ w36 ⟨rfl, hq2, ht⟩
              have c_b10 := Cel.tx c_b10 ht (by simp)
              replace hq := hq2
              clear hq2 ht
              have e0 := hq.e
              refine J.s_op rfl (fun _ => Yd.neq rfl rfl) rfl ?_
              refine J.s_nil ?_
              refine J.n_np ?_
              refine J.n_then ?_
              refine J.know (t := 129) (v' := .bool false) rfl (ff (by exact fun h => h rfl)) ?_
              refine J.cond_false rfl ?_
              refine J.skip ?_
              refine J.n_block ?_
              refine J.n_then ?_
              refine J.seq ?_
              refine J.regionO [(0, true), (1, true), (4, true), (5, true)] [(2, 1), (6, 1), (3, 0)] [(7, false), (8, true), (9, true)] mix (by kernel_rfl) ?_
              refine J.s_op rfl (fun _ => Yd.move rfl) rfl ?_
              refine J.s_op rfl (fun _ => Yd.cast (Yd.fieldA Try.underlying44 rfl ti9 rfl rfl) (show _ = Value.pointer (some ⟨b10, 2, none⟩) from rfl)) rfl ?_
              refine J.s_op rfl (fun _ => Yd.move rfl) rfl ?_
              refine J.s_op rfl (fun _ => Yd.cast (Yd.fieldA Try.underlying44 rfl ti9 rfl rfl) (show _ = Value.pointer (some ⟨b10, 2, none⟩) from rfl)) rfl ?_
              refine J.s_nil ?_
              refine J.o_op rfl (Yd.load pl9 rfl (Cel.cell1 c_b10 2 rfl)) rfl ?_
              refine J.o_op rfl (Yd.load pl9 rfl (Cel.cell1 c_b10 2 rfl)) rfl ?_
              obtain ⟨c1, R1, hq, hg1⟩ : ∃ c1 R1, RT 65 36 52 [some b10] w w36 b c1 R1 b2 c1 R1 ∧ GR (n0 + 1) c1 R1 := ⟨_, _, hq, (by first | exact hg.put _ _ _ | exact hg.ack _ _ | exact hg.tick _ | exact hg.up)⟩
              refine J.o_eff rfl (Ye.call cl13 rfl (TList1 hq hg1 (by omega))) rfl (fun _ _ ⟨_, _, _, h⟩ => h) ?_
              rintro v15 w37 ⟨es15, o15, hls, x1⟩
              have ap_b10_v15 : Ap (some b10) v15.ownBlock := Ap.mk (Cel.live c_b10) (Es.fr o15)
              have fr_v15 : Fr w.heap.size v15.ownBlock := Fr.le (Es.fr o15) e0.size
              replace o15 := Es.base o15 e0.size
              have hq := hq.ext x1
              have e0 := e0.trans x1
              have c_b10 := c_b10.ext x1
              clear x1
              have hl15 := R2.len (show R2 (Eq3 _) _ _ from hls)
              rw [List.length_map] at hl15
              refine J.o_nil ?_
              refine J.s_eff rfl (Ye.call cl22 rfl (TList2 hq hg1 (by omega))) rfl ?_
              rintro v16 w38 ⟨es16, r16, hki, x1⟩
              have hq := hq.ext x1
              have e0 := e0.trans x1
              have c_b10 := c_b10.ext x1
              have o15 := o15.ext x1
              have hls := hls.ext x1
              clear x1
              have hl16 := R2.len hki
              have hq9 := hq
              obtain ⟨K9, q9, s9, es9, h9⟩ := hq9
              have cb2 := h9.c2
              clear h9
              have hfl9 := List.length_filter_le (toB (es.getD (n0 : Int).toNat stD).2.2.1) R1
              have hgl := hg1.len
              refine J.s_op rfl (fun _ => Yd.assign rfl) rfl ?_
              refine J.s_op rfl (fun _ => Yd.assign rfl) rfl ?_
              refine J.s_nil ?_
              refine J.n_np ?_
              refine J.n_then ?_
              refine J.seq ?_
              refine J.seq ?_
              refine J.regionO [(0, true), (2, true)] [(1, 1), (3, 1), (4, 1), (5, 1), (6, 1), (7, 1), (8, 1), (10, 1), (11, 1), (9, 0), (12, 1), (13, 1), (14, 1), (15, 1), (17, 1), (18, 1), (19, 1), (20, 1), (16, 0)] [(21, true), (22, true)] mix (by kernel_rfl) ?_
              refine J.s_op rfl (fun _ => Yd.move rfl) rfl ?_
              refine J.s_op rfl (fun _ => Yd.move rfl) rfl ?_
              refine J.s_nil ?_
              refine J.o_op rfl (Yd.lenE (K := itmS) Try.underlying31 rfl (Es.rd o15)) rfl ?_
              refine J.o_op rfl (Yd.lenE (K := riS) Try.underlying49 rfl r16) rfl ?_
              refine J.o_op rfl (Yd.neq rfl rfl) rfl ?_
              refine J.o_op rfl (Yd.move rfl) rfl ?_
              refine J.know (t := 143) (v' := .bool false) rfl (ff (by omega)) ?_
              refine J.o_op_g rfl rfl rfl rfl (Yd.move rfl) rfl ?_
              refine J.o_op_g rfl rfl rfl rfl (Yd.cast (Yd.fieldA Try.underlying44 rfl ti9 rfl rfl) (show _ = Value.pointer (some ⟨b10, 2, none⟩) from rfl)) rfl ?_
              refine J.o_op_g rfl rfl rfl rfl (Yd.load pl9 rfl (Cel.cell1 c_b10 2 rfl)) rfl ?_
              refine J.o_op_g rfl rfl rfl rfl (Yd.move rfl) rfl ?_
              refine J.o_op_g rfl rfl rfl rfl (Yd.lenE (K := riS) Try.underlying49 rfl r16) rfl ?_
              refine J.o_eff_g rfl rfl rfl rfl (Ye.call cl15 rfl (TLen1 (i := 0) hq)) rfl (fun _ _ ⟨_, h⟩ => h) ?_
              rintro _ w39 ⟨rfl, x1⟩
              have hq := hq.ext x1
              have e0 := e0.trans x1
              have c_b10 := c_b10.ext x1
              have o15 := o15.ext x1
              have hls := hls.ext x1
              have r16 := r16.ext x1
              have cb2 := cb2.ext x1
              clear x1
              refine J.o_op_g rfl rfl rfl rfl (Yd.neq rfl rfl) rfl ?_
              refine J.o_op rfl (Yd.pick_f rfl rfl) rfl ?_
              refine J.o_op rfl (Yd.move rfl) rfl ?_
              refine J.know (t := 152) (v' := .bool false) rfl (ff (by omega)) ?_
              refine J.o_op_g rfl rfl rfl rfl (Yd.move rfl) rfl ?_
              refine J.o_op_g rfl rfl rfl rfl (Yd.move rfl) rfl ?_
              refine J.o_op_g rfl rfl rfl rfl (Yd.nilCheck rfl) rfl ?_
              refine J.o_op_g rfl rfl rfl rfl (Yd.cast (Yd.fieldA Try.underlying52 rfl ti3 rfl rfl) (show _ = Value.pointer (some ⟨b2, 1, none⟩) from rfl)) rfl ?_
              refine J.o_op_g rfl rfl rfl rfl (Yd.load pl3 rfl (Cel.cell1 cb2 1 rfl)) rfl ?_
              refine J.o_eff_g rfl rfl rfl rfl (Ye.call cl14 rfl (TNow1 (i := 0) hq)) rfl (fun _ _ ⟨_, h⟩ => h) ?_
              rintro _ w40 ⟨rfl, x1⟩
              have hq := hq.ext x1
              have e0 := e0.trans x1
              have c_b10 := c_b10.ext x1
              have o15 := o15.ext x1
              have hls := hls.ext x1
              have r16 := r16.ext x1
              have cb2 := cb2.ext x1
              clear x1
              refine J.o_nil ?_
              refine J.s_op_g rfl rfl rfl rfl (fun _ => Yd.neq rfl rfl) rfl ?_
              refine J.s_op rfl (fun _ => Yd.pick_f rfl rfl) rfl ?_
              refine J.s_nil ?_
              refine J.n_np ?_
              refine J.n_then ?_
              refine J.know (t := 160) (v' := .bool false) rfl (ff (by omega)) ?_
              refine J.cond_false rfl ?_
              refine J.skip ?_
              refine J.n_then ?_
              refine J.seq ?_
              refine J.region ?_
              refine J.op (Yd.move rfl) rfl ?_
              refine J.op (Yd.cast (Yd.fieldA Try.underlying44 rfl ti9 rfl rfl) (show _ = Value.pointer (some ⟨b10, 2, none⟩) from rfl)) rfl ?_
              refine J.op (Yd.load pl9 rfl (Cel.cell1 c_b10 2 rfl)) rfl ?_
              refine J.op (Yd.cast (Yd.fieldA Try.underlying44 rfl ti3 rfl rfl) (show _ = Value.pointer (some ⟨b10, 5, none⟩) from rfl)) rfl ?_
              refine J.op (Yd.load pl3 rfl (Cel.cell1 c_b10 5 rfl)) rfl ?_
              refine J.eff (Ye.call cl23 rfl (TGet1 hq hg1 (by omega))) rfl ?_
              rintro _ w41 ⟨x9, rfl, hx9, x1⟩
              have hq := hq.ext x1
              have e0 := e0.trans x1
              have c_b10 := c_b10.ext x1
              have o15 := o15.ext x1
              have hls := hls.ext x1
              have r16 := r16.ext x1
              have cb2 := cb2.ext x1
              clear x1
              refine J.op (Yd.move rfl) rfl ?_
              refine J.op (Yd.extract rfl rfl) rfl ?_
              refine J.op (Yd.extract rfl rfl) rfl ?_
              refine J.eff (Ye.alloc ti36 (S := [(0, 4, [I 0, Str [], I 0, nilS])]) (by simp [SegAll, SegOK, Value.cells, nilS])) rfl ?_
              rintro _ w42 ⟨b17, rfl, hb_b17, c_b17, xA⟩
              refine J.eff0 (Ye.storeA (ys := itmS.c x9) ti36 c_b17 0 rfl rfl rfl rfl (by rfl) (itm_one1 (x := x9) (Rd.one hx9.2.2.2) _ (List.mem_singleton.2 rfl))) ?_
              rintro _ w43 ⟨cX, hu⟩
              simp only [List.set_cons_zero, List.set_cons_succ] at cX
              have xA := Ext.gbk xA (Fr.blk hb_b17) hu.gb
              replace c_b17 := cX
              clear cX hu
              have e0 := e0.trans xA
              have c_b10 := c_b10.ext xA
              have o15 := o15.ext xA
              have hls := hls.ext xA
              have r16 := r16.ext xA
              have cb2 := cb2.ext xA
              have hx9 := hx9.ext xA
              have hq := hq.ext xA
              clear xA
              refine J.op (Yd.assign rfl) rfl ?_
              refine J.nil ?_
              refine J.n_then ?_
              refine J.seq ?_
              refine J.region ?_
              refine J.op (Yd.assign rfl) rfl ?_
              refine J.nil ?_
              refine J.n_then ?_
              refine J.seq ?_
              refine J.seq ?_
              refine J.region ?_
              refine J.op (Yd.assign rfl) rfl ?_
              refine J.nil ?_
              refine J.n_then ?_
              refine J.block ?_
              refine J.loop (ι := Nat) (fun i => [(1, s), (7, .func (.func 10) #[.pointer (some ⟨b, 0, none⟩)] #[]), (8, I r), (9, I (n0 : Int)), (18, I (gtE ((R1.filter (toB (es.getD (n0 : Int).toNat stD).2.2.1)).map strp) (es.getD (n0 : Int).toNat stD).2.2.2.2.2)), (19, I (wnt ((R1.filter (toB (es.getD (n0 : Int).toNat stD).2.2.1)).map strp) (es.getD (n0 : Int).toNat stD).2.2.2.2.2 i)), (20, I (i : Int)), (5, .pointer (some ⟨b, 0, none⟩)), (6, .pointer (some ⟨b2, 0, none⟩)), (10, .pointer (some ⟨b10, 0, none⟩)), (17, .pointer (some ⟨b17, 0, none⟩)), (15, v15), (16, v16)]) (fun i w' => i ≤ (R1.filter (toB (es.getD (n0 : Int).toNat stD).2.2.1)).length ∧ LsB w' es15 ((R1.filter (toB (es.getD (n0 : Int).toNat stD).2.2.1)).map strp) ∧ Eq3 w' x9 (gtI ((R1.filter (toB (es.getD (n0 : Int).toNat stD).2.2.1)).map strp) (es.getD (n0 : Int).toNat stD).2.2.2.2.2) ∧ Er riS w' v16 es16 ∧ RT 65 36 52 [some b10] w w' b c1 R1 b2 c1 R1 ∧ Cel w' b10 44 [(0, 1, [I (es.getD (n0 : Int).toNat stD).1]), (1, 1, [Str (es.getD (n0 : Int).toNat stD).2.1]), (2, 1, [Str (es.getD (n0 : Int).toNat stD).2.2.1]), (3, 1, [(es.getD (n0 : Int).toNat stD).2.2.2.1]), (4, 1, [(es.getD (n0 : Int).toNat stD).2.2.2.2.1]), (5, 1, [I (es.getD (n0 : Int).toNat stD).2.2.2.2.2])] ∧ Cel w' b17 36 [(0, 4, itmS.c x9)] ∧ Es itmS w.heap.size 36 w' v15 es15 ∧ Ext w w') (fun i => (R1.filter (toB (es.getD (n0 : Int).toNat stD).2.2.1)).length - i) (0) ⟨rfl, rfl, rfl, rfl, rfl, (someI (wnt_0 _ _).symm), rfl, rfl, rfl, rfl, rfl, rfl, rfl, trivial⟩ (⟨Nat.zero_le _, hls, hx9, r16, hq, c_b10, c_b17, o15, e0⟩) ?_
              rintro j w44 ⟨hk2, hls, hx9, r16, hq, c_b10, c_b17, o15, e0⟩
              refine J.seq ?_
              refine J.seq ?_
              refine J.region ?_
              refine J.op (Yd.move rfl) rfl ?_
              refine J.op (Yd.move rfl) rfl ?_
              refine J.op (Yd.lenE (K := itmS) Try.underlying31 rfl (Es.rd o15)) rfl ?_
              refine J.op (Yd.lss rfl rfl) rfl ?_
              refine J.nil ?_
              refine J.n_then ?_
              refine J.cond_dec rfl (fun hc11 => ?_) (fun hc11 => ?_)
              · skip
                refine J.skip ?_
                refine J.n_then ?_
                refine J.seq ?_
                refine J.block ?_
                refine J.seq ?_
                refine J.seq ?_
                refine J.regionO [(0, true), (1, true), (4, true), (5, true)] [(2, 1), (3, 1), (6, 1), (7, 1)] [(8, false), (9, true)] mix (by kernel_rfl) ?_
                refine J.s_op rfl (fun _ => Yd.move rfl) rfl ?_
                refine J.s_op rfl (fun _ => Yd.move rfl) rfl ?_
                refine J.s_op rfl (fun _ => Yd.move rfl) rfl ?_
                refine J.s_op rfl (fun _ => Yd.move rfl) rfl ?_
                refine J.s_nil ?_
                refine J.o_op rfl (Yd.idxE (K := itmS) Try.underlying31 ti36 rfl rfl (Es.rd o15) (by first | omega | exact idx_u8' _ | (simp only [Int.toNat_natCast]; omega) | (simp only [List.length_map, List.length_drop, List.length_take, List.length_append, List.length_replicate]; omega) | (simp <;> omega))) rfl ?_
                refine J.o_op rfl (Yd.loadEd (K := itmS) itmD ag36 ti36 rfl (Es.rd o15) (by first | omega | exact idx_u8' _ | (simp only [Int.toNat_natCast]; omega) | (simp only [List.length_map, List.length_drop, List.length_take, List.length_append, List.length_replicate]; omega) | (simp <;> omega))) rfl ?_
                refine J.o_op rfl (Yd.idxE (K := riS) Try.underlying49 ti57 rfl rfl r16 (by first | omega | exact idx_u8' _ | (simp only [Int.toNat_natCast]; omega) | (simp only [List.length_map, List.length_drop, List.length_take, List.length_append, List.length_replicate]; omega) | (simp <;> omega))) rfl ?_
                refine J.o_op rfl (Yd.loadEd (K := riS) riD ag57 ti57 rfl r16 (by first | omega | exact idx_u8' _ | (simp only [Int.toNat_natCast]; omega) | (simp only [List.length_map, List.length_drop, List.length_take, List.length_append, List.length_replicate]; omega) | (simp <;> omega))) rfl ?_
                refine J.o_nil ?_
                refine J.s_eff rfl (Ye.call cl24 rfl (Same_is (R2.get itmD itD0 (show R2 (Eq3 _) _ _ from hls) (i := (j : Int).toNat) (by omega)) (R2.get riD r5D hki (i := (j : Int).toNat) (by omega)) e0 (strp_get (by omega)))) rfl ?_
                rintro _ w45 ⟨rfl, x1⟩
                have hq := hq.ext x1
                have e0 := e0.trans x1
                have c_b10 := c_b10.ext x1
                have c_b17 := c_b17.ext x1
                have o15 := o15.ext x1
                have hls := hls.ext x1
                have hx9 := hx9.ext x1
                have r16 := r16.ext x1
                clear x1
                refine J.s_op rfl (fun _ => Yd.not rfl) rfl ?_
                refine J.s_nil ?_
                refine J.n_np ?_
                refine J.n_then ?_
                refine J.cond_false rfl ?_
                refine J.skip ?_
                refine J.n_then ?_
                refine J.seq ?_
                refine J.regionO [(0, true), (1, true), (5, true)] [(2, 1), (6, 1), (3, 1), (4, 1)] [(7, true)] mix (by kernel_rfl) ?_
                refine J.s_op rfl (fun _ => Yd.move rfl) rfl ?_
                refine J.s_op rfl (fun _ => Yd.move rfl) rfl ?_
                refine J.s_op rfl (fun _ => Yd.cast (Yd.fieldA Try.underlying44 rfl ti3 rfl rfl) (show _ = Value.pointer (some ⟨b10, 5, none⟩) from rfl)) rfl ?_
                refine J.s_nil ?_
                refine J.o_op rfl (Yd.idxE (K := riS) Try.underlying49 ti57 rfl rfl r16 (by first | omega | exact idx_u8' _ | (simp only [Int.toNat_natCast]; omega) | (simp only [List.length_map, List.length_drop, List.length_take, List.length_append, List.length_replicate]; omega) | (simp <;> omega))) rfl ?_
                refine J.o_op rfl (Yd.load pl3 rfl (Cel.cell1 c_b10 5 rfl)) rfl ?_
                refine J.o_op rfl (Yd.fieldE (K := riS) r16 (by omega) Try.underlying57 rfl ti3 rfl rfl) rfl ?_
                refine J.o_op rfl (Yd.cast (Yd.loadFd (K := riS) riD pl3 rfl r16 (by first | omega | exact idx_u8' _ | (simp only [Int.toNat_natCast]; omega) | (simp only [List.length_map, List.length_drop, List.length_take, List.length_append, List.length_replicate]; omega) | (simp <;> omega)) rfl) (show _ = I (es16.getD (j : Int).toNat riD).1 from rfl)) rfl ?_
                refine J.o_nil ?_
                refine J.s_op rfl (fun _ => Yd.eql rfl rfl) rfl ?_
                refine J.s_nil ?_
                refine J.n_np ?_
                refine J.n_then ?_
                refine J.cond_dec rfl (fun hc13 => ?_) (fun hc13 => ?_)
                · skip
                  have hix : idxI (eqP (es.getD (n0 : Int).toNat stD).2.2.2.2.2) ((R1.filter (toB (es.getD (n0 : Int).toNat stD).2.2.1)).map strp) = (j : Int) := inc_idx (strp_inc hg1.inc _) (by rw [List.length_map]; omega) (by rw [strp_get (by omega)]; exact (show ((R1.filter (toB (es.getD (n0 : Int).toNat stD).2.2.1)).getD j r5D).1 = _ from by have h8 := (R2.get riD r5D hki (i := (j : Int).toNat) (by omega)).1; rw [Int.toNat_natCast] at h8 hc13; exact h8.symm.trans hc13))
                  have hgt : gtI ((R1.filter (toB (es.getD (n0 : Int).toNat stD).2.2.1)).map strp) (es.getD (n0 : Int).toNat stD).2.2.2.2.2 = strp ((R1.filter (toB (es.getD (n0 : Int).toNat stD).2.2.1)).getD (j : Int).toNat r5D) := by rw [gtI_at hix, strp_get (by omega), show (j : Int).toNat = j from Int.toNat_natCast j]
                  obtain ⟨_, _⟩ := (⟨trivial, trivial⟩ : True ∧ True)
                  refine J.seq ?_
                  refine J.region ?_
                  refine J.op (Yd.assign rfl) rfl ?_
                  refine J.nil ?_
                  refine J.n_then ?_
                  refine J.seq ?_
                  refine J.regionO [(1, true), (2, true)] [(0, 1), (3, 1), (4, 1)] [(5, false), (6, true)] mix (by kernel_rfl) ?_
                  refine J.s_op rfl (fun _ => Yd.move rfl) rfl ?_
                  refine J.s_op rfl (fun _ => Yd.move rfl) rfl ?_
                  refine J.s_nil ?_
                  refine J.o_op rfl (Yd.loadA ag36 ti36 rfl c_b17 0 rfl) rfl ?_
                  refine J.o_op rfl (Yd.idxE (K := riS) Try.underlying49 ti57 rfl rfl r16 (by first | omega | exact idx_u8' _ | (simp only [Int.toNat_natCast]; omega) | (simp only [List.length_map, List.length_drop, List.length_take, List.length_append, List.length_replicate]; omega) | (simp <;> omega))) rfl ?_
                  refine J.o_op rfl (Yd.loadEd (K := riS) riD ag57 ti57 rfl r16 (by first | omega | exact idx_u8' _ | (simp only [Int.toNat_natCast]; omega) | (simp only [List.length_map, List.length_drop, List.length_take, List.length_append, List.length_replicate]; omega) | (simp <;> omega))) rfl ?_
                  refine J.o_nil ?_
                  refine J.s_eff rfl (Ye.call cl24 rfl (Same_is hx9 (R2.get riD r5D hki (i := (j : Int).toNat) (by omega)) e0 hgt)) rfl ?_
                  rintro _ w46 ⟨rfl, x1⟩
                  have hq := hq.ext x1
                  have e0 := e0.trans x1
                  have c_b10 := c_b10.ext x1
                  have c_b17 := c_b17.ext x1
                  have o15 := o15.ext x1
                  have hls := hls.ext x1
                  have hx9 := hx9.ext x1
                  have r16 := r16.ext x1
                  clear x1
                  refine J.s_op rfl (fun _ => Yd.not rfl) rfl ?_
                  refine J.s_nil ?_
                  refine J.n_np ?_
                  refine J.n_then ?_
                  refine J.cond_false rfl ?_
                  refine J.skip ?_
                  refine J.n_block ?_
                  refine J.n_then ?_
                  refine J.region ?_
                  refine J.op (Yd.move rfl) rfl ?_
                  refine J.op (Yd.add rfl rfl (by first | omega | exact idx_u8' _ | (simp only [Int.toNat_natCast]; omega) | (simp only [List.length_map, List.length_drop, List.length_take, List.length_append, List.length_replicate]; omega) | (simp <;> omega))) rfl ?_
                  refine J.op (Yd.assign rfl) rfl ?_
                  refine J.nil ?_
                  refine J.n_then ?_
                  exact J.round (j + 1) ⟨rfl, rfl, rfl, rfl, rfl, (someI (wnt_yes hix).symm), rfl, rfl, rfl, rfl, rfl, rfl, rfl, trivial⟩ (⟨by omega, hls, hx9, r16, hq, c_b10, c_b17, o15, e0⟩) (by omega)
                · skip
                  have hix : idxI (eqP (es.getD (n0 : Int).toNat stD).2.2.2.2.2) ((R1.filter (toB (es.getD (n0 : Int).toNat stD).2.2.1)).map strp) ≠ (j : Int) := idx_nd (by rw [List.length_map]; omega) (by rw [strp_get (by omega)]; exact (show ¬ ((R1.filter (toB (es.getD (n0 : Int).toNat stD).2.2.1)).getD j r5D).1 = _ from by have h8 := (R2.get riD r5D hki (i := (j : Int).toNat) (by omega)).1; rw [Int.toNat_natCast] at h8 hc13; rw [← h8]; exact hc13))
                  refine J.skip ?_
                  refine J.n_block ?_
                  refine J.n_then ?_
                  refine J.region ?_
                  refine J.op (Yd.move rfl) rfl ?_
                  refine J.op (Yd.add rfl rfl (by first | omega | exact idx_u8' _ | (simp only [Int.toNat_natCast]; omega) | (simp only [List.length_map, List.length_drop, List.length_take, List.length_append, List.length_replicate]; omega) | (simp <;> omega))) rfl ?_
                  refine J.op (Yd.assign rfl) rfl ?_
                  refine J.nil ?_
                  refine J.n_then ?_
                  exact J.round (j + 1) ⟨rfl, rfl, rfl, rfl, rfl, (someI (wnt_no hix).symm), rfl, rfl, rfl, rfl, rfl, rfl, rfl, trivial⟩ (⟨by omega, hls, hx9, r16, hq, c_b10, c_b17, o15, e0⟩) (by omega)
              · skip
                refine J.exit ?_
                refine J.x_then ?_
                refine J.x_then ?_
                refine J.x_block ?_
                refine J.n_then ?_
                refine J.seq ?_
                refine J.region ?_
                refine J.op (Yd.move rfl) rfl ?_
                refine J.op (Yd.move rfl) rfl ?_
                refine J.op (Yd.neq rfl rfl) rfl ?_
                refine J.op (Yd.move rfl) rfl ?_
                refine J.know (t := 204) (v' := .bool false) rfl (ff (by rw [show j = ((R1.filter (toB (es.getD (n0 : Int).toNat stD).2.2.1)).map strp).length by rw [List.length_map]; omega, wnt_all]; exact fun h => h rfl)) ?_
                refine J.op_g rfl rfl rfl (Yd.move rfl) rfl ?_
                refine J.op_g rfl rfl rfl (Yd.neq rfl rfl) rfl ?_
                refine J.op_g rfl rfl rfl (Yd.move rfl) rfl ?_
                refine J.split_dec (t := 207) rfl (fun hge => ?_) (fun hge => ?_)
                · skip
                  refine J.op_g rfl rfl rfl (Yd.loadA ag36 ti36 rfl c_b17 0 rfl) rfl ?_
                  refine J.op_g rfl rfl rfl (Yd.cast (Yd.buildS (cells := #[I 0, Str [], Str [], I 0, nilS]) (pl := [(0, 1), (1, 1), (2, 1), (3, 1), (4, 1)]) Try.underlying57 (by kernel_rfl) ti57 rfl (by rfl)) (show _ = .agg (riS.c riD).toArray from rfl)) rfl ?_
                  refine J.eff_g rfl rfl rfl (Ye.call cl24 rfl (Same_is (z := itD0) (r := r5D) (w0 := w) (by have h8 := hx9; rw [gtI_no hge] at h8; exact h8) ⟨rfl, rfl, rfl, rfl, fun W e => Rd.nilM (fun x : UInt8 => B x) _⟩ e0 rfl)) rfl ?_
                  rintro _ w47 ⟨rfl, x1⟩
                  have hq := hq.ext x1
                  have e0 := e0.trans x1
                  have c_b10 := c_b10.ext x1
                  have c_b17 := c_b17.ext x1
                  have o15 := o15.ext x1
                  have hls := hls.ext x1
                  have hx9 := hx9.ext x1
                  have r16 := r16.ext x1
                  clear x1
                  refine J.op_g rfl rfl rfl (Yd.not rfl) rfl ?_
                  refine J.op_g rfl rfl rfl (Yd.pick_t rfl rfl) rfl ?_
                  refine J.op (Yd.pick_f rfl rfl) rfl ?_
                  refine J.nil ?_
                  refine J.n_then ?_
                  refine J.cond_false rfl ?_
                  refine J.skip ?_
                  refine J.n_block ?_
                  refine J.n_then ?_
                  refine J.region ?_
                  refine J.op (Yd.move rfl) rfl ?_
                  refine J.op (Yd.add rfl rfl (by first | omega | exact idx_u8' _ | (simp only [Int.toNat_natCast]; omega) | (simp only [List.length_map, List.length_drop, List.length_take, List.length_append, List.length_replicate]; omega) | (simp <;> omega))) rfl ?_
                  refine J.op (Yd.assign rfl) rfl ?_
                  refine J.nil ?_
                  refine J.n_then ?_
                  exact J.round ((n0 + 1, r, c1, R1)) ⟨rfl, rfl, rfl, rfl, rfl, rfl, trivial⟩ (⟨by show n0 + 1 ≤ es.length; omega, hr_, hg1, hq.less, e0⟩) (by show es.length - (n0 + 1) < es.length - n0; omega)
                · skip
                  refine J.not_g rfl rfl rfl rfl rfl ?_
                  refine J.not_g rfl rfl rfl rfl rfl ?_
                  refine J.not_g rfl rfl rfl rfl rfl ?_
                  refine J.not_g rfl rfl rfl rfl rfl ?_
                  refine J.op_g rfl rfl rfl (Yd.pick_f rfl rfl) rfl ?_
                  refine J.op (Yd.pick_f rfl rfl) rfl ?_
                  refine J.nil ?_
                  refine J.n_then ?_
                  refine J.cond_false rfl ?_
                  refine J.skip ?_
                  refine J.n_block ?_
                  refine J.n_then ?_
                  refine J.region ?_
                  refine J.op (Yd.move rfl) rfl ?_
                  refine J.op (Yd.add rfl rfl (by first | omega | exact idx_u8' _ | (simp only [Int.toNat_natCast]; omega) | (simp only [List.length_map, List.length_drop, List.length_take, List.length_append, List.length_replicate]; omega) | (simp <;> omega))) rfl ?_
                  refine J.op (Yd.assign rfl) rfl ?_
                  refine J.nil ?_
                  refine J.n_then ?_
                  exact J.round ((n0 + 1, r, c1, R1)) ⟨rfl, rfl, rfl, rfl, rfl, rfl, trivial⟩ (⟨by show n0 + 1 ≤ es.length; omega, hr_, hg1, hq.less, e0⟩) (by show es.length - (n0 + 1) < es.length - n0; omega)
            · skip
              refine J.skip ?_
              refine J.n_block ?_
              refine J.n_then ?_
              refine J.seq ?_
              refine J.regionO [(0, true), (1, true), (4, true), (5, true)] [(2, 1), (6, 1), (3, 0)] [(7, false), (8, true), (9, true)] mix (by kernel_rfl) ?_
              refine J.s_op rfl (fun _ => Yd.move rfl) rfl ?_
              refine J.s_op rfl (fun _ => Yd.cast (Yd.fieldA Try.underlying44 rfl ti9 rfl rfl) (show _ = Value.pointer (some ⟨b10, 2, none⟩) from rfl)) rfl ?_
              refine J.s_op rfl (fun _ => Yd.move rfl) rfl ?_
              refine J.s_op rfl (fun _ => Yd.cast (Yd.fieldA Try.underlying44 rfl ti9 rfl rfl) (show _ = Value.pointer (some ⟨b10, 2, none⟩) from rfl)) rfl ?_
              refine J.s_nil ?_
              refine J.o_op rfl (Yd.load pl9 rfl (Cel.cell1 c_b10 2 rfl)) rfl ?_
              refine J.o_op rfl (Yd.load pl9 rfl (Cel.cell1 c_b10 2 rfl)) rfl ?_
              obtain ⟨c1, R1, hq, hg1⟩ : ∃ c1 R1, RT 65 36 52 [some b10] w w8 b c1 R1 b2 c1 R1 ∧ GR (n0 + 1) c1 R1 := ⟨_, _, hq, (by first | exact hg.put _ _ _ | exact hg.ack _ _ | exact hg.tick _ | exact hg.up)⟩
              refine J.o_eff rfl (Ye.call cl13 rfl (TList1 hq hg1 (by omega))) rfl (fun _ _ ⟨_, _, _, h⟩ => h) ?_
              rintro v15 w48 ⟨es15, o15, hls, x1⟩
              have ap_b10_v15 : Ap (some b10) v15.ownBlock := Ap.mk (Cel.live c_b10) (Es.fr o15)
              have ap_s47_7_v15 : Ap s47_7.ownBlock v15.ownBlock := Ap.mk (Ow.live o47_7) (Es.fr o15)
              have fr_v15 : Fr w.heap.size v15.ownBlock := Fr.le (Es.fr o15) e0.size
              replace o15 := Es.base o15 e0.size
              have hq := hq.ext x1
              have e0 := e0.trans x1
              have c_b10 := c_b10.ext x1
              have o47_7 := o47_7.ext x1
              clear x1
              have hl15 := R2.len (show R2 (Eq3 _) _ _ from hls)
              rw [List.length_map] at hl15
              refine J.o_nil ?_
              refine J.s_eff rfl (Ye.call cl22 rfl (TList2 hq hg1 (by omega))) rfl ?_
              rintro v16 w49 ⟨es16, r16, hki, x1⟩
              have hq := hq.ext x1
              have e0 := e0.trans x1
              have c_b10 := c_b10.ext x1
              have o47_7 := o47_7.ext x1
              have o15 := o15.ext x1
              have hls := hls.ext x1
              clear x1
              have hl16 := R2.len hki
              have hq9 := hq
              obtain ⟨K9, q9, s9, es9, h9⟩ := hq9
              have cb2 := h9.c2
              clear h9
              have hfl9 := List.length_filter_le (toB (es.getD (n0 : Int).toNat stD).2.2.1) R1
              have hgl := hg1.len
              refine J.s_op rfl (fun _ => Yd.assign rfl) rfl ?_
              refine J.s_op rfl (fun _ => Yd.assign rfl) rfl ?_
              refine J.s_nil ?_
              refine J.n_np ?_
              refine J.n_then ?_
              refine J.seq ?_
              refine J.seq ?_
              refine J.regionO [(0, true), (2, true)] [(1, 1), (3, 1), (4, 1), (5, 1), (6, 1), (7, 1), (8, 1), (10, 1), (11, 1), (9, 0), (12, 1), (13, 1), (14, 1), (15, 1), (17, 1), (18, 1), (19, 1), (20, 1), (16, 0)] [(21, true), (22, true)] mix (by kernel_rfl) ?_
              refine J.s_op rfl (fun _ => Yd.move rfl) rfl ?_
              refine J.s_op rfl (fun _ => Yd.move rfl) rfl ?_
              refine J.s_nil ?_
              refine J.o_op rfl (Yd.lenE (K := itmS) Try.underlying31 rfl (Es.rd o15)) rfl ?_
              refine J.o_op rfl (Yd.lenE (K := riS) Try.underlying49 rfl r16) rfl ?_
              refine J.o_op rfl (Yd.neq rfl rfl) rfl ?_
              refine J.o_op rfl (Yd.move rfl) rfl ?_
              refine J.know (t := 143) (v' := .bool false) rfl (ff (by omega)) ?_
              refine J.o_op_g rfl rfl rfl rfl (Yd.move rfl) rfl ?_
              refine J.o_op_g rfl rfl rfl rfl (Yd.cast (Yd.fieldA Try.underlying44 rfl ti9 rfl rfl) (show _ = Value.pointer (some ⟨b10, 2, none⟩) from rfl)) rfl ?_
              refine J.o_op_g rfl rfl rfl rfl (Yd.load pl9 rfl (Cel.cell1 c_b10 2 rfl)) rfl ?_
              refine J.o_op_g rfl rfl rfl rfl (Yd.move rfl) rfl ?_
              refine J.o_op_g rfl rfl rfl rfl (Yd.lenE (K := riS) Try.underlying49 rfl r16) rfl ?_
              refine J.o_eff_g rfl rfl rfl rfl (Ye.call cl15 rfl (TLen1 (i := 0) hq)) rfl (fun _ _ ⟨_, h⟩ => h) ?_
              rintro _ w50 ⟨rfl, x1⟩
              have hq := hq.ext x1
              have e0 := e0.trans x1
              have c_b10 := c_b10.ext x1
              have o47_7 := o47_7.ext x1
              have o15 := o15.ext x1
              have hls := hls.ext x1
              have r16 := r16.ext x1
              have cb2 := cb2.ext x1
              clear x1
              refine J.o_op_g rfl rfl rfl rfl (Yd.neq rfl rfl) rfl ?_
              refine J.o_op rfl (Yd.pick_f rfl rfl) rfl ?_
              refine J.o_op rfl (Yd.move rfl) rfl ?_
              refine J.know (t := 152) (v' := .bool false) rfl (ff (by omega)) ?_
              refine J.o_op_g rfl rfl rfl rfl (Yd.move rfl) rfl ?_
              refine J.o_op_g rfl rfl rfl rfl (Yd.move rfl) rfl ?_
              refine J.o_op_g rfl rfl rfl rfl (Yd.nilCheck rfl) rfl ?_
              refine J.o_op_g rfl rfl rfl rfl (Yd.cast (Yd.fieldA Try.underlying52 rfl ti3 rfl rfl) (show _ = Value.pointer (some ⟨b2, 1, none⟩) from rfl)) rfl ?_
              refine J.o_op_g rfl rfl rfl rfl (Yd.load pl3 rfl (Cel.cell1 cb2 1 rfl)) rfl ?_
              refine J.o_eff_g rfl rfl rfl rfl (Ye.call cl14 rfl (TNow1 (i := 0) hq)) rfl (fun _ _ ⟨_, h⟩ => h) ?_
              rintro _ w51 ⟨rfl, x1⟩
              have hq := hq.ext x1
              have e0 := e0.trans x1
              have c_b10 := c_b10.ext x1
              have o47_7 := o47_7.ext x1
              have o15 := o15.ext x1
              have hls := hls.ext x1
              have r16 := r16.ext x1
              have cb2 := cb2.ext x1
              clear x1
              refine J.o_nil ?_
              refine J.s_op_g rfl rfl rfl rfl (fun _ => Yd.neq rfl rfl) rfl ?_
              refine J.s_op rfl (fun _ => Yd.pick_f rfl rfl) rfl ?_
              refine J.s_nil ?_
              refine J.n_np ?_
              refine J.n_then ?_
              refine J.know (t := 160) (v' := .bool false) rfl (ff (by omega)) ?_
              refine J.cond_false rfl ?_
              refine J.skip ?_
              refine J.n_then ?_
              refine J.seq ?_
              refine J.region ?_
              refine J.op (Yd.move rfl) rfl ?_
              refine J.op (Yd.cast (Yd.fieldA Try.underlying44 rfl ti9 rfl rfl) (show _ = Value.pointer (some ⟨b10, 2, none⟩) from rfl)) rfl ?_
              refine J.op (Yd.load pl9 rfl (Cel.cell1 c_b10 2 rfl)) rfl ?_
              refine J.op (Yd.cast (Yd.fieldA Try.underlying44 rfl ti3 rfl rfl) (show _ = Value.pointer (some ⟨b10, 5, none⟩) from rfl)) rfl ?_
              refine J.op (Yd.load pl3 rfl (Cel.cell1 c_b10 5 rfl)) rfl ?_
              refine J.eff (Ye.call cl23 rfl (TGet1 hq hg1 (by omega))) rfl ?_
              rintro _ w52 ⟨x9, rfl, hx9, x1⟩
              have hq := hq.ext x1
              have e0 := e0.trans x1
              have c_b10 := c_b10.ext x1
              have o47_7 := o47_7.ext x1
              have o15 := o15.ext x1
              have hls := hls.ext x1
              have r16 := r16.ext x1
              have cb2 := cb2.ext x1
              clear x1
              refine J.op (Yd.move rfl) rfl ?_
              refine J.op (Yd.extract rfl rfl) rfl ?_
              refine J.op (Yd.extract rfl rfl) rfl ?_
              refine J.eff (Ye.alloc ti36 (S := [(0, 4, [I 0, Str [], I 0, nilS])]) (by simp [SegAll, SegOK, Value.cells, nilS])) rfl ?_
              rintro _ w53 ⟨b17, rfl, hb_b17, c_b17, xA⟩
              refine J.eff0 (Ye.storeA (ys := itmS.c x9) ti36 c_b17 0 rfl rfl rfl rfl (by rfl) (itm_one1 (x := x9) (Rd.one hx9.2.2.2) _ (List.mem_singleton.2 rfl))) ?_
              rintro _ w54 ⟨cX, hu⟩
              simp only [List.set_cons_zero, List.set_cons_succ] at cX
              have xA := Ext.gbk xA (Fr.blk hb_b17) hu.gb
              replace c_b17 := cX
              clear cX hu
              have e0 := e0.trans xA
              have c_b10 := c_b10.ext xA
              have o47_7 := o47_7.ext xA
              have o15 := o15.ext xA
              have hls := hls.ext xA
              have r16 := r16.ext xA
              have cb2 := cb2.ext xA
              have hx9 := hx9.ext xA
              have hq := hq.ext xA
              clear xA
              refine J.op (Yd.assign rfl) rfl ?_
              refine J.nil ?_
              refine J.n_then ?_
              refine J.seq ?_
              refine J.region ?_
              refine J.op (Yd.assign rfl) rfl ?_
              refine J.nil ?_
              refine J.n_then ?_
              refine J.seq ?_
              refine J.seq ?_
              refine J.region ?_
              refine J.op (Yd.assign rfl) rfl ?_
              refine J.nil ?_
              refine J.n_then ?_
              refine J.block ?_
              refine J.loop (ι := Nat) (fun i => [(1, s), (7, .func (.func 10) #[.pointer (some ⟨b, 0, none⟩)] #[]), (8, I r), (9, I (n0 : Int)), (18, I (gtE ((R1.filter (toB (es.getD (n0 : Int).toNat stD).2.2.1)).map strp) (es.getD (n0 : Int).toNat stD).2.2.2.2.2)), (19, I (wnt ((R1.filter (toB (es.getD (n0 : Int).toNat stD).2.2.1)).map strp) (es.getD (n0 : Int).toNat stD).2.2.2.2.2 i)), (20, I (i : Int)), (5, .pointer (some ⟨b, 0, none⟩)), (6, .pointer (some ⟨b2, 0, none⟩)), (10, .pointer (some ⟨b10, 0, none⟩)), (17, .pointer (some ⟨b17, 0, none⟩)), (15, v15), (16, v16)]) (fun i w' => i ≤ (R1.filter (toB (es.getD (n0 : Int).toNat stD).2.2.1)).length ∧ LsB w' es15 ((R1.filter (toB (es.getD (n0 : Int).toNat stD).2.2.1)).map strp) ∧ Eq3 w' x9 (gtI ((R1.filter (toB (es.getD (n0 : Int).toNat stD).2.2.1)).map strp) (es.getD (n0 : Int).toNat stD).2.2.2.2.2) ∧ Er riS w' v16 es16 ∧ RT 65 36 52 [some b10] w w' b c1 R1 b2 c1 R1 ∧ Cel w' b10 44 [(0, 1, [I (es.getD (n0 : Int).toNat stD).1]), (1, 1, [Str (es.getD (n0 : Int).toNat stD).2.1]), (2, 1, [Str (es.getD (n0 : Int).toNat stD).2.2.1]), (3, 1, [(es.getD (n0 : Int).toNat stD).2.2.2.1]), (4, 1, [(es.getD (n0 : Int).toNat stD).2.2.2.2.1]), (5, 1, [I (es.getD (n0 : Int).toNat stD).2.2.2.2.2])] ∧ Cel w' b17 36 [(0, 4, itmS.c x9)] ∧ Es itmS w.heap.size 36 w' v15 es15 ∧ Ext w w') (fun i => (R1.filter (toB (es.getD (n0 : Int).toNat stD).2.2.1)).length - i) (0) ⟨rfl, rfl, rfl, rfl, rfl, (someI (wnt_0 _ _).symm), rfl, rfl, rfl, rfl, rfl, rfl, rfl, trivial⟩ (⟨Nat.zero_le _, hls, hx9, r16, hq, c_b10, c_b17, o15, e0⟩) ?_
              rintro j w55 ⟨hk2, hls, hx9, r16, hq, c_b10, c_b17, o15, e0⟩
              refine J.seq ?_
              refine J.seq ?_
              refine J.region ?_
              refine J.op (Yd.move rfl) rfl ?_
              refine J.op (Yd.move rfl) rfl ?_
              refine J.op (Yd.lenE (K := itmS) Try.underlying31 rfl (Es.rd o15)) rfl ?_
              refine J.op (Yd.lss rfl rfl) rfl ?_
              refine J.nil ?_
              refine J.n_then ?_
              refine J.cond_dec rfl (fun hc11 => ?_) (fun hc11 => ?_)
              · skip
                refine J.skip ?_
                refine J.n_then ?_
                refine J.seq ?_
                refine J.block ?_
                refine J.seq ?_
                refine J.seq ?_
                refine J.regionO [(0, true), (1, true), (4, true), (5, true)] [(2, 1), (3, 1), (6, 1), (7, 1)] [(8, false), (9, true)] mix (by kernel_rfl) ?_
                refine J.s_op rfl (fun _ => Yd.move rfl) rfl ?_
                refine J.s_op rfl (fun _ => Yd.move rfl) rfl ?_
                refine J.s_op rfl (fun _ => Yd.move rfl) rfl ?_
                refine J.s_op rfl (fun _ => Yd.move rfl) rfl ?_
                refine J.s_nil ?_
                refine J.o_op rfl (Yd.idxE (K := itmS) Try.underlying31 ti36 rfl rfl (Es.rd o15) (by first | omega | exact idx_u8' _ | (simp only [Int.toNat_natCast]; omega) | (simp only [List.length_map, List.length_drop, List.length_take, List.length_append, List.length_replicate]; omega) | (simp <;> omega))) rfl ?_
                refine J.o_op rfl (Yd.loadEd (K := itmS) itmD ag36 ti36 rfl (Es.rd o15) (by first | omega | exact idx_u8' _ | (simp only [Int.toNat_natCast]; omega) | (simp only [List.length_map, List.length_drop, List.length_take, List.length_append, List.length_replicate]; omega) | (simp <;> omega))) rfl ?_
                refine J.o_op rfl (Yd.idxE (K := riS) Try.underlying49 ti57 rfl rfl r16 (by first | omega | exact idx_u8' _ | (simp only [Int.toNat_natCast]; omega) | (simp only [List.length_map, List.length_drop, List.length_take, List.length_append, List.length_replicate]; omega) | (simp <;> omega))) rfl ?_
                refine J.o_op rfl (Yd.loadEd (K := riS) riD ag57 ti57 rfl r16 (by first | omega | exact idx_u8' _ | (simp only [Int.toNat_natCast]; omega) | (simp only [List.length_map, List.length_drop, List.length_take, List.length_append, List.length_replicate]; omega) | (simp <;> omega))) rfl ?_
                refine J.o_nil ?_
                refine J.s_eff rfl (Ye.call cl24 rfl (Same_is (R2.get itmD itD0 (show R2 (Eq3 _) _ _ from hls) (i := (j : Int).toNat) (by omega)) (R2.get riD r5D hki (i := (j : Int).toNat) (by omega)) e0 (strp_get (by omega)))) rfl ?_
                rintro _ w56 ⟨rfl, x1⟩
                have hq := hq.ext x1
                have e0 := e0.trans x1
                have c_b10 := c_b10.ext x1
                have c_b17 := c_b17.ext x1
                have o15 := o15.ext x1
                have hls := hls.ext x1
                have hx9 := hx9.ext x1
                have r16 := r16.ext x1
                clear x1
                refine J.s_op rfl (fun _ => Yd.not rfl) rfl ?_
                refine J.s_nil ?_
                refine J.n_np ?_
                refine J.n_then ?_
                refine J.cond_false rfl ?_
                refine J.skip ?_
                refine J.n_then ?_
                refine J.seq ?_
                refine J.regionO [(0, true), (1, true), (5, true)] [(2, 1), (6, 1), (3, 1), (4, 1)] [(7, true)] mix (by kernel_rfl) ?_
                refine J.s_op rfl (fun _ => Yd.move rfl) rfl ?_
                refine J.s_op rfl (fun _ => Yd.move rfl) rfl ?_
                refine J.s_op rfl (fun _ => Yd.cast (Yd.fieldA Try.underlying44 rfl ti3 rfl rfl) (show _ = Value.pointer (some ⟨b10, 5, none⟩) from rfl)) rfl ?_
                refine J.s_nil ?_
                refine J.o_op rfl (Yd.idxE (K := riS) Try.underlying49 ti57 rfl rfl r16 (by first | omega | exact idx_u8' _ | (simp only [Int.toNat_natCast]; omega) | (simp only [List.length_map, List.length_drop, List.length_take, List.length_append, List.length_replicate]; omega) | (simp <;> omega))) rfl ?_
                refine J.o_op rfl (Yd.load pl3 rfl (Cel.cell1 c_b10 5 rfl)) rfl ?_
                refine J.o_op rfl (Yd.fieldE (K := riS) r16 (by omega) Try.underlying57 rfl ti3 rfl rfl) rfl ?_
                refine J.o_op rfl (Yd.cast (Yd.loadFd (K := riS) riD pl3 rfl r16 (by first | omega | exact idx_u8' _ | (simp only [Int.toNat_natCast]; omega) | (simp only [List.length_map, List.length_drop, List.length_take, List.length_append, List.length_replicate]; omega) | (simp <;> omega)) rfl) (show _ = I (es16.getD (j : Int).toNat riD).1 from rfl)) rfl ?_
                refine J.o_nil ?_
                refine J.s_op rfl (fun _ => Yd.eql rfl rfl) rfl ?_
                refine J.s_nil ?_
                refine J.n_np ?_
                refine J.n_then ?_
                refine J.cond_dec rfl (fun hc13 => ?_) (fun hc13 => ?_)
                · skip
                  have hix : idxI (eqP (es.getD (n0 : Int).toNat stD).2.2.2.2.2) ((R1.filter (toB (es.getD (n0 : Int).toNat stD).2.2.1)).map strp) = (j : Int) := inc_idx (strp_inc hg1.inc _) (by rw [List.length_map]; omega) (by rw [strp_get (by omega)]; exact (show ((R1.filter (toB (es.getD (n0 : Int).toNat stD).2.2.1)).getD j r5D).1 = _ from by have h8 := (R2.get riD r5D hki (i := (j : Int).toNat) (by omega)).1; rw [Int.toNat_natCast] at h8 hc13; exact h8.symm.trans hc13))
                  have hgt : gtI ((R1.filter (toB (es.getD (n0 : Int).toNat stD).2.2.1)).map strp) (es.getD (n0 : Int).toNat stD).2.2.2.2.2 = strp ((R1.filter (toB (es.getD (n0 : Int).toNat stD).2.2.1)).getD (j : Int).toNat r5D) := by rw [gtI_at hix, strp_get (by omega), show (j : Int).toNat = j from Int.toNat_natCast j]
                  obtain ⟨_, _⟩ := (⟨trivial, trivial⟩ : True ∧ True)
                  refine J.seq ?_
                  refine J.region ?_
                  refine J.op (Yd.assign rfl) rfl ?_
                  refine J.nil ?_
                  refine J.n_then ?_
                  refine J.seq ?_
                  refine J.regionO [(1, true), (2, true)] [(0, 1), (3, 1), (4, 1)] [(5, false), (6, true)] mix (by kernel_rfl) ?_
                  refine J.s_op rfl (fun _ => Yd.move rfl) rfl ?_
                  refine J.s_op rfl (fun _ => Yd.move rfl) rfl ?_
                  refine J.s_nil ?_
                  refine J.o_op rfl (Yd.loadA ag36 ti36 rfl c_b17 0 rfl) rfl ?_
                  refine J.o_op rfl (Yd.idxE (K := riS) Try.underlying49 ti57 rfl rfl r16 (by first | omega | exact idx_u8' _ | (simp only [Int.toNat_natCast]; omega) | (simp only [List.length_map, List.length_drop, List.length_take, List.length_append, List.length_replicate]; omega) | (simp <;> omega))) rfl ?_
                  refine J.o_op rfl (Yd.loadEd (K := riS) riD ag57 ti57 rfl r16 (by first | omega | exact idx_u8' _ | (simp only [Int.toNat_natCast]; omega) | (simp only [List.length_map, List.length_drop, List.length_take, List.length_append, List.length_replicate]; omega) | (simp <;> omega))) rfl ?_
                  refine J.o_nil ?_
                  refine J.s_eff rfl (Ye.call cl24 rfl (Same_is hx9 (R2.get riD r5D hki (i := (j : Int).toNat) (by omega)) e0 hgt)) rfl ?_
                  rintro _ w57 ⟨rfl, x1⟩
                  have hq := hq.ext x1
                  have e0 := e0.trans x1
                  have c_b10 := c_b10.ext x1
                  have c_b17 := c_b17.ext x1
                  have o15 := o15.ext x1
                  have hls := hls.ext x1
                  have hx9 := hx9.ext x1
                  have r16 := r16.ext x1
                  clear x1
                  refine J.s_op rfl (fun _ => Yd.not rfl) rfl ?_
                  refine J.s_nil ?_
                  refine J.n_np ?_
                  refine J.n_then ?_
                  refine J.cond_false rfl ?_
                  refine J.skip ?_
                  refine J.n_block ?_
                  refine J.n_then ?_
                  refine J.region ?_
                  refine J.op (Yd.move rfl) rfl ?_
                  refine J.op (Yd.add rfl rfl (by first | omega | exact idx_u8' _ | (simp only [Int.toNat_natCast]; omega) | (simp only [List.length_map, List.length_drop, List.length_take, List.length_append, List.length_replicate]; omega) | (simp <;> omega))) rfl ?_
                  refine J.op (Yd.assign rfl) rfl ?_
                  refine J.nil ?_
                  refine J.n_then ?_
                  exact J.round (j + 1) ⟨rfl, rfl, rfl, rfl, rfl, (someI (wnt_yes hix).symm), rfl, rfl, rfl, rfl, rfl, rfl, rfl, trivial⟩ (⟨by omega, hls, hx9, r16, hq, c_b10, c_b17, o15, e0⟩) (by omega)
                · skip
                  have hix : idxI (eqP (es.getD (n0 : Int).toNat stD).2.2.2.2.2) ((R1.filter (toB (es.getD (n0 : Int).toNat stD).2.2.1)).map strp) ≠ (j : Int) := idx_nd (by rw [List.length_map]; omega) (by rw [strp_get (by omega)]; exact (show ¬ ((R1.filter (toB (es.getD (n0 : Int).toNat stD).2.2.1)).getD j r5D).1 = _ from by have h8 := (R2.get riD r5D hki (i := (j : Int).toNat) (by omega)).1; rw [Int.toNat_natCast] at h8 hc13; rw [← h8]; exact hc13))
                  refine J.skip ?_
                  refine J.n_block ?_
                  refine J.n_then ?_
                  refine J.region ?_
                  refine J.op (Yd.move rfl) rfl ?_
                  refine J.op (Yd.add rfl rfl (by first | omega | exact idx_u8' _ | (simp only [Int.toNat_natCast]; omega) | (simp only [List.length_map, List.length_drop, List.length_take, List.length_append, List.length_replicate]; omega) | (simp <;> omega))) rfl ?_
                  refine J.op (Yd.assign rfl) rfl ?_
                  refine J.nil ?_
                  refine J.n_then ?_
                  exact J.round (j + 1) ⟨rfl, rfl, rfl, rfl, rfl, (someI (wnt_no hix).symm), rfl, rfl, rfl, rfl, rfl, rfl, rfl, trivial⟩ (⟨by omega, hls, hx9, r16, hq, c_b10, c_b17, o15, e0⟩) (by omega)
              · skip
                refine J.exit ?_
                refine J.x_then ?_
                refine J.x_then ?_
                refine J.x_block ?_
                refine J.n_then ?_
                refine J.seq ?_
                refine J.region ?_
                refine J.op (Yd.move rfl) rfl ?_
                refine J.op (Yd.move rfl) rfl ?_
                refine J.op (Yd.neq rfl rfl) rfl ?_
                refine J.op (Yd.move rfl) rfl ?_
                refine J.know (t := 204) (v' := .bool false) rfl (ff (by rw [show j = ((R1.filter (toB (es.getD (n0 : Int).toNat stD).2.2.1)).map strp).length by rw [List.length_map]; omega, wnt_all]; exact fun h => h rfl)) ?_
                refine J.op_g rfl rfl rfl (Yd.move rfl) rfl ?_
                refine J.op_g rfl rfl rfl (Yd.neq rfl rfl) rfl ?_
                refine J.op_g rfl rfl rfl (Yd.move rfl) rfl ?_
                refine J.split_dec (t := 207) rfl (fun hge => ?_) (fun hge => ?_)
                · skip
                  refine J.op_g rfl rfl rfl (Yd.loadA ag36 ti36 rfl c_b17 0 rfl) rfl ?_
                  refine J.op_g rfl rfl rfl (Yd.cast (Yd.buildS (cells := #[I 0, Str [], Str [], I 0, nilS]) (pl := [(0, 1), (1, 1), (2, 1), (3, 1), (4, 1)]) Try.underlying57 (by kernel_rfl) ti57 rfl (by rfl)) (show _ = .agg (riS.c riD).toArray from rfl)) rfl ?_
                  refine J.eff_g rfl rfl rfl (Ye.call cl24 rfl (Same_is (z := itD0) (r := r5D) (w0 := w) (by have h8 := hx9; rw [gtI_no hge] at h8; exact h8) ⟨rfl, rfl, rfl, rfl, fun W e => Rd.nilM (fun x : UInt8 => B x) _⟩ e0 rfl)) rfl ?_
                  rintro _ w58 ⟨rfl, x1⟩
                  have hq := hq.ext x1
                  have e0 := e0.trans x1
                  have c_b10 := c_b10.ext x1
                  have c_b17 := c_b17.ext x1
                  have o15 := o15.ext x1
                  have hls := hls.ext x1
                  have hx9 := hx9.ext x1
                  have r16 := r16.ext x1
                  clear x1
                  refine J.op_g rfl rfl rfl (Yd.not rfl) rfl ?_
                  refine J.op_g rfl rfl rfl (Yd.pick_t rfl rfl) rfl ?_
                  refine J.op (Yd.pick_f rfl rfl) rfl ?_
                  refine J.nil ?_
                  refine J.n_then ?_
                  refine J.cond_false rfl ?_
                  refine J.skip ?_
                  refine J.n_block ?_
                  refine J.n_then ?_
                  refine J.region ?_
                  refine J.op (Yd.move rfl) rfl ?_
                  refine J.op (Yd.add rfl rfl (by first | omega | exact idx_u8' _ | (simp only [Int.toNat_natCast]; omega) | (simp only [List.length_map, List.length_drop, List.length_take, List.length_append, List.length_replicate]; omega) | (simp <;> omega))) rfl ?_
                  refine J.op (Yd.assign rfl) rfl ?_
                  refine J.nil ?_
                  refine J.n_then ?_
                  exact J.round ((n0 + 1, r, c1, R1)) ⟨rfl, rfl, rfl, rfl, rfl, rfl, trivial⟩ (⟨by show n0 + 1 ≤ es.length; omega, hr_, hg1, hq.less, e0⟩) (by show es.length - (n0 + 1) < es.length - n0; omega)
                · skip
                  refine J.not_g rfl rfl rfl rfl rfl ?_
                  refine J.not_g rfl rfl rfl rfl rfl ?_
                  refine J.not_g rfl rfl rfl rfl rfl ?_
                  refine J.not_g rfl rfl rfl rfl rfl ?_
                  refine J.op_g rfl rfl rfl (Yd.pick_f rfl rfl) rfl ?_
                  refine J.op (Yd.pick_f rfl rfl) rfl ?_
                  refine J.nil ?_
                  refine J.n_then ?_
                  refine J.cond_false rfl ?_
                  refine J.skip ?_
                  refine J.n_block ?_
                  refine J.n_then ?_
                  refine J.region ?_
                  refine J.op (Yd.move rfl) rfl ?_
                  refine J.op (Yd.add rfl rfl (by first | omega | exact idx_u8' _ | (simp only [Int.toNat_natCast]; omega) | (simp only [List.length_map, List.length_drop, List.length_take, List.length_append, List.length_replicate]; omega) | (simp <;> omega))) rfl ?_
                  refine J.op (Yd.assign rfl) rfl ?_
                  refine J.nil ?_
                  refine J.n_then ?_
                  exact J.round ((n0 + 1, r, c1, R1)) ⟨rfl, rfl, rfl, rfl, rfl, rfl, trivial⟩ (⟨by show n0 + 1 ≤ es.length; omega, hr_, hg1, hq.less, e0⟩) (by show es.length - (n0 + 1) < es.length - n0; omega)
      · skip
        refine J.op (Yd.move rfl) rfl ?_
        refine J.op (Yd.gtr rfl rfl) rfl ?_
        refine J.op (Yd.move rfl) rfl ?_
        refine J.split_dec (t := 51) rfl (fun g1 => ?_) (fun g1 => ?_)
        · skip
          refine J.not_g rfl rfl rfl rfl rfl ?_
          refine J.not_g rfl rfl rfl rfl rfl ?_
          refine J.not_g rfl rfl rfl rfl rfl ?_
          refine J.not_g rfl rfl rfl rfl rfl ?_
          refine J.op (Yd.pick_t rfl rfl) rfl ?_
          refine J.op (Yd.move rfl) rfl ?_
          refine J.not_g rfl rfl rfl rfl rfl ?_
          refine J.not_g rfl rfl rfl rfl rfl ?_
          refine J.not_g rfl rfl rfl rfl rfl ?_
          refine J.not_g rfl rfl rfl rfl rfl ?_
          refine J.op (Yd.pick_t rfl rfl) rfl ?_
          refine J.op (Yd.move rfl) rfl ?_
          refine J.not_g rfl rfl rfl rfl rfl ?_
          refine J.not_g rfl rfl rfl rfl rfl ?_
          refine J.not_g rfl rfl rfl rfl rfl ?_
          refine J.not_g rfl rfl rfl rfl rfl ?_
          refine J.op (Yd.pick_t rfl rfl) rfl ?_
          refine J.nil ?_
          refine J.n_then ?_
          refine J.cond_true rfl ?_
          refine J.seq ?_
          refine J.region ?_
          refine J.eff (Ye.call cl8 rfl (Awake_ok)) rfl ?_
          rintro _ w59 ⟨rfl, x1⟩
          have hq := hq.ext x1
          have e0 := e0.trans x1
          have c_b10 := c_b10.ext x1
          have o47_7 := o47_7.ext x1
          clear x1
          refine J.op (Yd.assign rfl) rfl ?_
          refine J.nil ?_
          refine J.n_then ?_
          refine J.ret ?_
          refine J.r_then ?_
          refine J.r_block ?_
          refine J.r_then ?_
          refine J.r_then ?_
          refine J.r_block ?_
          refine J.r_then ?_
          exact J.ret1 rfl rfl (⟨_, rfl, rfl, e0⟩)
        · skip
          refine J.op_g rfl rfl rfl (Yd.cast (Yd.fieldA Try.underlying44 rfl ti9 rfl rfl) (show _ = Value.pointer (some ⟨b10, 1, none⟩) from rfl)) rfl ?_
          refine J.op_g rfl rfl rfl (Yd.load pl9 rfl (Cel.cell1 c_b10 1 rfl)) rfl ?_
          refine J.op_g rfl rfl rfl (Yd.slen Try.underlying9 rfl) rfl ?_
          refine J.op_g rfl rfl rfl (Yd.gtr rfl rfl) rfl ?_
          refine J.op (Yd.pick_f rfl rfl) rfl ?_
          refine J.op (Yd.move rfl) rfl ?_
          refine J.split_dec (t := 57) rfl (fun g2 => ?_) (fun g2 => ?_)
          · skip
            refine J.not_g rfl rfl rfl rfl rfl ?_
            refine J.not_g rfl rfl rfl rfl rfl ?_
            refine J.not_g rfl rfl rfl rfl rfl ?_
            refine J.not_g rfl rfl rfl rfl rfl ?_
            refine J.op (Yd.pick_t rfl rfl) rfl ?_
            refine J.op (Yd.move rfl) rfl ?_
            refine J.not_g rfl rfl rfl rfl rfl ?_
            refine J.not_g rfl rfl rfl rfl rfl ?_
            refine J.not_g rfl rfl rfl rfl rfl ?_
            refine J.not_g rfl rfl rfl rfl rfl ?_
            refine J.op (Yd.pick_t rfl rfl) rfl ?_
            refine J.nil ?_
            refine J.n_then ?_
            refine J.cond_true rfl ?_
            refine J.seq ?_
            refine J.region ?_
            refine J.eff (Ye.call cl8 rfl (Awake_ok)) rfl ?_
            rintro _ w60 ⟨rfl, x1⟩
            have hq := hq.ext x1
            have e0 := e0.trans x1
            have c_b10 := c_b10.ext x1
            have o47_7 := o47_7.ext x1
            clear x1
            refine J.op (Yd.assign rfl) rfl ?_
            refine J.nil ?_
            refine J.n_then ?_
            refine J.ret ?_
            refine J.r_then ?_
            refine J.r_block ?_
            refine J.r_then ?_
            refine J.r_then ?_
            refine J.r_block ?_
            refine J.r_then ?_
            exact J.ret1 rfl rfl (⟨_, rfl, rfl, e0⟩)
          · skip
            refine J.op_g rfl rfl rfl (Yd.cast (Yd.fieldA Try.underlying44 rfl ti9 rfl rfl) (show _ = Value.pointer (some ⟨b10, 2, none⟩) from rfl)) rfl ?_
            refine J.op_g rfl rfl rfl (Yd.load pl9 rfl (Cel.cell1 c_b10 2 rfl)) rfl ?_
            refine J.op_g rfl rfl rfl (Yd.slen Try.underlying9 rfl) rfl ?_
            refine J.op_g rfl rfl rfl (Yd.gtr rfl rfl) rfl ?_
            refine J.op (Yd.pick_f rfl rfl) rfl ?_
            refine J.op (Yd.move rfl) rfl ?_
            refine J.split_dec (t := 63) rfl (fun g3 => ?_) (fun g3 => ?_)
            · skip
              refine J.not_g rfl rfl rfl rfl rfl ?_
              refine J.not_g rfl rfl rfl rfl rfl ?_
              refine J.not_g rfl rfl rfl rfl rfl ?_
              refine J.not_g rfl rfl rfl rfl rfl ?_
              refine J.op (Yd.pick_t rfl rfl) rfl ?_
              refine J.nil ?_
              refine J.n_then ?_
              refine J.cond_true rfl ?_
              refine J.seq ?_
              refine J.region ?_
              refine J.eff (Ye.call cl8 rfl (Awake_ok)) rfl ?_
              rintro _ w61 ⟨rfl, x1⟩
              have hq := hq.ext x1
              have e0 := e0.trans x1
              have c_b10 := c_b10.ext x1
              have o47_7 := o47_7.ext x1
              clear x1
              refine J.op (Yd.assign rfl) rfl ?_
              refine J.nil ?_
              refine J.n_then ?_
              refine J.ret ?_
              refine J.r_then ?_
              refine J.r_block ?_
              refine J.r_then ?_
              refine J.r_then ?_
              refine J.r_block ?_
              refine J.r_then ?_
              exact J.ret1 rfl rfl (⟨_, rfl, rfl, e0⟩)
            · skip
              refine J.op_g rfl rfl rfl (Yd.cast (Yd.fieldA Try.underlying44 rfl ti22 rfl rfl) (show _ = Value.pointer (some ⟨b10, 4, none⟩) from rfl)) rfl ?_
              refine J.op_g rfl rfl rfl (Yd.load pl22 rfl (Cel.cell1 c_b10 4 rfl)) rfl ?_
              refine J.op_g rfl rfl rfl (Yd.len_m Try.underlying22 rfl (Rd.ext hids e0)) rfl ?_
              refine J.op_g rfl rfl rfl (Yd.gtr rfl rfl) rfl ?_
              refine J.op (Yd.pick_f rfl rfl) rfl ?_
              refine J.nil ?_
              refine J.n_then ?_
              refine J.know (t := 68) (v' := .bool true) rfl (tt (by omega)) ?_
              refine J.cond_true rfl ?_
              refine J.seq ?_
              refine J.region ?_
              refine J.eff (Ye.call cl8 rfl (Awake_ok)) rfl ?_
              rintro _ w62 ⟨rfl, x1⟩
              have hq := hq.ext x1
              have e0 := e0.trans x1
              have c_b10 := c_b10.ext x1
              have o47_7 := o47_7.ext x1
              clear x1
              refine J.op (Yd.assign rfl) rfl ?_
              refine J.nil ?_
              refine J.n_then ?_
              refine J.ret ?_
              refine J.r_then ?_
              refine J.r_block ?_
              refine J.r_then ?_
              refine J.r_then ?_
              refine J.r_block ?_
              refine J.r_then ?_
              exact J.ret1 rfl rfl (⟨_, rfl, rfl, e0⟩)
    · skip
      refine J.exit ?_
      refine J.x_then ?_
      refine J.x_then ?_
      refine J.x_block ?_
      refine J.n_then ?_
      refine J.seq ?_
      refine J.region ?_
      refine J.eff (Ye.call cl8 rfl (Awake_ok)) rfl ?_
      rintro _ w63 ⟨rfl, x1⟩
      have hq := hq.ext x1
      have e0 := e0.trans x1
      clear x1
      refine J.op (Yd.assign rfl) rfl ?_
      refine J.nil ?_
      refine J.n_then ?_
      refine J.ret ?_
      exact J.ret1 rfl rfl (⟨_, rfl, rfl, e0⟩)
end Ytmpfgiffpdackaa
end Go.Proofs
