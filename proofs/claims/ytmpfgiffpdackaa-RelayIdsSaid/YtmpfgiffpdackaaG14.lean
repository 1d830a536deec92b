import Derived.Test.YtmpfgiffpdackaaT
import Derived.Test.YtmpfgiffpdackaaG10
set_option linter.unusedVariables false
set_option linter.unusedSimpArgs false
set_option maxRecDepth 100000
set_option maxHeartbeats 4000000
namespace Go.Proofs
open Go.X Go.RowKit
namespace Ytmpfgiffpdackaa
theorem IdsOut {s s2 : Value} {tos : List Bool} {gone : List Int} {w : World} (hto : Rd w s (tos.map fun b => Value.bool b)) (hgo : Rd w s2 (gone.map fun x => I x)) (hb : ¬ (tos.length ≤ 50 ∧ gone.length ≤ 30)) : C Try.prog 7 [s, s2] w (Ret fun v w' => v = .bool true ∧ Ext w w') := by
  have hmt := Rd.max hto
  rw [List.length_map] at hmt
  have hmg := Rd.max hgo
  rw [List.length_map] at hmg
  have e0 := Ext.refl w
  refine C.enter Try.func7 rfl Try.ntmps7 rfl ?_
  refine J.seq ?_
  refine J.region ?_
  refine J.op (Yd.assign rfl) rfl ?_
  refine J.nil ?_
  refine J.n_then ?_
  refine J.seq ?_
  refine J.seq ?_
  refine J.region ?_
  refine J.op (Yd.move rfl) rfl ?_
  refine J.op (Yd.len_m Try.underlying61 rfl (hto.ext e0)) rfl ?_
  refine J.op (Yd.gtr rfl rfl) rfl ?_
  refine J.op (Yd.move rfl) rfl ?_
  refine J.split_dec (t := 19) rfl (fun hs1 => ?_) (fun hs1 => ?_)
  · skip
    refine J.not_g rfl rfl rfl rfl rfl ?_
    refine J.not_g rfl rfl rfl rfl rfl ?_
    refine J.not_g rfl rfl rfl rfl rfl ?_
    refine J.op (Yd.pick_t rfl rfl) rfl ?_
    refine J.nil ?_
    refine J.n_then ?_
    refine J.cond_true rfl ?_
    refine J.seq ?_
    refine J.region ?_
    refine J.eff (Ye.call cl8 rfl (Awake_ok)) rfl ?_
    rintro _ w1 ⟨rfl, x1⟩
    have e0 := e0.trans x1
    clear x1
    refine J.op (Yd.assign rfl) rfl ?_
    refine J.nil ?_
    refine J.n_then ?_
    refine J.ret ?_
    refine J.r_then ?_
    exact J.ret1 rfl rfl (⟨_, rfl, rfl, e0⟩)
  · skip
    refine J.op_g rfl rfl rfl (Yd.move rfl) rfl ?_
    refine J.op_g rfl rfl rfl (Yd.len_m Try.underlying22 rfl hgo) rfl ?_
    refine J.op_g rfl rfl rfl (Yd.gtr rfl rfl) rfl ?_
    refine J.op (Yd.pick_f rfl rfl) rfl ?_
    refine J.nil ?_
    refine J.n_then ?_
    refine J.know (t := 23) (v' := .bool true) rfl (tt (by omega)) ?_
    refine J.cond_true rfl ?_
    refine J.seq ?_
    refine J.region ?_
    refine J.eff (Ye.call cl8 rfl (Awake_ok)) rfl ?_
    rintro _ w2 ⟨rfl, x1⟩
    have e0 := e0.trans x1
    clear x1
    refine J.op (Yd.assign rfl) rfl ?_
    refine J.nil ?_
    refine J.n_then ?_
    refine J.ret ?_
    refine J.r_then ?_
    exact J.ret1 rfl rfl (⟨_, rfl, rfl, e0⟩)

theorem IdsIn {s s2 : Value} {tos : List Bool} {gone : List Int} {w : World} (hto : Rd w s (tos.map fun b => Value.bool b)) (hgo : Rd w s2 (gone.map fun x => I x)) (hb : tos.length ≤ 50 ∧ gone.length ≤ 30) : C Try.prog 7 [s, s2] w (Ret fun v w' => v = .bool true ∧ Ext w w') := by
  have hmt := Rd.max hto
  rw [List.length_map] at hmt
  have hmg := Rd.max hgo
  rw [List.length_map] at hmg
  have e0 := Ext.refl w
  refine C.enter Try.func7 rfl Try.ntmps7 rfl ?_
  refine J.seq ?_
  refine J.region ?_
  refine J.op (Yd.assign rfl) rfl ?_
  refine J.nil ?_
  refine J.n_then ?_
  refine J.seq ?_
  refine J.seq ?_
  refine J.region ?_
  refine J.op (Yd.move rfl) rfl ?_
  refine J.op (Yd.len_m Try.underlying61 rfl (hto.ext e0)) rfl ?_
  refine J.op (Yd.gtr rfl rfl) rfl ?_
  refine J.op (Yd.move rfl) rfl ?_
  refine J.know (t := 19) (v' := .bool false) rfl (ff (by omega)) ?_
  refine J.op_g rfl rfl rfl (Yd.move rfl) rfl ?_
  refine J.op_g rfl rfl rfl (Yd.len_m Try.underlying22 rfl hgo) rfl ?_
  refine J.op_g rfl rfl rfl (Yd.gtr rfl rfl) rfl ?_
  refine J.op (Yd.pick_f rfl rfl) rfl ?_
  refine J.nil ?_
  refine J.n_then ?_
  refine J.know (t := 23) (v' := .bool false) rfl (ff (by omega)) ?_
  refine J.cond_false rfl ?_
  refine J.skip ?_
  refine J.n_then ?_
  refine J.seq ?_
  refine J.region ?_
  refine J.eff (Ye.call cl9 rfl (NewQ (show exI 10 = 10 by decide))) rfl ?_
  rintro _ w1 ⟨b, K0, rfl, hq, x1⟩
  have hq := hq.le e0.size
  have e0 := e0.trans x1
  clear x1
  refine J.op (Yd.assign rfl) rfl ?_
  refine J.nil ?_
  refine J.n_then ?_
  refine J.seq ?_
  refine J.seq ?_
  refine J.region ?_
  refine J.op (Yd.move rfl) rfl ?_
  refine J.op (Yd.cast (Yd.eqPn Try.underlying24 rfl rfl) (show _ = Value.bool false from rfl)) rfl ?_
  refine J.nil ?_
  refine J.n_then ?_
  refine J.cond_false rfl ?_
  refine J.skip ?_
  refine J.n_then ?_
  refine J.seq ?_
  refine J.region ?_
  refine J.op (Yd.assign rfl) rfl ?_
  refine J.nil ?_
  refine J.n_then ?_
  refine J.seq ?_
  refine J.seq ?_
  refine J.region ?_
  refine J.op (Yd.assign rfl) rfl ?_
  refine J.nil ?_
  refine J.n_then ?_
  refine J.block ?_
  refine J.loop (ι := Nat × Int) (fun i => [(0, s), (1, s2), (7, I (i.1 : Int)), (6, I i.2), (5, .pointer (some ⟨b, 0, none⟩))]) (fun i w' => i.1 ≤ tos.length ∧ (∃ K0 q0, Rq 65 36 w.heap.size K0 w' b (10, 0, i.2) q0 ∧ (∀ k, JQ (qget q0 k) i.2) ∧ (0 ≤ i.2 ∧ i.2 ≤ ((i.1 : Nat) : Int))) ∧ Ext w w') (fun i => tos.length - i.1) ((0, (0 : Int))) ⟨rfl, rfl, rfl, rfl, rfl, trivial⟩ (⟨Nat.zero_le _, ⟨K0, [], hq, fun k => JQ.nil _, by decide⟩, e0⟩) ?_
  rintro ⟨n0, last⟩ w2 ⟨hk, ⟨K0, q0, hq, hj, hlb⟩, e0⟩
  dsimp only at *
  refine J.seq ?_
  refine J.seq ?_
  refine J.region ?_
  refine J.op (Yd.move rfl) rfl ?_
  refine J.op (Yd.move rfl) rfl ?_
  refine J.op (Yd.len_m Try.underlying61 rfl (hto.ext e0)) rfl ?_
  refine J.op (Yd.lss rfl rfl) rfl ?_
  refine J.nil ?_
  refine J.n_then ?_
  refine J.cond_dec rfl (fun hc2 => ?_) (fun hc2 => ?_)
  · skip
    refine J.skip ?_
    refine J.n_then ?_
    refine J.seq ?_
    refine J.block ?_
    refine J.seq ?_
    refine J.region ?_
    refine J.op (Yd.assign rfl) rfl ?_
    refine J.nil ?_
    refine J.n_then ?_
    refine J.seq ?_
    refine J.seq ?_
    refine J.region ?_
    refine J.op (Yd.move rfl) rfl ?_
    refine J.op (Yd.move rfl) rfl ?_
    refine J.op (Yd.idx_m Try.underlying61 ti4 rfl rfl (hto.ext e0) (by omega)) rfl ?_
    refine J.op (Yd.load pl4 rfl (Rd.cellM (hto.ext e0) (u := tos.getD (n0 : Int).toNat false) (by rw [List.getElem?_eq_getElem (show (n0 : Int).toNat < tos.length by omega), List.getD_eq_getElem?_getD, List.getElem?_eq_getElem (show (n0 : Int).toNat < tos.length by omega)]; rfl))) rfl ?_
    refine J.nil ?_
    refine J.n_then ?_
    refine J.cond rfl (fun hc3 => ?_) (fun hc3 => ?_)
    · skip
      refine J.region ?_
      refine J.op (Yd.assign rfl) rfl ?_
      refine J.nil ?_
      refine J.n_then ?_
      refine J.seq ?_
      refine J.region ?_
      refine J.op (Yd.move rfl) rfl ?_
      refine J.op (Yd.move rfl) rfl ?_
      refine J.op (Yd.move rfl) rfl ?_
      refine J.op (Yd.cv_i_8 Try.underlying3 Try.underlying5 rfl (by first | omega | exact idx_u8' _ | (simp only [Int.toNat_natCast]; omega) | (simp only [List.length_map, List.length_drop, List.length_take, List.length_append, List.length_replicate]; omega) | (simp <;> omega))) rfl ?_
      refine J.eff (Ye.lit1 (base := w2.heap.size) (f := (fun x : UInt8 => B x)) Try.underlying34 ti5 rfl rfl (fun _ => rfl) (Nat.le_refl _)) rfl ?_
      rintro s43_3 w3 ⟨o43_3, x1⟩
      have fr_s43_3 : Fr w.heap.size s43_3.ownBlock := Fr.le (Ow.fr o43_3) e0.size
      have out_s43_3 : Out K0 s43_3.ownBlock := hq.out (Ow.fr o43_3)
      replace o43_3 := Ow.base o43_3 e0.size
      have e0 := e0.trans x1
      have hq := hq.ext x1
      clear x1
      by_cases hlt : (qget q0 [98]).length < 30
      · skip
        refine J.eff (Ye.call cl10 rfl (PutQ_ok hq ⟨by decide, by decide⟩ ⟨by decide, by decide⟩ (Ow.rd o43_3) out_s43_3 (by simp only [List.length_singleton]; omega) hlt (by omega))) rfl ?_
        rintro _ w4 ⟨rfl, K1_, hq2, hkk, hT2⟩
        have out_s43_3_ : Out K1_ s43_3.ownBlock := Out.kk out_s43_3 (Ow.live o43_3) hkk
        have o43_3 := Ow.thK o43_3 hT2 hq.bb out_s43_3
        have e0 := Ext.thK e0 hT2 hq.bb (fun k hk => (hq.kb k hk).1)
        have out_s43_3 := out_s43_3_
        clear out_s43_3_
        replace hq := hq2
        clear hq2 hkk hT2
        obtain ⟨la1, hla1⟩ : ∃ la1, la1 = last + 1 := ⟨_, rfl⟩
        have hj1 : ∀ (d : List UInt8), d.length ≤ 6000 → ∃ q1, q1 = qset [98] (qget q0 [98] ++ [((last + 1, [99], 0, d) : It)]) q0 ∧ ∀ k, JQ (qget q1 k) la1 := fun d hd => ⟨_, rfl, fun k => by rw [qget_set, hla1]; split; exact (hj [98]).put hlt hd; exact (hj k).mono (by omega)⟩
        obtain ⟨q1, hq1, hj⟩ := hj1 _ (show ([_] : List UInt8).length ≤ 6000 from (by decide : (1 : Nat) ≤ 6000))
        rw [← hq1] at hq
        rw [← hla1] at hq
        refine J.op (Yd.move rfl) rfl ?_
        refine J.op (Yd.extract rfl rfl) rfl ?_
        refine J.op (Yd.extract rfl rfl) rfl ?_
        refine J.op (Yd.assign rfl) rfl ?_
        refine J.op (Yd.assign rfl) rfl ?_
        refine J.nil ?_
        refine J.n_then ?_
        refine J.seq ?_
        refine J.seq ?_
        refine J.region ?_
        refine J.op (Yd.move rfl) rfl ?_
        refine J.op (Yd.eql rfl rfl) rfl ?_
        refine J.op (Yd.move rfl) rfl ?_
        refine J.know (t := 49) (v' := .bool true) rfl (tt (by rfl)) ?_
        refine J.op_g rfl rfl rfl (Yd.move rfl) rfl ?_
        refine J.op_g rfl rfl rfl (Yd.move rfl) rfl ?_
        refine J.op_g rfl rfl rfl (Yd.add rfl rfl (by first | omega | exact idx_u8' _ | (simp only [Int.toNat_natCast]; omega) | (simp only [List.length_map, List.length_drop, List.length_take, List.length_append, List.length_replicate]; omega) | (simp <;> omega))) rfl ?_
        refine J.op_g rfl rfl rfl (Yd.neq rfl rfl) rfl ?_
        refine J.op (Yd.pick_t rfl rfl) rfl ?_
        refine J.op (Yd.move rfl) rfl ?_
        refine J.know (t := 55) (v' := .bool false) rfl (ff (by exact fun h => h rfl)) ?_
        refine J.op_g rfl rfl rfl (Yd.move rfl) rfl ?_
        refine J.op_g rfl rfl rfl (Yd.neq rfl rfl) rfl ?_
        refine J.op_g rfl rfl rfl (Yd.move rfl) rfl ?_
        refine J.know (t := 58) (v' := .bool false) rfl (ff (by decide)) ?_
        refine J.not_g rfl rfl rfl rfl rfl ?_
        refine J.not_g rfl rfl rfl rfl rfl ?_
        refine J.not_g rfl rfl rfl rfl rfl ?_
        refine J.not_u rfl rfl rfl rfl ?_
        refine J.not_u rfl rfl rfl rfl ?_
        refine J.not_u rfl rfl rfl rfl ?_
        refine J.not_u rfl rfl rfl rfl ?_
        refine J.not_g rfl rfl rfl rfl rfl ?_
        refine J.op_g rfl rfl rfl (Yd.pick_f rfl rfl) rfl ?_
        refine J.op (Yd.pick_f rfl rfl) rfl ?_
        refine J.nil ?_
        refine J.n_then ?_
        refine J.cond_false rfl ?_
        refine J.skip ?_
        refine J.n_then ?_
        refine J.seq ?_
        refine J.seq ?_
        refine J.region ?_
        refine J.op (Yd.move rfl) rfl ?_
        refine J.op (Yd.eql rfl rfl) rfl ?_
        refine J.nil ?_
        refine J.n_then ?_
        refine J.know (t := 70) (v' := .bool true) rfl (tt (by rfl)) ?_
        refine J.cond_true rfl ?_
        refine J.region ?_
        refine J.op (Yd.move rfl) rfl ?_
        refine J.op (Yd.assign rfl) rfl ?_
        refine J.nil ?_
        refine J.n_then ?_
        refine J.seq ?_
        refine J.seq ?_
        refine J.region ?_
        refine J.op (Yd.move rfl) rfl ?_
        refine J.op (Yd.move rfl) rfl ?_
        refine J.op (Yd.len_m Try.underlying22 rfl (Rd.ext hgo e0)) rfl ?_
        refine J.op (Yd.lss rfl rfl) rfl ?_
        refine J.nil ?_
        refine J.n_then ?_
        refine J.cond_dec rfl (fun hc6 => ?_) (fun hc6 => ?_)
        · skip
          refine J.seq ?_
          refine J.region ?_
          refine J.op (Yd.move rfl) rfl ?_
          refine J.op (Yd.move rfl) rfl ?_
          refine J.op (Yd.move rfl) rfl ?_
          refine J.op (Yd.move rfl) rfl ?_
          refine J.op (Yd.idx_m Try.underlying22 ti3 rfl rfl (Rd.ext hgo e0) (by first | omega | exact idx_u8' _ | (simp only [Int.toNat_natCast]; omega) | (simp only [List.length_map, List.length_drop, List.length_take, List.length_append, List.length_replicate]; omega) | (simp <;> omega))) rfl ?_
          refine J.op (Yd.load pl3 rfl (Rd.cellI (Rd.ext hgo e0) (by first | omega | exact idx_u8' _ | (simp only [Int.toNat_natCast]; omega) | (simp only [List.length_map, List.length_drop, List.length_take, List.length_append, List.length_replicate]; omega) | (simp <;> omega)))) rfl ?_
          refine J.eff (Ye.lit1 (base := w4.heap.size) (f := (fun x : Int => I x)) Try.underlying22 ti3 rfl rfl (fun _ => rfl) (Nat.le_refl _)) rfl ?_
          rintro s82_5 w5 ⟨o82_5, x1⟩
          have ap_s43_3_s82_5 : Ap s43_3.ownBlock s82_5.ownBlock := Ap.mk (Ow.live o43_3) (Ow.fr o82_5)
          have fr_s82_5 : Fr w.heap.size s82_5.ownBlock := Fr.le (Ow.fr o82_5) e0.size
          have out_s82_5 : Out K1_ s82_5.ownBlock := hq.out (Ow.fr o82_5)
          replace o82_5 := Ow.base o82_5 e0.size
          have e0 := e0.trans x1
          have hq := hq.ext x1
          have o43_3 := o43_3.ext x1
          clear x1
          refine J.eff (Ye.call cl16 rfl (AckQ_ok (ids := [(gone.getD (n0 : Int).toNat 0)]) hq (Ow.rd o82_5) (fun _ => out_s82_5))) rfl ?_
          rintro _ w6 ⟨rfl, q2, hq3, K2_, hq2, hkk, hT2⟩
          have out_s43_3_ : Out K2_ s43_3.ownBlock := Out.kk out_s43_3 (Ow.live o43_3) hkk
          have out_s82_5_ : Out K2_ s82_5.ownBlock := Out.kk out_s82_5 (Ow.live o82_5) hkk
          have o43_3 := Ow.thK o43_3 hT2 hq.bb out_s43_3
          have o82_5 := Ow.thK o82_5 hT2 hq.bb out_s82_5
          have e0 := Ext.thK e0 hT2 hq.bb (fun k hk => (hq.kb k hk).1)
          have out_s43_3 := out_s43_3_
          clear out_s43_3_
          have out_s82_5 := out_s82_5_
          clear out_s82_5_
          replace hq := hq2
          clear hq2 hkk hT2
          have hj2 : ∀ k, JQ (qget q2 k) la1 := fun k => by rw [hq3]; split; exact (hj [98]).rm _; exact hj k
          have hgn : idxI (eqP (gone.getD (n0 : Int).toNat 0)) (qget q2 [98]) = -1 := by rw [hq3, if_pos rfl]; exact (hj [98]).gone _
          clear hj
          have hj := hj2
          refine J.nil ?_
          refine J.n_then ?_
          refine J.seq ?_
          refine J.region ?_
          refine J.op (Yd.move rfl) rfl ?_
          refine J.op (Yd.move rfl) rfl ?_
          refine J.op (Yd.move rfl) rfl ?_
          refine J.op (Yd.move rfl) rfl ?_
          refine J.op (Yd.idx_m Try.underlying22 ti3 rfl rfl (Rd.ext hgo e0) (by first | omega | exact idx_u8' _ | (simp only [Int.toNat_natCast]; omega) | (simp only [List.length_map, List.length_drop, List.length_take, List.length_append, List.length_replicate]; omega) | (simp <;> omega))) rfl ?_
          refine J.op (Yd.load pl3 rfl (Rd.cellI (Rd.ext hgo e0) (by first | omega | exact idx_u8' _ | (simp only [Int.toNat_natCast]; omega) | (simp only [List.length_map, List.length_drop, List.length_take, List.length_append, List.length_replicate]; omega) | (simp <;> omega)))) rfl ?_
          refine J.eff (Ye.call cl23 rfl (GetQ_no hq hgn)) rfl ?_
          rintro _ w7 ⟨rfl, x1⟩
          have e0 := e0.trans x1
          have hq := hq.ext x1
          have o43_3 := o43_3.ext x1
          have o82_5 := o82_5.ext x1
          clear x1
          refine J.op (Yd.move rfl) rfl ?_
          refine J.op (Yd.extract rfl rfl) rfl ?_
          refine J.op (Yd.extract rfl rfl) rfl ?_
          refine J.eff (Ye.alloc ti36 (S := [(0, 4, [I 0, Str [], I 0, nilS])]) (by simp [SegAll, SegOK, Value.cells, nilS])) rfl ?_
          rintro _ w8 ⟨b11_7, rfl, hb_, c11_7, x1⟩
          have ap_s43_3_b11_7 : Ap s43_3.ownBlock (some b11_7) := Ap.mk (Ow.live o43_3) (Fr.blk hb_)
          have ap_s82_5_b11_7 : Ap s82_5.ownBlock (some b11_7) := Ap.mk (Ow.live o82_5) (Fr.blk hb_)
          have fr_b11_7 : Fr w.heap.size (some b11_7) := Fr.le (Fr.blk hb_) e0.size
          have out_b11_7 : Out K2_ (some b11_7) := hq.out (Fr.blk hb_)
          have e0 := e0.trans x1
          have hq := hq.ext x1
          have o43_3 := o43_3.ext x1
          have o82_5 := o82_5.ext x1
          clear x1 hb_
          refine J.eff0 (Ye.storeA (ys := itmS.c itmD) ti36 c11_7 0 rfl rfl rfl rfl (by rfl) (itm_one1 (x := itmD) rfl _ (List.mem_singleton.2 rfl))) ?_
          rintro _ w9 ⟨cX, hu⟩
          simp only [List.set_cons_zero, List.set_cons_succ] at cX
          have hg := hu.gb
          have hq := hq.g1 hg out_b11_7
          have o43_3 := Ow.gbk o43_3 hg ap_s43_3_b11_7
          have o82_5 := Ow.gbk o82_5 hg ap_s82_5_b11_7
          have e0 := Ext.gbk e0 fr_b11_7 hg
          clear hg
          replace c11_7 := cX
          clear cX hu
          refine J.op (Yd.assign rfl) rfl ?_
          refine J.nil ?_
          refine J.n_then ?_
          refine J.seq ?_
          refine J.region ?_
          refine J.op (Yd.move rfl) rfl ?_
          refine J.op (Yd.neq rfl rfl) rfl ?_
          refine J.nil ?_
          refine J.n_then ?_
          refine J.know (t := 95) (v' := .bool false) rfl (ff (by decide)) ?_
          refine J.cond_false rfl ?_
          refine J.skip ?_
          refine J.n_then ?_
          refine J.seq ?_
          refine J.region ?_
          refine J.op (Yd.move rfl) rfl ?_
          refine J.op (Yd.move rfl) rfl ?_
          refine J.eff (Ye.call cl13 rfl (ListQ_ok hq (fun x hx => Nat.le_trans ((hj [98]).bd x hx).2 (by decide)) (Nat.le_trans (hj [98]).len (by decide)))) rfl ?_
          rintro v98 w10 ⟨es98, ov98, hhd98, x1⟩
          have ap_s43_3_v98 : Ap s43_3.ownBlock v98.ownBlock := Ap.mk (Ow.live o43_3) (Es.fr ov98)
          have ap_s82_5_v98 : Ap s82_5.ownBlock v98.ownBlock := Ap.mk (Ow.live o82_5) (Es.fr ov98)
          have ap_b11_7_v98 : Ap (some b11_7) v98.ownBlock := Ap.mk (Cel.live c11_7) (Es.fr ov98)
          have fr_v98 : Fr w.heap.size v98.ownBlock := Fr.le (Es.fr ov98) e0.size
          have out_v98 : Out K2_ v98.ownBlock := hq.out (Es.fr ov98)
          replace ov98 := Es.base ov98 e0.size
          have e0 := e0.trans x1
          have hq := hq.ext x1
          have o43_3 := o43_3.ext x1
          have o82_5 := o82_5.ext x1
          have c11_7 := c11_7.ext x1
          clear x1
          have hln98 := congrArg List.length hhd98
          rw [List.length_map, List.length_map] at hln98
          have hlq98 := (hj [98]).len
          have hdi98 : ∀ j, j < (qget q2 [98]).length → (es98.getD j itmD).1 = ((qget q2 [98]).getD j itD0).1 := fun j hj => congrArg (fun z => z.1) (hdr_get hhd98 hj)
          refine J.op (Yd.move rfl) rfl ?_
          refine J.op (Yd.move rfl) rfl ?_
          refine J.eff (Ye.call cl13 rfl (ListQ_ok hq (fun x hx => Nat.le_trans ((hj [98]).bd x hx).2 (by decide)) (Nat.le_trans (hj [98]).len (by decide)))) rfl ?_
          rintro v101 w11 ⟨es101, ov101, hhd101, x1⟩
          have ap_s43_3_v101 : Ap s43_3.ownBlock v101.ownBlock := Ap.mk (Ow.live o43_3) (Es.fr ov101)
          have ap_s82_5_v101 : Ap s82_5.ownBlock v101.ownBlock := Ap.mk (Ow.live o82_5) (Es.fr ov101)
          have ap_b11_7_v101 : Ap (some b11_7) v101.ownBlock := Ap.mk (Cel.live c11_7) (Es.fr ov101)
          have ap_v98_v101 : Ap v98.ownBlock v101.ownBlock := Ap.mk (Es.live ov98) (Es.fr ov101)
          have fr_v101 : Fr w.heap.size v101.ownBlock := Fr.le (Es.fr ov101) e0.size
          have out_v101 : Out K2_ v101.ownBlock := hq.out (Es.fr ov101)
          replace ov101 := Es.base ov101 e0.size
          have e0 := e0.trans x1
          have hq := hq.ext x1
          have o43_3 := o43_3.ext x1
          have o82_5 := o82_5.ext x1
          have c11_7 := c11_7.ext x1
          have ov98 := ov98.ext x1
          clear x1
          have hln101 := congrArg List.length hhd101
          rw [List.length_map, List.length_map] at hln101
          have hlq101 := (hj [98]).len
          have hdi101 : ∀ j, j < (qget q2 [98]).length → (es101.getD j itmD).1 = ((qget q2 [98]).getD j itD0).1 := fun j hj => congrArg (fun z => z.1) (hdr_get hhd101 hj)
          refine J.op (Yd.assign rfl) rfl ?_
          refine J.op (Yd.assign rfl) rfl ?_
          refine J.nil ?_
          refine J.n_then ?_
          refine J.seq ?_
          refine J.seq ?_
          refine J.region ?_
          refine J.op (Yd.move rfl) rfl ?_
          refine J.op (Yd.lenE (K := itmS) Try.underlying31 rfl (Es.rd ov98)) rfl ?_
          refine J.op (Yd.move rfl) rfl ?_
          refine J.op (Yd.lenE (K := itmS) Try.underlying31 rfl (Es.rd ov101)) rfl ?_
          refine J.op (Yd.neq rfl rfl) rfl ?_
          refine J.op (Yd.move rfl) rfl ?_
          refine J.know (t := 107) (v' := .bool false) rfl (ff (by rw [hln98, hln101]; exact fun h => h rfl)) ?_
          refine J.op_g rfl rfl rfl (Yd.move rfl) rfl ?_
          refine J.op_g rfl rfl rfl (Yd.lenE (K := itmS) Try.underlying31 rfl (Es.rd ov98)) rfl ?_
          refine J.op_g rfl rfl rfl (Yd.move rfl) rfl ?_
          refine J.op_g rfl rfl rfl (Yd.move rfl) rfl ?_
          refine J.eff_g rfl rfl rfl (Ye.call cl15 rfl (LenQ_ok hq)) rfl ?_
          rintro _ w12 ⟨rfl, x1⟩
          have e0 := e0.trans x1
          have hq := hq.ext x1
          have o43_3 := o43_3.ext x1
          have o82_5 := o82_5.ext x1
          have c11_7 := c11_7.ext x1
          have ov98 := ov98.ext x1
          have ov101 := ov101.ext x1
          clear x1
          refine J.op_g rfl rfl rfl (Yd.neq rfl rfl) rfl ?_
          refine J.op (Yd.pick_f rfl rfl) rfl ?_
          refine J.nil ?_
          refine J.n_then ?_
          refine J.know (t := 114) (v' := .bool false) rfl (ff (by rw [hln98]; exact fun h => h rfl)) ?_
          refine J.cond_false rfl ?_
          refine J.skip ?_
          refine J.n_then ?_
          refine J.seq ?_
          refine J.region ?_
          refine J.op (Yd.assign rfl) rfl ?_
          refine J.nil ?_
          refine J.n_then ?_
          refine J.block ?_
          refine J.loop (ι := Nat) (fun i => [(0, s), (1, s2), (7, I (n0 : Int)), (6, I la1), (15, I (i : Int)), (5, .pointer (some ⟨b, 0, none⟩)), (13, v98)]) (fun i w' => 1 ≤ i ∧ Rq 65 36 w.heap.size K2_ w' b (10, 0, la1) q2 ∧ Es itmS w.heap.size 36 w' v98 es98 ∧ Ext w w') (fun i => es98.length - i) (1) ⟨rfl, rfl, rfl, (someI (by omega)), rfl, rfl, rfl, trivial⟩ (⟨Nat.le_refl _, hq, ov98, e0⟩) ?_
          rintro j w13 ⟨hk2, hq, ho13, e0⟩
          refine J.seq ?_
          refine J.seq ?_
          refine J.region ?_
          refine J.op (Yd.move rfl) rfl ?_
          refine J.op (Yd.move rfl) rfl ?_
          refine J.op (Yd.lenE (K := itmS) Try.underlying31 rfl (Es.rd ho13)) rfl ?_
          refine J.op (Yd.lss rfl rfl) rfl ?_
          refine J.nil ?_
          refine J.n_then ?_
          refine J.cond_dec rfl (fun hc9 => ?_) (fun hc9 => ?_)
          · skip
            refine J.skip ?_
            refine J.n_then ?_
            refine J.seq ?_
            refine J.block ?_
            refine J.seq ?_
            refine J.regionO [(0, true), (1, true), (5, true), (6, true), (7, true)] [(2, 1), (8, 1), (3, 1), (4, 1), (9, 1), (10, 1)] [(11, true)] mix (by kernel_rfl) ?_
            refine J.s_op rfl (fun _ => Yd.move rfl) rfl ?_
            refine J.s_op rfl (fun _ => Yd.move rfl) rfl ?_
            refine J.s_op rfl (fun _ => Yd.move rfl) rfl ?_
            refine J.s_op rfl (fun _ => Yd.move rfl) rfl ?_
            refine J.s_op rfl (fun _ => Yd.sub rfl rfl (by first | omega | exact idx_u8' _ | (simp only [Int.toNat_natCast]; omega) | (simp only [List.length_map, List.length_drop, List.length_take, List.length_append, List.length_replicate]; omega) | (simp <;> omega))) rfl ?_
            refine J.s_nil ?_
            refine J.o_op rfl (Yd.idxE (K := itmS) Try.underlying31 ti36 rfl rfl (Es.rd ho13) (by first | omega | exact idx_u8' _ | (simp only [Int.toNat_natCast]; omega) | (simp only [List.length_map, List.length_drop, List.length_take, List.length_append, List.length_replicate]; omega) | (simp <;> omega))) rfl ?_
            refine J.o_op rfl (Yd.idxE (K := itmS) Try.underlying31 ti36 rfl rfl (Es.rd ho13) (by first | omega | exact idx_u8' _ | (simp only [Int.toNat_natCast]; omega) | (simp only [List.length_map, List.length_drop, List.length_take, List.length_append, List.length_replicate]; omega) | (simp <;> omega))) rfl ?_
            refine J.o_op rfl (Yd.fieldE (K := itmS) (Es.rd ho13) (by omega) Try.underlying36 rfl ti3 rfl rfl) rfl ?_
            refine J.o_op rfl (Yd.loadFd (K := itmS) itmD pl3 rfl (Es.rd ho13) (by first | omega | exact idx_u8' _ | (simp only [Int.toNat_natCast]; omega) | (simp only [List.length_map, List.length_drop, List.length_take, List.length_append, List.length_replicate]; omega) | (simp <;> omega)) rfl) rfl ?_
            refine J.o_op rfl (Yd.fieldE (K := itmS) (Es.rd ho13) (by omega) Try.underlying36 rfl ti3 rfl rfl) rfl ?_
            refine J.o_op rfl (Yd.loadFd (K := itmS) itmD pl3 rfl (Es.rd ho13) (by first | omega | exact idx_u8' _ | (simp only [Int.toNat_natCast]; omega) | (simp only [List.length_map, List.length_drop, List.length_take, List.length_append, List.length_replicate]; omega) | (simp <;> omega)) rfl) rfl ?_
            refine J.o_nil ?_
            refine J.s_op rfl (fun _ => Yd.leq rfl rfl) rfl ?_
            refine J.s_nil ?_
            refine J.n_np ?_
            refine J.n_then ?_
            refine J.know (t := 132) (v' := .bool false) rfl (ff (by first | omega | (have h7 := hdi98 j (by omega); have h8 := hdi98 (j - 1) (by omega); have h9 := (hj [98]).lt (show j < (qget q2 [98]).length by omega) (by omega); rw [show ((j : Int) - 1).toNat = j - 1 by omega, Int.toNat_natCast]; omega))) ?_
            refine J.cond_false rfl ?_
            refine J.skip ?_
            refine J.n_block ?_
            refine J.n_then ?_
            refine J.region ?_
            refine J.op (Yd.move rfl) rfl ?_
            refine J.op (Yd.add rfl rfl (by first | omega | exact idx_u8' _ | (simp only [Int.toNat_natCast]; omega) | (simp only [List.length_map, List.length_drop, List.length_take, List.length_append, List.length_replicate]; omega) | (simp <;> omega))) rfl ?_
            refine J.op (Yd.assign rfl) rfl ?_
            refine J.nil ?_
            refine J.n_then ?_
            exact J.round (j + 1) ⟨rfl, rfl, rfl, rfl, rfl, rfl, rfl, trivial⟩ (⟨by omega, hq, ho13, e0⟩) (by omega)
          · skip
            refine J.exit ?_
            refine J.x_then ?_
            refine J.x_then ?_
            refine J.x_block ?_
            refine J.n_block ?_
            refine J.n_then ?_
            refine J.region ?_
            refine J.op (Yd.move rfl) rfl ?_
            refine J.op (Yd.add rfl rfl (by first | omega | exact idx_u8' _ | (simp only [Int.toNat_natCast]; omega) | (simp only [List.length_map, List.length_drop, List.length_take, List.length_append, List.length_replicate]; omega) | (simp <;> omega))) rfl ?_
            refine J.op (Yd.assign rfl) rfl ?_
            refine J.nil ?_
            refine J.n_then ?_
            exact J.round ((n0 + 1, la1)) ⟨rfl, rfl, rfl, (someI (by omega)), rfl, trivial⟩ (⟨by show n0 + 1 ≤ tos.length; omega, ⟨K2_, q2, hq, hj, (by show 0 ≤ la1 ∧ la1 ≤ ((n0 + 1 : Nat) : Int); omega)⟩, e0⟩) (by show tos.length - (n0 + 1) < tos.length - n0; omega)
        · skip
          obtain ⟨q2, hq2⟩ : ∃ q2, q2 = q1 := ⟨_, rfl⟩
          rw [← hq2] at hq hj
          refine J.skip ?_
          refine J.n_then ?_
          refine J.seq ?_
          refine J.region ?_
          refine J.op (Yd.move rfl) rfl ?_
          refine J.op (Yd.move rfl) rfl ?_
          refine J.eff (Ye.call cl13 rfl (ListQ_ok hq (fun x hx => Nat.le_trans ((hj [98]).bd x hx).2 (by decide)) (Nat.le_trans (hj [98]).len (by decide)))) rfl ?_
          rintro v98 w14 ⟨es98, ov98, hhd98, x1⟩
          have ap_s43_3_v98 : Ap s43_3.ownBlock v98.ownBlock := Ap.mk (Ow.live o43_3) (Es.fr ov98)
          have fr_v98 : Fr w.heap.size v98.ownBlock := Fr.le (Es.fr ov98) e0.size
          have out_v98 : Out K1_ v98.ownBlock := hq.out (Es.fr ov98)
          replace ov98 := Es.base ov98 e0.size
          have e0 := e0.trans x1
          have hq := hq.ext x1
          have o43_3 := o43_3.ext x1
          clear x1
          have hln98 := congrArg List.length hhd98
          rw [List.length_map, List.length_map] at hln98
          have hlq98 := (hj [98]).len
          have hdi98 : ∀ j, j < (qget q2 [98]).length → (es98.getD j itmD).1 = ((qget q2 [98]).getD j itD0).1 := fun j hj => congrArg (fun z => z.1) (hdr_get hhd98 hj)
          refine J.op (Yd.move rfl) rfl ?_
          refine J.op (Yd.move rfl) rfl ?_
          refine J.eff (Ye.call cl13 rfl (ListQ_ok hq (fun x hx => Nat.le_trans ((hj [98]).bd x hx).2 (by decide)) (Nat.le_trans (hj [98]).len (by decide)))) rfl ?_
          rintro v101 w15 ⟨es101, ov101, hhd101, x1⟩
          have ap_s43_3_v101 : Ap s43_3.ownBlock v101.ownBlock := Ap.mk (Ow.live o43_3) (Es.fr ov101)
          have ap_v98_v101 : Ap v98.ownBlock v101.ownBlock := Ap.mk (Es.live ov98) (Es.fr ov101)
          have fr_v101 : Fr w.heap.size v101.ownBlock := Fr.le (Es.fr ov101) e0.size
          have out_v101 : Out K1_ v101.ownBlock := hq.out (Es.fr ov101)
          replace ov101 := Es.base ov101 e0.size
          have e0 := e0.trans x1
          have hq := hq.ext x1
          have o43_3 := o43_3.ext x1
          have ov98 := ov98.ext x1
          clear x1
          have hln101 := congrArg List.length hhd101
          rw [List.length_map, List.length_map] at hln101
          have hlq101 := (hj [98]).len
          have hdi101 : ∀ j, j < (qget q2 [98]).length → (es101.getD j itmD).1 = ((qget q2 [98]).getD j itD0).1 := fun j hj => congrArg (fun z => z.1) (hdr_get hhd101 hj)
          refine J.op (Yd.assign rfl) rfl ?_
          refine J.op (Yd.assign rfl) rfl ?_
          refine J.nil ?_
          refine J.n_then ?_
          refine J.seq ?_
          refine J.seq ?_
          refine J.region ?_
          refine J.op (Yd.move rfl) rfl ?_
          refine J.op (Yd.lenE (K := itmS) Try.underlying31 rfl (Es.rd ov98)) rfl ?_
          refine J.op (Yd.move rfl) rfl ?_
          refine J.op (Yd.lenE (K := itmS) Try.underlying31 rfl (Es.rd ov101)) rfl ?_
          refine J.op (Yd.neq rfl rfl) rfl ?_
          refine J.op (Yd.move rfl) rfl ?_
          refine J.know (t := 107) (v' := .bool false) rfl (ff (by rw [hln98, hln101]; exact fun h => h rfl)) ?_
          refine J.op_g rfl rfl rfl (Yd.move rfl) rfl ?_
          refine J.op_g rfl rfl rfl (Yd.lenE (K := itmS) Try.underlying31 rfl (Es.rd ov98)) rfl ?_
          refine J.op_g rfl rfl rfl (Yd.move rfl) rfl ?_
          refine J.op_g rfl rfl rfl (Yd.move rfl) rfl ?_
          refine J.eff_g rfl rfl rfl (Ye.call cl15 rfl (LenQ_ok hq)) rfl ?_
          rintro _ w16 ⟨rfl, x1⟩
          have e0 := e0.trans x1
          have hq := hq.ext x1
          have o43_3 := o43_3.ext x1
          have ov98 := ov98.ext x1
          have ov101 := ov101.ext x1
          clear x1
          refine J.op_g rfl rfl rfl (Yd.neq rfl rfl) rfl ?_
          refine J.op (Yd.pick_f rfl rfl) rfl ?_
          refine J.nil ?_
          refine J.n_then ?_
          refine J.know (t := 114) (v' := .bool false) rfl (ff (by rw [hln98]; exact fun h => h rfl)) ?_
          refine J.cond_false rfl ?_
          refine J.skip ?_
          refine J.n_then ?_
          refine J.seq ?_
          refine J.region ?_
          refine J.op (Yd.assign rfl) rfl ?_
          refine J.nil ?_
          refine J.n_then ?_
          refine J.block ?_
          refine J.loop (ι := Nat) (fun i => [(0, s), (1, s2), (7, I (n0 : Int)), (6, I la1), (15, I (i : Int)), (5, .pointer (some ⟨b, 0, none⟩)), (13, v98)]) (fun i w' => 1 ≤ i ∧ Rq 65 36 w.heap.size K1_ w' b (10, 0, la1) q2 ∧ Es itmS w.heap.size 36 w' v98 es98 ∧ Ext w w') (fun i => es98.length - i) (1) ⟨rfl, rfl, rfl, (someI (by omega)), rfl, rfl, rfl, trivial⟩ (⟨Nat.le_refl _, hq, ov98, e0⟩) ?_
          rintro j w17 ⟨hk2, hq, ho13, e0⟩
          refine J.seq ?_
          refine J.seq ?_
          refine J.region ?_
          refine J.op (Yd.move rfl) rfl ?_
          refine J.op (Yd.move rfl) rfl ?_
          refine J.op (Yd.lenE (K := itmS) Try.underlying31 rfl (Es.rd ho13)) rfl ?_
          refine J.op (Yd.lss rfl rfl) rfl ?_
          refine J.nil ?_
          refine J.n_then ?_
          refine J.cond_dec rfl (fun hc9 => ?_) (fun hc9 => ?_)
          · skip
            refine J.skip ?_
            refine J.n_then ?_
            refine J.seq ?_
            refine J.block ?_
            refine J.seq ?_
            refine J.regionO [(0, true), (1, true), (5, true), (6, true), (7, true)] [(2, 1), (8, 1), (3, 1), (4, 1), (9, 1), (10, 1)] [(11, true)] mix (by kernel_rfl) ?_
            refine J.s_op rfl (fun _ => Yd.move rfl) rfl ?_
            refine J.s_op rfl (fun _ => Yd.move rfl) rfl ?_
            refine J.s_op rfl (fun _ => Yd.move rfl) rfl ?_
            refine J.s_op rfl (fun _ => Yd.move rfl) rfl ?_
            refine J.s_op rfl (fun _ => Yd.sub rfl rfl (by first | omega | exact idx_u8' _ | (simp only [Int.toNat_natCast]; omega) | (simp only [List.length_map, List.length_drop, List.length_take, List.length_append, List.length_replicate]; omega) | (simp <;> omega))) rfl ?_
            refine J.s_nil ?_
            refine J.o_op rfl (Yd.idxE (K := itmS) Try.underlying31 ti36 rfl rfl (Es.rd ho13) (by first | omega | exact idx_u8' _ | (simp only [Int.toNat_natCast]; omega) | (simp only [List.length_map, List.length_drop, List.length_take, List.length_append, List.length_replicate]; omega) | (simp <;> omega))) rfl ?_
            refine J.o_op rfl (Yd.idxE (K := itmS) Try.underlying31 ti36 rfl rfl (Es.rd ho13) (by first | omega | exact idx_u8' _ | (simp only [Int.toNat_natCast]; omega) | (simp only [List.length_map, List.length_drop, List.length_take, List.length_append, List.length_replicate]; omega) | (simp <;> omega))) rfl ?_
            refine J.o_op rfl (Yd.fieldE (K := itmS) (Es.rd ho13) (by omega) Try.underlying36 rfl ti3 rfl rfl) rfl ?_
            refine J.o_op rfl (Yd.loadFd (K := itmS) itmD pl3 rfl (Es.rd ho13) (by first | omega | exact idx_u8' _ | (simp only [Int.toNat_natCast]; omega) | (simp only [List.length_map, List.length_drop, List.length_take, List.length_append, List.length_replicate]; omega) | (simp <;> omega)) rfl) rfl ?_
            refine J.o_op rfl (Yd.fieldE (K := itmS) (Es.rd ho13) (by omega) Try.underlying36 rfl ti3 rfl rfl) rfl ?_
            refine J.o_op rfl (Yd.loadFd (K := itmS) itmD pl3 rfl (Es.rd ho13) (by first | omega | exact idx_u8' _ | (simp only [Int.toNat_natCast]; omega) | (simp only [List.length_map, List.length_drop, List.length_take, List.length_append, List.length_replicate]; omega) | (simp <;> omega)) rfl) rfl ?_
            refine J.o_nil ?_
            refine J.s_op rfl (fun _ => Yd.leq rfl rfl) rfl ?_
            refine J.s_nil ?_
            refine J.n_np ?_
            refine J.n_then ?_
            refine J.know (t := 132) (v' := .bool false) rfl (ff (by first | omega | (have h7 := hdi98 j (by omega); have h8 := hdi98 (j - 1) (by omega); have h9 := (hj [98]).lt (show j < (qget q2 [98]).length by omega) (by omega); rw [show ((j : Int) - 1).toNat = j - 1 by omega, Int.toNat_natCast]; omega))) ?_
            refine J.cond_false rfl ?_
            refine J.skip ?_
            refine J.n_block ?_
            refine J.n_then ?_
            refine J.region ?_
            refine J.op (Yd.move rfl) rfl ?_
            refine J.op (Yd.add rfl rfl (by first | omega | exact idx_u8' _ | (simp only [Int.toNat_natCast]; omega) | (simp only [List.length_map, List.length_drop, List.length_take, List.length_append, List.length_replicate]; omega) | (simp <;> omega))) rfl ?_
            refine J.op (Yd.assign rfl) rfl ?_
            refine J.nil ?_
            refine J.n_then ?_
            exact J.round (j + 1) ⟨rfl, rfl, rfl, rfl, rfl, rfl, rfl, trivial⟩ (⟨by omega, hq, ho13, e0⟩) (by omega)
          · skip
            refine J.exit ?_
            refine J.x_then ?_
            refine J.x_then ?_
            refine J.x_block ?_
            refine J.n_block ?_
            refine J.n_then ?_
            refine J.region ?_
            refine J.op (Yd.move rfl) rfl ?_
            refine J.op (Yd.add rfl rfl (by first | omega | exact idx_u8' _ | (simp only [Int.toNat_natCast]; omega) | (simp only [List.length_map, List.length_drop, List.length_take, List.length_append, List.length_replicate]; omega) | (simp <;> omega))) rfl ?_
            refine J.op (Yd.assign rfl) rfl ?_
            refine J.nil ?_
            refine J.n_then ?_
            exact J.round ((n0 + 1, la1)) ⟨rfl, rfl, rfl, (someI (by omega)), rfl, trivial⟩ (⟨by show n0 + 1 ≤ tos.length; omega, ⟨K1_, q2, hq, hj, (by show 0 ≤ la1 ∧ la1 ≤ ((n0 + 1 : Nat) : Int); omega)⟩, e0⟩) (by show tos.length - (n0 + 1) < tos.length - n0; omega)
      · skip
        refine J.eff (Ye.call cl10 rfl (PutQ_full hq ⟨by decide, by decide⟩ ⟨by decide, by decide⟩ (Ow.rd o43_3) (by simp only [List.length_singleton]; omega) (by omega))) rfl ?_
        rintro _ w18 ⟨rfl, x1⟩
        have e0 := e0.trans x1
        have hq := hq.ext x1
        have o43_3 := o43_3.ext x1
        clear x1
        obtain ⟨q1, hq1⟩ : ∃ q1, q1 = q0 := ⟨_, rfl⟩
        rw [← hq1] at hq hj
        obtain ⟨la1, hla1⟩ : ∃ la1, la1 = last := ⟨_, rfl⟩
        rw [← hla1] at hq hj
        refine J.op (Yd.move rfl) rfl ?_
        refine J.op (Yd.extract rfl rfl) rfl ?_
        refine J.op (Yd.extract rfl rfl) rfl ?_
        refine J.op (Yd.assign rfl) rfl ?_
        refine J.op (Yd.assign rfl) rfl ?_
        refine J.nil ?_
        refine J.n_then ?_
        refine J.seq ?_
        refine J.seq ?_
        refine J.region ?_
        refine J.op (Yd.move rfl) rfl ?_
        refine J.op (Yd.eql rfl rfl) rfl ?_
        refine J.op (Yd.move rfl) rfl ?_
        refine J.know (t := 49) (v' := .bool false) rfl (ff (by decide)) ?_
        refine J.not_g rfl rfl rfl rfl rfl ?_
        refine J.not_g rfl rfl rfl rfl rfl ?_
        refine J.not_g rfl rfl rfl rfl rfl ?_
        refine J.not_g rfl rfl rfl rfl rfl ?_
        refine J.op (Yd.pick_f rfl rfl) rfl ?_
        refine J.op (Yd.move rfl) rfl ?_
        refine J.op_g rfl rfl rfl (Yd.move rfl) rfl ?_
        refine J.op_g rfl rfl rfl (Yd.neq rfl rfl) rfl ?_
        refine J.op_g rfl rfl rfl (Yd.move rfl) rfl ?_
        refine J.know (t := 58) (v' := .bool true) rfl (tt (by decide)) ?_
        refine J.op_g rfl rfl rfl (Yd.move rfl) rfl ?_
        refine J.op_g rfl rfl rfl (Yd.neq rfl rfl) rfl ?_
        refine J.op_g rfl rfl rfl (Yd.move rfl) rfl ?_
        refine J.know (t := 61) (v' := .bool false) rfl (ff (by decide)) ?_
        refine J.op_g rfl rfl rfl (Yd.move rfl) rfl ?_
        refine J.op_g rfl rfl rfl (Yd.move rfl) rfl ?_
        refine J.eff_g rfl rfl rfl (Ye.call cl15 rfl (LenQ_ok hq)) rfl ?_
        rintro _ w19 ⟨rfl, x1⟩
        have e0 := e0.trans x1
        have hq := hq.ext x1
        have o43_3 := o43_3.ext x1
        clear x1
        refine J.op_g rfl rfl rfl (Yd.neq rfl rfl) rfl ?_
        refine J.op_g rfl rfl rfl (Yd.pick_f rfl rfl) rfl ?_
        refine J.op_g rfl rfl rfl (Yd.pick_t rfl rfl) rfl ?_
        refine J.op (Yd.pick_f rfl rfl) rfl ?_
        refine J.nil ?_
        refine J.n_then ?_
        refine J.know (t := 68) (v' := .bool false) rfl (ff (by have := (hj [98]).len; rw [hq1] at this ⊢; omega)) ?_
        refine J.cond_false rfl ?_
        refine J.skip ?_
        refine J.n_then ?_
        refine J.seq ?_
        refine J.seq ?_
        refine J.region ?_
        refine J.op (Yd.move rfl) rfl ?_
        refine J.op (Yd.eql rfl rfl) rfl ?_
        refine J.nil ?_
        refine J.n_then ?_
        refine J.know (t := 70) (v' := .bool false) rfl (ff (by decide)) ?_
        refine J.cond_false rfl ?_
        refine J.skip ?_
        refine J.n_then ?_
        refine J.seq ?_
        refine J.seq ?_
        refine J.region ?_
        refine J.op (Yd.move rfl) rfl ?_
        refine J.op (Yd.move rfl) rfl ?_
        refine J.op (Yd.len_m Try.underlying22 rfl (Rd.ext hgo e0)) rfl ?_
        refine J.op (Yd.lss rfl rfl) rfl ?_
        refine J.nil ?_
        refine J.n_then ?_
        refine J.cond_dec rfl (fun hc6 => ?_) (fun hc6 => ?_)
        · skip
          refine J.seq ?_
          refine J.region ?_
          refine J.op (Yd.move rfl) rfl ?_
          refine J.op (Yd.move rfl) rfl ?_
          refine J.op (Yd.move rfl) rfl ?_
          refine J.op (Yd.move rfl) rfl ?_
          refine J.op (Yd.idx_m Try.underlying22 ti3 rfl rfl (Rd.ext hgo e0) (by first | omega | exact idx_u8' _ | (simp only [Int.toNat_natCast]; omega) | (simp only [List.length_map, List.length_drop, List.length_take, List.length_append, List.length_replicate]; omega) | (simp <;> omega))) rfl ?_
          refine J.op (Yd.load pl3 rfl (Rd.cellI (Rd.ext hgo e0) (by first | omega | exact idx_u8' _ | (simp only [Int.toNat_natCast]; omega) | (simp only [List.length_map, List.length_drop, List.length_take, List.length_append, List.length_replicate]; omega) | (simp <;> omega)))) rfl ?_
          refine J.eff (Ye.lit1 (base := w19.heap.size) (f := (fun x : Int => I x)) Try.underlying22 ti3 rfl rfl (fun _ => rfl) (Nat.le_refl _)) rfl ?_
          rintro s82_20 w20 ⟨o82_20, x1⟩
          have ap_s43_3_s82_20 : Ap s43_3.ownBlock s82_20.ownBlock := Ap.mk (Ow.live o43_3) (Ow.fr o82_20)
          have fr_s82_20 : Fr w.heap.size s82_20.ownBlock := Fr.le (Ow.fr o82_20) e0.size
          have out_s82_20 : Out K0 s82_20.ownBlock := hq.out (Ow.fr o82_20)
          replace o82_20 := Ow.base o82_20 e0.size
          have e0 := e0.trans x1
          have hq := hq.ext x1
          have o43_3 := o43_3.ext x1
          clear x1
          refine J.eff (Ye.call cl16 rfl (AckQ_ok (ids := [(gone.getD (n0 : Int).toNat 0)]) hq (Ow.rd o82_20) (fun _ => out_s82_20))) rfl ?_
          rintro _ w21 ⟨rfl, q2, hq3, K3_, hq2, hkk, hT2⟩
          have out_s43_3_ : Out K3_ s43_3.ownBlock := Out.kk out_s43_3 (Ow.live o43_3) hkk
          have out_s82_20_ : Out K3_ s82_20.ownBlock := Out.kk out_s82_20 (Ow.live o82_20) hkk
          have o43_3 := Ow.thK o43_3 hT2 hq.bb out_s43_3
          have o82_20 := Ow.thK o82_20 hT2 hq.bb out_s82_20
          have e0 := Ext.thK e0 hT2 hq.bb (fun k hk => (hq.kb k hk).1)
          have out_s43_3 := out_s43_3_
          clear out_s43_3_
          have out_s82_20 := out_s82_20_
          clear out_s82_20_
          replace hq := hq2
          clear hq2 hkk hT2
          have hj2 : ∀ k, JQ (qget q2 k) la1 := fun k => by rw [hq3]; split; exact (hj [98]).rm _; exact hj k
          have hgn : idxI (eqP (gone.getD (n0 : Int).toNat 0)) (qget q2 [98]) = -1 := by rw [hq3, if_pos rfl]; exact (hj [98]).gone _
          clear hj
          have hj := hj2
          refine J.nil ?_
          refine J.n_then ?_
          refine J.seq ?_
          refine J.region ?_
          refine J.op (Yd.move rfl) rfl ?_
          refine J.op (Yd.move rfl) rfl ?_
          refine J.op (Yd.move rfl) rfl ?_
          refine J.op (Yd.move rfl) rfl ?_
          refine J.op (Yd.idx_m Try.underlying22 ti3 rfl rfl (Rd.ext hgo e0) (by first | omega | exact idx_u8' _ | (simp only [Int.toNat_natCast]; omega) | (simp only [List.length_map, List.length_drop, List.length_take, List.length_append, List.length_replicate]; omega) | (simp <;> omega))) rfl ?_
          refine J.op (Yd.load pl3 rfl (Rd.cellI (Rd.ext hgo e0) (by first | omega | exact idx_u8' _ | (simp only [Int.toNat_natCast]; omega) | (simp only [List.length_map, List.length_drop, List.length_take, List.length_append, List.length_replicate]; omega) | (simp <;> omega)))) rfl ?_
          refine J.eff (Ye.call cl23 rfl (GetQ_no hq hgn)) rfl ?_
          rintro _ w22 ⟨rfl, x1⟩
          have e0 := e0.trans x1
          have hq := hq.ext x1
          have o43_3 := o43_3.ext x1
          have o82_20 := o82_20.ext x1
          clear x1
          refine J.op (Yd.move rfl) rfl ?_
          refine J.op (Yd.extract rfl rfl) rfl ?_
          refine J.op (Yd.extract rfl rfl) rfl ?_
          refine J.eff (Ye.alloc ti36 (S := [(0, 4, [I 0, Str [], I 0, nilS])]) (by simp [SegAll, SegOK, Value.cells, nilS])) rfl ?_
          rintro _ w23 ⟨b11_22, rfl, hb_, c11_22, x1⟩
          have ap_s43_3_b11_22 : Ap s43_3.ownBlock (some b11_22) := Ap.mk (Ow.live o43_3) (Fr.blk hb_)
          have ap_s82_20_b11_22 : Ap s82_20.ownBlock (some b11_22) := Ap.mk (Ow.live o82_20) (Fr.blk hb_)
          have fr_b11_22 : Fr w.heap.size (some b11_22) := Fr.le (Fr.blk hb_) e0.size
          have out_b11_22 : Out K3_ (some b11_22) := hq.out (Fr.blk hb_)
          have e0 := e0.trans x1
          have hq := hq.ext x1
          have o43_3 := o43_3.ext x1
          have o82_20 := o82_20.ext x1
          clear x1 hb_
          refine J.eff0 (Ye.storeA (ys := itmS.c itmD) ti36 c11_22 0 rfl rfl rfl rfl (by rfl) (itm_one1 (x := itmD) rfl _ (List.mem_singleton.2 rfl))) ?_
          rintro _ w24 ⟨cX, hu⟩
          simp only [List.set_cons_zero, List.set_cons_succ] at cX
          have hg := hu.gb
          have hq := hq.g1 hg out_b11_22
          have o43_3 := Ow.gbk o43_3 hg ap_s43_3_b11_22
          have o82_20 := Ow.gbk o82_20 hg ap_s82_20_b11_22
          have e0 := Ext.gbk e0 fr_b11_22 hg
          clear hg
          replace c11_22 := cX
          clear cX hu
          refine J.op (Yd.assign rfl) rfl ?_
          refine J.nil ?_
          refine J.n_then ?_
          refine J.seq ?_
          refine J.region ?_
          refine J.op (Yd.move rfl) rfl ?_
          refine J.op (Yd.neq rfl rfl) rfl ?_
          refine J.nil ?_
          refine J.n_then ?_
          refine J.know (t := 95) (v' := .bool false) rfl (ff (by decide)) ?_
          refine J.cond_false rfl ?_
          refine J.skip ?_
          refine J.n_then ?_
          refine J.seq ?_
          refine J.region ?_
          refine J.op (Yd.move rfl) rfl ?_
          refine J.op (Yd.move rfl) rfl ?_
          refine J.eff (Ye.call cl13 rfl (ListQ_ok hq (fun x hx => Nat.le_trans ((hj [98]).bd x hx).2 (by decide)) (Nat.le_trans (hj [98]).len (by decide)))) rfl ?_
          rintro v98 w25 ⟨es98, ov98, hhd98, x1⟩
          have ap_s43_3_v98 : Ap s43_3.ownBlock v98.ownBlock := Ap.mk (Ow.live o43_3) (Es.fr ov98)
          have ap_s82_20_v98 : Ap s82_20.ownBlock v98.ownBlock := Ap.mk (Ow.live o82_20) (Es.fr ov98)
          have ap_b11_22_v98 : Ap (some b11_22) v98.ownBlock := Ap.mk (Cel.live c11_22) (Es.fr ov98)
          have fr_v98 : Fr w.heap.size v98.ownBlock := Fr.le (Es.fr ov98) e0.size
          have out_v98 : Out K3_ v98.ownBlock := hq.out (Es.fr ov98)
          replace ov98 := Es.base ov98 e0.size
          have e0 := e0.trans x1
          have hq := hq.ext x1
          have o43_3 := o43_3.ext x1
          have o82_20 := o82_20.ext x1
          have c11_22 := c11_22.ext x1
          clear x1
          have hln98 := congrArg List.length hhd98
          rw [List.length_map, List.length_map] at hln98
          have hlq98 := (hj [98]).len
          have hdi98 : ∀ j, j < (qget q2 [98]).length → (es98.getD j itmD).1 = ((qget q2 [98]).getD j itD0).1 := fun j hj => congrArg (fun z => z.1) (hdr_get hhd98 hj)
          refine J.op (Yd.move rfl) rfl ?_
          refine J.op (Yd.move rfl) rfl ?_
          refine J.eff (Ye.call cl13 rfl (ListQ_ok hq (fun x hx => Nat.le_trans ((hj [98]).bd x hx).2 (by decide)) (Nat.le_trans (hj [98]).len (by decide)))) rfl ?_
          rintro v101 w26 ⟨es101, ov101, hhd101, x1⟩
          have ap_s43_3_v101 : Ap s43_3.ownBlock v101.ownBlock := Ap.mk (Ow.live o43_3) (Es.fr ov101)
          have ap_s82_20_v101 : Ap s82_20.ownBlock v101.ownBlock := Ap.mk (Ow.live o82_20) (Es.fr ov101)
          have ap_b11_22_v101 : Ap (some b11_22) v101.ownBlock := Ap.mk (Cel.live c11_22) (Es.fr ov101)
          have ap_v98_v101 : Ap v98.ownBlock v101.ownBlock := Ap.mk (Es.live ov98) (Es.fr ov101)
          have fr_v101 : Fr w.heap.size v101.ownBlock := Fr.le (Es.fr ov101) e0.size
          have out_v101 : Out K3_ v101.ownBlock := hq.out (Es.fr ov101)
          replace ov101 := Es.base ov101 e0.size
          have e0 := e0.trans x1
          have hq := hq.ext x1
          have o43_3 := o43_3.ext x1
          have o82_20 := o82_20.ext x1
          have c11_22 := c11_22.ext x1
          have ov98 := ov98.ext x1
          clear x1
          have hln101 := congrArg List.length hhd101
          rw [List.length_map, List.length_map] at hln101
          have hlq101 := (hj [98]).len
          have hdi101 : ∀ j, j < (qget q2 [98]).length → (es101.getD j itmD).1 = ((qget q2 [98]).getD j itD0).1 := fun j hj => congrArg (fun z => z.1) (hdr_get hhd101 hj)
          refine J.op (Yd.assign rfl) rfl ?_
          refine J.op (Yd.assign rfl) rfl ?_
          refine J.nil ?_
          refine J.n_then ?_
          refine J.seq ?_
          refine J.seq ?_
          refine J.region ?_
          refine J.op (Yd.move rfl) rfl ?_
          refine J.op (Yd.lenE (K := itmS) Try.underlying31 rfl (Es.rd ov98)) rfl ?_
          refine J.op (Yd.move rfl) rfl ?_
          refine J.op (Yd.lenE (K := itmS) Try.underlying31 rfl (Es.rd ov101)) rfl ?_
          refine J.op (Yd.neq rfl rfl) rfl ?_
          refine J.op (Yd.move rfl) rfl ?_
          refine J.know (t := 107) (v' := .bool false) rfl (ff (by rw [hln98, hln101]; exact fun h => h rfl)) ?_
          refine J.op_g rfl rfl rfl (Yd.move rfl) rfl ?_
          refine J.op_g rfl rfl rfl (Yd.lenE (K := itmS) Try.underlying31 rfl (Es.rd ov98)) rfl ?_
          refine J.op_g rfl rfl rfl (Yd.move rfl) rfl ?_
          refine J.op_g rfl rfl rfl (Yd.move rfl) rfl ?_
          refine J.eff_g rfl rfl rfl (Ye.call cl15 rfl (LenQ_ok hq)) rfl ?_
          rintro _ w27 ⟨rfl, x1⟩
          have e0 := e0.trans x1
          have hq := hq.ext x1
          have o43_3 := o43_3.ext x1
          have o82_20 := o82_20.ext x1
          have c11_22 := c11_22.ext x1
          have ov98 := ov98.ext x1
          have ov101 := ov101.ext x1
          clear x1
          refine J.op_g rfl rfl rfl (Yd.neq rfl rfl) rfl ?_
          refine J.op (Yd.pick_f rfl rfl) rfl ?_
          refine J.nil ?_
          refine J.n_then ?_
          refine J.know (t := 114) (v' := .bool false) rfl (ff (by rw [hln98]; exact fun h => h rfl)) ?_
          refine J.cond_false rfl ?_
          refine J.skip ?_
          refine J.n_then ?_
          refine J.seq ?_
          refine J.region ?_
          refine J.op (Yd.assign rfl) rfl ?_
          refine J.nil ?_
          refine J.n_then ?_
          refine J.block ?_
          refine J.loop (ι := Nat) (fun i => [(0, s), (1, s2), (7, I (n0 : Int)), (6, I la1), (15, I (i : Int)), (5, .pointer (some ⟨b, 0, none⟩)), (13, v98)]) (fun i w' => 1 ≤ i ∧ Rq 65 36 w.heap.size K3_ w' b (10, 0, la1) q2 ∧ Es itmS w.heap.size 36 w' v98 es98 ∧ Ext w w') (fun i => es98.length - i) (1) ⟨rfl, rfl, rfl, (someI (by omega)), rfl, rfl, rfl, trivial⟩ (⟨Nat.le_refl _, hq, ov98, e0⟩) ?_
          rintro j w28 ⟨hk2, hq, ho13, e0⟩
          refine J.seq ?_
          refine J.seq ?_
          refine J.region ?_
          refine J.op (Yd.move rfl) rfl ?_
          refine J.op (Yd.move rfl) rfl ?_
          refine J.op (Yd.lenE (K := itmS) Try.underlying31 rfl (Es.rd ho13)) rfl ?_
          refine J.op (Yd.lss rfl rfl) rfl ?_
          refine J.nil ?_
          refine J.n_then ?_
          refine J.cond_dec rfl (fun hc9 => ?_) (fun hc9 => ?_)
          · skip
            refine J.skip ?_
            refine J.n_then ?_
            refine J.seq ?_
            refine J.block ?_
            refine J.seq ?_
            refine J.regionO [(0, true), (1, true), (5, true), (6, true), (7, true)] [(2, 1), (8, 1), (3, 1), (4, 1), (9, 1), (10, 1)] [(11, true)] mix (by kernel_rfl) ?_
            refine J.s_op rfl (fun _ => Yd.move rfl) rfl ?_
            refine J.s_op rfl (fun _ => Yd.move rfl) rfl ?_
            refine J.s_op rfl (fun _ => Yd.move rfl) rfl ?_
            refine J.s_op rfl (fun _ => Yd.move rfl) rfl ?_
            refine J.s_op rfl (fun _ => Yd.sub rfl rfl (by first | omega | exact idx_u8' _ | (simp only [Int.toNat_natCast]; omega) | (simp only [List.length_map, List.length_drop, List.length_take, List.length_append, List.length_replicate]; omega) | (simp <;> omega))) rfl ?_
            refine J.s_nil ?_
            refine J.o_op rfl (Yd.idxE (K := itmS) Try.underlying31 ti36 rfl rfl (Es.rd ho13) (by first | omega | exact idx_u8' _ | (simp only [Int.toNat_natCast]; omega) | (simp only [List.length_map, List.length_drop, List.length_take, List.length_append, List.length_replicate]; omega) | (simp <;> omega))) rfl ?_
            refine J.o_op rfl (Yd.idxE (K := itmS) Try.underlying31 ti36 rfl rfl (Es.rd ho13) (by first | omega | exact idx_u8' _ | (simp only [Int.toNat_natCast]; omega) | (simp only [List.length_map, List.length_drop, List.length_take, List.length_append, List.length_replicate]; omega) | (simp <;> omega))) rfl ?_
            refine J.o_op rfl (Yd.fieldE (K := itmS) (Es.rd ho13) (by omega) Try.underlying36 rfl ti3 rfl rfl) rfl ?_
            refine J.o_op rfl (Yd.loadFd (K := itmS) itmD pl3 rfl (Es.rd ho13) (by first | omega | exact idx_u8' _ | (simp only [Int.toNat_natCast]; omega) | (simp only [List.length_map, List.length_drop, List.length_take, List.length_append, List.length_replicate]; omega) | (simp <;> omega)) rfl) rfl ?_
            refine J.o_op rfl (Yd.fieldE (K := itmS) (Es.rd ho13) (by omega) Try.underlying36 rfl ti3 rfl rfl) rfl ?_
            refine J.o_op rfl (Yd.loadFd (K := itmS) itmD pl3 rfl (Es.rd ho13) (by first | omega | exact idx_u8' _ | (simp only [Int.toNat_natCast]; omega) | (simp only [List.length_map, List.length_drop, List.length_take, List.length_append, List.length_replicate]; omega) | (simp <;> omega)) rfl) rfl ?_
            refine J.o_nil ?_
            refine J.s_op rfl (fun _ => Yd.leq rfl rfl) rfl ?_
            refine J.s_nil ?_
            refine J.n_np ?_
            refine J.n_then ?_
            refine J.know (t := 132) (v' := .bool false) rfl (ff (by first | omega | (have h7 := hdi98 j (by omega); have h8 := hdi98 (j - 1) (by omega); have h9 := (hj [98]).lt (show j < (qget q2 [98]).length by omega) (by omega); rw [show ((j : Int) - 1).toNat = j - 1 by omega, Int.toNat_natCast]; omega))) ?_
            refine J.cond_false rfl ?_
            refine J.skip ?_
            refine J.n_block ?_
            refine J.n_then ?_
            refine J.region ?_
            refine J.op (Yd.move rfl) rfl ?_
            refine J.op (Yd.add rfl rfl (by first | omega | exact idx_u8' _ | (simp only [Int.toNat_natCast]; omega) | (simp only [List.length_map, List.length_drop, List.length_take, List.length_append, List.length_replicate]; omega) | (simp <;> omega))) rfl ?_
            refine J.op (Yd.assign rfl) rfl ?_
            refine J.nil ?_
            refine J.n_then ?_
            exact J.round (j + 1) ⟨rfl, rfl, rfl, rfl, rfl, rfl, rfl, trivial⟩ (⟨by omega, hq, ho13, e0⟩) (by omega)
          · skip
            refine J.exit ?_
            refine J.x_then ?_
            refine J.x_then ?_
            refine J.x_block ?_
            refine J.n_block ?_
            refine J.n_then ?_
            refine J.region ?_
            refine J.op (Yd.move rfl) rfl ?_
            refine J.op (Yd.add rfl rfl (by first | omega | exact idx_u8' _ | (simp only [Int.toNat_natCast]; omega) | (simp only [List.length_map, List.length_drop, List.length_take, List.length_append, List.length_replicate]; omega) | (simp <;> omega))) rfl ?_
            refine J.op (Yd.assign rfl) rfl ?_
            refine J.nil ?_
            refine J.n_then ?_
            exact J.round ((n0 + 1, la1)) ⟨rfl, rfl, rfl, (someI (by omega)), rfl, trivial⟩ (⟨by show n0 + 1 ≤ tos.length; omega, ⟨K3_, q2, hq, hj, (by show 0 ≤ la1 ∧ la1 ≤ ((n0 + 1 : Nat) : Int); omega)⟩, e0⟩) (by show tos.length - (n0 + 1) < tos.length - n0; omega)
        · skip
          obtain ⟨q2, hq2⟩ : ∃ q2, q2 = q1 := ⟨_, rfl⟩
          rw [← hq2] at hq hj
          refine J.skip ?_
          refine J.n_then ?_
          refine J.seq ?_
          refine J.region ?_
          refine J.op (Yd.move rfl) rfl ?_
          refine J.op (Yd.move rfl) rfl ?_
          refine J.eff (Ye.call cl13 rfl (ListQ_ok hq (fun x hx => Nat.le_trans ((hj [98]).bd x hx).2 (by decide)) (Nat.le_trans (hj [98]).len (by decide)))) rfl ?_
          rintro v98 w29 ⟨es98, ov98, hhd98, x1⟩
          have ap_s43_3_v98 : Ap s43_3.ownBlock v98.ownBlock := Ap.mk (Ow.live o43_3) (Es.fr ov98)
          have fr_v98 : Fr w.heap.size v98.ownBlock := Fr.le (Es.fr ov98) e0.size
          have out_v98 : Out K0 v98.ownBlock := hq.out (Es.fr ov98)
          replace ov98 := Es.base ov98 e0.size
          have e0 := e0.trans x1
          have hq := hq.ext x1
          have o43_3 := o43_3.ext x1
          clear x1
          have hln98 := congrArg List.length hhd98
          rw [List.length_map, List.length_map] at hln98
          have hlq98 := (hj [98]).len
          have hdi98 : ∀ j, j < (qget q2 [98]).length → (es98.getD j itmD).1 = ((qget q2 [98]).getD j itD0).1 := fun j hj => congrArg (fun z => z.1) (hdr_get hhd98 hj)
          refine J.op (Yd.move rfl) rfl ?_
          refine J.op (Yd.move rfl) rfl ?_
          refine J.eff (Ye.call cl13 rfl (ListQ_ok hq (fun x hx => Nat.le_trans ((hj [98]).bd x hx).2 (by decide)) (Nat.le_trans (hj [98]).len (by decide)))) rfl ?_
          rintro v101 w30 ⟨es101, ov101, hhd101, x1⟩
          have ap_s43_3_v101 : Ap s43_3.ownBlock v101.ownBlock := Ap.mk (Ow.live o43_3) (Es.fr ov101)
          have ap_v98_v101 : Ap v98.ownBlock v101.ownBlock := Ap.mk (Es.live ov98) (Es.fr ov101)
          have fr_v101 : Fr w.heap.size v101.ownBlock := Fr.le (Es.fr ov101) e0.size
          have out_v101 : Out K0 v101.ownBlock := hq.out (Es.fr ov101)
          replace ov101 := Es.base ov101 e0.size
          have e0 := e0.trans x1
          have hq := hq.ext x1
          have o43_3 := o43_3.ext x1
          have ov98 := ov98.ext x1
          clear x1
          have hln101 := congrArg List.length hhd101
          rw [List.length_map, List.length_map] at hln101
          have hlq101 := (hj [98]).len
          have hdi101 : ∀ j, j < (qget q2 [98]).length → (es101.getD j itmD).1 = ((qget q2 [98]).getD j itD0).1 := fun j hj => congrArg (fun z => z.1) (hdr_get hhd101 hj)
          refine J.op (Yd.assign rfl) rfl ?_
          refine J.op (Yd.assign rfl) rfl ?_
          refine J.nil ?_
          refine J.n_then ?_
          refine J.seq ?_
          refine J.seq ?_
          refine J.region ?_
          refine J.op (Yd.move rfl) rfl ?_
          refine J.op (Yd.lenE (K := itmS) Try.underlying31 rfl (Es.rd ov98)) rfl ?_
          refine J.op (Yd.move rfl) rfl ?_
          refine J.op (Yd.lenE (K := itmS) Try.underlying31 rfl (Es.rd ov101)) rfl ?_
          refine J.op (Yd.neq rfl rfl) rfl ?_
          refine J.op (Yd.move rfl) rfl ?_
          refine J.know (t := 107) (v' := .bool false) rfl (ff (by rw [hln98, hln101]; exact fun h => h rfl)) ?_
          refine J.op_g rfl rfl rfl (Yd.move rfl) rfl ?_
          refine J.op_g rfl rfl rfl (Yd.lenE (K := itmS) Try.underlying31 rfl (Es.rd ov98)) rfl ?_
          refine J.op_g rfl rfl rfl (Yd.move rfl) rfl ?_
          refine J.op_g rfl rfl rfl (Yd.move rfl) rfl ?_
          refine J.eff_g rfl rfl rfl (Ye.call cl15 rfl (LenQ_ok hq)) rfl ?_
          rintro _ w31 ⟨rfl, x1⟩
          have e0 := e0.trans x1
          have hq := hq.ext x1
          have o43_3 := o43_3.ext x1
          have ov98 := ov98.ext x1
          have ov101 := ov101.ext x1
          clear x1
          refine J.op_g rfl rfl rfl (Yd.neq rfl rfl) rfl ?_
          refine J.op (Yd.pick_f rfl rfl) rfl ?_
          refine J.nil ?_
          refine J.n_then ?_
          refine J.know (t := 114) (v' := .bool false) rfl (ff (by rw [hln98]; exact fun h => h rfl)) ?_
          refine J.cond_false rfl ?_
          refine J.skip ?_
          refine J.n_then ?_
          refine J.seq ?_
          refine J.region ?_
          refine J.op (Yd.assign rfl) rfl ?_
          refine J.nil ?_
          refine J.n_then ?_
          refine J.block ?_
          refine J.loop (ι := Nat) (fun i => [(0, s), (1, s2), (7, I (n0 : Int)), (6, I la1), (15, I (i : Int)), (5, .pointer (some ⟨b, 0, none⟩)), (13, v98)]) (fun i w' => 1 ≤ i ∧ Rq 65 36 w.heap.size K0 w' b (10, 0, la1) q2 ∧ Es itmS w.heap.size 36 w' v98 es98 ∧ Ext w w') (fun i => es98.length - i) (1) ⟨rfl, rfl, rfl, (someI (by omega)), rfl, rfl, rfl, trivial⟩ (⟨Nat.le_refl _, hq, ov98, e0⟩) ?_
          rintro j w32 ⟨hk2, hq, ho13, e0⟩
          refine J.seq ?_
          refine J.seq ?_
          refine J.region ?_
          refine J.op (Yd.move rfl) rfl ?_
          refine J.op (Yd.move rfl) rfl ?_
          refine J.op (Yd.lenE (K := itmS) Try.underlying31 rfl (Es.rd ho13)) rfl ?_
          refine J.op (Yd.lss rfl rfl) rfl ?_
          refine J.nil ?_
          refine J.n_then ?_
          refine J.cond_dec rfl (fun hc9 => ?_) (fun hc9 => ?_)
          · skip
            refine J.skip ?_
            refine J.n_then ?_
            refine J.seq ?_
            refine J.block ?_
            refine J.seq ?_
            refine J.regionO [(0, true), (1, true), (5, true), (6, true), (7, true)] [(2, 1), (8, 1), (3, 1), (4, 1), (9, 1), (10, 1)] [(11, true)] mix (by kernel_rfl) ?_
            refine J.s_op rfl (fun _ => Yd.move rfl) rfl ?_
            refine J.s_op rfl (fun _ => Yd.move rfl) rfl ?_
            refine J.s_op rfl (fun _ => Yd.move rfl) rfl ?_
            refine J.s_op rfl (fun _ => Yd.move rfl) rfl ?_
            refine J.s_op rfl (fun _ => Yd.sub rfl rfl (by first | omega | exact idx_u8' _ | (simp only [Int.toNat_natCast]; omega) | (simp only [List.length_map, List.length_drop, List.length_take, List.length_append, List.length_replicate]; omega) | (simp <;> omega))) rfl ?_
            refine J.s_nil ?_
            refine J.o_op rfl (Yd.idxE (K := itmS) Try.underlying31 ti36 rfl rfl (Es.rd ho13) (by first | omega | exact idx_u8' _ | (simp only [Int.toNat_natCast]; omega) | (simp only [List.length_map, List.length_drop, List.length_take, List.length_append, List.length_replicate]; omega) | (simp <;> omega))) rfl ?_
            refine J.o_op rfl (Yd.idxE (K := itmS) Try.underlying31 ti36 rfl rfl (Es.rd ho13) (by first | omega | exact idx_u8' _ | (simp only [Int.toNat_natCast]; omega) | (simp only [List.length_map, List.length_drop, List.length_take, List.length_append, List.length_replicate]; omega) | (simp <;> omega))) rfl ?_
            refine J.o_op rfl (Yd.fieldE (K := itmS) (Es.rd ho13) (by omega) Try.underlying36 rfl ti3 rfl rfl) rfl ?_
            refine J.o_op rfl (Yd.loadFd (K := itmS) itmD pl3 rfl (Es.rd ho13) (by first | omega | exact idx_u8' _ | (simp only [Int.toNat_natCast]; omega) | (simp only [List.length_map, List.length_drop, List.length_take, List.length_append, List.length_replicate]; omega) | (simp <;> omega)) rfl) rfl ?_
            refine J.o_op rfl (Yd.fieldE (K := itmS) (Es.rd ho13) (by omega) Try.underlying36 rfl ti3 rfl rfl) rfl ?_
            refine J.o_op rfl (Yd.loadFd (K := itmS) itmD pl3 rfl (Es.rd ho13) (by first | omega | exact idx_u8' _ | (simp only [Int.toNat_natCast]; omega) | (simp only [List.length_map, List.length_drop, List.length_take, List.length_append, List.length_replicate]; omega) | (simp <;> omega)) rfl) rfl ?_
            refine J.o_nil ?_
            refine J.s_op rfl (fun _ => Yd.leq rfl rfl) rfl ?_
            refine J.s_nil ?_
            refine J.n_np ?_
            refine J.n_then ?_
            refine J.know (t := 132) (v' := .bool false) rfl (ff (by first | omega | (have h7 := hdi98 j (by omega); have h8 := hdi98 (j - 1) (by omega); have h9 := (hj [98]).lt (show j < (qget q2 [98]).length by omega) (by omega); rw [show ((j : Int) - 1).toNat = j - 1 by omega, Int.toNat_natCast]; omega))) ?_
            refine J.cond_false rfl ?_
            refine J.skip ?_
            refine J.n_block ?_
            refine J.n_then ?_
            refine J.region ?_
            refine J.op (Yd.move rfl) rfl ?_
            refine J.op (Yd.add rfl rfl (by first | omega | exact idx_u8' _ | (simp only [Int.toNat_natCast]; omega) | (simp only [List.length_map, List.length_drop, List.length_take, List.length_append, List.length_replicate]; omega) | (simp <;> omega))) rfl ?_
            refine J.op (Yd.assign rfl) rfl ?_
            refine J.nil ?_
            refine J.n_then ?_
            exact J.round (j + 1) ⟨rfl, rfl, rfl, rfl, rfl, rfl, rfl, trivial⟩ (⟨by omega, hq, ho13, e0⟩) (by omega)
          · skip
            refine J.exit ?_
            refine J.x_then ?_
            refine J.x_then ?_
            refine J.x_block ?_
            refine J.n_block ?_
            refine J.n_then ?_
            refine J.region ?_
            refine J.op (Yd.move rfl) rfl ?_
            refine J.op (Yd.add rfl rfl (by first | omega | exact idx_u8' _ | (simp only [Int.toNat_natCast]; omega) | (simp only [List.length_map, List.length_drop, List.length_take, List.length_append, List.length_replicate]; omega) | (simp <;> omega))) rfl ?_
            refine J.op (Yd.assign rfl) rfl ?_
            refine J.nil ?_
            refine J.n_then ?_
            exact J.round ((n0 + 1, la1)) ⟨rfl, rfl, rfl, (someI (by omega)), rfl, trivial⟩ (⟨by show n0 + 1 ≤ tos.length; omega, ⟨K0, q2, hq, hj, (by show 0 ≤ la1 ∧ la1 ≤ ((n0 + 1 : Nat) : Int); omega)⟩, e0⟩) (by show tos.length - (n0 + 1) < tos.length - n0; omega)
    · skip
      refine J.skip ?_
      refine J.n_then ?_
      refine J.seq ?_
      refine J.region ?_
      refine J.op (Yd.move rfl) rfl ?_
      refine J.op (Yd.move rfl) rfl ?_
      refine J.op (Yd.move rfl) rfl ?_
      refine J.op (Yd.cv_i_8 Try.underlying3 Try.underlying5 rfl (by first | omega | exact idx_u8' _ | (simp only [Int.toNat_natCast]; omega) | (simp only [List.length_map, List.length_drop, List.length_take, List.length_append, List.length_replicate]; omega) | (simp <;> omega))) rfl ?_
      refine J.eff (Ye.lit1 (base := w2.heap.size) (f := (fun x : UInt8 => B x)) Try.underlying34 ti5 rfl rfl (fun _ => rfl) (Nat.le_refl _)) rfl ?_
      rintro s43_33 w33 ⟨o43_33, x1⟩
      have fr_s43_33 : Fr w.heap.size s43_33.ownBlock := Fr.le (Ow.fr o43_33) e0.size
      have out_s43_33 : Out K0 s43_33.ownBlock := hq.out (Ow.fr o43_33)
      replace o43_33 := Ow.base o43_33 e0.size
      have e0 := e0.trans x1
      have hq := hq.ext x1
      clear x1
      by_cases hlt : (qget q0 [97]).length < 30
      · skip
        refine J.eff (Ye.call cl10 rfl (PutQ_ok hq ⟨by decide, by decide⟩ ⟨by decide, by decide⟩ (Ow.rd o43_33) out_s43_33 (by simp only [List.length_singleton]; omega) hlt (by omega))) rfl ?_
        rintro _ w34 ⟨rfl, K4_, hq2, hkk, hT2⟩
        have out_s43_33_ : Out K4_ s43_33.ownBlock := Out.kk out_s43_33 (Ow.live o43_33) hkk
        have o43_33 := Ow.thK o43_33 hT2 hq.bb out_s43_33
        have e0 := Ext.thK e0 hT2 hq.bb (fun k hk => (hq.kb k hk).1)
        have out_s43_33 := out_s43_33_
        clear out_s43_33_
        replace hq := hq2
        clear hq2 hkk hT2
        obtain ⟨la1, hla1⟩ : ∃ la1, la1 = last + 1 := ⟨_, rfl⟩
        have hj1 : ∀ (d : List UInt8), d.length ≤ 6000 → ∃ q1, q1 = qset [97] (qget q0 [97] ++ [((last + 1, [99], 0, d) : It)]) q0 ∧ ∀ k, JQ (qget q1 k) la1 := fun d hd => ⟨_, rfl, fun k => by rw [qget_set, hla1]; split; exact (hj [97]).put hlt hd; exact (hj k).mono (by omega)⟩
        obtain ⟨q1, hq1, hj⟩ := hj1 _ (show ([_] : List UInt8).length ≤ 6000 from (by decide : (1 : Nat) ≤ 6000))
        rw [← hq1] at hq
        rw [← hla1] at hq
        refine J.op (Yd.move rfl) rfl ?_
        refine J.op (Yd.extract rfl rfl) rfl ?_
        refine J.op (Yd.extract rfl rfl) rfl ?_
        refine J.op (Yd.assign rfl) rfl ?_
        refine J.op (Yd.assign rfl) rfl ?_
        refine J.nil ?_
        refine J.n_then ?_
        refine J.seq ?_
        refine J.seq ?_
        refine J.region ?_
        refine J.op (Yd.move rfl) rfl ?_
        refine J.op (Yd.eql rfl rfl) rfl ?_
        refine J.op (Yd.move rfl) rfl ?_
        refine J.know (t := 49) (v' := .bool true) rfl (tt (by rfl)) ?_
        refine J.op_g rfl rfl rfl (Yd.move rfl) rfl ?_
        refine J.op_g rfl rfl rfl (Yd.move rfl) rfl ?_
        refine J.op_g rfl rfl rfl (Yd.add rfl rfl (by first | omega | exact idx_u8' _ | (simp only [Int.toNat_natCast]; omega) | (simp only [List.length_map, List.length_drop, List.length_take, List.length_append, List.length_replicate]; omega) | (simp <;> omega))) rfl ?_
        refine J.op_g rfl rfl rfl (Yd.neq rfl rfl) rfl ?_
        refine J.op (Yd.pick_t rfl rfl) rfl ?_
        refine J.op (Yd.move rfl) rfl ?_
        refine J.know (t := 55) (v' := .bool false) rfl (ff (by exact fun h => h rfl)) ?_
        refine J.op_g rfl rfl rfl (Yd.move rfl) rfl ?_
        refine J.op_g rfl rfl rfl (Yd.neq rfl rfl) rfl ?_
        refine J.op_g rfl rfl rfl (Yd.move rfl) rfl ?_
        refine J.know (t := 58) (v' := .bool false) rfl (ff (by decide)) ?_
        refine J.not_g rfl rfl rfl rfl rfl ?_
        refine J.not_g rfl rfl rfl rfl rfl ?_
        refine J.not_g rfl rfl rfl rfl rfl ?_
        refine J.not_u rfl rfl rfl rfl ?_
        refine J.not_u rfl rfl rfl rfl ?_
        refine J.not_u rfl rfl rfl rfl ?_
        refine J.not_u rfl rfl rfl rfl ?_
        refine J.not_g rfl rfl rfl rfl rfl ?_
        refine J.op_g rfl rfl rfl (Yd.pick_f rfl rfl) rfl ?_
        refine J.op (Yd.pick_f rfl rfl) rfl ?_
        refine J.nil ?_
        refine J.n_then ?_
        refine J.cond_false rfl ?_
        refine J.skip ?_
        refine J.n_then ?_
        refine J.seq ?_
        refine J.seq ?_
        refine J.region ?_
        refine J.op (Yd.move rfl) rfl ?_
        refine J.op (Yd.eql rfl rfl) rfl ?_
        refine J.nil ?_
        refine J.n_then ?_
        refine J.know (t := 70) (v' := .bool true) rfl (tt (by rfl)) ?_
        refine J.cond_true rfl ?_
        refine J.region ?_
        refine J.op (Yd.move rfl) rfl ?_
        refine J.op (Yd.assign rfl) rfl ?_
        refine J.nil ?_
        refine J.n_then ?_
        refine J.seq ?_
        refine J.seq ?_
        refine J.region ?_
        refine J.op (Yd.move rfl) rfl ?_
        refine J.op (Yd.move rfl) rfl ?_
        refine J.op (Yd.len_m Try.underlying22 rfl (Rd.ext hgo e0)) rfl ?_
        refine J.op (Yd.lss rfl rfl) rfl ?_
        refine J.nil ?_
        refine J.n_then ?_
        refine J.cond_dec rfl (fun hc6 => ?_) (fun hc6 => ?_)
        · skip
          refine J.seq ?_
          refine J.region ?_
          refine J.op (Yd.move rfl) rfl ?_
          refine J.op (Yd.move rfl) rfl ?_
          refine J.op (Yd.move rfl) rfl ?_
          refine J.op (Yd.move rfl) rfl ?_
          refine J.op (Yd.idx_m Try.underlying22 ti3 rfl rfl (Rd.ext hgo e0) (by first | omega | exact idx_u8' _ | (simp only [Int.toNat_natCast]; omega) | (simp only [List.length_map, List.length_drop, List.length_take, List.length_append, List.length_replicate]; omega) | (simp <;> omega))) rfl ?_
          refine J.op (Yd.load pl3 rfl (Rd.cellI (Rd.ext hgo e0) (by first | omega | exact idx_u8' _ | (simp only [Int.toNat_natCast]; omega) | (simp only [List.length_map, List.length_drop, List.length_take, List.length_append, List.length_replicate]; omega) | (simp <;> omega)))) rfl ?_
          refine J.eff (Ye.lit1 (base := w34.heap.size) (f := (fun x : Int => I x)) Try.underlying22 ti3 rfl rfl (fun _ => rfl) (Nat.le_refl _)) rfl ?_
          rintro s82_35 w35 ⟨o82_35, x1⟩
          have ap_s43_33_s82_35 : Ap s43_33.ownBlock s82_35.ownBlock := Ap.mk (Ow.live o43_33) (Ow.fr o82_35)
          have fr_s82_35 : Fr w.heap.size s82_35.ownBlock := Fr.le (Ow.fr o82_35) e0.size
          have out_s82_35 : Out K4_ s82_35.ownBlock := hq.out (Ow.fr o82_35)
          replace o82_35 := Ow.base o82_35 e0.size
          have e0 := e0.trans x1
          have hq := hq.ext x1
          have o43_33 := o43_33.ext x1
          clear x1
          refine J.eff (Ye.call cl16 rfl (AckQ_ok (ids := [(gone.getD (n0 : Int).toNat 0)]) hq (Ow.rd o82_35) (fun _ => out_s82_35))) rfl ?_
          rintro _ w36 ⟨rfl, q2, hq3, K5_, hq2, hkk, hT2⟩
          have out_s43_33_ : Out K5_ s43_33.ownBlock := Out.kk out_s43_33 (Ow.live o43_33) hkk
          have out_s82_35_ : Out K5_ s82_35.ownBlock := Out.kk out_s82_35 (Ow.live o82_35) hkk
          have o43_33 := Ow.thK o43_33 hT2 hq.bb out_s43_33
          have o82_35 := Ow.thK o82_35 hT2 hq.bb out_s82_35
          have e0 := Ext.thK e0 hT2 hq.bb (fun k hk => (hq.kb k hk).1)
          have out_s43_33 := out_s43_33_
          clear out_s43_33_
          have out_s82_35 := out_s82_35_
          clear out_s82_35_
          replace hq := hq2
          clear hq2 hkk hT2
          have hj2 : ∀ k, JQ (qget q2 k) la1 := fun k => by rw [hq3]; split; exact (hj [97]).rm _; exact hj k
          have hgn : idxI (eqP (gone.getD (n0 : Int).toNat 0)) (qget q2 [97]) = -1 := by rw [hq3, if_pos rfl]; exact (hj [97]).gone _
          clear hj
          have hj := hj2
          refine J.nil ?_
          refine J.n_then ?_
          refine J.seq ?_
          refine J.region ?_
          refine J.op (Yd.move rfl) rfl ?_
          refine J.op (Yd.move rfl) rfl ?_
          refine J.op (Yd.move rfl) rfl ?_
          refine J.op (Yd.move rfl) rfl ?_
          refine J.op (Yd.idx_m Try.underlying22 ti3 rfl rfl (Rd.ext hgo e0) (by first | omega | exact idx_u8' _ | (simp only [Int.toNat_natCast]; omega) | (simp only [List.length_map, List.length_drop, List.length_take, List.length_append, List.length_replicate]; omega) | (simp <;> omega))) rfl ?_
          refine J.op (Yd.load pl3 rfl (Rd.cellI (Rd.ext hgo e0) (by first | omega | exact idx_u8' _ | (simp only [Int.toNat_natCast]; omega) | (simp only [List.length_map, List.length_drop, List.length_take, List.length_append, List.length_replicate]; omega) | (simp <;> omega)))) rfl ?_
          refine J.eff (Ye.call cl23 rfl (GetQ_no hq hgn)) rfl ?_
          rintro _ w37 ⟨rfl, x1⟩
          have e0 := e0.trans x1
          have hq := hq.ext x1
          have o43_33 := o43_33.ext x1
          have o82_35 := o82_35.ext x1
          clear x1
          refine J.op (Yd.move rfl) rfl ?_
          refine J.op (Yd.extract rfl rfl) rfl ?_
          refine J.op (Yd.extract rfl rfl) rfl ?_
          refine J.eff (Ye.alloc ti36 (S := [(0, 4, [I 0, Str [], I 0, nilS])]) (by simp [SegAll, SegOK, Value.cells, nilS])) rfl ?_
          rintro _ w38 ⟨b11_37, rfl, hb_, c11_37, x1⟩
          have ap_s43_33_b11_37 : Ap s43_33.ownBlock (some b11_37) := Ap.mk (Ow.live o43_33) (Fr.blk hb_)
          have ap_s82_35_b11_37 : Ap s82_35.ownBlock (some b11_37) := Ap.mk (Ow.live o82_35) (Fr.blk hb_)
          have fr_b11_37 : Fr w.heap.size (some b11_37) := Fr.le (Fr.blk hb_) e0.size
          have out_b11_37 : Out K5_ (some b11_37) := hq.out (Fr.blk hb_)
          have e0 := e0.trans x1
          have hq := hq.ext x1
          have o43_33 := o43_33.ext x1
          have o82_35 := o82_35.ext x1
          clear x1 hb_
          refine J.eff0 (Ye.storeA (ys := itmS.c itmD) ti36 c11_37 0 rfl rfl rfl rfl (by rfl) (itm_one1 (x := itmD) rfl _ (List.mem_singleton.2 rfl))) ?_
          rintro _ w39 ⟨cX, hu⟩
          simp only [List.set_cons_zero, List.set_cons_succ] at cX
          have hg := hu.gb
          have hq := hq.g1 hg out_b11_37
          have o43_33 := Ow.gbk o43_33 hg ap_s43_33_b11_37
          have o82_35 := Ow.gbk o82_35 hg ap_s82_35_b11_37
          have e0 := Ext.gbk e0 fr_b11_37 hg
          clear hg
          replace c11_37 := cX
          clear cX hu
          refine J.op (Yd.assign rfl) rfl ?_
          refine J.nil ?_
          refine J.n_then ?_
          refine J.seq ?_
          refine J.region ?_
          refine J.op (Yd.move rfl) rfl ?_
          refine J.op (Yd.neq rfl rfl) rfl ?_
          refine J.nil ?_
          refine J.n_then ?_
          refine J.know (t := 95) (v' := .bool false) rfl (ff (by decide)) ?_
          refine J.cond_false rfl ?_
          refine J.skip ?_
          refine J.n_then ?_
          refine J.seq ?_
          refine J.region ?_
          refine J.op (Yd.move rfl) rfl ?_
          refine J.op (Yd.move rfl) rfl ?_
          refine J.eff (Ye.call cl13 rfl (ListQ_ok hq (fun x hx => Nat.le_trans ((hj [97]).bd x hx).2 (by decide)) (Nat.le_trans (hj [97]).len (by decide)))) rfl ?_
          rintro v98 w40 ⟨es98, ov98, hhd98, x1⟩
          have ap_s43_33_v98 : Ap s43_33.ownBlock v98.ownBlock := Ap.mk (Ow.live o43_33) (Es.fr ov98)
          have ap_s82_35_v98 : Ap s82_35.ownBlock v98.ownBlock := Ap.mk (Ow.live o82_35) (Es.fr ov98)
          have ap_b11_37_v98 : Ap (some b11_37) v98.ownBlock := Ap.mk (Cel.live c11_37) (Es.fr ov98)
          have fr_v98 : Fr w.heap.size v98.ownBlock := Fr.le (Es.fr ov98) e0.size
          have out_v98 : Out K5_ v98.ownBlock := hq.out (Es.fr ov98)
          replace ov98 := Es.base ov98 e0.size
          have e0 := e0.trans x1
          have hq := hq.ext x1
          have o43_33 := o43_33.ext x1
          have o82_35 := o82_35.ext x1
          have c11_37 := c11_37.ext x1
          clear x1
          have hln98 := congrArg List.length hhd98
          rw [List.length_map, List.length_map] at hln98
          have hlq98 := (hj [97]).len
          have hdi98 : ∀ j, j < (qget q2 [97]).length → (es98.getD j itmD).1 = ((qget q2 [97]).getD j itD0).1 := fun j hj => congrArg (fun z => z.1) (hdr_get hhd98 hj)
          refine J.op (Yd.move rfl) rfl ?_
          refine J.op (Yd.move rfl) rfl ?_
          refine J.eff (Ye.call cl13 rfl (ListQ_ok hq (fun x hx => Nat.le_trans ((hj [97]).bd x hx).2 (by decide)) (Nat.le_trans (hj [97]).len (by decide)))) rfl ?_
          rintro v101 w41 ⟨es101, ov101, hhd101, x1⟩
          have ap_s43_33_v101 : Ap s43_33.ownBlock v101.ownBlock := Ap.mk (Ow.live o43_33) (Es.fr ov101)
          have ap_s82_35_v101 : Ap s82_35.ownBlock v101.ownBlock := Ap.mk (Ow.live o82_35) (Es.fr ov101)
          have ap_b11_37_v101 : Ap (some b11_37) v101.ownBlock := Ap.mk (Cel.live c11_37) (Es.fr ov101)
          have ap_v98_v101 : Ap v98.ownBlock v101.ownBlock := Ap.mk (Es.live ov98) (Es.fr ov101)
          have fr_v101 : Fr w.heap.size v101.ownBlock := Fr.le (Es.fr ov101) e0.size
          have out_v101 : Out K5_ v101.ownBlock := hq.out (Es.fr ov101)
          replace ov101 := Es.base ov101 e0.size
          have e0 := e0.trans x1
          have hq := hq.ext x1
          have o43_33 := o43_33.ext x1
          have o82_35 := o82_35.ext x1
          have c11_37 := c11_37.ext x1
          have ov98 := ov98.ext x1
          clear x1
          have hln101 := congrArg List.length hhd101
          rw [List.length_map, List.length_map] at hln101
          have hlq101 := (hj [97]).len
          have hdi101 : ∀ j, j < (qget q2 [97]).length → (es101.getD j itmD).1 = ((qget q2 [97]).getD j itD0).1 := fun j hj => congrArg (fun z => z.1) (hdr_get hhd101 hj)
          refine J.op (Yd.assign rfl) rfl ?_
          refine J.op (Yd.assign rfl) rfl ?_
          refine J.nil ?_
          refine J.n_then ?_
          refine J.seq ?_
          refine J.seq ?_
          refine J.region ?_
          refine J.op (Yd.move rfl) rfl ?_
          refine J.op (Yd.lenE (K := itmS) Try.underlying31 rfl (Es.rd ov98)) rfl ?_
          refine J.op (Yd.move rfl) rfl ?_
          refine J.op (Yd.lenE (K := itmS) Try.underlying31 rfl (Es.rd ov101)) rfl ?_
          refine J.op (Yd.neq rfl rfl) rfl ?_
          refine J.op (Yd.move rfl) rfl ?_
          refine J.know (t := 107) (v' := .bool false) rfl (ff (by rw [hln98, hln101]; exact fun h => h rfl)) ?_
          refine J.op_g rfl rfl rfl (Yd.move rfl) rfl ?_
          refine J.op_g rfl rfl rfl (Yd.lenE (K := itmS) Try.underlying31 rfl (Es.rd ov98)) rfl ?_
          refine J.op_g rfl rfl rfl (Yd.move rfl) rfl ?_
          refine J.op_g rfl rfl rfl (Yd.move rfl) rfl ?_
          refine J.eff_g rfl rfl rfl (Ye.call cl15 rfl (LenQ_ok hq)) rfl ?_
          rintro _ w42 ⟨rfl, x1⟩
          have e0 := e0.trans x1
          have hq := hq.ext x1
          have o43_33 := o43_33.ext x1
          have o82_35 := o82_35.ext x1
          have c11_37 := c11_37.ext x1
          have ov98 := ov98.ext x1
          have ov101 := ov101.ext x1
          clear x1
          refine J.op_g rfl rfl rfl (Yd.neq rfl rfl) rfl ?_
          refine J.op (Yd.pick_f rfl rfl) rfl ?_
          refine J.nil ?_
          refine J.n_then ?_
          refine J.know (t := 114) (v' := .bool false) rfl (ff (by rw [hln98]; exact fun h => h rfl)) ?_
          refine J.cond_false rfl ?_
          refine J.skip ?_
          refine J.n_then ?_
          refine J.seq ?_
          refine J.region ?_
          refine J.op (Yd.assign rfl) rfl ?_
          refine J.nil ?_
          refine J.n_then ?_
          refine J.block ?_
          refine J.loop (ι := Nat) (fun i => [(0, s), (1, s2), (7, I (n0 : Int)), (6, I la1), (15, I (i : Int)), (5, .pointer (some ⟨b, 0, none⟩)), (13, v98)]) (fun i w' => 1 ≤ i ∧ Rq 65 36 w.heap.size K5_ w' b (10, 0, la1) q2 ∧ Es itmS w.heap.size 36 w' v98 es98 ∧ Ext w w') (fun i => es98.length - i) (1) ⟨rfl, rfl, rfl, (someI (by omega)), rfl, rfl, rfl, trivial⟩ (⟨Nat.le_refl _, hq, ov98, e0⟩) ?_
          rintro j w43 ⟨hk2, hq, ho13, e0⟩
          refine J.seq ?_
          refine J.seq ?_
          refine J.region ?_
          refine J.op (Yd.move rfl) rfl ?_
          refine J.op (Yd.move rfl) rfl ?_
          refine J.op (Yd.lenE (K := itmS) Try.underlying31 rfl (Es.rd ho13)) rfl ?_
          refine J.op (Yd.lss rfl rfl) rfl ?_
          refine J.nil ?_
          refine J.n_then ?_
          refine J.cond_dec rfl (fun hc9 => ?_) (fun hc9 => ?_)
          · skip
            refine J.skip ?_
            refine J.n_then ?_
            refine J.seq ?_
            refine J.block ?_
            refine J.seq ?_
            refine J.regionO [(0, true), (1, true), (5, true), (6, true), (7, true)] [(2, 1), (8, 1), (3, 1), (4, 1), (9, 1), (10, 1)] [(11, true)] mix (by kernel_rfl) ?_
            refine J.s_op rfl (fun _ => Yd.move rfl) rfl ?_
            refine J.s_op rfl (fun _ => Yd.move rfl) rfl ?_
            refine J.s_op rfl (fun _ => Yd.move rfl) rfl ?_
            refine J.s_op rfl (fun _ => Yd.move rfl) rfl ?_
            refine J.s_op rfl (fun _ => Yd.sub rfl rfl (by first | omega | exact idx_u8' _ | (simp only [Int.toNat_natCast]; omega) | (simp only [List.length_map, List.length_drop, List.length_take, List.length_append, List.length_replicate]; omega) | (simp <;> omega))) rfl ?_
            refine J.s_nil ?_
            refine J.o_op rfl (Yd.idxE (K := itmS) Try.underlying31 ti36 rfl rfl (Es.rd ho13) (by first | omega | exact idx_u8' _ | (simp only [Int.toNat_natCast]; omega) | (simp only [List.length_map, List.length_drop, List.length_take, List.length_append, List.length_replicate]; omega) | (simp <;> omega))) rfl ?_
            refine J.o_op rfl (Yd.idxE (K := itmS) Try.underlying31 ti36 rfl rfl (Es.rd ho13) (by first | omega | exact idx_u8' _ | (simp only [Int.toNat_natCast]; omega) | (simp only [List.length_map, List.length_drop, List.length_take, List.length_append, List.length_replicate]; omega) | (simp <;> omega))) rfl ?_
            refine J.o_op rfl (Yd.fieldE (K := itmS) (Es.rd ho13) (by omega) Try.underlying36 rfl ti3 rfl rfl) rfl ?_
            refine J.o_op rfl (Yd.loadFd (K := itmS) itmD pl3 rfl (Es.rd ho13) (by first | omega | exact idx_u8' _ | (simp only [Int.toNat_natCast]; omega) | (simp only [List.length_map, List.length_drop, List.length_take, List.length_append, List.length_replicate]; omega) | (simp <;> omega)) rfl) rfl ?_
            refine J.o_op rfl (Yd.fieldE (K := itmS) (Es.rd ho13) (by omega) Try.underlying36 rfl ti3 rfl rfl) rfl ?_
            refine J.o_op rfl (Yd.loadFd (K := itmS) itmD pl3 rfl (Es.rd ho13) (by first | omega | exact idx_u8' _ | (simp only [Int.toNat_natCast]; omega) | (simp only [List.length_map, List.length_drop, List.length_take, List.length_append, List.length_replicate]; omega) | (simp <;> omega)) rfl) rfl ?_
            refine J.o_nil ?_
            refine J.s_op rfl (fun _ => Yd.leq rfl rfl) rfl ?_
            refine J.s_nil ?_
            refine J.n_np ?_
            refine J.n_then ?_
            refine J.know (t := 132) (v' := .bool false) rfl (ff (by first | omega | (have h7 := hdi98 j (by omega); have h8 := hdi98 (j - 1) (by omega); have h9 := (hj [97]).lt (show j < (qget q2 [97]).length by omega) (by omega); rw [show ((j : Int) - 1).toNat = j - 1 by omega, Int.toNat_natCast]; omega))) ?_
            refine J.cond_false rfl ?_
            refine J.skip ?_
            refine J.n_block ?_
            refine J.n_then ?_
            refine J.region ?_
            refine J.op (Yd.move rfl) rfl ?_
            refine J.op (Yd.add rfl rfl (by first | omega | exact idx_u8' _ | (simp only [Int.toNat_natCast]; omega) | (simp only [List.length_map, List.length_drop, List.length_take, List.length_append, List.length_replicate]; omega) | (simp <;> omega))) rfl ?_
            refine J.op (Yd.assign rfl) rfl ?_
            refine J.nil ?_
            refine J.n_then ?_
            exact J.round (j + 1) ⟨rfl, rfl, rfl, rfl, rfl, rfl, rfl, trivial⟩ (⟨by omega, hq, ho13, e0⟩) (by omega)
          · skip
            refine J.exit ?_
            refine J.x_then ?_
            refine J.x_then ?_
            refine J.x_block ?_
            refine J.n_block ?_
            refine J.n_then ?_
            refine J.region ?_
            refine J.op (Yd.move rfl) rfl ?_
            refine J.op (Yd.add rfl rfl (by first | omega | exact idx_u8' _ | (simp only [Int.toNat_natCast]; omega) | (simp only [List.length_map, List.length_drop, List.length_take, List.length_append, List.length_replicate]; omega) | (simp <;> omega))) rfl ?_
            refine J.op (Yd.assign rfl) rfl ?_
            refine J.nil ?_
            refine J.n_then ?_
            exact J.round ((n0 + 1, la1)) ⟨rfl, rfl, rfl, (someI (by omega)), rfl, trivial⟩ (⟨by show n0 + 1 ≤ tos.length; omega, ⟨K5_, q2, hq, hj, (by show 0 ≤ la1 ∧ la1 ≤ ((n0 + 1 : Nat) : Int); omega)⟩, e0⟩) (by show tos.length - (n0 + 1) < tos.length - n0; omega)
        · skip
          obtain ⟨q2, hq2⟩ : ∃ q2, q2 = q1 := ⟨_, rfl⟩
          rw [← hq2] at hq hj
          refine J.skip ?_
          refine J.n_then ?_
          refine J.seq ?_
          refine J.region ?_
          refine J.op (Yd.move rfl) rfl ?_
          refine J.op (Yd.move rfl) rfl ?_
          refine J.eff (Ye.call cl13 rfl (ListQ_ok hq (fun x hx => Nat.le_trans ((hj [97]).bd x hx).2 (by decide)) (Nat.le_trans (hj [97]).len (by decide)))) rfl ?_
          rintro v98 w44 ⟨es98, ov98, hhd98, x1⟩
          have ap_s43_33_v98 : Ap s43_33.ownBlock v98.ownBlock := Ap.mk (Ow.live o43_33) (Es.fr ov98)
          have fr_v98 : Fr w.heap.size v98.ownBlock := Fr.le (Es.fr ov98) e0.size
          have out_v98 : Out K4_ v98.ownBlock := hq.out (Es.fr ov98)
          replace ov98 := Es.base ov98 e0.size
          have e0 := e0.trans x1
          have hq := hq.ext x1
          have o43_33 := o43_33.ext x1
          clear x1
          have hln98 := congrArg List.length hhd98
          rw [List.length_map, List.length_map] at hln98
          have hlq98 := (hj [97]).len
          have hdi98 : ∀ j, j < (qget q2 [97]).length → (es98.getD j itmD).1 = ((qget q2 [97]).getD j itD0).1 := fun j hj => congrArg (fun z => z.1) (hdr_get hhd98 hj)
          refine J.op (Yd.move rfl) rfl ?_
          refine J.op (Yd.move rfl) rfl ?_
          refine J.eff (Ye.call cl13 rfl (ListQ_ok hq (fun x hx => Nat.le_trans ((hj [97]).bd x hx).2 (by decide)) (Nat.le_trans (hj [97]).len (by decide)))) rfl ?_
          rintro v101 w45 ⟨es101, ov101, hhd101, x1⟩
          have ap_s43_33_v101 : Ap s43_33.ownBlock v101.ownBlock := Ap.mk (Ow.live o43_33) (Es.fr ov101)
          have ap_v98_v101 : Ap v98.ownBlock v101.ownBlock := Ap.mk (Es.live ov98) (Es.fr ov101)
          have fr_v101 : Fr w.heap.size v101.ownBlock := Fr.le (Es.fr ov101) e0.size
          have out_v101 : Out K4_ v101.ownBlock := hq.out (Es.fr ov101)
          replace ov101 := Es.base ov101 e0.size
          have e0 := e0.trans x1
          have hq := hq.ext x1
          have o43_33 := o43_33.ext x1
          have ov98 := ov98.ext x1
          clear x1
          have hln101 := congrArg List.length hhd101
          rw [List.length_map, List.length_map] at hln101
          have hlq101 := (hj [97]).len
          have hdi101 : ∀ j, j < (qget q2 [97]).length → (es101.getD j itmD).1 = ((qget q2 [97]).getD j itD0).1 := fun j hj => congrArg (fun z => z.1) (hdr_get hhd101 hj)
          refine J.op (Yd.assign rfl) rfl ?_
          refine J.op (Yd.assign rfl) rfl ?_
          refine J.nil ?_
          refine J.n_then ?_
          refine J.seq ?_
          refine J.seq ?_
          refine J.region ?_
          refine J.op (Yd.move rfl) rfl ?_
          refine J.op (Yd.lenE (K := itmS) Try.underlying31 rfl (Es.rd ov98)) rfl ?_
          refine J.op (Yd.move rfl) rfl ?_
          refine J.op (Yd.lenE (K := itmS) Try.underlying31 rfl (Es.rd ov101)) rfl ?_
          refine J.op (Yd.neq rfl rfl) rfl ?_
          refine J.op (Yd.move rfl) rfl ?_
          refine J.know (t := 107) (v' := .bool false) rfl (ff (by rw [hln98, hln101]; exact fun h => h rfl)) ?_
          refine J.op_g rfl rfl rfl (Yd.move rfl) rfl ?_
          refine J.op_g rfl rfl rfl (Yd.lenE (K := itmS) Try.underlying31 rfl (Es.rd ov98)) rfl ?_
          refine J.op_g rfl rfl rfl (Yd.move rfl) rfl ?_
          refine J.op_g rfl rfl rfl (Yd.move rfl) rfl ?_
          refine J.eff_g rfl rfl rfl (Ye.call cl15 rfl (LenQ_ok hq)) rfl ?_
          rintro _ w46 ⟨rfl, x1⟩
          have e0 := e0.trans x1
          have hq := hq.ext x1
          have o43_33 := o43_33.ext x1
          have ov98 := ov98.ext x1
          have ov101 := ov101.ext x1
          clear x1
          refine J.op_g rfl rfl rfl (Yd.neq rfl rfl) rfl ?_
          refine J.op (Yd.pick_f rfl rfl) rfl ?_
          refine J.nil ?_
          refine J.n_then ?_
          refine J.know (t := 114) (v' := .bool false) rfl (ff (by rw [hln98]; exact fun h => h rfl)) ?_
          refine J.cond_false rfl ?_
          refine J.skip ?_
          refine J.n_then ?_
          refine J.seq ?_
          refine J.region ?_
          refine J.op (Yd.assign rfl) rfl ?_
          refine J.nil ?_
          refine J.n_then ?_
          refine J.block ?_
          refine J.loop (ι := Nat) (fun i => [(0, s), (1, s2), (7, I (n0 : Int)), (6, I la1), (15, I (i : Int)), (5, .pointer (some ⟨b, 0, none⟩)), (13, v98)]) (fun i w' => 1 ≤ i ∧ Rq 65 36 w.heap.size K4_ w' b (10, 0, la1) q2 ∧ Es itmS w.heap.size 36 w' v98 es98 ∧ Ext w w') (fun i => es98.length - i) (1) ⟨rfl, rfl, rfl, (someI (by omega)), rfl, rfl, rfl, trivial⟩ (⟨Nat.le_refl _, hq, ov98, e0⟩) ?_
          rintro j w47 ⟨hk2, hq, ho13, e0⟩
          refine J.seq ?_
          refine J.seq ?_
          refine J.region ?_
          refine J.op (Yd.move rfl) rfl ?_
          refine J.op (Yd.move rfl) rfl ?_
          refine J.op (Yd.lenE (K := itmS) Try.underlying31 rfl (Es.rd ho13)) rfl ?_
          refine J.op (Yd.lss rfl rfl) rfl ?_
          refine J.nil ?_
          refine J.n_then ?_
          refine J.cond_dec rfl (fun hc9 => ?_) (fun hc9 => ?_)
          · skip
            refine J.skip ?_
            refine J.n_then ?_
            refine J.seq ?_
            refine J.block ?_
            refine J.seq ?_
            refine J.regionO [(0, true), (1, true), (5, true), (6, true), (7, true)] [(2, 1), (8, 1), (3, 1), (4, 1), (9, 1), (10, 1)] [(11, true)] mix (by kernel_rfl) ?_
            refine J.s_op rfl (fun _ => Yd.move rfl) rfl ?_
            refine J.s_op rfl (fun _ => Yd.move rfl) rfl ?_
            refine J.s_op rfl (fun _ => Yd.move rfl) rfl ?_
            refine J.s_op rfl (fun _ => Yd.move rfl) rfl ?_
            refine J.s_op rfl (fun _ => Yd.sub rfl rfl (by first | omega | exact idx_u8' _ | (simp only [Int.toNat_natCast]; omega) | (simp only [List.length_map, List.length_drop, List.length_take, List.length_append, List.length_replicate]; omega) | (simp <;> omega))) rfl ?_
            refine J.s_nil ?_
            refine J.o_op rfl (Yd.idxE (K := itmS) Try.underlying31 ti36 rfl rfl (Es.rd ho13) (by first | omega | exact idx_u8' _ | (simp only [Int.toNat_natCast]; omega) | (simp only [List.length_map, List.length_drop, List.length_take, List.length_append, List.length_replicate]; omega) | (simp <;> omega))) rfl ?_
            refine J.o_op rfl (Yd.idxE (K := itmS) Try.underlying31 ti36 rfl rfl (Es.rd ho13) (by first | omega | exact idx_u8' _ | (simp only [Int.toNat_natCast]; omega) | (simp only [List.length_map, List.length_drop, List.length_take, List.length_append, List.length_replicate]; omega) | (simp <;> omega))) rfl ?_
            refine J.o_op rfl (Yd.fieldE (K := itmS) (Es.rd ho13) (by omega) Try.underlying36 rfl ti3 rfl rfl) rfl ?_
            refine J.o_op rfl (Yd.loadFd (K := itmS) itmD pl3 rfl (Es.rd ho13) (by first | omega | exact idx_u8' _ | (simp only [Int.toNat_natCast]; omega) | (simp only [List.length_map, List.length_drop, List.length_take, List.length_append, List.length_replicate]; omega) | (simp <;> omega)) rfl) rfl ?_
            refine J.o_op rfl (Yd.fieldE (K := itmS) (Es.rd ho13) (by omega) Try.underlying36 rfl ti3 rfl rfl) rfl ?_
            refine J.o_op rfl (Yd.loadFd (K := itmS) itmD pl3 rfl (Es.rd ho13) (by first | omega | exact idx_u8' _ | (simp only [Int.toNat_natCast]; omega) | (simp only [List.length_map, List.length_drop, List.length_take, List.length_append, List.length_replicate]; omega) | (simp <;> omega)) rfl) rfl ?_
            refine J.o_nil ?_
            refine J.s_op rfl (fun _ => Yd.leq rfl rfl) rfl ?_
            refine J.s_nil ?_
            refine J.n_np ?_
            refine J.n_then ?_
            refine J.know (t := 132) (v' := .bool false) rfl (ff (by first | omega | (have h7 := hdi98 j (by omega); have h8 := hdi98 (j - 1) (by omega); have h9 := (hj [97]).lt (show j < (qget q2 [97]).length by omega) (by omega); rw [show ((j : Int) - 1).toNat = j - 1 by omega, Int.toNat_natCast]; omega))) ?_
            refine J.cond_false rfl ?_
            refine J.skip ?_
            refine J.n_block ?_
            refine J.n_then ?_
            refine J.region ?_
            refine J.op (Yd.move rfl) rfl ?_
            refine J.op (Yd.add rfl rfl (by first | omega | exact idx_u8' _ | (simp only [Int.toNat_natCast]; omega) | (simp only [List.length_map, List.length_drop, List.length_take, List.length_append, List.length_replicate]; omega) | (simp <;> omega))) rfl ?_
            refine J.op (Yd.assign rfl) rfl ?_
            refine J.nil ?_
            refine J.n_then ?_
            exact J.round (j + 1) ⟨rfl, rfl, rfl, rfl, rfl, rfl, rfl, trivial⟩ (⟨by omega, hq, ho13, e0⟩) (by omega)
          · skip
            refine J.exit ?_
            refine J.x_then ?_
            refine J.x_then ?_
            refine J.x_block ?_
            refine J.n_block ?_
            refine J.n_then ?_
            refine J.region ?_
            refine J.op (Yd.move rfl) rfl ?_
            refine J.op (Yd.add rfl rfl (by first | omega | exact idx_u8' _ | (simp only [Int.toNat_natCast]; omega) | (simp only [List.length_map, List.length_drop, List.length_take, List.length_append, List.length_replicate]; omega) | (simp <;> omega))) rfl ?_
            refine J.op (Yd.assign rfl) rfl ?_
            refine J.nil ?_
            refine J.n_then ?_
            exact J.round ((n0 + 1, la1)) ⟨rfl, rfl, rfl, (someI (by omega)), rfl, trivial⟩ (⟨by show n0 + 1 ≤ tos.length; omega, ⟨K4_, q2, hq, hj, (by show 0 ≤ la1 ∧ la1 ≤ ((n0 + 1 : Nat) : Int); omega)⟩, e0⟩) (by show tos.length - (n0 + 1) < tos.length - n0; omega)
      · skip
        refine J.eff (Ye.call cl10 rfl (PutQ_full hq ⟨by decide, by decide⟩ ⟨by decide, by decide⟩ (Ow.rd o43_33) (by simp only [List.length_singleton]; omega) (by omega))) rfl ?_
        rintro _ w48 ⟨rfl, x1⟩
        have e0 := e0.trans x1
        have hq := hq.ext x1
        have o43_33 := o43_33.ext x1
        clear x1
        obtain ⟨q1, hq1⟩ : ∃ q1, q1 = q0 := ⟨_, rfl⟩
        rw [← hq1] at hq hj
        obtain ⟨la1, hla1⟩ : ∃ la1, la1 = last := ⟨_, rfl⟩
        rw [← hla1] at hq hj
        refine J.op (Yd.move rfl) rfl ?_
        refine J.op (Yd.extract rfl rfl) rfl ?_
        refine J.op (Yd.extract rfl rfl) rfl ?_
        refine J.op (Yd.assign rfl) rfl ?_
        refine J.op (Yd.assign rfl) rfl ?_
        refine J.nil ?_
        refine J.n_then ?_
        refine J.seq ?_
        refine J.seq ?_
        refine J.region ?_
        refine J.op (Yd.move rfl) rfl ?_
        refine J.op (Yd.eql rfl rfl) rfl ?_
        refine J.op (Yd.move rfl) rfl ?_
        refine J.know (t := 49) (v' := .bool false) rfl (ff (by decide)) ?_
        refine J.not_g rfl rfl rfl rfl rfl ?_
        refine J.not_g rfl rfl rfl rfl rfl ?_
        refine J.not_g rfl rfl rfl rfl rfl ?_
        refine J.not_g rfl rfl rfl rfl rfl ?_
        refine J.op (Yd.pick_f rfl rfl) rfl ?_
        refine J.op (Yd.move rfl) rfl ?_
        refine J.op_g rfl rfl rfl (Yd.move rfl) rfl ?_
        refine J.op_g rfl rfl rfl (Yd.neq rfl rfl) rfl ?_
        refine J.op_g rfl rfl rfl (Yd.move rfl) rfl ?_
        refine J.know (t := 58) (v' := .bool true) rfl (tt (by decide)) ?_
        refine J.op_g rfl rfl rfl (Yd.move rfl) rfl ?_
        refine J.op_g rfl rfl rfl (Yd.neq rfl rfl) rfl ?_
        refine J.op_g rfl rfl rfl (Yd.move rfl) rfl ?_
        refine J.know (t := 61) (v' := .bool false) rfl (ff (by decide)) ?_
        refine J.op_g rfl rfl rfl (Yd.move rfl) rfl ?_
        refine J.op_g rfl rfl rfl (Yd.move rfl) rfl ?_
        refine J.eff_g rfl rfl rfl (Ye.call cl15 rfl (LenQ_ok hq)) rfl ?_
        rintro _ w49 ⟨rfl, x1⟩
        have e0 := e0.trans x1
        have hq := hq.ext x1
        have o43_33 := o43_33.ext x1
        clear x1
        refine J.op_g rfl rfl rfl (Yd.neq rfl rfl) rfl ?_
        refine J.op_g rfl rfl rfl (Yd.pick_f rfl rfl) rfl ?_
        refine J.op_g rfl rfl rfl (Yd.pick_t rfl rfl) rfl ?_
        refine J.op (Yd.pick_f rfl rfl) rfl ?_
        refine J.nil ?_
        refine J.n_then ?_
        refine J.know (t := 68) (v' := .bool false) rfl (ff (by have := (hj [97]).len; rw [hq1] at this ⊢; omega)) ?_
        refine J.cond_false rfl ?_
        refine J.skip ?_
        refine J.n_then ?_
        refine J.seq ?_
        refine J.seq ?_
        refine J.region ?_
        refine J.op (Yd.move rfl) rfl ?_
        refine J.op (Yd.eql rfl rfl) rfl ?_
        refine J.nil ?_
        refine J.n_then ?_
        refine J.know (t := 70) (v' := .bool false) rfl (ff (by decide)) ?_
        refine J.cond_false rfl ?_
        refine J.skip ?_
        refine J.n_then ?_
        refine J.seq ?_
        refine J.seq ?_
        refine J.region ?_
        refine J.op (Yd.move rfl) rfl ?_
        refine J.op (Yd.move rfl) rfl ?_
        refine J.op (Yd.len_m Try.underlying22 rfl (Rd.ext hgo e0)) rfl ?_
        refine J.op (Yd.lss rfl rfl) rfl ?_
        refine J.nil ?_
        refine J.n_then ?_
        refine J.cond_dec rfl (fun hc6 => ?_) (fun hc6 => ?_)
        · skip
          refine J.seq ?_
          refine J.region ?_
          refine J.op (Yd.move rfl) rfl ?_
          refine J.op (Yd.move rfl) rfl ?_
          refine J.op (Yd.move rfl) rfl ?_
          refine J.op (Yd.move rfl) rfl ?_
          refine J.op (Yd.idx_m Try.underlying22 ti3 rfl rfl (Rd.ext hgo e0) (by first | omega | exact idx_u8' _ | (simp only [Int.toNat_natCast]; omega) | (simp only [List.length_map, List.length_drop, List.length_take, List.length_append, List.length_replicate]; omega) | (simp <;> omega))) rfl ?_
          refine J.op (Yd.load pl3 rfl (Rd.cellI (Rd.ext hgo e0) (by first | omega | exact idx_u8' _ | (simp only [Int.toNat_natCast]; omega) | (simp only [List.length_map, List.length_drop, List.length_take, List.length_append, List.length_replicate]; omega) | (simp <;> omega)))) rfl ?_
          refine J.eff (Ye.lit1 (base := w49.heap.size) (f := (fun x : Int => I x)) Try.underlying22 ti3 rfl rfl (fun _ => rfl) (Nat.le_refl _)) rfl ?_
          rintro s82_50 w50 ⟨o82_50, x1⟩
          have ap_s43_33_s82_50 : Ap s43_33.ownBlock s82_50.ownBlock := Ap.mk (Ow.live o43_33) (Ow.fr o82_50)
          have fr_s82_50 : Fr w.heap.size s82_50.ownBlock := Fr.le (Ow.fr o82_50) e0.size
          have out_s82_50 : Out K0 s82_50.ownBlock := hq.out (Ow.fr o82_50)
          replace o82_50 := Ow.base o82_50 e0.size
          have e0 := e0.trans x1
          have hq := hq.ext x1
          have o43_33 := o43_33.ext x1
          clear x1
          refine J.eff (Ye.call cl16 rfl (AckQ_ok (ids := [(gone.getD (n0 : Int).toNat 0)]) hq (Ow.rd o82_50) (fun _ => out_s82_50))) rfl ?_
          rintro _ w51 ⟨rfl, q2, hq3, K6_, hq2, hkk, hT2⟩
          have out_s43_33_ : Out K6_ s43_33.ownBlock := Out.kk out_s43_33 (Ow.live o43_33) hkk
          have out_s82_50_ : Out K6_ s82_50.ownBlock := Out.kk out_s82_50 (Ow.live o82_50) hkk
          have o43_33 := Ow.thK o43_33 hT2 hq.bb out_s43_33
          have o82_50 := Ow.thK o82_50 hT2 hq.bb out_s82_50
          have e0 := Ext.thK e0 hT2 hq.bb (fun k hk => (hq.kb k hk).1)
          have out_s43_33 := out_s43_33_
          clear out_s43_33_
          have out_s82_50 := out_s82_50_
          clear out_s82_50_
          replace hq := hq2
          clear hq2 hkk hT2
          have hj2 : ∀ k, JQ (qget q2 k) la1 := fun k => by rw [hq3]; split; exact (hj [97]).rm _; exact hj k
          have hgn : idxI (eqP (gone.getD (n0 : Int).toNat 0)) (qget q2 [97]) = -1 := by rw [hq3, if_pos rfl]; exact (hj [97]).gone _
          clear hj
          have hj := hj2
          refine J.nil ?_
          refine J.n_then ?_
          refine J.seq ?_
          refine J.region ?_
          refine J.op (Yd.move rfl) rfl ?_
          refine J.op (Yd.move rfl) rfl ?_
          refine J.op (Yd.move rfl) rfl ?_
          refine J.op (Yd.move rfl) rfl ?_
          refine J.op (Yd.idx_m Try.underlying22 ti3 rfl rfl (Rd.ext hgo e0) (by first | omega | exact idx_u8' _ | (simp only [Int.toNat_natCast]; omega) | (simp only [List.length_map, List.length_drop, List.length_take, List.length_append, List.length_replicate]; omega) | (simp <;> omega))) rfl ?_
          refine J.op (Yd.load pl3 rfl (Rd.cellI (Rd.ext hgo e0) (by first | omega | exact idx_u8' _ | (simp only [Int.toNat_natCast]; omega) | (simp only [List.length_map, List.length_drop, List.length_take, List.length_append, List.length_replicate]; omega) | (simp <;> omega)))) rfl ?_
          refine J.eff (Ye.call cl23 rfl (GetQ_no hq hgn)) rfl ?_
          rintro _ w52 ⟨rfl, x1⟩
          have e0 := e0.trans x1
          have hq := hq.ext x1
          have o43_33 := o43_33.ext x1
          have o82_50 := o82_50.ext x1
          clear x1
          refine J.op (Yd.move rfl) rfl ?_
          refine J.op (Yd.extract rfl rfl) rfl ?_
          refine J.op (Yd.extract rfl rfl) rfl ?_
          refine J.eff (Ye.alloc ti36 (S := [(0, 4, [I 0, Str [], I 0, nilS])]) (by simp [SegAll, SegOK, Value.cells, nilS])) rfl ?_
          rintro _ w53 ⟨b11_52, rfl, hb_, c11_52, x1⟩
          have ap_s43_33_b11_52 : Ap s43_33.ownBlock (some b11_52) := Ap.mk (Ow.live o43_33) (Fr.blk hb_)
          have ap_s82_50_b11_52 : Ap s82_50.ownBlock (some b11_52) := Ap.mk (Ow.live o82_50) (Fr.blk hb_)
          have fr_b11_52 : Fr w.heap.size (some b11_52) := Fr.le (Fr.blk hb_) e0.size
          have out_b11_52 : Out K6_ (some b11_52) := hq.out (Fr.blk hb_)
          have e0 := e0.trans x1
          have hq := hq.ext x1
          have o43_33 := o43_33.ext x1
          have o82_50 := o82_50.ext x1
          clear x1 hb_
          refine J.eff0 (Ye.storeA (ys := itmS.c itmD) ti36 c11_52 0 rfl rfl rfl rfl (by rfl) (itm_one1 (x := itmD) rfl _ (List.mem_singleton.2 rfl))) ?_
          rintro _ w54 ⟨cX, hu⟩
          simp only [List.set_cons_zero, List.set_cons_succ] at cX
          have hg := hu.gb
          have hq := hq.g1 hg out_b11_52
          have o43_33 := Ow.gbk o43_33 hg ap_s43_33_b11_52
          have o82_50 := Ow.gbk o82_50 hg ap_s82_50_b11_52
          have e0 := Ext.gbk e0 fr_b11_52 hg
          clear hg
          replace c11_52 := cX
          clear cX hu
          refine J.op (Yd.assign rfl) rfl ?_
          refine J.nil ?_
          refine J.n_then ?_
          refine J.seq ?_
          refine J.region ?_
          refine J.op (Yd.move rfl) rfl ?_
          refine J.op (Yd.neq rfl rfl) rfl ?_
          refine J.nil ?_
          refine J.n_then ?_
          refine J.know (t := 95) (v' := .bool false) rfl (ff (by decide)) ?_
          refine J.cond_false rfl ?_
          refine J.skip ?_
          refine J.n_then ?_
          refine J.seq ?_
          refine J.region ?_
          refine J.op (Yd.move rfl) rfl ?_
          refine J.op (Yd.move rfl) rfl ?_
          refine J.eff (Ye.call cl13 rfl (ListQ_ok hq (fun x hx => Nat.le_trans ((hj [97]).bd x hx).2 (by decide)) (Nat.le_trans (hj [97]).len (by decide)))) rfl ?_
          rintro v98 w55 ⟨es98, ov98, hhd98, x1⟩
          have ap_s43_33_v98 : Ap s43_33.ownBlock v98.ownBlock := Ap.mk (Ow.live o43_33) (Es.fr ov98)
          have ap_s82_50_v98 : Ap s82_50.ownBlock v98.ownBlock := Ap.mk (Ow.live o82_50) (Es.fr ov98)
          have ap_b11_52_v98 : Ap (some b11_52) v98.ownBlock := Ap.mk (Cel.live c11_52) (Es.fr ov98)
          have fr_v98 : Fr w.heap.size v98.ownBlock := Fr.le (Es.fr ov98) e0.size
          have out_v98 : Out K6_ v98.ownBlock := hq.out (Es.fr ov98)
          replace ov98 := Es.base ov98 e0.size
          have e0 := e0.trans x1
          have hq := hq.ext x1
          have o43_33 := o43_33.ext x1
          have o82_50 := o82_50.ext x1
          have c11_52 := c11_52.ext x1
          clear x1
          have hln98 := congrArg List.length hhd98
          rw [List.length_map, List.length_map] at hln98
          have hlq98 := (hj [97]).len
          have hdi98 : ∀ j, j < (qget q2 [97]).length → (es98.getD j itmD).1 = ((qget q2 [97]).getD j itD0).1 := fun j hj => congrArg (fun z => z.1) (hdr_get hhd98 hj)
          refine J.op (Yd.move rfl) rfl ?_
          refine J.op (Yd.move rfl) rfl ?_
          refine J.eff (Ye.call cl13 rfl (ListQ_ok hq (fun x hx => Nat.le_trans ((hj [97]).bd x hx).2 (by decide)) (Nat.le_trans (hj [97]).len (by decide)))) rfl ?_
          rintro v101 w56 ⟨es101, ov101, hhd101, x1⟩
          have ap_s43_33_v101 : Ap s43_33.ownBlock v101.ownBlock := Ap.mk (Ow.live o43_33) (Es.fr ov101)
          have ap_s82_50_v101 : Ap s82_50.ownBlock v101.ownBlock := Ap.mk (Ow.live o82_50) (Es.fr ov101)
          have ap_b11_52_v101 : Ap (some b11_52) v101.ownBlock := Ap.mk (Cel.live c11_52) (Es.fr ov101)
          have ap_v98_v101 : Ap v98.ownBlock v101.ownBlock := Ap.mk (Es.live ov98) (Es.fr ov101)
          have fr_v101 : Fr w.heap.size v101.ownBlock := Fr.le (Es.fr ov101) e0.size
          have out_v101 : Out K6_ v101.ownBlock := hq.out (Es.fr ov101)
          replace ov101 := Es.base ov101 e0.size
          have e0 := e0.trans x1
          have hq := hq.ext x1
          have o43_33 := o43_33.ext x1
          have o82_50 := o82_50.ext x1
          have c11_52 := c11_52.ext x1
          have ov98 := ov98.ext x1
          clear x1
          have hln101 := congrArg List.length hhd101
          rw [List.length_map, List.length_map] at hln101
          have hlq101 := (hj [97]).len
          have hdi101 : ∀ j, j < (qget q2 [97]).length → (es101.getD j itmD).1 = ((qget q2 [97]).getD j itD0).1 := fun j hj => congrArg (fun z => z.1) (hdr_get hhd101 hj)
          refine J.op (Yd.assign rfl) rfl ?_
          refine J.op (Yd.assign rfl) rfl ?_
          refine J.nil ?_
          refine J.n_then ?_
          refine J.seq ?_
          refine J.seq ?_
          refine J.region ?_
          refine J.op (Yd.move rfl) rfl ?_
          refine J.op (Yd.lenE (K := itmS) Try.underlying31 rfl (Es.rd ov98)) rfl ?_
          refine J.op (Yd.move rfl) rfl ?_
          refine J.op (Yd.lenE (K := itmS) Try.underlying31 rfl (Es.rd ov101)) rfl ?_
          refine J.op (Yd.neq rfl rfl) rfl ?_
          refine J.op (Yd.move rfl) rfl ?_
          refine J.know (t := 107) (v' := .bool false) rfl (ff (by rw [hln98, hln101]; exact fun h => h rfl)) ?_
          refine J.op_g rfl rfl rfl (Yd.move rfl) rfl ?_
          refine J.op_g rfl rfl rfl (Yd.lenE (K := itmS) Try.underlying31 rfl (Es.rd ov98)) rfl ?_
          refine J.op_g rfl rfl rfl (Yd.move rfl) rfl ?_
          refine J.op_g rfl rfl rfl (Yd.move rfl) rfl ?_
          refine J.eff_g rfl rfl rfl (Ye.call cl15 rfl (LenQ_ok hq)) rfl ?_
          rintro _ w57 ⟨rfl, x1⟩
          have e0 := e0.trans x1
          have hq := hq.ext x1
          have o43_33 := o43_33.ext x1
          have o82_50 := o82_50.ext x1
          have c11_52 := c11_52.ext x1
          have ov98 := ov98.ext x1
          have ov101 := ov101.ext x1
          clear x1
          refine J.op_g rfl rfl rfl (Yd.neq rfl rfl) rfl ?_
          refine J.op (Yd.pick_f rfl rfl) rfl ?_
          refine J.nil ?_
          refine J.n_then ?_
          refine J.know (t := 114) (v' := .bool false) rfl (ff (by rw [hln98]; exact fun h => h rfl)) ?_
          refine J.cond_false rfl ?_
          refine J.skip ?_
          refine J.n_then ?_
          refine J.seq ?_
          refine J.region ?_
          refine J.op (Yd.assign rfl) rfl ?_
          refine J.nil ?_
          refine J.n_then ?_
          refine J.block ?_
          refine J.loop (ι := Nat) (fun i => [(0, s), (1, s2), (7, I (n0 : Int)), (6, I la1), (15, I (i : Int)), (5, .pointer (some ⟨b, 0, none⟩)), (13, v98)]) (fun i w' => 1 ≤ i ∧ Rq 65 36 w.heap.size K6_ w' b (10, 0, la1) q2 ∧ Es itmS w.heap.size 36 w' v98 es98 ∧ Ext w w') (fun i => es98.length - i) (1) ⟨rfl, rfl, rfl, (someI (by omega)), rfl, rfl, rfl, trivial⟩ (⟨Nat.le_refl _, hq, ov98, e0⟩) ?_
          rintro j w58 ⟨hk2, hq, ho13, e0⟩
          refine J.seq ?_
          refine J.seq ?_
          refine J.region ?_
          refine J.op (Yd.move rfl) rfl ?_
          refine J.op (Yd.move rfl) rfl ?_
          refine J.op (Yd.lenE (K := itmS) Try.underlying31 rfl (Es.rd ho13)) rfl ?_
          refine J.op (Yd.lss rfl rfl) rfl ?_
          refine J.nil ?_
          refine J.n_then ?_
          refine J.cond_dec rfl (fun hc9 => ?_) (fun hc9 => ?_)
          · skip
            refine J.skip ?_
            refine J.n_then ?_
            refine J.seq ?_
            refine J.block ?_
            refine J.seq ?_
            refine J.regionO [(0, true), (1, true), (5, true), (6, true), (7, true)] [(2, 1), (8, 1), (3, 1), (4, 1), (9, 1), (10, 1)] [(11, true)] mix (by kernel_rfl) ?_
            refine J.s_op rfl (fun _ => Yd.move rfl) rfl ?_
            refine J.s_op rfl (fun _ => Yd.move rfl) rfl ?_
            refine J.s_op rfl (fun _ => Yd.move rfl) rfl ?_
            refine J.s_op rfl (fun _ => Yd.move rfl) rfl ?_
            refine J.s_op rfl (fun _ => Yd.sub rfl rfl (by first | omega | exact idx_u8' _ | (simp only [Int.toNat_natCast]; omega) | (simp only [List.length_map, List.length_drop, List.length_take, List.length_append, List.length_replicate]; omega) | (simp <;> omega))) rfl ?_
            refine J.s_nil ?_
            refine J.o_op rfl (Yd.idxE (K := itmS) Try.underlying31 ti36 rfl rfl (Es.rd ho13) (by first | omega | exact idx_u8' _ | (simp only [Int.toNat_natCast]; omega) | (simp only [List.length_map, List.length_drop, List.length_take, List.length_append, List.length_replicate]; omega) | (simp <;> omega))) rfl ?_
            refine J.o_op rfl (Yd.idxE (K := itmS) Try.underlying31 ti36 rfl rfl (Es.rd ho13) (by first | omega | exact idx_u8' _ | (simp only [Int.toNat_natCast]; omega) | (simp only [List.length_map, List.length_drop, List.length_take, List.length_append, List.length_replicate]; omega) | (simp <;> omega))) rfl ?_
            refine J.o_op rfl (Yd.fieldE (K := itmS) (Es.rd ho13) (by omega) Try.underlying36 rfl ti3 rfl rfl) rfl ?_
            refine J.o_op rfl (Yd.loadFd (K := itmS) itmD pl3 rfl (Es.rd ho13) (by first | omega | exact idx_u8' _ | (simp only [Int.toNat_natCast]; omega) | (simp only [List.length_map, List.length_drop, List.length_take, List.length_append, List.length_replicate]; omega) | (simp <;> omega)) rfl) rfl ?_
            refine J.o_op rfl (Yd.fieldE (K := itmS) (Es.rd ho13) (by omega) Try.underlying36 rfl ti3 rfl rfl) rfl ?_
            refine J.o_op rfl (Yd.loadFd (K := itmS) itmD pl3 rfl (Es.rd ho13) (by first | omega | exact idx_u8' _ | (simp only [Int.toNat_natCast]; omega) | (simp only [List.length_map, List.length_drop, List.length_take, List.length_append, List.length_replicate]; omega) | (simp <;> omega)) rfl) rfl ?_
            refine J.o_nil ?_
            refine J.s_op rfl (fun _ => Yd.leq rfl rfl) rfl ?_
            refine J.s_nil ?_
            refine J.n_np ?_
            refine J.n_then ?_
            refine J.know (t := 132) (v' := .bool false) rfl (ff (by first | omega | (have h7 := hdi98 j (by omega); have h8 := hdi98 (j - 1) (by omega); have h9 := (hj [97]).lt (show j < (qget q2 [97]).length by omega) (by omega); rw [show ((j : Int) - 1).toNat = j - 1 by omega, Int.toNat_natCast]; omega))) ?_
            refine J.cond_false rfl ?_
            refine J.skip ?_
            refine J.n_block ?_
            refine J.n_then ?_
            refine J.region ?_
            refine J.op (Yd.move rfl) rfl ?_
            refine J.op (Yd.add rfl rfl (by first | omega | exact idx_u8' _ | (simp only [Int.toNat_natCast]; omega) | (simp only [List.length_map, List.length_drop, List.length_take, List.length_append, List.length_replicate]; omega) | (simp <;> omega))) rfl ?_
            refine J.op (Yd.assign rfl) rfl ?_
            refine J.nil ?_
            refine J.n_then ?_
            exact J.round (j + 1) ⟨rfl, rfl, rfl, rfl, rfl, rfl, rfl, trivial⟩ (⟨by omega, hq, ho13, e0⟩) (by omega)
          · skip
            refine J.exit ?_
            refine J.x_then ?_
            refine J.x_then ?_
            refine J.x_block ?_
            refine J.n_block ?_
            refine J.n_then ?_
            refine J.region ?_
            refine J.op (Yd.move rfl) rfl ?_
            refine J.op (Yd.add rfl rfl (by first | omega | exact idx_u8' _ | (simp only [Int.toNat_natCast]; omega) | (simp only [List.length_map, List.length_drop, List.length_take, List.length_append, List.length_replicate]; omega) | (simp <;> omega))) rfl ?_
            refine J.op (Yd.assign rfl) rfl ?_
            refine J.nil ?_
            refine J.n_then ?_
            exact J.round ((n0 + 1, la1)) ⟨rfl, rfl, rfl, (someI (by omega)), rfl, trivial⟩ (⟨by show n0 + 1 ≤ tos.length; omega, ⟨K6_, q2, hq, hj, (by show 0 ≤ la1 ∧ la1 ≤ ((n0 + 1 : Nat) : Int); omega)⟩, e0⟩) (by show tos.length - (n0 + 1) < tos.length - n0; omega)
        · skip
          obtain ⟨q2, hq2⟩ : ∃ q2, q2 = q1 := ⟨_, rfl⟩
          rw [← hq2] at hq hj
          refine J.skip ?_
          refine J.n_then ?_
          refine J.seq ?_
          refine J.region ?_
          refine J.op (Yd.move rfl) rfl ?_
          refine J.op (Yd.move rfl) rfl ?_
          refine J.eff (Ye.call cl13 rfl (ListQ_ok hq (fun x hx => Nat.le_trans ((hj [97]).bd x hx).2 (by decide)) (Nat.le_trans (hj [97]).len (by decide)))) rfl ?_
          rintro v98 w59 ⟨es98, ov98, hhd98, x1⟩
          have ap_s43_33_v98 : Ap s43_33.ownBlock v98.ownBlock := Ap.mk (Ow.live o43_33) (Es.fr ov98)
          have fr_v98 : Fr w.heap.size v98.ownBlock := Fr.le (Es.fr ov98) e0.size
          have out_v98 : Out K0 v98.ownBlock := hq.out (Es.fr ov98)
          replace ov98 := Es.base ov98 e0.size
          have e0 := e0.trans x1
          have hq := hq.ext x1
          have o43_33 := o43_33.ext x1
          clear x1
          have hln98 := congrArg List.length hhd98
          rw [List.length_map, List.length_map] at hln98
          have hlq98 := (hj [97]).len
          have hdi98 : ∀ j, j < (qget q2 [97]).length → (es98.getD j itmD).1 = ((qget q2 [97]).getD j itD0).1 := fun j hj => congrArg (fun z => z.1) (hdr_get hhd98 hj)
          refine J.op (Yd.move rfl) rfl ?_
          refine J.op (Yd.move rfl) rfl ?_
          refine J.eff (Ye.call cl13 rfl (ListQ_ok hq (fun x hx => Nat.le_trans ((hj [97]).bd x hx).2 (by decide)) (Nat.le_trans (hj [97]).len (by decide)))) rfl ?_
          rintro v101 w60 ⟨es101, ov101, hhd101, x1⟩
          have ap_s43_33_v101 : Ap s43_33.ownBlock v101.ownBlock := Ap.mk (Ow.live o43_33) (Es.fr ov101)
          have ap_v98_v101 : Ap v98.ownBlock v101.ownBlock := Ap.mk (Es.live ov98) (Es.fr ov101)
          have fr_v101 : Fr w.heap.size v101.ownBlock := Fr.le (Es.fr ov101) e0.size
          have out_v101 : Out K0 v101.ownBlock := hq.out (Es.fr ov101)
          replace ov101 := Es.base ov101 e0.size
          have e0 := e0.trans x1
          have hq := hq.ext x1
          have o43_33 := o43_33.ext x1
          have ov98 := ov98.ext x1
          clear x1
          have hln101 := congrArg List.length hhd101
          rw [List.length_map, List.length_map] at hln101
          have hlq101 := (hj [97]).len
          have hdi101 : ∀ j, j < (qget q2 [97]).length → (es101.getD j itmD).1 = ((qget q2 [97]).getD j itD0).1 := fun j hj => congrArg (fun z => z.1) (hdr_get hhd101 hj)
          refine J.op (Yd.assign rfl) rfl ?_
          refine J.op (Yd.assign rfl) rfl ?_
          refine J.nil ?_
          refine J.n_then ?_
          refine J.seq ?_
          refine J.seq ?_
          refine J.region ?_
          refine J.op (Yd.move rfl) rfl ?_
          refine J.op (Yd.lenE (K := itmS) Try.underlying31 rfl (Es.rd ov98)) rfl ?_
          refine J.op (Yd.move rfl) rfl ?_
          refine J.op (Yd.lenE (K := itmS) Try.underlying31 rfl (Es.rd ov101)) rfl ?_
          refine J.op (Yd.neq rfl rfl) rfl ?_
          refine J.op (Yd.move rfl) rfl ?_
          refine J.know (t := 107) (v' := .bool false) rfl (ff (by rw [hln98, hln101]; exact fun h => h rfl)) ?_
          refine J.op_g rfl rfl rfl (Yd.move rfl) rfl ?_
          refine J.op_g rfl rfl rfl (Yd.lenE (K := itmS) Try.underlying31 rfl (Es.rd ov98)) rfl ?_
          refine J.op_g rfl rfl rfl (Yd.move rfl) rfl ?_
          refine J.op_g rfl rfl rfl (Yd.move rfl) rfl ?_
          refine J.eff_g rfl rfl rfl (Ye.call cl15 rfl (LenQ_ok hq)) rfl ?_
          rintro _ w61 ⟨rfl, x1⟩
          have e0 := e0.trans x1
          have hq := hq.ext x1
          have o43_33 := o43_33.ext x1
          have ov98 := ov98.ext x1
          have ov101 := ov101.ext x1
          clear x1
          refine J.op_g rfl rfl rfl (Yd.neq rfl rfl) rfl ?_
          refine J.op (Yd.pick_f rfl rfl) rfl ?_
          refine J.nil ?_
          refine J.n_then ?_
          refine J.know (t := 114) (v' := .bool false) rfl (ff (by rw [hln98]; exact fun h => h rfl)) ?_
          refine J.cond_false rfl ?_
          refine J.skip ?_
          refine J.n_then ?_
          refine J.seq ?_
          refine J.region ?_
          refine J.op (Yd.assign rfl) rfl ?_
          refine J.nil ?_
          refine J.n_then ?_
          refine J.block ?_
          refine J.loop (ι := Nat) (fun i => [(0, s), (1, s2), (7, I (n0 : Int)), (6, I la1), (15, I (i : Int)), (5, .pointer (some ⟨b, 0, none⟩)), (13, v98)]) (fun i w' => 1 ≤ i ∧ Rq 65 36 w.heap.size K0 w' b (10, 0, la1) q2 ∧ Es itmS w.heap.size 36 w' v98 es98 ∧ Ext w w') (fun i => es98.length - i) (1) ⟨rfl, rfl, rfl, (someI (by omega)), rfl, rfl, rfl, trivial⟩ (⟨Nat.le_refl _, hq, ov98, e0⟩) ?_
          rintro j w62 ⟨hk2, hq, ho13, e0⟩
          refine J.seq ?_
          refine J.seq ?_
          refine J.region ?_
          refine J.op (Yd.move rfl) rfl ?_
          refine J.op (Yd.move rfl) rfl ?_
          refine J.op (Yd.lenE (K := itmS) Try.underlying31 rfl (Es.rd ho13)) rfl ?_
          refine J.op (Yd.lss rfl rfl) rfl ?_
          refine J.nil ?_
          refine J.n_then ?_
          refine J.cond_dec rfl (fun hc9 => ?_) (fun hc9 => ?_)
          · skip
            refine J.skip ?_
            refine J.n_then ?_
            refine J.seq ?_
            refine J.block ?_
            refine J.seq ?_
            refine J.regionO [(0, true), (1, true), (5, true), (6, true), (7, true)] [(2, 1), (8, 1), (3, 1), (4, 1), (9, 1), (10, 1)] [(11, true)] mix (by kernel_rfl) ?_
            refine J.s_op rfl (fun _ => Yd.move rfl) rfl ?_
            refine J.s_op rfl (fun _ => Yd.move rfl) rfl ?_
            refine J.s_op rfl (fun _ => Yd.move rfl) rfl ?_
            refine J.s_op rfl (fun _ => Yd.move rfl) rfl ?_
            refine J.s_op rfl (fun _ => Yd.sub rfl rfl (by first | omega | exact idx_u8' _ | (simp only [Int.toNat_natCast]; omega) | (simp only [List.length_map, List.length_drop, List.length_take, List.length_append, List.length_replicate]; omega) | (simp <;> omega))) rfl ?_
            refine J.s_nil ?_
            refine J.o_op rfl (Yd.idxE (K := itmS) Try.underlying31 ti36 rfl rfl (Es.rd ho13) (by first | omega | exact idx_u8' _ | (simp only [Int.toNat_natCast]; omega) | (simp only [List.length_map, List.length_drop, List.length_take, List.length_append, List.length_replicate]; omega) | (simp <;> omega))) rfl ?_
            refine J.o_op rfl (Yd.idxE (K := itmS) Try.underlying31 ti36 rfl rfl (Es.rd ho13) (by first | omega | exact idx_u8' _ | (simp only [Int.toNat_natCast]; omega) | (simp only [List.length_map, List.length_drop, List.length_take, List.length_append, List.length_replicate]; omega) | (simp <;> omega))) rfl ?_
            refine J.o_op rfl (Yd.fieldE (K := itmS) (Es.rd ho13) (by omega) Try.underlying36 rfl ti3 rfl rfl) rfl ?_
            refine J.o_op rfl (Yd.loadFd (K := itmS) itmD pl3 rfl (Es.rd ho13) (by first | omega | exact idx_u8' _ | (simp only [Int.toNat_natCast]; omega) | (simp only [List.length_map, List.length_drop, List.length_take, List.length_append, List.length_replicate]; omega) | (simp <;> omega)) rfl) rfl ?_
            refine J.o_op rfl (Yd.fieldE (K := itmS) (Es.rd ho13) (by omega) Try.underlying36 rfl ti3 rfl rfl) rfl ?_
            refine J.o_op rfl (Yd.loadFd (K := itmS) itmD pl3 rfl (Es.rd ho13) (by first | omega | exact idx_u8' _ | (simp only [Int.toNat_natCast]; omega) | (simp only [List.length_map, List.length_drop, List.length_take, List.length_append, List.length_replicate]; omega) | (simp <;> omega)) rfl) rfl ?_
            refine J.o_nil ?_
            refine J.s_op rfl (fun _ => Yd.leq rfl rfl) rfl ?_
            refine J.s_nil ?_
            refine J.n_np ?_
            refine J.n_then ?_
            refine J.know (t := 132) (v' := .bool false) rfl (ff (by first | omega | (have h7 := hdi98 j (by omega); have h8 := hdi98 (j - 1) (by omega); have h9 := (hj [97]).lt (show j < (qget q2 [97]).length by omega) (by omega); rw [show ((j : Int) - 1).toNat = j - 1 by omega, Int.toNat_natCast]; omega))) ?_
            refine J.cond_false rfl ?_
            refine J.skip ?_
            refine J.n_block ?_
            refine J.n_then ?_
            refine J.region ?_
            refine J.op (Yd.move rfl) rfl ?_
            refine J.op (Yd.add rfl rfl (by first | omega | exact idx_u8' _ | (simp only [Int.toNat_natCast]; omega) | (simp only [List.length_map, List.length_drop, List.length_take, List.length_append, List.length_replicate]; omega) | (simp <;> omega))) rfl ?_
            refine J.op (Yd.assign rfl) rfl ?_
            refine J.nil ?_
            refine J.n_then ?_
            exact J.round (j + 1) ⟨rfl, rfl, rfl, rfl, rfl, rfl, rfl, trivial⟩ (⟨by omega, hq, ho13, e0⟩) (by omega)
          · skip
            refine J.exit ?_
            refine J.x_then ?_
            refine J.x_then ?_
            refine J.x_block ?_
            refine J.n_block ?_
            refine J.n_then ?_
            refine J.region ?_
            refine J.op (Yd.move rfl) rfl ?_
            refine J.op (Yd.add rfl rfl (by first | omega | exact idx_u8' _ | (simp only [Int.toNat_natCast]; omega) | (simp only [List.length_map, List.length_drop, List.length_take, List.length_append, List.length_replicate]; omega) | (simp <;> omega))) rfl ?_
            refine J.op (Yd.assign rfl) rfl ?_
            refine J.nil ?_
            refine J.n_then ?_
            exact J.round ((n0 + 1, la1)) ⟨rfl, rfl, rfl, (someI (by omega)), rfl, trivial⟩ (⟨by show n0 + 1 ≤ tos.length; omega, ⟨K0, q2, hq, hj, (by show 0 ≤ la1 ∧ la1 ≤ ((n0 + 1 : Nat) : Int); omega)⟩, e0⟩) (by show tos.length - (n0 + 1) < tos.length - n0; omega)
  · skip
    refine J.exit ?_
    refine J.x_then ?_
    refine J.x_then ?_
    refine J.x_block ?_
    refine J.n_then ?_
    refine J.seq ?_
    refine J.region ?_
    refine J.eff (Ye.call cl8 rfl (Awake_ok)) rfl ?_
    rintro _ w63 ⟨rfl, x1⟩
    have e0 := e0.trans x1
    have hq := hq.ext x1
    clear x1
    refine J.op (Yd.assign rfl) rfl ?_
    refine J.nil ?_
    refine J.n_then ?_
    refine J.ret ?_
    exact J.ret1 rfl rfl (⟨_, rfl, rfl, e0⟩)

theorem Ids_ok {s s2 : Value} {tos : List Bool} {gone : List Int} {w : World} (hto : Rd w s (tos.map fun b => Value.bool b)) (hgo : Rd w s2 (gone.map fun x => I x)) : C Try.prog 7 [s, s2] w (Ret fun v w' => v = .bool true ∧ Ext w w') := by
  by_cases hb : tos.length ≤ 50 ∧ gone.length ≤ 30
  · exact IdsIn hto hgo hb
  · exact IdsOut hto hgo hb
end Ytmpfgiffpdackaa
end Go.Proofs
