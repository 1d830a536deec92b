import Derived.Test.YtmpfgiffpdackaaT
import Derived.Test.YtmpfgiffpdackaaG10
set_option linter.unusedVariables false
set_option linter.unusedSimpArgs false
set_option maxRecDepth 100000
set_option maxHeartbeats 4000000
namespace Go.Proofs
open Go.X Go.RowKit
namespace Ytmpfgiffpdackaa
theorem TimesOut {s : Value} {ticks : List Int} {ex : Int} {w : World} (hti : Rd w s (ticks.map fun x => I x)) (hb : ¬ (1 ≤ ex ∧ ex ≤ 1000 ∧ ticks.length ≤ 30)) : C Try.prog 3 [I ex, s] w (Ret fun v w' => v = .bool true ∧ Ext w w') := by
  have e0 := Ext.refl w
  refine C.enter Try.func3 rfl Try.ntmps3 rfl ?_
  refine J.seq ?_
  refine J.region ?_
  refine J.op (Yd.assign rfl) rfl ?_
  refine J.nil ?_
  refine J.n_then ?_
  refine J.seq ?_
  refine J.seq ?_
  refine J.region ?_
  refine J.op (Yd.move rfl) rfl ?_
  refine J.op (Yd.lss rfl rfl) rfl ?_
  refine J.op (Yd.move rfl) rfl ?_
  refine J.split_dec (t := 18) rfl (fun hs1 => ?_) (fun hs1 => ?_)
  · skip
    refine J.not_g rfl rfl rfl rfl rfl ?_
    refine J.not_g rfl rfl rfl rfl rfl ?_
    refine J.op (Yd.pick_t rfl rfl) rfl ?_
    refine J.op (Yd.move rfl) rfl ?_
    refine J.not_g rfl rfl rfl rfl rfl ?_
    refine J.not_g rfl rfl rfl rfl rfl ?_
    refine J.not_g rfl rfl rfl rfl rfl ?_
    refine J.op (Yd.pick_t rfl rfl) rfl ?_
    refine J.nil ?_
    refine J.n_then ?_
    refine J.cond_true rfl ?_
    refine J.seq ?_
    refine J.region ?_
    refine J.eff (Ye.call cl8 rfl (Awake_ok)) rfl ?_
    rintro _ w1 ⟨rfl, x1⟩
    have e0 := e0.trans x1
    clear x1
    refine J.op (Yd.assign rfl) rfl ?_
    refine J.nil ?_
    refine J.n_then ?_
    refine J.ret ?_
    refine J.r_then ?_
    exact J.ret1 rfl rfl (⟨_, rfl, rfl, e0⟩)
  · skip
    refine J.op_g rfl rfl rfl (Yd.move rfl) rfl ?_
    refine J.op_g rfl rfl rfl (Yd.gtr rfl rfl) rfl ?_
    refine J.op (Yd.pick_f rfl rfl) rfl ?_
    refine J.op (Yd.move rfl) rfl ?_
    refine J.split_dec (t := 22) rfl (fun hs2 => ?_) (fun hs2 => ?_)
    · skip
      refine J.not_g rfl rfl rfl rfl rfl ?_
      refine J.not_g rfl rfl rfl rfl rfl ?_
      refine J.not_g rfl rfl rfl rfl rfl ?_
      refine J.op (Yd.pick_t rfl rfl) rfl ?_
      refine J.nil ?_
      refine J.n_then ?_
      refine J.cond_true rfl ?_
      refine J.seq ?_
      refine J.region ?_
      refine J.eff (Ye.call cl8 rfl (Awake_ok)) rfl ?_
      rintro _ w2 ⟨rfl, x1⟩
      have e0 := e0.trans x1
      clear x1
      refine J.op (Yd.assign rfl) rfl ?_
      refine J.nil ?_
      refine J.n_then ?_
      refine J.ret ?_
      refine J.r_then ?_
      exact J.ret1 rfl rfl (⟨_, rfl, rfl, e0⟩)
    · skip
      refine J.op_g rfl rfl rfl (Yd.move rfl) rfl ?_
      refine J.op_g rfl rfl rfl (Yd.len_m Try.underlying22 rfl hti) rfl ?_
      refine J.op_g rfl rfl rfl (Yd.gtr rfl rfl) rfl ?_
      refine J.op (Yd.pick_f rfl rfl) rfl ?_
      refine J.nil ?_
      refine J.n_then ?_
      refine J.know (t := 26) (v' := .bool true) rfl (tt (by omega)) ?_
      refine J.cond_true rfl ?_
      refine J.seq ?_
      refine J.region ?_
      refine J.eff (Ye.call cl8 rfl (Awake_ok)) rfl ?_
      rintro _ w3 ⟨rfl, x1⟩
      have e0 := e0.trans x1
      clear x1
      refine J.op (Yd.assign rfl) rfl ?_
      refine J.nil ?_
      refine J.n_then ?_
      refine J.ret ?_
      refine J.r_then ?_
      exact J.ret1 rfl rfl (⟨_, rfl, rfl, e0⟩)

theorem TimesIn {s : Value} {ticks : List Int} {ex : Int} {w : World} (hti : Rd w s (ticks.map fun x => I x)) (hb : 1 ≤ ex ∧ ex ≤ 1000 ∧ ticks.length ≤ 30) : C Try.prog 3 [I ex, s] w (Ret fun v w' => v = .bool true ∧ Ext w w') := by
  have e0 := Ext.refl w
  refine C.enter Try.func3 rfl Try.ntmps3 rfl ?_
  refine J.seq ?_
  refine J.region ?_
  refine J.op (Yd.assign rfl) rfl ?_
  refine J.nil ?_
  refine J.n_then ?_
  refine J.seq ?_
  refine J.seq ?_
  refine J.region ?_
  refine J.op (Yd.move rfl) rfl ?_
  refine J.op (Yd.lss rfl rfl) rfl ?_
  refine J.op (Yd.move rfl) rfl ?_
  refine J.know (t := 18) (v' := .bool false) rfl (ff (by omega)) ?_
  refine J.op_g rfl rfl rfl (Yd.move rfl) rfl ?_
  refine J.op_g rfl rfl rfl (Yd.gtr rfl rfl) rfl ?_
  refine J.op (Yd.pick_f rfl rfl) rfl ?_
  refine J.op (Yd.move rfl) rfl ?_
  refine J.know (t := 22) (v' := .bool false) rfl (ff (by omega)) ?_
  refine J.op_g rfl rfl rfl (Yd.move rfl) rfl ?_
  refine J.op_g rfl rfl rfl (Yd.len_m Try.underlying22 rfl hti) rfl ?_
  refine J.op_g rfl rfl rfl (Yd.gtr rfl rfl) rfl ?_
  refine J.op (Yd.pick_f rfl rfl) rfl ?_
  refine J.nil ?_
  refine J.n_then ?_
  refine J.know (t := 26) (v' := .bool false) rfl (ff (by omega)) ?_
  refine J.cond_false rfl ?_
  refine J.skip ?_
  refine J.n_then ?_
  refine J.seq ?_
  refine J.region ?_
  refine J.op (Yd.move rfl) rfl ?_
  refine J.eff (Ye.call cl9 rfl (NewQ (exI_id (by omega)))) rfl ?_
  rintro _ w1 ⟨b, K0, rfl, hq, x1⟩
  have hq := hq.le e0.size
  have e0 := e0.trans x1
  clear x1
  refine J.op (Yd.assign rfl) rfl ?_
  refine J.nil ?_
  refine J.n_then ?_
  refine J.seq ?_
  refine J.seq ?_
  refine J.region ?_
  refine J.op (Yd.move rfl) rfl ?_
  refine J.op (Yd.cast (Yd.eqPn Try.underlying24 rfl rfl) (show _ = Value.bool false from rfl)) rfl ?_
  refine J.nil ?_
  refine J.n_then ?_
  refine J.cond_false rfl ?_
  refine J.skip ?_
  refine J.n_then ?_
  refine J.seq ?_
  refine J.region ?_
  refine J.op (Yd.assign rfl) rfl ?_
  refine J.nil ?_
  refine J.n_then ?_
  refine J.seq ?_
  refine J.region ?_
  refine J.op (Yd.assign rfl) rfl ?_
  refine J.nil ?_
  refine J.n_then ?_
  refine J.seq ?_
  refine J.seq ?_
  refine J.region ?_
  refine J.op (Yd.assign rfl) rfl ?_
  refine J.nil ?_
  refine J.n_then ?_
  refine J.block ?_
  refine J.loop (ι := Nat × Value × Int × List It × Int) (fun i => [(0, I ex), (1, s), (8, I (i.1 : Int)), (7, I i.2.2.1), (5, .pointer (some ⟨b, 0, none⟩)), (6, i.2.1)]) (fun i w' => i.1 ≤ ticks.length ∧ (∃ K0 q0, Rq 65 36 w.heap.size K0 w' b (ex, i.2.2.1, i.2.2.2.2) q0 ∧ QB [98] q0 i.2.2.2.1 ∧ TQ i.2.2.2.1 i.2.2.1 i.2.2.2.2 ∧ (∀ x ∈ i.2.2.2.1, i.2.2.1 - x.2.2.1 < ex) ∧ Out K0 i.2.1.ownBlock ∧ i.2.2.2.1.length ≤ 30 ∧ (0 ≤ i.2.2.1 ∧ i.2.2.1 ≤ 500 * ((i.1 : Nat) : Int)) ∧ (0 ≤ i.2.2.2.2 ∧ i.2.2.2.2 ≤ ((i.1 : Nat) : Int))) ∧ Ow w.heap.size 3 w' i.2.1 ((i.2.2.2.1.map bornP).map fun x => I x) ∧ Fr w.heap.size (i.2.1).ownBlock ∧ Ext w w') (fun i => ticks.length - i.1) ((0, nilS, (0 : Int), [], (0 : Int))) ⟨rfl, rfl, rfl, rfl, rfl, rfl, trivial⟩ (⟨Nat.zero_le _, ⟨K0, [], hq, .inl ⟨rfl, rfl⟩, TQ.nil _ _, (fun x hx => by cases hx), (fun k e => by cases e), Nat.zero_le _, by decide, by decide⟩, (Ow.nilM _ _ _ _), Fr.nil, e0⟩) ?_
  rintro ⟨n0, v6, nw, l, last⟩ w2 ⟨hk, ⟨K0, q0, hq, hqb, htq, hag, hov6, hll, hnb, hlb⟩, ho6a, fr_v6, e0⟩
  dsimp only at *
  refine J.seq ?_
  refine J.seq ?_
  refine J.region ?_
  refine J.op (Yd.move rfl) rfl ?_
  refine J.op (Yd.move rfl) rfl ?_
  refine J.op (Yd.len_m Try.underlying22 rfl (Rd.ext hti e0)) rfl ?_
  refine J.op (Yd.lss rfl rfl) rfl ?_
  refine J.nil ?_
  refine J.n_then ?_
  refine J.cond_dec rfl (fun hc2 => ?_) (fun hc2 => ?_)
  · skip
    refine J.skip ?_
    refine J.n_then ?_
    refine J.seq ?_
    refine J.block ?_
    refine J.seq ?_
    refine J.seq ?_
    refine J.region ?_
    refine J.op (Yd.move rfl) rfl ?_
    refine J.op (Yd.len_m Try.underlying22 rfl (Ow.rd ho6a)) rfl ?_
    refine J.op (Yd.lss rfl rfl) rfl ?_
    refine J.nil ?_
    refine J.n_then ?_
    refine J.cond_dec rfl (fun hc3 => ?_) (fun hc3 => ?_)
    · skip
      refine J.seq ?_
      refine J.region ?_
      refine J.op (Yd.move rfl) rfl ?_
      refine J.eff (Ye.call cl10 rfl (PutQ_ok hq ⟨by decide, by decide⟩ ⟨by decide, by decide⟩ (Rd.nilM (fun x : UInt8 => B x) _) (fun k e => by cases e) (by simp) (by rw [hqb.get]; rw [List.length_map] at hc3; omega) (by omega))) rfl ?_
      rintro _ w3 ⟨rfl, K1_, hq2, hkk, hT2⟩
      have out_v6_ : Out K1_ v6.ownBlock := Out.kk hov6 (Ow.live ho6a) hkk
      have ho6a := Ow.thK ho6a hT2 hq.bb hov6
      have e0 := Ext.thK e0 hT2 hq.bb (fun k hk => (hq.kb k hk).1)
      have out_v6 := out_v6_
      clear out_v6_
      replace hq := hq2
      clear hq2 hkk hT2
      rw [hqb.get] at hq
      obtain ⟨l1, hl1⟩ : ∃ l1, l1 = l ++ [((last + 1, [97], nw, []) : It)] := ⟨_, rfl⟩
      rw [← hl1] at hq
      have hqb := hqb.put l1
      have htq : TQ l1 nw (last + 1) := hl1 ▸ htq.put hnb.1
      have hag : ∀ x ∈ l1, nw - x.2.2.1 < ex := fun x hx => by rw [hl1] at hx; rcases List.mem_append.1 hx with hx | hx; exact hag x hx; rw [List.mem_singleton] at hx; subst hx; show nw - nw < ex; omega
      have hll : l1.length ≤ 30 := by rw [hl1, List.length_append, List.length_singleton]; rw [List.length_map] at hc3; omega
      have hbl : l.map bornP ++ [nw] = l1.map bornP := by rw [hl1, List.map_append]; rfl
      obtain ⟨la1, hla1⟩ : ∃ la1, la1 = last + 1 := ⟨_, rfl⟩
      rw [← hla1] at hq htq
      obtain ⟨q1, hq1⟩ : ∃ q1, q1 = qset [98] l1 q0 := ⟨_, rfl⟩
      rw [← hq1] at hq hqb
      refine J.op (Yd.move rfl) rfl ?_
      refine J.op (Yd.extract rfl rfl) rfl ?_
      refine J.op (Yd.extract rfl rfl) rfl ?_
      refine J.op (Yd.assign rfl) rfl ?_
      refine J.op (Yd.assign rfl) rfl ?_
      refine J.nil ?_
      refine J.n_then ?_
      refine J.seq ?_
      refine J.seq ?_
      refine J.region ?_
      refine J.op (Yd.move rfl) rfl ?_
      refine J.op (Yd.neq rfl rfl) rfl ?_
      refine J.nil ?_
      refine J.n_then ?_
      refine J.know (t := 47) (v' := .bool false) rfl (ff (by decide)) ?_
      refine J.cond_false rfl ?_
      refine J.skip ?_
      refine J.n_then ?_
      refine J.region ?_
      refine J.op (Yd.move rfl) rfl ?_
      refine J.op (Yd.move rfl) rfl ?_
      refine J.eff (Ye.lit1 (base := w3.heap.size) (f := (fun x : Int => I x)) Try.underlying22 ti3 rfl rfl (fun _ => rfl) (Nat.le_refl _)) rfl ?_
      rintro s50_4 w4 ⟨o50_4, x1⟩
      have ap_v6_s50_4 : Ap v6.ownBlock s50_4.ownBlock := Ap.mk (Ow.live ho6a) (Ow.fr o50_4)
      have fr_s50_4 : Fr w.heap.size s50_4.ownBlock := Fr.le (Ow.fr o50_4) e0.size
      have out_s50_4 : Out K1_ s50_4.ownBlock := hq.out (Ow.fr o50_4)
      replace o50_4 := Ow.base o50_4 e0.size
      have e0 := e0.trans x1
      have ho6a := ho6a.ext x1
      have hq := hq.ext x1
      clear x1
      refine J.eff (Ye.appendS Try.underlying22 ti3 rfl rfl rfl rfl ho6a (Ow.rd o50_4) (fun _ => rfl) (by first | omega | exact idx_u8' _ | (simp only [Int.toNat_natCast]; omega) | (simp only [List.length_map, List.length_drop, List.length_take, List.length_append, List.length_replicate]; omega) | (simp <;> omega)) e0.size) rfl ?_
      rintro s51_5 w5 ⟨o51_5, hg, hsf⟩
      have ap_s50_4_s51_5 : Ap s50_4.ownBlock s51_5.ownBlock := Ap.sf (Ap.symm ap_v6_s50_4) (Ow.live o50_4) hsf
      have fr_s51_5 : Fr w.heap.size s51_5.ownBlock := Fr.sf fr_v6 hsf e0.size
      have out_s51_5 : Out K1_ s51_5.ownBlock := hq.outS out_v6 hsf
      have hq := hq.g1 hg out_v6
      have o50_4 := Ow.gbk o50_4 hg (Ap.symm ap_v6_s50_4)
      have e0 := Ext.gbk e0 fr_v6 hg
      clear hg hsf
      refine J.op (Yd.assign rfl) rfl ?_
      refine J.nil ?_
      refine J.n_then ?_
      refine J.seq ?_
      refine J.region ?_
      refine J.op (Yd.move rfl) rfl ?_
      refine J.op (Yd.move rfl) rfl ?_
      refine J.op (Yd.idx_m Try.underlying22 ti3 rfl rfl (Rd.ext hti e0) (by first | omega | exact idx_u8' _ | (simp only [Int.toNat_natCast]; omega) | (simp only [List.length_map, List.length_drop, List.length_take, List.length_append, List.length_replicate]; omega) | (simp <;> omega))) rfl ?_
      refine J.op (Yd.load pl3 rfl (Rd.cellI (Rd.ext hti e0) (by first | omega | exact idx_u8' _ | (simp only [Int.toNat_natCast]; omega) | (simp only [List.length_map, List.length_drop, List.length_take, List.length_append, List.length_replicate]; omega) | (simp <;> omega)))) rfl ?_
      refine J.eff (Ye.call cl11 rfl (Round_ok (by omega) (by omega))) rfl ?_
      rintro _ w6 ⟨rfl, x1⟩
      have e0 := e0.trans x1
      have hq := hq.ext x1
      have o50_4 := o50_4.ext x1
      have o51_5 := o51_5.ext x1
      clear x1
      obtain ⟨T, hT, hTb⟩ : ∃ T : Int, T = ticks.getD (n0 : Int).toNat 0 % 500 ∧ 0 ≤ T ∧ T < 500 := ⟨_, rfl, by omega, by omega⟩
      rw [hbl] at o51_5
      refine J.op (Yd.cast (Yd.assign rfl) (congrArg (fun z => I z) hT.symm)) rfl ?_
      refine J.nil ?_
      refine J.n_then ?_
      refine J.seq ?_
      refine J.region ?_
      refine J.op (Yd.move rfl) rfl ?_
      refine J.op (Yd.move rfl) rfl ?_
      by_cases htz : T < 1
      · skip
        refine J.eff (Ye.call cl12 rfl (Tick0_ok htz)) rfl ?_
        rintro _ w7 ⟨rfl, x1⟩
        have e0 := e0.trans x1
        have hq := hq.ext x1
        have o50_4 := o50_4.ext x1
        have o51_5 := o51_5.ext x1
        clear x1
        have hT0 : T = 0 := by omega
        obtain ⟨l2, hl2⟩ : ∃ l2, l2 = l1.filter (fun x => !agP (nw + T) ex x) := ⟨_, rfl⟩
        have hl2e : l2 = l1 := by rw [hl2]; exact flt_all (fun x hx => by have := hag x hx; omega)
        replace hq : Rq 65 36 w.heap.size K1_ w7 b (ex, nw + T, la1) q1 := by rw [show nw + T = nw by omega]; exact hq
        have hqb2 := hqb
        rw [← hl2e] at hqb2
        obtain ⟨q2, hq2⟩ : ∃ q2, q2 = q1 := ⟨_, rfl⟩
        rw [← hq2] at hq hqb2
        refine J.nil ?_
        refine J.n_then ?_
        refine J.seq ?_
        refine J.region ?_
        refine J.op (Yd.move rfl) rfl ?_
        refine J.op (Yd.move rfl) rfl ?_
        refine J.op (Yd.add rfl rfl (by first | omega | exact idx_u8' _ | (simp only [Int.toNat_natCast]; omega) | (simp only [List.length_map, List.length_drop, List.length_take, List.length_append, List.length_replicate]; omega) | (simp <;> omega))) rfl ?_
        refine J.op (Yd.assign rfl) rfl ?_
        refine J.nil ?_
        refine J.n_then ?_
        refine J.seq ?_
        refine J.region ?_
        refine J.op (Yd.assign rfl) rfl ?_
        refine J.nil ?_
        refine J.n_then ?_
        refine J.seq ?_
        refine J.seq ?_
        refine J.region ?_
        refine J.op (Yd.assign rfl) rfl ?_
        refine J.nil ?_
        refine J.n_then ?_
        refine J.block ?_
        refine J.loop (ι := Nat × Value) (fun i => [(0, I ex), (1, s), (8, I (n0 : Int)), (7, I (nw + T)), (13, I (i.1 : Int)), (5, .pointer (some ⟨b, 0, none⟩)), (6, s51_5), (12, i.2)]) (fun i w' => i.1 ≤ l1.length ∧ Rq 65 36 w.heap.size K1_ w' b (ex, nw + T, la1) q2 ∧ Out K1_ i.2.ownBlock ∧ Ow w.heap.size 3 w' s51_5 ((l1.map bornP).map fun x => I x) ∧ Ow w.heap.size 3 w' i.2 ((((l1.take i.1).filter (fun x => !agP (nw + T) ex x)).map bornP).map fun x => I x) ∧ Fr w.heap.size (i.2).ownBlock ∧ Ap s51_5.ownBlock (i.2).ownBlock ∧ Ext w w') (fun i => l1.length - i.1) ((0, nilS)) ⟨rfl, rfl, rfl, rfl, rfl, rfl, rfl, rfl, trivial⟩ (⟨Nat.zero_le _, hq, (fun k e => by cases e), o51_5, (Ow.nilM _ _ _ _), Fr.nil, Ap.nil_r, e0⟩) ?_
        rintro ⟨k, v12⟩ w8 ⟨hk1, hq, hov12, ho6, ho12, fr_v12, ap_s51_5_v12, e0⟩
        dsimp only at *
        refine J.seq ?_
        refine J.seq ?_
        refine J.region ?_
        refine J.op (Yd.move rfl) rfl ?_
        refine J.op (Yd.move rfl) rfl ?_
        refine J.op (Yd.len_m Try.underlying22 rfl (Ow.rd ho6)) rfl ?_
        refine J.op (Yd.lss rfl rfl) rfl ?_
        refine J.nil ?_
        refine J.n_then ?_
        refine J.cond_dec rfl (fun hc5 => ?_) (fun hc5 => ?_)
        · skip
          have hbk := htq.bd _ (show l1.getD k itD0 ∈ l1 from getD_memE itD0 (by rw [List.length_map] at hc5; omega))
          have hfl := List.length_filter_le (fun x => !agP (nw + T) ex x) (l1.take k)
          have htk := List.length_take_le k l1
          refine J.skip ?_
          refine J.n_then ?_
          refine J.seq ?_
          refine J.block ?_
          refine J.seq ?_
          refine J.region ?_
          refine J.op (Yd.move rfl) rfl ?_
          refine J.op (Yd.move rfl) rfl ?_
          refine J.op (Yd.move rfl) rfl ?_
          refine J.op (Yd.idx_m Try.underlying22 ti3 rfl rfl (Ow.rd ho6) (by first | omega | exact idx_u8' _ | (simp only [Int.toNat_natCast]; omega) | (simp only [List.length_map, List.length_drop, List.length_take, List.length_append, List.length_replicate]; omega) | (simp <;> omega))) rfl ?_
          refine J.op (Yd.cast (Yd.load pl3 rfl (Rd.cellI (Ow.rd ho6) (by first | omega | exact idx_u8' _ | (simp only [Int.toNat_natCast]; omega) | (simp only [List.length_map, List.length_drop, List.length_take, List.length_append, List.length_replicate]; omega) | (simp <;> omega)))) (congrArg (fun z => I z) (show _ = (l1.getD k itD0).2.2.1 by rw [Int.toNat_natCast, bornP_get (by rw [List.length_map] at hc5; omega)]))) rfl ?_
          refine J.op (Yd.sub rfl rfl (by first | omega | exact idx_u8' _ | (simp only [Int.toNat_natCast]; omega) | (simp only [List.length_map, List.length_drop, List.length_take, List.length_append, List.length_replicate]; omega) | (simp <;> omega))) rfl ?_
          refine J.op (Yd.move rfl) rfl ?_
          refine J.op (Yd.lss rfl rfl) rfl ?_
          refine J.nil ?_
          refine J.n_then ?_
          refine J.cond_dec rfl (fun hc6 => ?_) (fun hc6 => ?_)
          · skip
            refine J.region ?_
            refine J.op (Yd.move rfl) rfl ?_
            refine J.op (Yd.move rfl) rfl ?_
            refine J.op (Yd.move rfl) rfl ?_
            refine J.op (Yd.idx_m Try.underlying22 ti3 rfl rfl (Ow.rd ho6) (by first | omega | exact idx_u8' _ | (simp only [Int.toNat_natCast]; omega) | (simp only [List.length_map, List.length_drop, List.length_take, List.length_append, List.length_replicate]; omega) | (simp <;> omega))) rfl ?_
            refine J.op (Yd.cast (Yd.load pl3 rfl (Rd.cellI (Ow.rd ho6) (by first | omega | exact idx_u8' _ | (simp only [Int.toNat_natCast]; omega) | (simp only [List.length_map, List.length_drop, List.length_take, List.length_append, List.length_replicate]; omega) | (simp <;> omega)))) (congrArg (fun z => I z) (show _ = (l1.getD k itD0).2.2.1 by rw [Int.toNat_natCast, bornP_get (by rw [List.length_map] at hc5; omega)]))) rfl ?_
            refine J.eff (Ye.lit1 (base := w8.heap.size) (f := (fun x : Int => I x)) Try.underlying22 ti3 rfl rfl (fun _ => rfl) (Nat.le_refl _)) rfl ?_
            rintro s82_9 w9 ⟨o82_9, x1⟩
            have ap_s51_5_s82_9 : Ap s51_5.ownBlock s82_9.ownBlock := Ap.mk (Ow.live ho6) (Ow.fr o82_9)
            have ap_v12_s82_9 : Ap v12.ownBlock s82_9.ownBlock := Ap.mk (Ow.live ho12) (Ow.fr o82_9)
            have fr_s82_9 : Fr w.heap.size s82_9.ownBlock := Fr.le (Ow.fr o82_9) e0.size
            have out_s82_9 : Out K1_ s82_9.ownBlock := hq.out (Ow.fr o82_9)
            replace o82_9 := Ow.base o82_9 e0.size
            have e0 := e0.trans x1
            have ho6 := ho6.ext x1
            have ho12 := ho12.ext x1
            have hq := hq.ext x1
            clear x1
            refine J.eff (Ye.appendS Try.underlying22 ti3 rfl rfl rfl rfl ho12 (Ow.rd o82_9) (fun _ => rfl) (by first | omega | exact idx_u8' _ | (simp only [Int.toNat_natCast]; omega) | (simp only [List.length_map, List.length_drop, List.length_take, List.length_append, List.length_replicate]; omega) | (simp <;> omega)) e0.size) rfl ?_
            rintro s83_10 w10 ⟨o83_10, hg, hsf⟩
            have ap_s51_5_s83_10 : Ap s51_5.ownBlock s83_10.ownBlock := Ap.sf ap_s51_5_v12 (Ow.live ho6) hsf
            have ap_s82_9_s83_10 : Ap s82_9.ownBlock s83_10.ownBlock := Ap.sf (Ap.symm ap_v12_s82_9) (Ow.live o82_9) hsf
            have fr_s83_10 : Fr w.heap.size s83_10.ownBlock := Fr.sf fr_v12 hsf e0.size
            have out_s83_10 : Out K1_ s83_10.ownBlock := hq.outS hov12 hsf
            have ho6 := Ow.gbk ho6 hg ap_s51_5_v12
            have hq := hq.g1 hg hov12
            have o82_9 := Ow.gbk o82_9 hg (Ap.symm ap_v12_s82_9)
            have e0 := Ext.gbk e0 fr_v12 hg
            clear hg hsf
            refine J.op (Yd.assign rfl) rfl ?_
            refine J.nil ?_
            refine J.n_block ?_
            refine J.n_then ?_
            refine J.region ?_
            refine J.op (Yd.move rfl) rfl ?_
            refine J.op (Yd.add rfl rfl (by first | omega | exact idx_u8' _ | (simp only [Int.toNat_natCast]; omega) | (simp only [List.length_map, List.length_drop, List.length_take, List.length_append, List.length_replicate]; omega) | (simp <;> omega))) rfl ?_
            refine J.op (Yd.assign rfl) rfl ?_
            refine J.nil ?_
            refine J.n_then ?_
            exact J.round ((k + 1, s83_10)) ⟨rfl, rfl, rfl, rfl, rfl, rfl, rfl, rfl, trivial⟩ (⟨by show k + 1 ≤ l1.length; rw [List.length_map] at hc5; omega, hq, out_s83_10, ho6, (by rw [List.length_map] at hc5; rw [flt_take (by omega)]; rw [if_pos (keep_yes hc6)]; exact o83_10), fr_s83_10, ap_s51_5_s83_10, e0⟩) (by show l1.length - (k + 1) < l1.length - k; rw [List.length_map] at hc5; omega)
          · skip
            refine J.skip ?_
            refine J.n_block ?_
            refine J.n_then ?_
            refine J.region ?_
            refine J.op (Yd.move rfl) rfl ?_
            refine J.op (Yd.add rfl rfl (by first | omega | exact idx_u8' _ | (simp only [Int.toNat_natCast]; omega) | (simp only [List.length_map, List.length_drop, List.length_take, List.length_append, List.length_replicate]; omega) | (simp <;> omega))) rfl ?_
            refine J.op (Yd.assign rfl) rfl ?_
            refine J.nil ?_
            refine J.n_then ?_
            exact J.round ((k + 1, v12)) ⟨rfl, rfl, rfl, rfl, rfl, rfl, rfl, rfl, trivial⟩ (⟨by show k + 1 ≤ l1.length; rw [List.length_map] at hc5; omega, hq, hov12, ho6, (by rw [List.length_map] at hc5; rw [flt_take (by omega)]; rw [if_neg (keep_no hc6), List.append_nil]; exact ho12), fr_v12, ap_s51_5_v12, e0⟩) (by show l1.length - (k + 1) < l1.length - k; rw [List.length_map] at hc5; omega)
        · skip
          rw [List.length_map] at hc5
          have hl12 : ((l1.take k).filter (fun x => !agP (nw + T) ex x)).map bornP = l2.map bornP := by rw [hl2, List.take_of_length_le (by omega)]
          rw [hl12] at ho12
          have htq2 : TQ l2 (nw + T) la1 := hl2 ▸ htq.filter _ (by omega)
          have hfr2 : ∀ x ∈ l2, x.2.2.2 = [] := fun x hx => (htq2.bd x hx).2.2
          have hll2 : l2.length ≤ 30 := by rw [hl2]; exact Nat.le_trans (List.length_filter_le _ _) hll
          refine J.exit ?_
          refine J.x_then ?_
          refine J.x_then ?_
          refine J.x_block ?_
          refine J.n_then ?_
          refine J.seq ?_
          refine J.region ?_
          refine J.op (Yd.move rfl) rfl ?_
          refine J.op (Yd.assign rfl) rfl ?_
          refine J.nil ?_
          refine J.n_then ?_
          refine J.seq ?_
          refine J.region ?_
          refine J.op (Yd.move rfl) rfl ?_
          refine J.eff (Ye.call cl13 rfl (ListQ_ok hq (by rw [hqb2.get]; intro x hx; rw [hfr2 x hx]; exact Nat.zero_le _) (by rw [hqb2.get]; omega))) rfl ?_
          rintro v86 w11 ⟨es, ov86, hhd, x1⟩
          have ap_s51_5_v86 : Ap s51_5.ownBlock v86.ownBlock := Ap.mk (Ow.live ho6) (Es.fr ov86)
          have ap_v12_v86 : Ap v12.ownBlock v86.ownBlock := Ap.mk (Ow.live ho12) (Es.fr ov86)
          have fr_v86 : Fr w.heap.size v86.ownBlock := Fr.le (Es.fr ov86) e0.size
          have out_v86 : Out K1_ v86.ownBlock := hq.out (Es.fr ov86)
          replace ov86 := Es.base ov86 e0.size
          have e0 := e0.trans x1
          have ho6 := ho6.ext x1
          have ho12 := ho12.ext x1
          have hq := hq.ext x1
          clear x1
          rw [hqb2.get] at hhd
          have hln := congrArg List.length hhd
          rw [List.length_map, List.length_map] at hln
          have hdb : ∀ j, j < l2.length → (es.getD j itmD).2.2.1 = (l2.getD j itD0).2.2.1 := fun j hj => congrArg (fun z => z.2.2) (hdr_get hhd hj)
          have hdi : ∀ j, j < l2.length → (es.getD j itmD).1 = (l2.getD j itD0).1 := fun j hj => congrArg (fun z => z.1) (hdr_get hhd hj)
          refine J.op (Yd.assign rfl) rfl ?_
          refine J.nil ?_
          refine J.n_then ?_
          refine J.seq ?_
          refine J.seq ?_
          refine J.region ?_
          refine J.op (Yd.move rfl) rfl ?_
          refine J.op (Yd.lenE (K := itmS) Try.underlying31 rfl (Es.rd ov86)) rfl ?_
          refine J.op (Yd.move rfl) rfl ?_
          refine J.op (Yd.len_m Try.underlying22 rfl (Ow.rd ho12)) rfl ?_
          refine J.op (Yd.neq rfl rfl) rfl ?_
          refine J.op (Yd.move rfl) rfl ?_
          refine J.know (t := 92) (v' := .bool false) rfl (ff (by rw [List.length_map]; omega)) ?_
          refine J.op_g rfl rfl rfl (Yd.move rfl) rfl ?_
          refine J.eff_g rfl rfl rfl (Ye.call cl14 rfl (NowQ_ok hq)) rfl ?_
          rintro _ w12 ⟨rfl, x1⟩
          have e0 := e0.trans x1
          have ho6 := ho6.ext x1
          have ho12 := ho12.ext x1
          have hq := hq.ext x1
          have ov86 := ov86.ext x1
          clear x1
          refine J.op_g rfl rfl rfl (Yd.move rfl) rfl ?_
          refine J.op_g rfl rfl rfl (Yd.neq rfl rfl) rfl ?_
          refine J.op (Yd.pick_f rfl rfl) rfl ?_
          refine J.nil ?_
          refine J.n_then ?_
          refine J.know (t := 97) (v' := .bool false) rfl (ff (by omega)) ?_
          refine J.cond_false rfl ?_
          refine J.skip ?_
          refine J.n_then ?_
          refine J.seq ?_
          refine J.region ?_
          refine J.op (Yd.assign rfl) rfl ?_
          refine J.nil ?_
          refine J.n_then ?_
          refine J.block ?_
          refine J.loop (ι := Nat) (fun i => [(0, I ex), (1, s), (8, I (n0 : Int)), (7, I (nw + T)), (15, I (i : Int)), (5, .pointer (some ⟨b, 0, none⟩)), (6, v12), (14, v86)]) (fun i w' => i ≤ l2.length ∧ Rq 65 36 w.heap.size K1_ w' b (ex, nw + T, la1) q2 ∧ Ow w.heap.size 3 w' v12 ((l2.map bornP).map fun x => I x) ∧ Es itmS w.heap.size 36 w' v86 es ∧ Ext w w') (fun i => l2.length - i) (0) ⟨rfl, rfl, rfl, rfl, rfl, rfl, rfl, rfl, trivial⟩ (⟨Nat.zero_le _, hq, ho12, ov86, e0⟩) ?_
          rintro j w13 ⟨hk2, hq, ho6, ho14, e0⟩
          refine J.seq ?_
          refine J.seq ?_
          refine J.region ?_
          refine J.op (Yd.move rfl) rfl ?_
          refine J.op (Yd.move rfl) rfl ?_
          refine J.op (Yd.lenE (K := itmS) Try.underlying31 rfl (Es.rd ho14)) rfl ?_
          refine J.op (Yd.lss rfl rfl) rfl ?_
          refine J.nil ?_
          refine J.n_then ?_
          refine J.cond_dec rfl (fun hc8 => ?_) (fun hc8 => ?_)
          · skip
            refine J.skip ?_
            refine J.n_then ?_
            refine J.seq ?_
            refine J.block ?_
            refine J.seq ?_
            refine J.regionO [(0, true), (1, true), (5, true), (6, true)] [(2, 1), (7, 1), (8, 1), (3, 1), (4, 1), (9, 1), (10, 1), (11, 1), (12, 1), (13, 1), (14, 1), (15, 1), (16, 1), (17, 1), (18, 1), (19, 1), (20, 1), (21, 1), (22, 1), (23, 1), (24, 1)] [(25, true), (26, true), (27, true)] mix (by kernel_rfl) ?_
            refine J.s_op rfl (fun _ => Yd.move rfl) rfl ?_
            refine J.s_op rfl (fun _ => Yd.move rfl) rfl ?_
            refine J.s_op rfl (fun _ => Yd.move rfl) rfl ?_
            refine J.s_op rfl (fun _ => Yd.move rfl) rfl ?_
            refine J.s_nil ?_
            refine J.o_op rfl (Yd.idxE (K := itmS) Try.underlying31 ti36 rfl rfl (Es.rd ho14) (by first | omega | exact idx_u8' _ | (simp only [Int.toNat_natCast]; omega) | (simp only [List.length_map, List.length_drop, List.length_take, List.length_append, List.length_replicate]; omega) | (simp <;> omega))) rfl ?_
            refine J.o_op rfl (Yd.idx_m Try.underlying22 ti3 rfl rfl (Ow.rd ho6) (by first | omega | exact idx_u8' _ | (simp only [Int.toNat_natCast]; omega) | (simp only [List.length_map, List.length_drop, List.length_take, List.length_append, List.length_replicate]; omega) | (simp <;> omega))) rfl ?_
            refine J.o_op rfl (Yd.load pl3 rfl (Rd.cellI (Ow.rd ho6) (by first | omega | exact idx_u8' _ | (simp only [Int.toNat_natCast]; omega) | (simp only [List.length_map, List.length_drop, List.length_take, List.length_append, List.length_replicate]; omega) | (simp <;> omega)))) rfl ?_
            refine J.o_op rfl (Yd.fieldE (K := itmS) (Es.rd ho14) (by omega) Try.underlying36 rfl ti3 rfl rfl) rfl ?_
            refine J.o_op rfl (Yd.loadFd (K := itmS) itmD pl3 rfl (Es.rd ho14) (by first | omega | exact idx_u8' _ | (simp only [Int.toNat_natCast]; omega) | (simp only [List.length_map, List.length_drop, List.length_take, List.length_append, List.length_replicate]; omega) | (simp <;> omega)) rfl) rfl ?_
            refine J.o_op rfl (Yd.neq rfl rfl) rfl ?_
            refine J.o_op rfl (Yd.move rfl) rfl ?_
            refine J.know (t := 114) (v' := .bool false) rfl (ff (by rw [Int.toNat_natCast, bornP_get (by omega)]; exact fun h => h (hdb j (by omega)))) ?_
            refine J.o_op_g rfl rfl rfl rfl (Yd.move rfl) rfl ?_
            refine J.o_op_g rfl rfl rfl rfl (Yd.gtr rfl rfl) rfl ?_
            refine J.o_op_g rfl rfl rfl rfl (Yd.move rfl) rfl ?_
            refine J.split_dec (t := 117) rfl (fun hk0 => ?_) (fun hk0 => ?_)
            · skip
              refine J.o_op_g rfl rfl rfl rfl (Yd.move rfl) rfl ?_
              refine J.o_op_g rfl rfl rfl rfl (Yd.move rfl) rfl ?_
              refine J.o_op_g rfl rfl rfl rfl (Yd.idxE (K := itmS) Try.underlying31 ti36 rfl rfl (Es.rd ho14) (by first | omega | exact idx_u8' _ | (simp only [Int.toNat_natCast]; omega) | (simp only [List.length_map, List.length_drop, List.length_take, List.length_append, List.length_replicate]; omega) | (simp <;> omega))) rfl ?_
              refine J.o_op_g rfl rfl rfl rfl (Yd.fieldE (K := itmS) (Es.rd ho14) (by omega) Try.underlying36 rfl ti3 rfl rfl) rfl ?_
              refine J.o_op_g rfl rfl rfl rfl (Yd.loadFd (K := itmS) itmD pl3 rfl (Es.rd ho14) (by first | omega | exact idx_u8' _ | (simp only [Int.toNat_natCast]; omega) | (simp only [List.length_map, List.length_drop, List.length_take, List.length_append, List.length_replicate]; omega) | (simp <;> omega)) rfl) rfl ?_
              refine J.o_op_g rfl rfl rfl rfl (Yd.move rfl) rfl ?_
              refine J.o_op_g rfl rfl rfl rfl (Yd.move rfl) rfl ?_
              refine J.o_op_g rfl rfl rfl rfl (Yd.sub rfl rfl (by first | omega | exact idx_u8' _ | (simp only [Int.toNat_natCast]; omega) | (simp only [List.length_map, List.length_drop, List.length_take, List.length_append, List.length_replicate]; omega) | (simp <;> omega))) rfl ?_
              refine J.o_op_g rfl rfl rfl rfl (Yd.idxE (K := itmS) Try.underlying31 ti36 rfl rfl (Es.rd ho14) (by first | omega | exact idx_u8' _ | (simp only [Int.toNat_natCast]; omega) | (simp only [List.length_map, List.length_drop, List.length_take, List.length_append, List.length_replicate]; omega) | (simp <;> omega))) rfl ?_
              refine J.o_op_g rfl rfl rfl rfl (Yd.fieldE (K := itmS) (Es.rd ho14) (by omega) Try.underlying36 rfl ti3 rfl rfl) rfl ?_
              refine J.o_op_g rfl rfl rfl rfl (Yd.loadFd (K := itmS) itmD pl3 rfl (Es.rd ho14) (by first | omega | exact idx_u8' _ | (simp only [Int.toNat_natCast]; omega) | (simp only [List.length_map, List.length_drop, List.length_take, List.length_append, List.length_replicate]; omega) | (simp <;> omega)) rfl) rfl ?_
              refine J.o_nil ?_
              refine J.s_op_g rfl rfl rfl rfl (fun _ => Yd.leq rfl rfl) rfl ?_
              refine J.s_op_g rfl rfl rfl rfl (fun _ => Yd.pick_t rfl rfl) rfl ?_
              refine J.s_op rfl (fun _ => Yd.pick_f rfl rfl) rfl ?_
              refine J.s_nil ?_
              refine J.n_np ?_
              refine J.n_then ?_
              refine J.know (t := 131) (v' := .bool false) rfl (ff (by first | omega | (have h7 := hdi j (by omega); have h8 := hdi (j - 1) (by omega); have h9 := (htq2.lt (show j < l2.length by omega) (by omega)); rw [show ((j : Int) - 1).toNat = j - 1 by omega, Int.toNat_natCast]; omega))) ?_
              refine J.cond_false rfl ?_
              refine J.skip ?_
              refine J.n_block ?_
              refine J.n_then ?_
              refine J.region ?_
              refine J.op (Yd.move rfl) rfl ?_
              refine J.op (Yd.add rfl rfl (by first | omega | exact idx_u8' _ | (simp only [Int.toNat_natCast]; omega) | (simp only [List.length_map, List.length_drop, List.length_take, List.length_append, List.length_replicate]; omega) | (simp <;> omega))) rfl ?_
              refine J.op (Yd.assign rfl) rfl ?_
              refine J.nil ?_
              refine J.n_then ?_
              exact J.round (j + 1) ⟨rfl, rfl, rfl, rfl, rfl, rfl, rfl, rfl, trivial⟩ (⟨by omega, hq, ho6, ho14, e0⟩) (by omega)
            · skip
              refine J.o_not_g rfl rfl rfl rfl rfl rfl ?_
              refine J.o_not_g rfl rfl rfl rfl rfl rfl ?_
              refine J.o_not_g rfl rfl rfl rfl rfl rfl ?_
              refine J.o_not_g rfl rfl rfl rfl rfl rfl ?_
              refine J.o_not_g rfl rfl rfl rfl rfl rfl ?_
              refine J.o_not_g rfl rfl rfl rfl rfl rfl ?_
              refine J.o_not_g rfl rfl rfl rfl rfl rfl ?_
              refine J.o_not_g rfl rfl rfl rfl rfl rfl ?_
              refine J.o_not_g rfl rfl rfl rfl rfl rfl ?_
              refine J.o_not_g rfl rfl rfl rfl rfl rfl ?_
              refine J.o_not_g rfl rfl rfl rfl rfl rfl ?_
              refine J.o_nil ?_
              refine J.s_not_g rfl rfl rfl rfl rfl rfl ?_
              refine J.s_op_g rfl rfl rfl rfl (fun _ => Yd.pick_f rfl rfl) rfl ?_
              refine J.s_op rfl (fun _ => Yd.pick_f rfl rfl) rfl ?_
              refine J.s_nil ?_
              refine J.n_np ?_
              refine J.n_then ?_
              refine J.cond_false rfl ?_
              refine J.skip ?_
              refine J.n_block ?_
              refine J.n_then ?_
              refine J.region ?_
              refine J.op (Yd.move rfl) rfl ?_
              refine J.op (Yd.add rfl rfl (by first | omega | exact idx_u8' _ | (simp only [Int.toNat_natCast]; omega) | (simp only [List.length_map, List.length_drop, List.length_take, List.length_append, List.length_replicate]; omega) | (simp <;> omega))) rfl ?_
              refine J.op (Yd.assign rfl) rfl ?_
              refine J.nil ?_
              refine J.n_then ?_
              exact J.round (j + 1) ⟨rfl, rfl, rfl, rfl, rfl, rfl, rfl, rfl, trivial⟩ (⟨by omega, hq, ho6, ho14, e0⟩) (by omega)
          · skip
            refine J.exit ?_
            refine J.x_then ?_
            refine J.x_then ?_
            refine J.x_block ?_
            refine J.n_block ?_
            refine J.n_then ?_
            refine J.region ?_
            refine J.op (Yd.move rfl) rfl ?_
            refine J.op (Yd.add rfl rfl (by first | omega | exact idx_u8' _ | (simp only [Int.toNat_natCast]; omega) | (simp only [List.length_map, List.length_drop, List.length_take, List.length_append, List.length_replicate]; omega) | (simp <;> omega))) rfl ?_
            refine J.op (Yd.assign rfl) rfl ?_
            refine J.nil ?_
            refine J.n_then ?_
            exact J.round ((n0 + 1, v12, nw + T, l2, la1)) ⟨rfl, rfl, rfl, rfl, rfl, rfl, trivial⟩ (⟨by show n0 + 1 ≤ ticks.length; omega, ⟨K1_, _, hq, hqb2, htq2, (fun x hx => by rw [hl2] at hx; have h9 := (List.mem_filter.1 hx).2; unfold agP at h9; simp at h9; omega), hov12, hll2, (by show 0 ≤ nw + T ∧ nw + T ≤ 500 * ((n0 + 1 : Nat) : Int); omega), (by show 0 ≤ la1 ∧ la1 ≤ ((n0 + 1 : Nat) : Int); omega)⟩, ho6, fr_v12, e0⟩) (by show ticks.length - (n0 + 1) < ticks.length - n0; omega)
      · skip
        refine J.eff (Ye.call cl12 rfl (TickQ_ok hq (by omega) (by omega) (by omega) (hqb.all (fun x hx => by have := htq.bd x hx; omega)) (by rw [hqb.tot]; omega))) rfl ?_
        rintro _ w14 ⟨rfl, K2_, hq2, hkk, hT2⟩
        have out_s50_4_ : Out K2_ s50_4.ownBlock := Out.kk out_s50_4 (Ow.live o50_4) hkk
        have out_s51_5_ : Out K2_ s51_5.ownBlock := Out.kk out_s51_5 (Ow.live o51_5) hkk
        have o50_4 := Ow.thK o50_4 hT2 hq.bb out_s50_4
        have o51_5 := Ow.thK o51_5 hT2 hq.bb out_s51_5
        have e0 := Ext.thK e0 hT2 hq.bb (fun k hk => (hq.kb k hk).1)
        have out_s50_4 := out_s50_4_
        clear out_s50_4_
        have out_s51_5 := out_s51_5_
        clear out_s51_5_
        replace hq := hq2
        clear hq2 hkk hT2
        obtain ⟨l2, hl2⟩ : ∃ l2, l2 = l1.filter (fun x => !agP (nw + T) ex x) := ⟨_, rfl⟩
        rw [tkI_small (by omega) (by omega)] at hq
        have hqb2 := hqb.map (fun x => !agP (nw + T) ex x)
        rw [← hl2] at hqb2
        obtain ⟨q2, hq2⟩ : ∃ q2, q2 = q1.map fun p => (p.1, p.2.filter fun x => !agP (nw + T) ex x) := ⟨_, rfl⟩
        rw [← hq2] at hq hqb2
        refine J.nil ?_
        refine J.n_then ?_
        refine J.seq ?_
        refine J.region ?_
        refine J.op (Yd.move rfl) rfl ?_
        refine J.op (Yd.move rfl) rfl ?_
        refine J.op (Yd.add rfl rfl (by first | omega | exact idx_u8' _ | (simp only [Int.toNat_natCast]; omega) | (simp only [List.length_map, List.length_drop, List.length_take, List.length_append, List.length_replicate]; omega) | (simp <;> omega))) rfl ?_
        refine J.op (Yd.assign rfl) rfl ?_
        refine J.nil ?_
        refine J.n_then ?_
        refine J.seq ?_
        refine J.region ?_
        refine J.op (Yd.assign rfl) rfl ?_
        refine J.nil ?_
        refine J.n_then ?_
        refine J.seq ?_
        refine J.seq ?_
        refine J.region ?_
        refine J.op (Yd.assign rfl) rfl ?_
        refine J.nil ?_
        refine J.n_then ?_
        refine J.block ?_
        refine J.loop (ι := Nat × Value) (fun i => [(0, I ex), (1, s), (8, I (n0 : Int)), (7, I (nw + T)), (13, I (i.1 : Int)), (5, .pointer (some ⟨b, 0, none⟩)), (6, s51_5), (12, i.2)]) (fun i w' => i.1 ≤ l1.length ∧ Rq 65 36 w.heap.size K2_ w' b (ex, nw + T, la1) q2 ∧ Out K2_ i.2.ownBlock ∧ Ow w.heap.size 3 w' s51_5 ((l1.map bornP).map fun x => I x) ∧ Ow w.heap.size 3 w' i.2 ((((l1.take i.1).filter (fun x => !agP (nw + T) ex x)).map bornP).map fun x => I x) ∧ Fr w.heap.size (i.2).ownBlock ∧ Ap s51_5.ownBlock (i.2).ownBlock ∧ Ext w w') (fun i => l1.length - i.1) ((0, nilS)) ⟨rfl, rfl, rfl, rfl, rfl, rfl, rfl, rfl, trivial⟩ (⟨Nat.zero_le _, hq, (fun k e => by cases e), o51_5, (Ow.nilM _ _ _ _), Fr.nil, Ap.nil_r, e0⟩) ?_
        rintro ⟨k, v12⟩ w15 ⟨hk1, hq, hov12, ho6, ho12, fr_v12, ap_s51_5_v12, e0⟩
        dsimp only at *
        refine J.seq ?_
        refine J.seq ?_
        refine J.region ?_
        refine J.op (Yd.move rfl) rfl ?_
        refine J.op (Yd.move rfl) rfl ?_
        refine J.op (Yd.len_m Try.underlying22 rfl (Ow.rd ho6)) rfl ?_
        refine J.op (Yd.lss rfl rfl) rfl ?_
        refine J.nil ?_
        refine J.n_then ?_
        refine J.cond_dec rfl (fun hc5 => ?_) (fun hc5 => ?_)
        · skip
          have hbk := htq.bd _ (show l1.getD k itD0 ∈ l1 from getD_memE itD0 (by rw [List.length_map] at hc5; omega))
          have hfl := List.length_filter_le (fun x => !agP (nw + T) ex x) (l1.take k)
          have htk := List.length_take_le k l1
          refine J.skip ?_
          refine J.n_then ?_
          refine J.seq ?_
          refine J.block ?_
          refine J.seq ?_
          refine J.region ?_
          refine J.op (Yd.move rfl) rfl ?_
          refine J.op (Yd.move rfl) rfl ?_
          refine J.op (Yd.move rfl) rfl ?_
          refine J.op (Yd.idx_m Try.underlying22 ti3 rfl rfl (Ow.rd ho6) (by first | omega | exact idx_u8' _ | (simp only [Int.toNat_natCast]; omega) | (simp only [List.length_map, List.length_drop, List.length_take, List.length_append, List.length_replicate]; omega) | (simp <;> omega))) rfl ?_
          refine J.op (Yd.cast (Yd.load pl3 rfl (Rd.cellI (Ow.rd ho6) (by first | omega | exact idx_u8' _ | (simp only [Int.toNat_natCast]; omega) | (simp only [List.length_map, List.length_drop, List.length_take, List.length_append, List.length_replicate]; omega) | (simp <;> omega)))) (congrArg (fun z => I z) (show _ = (l1.getD k itD0).2.2.1 by rw [Int.toNat_natCast, bornP_get (by rw [List.length_map] at hc5; omega)]))) rfl ?_
          refine J.op (Yd.sub rfl rfl (by first | omega | exact idx_u8' _ | (simp only [Int.toNat_natCast]; omega) | (simp only [List.length_map, List.length_drop, List.length_take, List.length_append, List.length_replicate]; omega) | (simp <;> omega))) rfl ?_
          refine J.op (Yd.move rfl) rfl ?_
          refine J.op (Yd.lss rfl rfl) rfl ?_
          refine J.nil ?_
          refine J.n_then ?_
          refine J.cond_dec rfl (fun hc6 => ?_) (fun hc6 => ?_)
          · skip
            refine J.region ?_
            refine J.op (Yd.move rfl) rfl ?_
            refine J.op (Yd.move rfl) rfl ?_
            refine J.op (Yd.move rfl) rfl ?_
            refine J.op (Yd.idx_m Try.underlying22 ti3 rfl rfl (Ow.rd ho6) (by first | omega | exact idx_u8' _ | (simp only [Int.toNat_natCast]; omega) | (simp only [List.length_map, List.length_drop, List.length_take, List.length_append, List.length_replicate]; omega) | (simp <;> omega))) rfl ?_
            refine J.op (Yd.cast (Yd.load pl3 rfl (Rd.cellI (Ow.rd ho6) (by first | omega | exact idx_u8' _ | (simp only [Int.toNat_natCast]; omega) | (simp only [List.length_map, List.length_drop, List.length_take, List.length_append, List.length_replicate]; omega) | (simp <;> omega)))) (congrArg (fun z => I z) (show _ = (l1.getD k itD0).2.2.1 by rw [Int.toNat_natCast, bornP_get (by rw [List.length_map] at hc5; omega)]))) rfl ?_
            refine J.eff (Ye.lit1 (base := w15.heap.size) (f := (fun x : Int => I x)) Try.underlying22 ti3 rfl rfl (fun _ => rfl) (Nat.le_refl _)) rfl ?_
            rintro s82_16 w16 ⟨o82_16, x1⟩
            have ap_s51_5_s82_16 : Ap s51_5.ownBlock s82_16.ownBlock := Ap.mk (Ow.live ho6) (Ow.fr o82_16)
            have ap_v12_s82_16 : Ap v12.ownBlock s82_16.ownBlock := Ap.mk (Ow.live ho12) (Ow.fr o82_16)
            have fr_s82_16 : Fr w.heap.size s82_16.ownBlock := Fr.le (Ow.fr o82_16) e0.size
            have out_s82_16 : Out K2_ s82_16.ownBlock := hq.out (Ow.fr o82_16)
            replace o82_16 := Ow.base o82_16 e0.size
            have e0 := e0.trans x1
            have ho6 := ho6.ext x1
            have ho12 := ho12.ext x1
            have hq := hq.ext x1
            clear x1
            refine J.eff (Ye.appendS Try.underlying22 ti3 rfl rfl rfl rfl ho12 (Ow.rd o82_16) (fun _ => rfl) (by first | omega | exact idx_u8' _ | (simp only [Int.toNat_natCast]; omega) | (simp only [List.length_map, List.length_drop, List.length_take, List.length_append, List.length_replicate]; omega) | (simp <;> omega)) e0.size) rfl ?_
            rintro s83_17 w17 ⟨o83_17, hg, hsf⟩
            have ap_s51_5_s83_17 : Ap s51_5.ownBlock s83_17.ownBlock := Ap.sf ap_s51_5_v12 (Ow.live ho6) hsf
            have ap_s82_16_s83_17 : Ap s82_16.ownBlock s83_17.ownBlock := Ap.sf (Ap.symm ap_v12_s82_16) (Ow.live o82_16) hsf
            have fr_s83_17 : Fr w.heap.size s83_17.ownBlock := Fr.sf fr_v12 hsf e0.size
            have out_s83_17 : Out K2_ s83_17.ownBlock := hq.outS hov12 hsf
            have ho6 := Ow.gbk ho6 hg ap_s51_5_v12
            have hq := hq.g1 hg hov12
            have o82_16 := Ow.gbk o82_16 hg (Ap.symm ap_v12_s82_16)
            have e0 := Ext.gbk e0 fr_v12 hg
            clear hg hsf
            refine J.op (Yd.assign rfl) rfl ?_
            refine J.nil ?_
            refine J.n_block ?_
            refine J.n_then ?_
            refine J.region ?_
            refine J.op (Yd.move rfl) rfl ?_
            refine J.op (Yd.add rfl rfl (by first | omega | exact idx_u8' _ | (simp only [Int.toNat_natCast]; omega) | (simp only [List.length_map, List.length_drop, List.length_take, List.length_append, List.length_replicate]; omega) | (simp <;> omega))) rfl ?_
            refine J.op (Yd.assign rfl) rfl ?_
            refine J.nil ?_
            refine J.n_then ?_
            exact J.round ((k + 1, s83_17)) ⟨rfl, rfl, rfl, rfl, rfl, rfl, rfl, rfl, trivial⟩ (⟨by show k + 1 ≤ l1.length; rw [List.length_map] at hc5; omega, hq, out_s83_17, ho6, (by rw [List.length_map] at hc5; rw [flt_take (by omega)]; rw [if_pos (keep_yes hc6)]; exact o83_17), fr_s83_17, ap_s51_5_s83_17, e0⟩) (by show l1.length - (k + 1) < l1.length - k; rw [List.length_map] at hc5; omega)
          · skip
            refine J.skip ?_
            refine J.n_block ?_
            refine J.n_then ?_
            refine J.region ?_
            refine J.op (Yd.move rfl) rfl ?_
            refine J.op (Yd.add rfl rfl (by first | omega | exact idx_u8' _ | (simp only [Int.toNat_natCast]; omega) | (simp only [List.length_map, List.length_drop, List.length_take, List.length_append, List.length_replicate]; omega) | (simp <;> omega))) rfl ?_
            refine J.op (Yd.assign rfl) rfl ?_
            refine J.nil ?_
            refine J.n_then ?_
            exact J.round ((k + 1, v12)) ⟨rfl, rfl, rfl, rfl, rfl, rfl, rfl, rfl, trivial⟩ (⟨by show k + 1 ≤ l1.length; rw [List.length_map] at hc5; omega, hq, hov12, ho6, (by rw [List.length_map] at hc5; rw [flt_take (by omega)]; rw [if_neg (keep_no hc6), List.append_nil]; exact ho12), fr_v12, ap_s51_5_v12, e0⟩) (by show l1.length - (k + 1) < l1.length - k; rw [List.length_map] at hc5; omega)
        · skip
          rw [List.length_map] at hc5
          have hl12 : ((l1.take k).filter (fun x => !agP (nw + T) ex x)).map bornP = l2.map bornP := by rw [hl2, List.take_of_length_le (by omega)]
          rw [hl12] at ho12
          have htq2 : TQ l2 (nw + T) la1 := hl2 ▸ htq.filter _ (by omega)
          have hfr2 : ∀ x ∈ l2, x.2.2.2 = [] := fun x hx => (htq2.bd x hx).2.2
          have hll2 : l2.length ≤ 30 := by rw [hl2]; exact Nat.le_trans (List.length_filter_le _ _) hll
          refine J.exit ?_
          refine J.x_then ?_
          refine J.x_then ?_
          refine J.x_block ?_
          refine J.n_then ?_
          refine J.seq ?_
          refine J.region ?_
          refine J.op (Yd.move rfl) rfl ?_
          refine J.op (Yd.assign rfl) rfl ?_
          refine J.nil ?_
          refine J.n_then ?_
          refine J.seq ?_
          refine J.region ?_
          refine J.op (Yd.move rfl) rfl ?_
          refine J.eff (Ye.call cl13 rfl (ListQ_ok hq (by rw [hqb2.get]; intro x hx; rw [hfr2 x hx]; exact Nat.zero_le _) (by rw [hqb2.get]; omega))) rfl ?_
          rintro v86 w18 ⟨es, ov86, hhd, x1⟩
          have ap_s51_5_v86 : Ap s51_5.ownBlock v86.ownBlock := Ap.mk (Ow.live ho6) (Es.fr ov86)
          have ap_v12_v86 : Ap v12.ownBlock v86.ownBlock := Ap.mk (Ow.live ho12) (Es.fr ov86)
          have fr_v86 : Fr w.heap.size v86.ownBlock := Fr.le (Es.fr ov86) e0.size
          have out_v86 : Out K2_ v86.ownBlock := hq.out (Es.fr ov86)
          replace ov86 := Es.base ov86 e0.size
          have e0 := e0.trans x1
          have ho6 := ho6.ext x1
          have ho12 := ho12.ext x1
          have hq := hq.ext x1
          clear x1
          rw [hqb2.get] at hhd
          have hln := congrArg List.length hhd
          rw [List.length_map, List.length_map] at hln
          have hdb : ∀ j, j < l2.length → (es.getD j itmD).2.2.1 = (l2.getD j itD0).2.2.1 := fun j hj => congrArg (fun z => z.2.2) (hdr_get hhd hj)
          have hdi : ∀ j, j < l2.length → (es.getD j itmD).1 = (l2.getD j itD0).1 := fun j hj => congrArg (fun z => z.1) (hdr_get hhd hj)
          refine J.op (Yd.assign rfl) rfl ?_
          refine J.nil ?_
          refine J.n_then ?_
          refine J.seq ?_
          refine J.seq ?_
          refine J.region ?_
          refine J.op (Yd.move rfl) rfl ?_
          refine J.op (Yd.lenE (K := itmS) Try.underlying31 rfl (Es.rd ov86)) rfl ?_
          refine J.op (Yd.move rfl) rfl ?_
          refine J.op (Yd.len_m Try.underlying22 rfl (Ow.rd ho12)) rfl ?_
          refine J.op (Yd.neq rfl rfl) rfl ?_
          refine J.op (Yd.move rfl) rfl ?_
          refine J.know (t := 92) (v' := .bool false) rfl (ff (by rw [List.length_map]; omega)) ?_
          refine J.op_g rfl rfl rfl (Yd.move rfl) rfl ?_
          refine J.eff_g rfl rfl rfl (Ye.call cl14 rfl (NowQ_ok hq)) rfl ?_
          rintro _ w19 ⟨rfl, x1⟩
          have e0 := e0.trans x1
          have ho6 := ho6.ext x1
          have ho12 := ho12.ext x1
          have hq := hq.ext x1
          have ov86 := ov86.ext x1
          clear x1
          refine J.op_g rfl rfl rfl (Yd.move rfl) rfl ?_
          refine J.op_g rfl rfl rfl (Yd.neq rfl rfl) rfl ?_
          refine J.op (Yd.pick_f rfl rfl) rfl ?_
          refine J.nil ?_
          refine J.n_then ?_
          refine J.know (t := 97) (v' := .bool false) rfl (ff (by omega)) ?_
          refine J.cond_false rfl ?_
          refine J.skip ?_
          refine J.n_then ?_
          refine J.seq ?_
          refine J.region ?_
          refine J.op (Yd.assign rfl) rfl ?_
          refine J.nil ?_
          refine J.n_then ?_
          refine J.block ?_
          refine J.loop (ι := Nat) (fun i => [(0, I ex), (1, s), (8, I (n0 : Int)), (7, I (nw + T)), (15, I (i : Int)), (5, .pointer (some ⟨b, 0, none⟩)), (6, v12), (14, v86)]) (fun i w' => i ≤ l2.length ∧ Rq 65 36 w.heap.size K2_ w' b (ex, nw + T, la1) q2 ∧ Ow w.heap.size 3 w' v12 ((l2.map bornP).map fun x => I x) ∧ Es itmS w.heap.size 36 w' v86 es ∧ Ext w w') (fun i => l2.length - i) (0) ⟨rfl, rfl, rfl, rfl, rfl, rfl, rfl, rfl, trivial⟩ (⟨Nat.zero_le _, hq, ho12, ov86, e0⟩) ?_
          rintro j w20 ⟨hk2, hq, ho6, ho14, e0⟩
          refine J.seq ?_
          refine J.seq ?_
          refine J.region ?_
          refine J.op (Yd.move rfl) rfl ?_
          refine J.op (Yd.move rfl) rfl ?_
          refine J.op (Yd.lenE (K := itmS) Try.underlying31 rfl (Es.rd ho14)) rfl ?_
          refine J.op (Yd.lss rfl rfl) rfl ?_
          refine J.nil ?_
          refine J.n_then ?_
          refine J.cond_dec rfl (fun hc8 => ?_) (fun hc8 => ?_)
          · skip
            refine J.skip ?_
            refine J.n_then ?_
            refine J.seq ?_
            refine J.block ?_
            refine J.seq ?_
            refine J.regionO [(0, true), (1, true), (5, true), (6, true)] [(2, 1), (7, 1), (8, 1), (3, 1), (4, 1), (9, 1), (10, 1), (11, 1), (12, 1), (13, 1), (14, 1), (15, 1), (16, 1), (17, 1), (18, 1), (19, 1), (20, 1), (21, 1), (22, 1), (23, 1), (24, 1)] [(25, true), (26, true), (27, true)] mix (by kernel_rfl) ?_
            refine J.s_op rfl (fun _ => Yd.move rfl) rfl ?_
            refine J.s_op rfl (fun _ => Yd.move rfl) rfl ?_
            refine J.s_op rfl (fun _ => Yd.move rfl) rfl ?_
            refine J.s_op rfl (fun _ => Yd.move rfl) rfl ?_
            refine J.s_nil ?_
            refine J.o_op rfl (Yd.idxE (K := itmS) Try.underlying31 ti36 rfl rfl (Es.rd ho14) (by first | omega | exact idx_u8' _ | (simp only [Int.toNat_natCast]; omega) | (simp only [List.length_map, List.length_drop, List.length_take, List.length_append, List.length_replicate]; omega) | (simp <;> omega))) rfl ?_
            refine J.o_op rfl (Yd.idx_m Try.underlying22 ti3 rfl rfl (Ow.rd ho6) (by first | omega | exact idx_u8' _ | (simp only [Int.toNat_natCast]; omega) | (simp only [List.length_map, List.length_drop, List.length_take, List.length_append, List.length_replicate]; omega) | (simp <;> omega))) rfl ?_
            refine J.o_op rfl (Yd.load pl3 rfl (Rd.cellI (Ow.rd ho6) (by first | omega | exact idx_u8' _ | (simp only [Int.toNat_natCast]; omega) | (simp only [List.length_map, List.length_drop, List.length_take, List.length_append, List.length_replicate]; omega) | (simp <;> omega)))) rfl ?_
            refine J.o_op rfl (Yd.fieldE (K := itmS) (Es.rd ho14) (by omega) Try.underlying36 rfl ti3 rfl rfl) rfl ?_
            refine J.o_op rfl (Yd.loadFd (K := itmS) itmD pl3 rfl (Es.rd ho14) (by first | omega | exact idx_u8' _ | (simp only [Int.toNat_natCast]; omega) | (simp only [List.length_map, List.length_drop, List.length_take, List.length_append, List.length_replicate]; omega) | (simp <;> omega)) rfl) rfl ?_
            refine J.o_op rfl (Yd.neq rfl rfl) rfl ?_
            refine J.o_op rfl (Yd.move rfl) rfl ?_
            refine J.know (t := 114) (v' := .bool false) rfl (ff (by rw [Int.toNat_natCast, bornP_get (by omega)]; exact fun h => h (hdb j (by omega)))) ?_
            refine J.o_op_g rfl rfl rfl rfl (Yd.move rfl) rfl ?_
            refine J.o_op_g rfl rfl rfl rfl (Yd.gtr rfl rfl) rfl ?_
            refine J.o_op_g rfl rfl rfl rfl (Yd.move rfl) rfl ?_
            refine J.split_dec (t := 117) rfl (fun hk0 => ?_) (fun hk0 => ?_)
            · skip
              refine J.o_op_g rfl rfl rfl rfl (Yd.move rfl) rfl ?_
              refine J.o_op_g rfl rfl rfl rfl (Yd.move rfl) rfl ?_
              refine J.o_op_g rfl rfl rfl rfl (Yd.idxE (K := itmS) Try.underlying31 ti36 rfl rfl (Es.rd ho14) (by first | omega | exact idx_u8' _ | (simp only [Int.toNat_natCast]; omega) | (simp only [List.length_map, List.length_drop, List.length_take, List.length_append, List.length_replicate]; omega) | (simp <;> omega))) rfl ?_
              refine J.o_op_g rfl rfl rfl rfl (Yd.fieldE (K := itmS) (Es.rd ho14) (by omega) Try.underlying36 rfl ti3 rfl rfl) rfl ?_
              refine J.o_op_g rfl rfl rfl rfl (Yd.loadFd (K := itmS) itmD pl3 rfl (Es.rd ho14) (by first | omega | exact idx_u8' _ | (simp only [Int.toNat_natCast]; omega) | (simp only [List.length_map, List.length_drop, List.length_take, List.length_append, List.length_replicate]; omega) | (simp <;> omega)) rfl) rfl ?_
              refine J.o_op_g rfl rfl rfl rfl (Yd.move rfl) rfl ?_
              refine J.o_op_g rfl rfl rfl rfl (Yd.move rfl) rfl ?_
              refine J.o_op_g rfl rfl rfl rfl (Yd.sub rfl rfl (by first | omega | exact idx_u8' _ | (simp only [Int.toNat_natCast]; omega) | (simp only [List.length_map, List.length_drop, List.length_take, List.length_append, List.length_replicate]; omega) | (simp <;> omega))) rfl ?_
              refine J.o_op_g rfl rfl rfl rfl (Yd.idxE (K := itmS) Try.underlying31 ti36 rfl rfl (Es.rd ho14) (by first | omega | exact idx_u8' _ | (simp only [Int.toNat_natCast]; omega) | (simp only [List.length_map, List.length_drop, List.length_take, List.length_append, List.length_replicate]; omega) | (simp <;> omega))) rfl ?_
              refine J.o_op_g rfl rfl rfl rfl (Yd.fieldE (K := itmS) (Es.rd ho14) (by omega) Try.underlying36 rfl ti3 rfl rfl) rfl ?_
              refine J.o_op_g rfl rfl rfl rfl (Yd.loadFd (K := itmS) itmD pl3 rfl (Es.rd ho14) (by first | omega | exact idx_u8' _ | (simp only [Int.toNat_natCast]; omega) | (simp only [List.length_map, List.length_drop, List.length_take, List.length_append, List.length_replicate]; omega) | (simp <;> omega)) rfl) rfl ?_
              refine J.o_nil ?_
              refine J.s_op_g rfl rfl rfl rfl (fun _ => Yd.leq rfl rfl) rfl ?_
              refine J.s_op_g rfl rfl rfl rfl (fun _ => Yd.pick_t rfl rfl) rfl ?_
              refine J.s_op rfl (fun _ => Yd.pick_f rfl rfl) rfl ?_
              refine J.s_nil ?_
              refine J.n_np ?_
              refine J.n_then ?_
              refine J.know (t := 131) (v' := .bool false) rfl (ff (by first | omega | (have h7 := hdi j (by omega); have h8 := hdi (j - 1) (by omega); have h9 := (htq2.lt (show j < l2.length by omega) (by omega)); rw [show ((j : Int) - 1).toNat = j - 1 by omega, Int.toNat_natCast]; omega))) ?_
              refine J.cond_false rfl ?_
              refine J.skip ?_
              refine J.n_block ?_
              refine J.n_then ?_
              refine J.region ?_
              refine J.op (Yd.move rfl) rfl ?_
              refine J.op (Yd.add rfl rfl (by first | omega | exact idx_u8' _ | (simp only [Int.toNat_natCast]; omega) | (simp only [List.length_map, List.length_drop, List.length_take, List.length_append, List.length_replicate]; omega) | (simp <;> omega))) rfl ?_
              refine J.op (Yd.assign rfl) rfl ?_
              refine J.nil ?_
              refine J.n_then ?_
              exact J.round (j + 1) ⟨rfl, rfl, rfl, rfl, rfl, rfl, rfl, rfl, trivial⟩ (⟨by omega, hq, ho6, ho14, e0⟩) (by omega)
            · skip
              refine J.o_not_g rfl rfl rfl rfl rfl rfl ?_
              refine J.o_not_g rfl rfl rfl rfl rfl rfl ?_
              refine J.o_not_g rfl rfl rfl rfl rfl rfl ?_
              refine J.o_not_g rfl rfl rfl rfl rfl rfl ?_
              refine J.o_not_g rfl rfl rfl rfl rfl rfl ?_
              refine J.o_not_g rfl rfl rfl rfl rfl rfl ?_
              refine J.o_not_g rfl rfl rfl rfl rfl rfl ?_
              refine J.o_not_g rfl rfl rfl rfl rfl rfl ?_
              refine J.o_not_g rfl rfl rfl rfl rfl rfl ?_
              refine J.o_not_g rfl rfl rfl rfl rfl rfl ?_
              refine J.o_not_g rfl rfl rfl rfl rfl rfl ?_
              refine J.o_nil ?_
              refine J.s_not_g rfl rfl rfl rfl rfl rfl ?_
              refine J.s_op_g rfl rfl rfl rfl (fun _ => Yd.pick_f rfl rfl) rfl ?_
              refine J.s_op rfl (fun _ => Yd.pick_f rfl rfl) rfl ?_
              refine J.s_nil ?_
              refine J.n_np ?_
              refine J.n_then ?_
              refine J.cond_false rfl ?_
              refine J.skip ?_
              refine J.n_block ?_
              refine J.n_then ?_
              refine J.region ?_
              refine J.op (Yd.move rfl) rfl ?_
              refine J.op (Yd.add rfl rfl (by first | omega | exact idx_u8' _ | (simp only [Int.toNat_natCast]; omega) | (simp only [List.length_map, List.length_drop, List.length_take, List.length_append, List.length_replicate]; omega) | (simp <;> omega))) rfl ?_
              refine J.op (Yd.assign rfl) rfl ?_
              refine J.nil ?_
              refine J.n_then ?_
              exact J.round (j + 1) ⟨rfl, rfl, rfl, rfl, rfl, rfl, rfl, rfl, trivial⟩ (⟨by omega, hq, ho6, ho14, e0⟩) (by omega)
          · skip
            refine J.exit ?_
            refine J.x_then ?_
            refine J.x_then ?_
            refine J.x_block ?_
            refine J.n_block ?_
            refine J.n_then ?_
            refine J.region ?_
            refine J.op (Yd.move rfl) rfl ?_
            refine J.op (Yd.add rfl rfl (by first | omega | exact idx_u8' _ | (simp only [Int.toNat_natCast]; omega) | (simp only [List.length_map, List.length_drop, List.length_take, List.length_append, List.length_replicate]; omega) | (simp <;> omega))) rfl ?_
            refine J.op (Yd.assign rfl) rfl ?_
            refine J.nil ?_
            refine J.n_then ?_
            exact J.round ((n0 + 1, v12, nw + T, l2, la1)) ⟨rfl, rfl, rfl, rfl, rfl, rfl, trivial⟩ (⟨by show n0 + 1 ≤ ticks.length; omega, ⟨K2_, _, hq, hqb2, htq2, (fun x hx => by rw [hl2] at hx; have h9 := (List.mem_filter.1 hx).2; unfold agP at h9; simp at h9; omega), hov12, hll2, (by show 0 ≤ nw + T ∧ nw + T ≤ 500 * ((n0 + 1 : Nat) : Int); omega), (by show 0 ≤ la1 ∧ la1 ≤ ((n0 + 1 : Nat) : Int); omega)⟩, ho6, fr_v12, e0⟩) (by show ticks.length - (n0 + 1) < ticks.length - n0; omega)
    · skip
      obtain ⟨l1, hl1⟩ : ∃ l1, l1 = l := ⟨_, rfl⟩
      rw [← hl1] at hqb htq hag hll ho6a
      obtain ⟨la1, hla1⟩ : ∃ la1, la1 = last := ⟨_, rfl⟩
      rw [← hla1] at hq htq
      obtain ⟨q1, hq1⟩ : ∃ q1, q1 = q0 := ⟨_, rfl⟩
      rw [← hq1] at hq hqb
      refine J.skip ?_
      refine J.n_then ?_
      refine J.seq ?_
      refine J.region ?_
      refine J.op (Yd.move rfl) rfl ?_
      refine J.op (Yd.move rfl) rfl ?_
      refine J.op (Yd.idx_m Try.underlying22 ti3 rfl rfl (Rd.ext hti e0) (by first | omega | exact idx_u8' _ | (simp only [Int.toNat_natCast]; omega) | (simp only [List.length_map, List.length_drop, List.length_take, List.length_append, List.length_replicate]; omega) | (simp <;> omega))) rfl ?_
      refine J.op (Yd.load pl3 rfl (Rd.cellI (Rd.ext hti e0) (by first | omega | exact idx_u8' _ | (simp only [Int.toNat_natCast]; omega) | (simp only [List.length_map, List.length_drop, List.length_take, List.length_append, List.length_replicate]; omega) | (simp <;> omega)))) rfl ?_
      refine J.eff (Ye.call cl11 rfl (Round_ok (by omega) (by omega))) rfl ?_
      rintro _ w21 ⟨rfl, x1⟩
      have e0 := e0.trans x1
      have ho6a := ho6a.ext x1
      have hq := hq.ext x1
      clear x1
      obtain ⟨T, hT, hTb⟩ : ∃ T : Int, T = ticks.getD (n0 : Int).toNat 0 % 500 ∧ 0 ≤ T ∧ T < 500 := ⟨_, rfl, by omega, by omega⟩
      refine J.op (Yd.cast (Yd.assign rfl) (congrArg (fun z => I z) hT.symm)) rfl ?_
      refine J.nil ?_
      refine J.n_then ?_
      refine J.seq ?_
      refine J.region ?_
      refine J.op (Yd.move rfl) rfl ?_
      refine J.op (Yd.move rfl) rfl ?_
      by_cases htz : T < 1
      · skip
        refine J.eff (Ye.call cl12 rfl (Tick0_ok htz)) rfl ?_
        rintro _ w22 ⟨rfl, x1⟩
        have e0 := e0.trans x1
        have ho6a := ho6a.ext x1
        have hq := hq.ext x1
        clear x1
        have hT0 : T = 0 := by omega
        obtain ⟨l2, hl2⟩ : ∃ l2, l2 = l1.filter (fun x => !agP (nw + T) ex x) := ⟨_, rfl⟩
        have hl2e : l2 = l1 := by rw [hl2]; exact flt_all (fun x hx => by have := hag x hx; omega)
        replace hq : Rq 65 36 w.heap.size K0 w22 b (ex, nw + T, la1) q1 := by rw [show nw + T = nw by omega]; exact hq
        have hqb2 := hqb
        rw [← hl2e] at hqb2
        obtain ⟨q2, hq2⟩ : ∃ q2, q2 = q1 := ⟨_, rfl⟩
        rw [← hq2] at hq hqb2
        refine J.nil ?_
        refine J.n_then ?_
        refine J.seq ?_
        refine J.region ?_
        refine J.op (Yd.move rfl) rfl ?_
        refine J.op (Yd.move rfl) rfl ?_
        refine J.op (Yd.add rfl rfl (by first | omega | exact idx_u8' _ | (simp only [Int.toNat_natCast]; omega) | (simp only [List.length_map, List.length_drop, List.length_take, List.length_append, List.length_replicate]; omega) | (simp <;> omega))) rfl ?_
        refine J.op (Yd.assign rfl) rfl ?_
        refine J.nil ?_
        refine J.n_then ?_
        refine J.seq ?_
        refine J.region ?_
        refine J.op (Yd.assign rfl) rfl ?_
        refine J.nil ?_
        refine J.n_then ?_
        refine J.seq ?_
        refine J.seq ?_
        refine J.region ?_
        refine J.op (Yd.assign rfl) rfl ?_
        refine J.nil ?_
        refine J.n_then ?_
        refine J.block ?_
        refine J.loop (ι := Nat × Value) (fun i => [(0, I ex), (1, s), (8, I (n0 : Int)), (7, I (nw + T)), (13, I (i.1 : Int)), (5, .pointer (some ⟨b, 0, none⟩)), (6, v6), (12, i.2)]) (fun i w' => i.1 ≤ l1.length ∧ Rq 65 36 w.heap.size K0 w' b (ex, nw + T, la1) q2 ∧ Out K0 i.2.ownBlock ∧ Ow w.heap.size 3 w' v6 ((l1.map bornP).map fun x => I x) ∧ Ow w.heap.size 3 w' i.2 ((((l1.take i.1).filter (fun x => !agP (nw + T) ex x)).map bornP).map fun x => I x) ∧ Fr w.heap.size (i.2).ownBlock ∧ Ap v6.ownBlock (i.2).ownBlock ∧ Ext w w') (fun i => l1.length - i.1) ((0, nilS)) ⟨rfl, rfl, rfl, rfl, rfl, rfl, rfl, rfl, trivial⟩ (⟨Nat.zero_le _, hq, (fun k e => by cases e), ho6a, (Ow.nilM _ _ _ _), Fr.nil, Ap.nil_r, e0⟩) ?_
        rintro ⟨k, v12⟩ w23 ⟨hk1, hq, hov12, ho6, ho12, fr_v12, ap_v6_v12, e0⟩
        dsimp only at *
        refine J.seq ?_
        refine J.seq ?_
        refine J.region ?_
        refine J.op (Yd.move rfl) rfl ?_
        refine J.op (Yd.move rfl) rfl ?_
        refine J.op (Yd.len_m Try.underlying22 rfl (Ow.rd ho6)) rfl ?_
        refine J.op (Yd.lss rfl rfl) rfl ?_
        refine J.nil ?_
        refine J.n_then ?_
        refine J.cond_dec rfl (fun hc5 => ?_) (fun hc5 => ?_)
        · skip
          have hbk := htq.bd _ (show l1.getD k itD0 ∈ l1 from getD_memE itD0 (by rw [List.length_map] at hc5; omega))
          have hfl := List.length_filter_le (fun x => !agP (nw + T) ex x) (l1.take k)
          have htk := List.length_take_le k l1
          refine J.skip ?_
          refine J.n_then ?_
          refine J.seq ?_
          refine J.block ?_
          refine J.seq ?_
          refine J.region ?_
          refine J.op (Yd.move rfl) rfl ?_
          refine J.op (Yd.move rfl) rfl ?_
          refine J.op (Yd.move rfl) rfl ?_
          refine J.op (Yd.idx_m Try.underlying22 ti3 rfl rfl (Ow.rd ho6) (by first | omega | exact idx_u8' _ | (simp only [Int.toNat_natCast]; omega) | (simp only [List.length_map, List.length_drop, List.length_take, List.length_append, List.length_replicate]; omega) | (simp <;> omega))) rfl ?_
          refine J.op (Yd.cast (Yd.load pl3 rfl (Rd.cellI (Ow.rd ho6) (by first | omega | exact idx_u8' _ | (simp only [Int.toNat_natCast]; omega) | (simp only [List.length_map, List.length_drop, List.length_take, List.length_append, List.length_replicate]; omega) | (simp <;> omega)))) (congrArg (fun z => I z) (show _ = (l1.getD k itD0).2.2.1 by rw [Int.toNat_natCast, bornP_get (by rw [List.length_map] at hc5; omega)]))) rfl ?_
          refine J.op (Yd.sub rfl rfl (by first | omega | exact idx_u8' _ | (simp only [Int.toNat_natCast]; omega) | (simp only [List.length_map, List.length_drop, List.length_take, List.length_append, List.length_replicate]; omega) | (simp <;> omega))) rfl ?_
          refine J.op (Yd.move rfl) rfl ?_
          refine J.op (Yd.lss rfl rfl) rfl ?_
          refine J.nil ?_
          refine J.n_then ?_
          refine J.cond_dec rfl (fun hc6 => ?_) (fun hc6 => ?_)
          · skip
            refine J.region ?_
            refine J.op (Yd.move rfl) rfl ?_
            refine J.op (Yd.move rfl) rfl ?_
            refine J.op (Yd.move rfl) rfl ?_
            refine J.op (Yd.idx_m Try.underlying22 ti3 rfl rfl (Ow.rd ho6) (by first | omega | exact idx_u8' _ | (simp only [Int.toNat_natCast]; omega) | (simp only [List.length_map, List.length_drop, List.length_take, List.length_append, List.length_replicate]; omega) | (simp <;> omega))) rfl ?_
            refine J.op (Yd.cast (Yd.load pl3 rfl (Rd.cellI (Ow.rd ho6) (by first | omega | exact idx_u8' _ | (simp only [Int.toNat_natCast]; omega) | (simp only [List.length_map, List.length_drop, List.length_take, List.length_append, List.length_replicate]; omega) | (simp <;> omega)))) (congrArg (fun z => I z) (show _ = (l1.getD k itD0).2.2.1 by rw [Int.toNat_natCast, bornP_get (by rw [List.length_map] at hc5; omega)]))) rfl ?_
            refine J.eff (Ye.lit1 (base := w23.heap.size) (f := (fun x : Int => I x)) Try.underlying22 ti3 rfl rfl (fun _ => rfl) (Nat.le_refl _)) rfl ?_
            rintro s82_24 w24 ⟨o82_24, x1⟩
            have ap_v6_s82_24 : Ap v6.ownBlock s82_24.ownBlock := Ap.mk (Ow.live ho6) (Ow.fr o82_24)
            have ap_v12_s82_24 : Ap v12.ownBlock s82_24.ownBlock := Ap.mk (Ow.live ho12) (Ow.fr o82_24)
            have fr_s82_24 : Fr w.heap.size s82_24.ownBlock := Fr.le (Ow.fr o82_24) e0.size
            have out_s82_24 : Out K0 s82_24.ownBlock := hq.out (Ow.fr o82_24)
            replace o82_24 := Ow.base o82_24 e0.size
            have e0 := e0.trans x1
            have ho6 := ho6.ext x1
            have ho12 := ho12.ext x1
            have hq := hq.ext x1
            clear x1
            refine J.eff (Ye.appendS Try.underlying22 ti3 rfl rfl rfl rfl ho12 (Ow.rd o82_24) (fun _ => rfl) (by first | omega | exact idx_u8' _ | (simp only [Int.toNat_natCast]; omega) | (simp only [List.length_map, List.length_drop, List.length_take, List.length_append, List.length_replicate]; omega) | (simp <;> omega)) e0.size) rfl ?_
            rintro s83_25 w25 ⟨o83_25, hg, hsf⟩
            have ap_v6_s83_25 : Ap v6.ownBlock s83_25.ownBlock := Ap.sf ap_v6_v12 (Ow.live ho6) hsf
            have ap_s82_24_s83_25 : Ap s82_24.ownBlock s83_25.ownBlock := Ap.sf (Ap.symm ap_v12_s82_24) (Ow.live o82_24) hsf
            have fr_s83_25 : Fr w.heap.size s83_25.ownBlock := Fr.sf fr_v12 hsf e0.size
            have out_s83_25 : Out K0 s83_25.ownBlock := hq.outS hov12 hsf
            have ho6 := Ow.gbk ho6 hg ap_v6_v12
            have hq := hq.g1 hg hov12
            have o82_24 := Ow.gbk o82_24 hg (Ap.symm ap_v12_s82_24)
            have e0 := Ext.gbk e0 fr_v12 hg
            clear hg hsf
            refine J.op (Yd.assign rfl) rfl ?_
            refine J.nil ?_
            refine J.n_block ?_
            refine J.n_then ?_
            refine J.region ?_
            refine J.op (Yd.move rfl) rfl ?_
            refine J.op (Yd.add rfl rfl (by first | omega | exact idx_u8' _ | (simp only [Int.toNat_natCast]; omega) | (simp only [List.length_map, List.length_drop, List.length_take, List.length_append, List.length_replicate]; omega) | (simp <;> omega))) rfl ?_
            refine J.op (Yd.assign rfl) rfl ?_
            refine J.nil ?_
            refine J.n_then ?_
            exact J.round ((k + 1, s83_25)) ⟨rfl, rfl, rfl, rfl, rfl, rfl, rfl, rfl, trivial⟩ (⟨by show k + 1 ≤ l1.length; rw [List.length_map] at hc5; omega, hq, out_s83_25, ho6, (by rw [List.length_map] at hc5; rw [flt_take (by omega)]; rw [if_pos (keep_yes hc6)]; exact o83_25), fr_s83_25, ap_v6_s83_25, e0⟩) (by show l1.length - (k + 1) < l1.length - k; rw [List.length_map] at hc5; omega)
          · skip
            refine J.skip ?_
            refine J.n_block ?_
            refine J.n_then ?_
            refine J.region ?_
            refine J.op (Yd.move rfl) rfl ?_
            refine J.op (Yd.add rfl rfl (by first | omega | exact idx_u8' _ | (simp only [Int.toNat_natCast]; omega) | (simp only [List.length_map, List.length_drop, List.length_take, List.length_append, List.length_replicate]; omega) | (simp <;> omega))) rfl ?_
            refine J.op (Yd.assign rfl) rfl ?_
            refine J.nil ?_
            refine J.n_then ?_
            exact J.round ((k + 1, v12)) ⟨rfl, rfl, rfl, rfl, rfl, rfl, rfl, rfl, trivial⟩ (⟨by show k + 1 ≤ l1.length; rw [List.length_map] at hc5; omega, hq, hov12, ho6, (by rw [List.length_map] at hc5; rw [flt_take (by omega)]; rw [if_neg (keep_no hc6), List.append_nil]; exact ho12), fr_v12, ap_v6_v12, e0⟩) (by show l1.length - (k + 1) < l1.length - k; rw [List.length_map] at hc5; omega)
        · skip
          rw [List.length_map] at hc5
          have hl12 : ((l1.take k).filter (fun x => !agP (nw + T) ex x)).map bornP = l2.map bornP := by rw [hl2, List.take_of_length_le (by omega)]
          rw [hl12] at ho12
          have htq2 : TQ l2 (nw + T) la1 := hl2 ▸ htq.filter _ (by omega)
          have hfr2 : ∀ x ∈ l2, x.2.2.2 = [] := fun x hx => (htq2.bd x hx).2.2
          have hll2 : l2.length ≤ 30 := by rw [hl2]; exact Nat.le_trans (List.length_filter_le _ _) hll
          refine J.exit ?_
          refine J.x_then ?_
          refine J.x_then ?_
          refine J.x_block ?_
          refine J.n_then ?_
          refine J.seq ?_
          refine J.region ?_
          refine J.op (Yd.move rfl) rfl ?_
          refine J.op (Yd.assign rfl) rfl ?_
          refine J.nil ?_
          refine J.n_then ?_
          refine J.seq ?_
          refine J.region ?_
          refine J.op (Yd.move rfl) rfl ?_
          refine J.eff (Ye.call cl13 rfl (ListQ_ok hq (by rw [hqb2.get]; intro x hx; rw [hfr2 x hx]; exact Nat.zero_le _) (by rw [hqb2.get]; omega))) rfl ?_
          rintro v86 w26 ⟨es, ov86, hhd, x1⟩
          have ap_v6_v86 : Ap v6.ownBlock v86.ownBlock := Ap.mk (Ow.live ho6) (Es.fr ov86)
          have ap_v12_v86 : Ap v12.ownBlock v86.ownBlock := Ap.mk (Ow.live ho12) (Es.fr ov86)
          have fr_v86 : Fr w.heap.size v86.ownBlock := Fr.le (Es.fr ov86) e0.size
          have out_v86 : Out K0 v86.ownBlock := hq.out (Es.fr ov86)
          replace ov86 := Es.base ov86 e0.size
          have e0 := e0.trans x1
          have ho6 := ho6.ext x1
          have ho12 := ho12.ext x1
          have hq := hq.ext x1
          clear x1
          rw [hqb2.get] at hhd
          have hln := congrArg List.length hhd
          rw [List.length_map, List.length_map] at hln
          have hdb : ∀ j, j < l2.length → (es.getD j itmD).2.2.1 = (l2.getD j itD0).2.2.1 := fun j hj => congrArg (fun z => z.2.2) (hdr_get hhd hj)
          have hdi : ∀ j, j < l2.length → (es.getD j itmD).1 = (l2.getD j itD0).1 := fun j hj => congrArg (fun z => z.1) (hdr_get hhd hj)
          refine J.op (Yd.assign rfl) rfl ?_
          refine J.nil ?_
          refine J.n_then ?_
          refine J.seq ?_
          refine J.seq ?_
          refine J.region ?_
          refine J.op (Yd.move rfl) rfl ?_
          refine J.op (Yd.lenE (K := itmS) Try.underlying31 rfl (Es.rd ov86)) rfl ?_
          refine J.op (Yd.move rfl) rfl ?_
          refine J.op (Yd.len_m Try.underlying22 rfl (Ow.rd ho12)) rfl ?_
          refine J.op (Yd.neq rfl rfl) rfl ?_
          refine J.op (Yd.move rfl) rfl ?_
          refine J.know (t := 92) (v' := .bool false) rfl (ff (by rw [List.length_map]; omega)) ?_
          refine J.op_g rfl rfl rfl (Yd.move rfl) rfl ?_
          refine J.eff_g rfl rfl rfl (Ye.call cl14 rfl (NowQ_ok hq)) rfl ?_
          rintro _ w27 ⟨rfl, x1⟩
          have e0 := e0.trans x1
          have ho6 := ho6.ext x1
          have ho12 := ho12.ext x1
          have hq := hq.ext x1
          have ov86 := ov86.ext x1
          clear x1
          refine J.op_g rfl rfl rfl (Yd.move rfl) rfl ?_
          refine J.op_g rfl rfl rfl (Yd.neq rfl rfl) rfl ?_
          refine J.op (Yd.pick_f rfl rfl) rfl ?_
          refine J.nil ?_
          refine J.n_then ?_
          refine J.know (t := 97) (v' := .bool false) rfl (ff (by omega)) ?_
          refine J.cond_false rfl ?_
          refine J.skip ?_
          refine J.n_then ?_
          refine J.seq ?_
          refine J.region ?_
          refine J.op (Yd.assign rfl) rfl ?_
          refine J.nil ?_
          refine J.n_then ?_
          refine J.block ?_
          refine J.loop (ι := Nat) (fun i => [(0, I ex), (1, s), (8, I (n0 : Int)), (7, I (nw + T)), (15, I (i : Int)), (5, .pointer (some ⟨b, 0, none⟩)), (6, v12), (14, v86)]) (fun i w' => i ≤ l2.length ∧ Rq 65 36 w.heap.size K0 w' b (ex, nw + T, la1) q2 ∧ Ow w.heap.size 3 w' v12 ((l2.map bornP).map fun x => I x) ∧ Es itmS w.heap.size 36 w' v86 es ∧ Ext w w') (fun i => l2.length - i) (0) ⟨rfl, rfl, rfl, rfl, rfl, rfl, rfl, rfl, trivial⟩ (⟨Nat.zero_le _, hq, ho12, ov86, e0⟩) ?_
          rintro j w28 ⟨hk2, hq, ho6, ho14, e0⟩
          refine J.seq ?_
          refine J.seq ?_
          refine J.region ?_
          refine J.op (Yd.move rfl) rfl ?_
          refine J.op (Yd.move rfl) rfl ?_
          refine J.op (Yd.lenE (K := itmS) Try.underlying31 rfl (Es.rd ho14)) rfl ?_
          refine J.op (Yd.lss rfl rfl) rfl ?_
          refine J.nil ?_
          refine J.n_then ?_
          refine J.cond_dec rfl (fun hc8 => ?_) (fun hc8 => ?_)
          · skip
            refine J.skip ?_
            refine J.n_then ?_
            refine J.seq ?_
            refine J.block ?_
            refine J.seq ?_
            refine J.regionO [(0, true), (1, true), (5, true), (6, true)] [(2, 1), (7, 1), (8, 1), (3, 1), (4, 1), (9, 1), (10, 1), (11, 1), (12, 1), (13, 1), (14, 1), (15, 1), (16, 1), (17, 1), (18, 1), (19, 1), (20, 1), (21, 1), (22, 1), (23, 1), (24, 1)] [(25, true), (26, true), (27, true)] mix (by kernel_rfl) ?_
            refine J.s_op rfl (fun _ => Yd.move rfl) rfl ?_
            refine J.s_op rfl (fun _ => Yd.move rfl) rfl ?_
            refine J.s_op rfl (fun _ => Yd.move rfl) rfl ?_
            refine J.s_op rfl (fun _ => Yd.move rfl) rfl ?_
            refine J.s_nil ?_
            refine J.o_op rfl (Yd.idxE (K := itmS) Try.underlying31 ti36 rfl rfl (Es.rd ho14) (by first | omega | exact idx_u8' _ | (simp only [Int.toNat_natCast]; omega) | (simp only [List.length_map, List.length_drop, List.length_take, List.length_append, List.length_replicate]; omega) | (simp <;> omega))) rfl ?_
            refine J.o_op rfl (Yd.idx_m Try.underlying22 ti3 rfl rfl (Ow.rd ho6) (by first | omega | exact idx_u8' _ | (simp only [Int.toNat_natCast]; omega) | (simp only [List.length_map, List.length_drop, List.length_take, List.length_append, List.length_replicate]; omega) | (simp <;> omega))) rfl ?_
            refine J.o_op rfl (Yd.load pl3 rfl (Rd.cellI (Ow.rd ho6) (by first | omega | exact idx_u8' _ | (simp only [Int.toNat_natCast]; omega) | (simp only [List.length_map, List.length_drop, List.length_take, List.length_append, List.length_replicate]; omega) | (simp <;> omega)))) rfl ?_
            refine J.o_op rfl (Yd.fieldE (K := itmS) (Es.rd ho14) (by omega) Try.underlying36 rfl ti3 rfl rfl) rfl ?_
            refine J.o_op rfl (Yd.loadFd (K := itmS) itmD pl3 rfl (Es.rd ho14) (by first | omega | exact idx_u8' _ | (simp only [Int.toNat_natCast]; omega) | (simp only [List.length_map, List.length_drop, List.length_take, List.length_append, List.length_replicate]; omega) | (simp <;> omega)) rfl) rfl ?_
            refine J.o_op rfl (Yd.neq rfl rfl) rfl ?_
            refine J.o_op rfl (Yd.move rfl) rfl ?_
            refine J.know (t := 114) (v' := .bool false) rfl (ff (by rw [Int.toNat_natCast, bornP_get (by omega)]; exact fun h => h (hdb j (by omega)))) ?_
            refine J.o_op_g rfl rfl rfl rfl (Yd.move rfl) rfl ?_
            refine J.o_op_g rfl rfl rfl rfl (Yd.gtr rfl rfl) rfl ?_
            refine J.o_op_g rfl rfl rfl rfl (Yd.move rfl) rfl ?_
            refine J.split_dec (t := 117) rfl (fun hk0 => ?_) (fun hk0 => ?_)
            · skip
              refine J.o_op_g rfl rfl rfl rfl (Yd.move rfl) rfl ?_
              refine J.o_op_g rfl rfl rfl rfl (Yd.move rfl) rfl ?_
              refine J.o_op_g rfl rfl rfl rfl (Yd.idxE (K := itmS) Try.underlying31 ti36 rfl rfl (Es.rd ho14) (by first | omega | exact idx_u8' _ | (simp only [Int.toNat_natCast]; omega) | (simp only [List.length_map, List.length_drop, List.length_take, List.length_append, List.length_replicate]; omega) | (simp <;> omega))) rfl ?_
              refine J.o_op_g rfl rfl rfl rfl (Yd.fieldE (K := itmS) (Es.rd ho14) (by omega) Try.underlying36 rfl ti3 rfl rfl) rfl ?_
              refine J.o_op_g rfl rfl rfl rfl (Yd.loadFd (K := itmS) itmD pl3 rfl (Es.rd ho14) (by first | omega | exact idx_u8' _ | (simp only [Int.toNat_natCast]; omega) | (simp only [List.length_map, List.length_drop, List.length_take, List.length_append, List.length_replicate]; omega) | (simp <;> omega)) rfl) rfl ?_
              refine J.o_op_g rfl rfl rfl rfl (Yd.move rfl) rfl ?_
              refine J.o_op_g rfl rfl rfl rfl (Yd.move rfl) rfl ?_
              refine J.o_op_g rfl rfl rfl rfl (Yd.sub rfl rfl (by first | omega | exact idx_u8' _ | (simp only [Int.toNat_natCast]; omega) | (simp only [List.length_map, List.length_drop, List.length_take, List.length_append, List.length_replicate]; omega) | (simp <;> omega))) rfl ?_
              refine J.o_op_g rfl rfl rfl rfl (Yd.idxE (K := itmS) Try.underlying31 ti36 rfl rfl (Es.rd ho14) (by first | omega | exact idx_u8' _ | (simp only [Int.toNat_natCast]; omega) | (simp only [List.length_map, List.length_drop, List.length_take, List.length_append, List.length_replicate]; omega) | (simp <;> omega))) rfl ?_
              refine J.o_op_g rfl rfl rfl rfl (Yd.fieldE (K := itmS) (Es.rd ho14) (by omega) Try.underlying36 rfl ti3 rfl rfl) rfl ?_
              refine J.o_op_g rfl rfl rfl rfl (Yd.loadFd (K := itmS) itmD pl3 rfl (Es.rd ho14) (by first | omega | exact idx_u8' _ | (simp only [Int.toNat_natCast]; omega) | (simp only [List.length_map, List.length_drop, List.length_take, List.length_append, List.length_replicate]; omega) | (simp <;> omega)) rfl) rfl ?_
              refine J.o_nil ?_
              refine J.s_op_g rfl rfl rfl rfl (fun _ => Yd.leq rfl rfl) rfl ?_
              refine J.s_op_g rfl rfl rfl rfl (fun _ => Yd.pick_t rfl rfl) rfl ?_
              refine J.s_op rfl (fun _ => Yd.pick_f rfl rfl) rfl ?_
              refine J.s_nil ?_
              refine J.n_np ?_
              refine J.n_then ?_
              refine J.know (t := 131) (v' := .bool false) rfl (ff (by first | omega | (have h7 := hdi j (by omega); have h8 := hdi (j - 1) (by omega); have h9 := (htq2.lt (show j < l2.length by omega) (by omega)); rw [show ((j : Int) - 1).toNat = j - 1 by omega, Int.toNat_natCast]; omega))) ?_
              refine J.cond_false rfl ?_
              refine J.skip ?_
              refine J.n_block ?_
              refine J.n_then ?_
              refine J.region ?_
              refine J.op (Yd.move rfl) rfl ?_
              refine J.op (Yd.add rfl rfl (by first | omega | exact idx_u8' _ | (simp only [Int.toNat_natCast]; omega) | (simp only [List.length_map, List.length_drop, List.length_take, List.length_append, List.length_replicate]; omega) | (simp <;> omega))) rfl ?_
              refine J.op (Yd.assign rfl) rfl ?_
              refine J.nil ?_
              refine J.n_then ?_
              exact J.round (j + 1) ⟨rfl, rfl, rfl, rfl, rfl, rfl, rfl, rfl, trivial⟩ (⟨by omega, hq, ho6, ho14, e0⟩) (by omega)
            · skip
              refine J.o_not_g rfl rfl rfl rfl rfl rfl ?_
              refine J.o_not_g rfl rfl rfl rfl rfl rfl ?_
              refine J.o_not_g rfl rfl rfl rfl rfl rfl ?_
              refine J.o_not_g rfl rfl rfl rfl rfl rfl ?_
              refine J.o_not_g rfl rfl rfl rfl rfl rfl ?_
              refine J.o_not_g rfl rfl rfl rfl rfl rfl ?_
              refine J.o_not_g rfl rfl rfl rfl rfl rfl ?_
              refine J.o_not_g rfl rfl rfl rfl rfl rfl ?_
              refine J.o_not_g rfl rfl rfl rfl rfl rfl ?_
              refine J.o_not_g rfl rfl rfl rfl rfl rfl ?_
              refine J.o_not_g rfl rfl rfl rfl rfl rfl ?_
              refine J.o_nil ?_
              refine J.s_not_g rfl rfl rfl rfl rfl rfl ?_
              refine J.s_op_g rfl rfl rfl rfl (fun _ => Yd.pick_f rfl rfl) rfl ?_
              refine J.s_op rfl (fun _ => Yd.pick_f rfl rfl) rfl ?_
              refine J.s_nil ?_
              refine J.n_np ?_
              refine J.n_then ?_
              refine J.cond_false rfl ?_
              refine J.skip ?_
              refine J.n_block ?_
              refine J.n_then ?_
              refine J.region ?_
              refine J.op (Yd.move rfl) rfl ?_
              refine J.op (Yd.add rfl rfl (by first | omega | exact idx_u8' _ | (simp only [Int.toNat_natCast]; omega) | (simp only [List.length_map, List.length_drop, List.length_take, List.length_append, List.length_replicate]; omega) | (simp <;> omega))) rfl ?_
              refine J.op (Yd.assign rfl) rfl ?_
              refine J.nil ?_
              refine J.n_then ?_
              exact J.round (j + 1) ⟨rfl, rfl, rfl, rfl, rfl, rfl, rfl, rfl, trivial⟩ (⟨by omega, hq, ho6, ho14, e0⟩) (by omega)
          · skip
            refine J.exit ?_
            refine J.x_then ?_
            refine J.x_then ?_
            refine J.x_block ?_
            refine J.n_block ?_
            refine J.n_then ?_
            refine J.region ?_
            refine J.op (Yd.move rfl) rfl ?_
            refine J.op (Yd.add rfl rfl (by first | omega | exact idx_u8' _ | (simp only [Int.toNat_natCast]; omega) | (simp only [List.length_map, List.length_drop, List.length_take, List.length_append, List.length_replicate]; omega) | (simp <;> omega))) rfl ?_
            refine J.op (Yd.assign rfl) rfl ?_
            refine J.nil ?_
            refine J.n_then ?_
            exact J.round ((n0 + 1, v12, nw + T, l2, la1)) ⟨rfl, rfl, rfl, rfl, rfl, rfl, trivial⟩ (⟨by show n0 + 1 ≤ ticks.length; omega, ⟨K0, _, hq, hqb2, htq2, (fun x hx => by rw [hl2] at hx; have h9 := (List.mem_filter.1 hx).2; unfold agP at h9; simp at h9; omega), hov12, hll2, (by show 0 ≤ nw + T ∧ nw + T ≤ 500 * ((n0 + 1 : Nat) : Int); omega), (by show 0 ≤ la1 ∧ la1 ≤ ((n0 + 1 : Nat) : Int); omega)⟩, ho6, fr_v12, e0⟩) (by show ticks.length - (n0 + 1) < ticks.length - n0; omega)
      · skip
        refine J.eff (Ye.call cl12 rfl (TickQ_ok hq (by omega) (by omega) (by omega) (hqb.all (fun x hx => by have := htq.bd x hx; omega)) (by rw [hqb.tot]; omega))) rfl ?_
        rintro _ w29 ⟨rfl, K3_, hq2, hkk, hT2⟩
        have out_v6_ : Out K3_ v6.ownBlock := Out.kk hov6 (Ow.live ho6a) hkk
        have ho6a := Ow.thK ho6a hT2 hq.bb hov6
        have e0 := Ext.thK e0 hT2 hq.bb (fun k hk => (hq.kb k hk).1)
        have out_v6 := out_v6_
        clear out_v6_
        replace hq := hq2
        clear hq2 hkk hT2
        obtain ⟨l2, hl2⟩ : ∃ l2, l2 = l1.filter (fun x => !agP (nw + T) ex x) := ⟨_, rfl⟩
        rw [tkI_small (by omega) (by omega)] at hq
        have hqb2 := hqb.map (fun x => !agP (nw + T) ex x)
        rw [← hl2] at hqb2
        obtain ⟨q2, hq2⟩ : ∃ q2, q2 = q1.map fun p => (p.1, p.2.filter fun x => !agP (nw + T) ex x) := ⟨_, rfl⟩
        rw [← hq2] at hq hqb2
        refine J.nil ?_
        refine J.n_then ?_
        refine J.seq ?_
        refine J.region ?_
        refine J.op (Yd.move rfl) rfl ?_
        refine J.op (Yd.move rfl) rfl ?_
        refine J.op (Yd.add rfl rfl (by first | omega | exact idx_u8' _ | (simp only [Int.toNat_natCast]; omega) | (simp only [List.length_map, List.length_drop, List.length_take, List.length_append, List.length_replicate]; omega) | (simp <;> omega))) rfl ?_
        refine J.op (Yd.assign rfl) rfl ?_
        refine J.nil ?_
        refine J.n_then ?_
        refine J.seq ?_
        refine J.region ?_
        refine J.op (Yd.assign rfl) rfl ?_
        refine J.nil ?_
        refine J.n_then ?_
        refine J.seq ?_
        refine J.seq ?_
        refine J.region ?_
        refine J.op (Yd.assign rfl) rfl ?_
        refine J.nil ?_
        refine J.n_then ?_
        refine J.block ?_
        refine J.loop (ι := Nat × Value) (fun i => [(0, I ex), (1, s), (8, I (n0 : Int)), (7, I (nw + T)), (13, I (i.1 : Int)), (5, .pointer (some ⟨b, 0, none⟩)), (6, v6), (12, i.2)]) (fun i w' => i.1 ≤ l1.length ∧ Rq 65 36 w.heap.size K3_ w' b (ex, nw + T, la1) q2 ∧ Out K3_ i.2.ownBlock ∧ Ow w.heap.size 3 w' v6 ((l1.map bornP).map fun x => I x) ∧ Ow w.heap.size 3 w' i.2 ((((l1.take i.1).filter (fun x => !agP (nw + T) ex x)).map bornP).map fun x => I x) ∧ Fr w.heap.size (i.2).ownBlock ∧ Ap v6.ownBlock (i.2).ownBlock ∧ Ext w w') (fun i => l1.length - i.1) ((0, nilS)) ⟨rfl, rfl, rfl, rfl, rfl, rfl, rfl, rfl, trivial⟩ (⟨Nat.zero_le _, hq, (fun k e => by cases e), ho6a, (Ow.nilM _ _ _ _), Fr.nil, Ap.nil_r, e0⟩) ?_
        rintro ⟨k, v12⟩ w30 ⟨hk1, hq, hov12, ho6, ho12, fr_v12, ap_v6_v12, e0⟩
        dsimp only at *
        refine J.seq ?_
        refine J.seq ?_
        refine J.region ?_
        refine J.op (Yd.move rfl) rfl ?_
        refine J.op (Yd.move rfl) rfl ?_
        refine J.op (Yd.len_m Try.underlying22 rfl (Ow.rd ho6)) rfl ?_
        refine J.op (Yd.lss rfl rfl) rfl ?_
        refine J.nil ?_
        refine J.n_then ?_
        refine J.cond_dec rfl (fun hc5 => ?_) (fun hc5 => ?_)
        · skip
          have hbk := htq.bd _ (show l1.getD k itD0 ∈ l1 from getD_memE itD0 (by rw [List.length_map] at hc5; omega))
          have hfl := List.length_filter_le (fun x => !agP (nw + T) ex x) (l1.take k)
          have htk := List.length_take_le k l1
          refine J.skip ?_
          refine J.n_then ?_
          refine J.seq ?_
          refine J.block ?_
          refine J.seq ?_
          refine J.region ?_
          refine J.op (Yd.move rfl) rfl ?_
          refine J.op (Yd.move rfl) rfl ?_
          refine J.op (Yd.move rfl) rfl ?_
          refine J.op (Yd.idx_m Try.underlying22 ti3 rfl rfl (Ow.rd ho6) (by first | omega | exact idx_u8' _ | (simp only [Int.toNat_natCast]; omega) | (simp only [List.length_map, List.length_drop, List.length_take, List.length_append, List.length_replicate]; omega) | (simp <;> omega))) rfl ?_
          refine J.op (Yd.cast (Yd.load pl3 rfl (Rd.cellI (Ow.rd ho6) (by first | omega | exact idx_u8' _ | (simp only [Int.toNat_natCast]; omega) | (simp only [List.length_map, List.length_drop, List.length_take, List.length_append, List.length_replicate]; omega) | (simp <;> omega)))) (congrArg (fun z => I z) (show _ = (l1.getD k itD0).2.2.1 by rw [Int.toNat_natCast, bornP_get (by rw [List.length_map] at hc5; omega)]))) rfl ?_
          refine J.op (Yd.sub rfl rfl (by first | omega | exact idx_u8' _ | (simp only [Int.toNat_natCast]; omega) | (simp only [List.length_map, List.length_drop, List.length_take, List.length_append, List.length_replicate]; omega) | (simp <;> omega))) rfl ?_
          refine J.op (Yd.move rfl) rfl ?_
          refine J.op (Yd.lss rfl rfl) rfl ?_
          refine J.nil ?_
          refine J.n_then ?_
          refine J.cond_dec rfl (fun hc6 => ?_) (fun hc6 => ?_)
          · skip
            refine J.region ?_
            refine J.op (Yd.move rfl) rfl ?_
            refine J.op (Yd.move rfl) rfl ?_
            refine J.op (Yd.move rfl) rfl ?_
            refine J.op (Yd.idx_m Try.underlying22 ti3 rfl rfl (Ow.rd ho6) (by first | omega | exact idx_u8' _ | (simp only [Int.toNat_natCast]; omega) | (simp only [List.length_map, List.length_drop, List.length_take, List.length_append, List.length_replicate]; omega) | (simp <;> omega))) rfl ?_
            refine J.op (Yd.cast (Yd.load pl3 rfl (Rd.cellI (Ow.rd ho6) (by first | omega | exact idx_u8' _ | (simp only [Int.toNat_natCast]; omega) | (simp only [List.length_map, List.length_drop, List.length_take, List.length_append, List.length_replicate]; omega) | (simp <;> omega)))) (congrArg (fun z => I z) (show _ = (l1.getD k itD0).2.2.1 by rw [Int.toNat_natCast, bornP_get (by rw [List.length_map] at hc5; omega)]))) rfl ?_
            refine J.eff (Ye.lit1 (base := w30.heap.size) (f := (fun x : Int => I x)) Try.underlying22 ti3 rfl rfl (fun _ => rfl) (Nat.le_refl _)) rfl ?_
            rintro s82_31 w31 ⟨o82_31, x1⟩
            have ap_v6_s82_31 : Ap v6.ownBlock s82_31.ownBlock := Ap.mk (Ow.live ho6) (Ow.fr o82_31)
            have ap_v12_s82_31 : Ap v12.ownBlock s82_31.ownBlock := Ap.mk (Ow.live ho12) (Ow.fr o82_31)
            have fr_s82_31 : Fr w.heap.size s82_31.ownBlock := Fr.le (Ow.fr o82_31) e0.size
            have out_s82_31 : Out K3_ s82_31.ownBlock := hq.out (Ow.fr o82_31)
            replace o82_31 := Ow.base o82_31 e0.size
            have e0 := e0.trans x1
            have ho6 := ho6.ext x1
            have ho12 := ho12.ext x1
            have hq := hq.ext x1
            clear x1
            refine J.eff (Ye.appendS Try.underlying22 ti3 rfl rfl rfl rfl ho12 (Ow.rd o82_31) (fun _ => rfl) (by first | omega | exact idx_u8' _ | (simp only [Int.toNat_natCast]; omega) | (simp only [List.length_map, List.length_drop, List.length_take, List.length_append, List.length_replicate]; omega) | (simp <;> omega)) e0.size) rfl ?_
            rintro s83_32 w32 ⟨o83_32, hg, hsf⟩
            have ap_v6_s83_32 : Ap v6.ownBlock s83_32.ownBlock := Ap.sf ap_v6_v12 (Ow.live ho6) hsf
            have ap_s82_31_s83_32 : Ap s82_31.ownBlock s83_32.ownBlock := Ap.sf (Ap.symm ap_v12_s82_31) (Ow.live o82_31) hsf
            have fr_s83_32 : Fr w.heap.size s83_32.ownBlock := Fr.sf fr_v12 hsf e0.size
            have out_s83_32 : Out K3_ s83_32.ownBlock := hq.outS hov12 hsf
            have ho6 := Ow.gbk ho6 hg ap_v6_v12
            have hq := hq.g1 hg hov12
            have o82_31 := Ow.gbk o82_31 hg (Ap.symm ap_v12_s82_31)
            have e0 := Ext.gbk e0 fr_v12 hg
            clear hg hsf
            refine J.op (Yd.assign rfl) rfl ?_
            refine J.nil ?_
            refine J.n_block ?_
            refine J.n_then ?_
            refine J.region ?_
            refine J.op (Yd.move rfl) rfl ?_
            refine J.op (Yd.add rfl rfl (by first | omega | exact idx_u8' _ | (simp only [Int.toNat_natCast]; omega) | (simp only [List.length_map, List.length_drop, List.length_take, List.length_append, List.length_replicate]; omega) | (simp <;> omega))) rfl ?_
            refine J.op (Yd.assign rfl) rfl ?_
            refine J.nil ?_
            refine J.n_then ?_
            exact J.round ((k + 1, s83_32)) ⟨rfl, rfl, rfl, rfl, rfl, rfl, rfl, rfl, trivial⟩ (⟨by show k + 1 ≤ l1.length; rw [List.length_map] at hc5; omega, hq, out_s83_32, ho6, (by rw [List.length_map] at hc5; rw [flt_take (by omega)]; rw [if_pos (keep_yes hc6)]; exact o83_32), fr_s83_32, ap_v6_s83_32, e0⟩) (by show l1.length - (k + 1) < l1.length - k; rw [List.length_map] at hc5; omega)
          · skip
            refine J.skip ?_
            refine J.n_block ?_
            refine J.n_then ?_
            refine J.region ?_
            refine J.op (Yd.move rfl) rfl ?_
            refine J.op (Yd.add rfl rfl (by first | omega | exact idx_u8' _ | (simp only [Int.toNat_natCast]; omega) | (simp only [List.length_map, List.length_drop, List.length_take, List.length_append, List.length_replicate]; omega) | (simp <;> omega))) rfl ?_
            refine J.op (Yd.assign rfl) rfl ?_
            refine J.nil ?_
            refine J.n_then ?_
            exact J.round ((k + 1, v12)) ⟨rfl, rfl, rfl, rfl, rfl, rfl, rfl, rfl, trivial⟩ (⟨by show k + 1 ≤ l1.length; rw [List.length_map] at hc5; omega, hq, hov12, ho6, (by rw [List.length_map] at hc5; rw [flt_take (by omega)]; rw [if_neg (keep_no hc6), List.append_nil]; exact ho12), fr_v12, ap_v6_v12, e0⟩) (by show l1.length - (k + 1) < l1.length - k; rw [List.length_map] at hc5; omega)
        · skip
          rw [List.length_map] at hc5
          have hl12 : ((l1.take k).filter (fun x => !agP (nw + T) ex x)).map bornP = l2.map bornP := by rw [hl2, List.take_of_length_le (by omega)]
          rw [hl12] at ho12
          have htq2 : TQ l2 (nw + T) la1 := hl2 ▸ htq.filter _ (by omega)
          have hfr2 : ∀ x ∈ l2, x.2.2.2 = [] := fun x hx => (htq2.bd x hx).2.2
          have hll2 : l2.length ≤ 30 := by rw [hl2]; exact Nat.le_trans (List.length_filter_le _ _) hll
          refine J.exit ?_
          refine J.x_then ?_
          refine J.x_then ?_
          refine J.x_block ?_
          refine J.n_then ?_
          refine J.seq ?_
          refine J.region ?_
          refine J.op (Yd.move rfl) rfl ?_
          refine J.op (Yd.assign rfl) rfl ?_
          refine J.nil ?_
          refine J.n_then ?_
          refine J.seq ?_
          refine J.region ?_
          refine J.op (Yd.move rfl) rfl ?_
          refine J.eff (Ye.call cl13 rfl (ListQ_ok hq (by rw [hqb2.get]; intro x hx; rw [hfr2 x hx]; exact Nat.zero_le _) (by rw [hqb2.get]; omega))) rfl ?_
          rintro v86 w33 ⟨es, ov86, hhd, x1⟩
          have ap_v6_v86 : Ap v6.ownBlock v86.ownBlock := Ap.mk (Ow.live ho6) (Es.fr ov86)
          have ap_v12_v86 : Ap v12.ownBlock v86.ownBlock := Ap.mk (Ow.live ho12) (Es.fr ov86)
          have fr_v86 : Fr w.heap.size v86.ownBlock := Fr.le (Es.fr ov86) e0.size
          have out_v86 : Out K3_ v86.ownBlock := hq.out (Es.fr ov86)
          replace ov86 := Es.base ov86 e0.size
          have e0 := e0.trans x1
          have ho6 := ho6.ext x1
          have ho12 := ho12.ext x1
          have hq := hq.ext x1
          clear x1
          rw [hqb2.get] at hhd
          have hln := congrArg List.length hhd
          rw [List.length_map, List.length_map] at hln
          have hdb : ∀ j, j < l2.length → (es.getD j itmD).2.2.1 = (l2.getD j itD0).2.2.1 := fun j hj => congrArg (fun z => z.2.2) (hdr_get hhd hj)
          have hdi : ∀ j, j < l2.length → (es.getD j itmD).1 = (l2.getD j itD0).1 := fun j hj => congrArg (fun z => z.1) (hdr_get hhd hj)
          refine J.op (Yd.assign rfl) rfl ?_
          refine J.nil ?_
          refine J.n_then ?_
          refine J.seq ?_
          refine J.seq ?_
          refine J.region ?_
          refine J.op (Yd.move rfl) rfl ?_
          refine J.op (Yd.lenE (K := itmS) Try.underlying31 rfl (Es.rd ov86)) rfl ?_
          refine J.op (Yd.move rfl) rfl ?_
          refine J.op (Yd.len_m Try.underlying22 rfl (Ow.rd ho12)) rfl ?_
          refine J.op (Yd.neq rfl rfl) rfl ?_
          refine J.op (Yd.move rfl) rfl ?_
          refine J.know (t := 92) (v' := .bool false) rfl (ff (by rw [List.length_map]; omega)) ?_
          refine J.op_g rfl rfl rfl (Yd.move rfl) rfl ?_
          refine J.eff_g rfl rfl rfl (Ye.call cl14 rfl (NowQ_ok hq)) rfl ?_
          rintro _ w34 ⟨rfl, x1⟩
          have e0 := e0.trans x1
          have ho6 := ho6.ext x1
          have ho12 := ho12.ext x1
          have hq := hq.ext x1
          have ov86 := ov86.ext x1
          clear x1
          refine J.op_g rfl rfl rfl (Yd.move rfl) rfl ?_
          refine J.op_g rfl rfl rfl (Yd.neq rfl rfl) rfl ?_
          refine J.op (Yd.pick_f rfl rfl) rfl ?_
          refine J.nil ?_
          refine J.n_then ?_
          refine J.know (t := 97) (v' := .bool false) rfl (ff (by omega)) ?_
          refine J.cond_false rfl ?_
          refine J.skip ?_
          refine J.n_then ?_
          refine J.seq ?_
          refine J.region ?_
          refine J.op (Yd.assign rfl) rfl ?_
          refine J.nil ?_
          refine J.n_then ?_
          refine J.block ?_
          refine J.loop (ι := Nat) (fun i => [(0, I ex), (1, s), (8, I (n0 : Int)), (7, I (nw + T)), (15, I (i : Int)), (5, .pointer (some ⟨b, 0, none⟩)), (6, v12), (14, v86)]) (fun i w' => i ≤ l2.length ∧ Rq 65 36 w.heap.size K3_ w' b (ex, nw + T, la1) q2 ∧ Ow w.heap.size 3 w' v12 ((l2.map bornP).map fun x => I x) ∧ Es itmS w.heap.size 36 w' v86 es ∧ Ext w w') (fun i => l2.length - i) (0) ⟨rfl, rfl, rfl, rfl, rfl, rfl, rfl, rfl, trivial⟩ (⟨Nat.zero_le _, hq, ho12, ov86, e0⟩) ?_
          rintro j w35 ⟨hk2, hq, ho6, ho14, e0⟩
          refine J.seq ?_
          refine J.seq ?_
          refine J.region ?_
          refine J.op (Yd.move rfl) rfl ?_
          refine J.op (Yd.move rfl) rfl ?_
          refine J.op (Yd.lenE (K := itmS) Try.underlying31 rfl (Es.rd ho14)) rfl ?_
          refine J.op (Yd.lss rfl rfl) rfl ?_
          refine J.nil ?_
          refine J.n_then ?_
          refine J.cond_dec rfl (fun hc8 => ?_) (fun hc8 => ?_)
          · skip
            refine J.skip ?_
            refine J.n_then ?_
            refine J.seq ?_
            refine J.block ?_
            refine J.seq ?_
            refine J.regionO [(0, true), (1, true), (5, true), (6, true)] [(2, 1), (7, 1), (8, 1), (3, 1), (4, 1), (9, 1), (10, 1), (11, 1), (12, 1), (13, 1), (14, 1), (15, 1), (16, 1), (17, 1), (18, 1), (19, 1), (20, 1), (21, 1), (22, 1), (23, 1), (24, 1)] [(25, true), (26, true), (27, true)] mix (by kernel_rfl) ?_
            refine J.s_op rfl (fun _ => Yd.move rfl) rfl ?_
            refine J.s_op rfl (fun _ => Yd.move rfl) rfl ?_
            refine J.s_op rfl (fun _ => Yd.move rfl) rfl ?_
            refine J.s_op rfl (fun _ => Yd.move rfl) rfl ?_
            refine J.s_nil ?_
            refine J.o_op rfl (Yd.idxE (K := itmS) Try.underlying31 ti36 rfl rfl (Es.rd ho14) (by first | omega | exact idx_u8' _ | (simp only [Int.toNat_natCast]; omega) | (simp only [List.length_map, List.length_drop, List.length_take, List.length_append, List.length_replicate]; omega) | (simp <;> omega))) rfl ?_
            refine J.o_op rfl (Yd.idx_m Try.underlying22 ti3 rfl rfl (Ow.rd ho6) (by first | omega | exact idx_u8' _ | (simp only [Int.toNat_natCast]; omega) | (simp only [List.length_map, List.length_drop, List.length_take, List.length_append, List.length_replicate]; omega) | (simp <;> omega))) rfl ?_
            refine J.o_op rfl (Yd.load pl3 rfl (Rd.cellI (Ow.rd ho6) (by first | omega | exact idx_u8' _ | (simp only [Int.toNat_natCast]; omega) | (simp only [List.length_map, List.length_drop, List.length_take, List.length_append, List.length_replicate]; omega) | (simp <;> omega)))) rfl ?_
            refine J.o_op rfl (Yd.fieldE (K := itmS) (Es.rd ho14) (by omega) Try.underlying36 rfl ti3 rfl rfl) rfl ?_
            refine J.o_op rfl (Yd.loadFd (K := itmS) itmD pl3 rfl (Es.rd ho14) (by first | omega | exact idx_u8' _ | (simp only [Int.toNat_natCast]; omega) | (simp only [List.length_map, List.length_drop, List.length_take, List.length_append, List.length_replicate]; omega) | (simp <;> omega)) rfl) rfl ?_
            refine J.o_op rfl (Yd.neq rfl rfl) rfl ?_
            refine J.o_op rfl (Yd.move rfl) rfl ?_
            refine J.know (t := 114) (v' := .bool false) rfl (ff (by rw [Int.toNat_natCast, bornP_get (by omega)]; exact fun h => h (hdb j (by omega)))) ?_
            refine J.o_op_g rfl rfl rfl rfl (Yd.move rfl) rfl ?_
            refine J.o_op_g rfl rfl rfl rfl (Yd.gtr rfl rfl) rfl ?_
            refine J.o_op_g rfl rfl rfl rfl (Yd.move rfl) rfl ?_
            refine J.split_dec (t := 117) rfl (fun hk0 => ?_) (fun hk0 => ?_)
            · skip
              refine J.o_op_g rfl rfl rfl rfl (Yd.move rfl) rfl ?_
              refine J.o_op_g rfl rfl rfl rfl (Yd.move rfl) rfl ?_
              refine J.o_op_g rfl rfl rfl rfl (Yd.idxE (K := itmS) Try.underlying31 ti36 rfl rfl (Es.rd ho14) (by first | omega | exact idx_u8' _ | (simp only [Int.toNat_natCast]; omega) | (simp only [List.length_map, List.length_drop, List.length_take, List.length_append, List.length_replicate]; omega) | (simp <;> omega))) rfl ?_
              refine J.o_op_g rfl rfl rfl rfl (Yd.fieldE (K := itmS) (Es.rd ho14) (by omega) Try.underlying36 rfl ti3 rfl rfl) rfl ?_
              refine J.o_op_g rfl rfl rfl rfl (Yd.loadFd (K := itmS) itmD pl3 rfl (Es.rd ho14) (by first | omega | exact idx_u8' _ | (simp only [Int.toNat_natCast]; omega) | (simp only [List.length_map, List.length_drop, List.length_take, List.length_append, List.length_replicate]; omega) | (simp <;> omega)) rfl) rfl ?_
              refine J.o_op_g rfl rfl rfl rfl (Yd.move rfl) rfl ?_
              refine J.o_op_g rfl rfl rfl rfl (Yd.move rfl) rfl ?_
              refine J.o_op_g rfl rfl rfl rfl (Yd.sub rfl rfl (by first | omega | exact idx_u8' _ | (simp only [Int.toNat_natCast]; omega) | (simp only [List.length_map, List.length_drop, List.length_take, List.length_append, List.length_replicate]; omega) | (simp <;> omega))) rfl ?_
              refine J.o_op_g rfl rfl rfl rfl (Yd.idxE (K := itmS) Try.underlying31 ti36 rfl rfl (Es.rd ho14) (by first | omega | exact idx_u8' _ | (simp only [Int.toNat_natCast]; omega) | (simp only [List.length_map, List.length_drop, List.length_take, List.length_append, List.length_replicate]; omega) | (simp <;> omega))) rfl ?_
              refine J.o_op_g rfl rfl rfl rfl (Yd.fieldE (K := itmS) (Es.rd ho14) (by omega) Try.underlying36 rfl ti3 rfl rfl) rfl ?_
              refine J.o_op_g rfl rfl rfl rfl (Yd.loadFd (K := itmS) itmD pl3 rfl (Es.rd ho14) (by first | omega | exact idx_u8' _ | (simp only [Int.toNat_natCast]; omega) | (simp only [List.length_map, List.length_drop, List.length_take, List.length_append, List.length_replicate]; omega) | (simp <;> omega)) rfl) rfl ?_
              refine J.o_nil ?_
              refine J.s_op_g rfl rfl rfl rfl (fun _ => Yd.leq rfl rfl) rfl ?_
              refine J.s_op_g rfl rfl rfl rfl (fun _ => Yd.pick_t rfl rfl) rfl ?_
              refine J.s_op rfl (fun _ => Yd.pick_f rfl rfl) rfl ?_
              refine J.s_nil ?_
              refine J.n_np ?_
              refine J.n_then ?_
              refine J.know (t := 131) (v' := .bool false) rfl (ff (by first | omega | (have h7 := hdi j (by omega); have h8 := hdi (j - 1) (by omega); have h9 := (htq2.lt (show j < l2.length by omega) (by omega)); rw [show ((j : Int) - 1).toNat = j - 1 by omega, Int.toNat_natCast]; omega))) ?_
              refine J.cond_false rfl ?_
              refine J.skip ?_
              refine J.n_block ?_
              refine J.n_then ?_
              refine J.region ?_
              refine J.op (Yd.move rfl) rfl ?_
              refine J.op (Yd.add rfl rfl (by first | omega | exact idx_u8' _ | (simp only [Int.toNat_natCast]; omega) | (simp only [List.length_map, List.length_drop, List.length_take, List.length_append, List.length_replicate]; omega) | (simp <;> omega))) rfl ?_
              refine J.op (Yd.assign rfl) rfl ?_
              refine J.nil ?_
              refine J.n_then ?_
              exact J.round (j + 1) ⟨rfl, rfl, rfl, rfl, rfl, rfl, rfl, rfl, trivial⟩ (⟨by omega, hq, ho6, ho14, e0⟩) (by omega)
            · skip
              refine J.o_not_g rfl rfl rfl rfl rfl rfl ?_
              refine J.o_not_g rfl rfl rfl rfl rfl rfl ?_
              refine J.o_not_g rfl rfl rfl rfl rfl rfl ?_
              refine J.o_not_g rfl rfl rfl rfl rfl rfl ?_
              refine J.o_not_g rfl rfl rfl rfl rfl rfl ?_
              refine J.o_not_g rfl rfl rfl rfl rfl rfl ?_
              refine J.o_not_g rfl rfl rfl rfl rfl rfl ?_
              refine J.o_not_g rfl rfl rfl rfl rfl rfl ?_
              refine J.o_not_g rfl rfl rfl rfl rfl rfl ?_
              refine J.o_not_g rfl rfl rfl rfl rfl rfl ?_
              refine J.o_not_g rfl rfl rfl rfl rfl rfl ?_
              refine J.o_nil ?_
              refine J.s_not_g rfl rfl rfl rfl rfl rfl ?_
              refine J.s_op_g rfl rfl rfl rfl (fun _ => Yd.pick_f rfl rfl) rfl ?_
              refine J.s_op rfl (fun _ => Yd.pick_f rfl rfl) rfl ?_
              refine J.s_nil ?_
              refine J.n_np ?_
              refine J.n_then ?_
              refine J.cond_false rfl ?_
              refine J.skip ?_
              refine J.n_block ?_
              refine J.n_then ?_
              refine J.region ?_
              refine J.op (Yd.move rfl) rfl ?_
              refine J.op (Yd.add rfl rfl (by first | omega | exact idx_u8' _ | (simp only [Int.toNat_natCast]; omega) | (simp only [List.length_map, List.length_drop, List.length_take, List.length_append, List.length_replicate]; omega) | (simp <;> omega))) rfl ?_
              refine J.op (Yd.assign rfl) rfl ?_
              refine J.nil ?_
              refine J.n_then ?_
              exact J.round (j + 1) ⟨rfl, rfl, rfl, rfl, rfl, rfl, rfl, rfl, trivial⟩ (⟨by omega, hq, ho6, ho14, e0⟩) (by omega)
          · skip
            refine J.exit ?_
            refine J.x_then ?_
            refine J.x_then ?_
            refine J.x_block ?_
            refine J.n_block ?_
            refine J.n_then ?_
            refine J.region ?_
            refine J.op (Yd.move rfl) rfl ?_
            refine J.op (Yd.add rfl rfl (by first | omega | exact idx_u8' _ | (simp only [Int.toNat_natCast]; omega) | (simp only [List.length_map, List.length_drop, List.length_take, List.length_append, List.length_replicate]; omega) | (simp <;> omega))) rfl ?_
            refine J.op (Yd.assign rfl) rfl ?_
            refine J.nil ?_
            refine J.n_then ?_
            exact J.round ((n0 + 1, v12, nw + T, l2, la1)) ⟨rfl, rfl, rfl, rfl, rfl, rfl, trivial⟩ (⟨by show n0 + 1 ≤ ticks.length; omega, ⟨K3_, _, hq, hqb2, htq2, (fun x hx => by rw [hl2] at hx; have h9 := (List.mem_filter.1 hx).2; unfold agP at h9; simp at h9; omega), hov12, hll2, (by show 0 ≤ nw + T ∧ nw + T ≤ 500 * ((n0 + 1 : Nat) : Int); omega), (by show 0 ≤ la1 ∧ la1 ≤ ((n0 + 1 : Nat) : Int); omega)⟩, ho6, fr_v12, e0⟩) (by show ticks.length - (n0 + 1) < ticks.length - n0; omega)
  · skip
    refine J.exit ?_
    refine J.x_then ?_
    refine J.x_then ?_
    refine J.x_block ?_
    refine J.n_then ?_
    refine J.seq ?_
    refine J.region ?_
    refine J.eff (Ye.call cl8 rfl (Awake_ok)) rfl ?_
    rintro _ w36 ⟨rfl, x1⟩
    have e0 := e0.trans x1
    have ho6a := ho6a.ext x1
    have hq := hq.ext x1
    clear x1
    refine J.op (Yd.assign rfl) rfl ?_
    refine J.nil ?_
    refine J.n_then ?_
    refine J.ret ?_
    exact J.ret1 rfl rfl (⟨_, rfl, rfl, e0⟩)

theorem Times_ok {s : Value} {ticks : List Int} {ex : Int} {w : World} (hti : Rd w s (ticks.map fun x => I x)) : C Try.prog 3 [I ex, s] w (Ret fun v w' => v = .bool true ∧ Ext w w') := by
  by_cases hb : 1 ≤ ex ∧ ex ≤ 1000 ∧ ticks.length ≤ 30
  · exact TimesIn hti hb
  · exact TimesOut hti hb
end Ytmpfgiffpdackaa
end Go.Proofs
