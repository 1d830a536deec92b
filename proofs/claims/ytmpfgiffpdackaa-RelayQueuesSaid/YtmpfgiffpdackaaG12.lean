import Derived.Test.YtmpfgiffpdackaaT
import Derived.Test.YtmpfgiffpdackaaG10
set_option linter.unusedVariables false
set_option linter.unusedSimpArgs false
set_option maxRecDepth 100000
set_option maxHeartbeats 4000000
namespace Go.Proofs
open Go.X Go.RowKit
namespace Ytmpfgiffpdackaa
theorem QueuesOut {s : Value} {gone : List Int} {n : Int} {w : World} (hi : Rd w s (gone.map fun x => I x)) (hb : ¬ (0 ≤ n ∧ n ≤ 40 ∧ gone.length ≤ 20)) : C Try.prog 4 [I n, s] w (Ret fun v w' => v = .bool true ∧ Ext w w') := by
  have e0 := Ext.refl w
  refine C.enter Try.func4 rfl Try.ntmps4 rfl ?_
  refine J.seq ?_
  refine J.region ?_
  refine J.op (Yd.assign rfl) rfl ?_
  refine J.nil ?_
  refine J.n_then ?_
  refine J.seq ?_
  refine J.seq ?_
  refine J.region ?_
  refine J.op (Yd.move rfl) rfl ?_
  refine J.op (Yd.lss rfl rfl) rfl ?_
  refine J.op (Yd.move rfl) rfl ?_
  refine J.split_dec (t := 18) rfl (fun hs1 => ?_) (fun hs1 => ?_)
  · skip
    refine J.not_g rfl rfl rfl rfl rfl ?_
    refine J.not_g rfl rfl rfl rfl rfl ?_
    refine J.op (Yd.pick_t rfl rfl) rfl ?_
    refine J.op (Yd.move rfl) rfl ?_
    refine J.not_g rfl rfl rfl rfl rfl ?_
    refine J.not_g rfl rfl rfl rfl rfl ?_
    refine J.not_g rfl rfl rfl rfl rfl ?_
    refine J.op (Yd.pick_t rfl rfl) rfl ?_
    refine J.nil ?_
    refine J.n_then ?_
    refine J.cond_true rfl ?_
    refine J.seq ?_
    refine J.region ?_
    refine J.eff (Ye.call cl8 rfl (Awake_ok)) rfl ?_
    rintro _ w1 ⟨rfl, x1⟩
    have e0 := e0.trans x1
    clear x1
    refine J.op (Yd.assign rfl) rfl ?_
    refine J.nil ?_
    refine J.n_then ?_
    refine J.ret ?_
    refine J.r_then ?_
    exact J.ret1 rfl rfl (⟨_, rfl, rfl, e0⟩)
  · skip
    refine J.op_g rfl rfl rfl (Yd.move rfl) rfl ?_
    refine J.op_g rfl rfl rfl (Yd.gtr rfl rfl) rfl ?_
    refine J.op (Yd.pick_f rfl rfl) rfl ?_
    refine J.op (Yd.move rfl) rfl ?_
    refine J.split_dec (t := 22) rfl (fun hs2 => ?_) (fun hs2 => ?_)
    · skip
      refine J.not_g rfl rfl rfl rfl rfl ?_
      refine J.not_g rfl rfl rfl rfl rfl ?_
      refine J.not_g rfl rfl rfl rfl rfl ?_
      refine J.op (Yd.pick_t rfl rfl) rfl ?_
      refine J.nil ?_
      refine J.n_then ?_
      refine J.cond_true rfl ?_
      refine J.seq ?_
      refine J.region ?_
      refine J.eff (Ye.call cl8 rfl (Awake_ok)) rfl ?_
      rintro _ w2 ⟨rfl, x1⟩
      have e0 := e0.trans x1
      clear x1
      refine J.op (Yd.assign rfl) rfl ?_
      refine J.nil ?_
      refine J.n_then ?_
      refine J.ret ?_
      refine J.r_then ?_
      exact J.ret1 rfl rfl (⟨_, rfl, rfl, e0⟩)
    · skip
      refine J.op_g rfl rfl rfl (Yd.move rfl) rfl ?_
      refine J.op_g rfl rfl rfl (Yd.len_m Try.underlying22 rfl hi) rfl ?_
      refine J.op_g rfl rfl rfl (Yd.gtr rfl rfl) rfl ?_
      refine J.op (Yd.pick_f rfl rfl) rfl ?_
      refine J.nil ?_
      refine J.n_then ?_
      refine J.know (t := 26) (v' := .bool true) rfl (tt (by omega)) ?_
      refine J.cond_true rfl ?_
      refine J.seq ?_
      refine J.region ?_
      refine J.eff (Ye.call cl8 rfl (Awake_ok)) rfl ?_
      rintro _ w3 ⟨rfl, x1⟩
      have e0 := e0.trans x1
      clear x1
      refine J.op (Yd.assign rfl) rfl ?_
      refine J.nil ?_
      refine J.n_then ?_
      refine J.ret ?_
      refine J.r_then ?_
      exact J.ret1 rfl rfl (⟨_, rfl, rfl, e0⟩)

theorem QueuesIn {s : Value} {gone : List Int} {n : Int} {w : World} (hi : Rd w s (gone.map fun x => I x)) (hb : 0 ≤ n ∧ n ≤ 40 ∧ gone.length ≤ 20) : C Try.prog 4 [I n, s] w (Ret fun v w' => v = .bool true ∧ Ext w w') := by
  have e0 := Ext.refl w
  refine C.enter Try.func4 rfl Try.ntmps4 rfl ?_
  refine J.seq ?_
  refine J.region ?_
  refine J.op (Yd.assign rfl) rfl ?_
  refine J.nil ?_
  refine J.n_then ?_
  refine J.seq ?_
  refine J.seq ?_
  refine J.region ?_
  refine J.op (Yd.move rfl) rfl ?_
  refine J.op (Yd.lss rfl rfl) rfl ?_
  refine J.op (Yd.move rfl) rfl ?_
  refine J.know (t := 18) (v' := .bool false) rfl (ff (by omega)) ?_
  refine J.op_g rfl rfl rfl (Yd.move rfl) rfl ?_
  refine J.op_g rfl rfl rfl (Yd.gtr rfl rfl) rfl ?_
  refine J.op (Yd.pick_f rfl rfl) rfl ?_
  refine J.op (Yd.move rfl) rfl ?_
  refine J.know (t := 22) (v' := .bool false) rfl (ff (by omega)) ?_
  refine J.op_g rfl rfl rfl (Yd.move rfl) rfl ?_
  refine J.op_g rfl rfl rfl (Yd.len_m Try.underlying22 rfl hi) rfl ?_
  refine J.op_g rfl rfl rfl (Yd.gtr rfl rfl) rfl ?_
  refine J.op (Yd.pick_f rfl rfl) rfl ?_
  refine J.nil ?_
  refine J.n_then ?_
  refine J.know (t := 26) (v' := .bool false) rfl (ff (by omega)) ?_
  refine J.cond_false rfl ?_
  refine J.skip ?_
  refine J.n_then ?_
  refine J.seq ?_
  refine J.region ?_
  refine J.eff (Ye.call cl9 rfl (NewQ (show exI 100 = 100 by decide))) rfl ?_
  rintro _ w1 ⟨b, K0, rfl, hq, x1⟩
  have hq := hq.le e0.size
  have e0 := e0.trans x1
  clear x1
  refine J.op (Yd.assign rfl) rfl ?_
  refine J.nil ?_
  refine J.n_then ?_
  refine J.seq ?_
  refine J.seq ?_
  refine J.region ?_
  refine J.op (Yd.move rfl) rfl ?_
  refine J.op (Yd.cast (Yd.eqPn Try.underlying24 rfl rfl) (show _ = Value.bool false from rfl)) rfl ?_
  refine J.nil ?_
  refine J.n_then ?_
  refine J.cond_false rfl ?_
  refine J.skip ?_
  refine J.n_then ?_
  refine J.seq ?_
  refine J.seq ?_
  refine J.region ?_
  refine J.op (Yd.assign rfl) rfl ?_
  refine J.nil ?_
  refine J.n_then ?_
  refine J.block ?_
  refine J.loop (ι := Nat) (fun i => [(0, I n), (1, s), (6, I (i : Int)), (5, .pointer (some ⟨b, 0, none⟩))]) (fun i w' => (i : Int) ≤ n ∧ (∃ K0 q0, Rq 65 36 w.heap.size K0 w' b (100, 0, ((min i 30) : Nat)) q0 ∧ (qget q0 [98]).length = (min i 30) ∧ qget q0 [97] = []) ∧ Ext w w') (fun i => n.toNat - i) (0) ⟨rfl, rfl, rfl, rfl, trivial⟩ (⟨(by show ((0 : Nat) : Int) ≤ n; omega), ⟨K0, [], hq, rfl, rfl⟩, e0⟩) ?_
  rintro i w2 ⟨hk, ⟨K0, q0, hq, hlb, hla⟩, e0⟩
  refine J.seq ?_
  refine J.seq ?_
  refine J.region ?_
  refine J.op (Yd.move rfl) rfl ?_
  refine J.op (Yd.move rfl) rfl ?_
  refine J.op (Yd.lss rfl rfl) rfl ?_
  refine J.nil ?_
  refine J.n_then ?_
  refine J.cond_dec rfl (fun hc2 => ?_) (fun hc2 => ?_)
  · skip
    refine J.skip ?_
    refine J.n_then ?_
    refine J.seq ?_
    refine J.block ?_
    refine J.seq ?_
    refine J.region ?_
    refine J.op (Yd.move rfl) rfl ?_
    refine J.op (Yd.move rfl) rfl ?_
    refine J.op (Yd.cv_i_8 Try.underlying3 Try.underlying5 rfl (by first | omega | exact idx_u8' _ | (simp only [Int.toNat_natCast]; omega) | (simp only [List.length_map, List.length_drop, List.length_take, List.length_append, List.length_replicate]; omega) | (simp <;> omega))) rfl ?_
    refine J.eff (Ye.lit1 (base := w2.heap.size) (f := (fun x : UInt8 => B x)) Try.underlying34 ti5 rfl rfl (fun _ => rfl) (Nat.le_refl _)) rfl ?_
    rintro s40_3 w3 ⟨o40_3, x1⟩
    have fr_s40_3 : Fr w.heap.size s40_3.ownBlock := Fr.le (Ow.fr o40_3) e0.size
    have out_s40_3 : Out K0 s40_3.ownBlock := hq.out (Ow.fr o40_3)
    replace o40_3 := Ow.base o40_3 e0.size
    have e0 := e0.trans x1
    have hq := hq.ext x1
    clear x1
    by_cases hlt : i < 30
    · skip
      refine J.eff (Ye.call cl10 rfl (PutQ_ok hq ⟨by decide, by decide⟩ ⟨by decide, by decide⟩ (Ow.rd o40_3) out_s40_3 (by simp) (by rw [hlb]; first | omega | decide) (by omega))) rfl ?_
      rintro _ w4 ⟨rfl, K1_, hq2, hkk, hT2⟩
      have out_s40_3_ : Out K1_ s40_3.ownBlock := Out.kk out_s40_3 (Ow.live o40_3) hkk
      have o40_3 := Ow.thK o40_3 hT2 hq.bb out_s40_3
      have e0 := Ext.thK e0 hT2 hq.bb (fun k hk => (hq.kb k hk).1)
      have out_s40_3 := out_s40_3_
      clear out_s40_3_
      replace hq := hq2
      clear hq2 hkk hT2
      refine J.op (Yd.move rfl) rfl ?_
      refine J.op (Yd.extract rfl rfl) rfl ?_
      refine J.op (Yd.extract rfl rfl) rfl ?_
      refine J.op (Yd.assign rfl) rfl ?_
      refine J.op (Yd.assign rfl) rfl ?_
      refine J.nil ?_
      refine J.n_then ?_
      refine J.seq ?_
      refine J.region ?_
      refine J.op (Yd.move rfl) rfl ?_
      refine J.op (Yd.eql rfl rfl) rfl ?_
      refine J.op (Yd.move rfl) rfl ?_
      refine J.op (Yd.lss rfl rfl) rfl ?_
      refine J.op (Yd.neqb rfl rfl Try.underlying4) rfl ?_
      refine J.op (Yd.move rfl) rfl ?_
      refine J.know (t := 49) (v' := .bool false) rfl (ff (by rw [decide_eq_true (show (i : Int) < 30 by omega)]; decide)) ?_
      refine J.op_g rfl rfl rfl (Yd.move rfl) rfl ?_
      refine J.op_g rfl rfl rfl (Yd.eql rfl rfl) rfl ?_
      refine J.op_g rfl rfl rfl (Yd.move rfl) rfl ?_
      refine J.know (t := 52) (v' := .bool true) rfl (tt (by rfl)) ?_
      refine J.op_g rfl rfl rfl (Yd.move rfl) rfl ?_
      refine J.op_g rfl rfl rfl (Yd.move rfl) rfl ?_
      refine J.op_g rfl rfl rfl (Yd.add rfl rfl (by first | omega | exact idx_u8' _ | (simp only [Int.toNat_natCast]; omega) | (simp only [List.length_map, List.length_drop, List.length_take, List.length_append, List.length_replicate]; omega) | (simp <;> omega))) rfl ?_
      refine J.op_g rfl rfl rfl (Yd.neq rfl rfl) rfl ?_
      refine J.op_g rfl rfl rfl (Yd.pick_t rfl rfl) rfl ?_
      refine J.op (Yd.pick_f rfl rfl) rfl ?_
      refine J.op (Yd.move rfl) rfl ?_
      refine J.know (t := 59) (v' := .bool false) rfl (ff (by omega)) ?_
      refine J.op_g rfl rfl rfl (Yd.move rfl) rfl ?_
      refine J.op_g rfl rfl rfl (Yd.neq rfl rfl) rfl ?_
      refine J.op_g rfl rfl rfl (Yd.move rfl) rfl ?_
      refine J.know (t := 62) (v' := .bool false) rfl (ff (by decide)) ?_
      refine J.not_g rfl rfl rfl rfl rfl ?_
      refine J.not_g rfl rfl rfl rfl rfl ?_
      refine J.op_g rfl rfl rfl (Yd.pick_f rfl rfl) rfl ?_
      refine J.op (Yd.pick_f rfl rfl) rfl ?_
      refine J.nil ?_
      refine J.n_then ?_
      refine J.cond_false rfl ?_
      refine J.skip ?_
      refine J.n_block ?_
      refine J.n_then ?_
      refine J.region ?_
      refine J.op (Yd.move rfl) rfl ?_
      refine J.op (Yd.add rfl rfl (by first | omega | exact idx_u8' _ | (simp only [Int.toNat_natCast]; omega) | (simp only [List.length_map, List.length_drop, List.length_take, List.length_append, List.length_replicate]; omega) | (simp <;> omega))) rfl ?_
      refine J.op (Yd.assign rfl) rfl ?_
      refine J.nil ?_
      refine J.n_then ?_
      exact J.round (i + 1) ⟨rfl, rfl, rfl, rfl, trivial⟩ (⟨(by show ((i + 1 : Nat) : Int) ≤ n; omega), ⟨K1_, _, (show Rq 65 36 w.heap.size K1_ _ b (100, 0, ((min (i + 1) 30 : Nat) : Int)) _ from by rw [show ((min (i + 1) 30 : Nat) : Int) = ((min i 30 : Nat) : Int) + 1 by omega]; exact hq), (by rw [qget_set, if_pos rfl, List.length_append, hlb]; show min i 30 + 1 = min (i + 1) 30; omega), (by rw [qget_set, if_neg (by decide)]; exact hla)⟩, e0⟩) (by omega)
    · skip
      refine J.eff (Ye.call cl10 rfl (PutQ_full hq ⟨by decide, by decide⟩ ⟨by decide, by decide⟩ (Ow.rd o40_3) (by simp only [List.length_singleton]; omega) (by rw [hlb]; omega))) rfl ?_
      rintro _ w5 ⟨rfl, x1⟩
      have e0 := e0.trans x1
      have hq := hq.ext x1
      have o40_3 := o40_3.ext x1
      clear x1
      refine J.op (Yd.move rfl) rfl ?_
      refine J.op (Yd.extract rfl rfl) rfl ?_
      refine J.op (Yd.extract rfl rfl) rfl ?_
      refine J.op (Yd.assign rfl) rfl ?_
      refine J.op (Yd.assign rfl) rfl ?_
      refine J.nil ?_
      refine J.n_then ?_
      refine J.seq ?_
      refine J.region ?_
      refine J.op (Yd.move rfl) rfl ?_
      refine J.op (Yd.eql rfl rfl) rfl ?_
      refine J.op (Yd.move rfl) rfl ?_
      refine J.op (Yd.lss rfl rfl) rfl ?_
      refine J.op (Yd.neqb rfl rfl Try.underlying4) rfl ?_
      refine J.op (Yd.move rfl) rfl ?_
      refine J.know (t := 49) (v' := .bool false) rfl (ff (by rw [decide_eq_false (show ¬ (i : Int) < 30 by omega)]; decide)) ?_
      refine J.op_g rfl rfl rfl (Yd.move rfl) rfl ?_
      refine J.op_g rfl rfl rfl (Yd.eql rfl rfl) rfl ?_
      refine J.op_g rfl rfl rfl (Yd.move rfl) rfl ?_
      refine J.know (t := 52) (v' := .bool false) rfl (ff (by decide)) ?_
      refine J.not_g rfl rfl rfl rfl rfl ?_
      refine J.not_g rfl rfl rfl rfl rfl ?_
      refine J.not_g rfl rfl rfl rfl rfl ?_
      refine J.not_g rfl rfl rfl rfl rfl ?_
      refine J.op_g rfl rfl rfl (Yd.pick_f rfl rfl) rfl ?_
      refine J.op (Yd.pick_f rfl rfl) rfl ?_
      refine J.op (Yd.move rfl) rfl ?_
      refine J.op_g rfl rfl rfl (Yd.move rfl) rfl ?_
      refine J.op_g rfl rfl rfl (Yd.neq rfl rfl) rfl ?_
      refine J.op_g rfl rfl rfl (Yd.move rfl) rfl ?_
      refine J.know (t := 62) (v' := .bool true) rfl (tt (by decide)) ?_
      refine J.op_g rfl rfl rfl (Yd.move rfl) rfl ?_
      refine J.op_g rfl rfl rfl (Yd.neq rfl rfl) rfl ?_
      refine J.op_g rfl rfl rfl (Yd.pick_t rfl rfl) rfl ?_
      refine J.op (Yd.pick_f rfl rfl) rfl ?_
      refine J.nil ?_
      refine J.n_then ?_
      refine J.know (t := 66) (v' := .bool false) rfl (ff (by decide)) ?_
      refine J.cond_false rfl ?_
      refine J.skip ?_
      refine J.n_block ?_
      refine J.n_then ?_
      refine J.region ?_
      refine J.op (Yd.move rfl) rfl ?_
      refine J.op (Yd.add rfl rfl (by first | omega | exact idx_u8' _ | (simp only [Int.toNat_natCast]; omega) | (simp only [List.length_map, List.length_drop, List.length_take, List.length_append, List.length_replicate]; omega) | (simp <;> omega))) rfl ?_
      refine J.op (Yd.assign rfl) rfl ?_
      refine J.nil ?_
      refine J.n_then ?_
      exact J.round (i + 1) ⟨rfl, rfl, rfl, rfl, trivial⟩ (⟨(by show ((i + 1 : Nat) : Int) ≤ n; omega), ⟨K0, _, (show Rq 65 36 w.heap.size K0 _ b (100, 0, ((min (i + 1) 30 : Nat) : Int)) _ from by rw [show ((min (i + 1) 30 : Nat) : Int) = ((min i 30 : Nat) : Int) by omega]; exact hq), (by rw [hlb]; show min i 30 = min (i + 1) 30; omega), hla⟩, e0⟩) (by omega)
  · skip
    refine J.exit ?_
    refine J.x_then ?_
    refine J.x_then ?_
    refine J.x_block ?_
    refine J.n_then ?_
    refine J.seq ?_
    refine J.region ?_
    refine J.op (Yd.move rfl) rfl ?_
    refine J.op (Yd.mini rfl rfl) rfl ?_
    refine J.op (Yd.assign rfl) rfl ?_
    refine J.nil ?_
    refine J.n_then ?_
    refine J.seq ?_
    refine J.region ?_
    refine J.op (Yd.move rfl) rfl ?_
    refine J.eff (Ye.call cl10 rfl (PutQ_ok hq ⟨by decide, by decide⟩ ⟨by decide, by decide⟩ (Rd.nilM (fun x : UInt8 => B x) _) (fun k e => by cases e) (by simp) (by rw [hla]; decide) (by omega))) rfl ?_
    rintro _ w6 ⟨rfl, K2_, hq2, hkk, hT2⟩
    have e0 := Ext.thK e0 hT2 hq.bb (fun k hk => (hq.kb k hk).1)
    replace hq := hq2
    clear hq2 hkk hT2
    obtain ⟨q2, hq2e⟩ : ∃ q2, q2 = qset [97] (qget q0 [97] ++ [(((min i 30 : Nat) : Int) + 1, [98], 0, [])]) q0 := ⟨_, rfl⟩
    rw [← hq2e] at hq
    have hb2 : (qget q2 [98]).length = min i 30 := by rw [hq2e, qget_set, if_neg (by decide)]; exact hlb
    have ha2 : (qget q2 [97]).length = 1 := by rw [hq2e, qget_set, if_pos rfl, hla]; rfl
    obtain ⟨i1, hi1⟩ : ∃ i1, i1 = i := ⟨_, rfl⟩
    rw [← hi1] at hq hb2
    refine J.op (Yd.move rfl) rfl ?_
    refine J.op (Yd.extract rfl rfl) rfl ?_
    refine J.op (Yd.extract rfl rfl) rfl ?_
    refine J.op (Yd.assign rfl) rfl ?_
    refine J.op (Yd.assign rfl) rfl ?_
    refine J.nil ?_
    refine J.n_then ?_
    refine J.seq ?_
    refine J.seq ?_
    refine J.region ?_
    refine J.op (Yd.move rfl) rfl ?_
    refine J.op (Yd.neq rfl rfl) rfl ?_
    refine J.op (Yd.move rfl) rfl ?_
    refine J.know (t := 76) (v' := .bool false) rfl (ff (by decide)) ?_
    refine J.op_g rfl rfl rfl (Yd.move rfl) rfl ?_
    refine J.op_g rfl rfl rfl (Yd.move rfl) rfl ?_
    refine J.op_g rfl rfl rfl (Yd.add rfl rfl (by first | omega | exact idx_u8' _ | (simp only [Int.toNat_natCast]; omega) | (simp only [List.length_map, List.length_drop, List.length_take, List.length_append, List.length_replicate]; omega) | (simp <;> omega))) rfl ?_
    refine J.op_g rfl rfl rfl (Yd.neq rfl rfl) rfl ?_
    refine J.op (Yd.pick_f rfl rfl) rfl ?_
    refine J.op (Yd.move rfl) rfl ?_
    refine J.know (t := 82) (v' := .bool false) rfl (ff (by omega)) ?_
    refine J.op_g rfl rfl rfl (Yd.move rfl) rfl ?_
    refine J.eff_g rfl rfl rfl (Ye.call cl15 rfl (LenQ_ok hq)) rfl ?_
    rintro _ w7 ⟨rfl, x1⟩
    have e0 := e0.trans x1
    have hq := hq.ext x1
    clear x1
    refine J.op_g rfl rfl rfl (Yd.neq rfl rfl) rfl ?_
    refine J.op (Yd.pick_f rfl rfl) rfl ?_
    refine J.nil ?_
    refine J.n_then ?_
    refine J.know (t := 86) (v' := .bool false) rfl (ff (by omega)) ?_
    refine J.cond_false rfl ?_
    refine J.skip ?_
    refine J.n_then ?_
    refine J.seq ?_
    refine J.region ?_
    refine J.op (Yd.move rfl) rfl ?_
    refine J.op (Yd.move rfl) rfl ?_
    refine J.eff (Ye.call cl16 rfl (AckQ_ok hq (hi.ext e0) (fun h0 => hq.outA hi (by simpa using h0)))) rfl ?_
    rintro _ w8 ⟨rfl, q3, hq3, K3_, hq2, hkk, hT2⟩
    have e0 := Ext.thK e0 hT2 hq.bb (fun k hk => (hq.kb k hk).1)
    replace hq := hq2
    clear hq2 hkk hT2
    have hsub := (acks_sub eqP gone (qget q2 [98])).length_le
    rw [hb2] at hsub
    have hl3 := congrArg List.length (hq3 [98])
    rw [if_pos rfl] at hl3
    have ha3 := congrArg List.length (hq3 [97])
    rw [if_neg (by decide), ha2] at ha3
    generalize hla9 : (acks eqP gone (qget q2 [98])).length = la at *
    refine J.op (Yd.assign rfl) rfl ?_
    refine J.nil ?_
    refine J.n_then ?_
    refine J.seq ?_
    refine J.seq ?_
    refine J.region ?_
    refine J.op (Yd.assign rfl) rfl ?_
    refine J.nil ?_
    refine J.n_then ?_
    refine J.block ?_
    refine J.loop (ι := Nat) (fun i => [(9, I (if 30 < n then 30 else n)), (12, I (((min i1 30 : Nat) : Int) - (la : Int))), (13, I (i : Int)), (5, .pointer (some ⟨b, 0, none⟩))]) (fun i w' => la + i ≤ min i1 30 ∧ (∃ K0 q0, Rq 65 36 w.heap.size K0 w' b (100, 0, ((min i1 30 : Nat) : Int) + 1 + ((i : Nat) : Int)) q0 ∧ (qget q0 [98]).length = la + i ∧ (qget q0 [97]).length = 1) ∧ Ext w w') (fun i => min i1 30 - (la + i)) (0) ⟨rfl, (someI (by rw [hb2])), rfl, rfl, trivial⟩ (⟨hsub, ⟨K3_, q3, (show Rq 65 36 w.heap.size K3_ _ b (100, 0, ((min i1 30 : Nat) : Int) + 1 + ((0 : Nat) : Int)) _ from by rw [show ((min i1 30 : Nat) : Int) + 1 + ((0 : Nat) : Int) = ((min i1 30 : Nat) : Int) + 1 by omega]; exact hq), hl3, ha3⟩, e0⟩) ?_
    rintro i w9 ⟨hk, ⟨K0, q0, hq, hlb, hla⟩, e0⟩
    refine J.seq ?_
    refine J.seq ?_
    refine J.region ?_
    refine J.op (Yd.move rfl) rfl ?_
    refine J.op (Yd.move rfl) rfl ?_
    refine J.op (Yd.lss rfl rfl) rfl ?_
    refine J.nil ?_
    refine J.n_then ?_
    refine J.cond_dec rfl (fun hc5 => ?_) (fun hc5 => ?_)
    · skip
      refine J.skip ?_
      refine J.n_then ?_
      refine J.seq ?_
      refine J.block ?_
      refine J.seq ?_
      refine J.region ?_
      refine J.op (Yd.move rfl) rfl ?_
      refine J.eff (Ye.call cl10 rfl (PutQ_ok hq ⟨by decide, by decide⟩ ⟨by decide, by decide⟩ (Rd.nilM (fun x : UInt8 => B x) _) (fun k e => by cases e) (by simp) (by rw [hlb]; first | omega | decide) (by omega))) rfl ?_
      rintro _ w10 ⟨rfl, K4_, hq2, hkk, hT2⟩
      have e0 := Ext.thK e0 hT2 hq.bb (fun k hk => (hq.kb k hk).1)
      replace hq := hq2
      clear hq2 hkk hT2
      refine J.op (Yd.move rfl) rfl ?_
      refine J.op (Yd.extract rfl rfl) rfl ?_
      refine J.op (Yd.extract rfl rfl) rfl ?_
      refine J.op (Yd.assign rfl) rfl ?_
      refine J.op (Yd.assign rfl) rfl ?_
      refine J.nil ?_
      refine J.n_then ?_
      refine J.seq ?_
      refine J.region ?_
      refine J.op (Yd.move rfl) rfl ?_
      refine J.op (Yd.neq rfl rfl) rfl ?_
      refine J.nil ?_
      refine J.n_then ?_
      refine J.know (t := 101) (v' := .bool false) rfl (ff (by decide)) ?_
      refine J.cond_false rfl ?_
      refine J.skip ?_
      refine J.n_block ?_
      refine J.n_then ?_
      refine J.region ?_
      refine J.op (Yd.move rfl) rfl ?_
      refine J.op (Yd.add rfl rfl (by first | omega | exact idx_u8' _ | (simp only [Int.toNat_natCast]; omega) | (simp only [List.length_map, List.length_drop, List.length_take, List.length_append, List.length_replicate]; omega) | (simp <;> omega))) rfl ?_
      refine J.op (Yd.assign rfl) rfl ?_
      refine J.nil ?_
      refine J.n_then ?_
      exact J.round (i + 1) ⟨rfl, rfl, rfl, rfl, trivial⟩ (⟨(by show la + (i + 1) ≤ min i1 30; omega), ⟨K4_, _, (show Rq 65 36 w.heap.size K4_ _ b (100, 0, ((min i1 30 : Nat) : Int) + 1 + ((i + 1 : Nat) : Int)) _ from by rw [show ((min i1 30 : Nat) : Int) + 1 + ((i + 1 : Nat) : Int) = ((min i1 30 : Nat) : Int) + 1 + ((i : Nat) : Int) + 1 by omega]; exact hq), (by rw [qget_set, if_pos rfl, List.length_append, hlb]; rfl), (by rw [qget_set, if_neg (by decide)]; exact hla)⟩, e0⟩) (by omega)
    · skip
      refine J.exit ?_
      refine J.x_then ?_
      refine J.x_then ?_
      refine J.x_block ?_
      refine J.n_then ?_
      refine J.seq ?_
      refine J.region ?_
      refine J.op (Yd.move rfl) rfl ?_
      refine J.eff (Ye.call cl15 rfl (LenQ_ok hq)) rfl ?_
      rintro _ w11 ⟨rfl, x1⟩
      have e0 := e0.trans x1
      have hq := hq.ext x1
      clear x1
      refine J.op (Yd.move rfl) rfl ?_
      refine J.op (Yd.eql rfl rfl) rfl ?_
      refine J.op (Yd.move rfl) rfl ?_
      refine J.know (t := 106) (v' := .bool true) rfl (tt (by omega)) ?_
      refine J.op_g rfl rfl rfl (Yd.move rfl) rfl ?_
      refine J.eff_g rfl rfl rfl (Ye.call cl15 rfl (LenQ_ok hq)) rfl ?_
      rintro _ w12 ⟨rfl, x1⟩
      have e0 := e0.trans x1
      have hq := hq.ext x1
      clear x1
      refine J.op_g rfl rfl rfl (Yd.eql rfl rfl) rfl ?_
      refine J.op (Yd.pick_t rfl rfl) rfl ?_
      refine J.op (Yd.move rfl) rfl ?_
      refine J.know (t := 111) (v' := .bool true) rfl (tt (by omega)) ?_
      refine J.eff_g rfl rfl rfl (Ye.call cl8 rfl (Awake_ok)) rfl ?_
      rintro _ w13 ⟨rfl, x1⟩
      have e0 := e0.trans x1
      have hq := hq.ext x1
      clear x1
      refine J.op (Yd.pick_t rfl rfl) rfl ?_
      refine J.op (Yd.assign rfl) rfl ?_
      refine J.nil ?_
      refine J.n_then ?_
      refine J.ret ?_
      exact J.ret1 rfl rfl (⟨_, rfl, rfl, e0⟩)

theorem Queues_ok {s : Value} {gone : List Int} {n : Int} {w : World} (hi : Rd w s (gone.map fun x => I x)) : C Try.prog 4 [I n, s] w (Ret fun v w' => v = .bool true ∧ Ext w w') := by
  by_cases hb : 0 ≤ n ∧ n ≤ 40 ∧ gone.length ≤ 20
  · exact QueuesIn hi hb
  · exact QueuesOut hi hb
end Ytmpfgiffpdackaa
end Go.Proofs
