import Derived.Test.YtfefphcmfhabiaaT
import Derived.Test.YtfefphcmfhabiaaJ12
set_option linter.unusedVariables false
set_option linter.unusedSimpArgs false
set_option maxRecDepth 100000
set_option maxHeartbeats 4000000
namespace Go.Proofs
open Go.X Go.RowKit
namespace Ytfefphcmfhabiaa
theorem ForgetsOut_ok {s : Value} {xs : List Int} {m : Int} {w : World} (h0 : Rd w s (xs.map fun x => I x)) (hb : ¬ (xs.length ≤ 60 ∧ 0 ≤ m ∧ m ≤ 20)) : C Try.prog 4 [s, I m] w (Ret fun v w' => v = .bool true ∧ Ext w w') := by
  have hmx := Rd.max h0
  rw [List.length_map] at hmx
  have e0 := Ext.refl w
  refine C.enter Try.func4 rfl Try.ntmps4 rfl ?_
  refine J.seq ?_
  refine J.region ?_
  refine J.op (Yd.assign rfl) rfl ?_
  refine J.nil ?_
  refine J.n_then ?_
  refine J.seq ?_
  refine J.seq ?_
  refine J.region ?_
  refine J.op (Yd.move rfl) rfl ?_
  refine J.op (Yd.len_m Try.underlying35 rfl h0) rfl ?_
  refine J.op (Yd.gtr rfl rfl) rfl ?_
  refine J.op (Yd.move rfl) rfl ?_
  refine J.split_dec (t := 17) rfl (fun hg1 => ?_) (fun hg1 => ?_)
  · skip
    refine J.not_g rfl rfl rfl rfl rfl ?_
    refine J.not_g rfl rfl rfl rfl rfl ?_
    refine J.op (Yd.pick_t rfl rfl) rfl ?_
    refine J.op (Yd.move rfl) rfl ?_
    refine J.not_g rfl rfl rfl rfl rfl ?_
    refine J.not_g rfl rfl rfl rfl rfl ?_
    refine J.op (Yd.pick_t rfl rfl) rfl ?_
    refine J.nil ?_
    refine J.n_then ?_
    refine J.cond_true rfl ?_
    refine J.seq ?_
    refine J.region ?_
    refine J.eff (Ye.call cl8 rfl (Awake_ok)) rfl ?_
    rintro _ w1 ⟨rfl, x1⟩
    have e0 := e0.trans x1
    clear x1
    refine J.op (Yd.assign rfl) rfl ?_
    refine J.nil ?_
    refine J.n_then ?_
    refine J.ret ?_
    refine J.r_then ?_
    exact J.ret1 rfl rfl (⟨_, rfl, rfl, e0⟩)
  · skip
    refine J.op_g rfl rfl rfl (Yd.move rfl) rfl ?_
    refine J.op_g rfl rfl rfl (Yd.lss rfl rfl) rfl ?_
    refine J.op (Yd.pick_f rfl rfl) rfl ?_
    refine J.op (Yd.move rfl) rfl ?_
    refine J.split_dec (t := 21) rfl (fun hg2 => ?_) (fun hg2 => ?_)
    · skip
      refine J.not_g rfl rfl rfl rfl rfl ?_
      refine J.not_g rfl rfl rfl rfl rfl ?_
      refine J.op (Yd.pick_t rfl rfl) rfl ?_
      refine J.nil ?_
      refine J.n_then ?_
      refine J.cond_true rfl ?_
      refine J.seq ?_
      refine J.region ?_
      refine J.eff (Ye.call cl8 rfl (Awake_ok)) rfl ?_
      rintro _ w2 ⟨rfl, x1⟩
      have e0 := e0.trans x1
      clear x1
      refine J.op (Yd.assign rfl) rfl ?_
      refine J.nil ?_
      refine J.n_then ?_
      refine J.ret ?_
      refine J.r_then ?_
      exact J.ret1 rfl rfl (⟨_, rfl, rfl, e0⟩)
    · skip
      refine J.op_g rfl rfl rfl (Yd.move rfl) rfl ?_
      refine J.op_g rfl rfl rfl (Yd.gtr rfl rfl) rfl ?_
      refine J.op (Yd.pick_f rfl rfl) rfl ?_
      refine J.nil ?_
      refine J.n_then ?_
      refine J.know (t := 24) (v' := .bool true) rfl (tt (by omega)) ?_
      refine J.cond_true rfl ?_
      refine J.seq ?_
      refine J.region ?_
      refine J.eff (Ye.call cl8 rfl (Awake_ok)) rfl ?_
      rintro _ w3 ⟨rfl, x1⟩
      have e0 := e0.trans x1
      clear x1
      refine J.op (Yd.assign rfl) rfl ?_
      refine J.nil ?_
      refine J.n_then ?_
      refine J.ret ?_
      refine J.r_then ?_
      exact J.ret1 rfl rfl (⟨_, rfl, rfl, e0⟩)

theorem ForgetsIn_ok {s : Value} {xs : List Int} {m : Int} {w : World} (h0 : Rd w s (xs.map fun x => I x)) (hb : xs.length ≤ 60 ∧ 0 ≤ m ∧ m ≤ 20) : C Try.prog 4 [s, I m] w (Ret fun v w' => v = .bool true ∧ Ext w w') := by
  have hmx := Rd.max h0
  rw [List.length_map] at hmx
  have e0 := Ext.refl w
  refine C.enter Try.func4 rfl Try.ntmps4 rfl ?_
  refine J.seq ?_
  refine J.region ?_
  refine J.op (Yd.assign rfl) rfl ?_
  refine J.nil ?_
  refine J.n_then ?_
  refine J.seq ?_
  refine J.seq ?_
  refine J.region ?_
  refine J.op (Yd.move rfl) rfl ?_
  refine J.op (Yd.len_m Try.underlying35 rfl h0) rfl ?_
  refine J.op (Yd.gtr rfl rfl) rfl ?_
  refine J.op (Yd.move rfl) rfl ?_
  refine J.know (t := 17) (v' := .bool false) rfl (ff (by omega)) ?_
  refine J.op_g rfl rfl rfl (Yd.move rfl) rfl ?_
  refine J.op_g rfl rfl rfl (Yd.lss rfl rfl) rfl ?_
  refine J.op (Yd.pick_f rfl rfl) rfl ?_
  refine J.op (Yd.move rfl) rfl ?_
  refine J.know (t := 21) (v' := .bool false) rfl (ff (by omega)) ?_
  refine J.op_g rfl rfl rfl (Yd.move rfl) rfl ?_
  refine J.op_g rfl rfl rfl (Yd.gtr rfl rfl) rfl ?_
  refine J.op (Yd.pick_f rfl rfl) rfl ?_
  refine J.nil ?_
  refine J.n_then ?_
  refine J.know (t := 24) (v' := .bool false) rfl (ff (by omega)) ?_
  refine J.cond_false rfl ?_
  refine J.skip ?_
  refine J.n_then ?_
  refine J.seq ?_
  refine J.region ?_
  refine J.eff (Ye.call cl9 rfl (New_sk (by decide))) rfl ?_
  rintro _ w1 ⟨b27_1, rfl, hs, x1⟩
  replace hs := Sk.le hs e0.size
  have e0 := e0.trans x1
  clear x1
  refine J.op (Yd.move rfl) rfl ?_
  refine J.op (Yd.extract rfl rfl) rfl ?_
  refine J.op (Yd.extract rfl rfl) rfl ?_
  refine J.op (Yd.assign rfl) rfl ?_
  refine J.op (Yd.assign rfl) rfl ?_
  refine J.nil ?_
  refine J.n_then ?_
  refine J.seq ?_
  refine J.seq ?_
  refine J.region ?_
  refine J.op (Yd.move rfl) rfl ?_
  refine J.op (Yd.neq rfl rfl) rfl ?_
  refine J.op (Yd.move rfl) rfl ?_
  refine J.know (t := 32) (v' := .bool false) rfl (ff (by decide)) ?_
  refine J.op_g rfl rfl rfl (Yd.move rfl) rfl ?_
  refine J.op_g rfl rfl rfl (Yd.cast (Yd.eqPn Try.underlying23 rfl rfl) (show _ = Value.bool false from rfl)) rfl ?_
  refine J.op (Yd.pick_f rfl rfl) rfl ?_
  refine J.nil ?_
  refine J.n_then ?_
  refine J.cond_false rfl ?_
  refine J.skip ?_
  refine J.n_then ?_
  refine J.seq ?_
  refine J.region ?_
  refine J.op (Yd.assign rfl) rfl ?_
  refine J.nil ?_
  refine J.n_then ?_
  refine J.seq ?_
  refine J.seq ?_
  refine J.region ?_
  refine J.op (Yd.assign rfl) rfl ?_
  refine J.nil ?_
  refine J.n_then ?_
  refine J.block ?_
  refine J.loop (ι := Nat) (fun i => [(0, s), (1, I m), (7, I (DF xs m i)), (8, I (i : Int)), (5, .pointer (some ⟨b27_1, 0, none⟩))]) (fun i w' => i ≤ xs.length ∧ Sk 56 60 w.heap.size w' b27_1 100 (LF xs i) ∧ Ext w w') (fun i => xs.length - i) (0) ⟨rfl, rfl, rfl, rfl, rfl, trivial⟩ (⟨Nat.zero_le _, hs, e0⟩) ?_
  rintro i w2 ⟨hk, hs, e0⟩
  have hdf := DF_bd xs m i
  refine J.seq ?_
  refine J.seq ?_
  refine J.region ?_
  refine J.op (Yd.move rfl) rfl ?_
  refine J.op (Yd.move rfl) rfl ?_
  refine J.op (Yd.len_m Try.underlying35 rfl (Rd.ext h0 e0)) rfl ?_
  refine J.op (Yd.lss rfl rfl) rfl ?_
  refine J.nil ?_
  refine J.n_then ?_
  refine J.cond_dec rfl (fun hc2 => ?_) (fun hc2 => ?_)
  · skip
    refine J.skip ?_
    refine J.n_then ?_
    refine J.seq ?_
    refine J.block ?_
    refine J.seq ?_
    refine J.region ?_
    refine J.op (Yd.move rfl) rfl ?_
    refine J.op (Yd.move rfl) rfl ?_
    refine J.op (Yd.idx_m Try.underlying35 ti3 rfl rfl (Rd.ext h0 e0) (by first | omega | exact idx_u8' _ | (simp only [Int.toNat_natCast]; omega) | (simp only [List.length_map, List.length_drop, List.length_take, List.length_append, List.length_replicate]; omega) | (simp <;> omega))) rfl ?_
    refine J.op (Yd.load pl3 rfl (Rd.cellI (Rd.ext h0 e0) (by first | omega | exact idx_u8' _ | (simp only [Int.toNat_natCast]; omega) | (simp only [List.length_map, List.length_drop, List.length_take, List.length_append, List.length_replicate]; omega) | (simp <;> omega)))) rfl ?_
    refine J.eff (Ye.call cl14 rfl (Round_ok (by omega) (by omega))) rfl ?_
    rintro _ w3 ⟨rfl, x1⟩
    have e0 := e0.trans x1
    have hs := hs.ext x1
    clear x1
    refine J.op (Yd.assign rfl) rfl ?_
    refine J.nil ?_
    refine J.n_then ?_
    refine J.seq ?_
    refine J.region ?_
    refine J.op (Yd.move rfl) rfl ?_
    refine J.op (Yd.move rfl) rfl ?_
    refine J.op (Yd.move rfl) rfl ?_
    refine J.op (Yd.move rfl) rfl ?_
    refine J.eff (Ye.call cl11 rfl (B32_ok (by omega))) rfl ?_
    rintro v52 w4 ⟨hv, hx⟩
    have hbw := e0.size
    have e0 := e0.trans hx
    refine J.eff (Ye.call cl10 rfl (Put_sk hs hx hv hbw (by omega) (by rw [LF_len]; omega) (⟨by unfold wiK; omega, by unfold wiK; omega, by rw [blkL_len]⟩) (LF_no))) rfl ?_
    rintro _ w5 ⟨rfl, hs2, x1⟩
    have e0 := e0.th x1
    replace hs := hs2
    clear hs2 x1
    refine J.op (Yd.move rfl) rfl ?_
    refine J.op (Yd.extract rfl rfl) rfl ?_
    refine J.op (Yd.extract rfl rfl) rfl ?_
    refine J.op (Yd.assign rfl) rfl ?_
    refine J.op (Yd.assign rfl) rfl ?_
    refine J.nil ?_
    refine J.n_then ?_
    refine J.seq ?_
    refine J.seq ?_
    refine J.region ?_
    refine J.op (Yd.move rfl) rfl ?_
    refine J.op (Yd.neq rfl rfl) rfl ?_
    refine J.nil ?_
    refine J.n_then ?_
    refine J.know (t := 57) (v' := .bool false) rfl (ff (by decide)) ?_
    refine J.cond_false rfl ?_
    refine J.skip ?_
    refine J.n_then ?_
    refine J.seq ?_
    refine J.region ?_
    refine J.op (Yd.move rfl) rfl ?_
    refine J.op (Yd.move rfl) rfl ?_
    refine J.op (Yd.lss rfl rfl) rfl ?_
    refine J.nil ?_
    refine J.n_then ?_
    refine J.cond_dec rfl (fun hc4 => ?_) (fun hc4 => ?_)
    · skip
      refine J.region ?_
      refine J.op (Yd.move rfl) rfl ?_
      refine J.op (Yd.add rfl rfl (by first | omega | exact idx_u8' _ | (simp only [Int.toNat_natCast]; omega) | (simp only [List.length_map, List.length_drop, List.length_take, List.length_append, List.length_replicate]; omega) | (simp <;> omega))) rfl ?_
      refine J.op (Yd.assign rfl) rfl ?_
      refine J.nil ?_
      refine J.n_block ?_
      refine J.n_then ?_
      refine J.region ?_
      refine J.op (Yd.move rfl) rfl ?_
      refine J.op (Yd.add rfl rfl (by first | omega | exact idx_u8' _ | (simp only [Int.toNat_natCast]; omega) | (simp only [List.length_map, List.length_drop, List.length_take, List.length_append, List.length_replicate]; omega) | (simp <;> omega))) rfl ?_
      refine J.op (Yd.assign rfl) rfl ?_
      refine J.nil ?_
      refine J.n_then ?_
      exact J.round (i + 1) ⟨rfl, rfl, (someI (by first | exact (DF_lt hc4).symm | exact (DF_ge hc4).symm)), rfl, rfl, trivial⟩ (⟨by omega, (by rw [← LF_psh (by omega)]; exact hs), e0⟩) (by omega)
    · skip
      refine J.skip ?_
      refine J.n_block ?_
      refine J.n_then ?_
      refine J.region ?_
      refine J.op (Yd.move rfl) rfl ?_
      refine J.op (Yd.add rfl rfl (by first | omega | exact idx_u8' _ | (simp only [Int.toNat_natCast]; omega) | (simp only [List.length_map, List.length_drop, List.length_take, List.length_append, List.length_replicate]; omega) | (simp <;> omega))) rfl ?_
      refine J.op (Yd.assign rfl) rfl ?_
      refine J.nil ?_
      refine J.n_then ?_
      exact J.round (i + 1) ⟨rfl, rfl, (someI (by first | exact (DF_lt hc4).symm | exact (DF_ge hc4).symm)), rfl, rfl, trivial⟩ (⟨by omega, (by rw [← LF_psh (by omega)]; exact hs), e0⟩) (by omega)
  · skip
    refine J.exit ?_
    refine J.x_then ?_
    refine J.x_then ?_
    refine J.x_block ?_
    refine J.n_then ?_
    refine J.seq ?_
    refine J.seq ?_
    refine J.region ?_
    refine J.op (Yd.move rfl) rfl ?_
    refine J.op (Yd.move rfl) rfl ?_
    refine J.eff (Ye.call cl15 rfl (Forget_sk hs (m1 := m))) rfl ?_
    rintro _ w6 ⟨rfl, hs2, x1⟩
    have e0 := e0.th x1
    replace hs := hs2
    clear hs2 x1
    refine J.op (Yd.move rfl) rfl ?_
    refine J.op (Yd.neq rfl rfl) rfl ?_
    refine J.op (Yd.move rfl) rfl ?_
    refine J.know (t := 68) (v' := .bool false) rfl (ff (by exact fun h => h (by unfold DF; rw [LF_len]))) ?_
    refine J.op_g rfl rfl rfl (Yd.move rfl) rfl ?_
    refine J.op_g rfl rfl rfl (Yd.move rfl) rfl ?_
    refine J.eff_g rfl rfl rfl (Ye.call cl15 rfl (Forget_sk hs (m1 := m))) rfl ?_
    rintro _ w7 ⟨rfl, hs2, x1⟩
    have e0 := e0.th x1
    rw [flt_idem] at hs2
    replace hs := hs2
    clear hs2 x1
    refine J.op_g rfl rfl rfl (Yd.neq rfl rfl) rfl ?_
    refine J.op (Yd.pick_f rfl rfl) rfl ?_
    refine J.op (Yd.move rfl) rfl ?_
    refine J.know (t := 74) (v' := .bool false) rfl (ff (by exact fun h => h (by rw [flt_idem]; omega))) ?_
    refine J.op_g rfl rfl rfl (Yd.move rfl) rfl ?_
    refine J.eff_g rfl rfl rfl (Ye.call cl13 rfl (Len_sk hs)) rfl ?_
    rintro _ w8 ⟨rfl, x1⟩
    have e0 := e0.trans x1
    have hs := hs.ext x1
    clear x1
    refine J.op_g rfl rfl rfl (Yd.move rfl) rfl ?_
    refine J.op_g rfl rfl rfl (Yd.len_m Try.underlying35 rfl (Rd.ext h0 e0)) rfl ?_
    refine J.op_g rfl rfl rfl (Yd.move rfl) rfl ?_
    refine J.op_g rfl rfl rfl (Yd.sub rfl rfl (by first | omega | exact idx_u8' _ | (simp only [Int.toNat_natCast]; omega) | (simp only [List.length_map, List.length_drop, List.length_take, List.length_append, List.length_replicate]; omega) | (simp <;> omega))) rfl ?_
    refine J.op_g rfl rfl rfl (Yd.neq rfl rfl) rfl ?_
    refine J.op (Yd.pick_f rfl rfl) rfl ?_
    refine J.nil ?_
    refine J.n_then ?_
    refine J.know (t := 82) (v' := .bool false) rfl (ff (by exact fun h => h (by unfold DF; omega))) ?_
    refine J.cond_false rfl ?_
    refine J.skip ?_
    refine J.n_then ?_
    refine J.seq ?_
    refine J.seq ?_
    refine J.region ?_
    refine J.op (Yd.assign rfl) rfl ?_
    refine J.nil ?_
    refine J.n_then ?_
    refine J.block ?_
    refine J.loop (ι := Nat) (fun i => [(0, s), (1, I m), (12, I (i : Int)), (5, .pointer (some ⟨b27_1, 0, none⟩))]) (fun i w' => i ≤ xs.length ∧ Sk 56 60 w.heap.size w' b27_1 100 ((LF xs xs.length).filter fun x => !ltK m x) ∧ Ext w w') (fun i => xs.length - i) (0) ⟨rfl, rfl, rfl, rfl, trivial⟩ (⟨Nat.zero_le _, (by have hkm : i = xs.length := (by omega); subst hkm; exact hs), e0⟩) ?_
    rintro i w9 ⟨hk, hs, e0⟩
    refine J.seq ?_
    refine J.seq ?_
    refine J.region ?_
    refine J.op (Yd.move rfl) rfl ?_
    refine J.op (Yd.move rfl) rfl ?_
    refine J.op (Yd.len_m Try.underlying35 rfl (Rd.ext h0 e0)) rfl ?_
    refine J.op (Yd.lss rfl rfl) rfl ?_
    refine J.nil ?_
    refine J.n_then ?_
    refine J.cond_dec rfl (fun hc6 => ?_) (fun hc6 => ?_)
    · skip
      refine J.skip ?_
      refine J.n_then ?_
      refine J.seq ?_
      refine J.block ?_
      refine J.seq ?_
      refine J.region ?_
      refine J.op (Yd.move rfl) rfl ?_
      refine J.op (Yd.move rfl) rfl ?_
      refine J.op (Yd.idx_m Try.underlying35 ti3 rfl rfl (Rd.ext h0 e0) (by first | omega | exact idx_u8' _ | (simp only [Int.toNat_natCast]; omega) | (simp only [List.length_map, List.length_drop, List.length_take, List.length_append, List.length_replicate]; omega) | (simp <;> omega))) rfl ?_
      refine J.op (Yd.load pl3 rfl (Rd.cellI (Rd.ext h0 e0) (by first | omega | exact idx_u8' _ | (simp only [Int.toNat_natCast]; omega) | (simp only [List.length_map, List.length_drop, List.length_take, List.length_append, List.length_replicate]; omega) | (simp <;> omega)))) rfl ?_
      refine J.eff (Ye.call cl14 rfl (Round_ok (by omega) (by omega))) rfl ?_
      rintro _ w10 ⟨rfl, x1⟩
      have e0 := e0.trans x1
      have hs := hs.ext x1
      clear x1
      refine J.op (Yd.assign rfl) rfl ?_
      refine J.nil ?_
      refine J.n_then ?_
      refine J.seq ?_
      refine J.region ?_
      refine J.op (Yd.move rfl) rfl ?_
      refine J.op (Yd.move rfl) rfl ?_
      refine J.op (Yd.move rfl) rfl ?_
      refine J.eff (Ye.call cl16 rfl (Has_sk hs (LG_has (by omega)))) rfl ?_
      rintro _ w11 ⟨rfl, x1⟩
      have e0 := e0.trans x1
      have hs := hs.ext x1
      clear x1
      refine J.op (Yd.move rfl) rfl ?_
      refine J.op (Yd.move rfl) rfl ?_
      refine J.op (Yd.geq rfl rfl) rfl ?_
      refine J.op (Yd.neqb rfl rfl Try.underlying4) rfl ?_
      refine J.nil ?_
      refine J.n_then ?_
      refine J.know (t := 101) (v' := .bool false) rfl (ff (by exact fun h => h rfl)) ?_
      refine J.cond_false rfl ?_
      refine J.skip ?_
      refine J.n_block ?_
      refine J.n_then ?_
      refine J.region ?_
      refine J.op (Yd.move rfl) rfl ?_
      refine J.op (Yd.add rfl rfl (by first | omega | exact idx_u8' _ | (simp only [Int.toNat_natCast]; omega) | (simp only [List.length_map, List.length_drop, List.length_take, List.length_append, List.length_replicate]; omega) | (simp <;> omega))) rfl ?_
      refine J.op (Yd.assign rfl) rfl ?_
      refine J.nil ?_
      refine J.n_then ?_
      exact J.round (i + 1) ⟨rfl, rfl, rfl, rfl, trivial⟩ (⟨by omega, hs, e0⟩) (by omega)
    · skip
      refine J.exit ?_
      refine J.x_then ?_
      refine J.x_then ?_
      refine J.x_block ?_
      refine J.n_then ?_
      refine J.seq ?_
      refine J.region ?_
      refine J.eff (Ye.call cl8 rfl (Awake_ok)) rfl ?_
      rintro _ w12 ⟨rfl, x1⟩
      have e0 := e0.trans x1
      have hs := hs.ext x1
      clear x1
      refine J.op (Yd.assign rfl) rfl ?_
      refine J.nil ?_
      refine J.n_then ?_
      refine J.ret ?_
      exact J.ret1 rfl rfl (⟨_, rfl, rfl, e0⟩)

theorem Forgets_ok {s : Value} {xs : List Int} {m : Int} {w : World} (h0 : Rd w s (xs.map fun x => I x)) : C Try.prog 4 [s, I m] w (Ret fun v w' => v = .bool true ∧ Ext w w') := by
  by_cases hb : xs.length ≤ 60 ∧ 0 ≤ m ∧ m ≤ 20
  · exact ForgetsIn_ok h0 hb
  · exact ForgetsOut_ok h0 hb
end Ytfefphcmfhabiaa
end Go.Proofs
