import Derived.Test.YtikggonjagoiaaaT
import Derived.Test.YtikggonjagoiaaaH7
set_option linter.unusedVariables false
set_option linter.unusedSimpArgs false
set_option maxRecDepth 100000
set_option maxHeartbeats 4000000
namespace Go.Proofs
open Go.X Go.RowKit
namespace Ytikggonjagoiaaa
theorem ChainKeys_no {a v : Value} {key : List UInt8} {xs : List Int} {w : World} (ha : Bs w a key) (hv : Rd w v (xs.map fun x => I x)) (hk : key.length ≠ 32) : C Try.prog 5 [a, v] w (Ret fun v w' => v = .bool true ∧ Ext w w') := by
  have hka := ha
  have e0 := Ext.refl w
  refine C.enter Try.func5 rfl Try.ntmps5 rfl ?_
  refine J.seq ?_
  refine J.region ?_
  refine J.op (Yd.assign rfl) rfl ?_
  refine J.nil ?_
  refine J.n_then ?_
  refine J.seq ?_
  refine J.seq ?_
  refine J.region ?_
  refine J.op (Yd.move rfl) rfl ?_
  refine J.op (Yd.len_b Try.underlying22 rfl ha) rfl ?_
  refine J.op (Yd.gtr rfl rfl) rfl ?_
  refine J.op (Yd.move rfl) rfl ?_
  refine J.split_dec (t := 21) rfl (fun h1 => ?_) (fun h1 => ?_)
  · skip
    refine J.not_g rfl rfl rfl rfl rfl ?_
    refine J.not_g rfl rfl rfl rfl rfl ?_
    refine J.not_g rfl rfl rfl rfl rfl ?_
    refine J.op (Yd.pick_t rfl rfl) rfl ?_
    refine J.nil ?_
    refine J.n_then ?_
    refine J.cond_true rfl ?_
    refine J.seq ?_
    refine J.region ?_
    refine J.eff (Ye.call cl8 rfl (awake_ok)) rfl ?_
    rintro _ w1 ⟨rfl, x1⟩
    have e0 := e0.trans x1
    have hka := hka.ext x1
    clear x1
    refine J.op (Yd.assign rfl) rfl ?_
    refine J.nil ?_
    refine J.n_then ?_
    refine J.ret ?_
    refine J.r_then ?_
    exact J.ret1 rfl rfl (⟨_, rfl, rfl, e0⟩)
  · skip
    refine J.op_g rfl rfl rfl (Yd.move rfl) rfl ?_
    refine J.op_g rfl rfl rfl (Yd.len_m Try.underlying23 rfl hv) rfl ?_
    refine J.op_g rfl rfl rfl (Yd.gtr rfl rfl) rfl ?_
    refine J.op (Yd.pick_f rfl rfl) rfl ?_
    refine J.nil ?_
    refine J.n_then ?_
    refine J.cond_dec rfl (fun hc0 => ?_) (fun hc0 => ?_)
    · skip
      refine J.seq ?_
      refine J.region ?_
      refine J.eff (Ye.call cl8 rfl (awake_ok)) rfl ?_
      rintro _ w2 ⟨rfl, x1⟩
      have e0 := e0.trans x1
      have hka := hka.ext x1
      clear x1
      refine J.op (Yd.assign rfl) rfl ?_
      refine J.nil ?_
      refine J.n_then ?_
      refine J.ret ?_
      refine J.r_then ?_
      exact J.ret1 rfl rfl (⟨_, rfl, rfl, e0⟩)
    · skip
      refine J.skip ?_
      refine J.n_then ?_
      refine J.seq ?_
      refine J.region ?_
      refine J.op (Yd.move rfl) rfl ?_
      refine J.eff (Ye.call cl9 rfl (New_no ha hk)) rfl ?_
      rintro _ w3 ⟨rfl, x1⟩
      have e0 := e0.trans x1
      have hka := hka.ext x1
      clear x1
      refine J.op (Yd.move rfl) rfl ?_
      refine J.op (Yd.extract rfl rfl) rfl ?_
      refine J.op (Yd.extract rfl rfl) rfl ?_
      refine J.op (Yd.assign rfl) rfl ?_
      refine J.op (Yd.assign rfl) rfl ?_
      refine J.nil ?_
      refine J.n_then ?_
      refine J.seq ?_
      refine J.seq ?_
      refine J.region ?_
      refine J.op (Yd.move rfl) rfl ?_
      refine J.op (Yd.len_b Try.underlying22 rfl (Rd.ext ha e0)) rfl ?_
      refine J.op (Yd.neq rfl rfl) rfl ?_
      refine J.nil ?_
      refine J.n_then ?_
      refine J.know (t := 34) (v' := .bool true) rfl (tt (by omega)) ?_
      refine J.cond_true rfl ?_
      refine J.seq ?_
      refine J.region ?_
      refine J.op (Yd.move rfl) rfl ?_
      refine J.op (Yd.eql rfl rfl) rfl ?_
      refine J.op (Yd.move rfl) rfl ?_
      refine J.know (t := 37) (v' := .bool true) rfl (tt (by rfl)) ?_
      refine J.op_g rfl rfl rfl (Yd.move rfl) rfl ?_
      refine J.op_g rfl rfl rfl (Yd.cast (Yd.eqPn Try.underlying25 rfl rfl) (show _ = Value.bool true from rfl)) rfl ?_
      refine J.op (Yd.pick_t rfl rfl) rfl ?_
      refine J.op (Yd.move rfl) rfl ?_
      refine J.eff_g rfl rfl rfl (Ye.call cl8 rfl (awake_ok)) rfl ?_
      rintro _ w4 ⟨rfl, x1⟩
      have e0 := e0.trans x1
      have hka := hka.ext x1
      clear x1
      refine J.op (Yd.pick_t rfl rfl) rfl ?_
      refine J.op (Yd.assign rfl) rfl ?_
      refine J.nil ?_
      refine J.n_then ?_
      refine J.ret ?_
      refine J.r_then ?_
      exact J.ret1 rfl rfl (⟨_, rfl, rfl, e0⟩)

theorem ChainKeys_yes {a v : Value} {key : List UInt8} {xs : List Int} {w : World} (ha : Bs w a key) (hv : Rd w v (xs.map fun x => I x)) (hk : key.length = 32) : C Try.prog 5 [a, v] w (Ret fun v w' => v = .bool true ∧ Ext w w') := by
  have hka := ha
  have e0 := Ext.refl w
  refine C.enter Try.func5 rfl Try.ntmps5 rfl ?_
  refine J.seq ?_
  refine J.region ?_
  refine J.op (Yd.assign rfl) rfl ?_
  refine J.nil ?_
  refine J.n_then ?_
  refine J.seq ?_
  refine J.seq ?_
  refine J.region ?_
  refine J.op (Yd.move rfl) rfl ?_
  refine J.op (Yd.len_b Try.underlying22 rfl ha) rfl ?_
  refine J.op (Yd.gtr rfl rfl) rfl ?_
  refine J.op (Yd.move rfl) rfl ?_
  refine J.split_dec (t := 21) rfl (fun h1 => ?_) (fun h1 => ?_)
  · skip
    refine J.not_g rfl rfl rfl rfl rfl ?_
    refine J.not_g rfl rfl rfl rfl rfl ?_
    refine J.not_g rfl rfl rfl rfl rfl ?_
    refine J.op (Yd.pick_t rfl rfl) rfl ?_
    refine J.nil ?_
    refine J.n_then ?_
    refine J.cond_true rfl ?_
    refine J.seq ?_
    refine J.region ?_
    refine J.eff (Ye.call cl8 rfl (awake_ok)) rfl ?_
    rintro _ w1 ⟨rfl, x1⟩
    have e0 := e0.trans x1
    have hka := hka.ext x1
    clear x1
    refine J.op (Yd.assign rfl) rfl ?_
    refine J.nil ?_
    refine J.n_then ?_
    refine J.ret ?_
    refine J.r_then ?_
    exact J.ret1 rfl rfl (⟨_, rfl, rfl, e0⟩)
  · skip
    refine J.op_g rfl rfl rfl (Yd.move rfl) rfl ?_
    refine J.op_g rfl rfl rfl (Yd.len_m Try.underlying23 rfl hv) rfl ?_
    refine J.op_g rfl rfl rfl (Yd.gtr rfl rfl) rfl ?_
    refine J.op (Yd.pick_f rfl rfl) rfl ?_
    refine J.nil ?_
    refine J.n_then ?_
    refine J.cond_dec rfl (fun hc0 => ?_) (fun hc0 => ?_)
    · skip
      refine J.seq ?_
      refine J.region ?_
      refine J.eff (Ye.call cl8 rfl (awake_ok)) rfl ?_
      rintro _ w2 ⟨rfl, x1⟩
      have e0 := e0.trans x1
      have hka := hka.ext x1
      clear x1
      refine J.op (Yd.assign rfl) rfl ?_
      refine J.nil ?_
      refine J.n_then ?_
      refine J.ret ?_
      refine J.r_then ?_
      exact J.ret1 rfl rfl (⟨_, rfl, rfl, e0⟩)
    · skip
      refine J.skip ?_
      refine J.n_then ?_
      refine J.seq ?_
      refine J.region ?_
      refine J.op (Yd.move rfl) rfl ?_
      refine J.eff (Ye.call cl9 rfl (New_yes ha hk)) rfl ?_
      rintro _ w3 ⟨b29_3, s29_3, rfl, hbb29_3, cb29_3, os29_3, ap_b29_3_s29_3, x1⟩
      have ap_a_b29_3 : Ap a.ownBlock (some b29_3) := Ap.mk (Bs.live hka (by first | omega | (rw [macL_len]; decide) | (rw [chK_len _ hk]; decide) | (rw [chK_len _ (chK_len _ hk _)]; decide))) (Fr.blk hbb29_3)
      have fr_b29_3 : Fr w.heap.size (some b29_3) := Fr.le (Fr.blk hbb29_3) e0.size
      have ap_a_s29_3 : Ap a.ownBlock s29_3.ownBlock := Ap.mk (Bs.live hka (by first | omega | (rw [macL_len]; decide) | (rw [chK_len _ hk]; decide) | (rw [chK_len _ (chK_len _ hk _)]; decide))) (Ow.fr os29_3)
      have fr_s29_3 : Fr w.heap.size s29_3.ownBlock := Fr.le (Ow.fr os29_3) e0.size
      replace os29_3 := Ow.base os29_3 e0.size
      have e0 := e0.trans x1
      have hka := hka.ext x1
      clear x1
      refine J.op (Yd.move rfl) rfl ?_
      refine J.op (Yd.extract rfl rfl) rfl ?_
      refine J.op (Yd.extract rfl rfl) rfl ?_
      refine J.op (Yd.assign rfl) rfl ?_
      refine J.op (Yd.assign rfl) rfl ?_
      refine J.nil ?_
      refine J.n_then ?_
      refine J.seq ?_
      refine J.seq ?_
      refine J.region ?_
      refine J.op (Yd.move rfl) rfl ?_
      refine J.op (Yd.len_b Try.underlying22 rfl (Rd.ext ha e0)) rfl ?_
      refine J.op (Yd.neq rfl rfl) rfl ?_
      refine J.nil ?_
      refine J.n_then ?_
      refine J.know (t := 34) (v' := .bool false) rfl (ff (by omega)) ?_
      refine J.cond_false rfl ?_
      refine J.skip ?_
      refine J.n_then ?_
      refine J.seq ?_
      refine J.seq ?_
      refine J.region ?_
      refine J.op (Yd.move rfl) rfl ?_
      refine J.op (Yd.neq rfl rfl) rfl ?_
      refine J.op (Yd.move rfl) rfl ?_
      refine J.know (t := 46) (v' := .bool false) rfl (ff (by decide)) ?_
      refine J.op_g rfl rfl rfl (Yd.move rfl) rfl ?_
      refine J.op_g rfl rfl rfl (Yd.cast (Yd.eqPn Try.underlying25 rfl rfl) (show _ = Value.bool false from rfl)) rfl ?_
      refine J.op (Yd.pick_f rfl rfl) rfl ?_
      refine J.nil ?_
      refine J.n_then ?_
      refine J.cond_false rfl ?_
      refine J.skip ?_
      refine J.n_then ?_
      refine J.seq ?_
      refine J.region ?_
      refine J.op (Yd.move rfl) rfl ?_
      have hcA := Rd.cells ha
      refine J.op (Yd.buildS (cells := #[a, I 0]) (pl := [(0, 1), (1, 1)]) Try.underlying42 (by kernel_rfl) ti42 rfl (by simp [Instr.fill, hcA, cells_agg])) rfl ?_
      refine J.eff (Ye.box (S := chS a 0) rfl (by simp [chS, SegAll, SegOK, cells_agg])) rfl ?_
      rintro _ w4 ⟨b52_3, rfl, hb_, c52_3, x1⟩
      have ap_a_b52_3 : Ap a.ownBlock (some b52_3) := Ap.mk (Bs.live hka (by first | omega | (rw [macL_len]; decide) | (rw [chK_len _ hk]; decide) | (rw [chK_len _ (chK_len _ hk _)]; decide))) (Fr.blk hb_)
      have ap_s29_3_b52_3 : Ap s29_3.ownBlock (some b52_3) := Ap.mk (Ow.live os29_3) (Fr.blk hb_)
      have ap_b29_3_b52_3 : Ap (some b29_3) (some b52_3) := Ap.mk (Cel.live cb29_3) (Fr.blk hb_)
      have fr_b52_3 : Fr w.heap.size (some b52_3) := Fr.le (Fr.blk hb_) e0.size
      have e0 := e0.trans x1
      have hka := hka.ext x1
      have os29_3 := os29_3.ext x1
      have cb29_3 := cb29_3.ext x1
      clear x1 hb_
      refine J.op (Yd.assign rfl) rfl ?_
      refine J.nil ?_
      refine J.n_then ?_
      refine J.seq ?_
      refine J.region ?_
      refine J.op (Yd.move rfl) rfl ?_
      refine J.op (Yd.mkFunc rfl) rfl ?_
      refine J.op (Yd.assign rfl) rfl ?_
      refine J.nil ?_
      refine J.n_then ?_
      refine J.seq ?_
      refine J.seq ?_
      refine J.region ?_
      refine J.op (Yd.assign rfl) rfl ?_
      refine J.nil ?_
      refine J.n_then ?_
      refine J.block ?_
      refine J.loop (ι := Nat × Nat × Value × Value) (fun i => [(1, v), (8, .func (.func 13) #[.pointer (some ⟨b29_3, 0, none⟩)] #[]), (9, I i.1), (5, .pointer (some ⟨b29_3, 0, none⟩)), (7, .pointer (some ⟨b52_3, 0, none⟩))]) (fun i w' => i.1 ≤ xs.length ∧ i.2.1 ≤ 41 * i.1 ∧ Cel w' b29_3 53 (chS i.2.2.1 i.2.1) ∧ Cel w' b52_3 42 (chS i.2.2.2 i.2.1) ∧ Bs w' i.2.2.1 (chK key i.2.1) ∧ Bs w' i.2.2.2 (chK key i.2.1) ∧ Fr w.heap.size (i.2.2.1).ownBlock ∧ Ap (some b29_3) (i.2.2.1).ownBlock ∧ Ap (some b52_3) (i.2.2.1).ownBlock ∧ Ap (some b29_3) (i.2.2.2).ownBlock ∧ Ap (some b52_3) (i.2.2.2).ownBlock ∧ Ext w w') (fun i => xs.length - i.1) ((0, 0, s29_3, a)) ⟨rfl, rfl, rfl, rfl, rfl, trivial⟩ (⟨Nat.zero_le _, Nat.le_refl _, (show Cel _ _ _ (chS _ 0) from cb29_3), (show Cel _ _ _ (chS _ 0) from c52_3), (show Bs _ _ (chK key 0) from (Ow.rd os29_3)), (show Bs _ _ (chK key 0) from hka), fr_s29_3, ap_b29_3_s29_3, (Ap.symm ap_s29_3_b52_3), (Ap.symm ap_a_b29_3), (Ap.symm ap_a_b52_3), e0⟩) ?_
      rintro ⟨k, n, s5, s7⟩ w5 ⟨hk1, hn, cb29_3, c52_3, hs5, hs7, fr_s5, ap_b29_3_s5, ap_b52_3_s5, ap_b29_3_s7, ap_b52_3_s7, e0⟩
      dsimp only at *
      have hkp := chK_len key hk n
      refine J.seq ?_
      refine J.seq ?_
      refine J.region ?_
      refine J.op (Yd.move rfl) rfl ?_
      refine J.op (Yd.move rfl) rfl ?_
      refine J.op (Yd.len_m Try.underlying23 rfl (Rd.ext hv e0)) rfl ?_
      refine J.op (Yd.lss rfl rfl) rfl ?_
      refine J.nil ?_
      refine J.n_then ?_
      refine J.cond_dec rfl (fun hc3 => ?_) (fun hc3 => ?_)
      · skip
        refine J.skip ?_
        refine J.n_then ?_
        refine J.seq ?_
        refine J.block ?_
        refine J.seq ?_
        refine J.block ?_
        refine J.seq ?_
        refine J.region ?_
        refine J.op (Yd.move rfl) rfl ?_
        refine J.op (Yd.move rfl) rfl ?_
        refine J.op (Yd.idx_m Try.underlying23 ti3 rfl rfl (Rd.ext hv e0) (by first | omega | exact idx_u8' _ | (simp only [Int.toNat_natCast]; omega) | (simp only [List.length_map, List.length_drop, List.length_take, List.length_append, List.length_replicate]; omega) | (simp <;> omega))) rfl ?_
        refine J.op (Yd.load pl3 rfl (Rd.cellI (Rd.ext hv e0) (by first | omega | exact idx_u8' _ | (simp only [Int.toNat_natCast]; omega) | (simp only [List.length_map, List.length_drop, List.length_take, List.length_append, List.length_replicate]; omega) | (simp <;> omega)))) rfl ?_
        refine J.op (Yd.tmod rfl rfl (by omega)) rfl ?_
        refine J.op (Yd.eql rfl rfl) rfl ?_
        refine J.op (Yd.assign rfl) rfl ?_
        refine J.nil ?_
        refine J.n_then ?_
        refine J.cond_dec rfl (fun hc4 => ?_) (fun hc4 => ?_)
        · skip
          refine J.seq ?_
          refine J.regionT [(some b29_3), (some b52_3)] [(0, true), (3, true), (1, false)] [(2, 1), (4, 0), (5, 1)] [(6, true)] mix (by kernel_rfl) ?_
          refine J.s_op rfl (fun _ => Yd.move rfl) rfl ?_
          refine J.s_op rfl (fun _ => Yd.move rfl) rfl ?_
          refine J.s_eff rfl (Ye.callv cl13 rfl rfl (Next_ok (show Cel _ _ _ (chS _ _) from cb29_3) hs5 (by first | assumption | exact macL_len _ _ | exact chK_len _ (by first | assumption | omega | exact chK_len _ (by assumption) _) _ | omega | (simp; done)) ap_b29_3_s5 (by first | omega | (simp only [Int.toNat_natCast]; omega)))) rfl ?_
          rintro v96_6 w6 ⟨s96_6, ov96_6, cX2, os96_6, x1⟩
          have ap_b29_3_v96_6 : Ap (some b29_3) v96_6.ownBlock := Ap.mk (Cel.live cb29_3) (Ow.fr ov96_6)
          have ap_b52_3_v96_6 : Ap (some b52_3) v96_6.ownBlock := Ap.mk (Cel.live c52_3) (Ow.fr ov96_6)
          have ap_s5_v96_6 : Ap s5.ownBlock v96_6.ownBlock := Ap.mk (Bs.live hs5 (by first | omega | (rw [macL_len]; decide) | (rw [chK_len _ hk]; decide) | (rw [chK_len _ (chK_len _ hk _)]; decide))) (Ow.fr ov96_6)
          have ap_s7_v96_6 : Ap s7.ownBlock v96_6.ownBlock := Ap.mk (Bs.live hs7 (by first | omega | (rw [macL_len]; decide) | (rw [chK_len _ hk]; decide) | (rw [chK_len _ (chK_len _ hk _)]; decide))) (Ow.fr ov96_6)
          have fr_v96_6 : Fr w.heap.size v96_6.ownBlock := Fr.le (Ow.fr ov96_6) e0.size
          have ap_b29_3_s96_6 : Ap (some b29_3) s96_6.ownBlock := Ap.mk (Cel.live cb29_3) (Ow.fr os96_6)
          have ap_b52_3_s96_6 : Ap (some b52_3) s96_6.ownBlock := Ap.mk (Cel.live c52_3) (Ow.fr os96_6)
          have ap_s5_s96_6 : Ap s5.ownBlock s96_6.ownBlock := Ap.mk (Bs.live hs5 (by first | omega | (rw [macL_len]; decide) | (rw [chK_len _ hk]; decide) | (rw [chK_len _ (chK_len _ hk _)]; decide))) (Ow.fr os96_6)
          have ap_s7_s96_6 : Ap s7.ownBlock s96_6.ownBlock := Ap.mk (Bs.live hs7 (by first | omega | (rw [macL_len]; decide) | (rw [chK_len _ hk]; decide) | (rw [chK_len _ (chK_len _ hk _)]; decide))) (Ow.fr os96_6)
          have fr_s96_6 : Fr w.heap.size s96_6.ownBlock := Fr.le (Ow.fr os96_6) e0.size
          replace ov96_6 := Ow.base ov96_6 e0.size
          replace os96_6 := Ow.base os96_6 e0.size
          have c52_3 := Cel.tnk c52_3 x1 (ApL.one (Ap.symm ap_b29_3_b52_3))
          have hs5 := Rd.tnk hs5 x1 (ApL.one (Ap.symm ap_b29_3_s5))
          have hs7 := Rd.tnk hs7 x1 (ApL.one (Ap.symm ap_b29_3_s7))
          have e0 := Ext.tnk e0 (fun q hq => by simp only [List.mem_singleton] at hq; subst hq; exact fr_b29_3) x1
          clear x1
          replace cb29_3 := cX2
          clear cX2
          refine J.s_nil ?_
          refine J.t_op rfl (fun w1 ht => Yd.bstr Try.underlying22 Try.underlying5 Try.underlying9 rfl ((fun w' ht => Rd.tnk (Ow.rd ov96_6) ht (ApL.two (Ap.symm ap_b29_3_v96_6) (Ap.symm ap_b52_3_v96_6))) w1 ht)) rfl ?_
          refine J.t_eff rfl (Ye.call cl16 rfl (RNext_ok (show Cel _ _ _ (chS _ _) from c52_3) hs7 (by first | assumption | exact macL_len _ _ | exact chK_len _ (by first | assumption | omega | exact chK_len _ (by assumption) _) _ | omega | (simp; done)) ap_b52_3_s7 (by first | omega | (simp only [Int.toNat_natCast]; omega)))) rfl (fun _ _ ⟨_, _, _, _, h⟩ => Tn.mono h (by simp)) ?_
          rintro v99_7 w7 ⟨s99_7, ov99_7, cX2, os99_7, x1⟩
          have ap_b29_3_v99_7 : Ap (some b29_3) v99_7.ownBlock := Ap.mk (Cel.live cb29_3) (Ow.fr ov99_7)
          have ap_b52_3_v99_7 : Ap (some b52_3) v99_7.ownBlock := Ap.mk (Cel.live c52_3) (Ow.fr ov99_7)
          have ap_s5_v99_7 : Ap s5.ownBlock v99_7.ownBlock := Ap.mk (Bs.live hs5 (by first | omega | (rw [macL_len]; decide) | (rw [chK_len _ hk]; decide) | (rw [chK_len _ (chK_len _ hk _)]; decide))) (Ow.fr ov99_7)
          have ap_s7_v99_7 : Ap s7.ownBlock v99_7.ownBlock := Ap.mk (Bs.live hs7 (by first | omega | (rw [macL_len]; decide) | (rw [chK_len _ hk]; decide) | (rw [chK_len _ (chK_len _ hk _)]; decide))) (Ow.fr ov99_7)
          have ap_v96_6_v99_7 : Ap v96_6.ownBlock v99_7.ownBlock := Ap.mk (Ow.live ov96_6) (Ow.fr ov99_7)
          have ap_s96_6_v99_7 : Ap s96_6.ownBlock v99_7.ownBlock := Ap.mk (Ow.live os96_6) (Ow.fr ov99_7)
          have fr_v99_7 : Fr w.heap.size v99_7.ownBlock := Fr.le (Ow.fr ov99_7) e0.size
          have ap_b29_3_s99_7 : Ap (some b29_3) s99_7.ownBlock := Ap.mk (Cel.live cb29_3) (Ow.fr os99_7)
          have ap_b52_3_s99_7 : Ap (some b52_3) s99_7.ownBlock := Ap.mk (Cel.live c52_3) (Ow.fr os99_7)
          have ap_s5_s99_7 : Ap s5.ownBlock s99_7.ownBlock := Ap.mk (Bs.live hs5 (by first | omega | (rw [macL_len]; decide) | (rw [chK_len _ hk]; decide) | (rw [chK_len _ (chK_len _ hk _)]; decide))) (Ow.fr os99_7)
          have ap_s7_s99_7 : Ap s7.ownBlock s99_7.ownBlock := Ap.mk (Bs.live hs7 (by first | omega | (rw [macL_len]; decide) | (rw [chK_len _ hk]; decide) | (rw [chK_len _ (chK_len _ hk _)]; decide))) (Ow.fr os99_7)
          have ap_v96_6_s99_7 : Ap v96_6.ownBlock s99_7.ownBlock := Ap.mk (Ow.live ov96_6) (Ow.fr os99_7)
          have ap_s96_6_s99_7 : Ap s96_6.ownBlock s99_7.ownBlock := Ap.mk (Ow.live os96_6) (Ow.fr os99_7)
          have fr_s99_7 : Fr w.heap.size s99_7.ownBlock := Fr.le (Ow.fr os99_7) e0.size
          replace ov99_7 := Ow.base ov99_7 e0.size
          replace os99_7 := Ow.base os99_7 e0.size
          have cb29_3 := Cel.tnk cb29_3 x1 (ApL.one ap_b29_3_b52_3)
          have hs5 := Rd.tnk hs5 x1 (ApL.one (Ap.symm ap_b52_3_s5))
          have hs7 := Rd.tnk hs7 x1 (ApL.one (Ap.symm ap_b52_3_s7))
          have ov96_6 := Ow.tnk ov96_6 x1 (ApL.one (Ap.symm ap_b52_3_v96_6))
          have os96_6 := Ow.tnk os96_6 x1 (ApL.one (Ap.symm ap_b52_3_s96_6))
          have e0 := Ext.tnk e0 (fun q hq => by simp only [List.mem_singleton] at hq; subst hq; exact fr_b52_3) x1
          clear x1
          replace c52_3 := cX2
          clear cX2
          refine J.t_op rfl (fun w1 ht => Yd.bstr Try.underlying22 Try.underlying5 Try.underlying9 rfl ((fun w' ht => Rd.tnk (Ow.rd ov99_7) ht (ApL.two (Ap.symm ap_b29_3_v99_7) (Ap.symm ap_b52_3_v99_7))) w1 ht)) rfl ?_
          refine J.t_nil ?_
          refine J.s_op rfl (fun _ => Yd.sne rfl rfl) rfl ?_
          refine J.s_nil ?_
          refine J.n_np ?_
          refine J.n_then ?_
          refine J.know (t := 101) (v' := .bool false) rfl (ff (by exact fun e => e rfl)) ?_
          refine J.cond_false rfl ?_
          refine J.skip ?_
          refine J.n_block ?_
          refine J.n_then ?_
          refine J.seq ?_
          refine J.regionO [(0, true), (2, true), (3, true), (4, true)] [(5, 1), (1, 0)] [(6, true)] mix (by kernel_rfl) ?_
          refine J.s_op rfl (fun _ => Yd.move rfl) rfl ?_
          refine J.s_op rfl (fun _ => Yd.move rfl) rfl ?_
          refine J.s_op rfl (fun _ => Yd.nilCheck rfl) rfl ?_
          refine J.s_op rfl (fun _ => Yd.cast (Yd.fieldA Try.underlying42 rfl ti3 rfl rfl) (show _ = Value.pointer (some ⟨b52_3, 1, none⟩) from rfl)) rfl ?_
          refine J.s_nil ?_
          refine J.o_op rfl (Yd.load pl3 rfl (Cel.cell1 c52_3 1 rfl)) rfl ?_
          refine J.o_eff rfl (Ye.call cl12 rfl (Index_ok (show Cel _ _ _ (chS _ _) from cb29_3) (Ow.rd os96_6) (by first | assumption | exact macL_len _ _ | exact chK_len _ (by first | assumption | omega | exact chK_len _ (by assumption) _) _ | omega | (simp; done)))) rfl (fun _ _ h => h.2) ?_
          rintro _ w8 ⟨rfl, x1⟩
          have e0 := e0.trans x1
          have cb29_3 := cb29_3.ext x1
          have c52_3 := c52_3.ext x1
          have hs5 := hs5.ext x1
          have hs7 := hs7.ext x1
          have ov96_6 := ov96_6.ext x1
          have os96_6 := os96_6.ext x1
          have ov99_7 := ov99_7.ext x1
          have os99_7 := os99_7.ext x1
          clear x1
          refine J.o_nil ?_
          refine J.s_op rfl (fun _ => Yd.neq rfl rfl) rfl ?_
          refine J.s_nil ?_
          refine J.n_np ?_
          refine J.n_then ?_
          refine J.know (t := 143) (v' := .bool false) rfl (ff (by exact fun e => e rfl)) ?_
          refine J.cond_false rfl ?_
          refine J.skip ?_
          refine J.n_block ?_
          refine J.n_then ?_
          refine J.region ?_
          refine J.op (Yd.move rfl) rfl ?_
          refine J.op (Yd.add rfl rfl (by first | omega | exact idx_u8' _ | (simp only [Int.toNat_natCast]; omega) | (simp only [List.length_map, List.length_drop, List.length_take, List.length_append, List.length_replicate]; omega) | (simp <;> omega))) rfl ?_
          refine J.op (Yd.assign rfl) rfl ?_
          refine J.nil ?_
          refine J.n_then ?_
          exact J.round ((k + 1, n + 1, s96_6, s99_7)) ⟨rfl, rfl, rfl, rfl, rfl, trivial⟩ (⟨by show k + 1 ≤ xs.length; omega, by show n + 1 ≤ 41 * (k + 1); omega, (show Cel _ _ _ (chS _ (n + 1)) from cb29_3), (show Cel _ _ _ (chS _ (n + 1)) from c52_3), (show Bs _ _ (chK key (n + 1)) from (Ow.rd os96_6)), (show Bs _ _ (chK key (n + 1)) from (Ow.rd os99_7)), fr_s96_6, ap_b29_3_s96_6, ap_b52_3_s96_6, ap_b29_3_s99_7, ap_b52_3_s99_7, e0⟩) (by show xs.length - (k + 1) < xs.length - k; omega)
        · skip
          refine J.seq ?_
          refine J.region ?_
          refine J.op (Yd.move rfl) rfl ?_
          refine J.op (Yd.move rfl) rfl ?_
          refine J.op (Yd.idx_m Try.underlying23 ti3 rfl rfl (Rd.ext hv e0) (by first | omega | exact idx_u8' _ | (simp only [Int.toNat_natCast]; omega) | (simp only [List.length_map, List.length_drop, List.length_take, List.length_append, List.length_replicate]; omega) | (simp <;> omega))) rfl ?_
          refine J.op (Yd.load pl3 rfl (Rd.cellI (Rd.ext hv e0) (by first | omega | exact idx_u8' _ | (simp only [Int.toNat_natCast]; omega) | (simp only [List.length_map, List.length_drop, List.length_take, List.length_append, List.length_replicate]; omega) | (simp <;> omega)))) rfl ?_
          refine J.op (Yd.tmod rfl rfl (by omega)) rfl ?_
          refine J.op (Yd.eql rfl rfl) rfl ?_
          refine J.op (Yd.assign rfl) rfl ?_
          refine J.nil ?_
          refine J.n_then ?_
          refine J.cond_dec rfl (fun hc6 => ?_) (fun hc6 => ?_)
          · skip
            refine J.seq ?_
            refine J.region ?_
            refine J.op (Yd.move rfl) rfl ?_
            refine J.op (Yd.move rfl) rfl ?_
            refine J.op (Yd.move rfl) rfl ?_
            refine J.op (Yd.idx_m Try.underlying23 ti3 rfl rfl (Rd.ext hv e0) (by first | omega | exact idx_u8' _ | (simp only [Int.toNat_natCast]; omega) | (simp only [List.length_map, List.length_drop, List.length_take, List.length_append, List.length_replicate]; omega) | (simp <;> omega))) rfl ?_
            refine J.op (Yd.load pl3 rfl (Rd.cellI (Rd.ext hv e0) (by first | omega | exact idx_u8' _ | (simp only [Int.toNat_natCast]; omega) | (simp only [List.length_map, List.length_drop, List.length_take, List.length_append, List.length_replicate]; omega) | (simp <;> omega)))) rfl ?_
            by_cases hm : mayK (n : Int) (xs.getD (k : Int).toNat 0) = 0
            · skip
              refine J.eff (Ye.call cl17 rfl (ChAt_yes (show Cel _ _ _ (chS _ _) from cb29_3) hs5 (by first | assumption | exact macL_len _ _ | exact chK_len _ (by first | assumption | omega | exact chK_len _ (by assumption) _) _ | omega | (simp; done)) (by first | omega | (simp only [Int.toNat_natCast]; omega)) hm)) rfl ?_
              rintro _ w9 ⟨v115_9, rfl, ov115_9, x1⟩
              have ap_b29_3_v115_9 : Ap (some b29_3) v115_9.ownBlock := Ap.mk (Cel.live cb29_3) (Ow.fr ov115_9)
              have ap_b52_3_v115_9 : Ap (some b52_3) v115_9.ownBlock := Ap.mk (Cel.live c52_3) (Ow.fr ov115_9)
              have ap_s5_v115_9 : Ap s5.ownBlock v115_9.ownBlock := Ap.mk (Bs.live hs5 (by first | omega | (rw [macL_len]; decide) | (rw [chK_len _ hk]; decide) | (rw [chK_len _ (chK_len _ hk _)]; decide))) (Ow.fr ov115_9)
              have ap_s7_v115_9 : Ap s7.ownBlock v115_9.ownBlock := Ap.mk (Bs.live hs7 (by first | omega | (rw [macL_len]; decide) | (rw [chK_len _ hk]; decide) | (rw [chK_len _ (chK_len _ hk _)]; decide))) (Ow.fr ov115_9)
              have fr_v115_9 : Fr w.heap.size v115_9.ownBlock := Fr.le (Ow.fr ov115_9) e0.size
              replace ov115_9 := Ow.base ov115_9 e0.size
              have e0 := e0.trans x1
              have cb29_3 := cb29_3.ext x1
              have c52_3 := c52_3.ext x1
              have hs5 := hs5.ext x1
              have hs7 := hs7.ext x1
              clear x1
              refine J.op (Yd.move rfl) rfl ?_
              refine J.op (Yd.extract rfl rfl) rfl ?_
              refine J.op (Yd.extract rfl rfl) rfl ?_
              refine J.op (Yd.assign rfl) rfl ?_
              refine J.op (Yd.assign rfl) rfl ?_
              refine J.nil ?_
              refine J.n_then ?_
              refine J.seq ?_
              refine J.region ?_
              refine J.op (Yd.move rfl) rfl ?_
              refine J.op (Yd.move rfl) rfl ?_
              refine J.op (Yd.move rfl) rfl ?_
              refine J.op (Yd.idx_m Try.underlying23 ti3 rfl rfl (Rd.ext hv e0) (by first | omega | exact idx_u8' _ | (simp only [Int.toNat_natCast]; omega) | (simp only [List.length_map, List.length_drop, List.length_take, List.length_append, List.length_replicate]; omega) | (simp <;> omega))) rfl ?_
              refine J.op (Yd.load pl3 rfl (Rd.cellI (Rd.ext hv e0) (by first | omega | exact idx_u8' _ | (simp only [Int.toNat_natCast]; omega) | (simp only [List.length_map, List.length_drop, List.length_take, List.length_append, List.length_replicate]; omega) | (simp <;> omega)))) rfl ?_
              refine J.eff (Ye.call cl18 rfl (RAt_yes (show Cel _ _ _ (chS _ _) from c52_3) hs7 (by first | assumption | exact macL_len _ _ | exact chK_len _ (by first | assumption | omega | exact chK_len _ (by assumption) _) _ | omega | (simp; done)) (by first | omega | (simp only [Int.toNat_natCast]; omega)) hm)) rfl ?_
              rintro _ w10 ⟨v124_10, rfl, ov124_10, x1⟩
              have ap_b29_3_v124_10 : Ap (some b29_3) v124_10.ownBlock := Ap.mk (Cel.live cb29_3) (Ow.fr ov124_10)
              have ap_b52_3_v124_10 : Ap (some b52_3) v124_10.ownBlock := Ap.mk (Cel.live c52_3) (Ow.fr ov124_10)
              have ap_s5_v124_10 : Ap s5.ownBlock v124_10.ownBlock := Ap.mk (Bs.live hs5 (by first | omega | (rw [macL_len]; decide) | (rw [chK_len _ hk]; decide) | (rw [chK_len _ (chK_len _ hk _)]; decide))) (Ow.fr ov124_10)
              have ap_s7_v124_10 : Ap s7.ownBlock v124_10.ownBlock := Ap.mk (Bs.live hs7 (by first | omega | (rw [macL_len]; decide) | (rw [chK_len _ hk]; decide) | (rw [chK_len _ (chK_len _ hk _)]; decide))) (Ow.fr ov124_10)
              have ap_v115_9_v124_10 : Ap v115_9.ownBlock v124_10.ownBlock := Ap.mk (Ow.live ov115_9) (Ow.fr ov124_10)
              have fr_v124_10 : Fr w.heap.size v124_10.ownBlock := Fr.le (Ow.fr ov124_10) e0.size
              replace ov124_10 := Ow.base ov124_10 e0.size
              have e0 := e0.trans x1
              have cb29_3 := cb29_3.ext x1
              have c52_3 := c52_3.ext x1
              have hs5 := hs5.ext x1
              have hs7 := hs7.ext x1
              have ov115_9 := ov115_9.ext x1
              clear x1
              refine J.op (Yd.move rfl) rfl ?_
              refine J.op (Yd.extract rfl rfl) rfl ?_
              refine J.op (Yd.extract rfl rfl) rfl ?_
              refine J.op (Yd.assign rfl) rfl ?_
              refine J.op (Yd.assign rfl) rfl ?_
              refine J.nil ?_
              refine J.n_then ?_
              refine J.seq ?_
              refine J.region ?_
              refine J.op (Yd.move rfl) rfl ?_
              refine J.op (Yd.bstr Try.underlying22 Try.underlying5 Try.underlying9 rfl (Ow.rd ov115_9)) rfl ?_
              refine J.op (Yd.move rfl) rfl ?_
              refine J.op (Yd.bstr Try.underlying22 Try.underlying5 Try.underlying9 rfl (Ow.rd ov124_10)) rfl ?_
              refine J.op (Yd.sne rfl rfl) rfl ?_
              refine J.op (Yd.move rfl) rfl ?_
              refine J.know (t := 132) (v' := .bool false) rfl (ff (by exact fun e => e rfl)) ?_
              refine J.op_g rfl rfl rfl (Yd.move rfl) rfl ?_
              refine J.op_g rfl rfl rfl (Yd.move rfl) rfl ?_
              refine J.op_g rfl rfl rfl (Yd.neq rfl rfl) rfl ?_
              refine J.op (Yd.pick_f rfl rfl) rfl ?_
              refine J.nil ?_
              refine J.n_then ?_
              refine J.know (t := 136) (v' := .bool false) rfl (ff (by exact fun e => e rfl)) ?_
              refine J.cond_false rfl ?_
              refine J.skip ?_
              refine J.n_block ?_
              refine J.n_then ?_
              refine J.seq ?_
              refine J.regionO [(0, true), (2, true), (3, true), (4, true)] [(5, 1), (1, 0)] [(6, true)] mix (by kernel_rfl) ?_
              refine J.s_op rfl (fun _ => Yd.move rfl) rfl ?_
              refine J.s_op rfl (fun _ => Yd.move rfl) rfl ?_
              refine J.s_op rfl (fun _ => Yd.nilCheck rfl) rfl ?_
              refine J.s_op rfl (fun _ => Yd.cast (Yd.fieldA Try.underlying42 rfl ti3 rfl rfl) (show _ = Value.pointer (some ⟨b52_3, 1, none⟩) from rfl)) rfl ?_
              refine J.s_nil ?_
              refine J.o_op rfl (Yd.load pl3 rfl (Cel.cell1 c52_3 1 rfl)) rfl ?_
              refine J.o_eff rfl (Ye.call cl12 rfl (Index_ok (show Cel _ _ _ (chS _ _) from cb29_3) hs5 (by first | assumption | exact macL_len _ _ | exact chK_len _ (by first | assumption | omega | exact chK_len _ (by assumption) _) _ | omega | (simp; done)))) rfl (fun _ _ h => h.2) ?_
              rintro _ w11 ⟨rfl, x1⟩
              have e0 := e0.trans x1
              have cb29_3 := cb29_3.ext x1
              have c52_3 := c52_3.ext x1
              have hs5 := hs5.ext x1
              have hs7 := hs7.ext x1
              have ov115_9 := ov115_9.ext x1
              have ov124_10 := ov124_10.ext x1
              clear x1
              refine J.o_nil ?_
              refine J.s_op rfl (fun _ => Yd.neq rfl rfl) rfl ?_
              refine J.s_nil ?_
              refine J.n_np ?_
              refine J.n_then ?_
              refine J.know (t := 143) (v' := .bool false) rfl (ff (by exact fun e => e rfl)) ?_
              refine J.cond_false rfl ?_
              refine J.skip ?_
              refine J.n_block ?_
              refine J.n_then ?_
              refine J.region ?_
              refine J.op (Yd.move rfl) rfl ?_
              refine J.op (Yd.add rfl rfl (by first | omega | exact idx_u8' _ | (simp only [Int.toNat_natCast]; omega) | (simp only [List.length_map, List.length_drop, List.length_take, List.length_append, List.length_replicate]; omega) | (simp <;> omega))) rfl ?_
              refine J.op (Yd.assign rfl) rfl ?_
              refine J.nil ?_
              refine J.n_then ?_
              exact J.round ((k + 1, n, s5, s7)) ⟨rfl, rfl, rfl, rfl, rfl, trivial⟩ (⟨by show k + 1 ≤ xs.length; omega, by show n ≤ 41 * (k + 1); omega, (show Cel _ _ _ (chS _ (n)) from cb29_3), (show Cel _ _ _ (chS _ (n)) from c52_3), hs5, hs7, fr_s5, ap_b29_3_s5, ap_b52_3_s5, ap_b29_3_s7, ap_b52_3_s7, e0⟩) (by show xs.length - (k + 1) < xs.length - k; omega)
            · skip
              refine J.eff (Ye.call cl17 rfl (ChAt_no (show Cel _ _ _ (chS _ _) from cb29_3) hs5 (by first | assumption | exact macL_len _ _ | exact chK_len _ (by first | assumption | omega | exact chK_len _ (by assumption) _) _ | omega | (simp; done)) (by first | omega | (simp only [Int.toNat_natCast]; omega)) hm)) rfl ?_
              rintro _ w12 ⟨rfl, x1⟩
              have e0 := e0.trans x1
              have cb29_3 := cb29_3.ext x1
              have c52_3 := c52_3.ext x1
              have hs5 := hs5.ext x1
              have hs7 := hs7.ext x1
              clear x1
              refine J.op (Yd.move rfl) rfl ?_
              refine J.op (Yd.extract rfl rfl) rfl ?_
              refine J.op (Yd.extract rfl rfl) rfl ?_
              refine J.op (Yd.assign rfl) rfl ?_
              refine J.op (Yd.assign rfl) rfl ?_
              refine J.nil ?_
              refine J.n_then ?_
              refine J.seq ?_
              refine J.region ?_
              refine J.op (Yd.move rfl) rfl ?_
              refine J.op (Yd.move rfl) rfl ?_
              refine J.op (Yd.move rfl) rfl ?_
              refine J.op (Yd.idx_m Try.underlying23 ti3 rfl rfl (Rd.ext hv e0) (by first | omega | exact idx_u8' _ | (simp only [Int.toNat_natCast]; omega) | (simp only [List.length_map, List.length_drop, List.length_take, List.length_append, List.length_replicate]; omega) | (simp <;> omega))) rfl ?_
              refine J.op (Yd.load pl3 rfl (Rd.cellI (Rd.ext hv e0) (by first | omega | exact idx_u8' _ | (simp only [Int.toNat_natCast]; omega) | (simp only [List.length_map, List.length_drop, List.length_take, List.length_append, List.length_replicate]; omega) | (simp <;> omega)))) rfl ?_
              refine J.eff (Ye.call cl18 rfl (RAt_no (show Cel _ _ _ (chS _ _) from c52_3) hs7 (by first | assumption | exact macL_len _ _ | exact chK_len _ (by first | assumption | omega | exact chK_len _ (by assumption) _) _ | omega | (simp; done)) (by first | omega | (simp only [Int.toNat_natCast]; omega)) hm)) rfl ?_
              rintro _ w13 ⟨rfl, x1⟩
              have e0 := e0.trans x1
              have cb29_3 := cb29_3.ext x1
              have c52_3 := c52_3.ext x1
              have hs5 := hs5.ext x1
              have hs7 := hs7.ext x1
              clear x1
              refine J.op (Yd.move rfl) rfl ?_
              refine J.op (Yd.extract rfl rfl) rfl ?_
              refine J.op (Yd.extract rfl rfl) rfl ?_
              refine J.op (Yd.assign rfl) rfl ?_
              refine J.op (Yd.assign rfl) rfl ?_
              refine J.nil ?_
              refine J.n_then ?_
              refine J.seq ?_
              refine J.region ?_
              refine J.op (Yd.move rfl) rfl ?_
              refine J.op (Yd.bstr Try.underlying22 Try.underlying5 Try.underlying9 rfl (Rd.nilM (fun x : UInt8 => B x) _)) rfl ?_
              refine J.op (Yd.move rfl) rfl ?_
              refine J.op (Yd.bstr Try.underlying22 Try.underlying5 Try.underlying9 rfl (Rd.nilM (fun x : UInt8 => B x) _)) rfl ?_
              refine J.op (Yd.sne rfl rfl) rfl ?_
              refine J.op (Yd.move rfl) rfl ?_
              refine J.know (t := 132) (v' := .bool false) rfl (ff (by exact fun e => e rfl)) ?_
              refine J.op_g rfl rfl rfl (Yd.move rfl) rfl ?_
              refine J.op_g rfl rfl rfl (Yd.move rfl) rfl ?_
              refine J.op_g rfl rfl rfl (Yd.neq rfl rfl) rfl ?_
              refine J.op (Yd.pick_f rfl rfl) rfl ?_
              refine J.nil ?_
              refine J.n_then ?_
              refine J.know (t := 136) (v' := .bool false) rfl (ff (by exact fun e => e rfl)) ?_
              refine J.cond_false rfl ?_
              refine J.skip ?_
              refine J.n_block ?_
              refine J.n_then ?_
              refine J.seq ?_
              refine J.regionO [(0, true), (2, true), (3, true), (4, true)] [(5, 1), (1, 0)] [(6, true)] mix (by kernel_rfl) ?_
              refine J.s_op rfl (fun _ => Yd.move rfl) rfl ?_
              refine J.s_op rfl (fun _ => Yd.move rfl) rfl ?_
              refine J.s_op rfl (fun _ => Yd.nilCheck rfl) rfl ?_
              refine J.s_op rfl (fun _ => Yd.cast (Yd.fieldA Try.underlying42 rfl ti3 rfl rfl) (show _ = Value.pointer (some ⟨b52_3, 1, none⟩) from rfl)) rfl ?_
              refine J.s_nil ?_
              refine J.o_op rfl (Yd.load pl3 rfl (Cel.cell1 c52_3 1 rfl)) rfl ?_
              refine J.o_eff rfl (Ye.call cl12 rfl (Index_ok (show Cel _ _ _ (chS _ _) from cb29_3) hs5 (by first | assumption | exact macL_len _ _ | exact chK_len _ (by first | assumption | omega | exact chK_len _ (by assumption) _) _ | omega | (simp; done)))) rfl (fun _ _ h => h.2) ?_
              rintro _ w14 ⟨rfl, x1⟩
              have e0 := e0.trans x1
              have cb29_3 := cb29_3.ext x1
              have c52_3 := c52_3.ext x1
              have hs5 := hs5.ext x1
              have hs7 := hs7.ext x1
              clear x1
              refine J.o_nil ?_
              refine J.s_op rfl (fun _ => Yd.neq rfl rfl) rfl ?_
              refine J.s_nil ?_
              refine J.n_np ?_
              refine J.n_then ?_
              refine J.know (t := 143) (v' := .bool false) rfl (ff (by exact fun e => e rfl)) ?_
              refine J.cond_false rfl ?_
              refine J.skip ?_
              refine J.n_block ?_
              refine J.n_then ?_
              refine J.region ?_
              refine J.op (Yd.move rfl) rfl ?_
              refine J.op (Yd.add rfl rfl (by first | omega | exact idx_u8' _ | (simp only [Int.toNat_natCast]; omega) | (simp only [List.length_map, List.length_drop, List.length_take, List.length_append, List.length_replicate]; omega) | (simp <;> omega))) rfl ?_
              refine J.op (Yd.assign rfl) rfl ?_
              refine J.nil ?_
              refine J.n_then ?_
              exact J.round ((k + 1, n, s5, s7)) ⟨rfl, rfl, rfl, rfl, rfl, trivial⟩ (⟨by show k + 1 ≤ xs.length; omega, by show n ≤ 41 * (k + 1); omega, (show Cel _ _ _ (chS _ (n)) from cb29_3), (show Cel _ _ _ (chS _ (n)) from c52_3), hs5, hs7, fr_s5, ap_b29_3_s5, ap_b52_3_s5, ap_b29_3_s7, ap_b52_3_s7, e0⟩) (by show xs.length - (k + 1) < xs.length - k; omega)
          · skip
            refine J.seq ?_
            refine J.region ?_
            refine J.op (Yd.move rfl) rfl ?_
            refine J.op (Yd.move rfl) rfl ?_
            refine J.op (Yd.move rfl) rfl ?_
            refine J.op (Yd.idx_m Try.underlying23 ti3 rfl rfl (Rd.ext hv e0) (by first | omega | exact idx_u8' _ | (simp only [Int.toNat_natCast]; omega) | (simp only [List.length_map, List.length_drop, List.length_take, List.length_append, List.length_replicate]; omega) | (simp <;> omega))) rfl ?_
            refine J.op (Yd.load pl3 rfl (Rd.cellI (Rd.ext hv e0) (by first | omega | exact idx_u8' _ | (simp only [Int.toNat_natCast]; omega) | (simp only [List.length_map, List.length_drop, List.length_take, List.length_append, List.length_replicate]; omega) | (simp <;> omega)))) rfl ?_
            by_cases hm : mayK (n : Int) (xs.getD (k : Int).toNat 0) = 0
            · skip
              refine J.eff (Ye.call cl11 rfl (Skip_yes (show Cel _ _ _ (chS _ _) from cb29_3) hs5 (by first | assumption | exact macL_len _ _ | exact chK_len _ (by first | assumption | omega | exact chK_len _ (by assumption) _) _ | omega | (simp; done)) ap_b29_3_s5 (by first | omega | (simp only [Int.toNat_natCast]; omega)) hm)) rfl ?_
              rintro _ w15 ⟨o67_15, vs67_15, s67_15, rfl, oo67_15, cX5, rs67_15, hsf_s67_15, x1⟩
              have lo_b29_3_o67_15 : Lo w5.heap.size (some b29_3) := (Cel.live cb29_3)
              have lo_b52_3_o67_15 : Lo w5.heap.size (some b52_3) := (Cel.live c52_3)
              have lo_s5_o67_15 : Lo w5.heap.size s5.ownBlock := (Bs.live hs5 (by first | omega | (rw [macL_len]; decide) | (rw [chK_len _ hk]; decide) | (rw [chK_len _ (chK_len _ hk _)]; decide)))
              have lo_s7_o67_15 : Lo w5.heap.size s7.ownBlock := (Bs.live hs7 (by first | omega | (rw [macL_len]; decide) | (rw [chK_len _ hk]; decide) | (rw [chK_len _ (chK_len _ hk _)]; decide)))
              have ap_b29_3_o67_15 : Ap (some b29_3) o67_15.ownBlock := Ap.mk (Cel.live cb29_3) (Ow.fr (Rw.row oo67_15))
              have ap_b52_3_o67_15 : Ap (some b52_3) o67_15.ownBlock := Ap.mk (Cel.live c52_3) (Ow.fr (Rw.row oo67_15))
              have ap_s5_o67_15 : Ap s5.ownBlock o67_15.ownBlock := Ap.mk (Bs.live hs5 (by first | omega | (rw [macL_len]; decide) | (rw [chK_len _ hk]; decide) | (rw [chK_len _ (chK_len _ hk _)]; decide))) (Ow.fr (Rw.row oo67_15))
              have ap_s7_o67_15 : Ap s7.ownBlock o67_15.ownBlock := Ap.mk (Bs.live hs7 (by first | omega | (rw [macL_len]; decide) | (rw [chK_len _ hk]; decide) | (rw [chK_len _ (chK_len _ hk _)]; decide))) (Ow.fr (Rw.row oo67_15))
              have fr_o67_15 : Fr w.heap.size o67_15.ownBlock := Fr.le (Ow.fr (Rw.row oo67_15)) e0.size
              have ap_b29_3_s67_15 : Ap (some b29_3) s67_15.ownBlock := Ap.sf ap_b29_3_s5 (Cel.live cb29_3) hsf_s67_15
              have ap_b52_3_s67_15 : Ap (some b52_3) s67_15.ownBlock := Ap.sf ap_b52_3_s5 (Cel.live c52_3) hsf_s67_15
              have fr_s67_15 : Fr w.heap.size s67_15.ownBlock := Fr.sf fr_s5 hsf_s67_15 e0.size
              have c52_3 := Cel.tnk c52_3 x1 (ApL.one (Ap.symm ap_b29_3_b52_3))
              have hs5 := Rd.tnk hs5 x1 (ApL.one (Ap.symm ap_b29_3_s5))
              have hs7 := Rd.tnk hs7 x1 (ApL.one (Ap.symm ap_b29_3_s7))
              have e0 := Ext.tnk e0 (fun q hq => by simp only [List.mem_singleton] at hq; subst hq; exact fr_b29_3) x1
              clear x1
              replace cb29_3 := cX5
              clear cX5
              refine J.op (Yd.move rfl) rfl ?_
              refine J.op (Yd.extract rfl rfl) rfl ?_
              refine J.op (Yd.extract rfl rfl) rfl ?_
              refine J.op (Yd.assign rfl) rfl ?_
              refine J.op (Yd.assign rfl) rfl ?_
              refine J.nil ?_
              refine J.n_then ?_
              refine J.seq ?_
              refine J.region ?_
              refine J.op (Yd.move rfl) rfl ?_
              refine J.op (Yd.move rfl) rfl ?_
              refine J.op (Yd.move rfl) rfl ?_
              refine J.op (Yd.idx_m Try.underlying23 ti3 rfl rfl (Rd.ext hv e0) (by first | omega | exact idx_u8' _ | (simp only [Int.toNat_natCast]; omega) | (simp only [List.length_map, List.length_drop, List.length_take, List.length_append, List.length_replicate]; omega) | (simp <;> omega))) rfl ?_
              refine J.op (Yd.load pl3 rfl (Rd.cellI (Rd.ext hv e0) (by first | omega | exact idx_u8' _ | (simp only [Int.toNat_natCast]; omega) | (simp only [List.length_map, List.length_drop, List.length_take, List.length_append, List.length_replicate]; omega) | (simp <;> omega)))) rfl ?_
              refine J.eff (Ye.call cl19 rfl (RSkip_yes (show Cel _ _ _ (chS _ _) from c52_3) hs7 (by first | assumption | exact macL_len _ _ | exact chK_len _ (by first | assumption | omega | exact chK_len _ (by assumption) _) _ | omega | (simp; done)) ap_b52_3_s7 (by first | omega | (simp only [Int.toNat_natCast]; omega)) hm)) rfl ?_
              rintro _ w16 ⟨o76_16, vs76_16, s76_16, rfl, oo76_16, cX5, rs76_16, hsf_s76_16, x1⟩
              have lo_b29_3_o76_16 : Lo w15.heap.size (some b29_3) := (Cel.live cb29_3)
              have lo_b52_3_o76_16 : Lo w15.heap.size (some b52_3) := (Cel.live c52_3)
              have lo_s5_o76_16 : Lo w15.heap.size s5.ownBlock := (Bs.live hs5 (by first | omega | (rw [macL_len]; decide) | (rw [chK_len _ hk]; decide) | (rw [chK_len _ (chK_len _ hk _)]; decide)))
              have lo_s7_o76_16 : Lo w15.heap.size s7.ownBlock := (Bs.live hs7 (by first | omega | (rw [macL_len]; decide) | (rw [chK_len _ hk]; decide) | (rw [chK_len _ (chK_len _ hk _)]; decide)))
              have lo_o67_15_o76_16 : Lo w15.heap.size o67_15.ownBlock := (Rw.live oo67_15)
              have lo_s67_15_o76_16 : Lo w15.heap.size s67_15.ownBlock := (Bs.live rs67_15 (by first | omega | (rw [macL_len]; decide) | (rw [chK_len _ hk]; decide) | (rw [chK_len _ (chK_len _ hk _)]; decide)))
              have ap_b29_3_o76_16 : Ap (some b29_3) o76_16.ownBlock := Ap.mk (Cel.live cb29_3) (Ow.fr (Rw.row oo76_16))
              have ap_b52_3_o76_16 : Ap (some b52_3) o76_16.ownBlock := Ap.mk (Cel.live c52_3) (Ow.fr (Rw.row oo76_16))
              have ap_s5_o76_16 : Ap s5.ownBlock o76_16.ownBlock := Ap.mk (Bs.live hs5 (by first | omega | (rw [macL_len]; decide) | (rw [chK_len _ hk]; decide) | (rw [chK_len _ (chK_len _ hk _)]; decide))) (Ow.fr (Rw.row oo76_16))
              have ap_s7_o76_16 : Ap s7.ownBlock o76_16.ownBlock := Ap.mk (Bs.live hs7 (by first | omega | (rw [macL_len]; decide) | (rw [chK_len _ hk]; decide) | (rw [chK_len _ (chK_len _ hk _)]; decide))) (Ow.fr (Rw.row oo76_16))
              have ap_o67_15_o76_16 : Ap o67_15.ownBlock o76_16.ownBlock := Ap.mk (Rw.live oo67_15) (Ow.fr (Rw.row oo76_16))
              have ap_s67_15_o76_16 : Ap s67_15.ownBlock o76_16.ownBlock := Ap.mk (Bs.live rs67_15 (by first | omega | (rw [macL_len]; decide) | (rw [chK_len _ hk]; decide) | (rw [chK_len _ (chK_len _ hk _)]; decide))) (Ow.fr (Rw.row oo76_16))
              have fr_o76_16 : Fr w.heap.size o76_16.ownBlock := Fr.le (Ow.fr (Rw.row oo76_16)) e0.size
              have ap_b29_3_s76_16 : Ap (some b29_3) s76_16.ownBlock := Ap.sf ap_b29_3_s7 (Cel.live cb29_3) hsf_s76_16
              have ap_b52_3_s76_16 : Ap (some b52_3) s76_16.ownBlock := Ap.sf ap_b52_3_s7 (Cel.live c52_3) hsf_s76_16
              have ap_o67_15_s76_16 : Ap o67_15.ownBlock s76_16.ownBlock := Ap.sf (Ap.symm ap_s7_o67_15) (Rw.live oo67_15) hsf_s76_16
              have cb29_3 := Cel.tnk cb29_3 x1 (ApL.one ap_b29_3_b52_3)
              have hs5 := Rd.tnk hs5 x1 (ApL.one (Ap.symm ap_b52_3_s5))
              have hs7 := Rd.tnk hs7 x1 (ApL.one (Ap.symm ap_b52_3_s7))
              have oo67_15 := Rw.tnk oo67_15 x1 (LoL.one lo_b52_3_o67_15)
              have rs67_15 := Rd.tnk rs67_15 x1 (ApL.one (Ap.symm ap_b52_3_s67_15))
              have e0 := Ext.tnk e0 (fun q hq => by simp only [List.mem_singleton] at hq; subst hq; exact fr_b52_3) x1
              clear x1
              replace c52_3 := cX5
              clear cX5
              refine J.op (Yd.move rfl) rfl ?_
              refine J.op (Yd.extract rfl rfl) rfl ?_
              refine J.op (Yd.extract rfl rfl) rfl ?_
              refine J.op (Yd.assign rfl) rfl ?_
              refine J.op (Yd.assign rfl) rfl ?_
              refine J.nil ?_
              refine J.n_then ?_
              refine J.seq ?_
              refine J.region ?_
              refine J.op (Yd.move rfl) rfl ?_
              refine J.op (Yd.move rfl) rfl ?_
              refine J.eff (Ye.call cl20 rfl (Same_ok (Rw.rl oo67_15) (Rw.rl oo76_16))) rfl ?_
              rintro _ w17 ⟨rfl, x1⟩
              have e0 := e0.trans x1
              have cb29_3 := cb29_3.ext x1
              have c52_3 := c52_3.ext x1
              have hs5 := hs5.ext x1
              have hs7 := hs7.ext x1
              have oo67_15 := oo67_15.ext x1
              have rs67_15 := rs67_15.ext x1
              have oo76_16 := oo76_16.ext x1
              have rs76_16 := rs76_16.ext x1
              clear x1
              refine J.op (Yd.not_dec rfl) rfl ?_
              refine J.op (Yd.move rfl) rfl ?_
              refine J.know (t := 83) (v' := .bool false) rfl (ff (by exact fun e => e rfl)) ?_
              refine J.op_g rfl rfl rfl (Yd.move rfl) rfl ?_
              refine J.op_g rfl rfl rfl (Yd.move rfl) rfl ?_
              refine J.op_g rfl rfl rfl (Yd.neq rfl rfl) rfl ?_
              refine J.op (Yd.pick_f rfl rfl) rfl ?_
              refine J.nil ?_
              refine J.n_then ?_
              refine J.know (t := 87) (v' := .bool false) rfl (ff (by exact fun e => e rfl)) ?_
              refine J.cond_false rfl ?_
              refine J.skip ?_
              refine J.n_block ?_
              refine J.n_then ?_
              refine J.seq ?_
              refine J.regionO [(0, true), (2, true), (3, true), (4, true)] [(5, 1), (1, 0)] [(6, true)] mix (by kernel_rfl) ?_
              refine J.s_op rfl (fun _ => Yd.move rfl) rfl ?_
              refine J.s_op rfl (fun _ => Yd.move rfl) rfl ?_
              refine J.s_op rfl (fun _ => Yd.nilCheck rfl) rfl ?_
              refine J.s_op rfl (fun _ => Yd.cast (Yd.fieldA Try.underlying42 rfl ti3 rfl rfl) (show _ = Value.pointer (some ⟨b52_3, 1, none⟩) from rfl)) rfl ?_
              refine J.s_nil ?_
              refine J.o_op rfl (Yd.load pl3 rfl (Cel.cell1 c52_3 1 rfl)) rfl ?_
              refine J.o_eff rfl (Ye.call cl12 rfl (Index_ok (show Cel _ _ _ (chS _ _) from cb29_3) rs67_15 (by first | assumption | exact macL_len _ _ | exact chK_len _ (by first | assumption | omega | exact chK_len _ (by assumption) _) _ | omega | (simp; done)))) rfl (fun _ _ h => h.2) ?_
              rintro _ w18 ⟨rfl, x1⟩
              have e0 := e0.trans x1
              have cb29_3 := cb29_3.ext x1
              have c52_3 := c52_3.ext x1
              have hs5 := hs5.ext x1
              have hs7 := hs7.ext x1
              have oo67_15 := oo67_15.ext x1
              have rs67_15 := rs67_15.ext x1
              have oo76_16 := oo76_16.ext x1
              have rs76_16 := rs76_16.ext x1
              clear x1
              refine J.o_nil ?_
              refine J.s_op rfl (fun _ => Yd.neq rfl rfl) rfl ?_
              refine J.s_nil ?_
              refine J.n_np ?_
              refine J.n_then ?_
              refine J.know (t := 143) (v' := .bool false) rfl (ff (by exact fun e => e rfl)) ?_
              refine J.cond_false rfl ?_
              refine J.skip ?_
              refine J.n_block ?_
              refine J.n_then ?_
              refine J.region ?_
              refine J.op (Yd.move rfl) rfl ?_
              refine J.op (Yd.add rfl rfl (by first | omega | exact idx_u8' _ | (simp only [Int.toNat_natCast]; omega) | (simp only [List.length_map, List.length_drop, List.length_take, List.length_append, List.length_replicate]; omega) | (simp <;> omega))) rfl ?_
              refine J.op (Yd.assign rfl) rfl ?_
              refine J.nil ?_
              refine J.n_then ?_
              exact J.round ((k + 1, (xs.getD (k : Int).toNat 0).toNat, s67_15, s76_16)) ⟨rfl, rfl, rfl, rfl, rfl, trivial⟩ (⟨by show k + 1 ≤ xs.length; omega, by show (xs.getD (k : Int).toNat 0).toNat ≤ 41 * (k + 1); have h9 := mayK_zero hm; omega, (show Cel _ _ _ (chS _ ((xs.getD (k : Int).toNat 0).toNat)) from cb29_3), (show Cel _ _ _ (chS _ ((xs.getD (k : Int).toNat 0).toNat)) from c52_3), ((show chK (chK key n) ((xs.getD (k : Int).toNat 0).toNat - n) = chK key (xs.getD (k : Int).toNat 0).toNat from by have h9 := mayK_zero hm; rw [chK_add, show n + ((xs.getD (k : Int).toNat 0).toNat - n) = (xs.getD (k : Int).toNat 0).toNat by omega]) ▸ rs67_15), ((show chK (chK key n) ((xs.getD (k : Int).toNat 0).toNat - n) = chK key (xs.getD (k : Int).toNat 0).toNat from by have h9 := mayK_zero hm; rw [chK_add, show n + ((xs.getD (k : Int).toNat 0).toNat - n) = (xs.getD (k : Int).toNat 0).toNat by omega]) ▸ rs76_16), fr_s67_15, ap_b29_3_s67_15, ap_b52_3_s67_15, ap_b29_3_s76_16, ap_b52_3_s76_16, e0⟩) (by show xs.length - (k + 1) < xs.length - k; omega)
            · skip
              refine J.eff (Ye.call cl11 rfl (Skip_no (show Cel _ _ _ (chS _ _) from cb29_3) hs5 (by first | assumption | exact macL_len _ _ | exact chK_len _ (by first | assumption | omega | exact chK_len _ (by assumption) _) _ | omega | (simp; done)) (by first | omega | (simp only [Int.toNat_natCast]; omega)) hm)) rfl ?_
              rintro _ w19 ⟨rfl, x1⟩
              have e0 := e0.trans x1
              have cb29_3 := cb29_3.ext x1
              have c52_3 := c52_3.ext x1
              have hs5 := hs5.ext x1
              have hs7 := hs7.ext x1
              clear x1
              refine J.op (Yd.move rfl) rfl ?_
              refine J.op (Yd.extract rfl rfl) rfl ?_
              refine J.op (Yd.extract rfl rfl) rfl ?_
              refine J.op (Yd.assign rfl) rfl ?_
              refine J.op (Yd.assign rfl) rfl ?_
              refine J.nil ?_
              refine J.n_then ?_
              refine J.seq ?_
              refine J.region ?_
              refine J.op (Yd.move rfl) rfl ?_
              refine J.op (Yd.move rfl) rfl ?_
              refine J.op (Yd.move rfl) rfl ?_
              refine J.op (Yd.idx_m Try.underlying23 ti3 rfl rfl (Rd.ext hv e0) (by first | omega | exact idx_u8' _ | (simp only [Int.toNat_natCast]; omega) | (simp only [List.length_map, List.length_drop, List.length_take, List.length_append, List.length_replicate]; omega) | (simp <;> omega))) rfl ?_
              refine J.op (Yd.load pl3 rfl (Rd.cellI (Rd.ext hv e0) (by first | omega | exact idx_u8' _ | (simp only [Int.toNat_natCast]; omega) | (simp only [List.length_map, List.length_drop, List.length_take, List.length_append, List.length_replicate]; omega) | (simp <;> omega)))) rfl ?_
              refine J.eff (Ye.call cl19 rfl (RSkip_no (show Cel _ _ _ (chS _ _) from c52_3) (by first | omega | (simp only [Int.toNat_natCast]; omega)) hm)) rfl ?_
              rintro _ w20 ⟨rfl, x1⟩
              have e0 := e0.trans x1
              have cb29_3 := cb29_3.ext x1
              have c52_3 := c52_3.ext x1
              have hs5 := hs5.ext x1
              have hs7 := hs7.ext x1
              clear x1
              refine J.op (Yd.move rfl) rfl ?_
              refine J.op (Yd.extract rfl rfl) rfl ?_
              refine J.op (Yd.extract rfl rfl) rfl ?_
              refine J.op (Yd.assign rfl) rfl ?_
              refine J.op (Yd.assign rfl) rfl ?_
              refine J.nil ?_
              refine J.n_then ?_
              refine J.seq ?_
              refine J.region ?_
              refine J.op (Yd.move rfl) rfl ?_
              refine J.op (Yd.move rfl) rfl ?_
              refine J.eff (Ye.call cl20 rfl (Same_ok (Rl.nil0 _) (Rl.nil0 _))) rfl ?_
              rintro _ w21 ⟨rfl, x1⟩
              have e0 := e0.trans x1
              have cb29_3 := cb29_3.ext x1
              have c52_3 := c52_3.ext x1
              have hs5 := hs5.ext x1
              have hs7 := hs7.ext x1
              clear x1
              refine J.op (Yd.not_dec rfl) rfl ?_
              refine J.op (Yd.move rfl) rfl ?_
              refine J.know (t := 83) (v' := .bool false) rfl (ff (by exact fun e => e rfl)) ?_
              refine J.op_g rfl rfl rfl (Yd.move rfl) rfl ?_
              refine J.op_g rfl rfl rfl (Yd.move rfl) rfl ?_
              refine J.op_g rfl rfl rfl (Yd.neq rfl rfl) rfl ?_
              refine J.op (Yd.pick_f rfl rfl) rfl ?_
              refine J.nil ?_
              refine J.n_then ?_
              refine J.know (t := 87) (v' := .bool false) rfl (ff (by exact fun e => e rfl)) ?_
              refine J.cond_false rfl ?_
              refine J.skip ?_
              refine J.n_block ?_
              refine J.n_then ?_
              refine J.seq ?_
              refine J.regionO [(0, true), (2, true), (3, true), (4, true)] [(5, 1), (1, 0)] [(6, true)] mix (by kernel_rfl) ?_
              refine J.s_op rfl (fun _ => Yd.move rfl) rfl ?_
              refine J.s_op rfl (fun _ => Yd.move rfl) rfl ?_
              refine J.s_op rfl (fun _ => Yd.nilCheck rfl) rfl ?_
              refine J.s_op rfl (fun _ => Yd.cast (Yd.fieldA Try.underlying42 rfl ti3 rfl rfl) (show _ = Value.pointer (some ⟨b52_3, 1, none⟩) from rfl)) rfl ?_
              refine J.s_nil ?_
              refine J.o_op rfl (Yd.load pl3 rfl (Cel.cell1 c52_3 1 rfl)) rfl ?_
              refine J.o_eff rfl (Ye.call cl12 rfl (Index_ok (show Cel _ _ _ (chS _ _) from cb29_3) hs5 (by first | assumption | exact macL_len _ _ | exact chK_len _ (by first | assumption | omega | exact chK_len _ (by assumption) _) _ | omega | (simp; done)))) rfl (fun _ _ h => h.2) ?_
              rintro _ w22 ⟨rfl, x1⟩
              have e0 := e0.trans x1
              have cb29_3 := cb29_3.ext x1
              have c52_3 := c52_3.ext x1
              have hs5 := hs5.ext x1
              have hs7 := hs7.ext x1
              clear x1
              refine J.o_nil ?_
              refine J.s_op rfl (fun _ => Yd.neq rfl rfl) rfl ?_
              refine J.s_nil ?_
              refine J.n_np ?_
              refine J.n_then ?_
              refine J.know (t := 143) (v' := .bool false) rfl (ff (by exact fun e => e rfl)) ?_
              refine J.cond_false rfl ?_
              refine J.skip ?_
              refine J.n_block ?_
              refine J.n_then ?_
              refine J.region ?_
              refine J.op (Yd.move rfl) rfl ?_
              refine J.op (Yd.add rfl rfl (by first | omega | exact idx_u8' _ | (simp only [Int.toNat_natCast]; omega) | (simp only [List.length_map, List.length_drop, List.length_take, List.length_append, List.length_replicate]; omega) | (simp <;> omega))) rfl ?_
              refine J.op (Yd.assign rfl) rfl ?_
              refine J.nil ?_
              refine J.n_then ?_
              exact J.round ((k + 1, n, s5, s7)) ⟨rfl, rfl, rfl, rfl, rfl, trivial⟩ (⟨by show k + 1 ≤ xs.length; omega, by show n ≤ 41 * (k + 1); omega, (show Cel _ _ _ (chS _ (n)) from cb29_3), (show Cel _ _ _ (chS _ (n)) from c52_3), hs5, hs7, fr_s5, ap_b29_3_s5, ap_b52_3_s5, ap_b29_3_s7, ap_b52_3_s7, e0⟩) (by show xs.length - (k + 1) < xs.length - k; omega)
      · skip
        refine J.exit ?_
        refine J.x_then ?_
        refine J.x_then ?_
        refine J.x_block ?_
        refine J.n_then ?_
        refine J.seq ?_
        refine J.region ?_
        refine J.eff (Ye.call cl8 rfl (awake_ok)) rfl ?_
        rintro _ w23 ⟨rfl, x1⟩
        have e0 := e0.trans x1
        have cb29_3 := cb29_3.ext x1
        have c52_3 := c52_3.ext x1
        have hs5 := hs5.ext x1
        have hs7 := hs7.ext x1
        clear x1
        refine J.op (Yd.assign rfl) rfl ?_
        refine J.nil ?_
        refine J.n_then ?_
        refine J.ret ?_
        exact J.ret1 rfl rfl (⟨_, rfl, rfl, e0⟩)

theorem ChainKeys_ok {a v : Value} {key : List UInt8} {xs : List Int} {w : World} (ha : Bs w a key) (hv : Rd w v (xs.map fun x => I x)) : C Try.prog 5 [a, v] w (Ret fun v w' => v = .bool true ∧ Ext w w') := by
  by_cases hk : key.length = 32
  · exact ChainKeys_yes ha hv hk
  · exact ChainKeys_no ha hv hk
end Ytikggonjagoiaaa
end Go.Proofs
