import Derived.Test.YtikggonjagoiaaaT
import Derived.Test.YtikggonjagoiaaaH7
set_option linter.unusedVariables false
set_option linter.unusedSimpArgs false
set_option maxRecDepth 100000
set_option maxHeartbeats 4000000
namespace Go.Proofs
open Go.X Go.RowKit
namespace Ytikggonjagoiaaa
theorem ChainSkips_ok {a v : Value} {key : List UInt8} {xs : List Int} {w : World} (ha : Bs w a key) (hv : Rd w v (xs.map fun x => I x)) : C Try.prog 3 [a, v] w (Ret fun v w' => v = .bool true ∧ Ext w w') := by
  have e0 := Ext.refl w
  refine C.enter Try.func3 rfl Try.ntmps3 rfl ?_
  refine J.seq ?_
  refine J.region ?_
  refine J.op (Yd.assign rfl) rfl ?_
  refine J.nil ?_
  refine J.n_then ?_
  refine J.seq ?_
  refine J.seq ?_
  refine J.region ?_
  refine J.op (Yd.move rfl) rfl ?_
  refine J.op (Yd.len_b Try.underlying22 rfl ha) rfl ?_
  refine J.op (Yd.neq rfl rfl) rfl ?_
  refine J.op (Yd.move rfl) rfl ?_
  refine J.split_dec (t := 17) rfl (fun h1 => ?_) (fun h1 => ?_)
  · skip
    refine J.not_g rfl rfl rfl rfl rfl ?_
    refine J.not_g rfl rfl rfl rfl rfl ?_
    refine J.not_g rfl rfl rfl rfl rfl ?_
    refine J.op (Yd.pick_t rfl rfl) rfl ?_
    refine J.nil ?_
    refine J.n_then ?_
    refine J.cond_true rfl ?_
    refine J.seq ?_
    refine J.region ?_
    refine J.eff (Ye.call cl8 rfl (awake_ok)) rfl ?_
    rintro _ w1 ⟨rfl, x1⟩
    have e0 := e0.trans x1
    clear x1
    refine J.op (Yd.assign rfl) rfl ?_
    refine J.nil ?_
    refine J.n_then ?_
    refine J.ret ?_
    refine J.r_then ?_
    exact J.ret1 rfl rfl (⟨_, rfl, rfl, e0⟩)
  · skip
    refine J.op_g rfl rfl rfl (Yd.move rfl) rfl ?_
    refine J.op_g rfl rfl rfl (Yd.len_m Try.underlying23 rfl hv) rfl ?_
    refine J.op_g rfl rfl rfl (Yd.gtr rfl rfl) rfl ?_
    refine J.op (Yd.pick_f rfl rfl) rfl ?_
    refine J.nil ?_
    refine J.n_then ?_
    refine J.cond_dec rfl (fun hc0 => ?_) (fun hc0 => ?_)
    · skip
      refine J.seq ?_
      refine J.region ?_
      refine J.eff (Ye.call cl8 rfl (awake_ok)) rfl ?_
      rintro _ w2 ⟨rfl, x1⟩
      have e0 := e0.trans x1
      clear x1
      refine J.op (Yd.assign rfl) rfl ?_
      refine J.nil ?_
      refine J.n_then ?_
      refine J.ret ?_
      refine J.r_then ?_
      exact J.ret1 rfl rfl (⟨_, rfl, rfl, e0⟩)
    · skip
      have hk : key.length = 32 := by omega
      refine J.skip ?_
      refine J.n_then ?_
      refine J.seq ?_
      refine J.region ?_
      refine J.op (Yd.move rfl) rfl ?_
      refine J.eff (Ye.call cl9 rfl (New_yes ha hk)) rfl ?_
      rintro _ w3 ⟨b25_3, s25_3, rfl, hbb25_3, cb25_3, os25_3, ap_b25_3_s25_3, x1⟩
      have fr_b25_3 : Fr w.heap.size (some b25_3) := Fr.le (Fr.blk hbb25_3) e0.size
      have fr_s25_3 : Fr w.heap.size s25_3.ownBlock := Fr.le (Ow.fr os25_3) e0.size
      replace os25_3 := Ow.base os25_3 e0.size
      have e0 := e0.trans x1
      clear x1
      refine J.op (Yd.move rfl) rfl ?_
      refine J.op (Yd.extract rfl rfl) rfl ?_
      refine J.op (Yd.extract rfl rfl) rfl ?_
      refine J.op (Yd.assign rfl) rfl ?_
      refine J.op (Yd.assign rfl) rfl ?_
      refine J.nil ?_
      refine J.n_then ?_
      refine J.seq ?_
      refine J.region ?_
      refine J.op (Yd.move rfl) rfl ?_
      refine J.eff (Ye.call cl9 rfl (New_yes (Rd.ext ha e0) hk)) rfl ?_
      rintro _ w4 ⟨b30_4, s30_4, rfl, hbb30_4, cb30_4, os30_4, ap_b30_4_s30_4, x1⟩
      have ap_s25_3_b30_4 : Ap s25_3.ownBlock (some b30_4) := Ap.mk (Ow.live os25_3) (Fr.blk hbb30_4)
      have ap_b25_3_b30_4 : Ap (some b25_3) (some b30_4) := Ap.mk (Cel.live cb25_3) (Fr.blk hbb30_4)
      have fr_b30_4 : Fr w.heap.size (some b30_4) := Fr.le (Fr.blk hbb30_4) e0.size
      have ap_s25_3_s30_4 : Ap s25_3.ownBlock s30_4.ownBlock := Ap.mk (Ow.live os25_3) (Ow.fr os30_4)
      have ap_b25_3_s30_4 : Ap (some b25_3) s30_4.ownBlock := Ap.mk (Cel.live cb25_3) (Ow.fr os30_4)
      have fr_s30_4 : Fr w.heap.size s30_4.ownBlock := Fr.le (Ow.fr os30_4) e0.size
      replace os30_4 := Ow.base os30_4 e0.size
      have e0 := e0.trans x1
      have os25_3 := os25_3.ext x1
      have cb25_3 := cb25_3.ext x1
      clear x1
      refine J.op (Yd.move rfl) rfl ?_
      refine J.op (Yd.extract rfl rfl) rfl ?_
      refine J.op (Yd.extract rfl rfl) rfl ?_
      refine J.op (Yd.assign rfl) rfl ?_
      refine J.op (Yd.assign rfl) rfl ?_
      refine J.nil ?_
      refine J.n_then ?_
      refine J.seq ?_
      refine J.seq ?_
      refine J.region ?_
      refine J.op (Yd.move rfl) rfl ?_
      refine J.op (Yd.neq rfl rfl) rfl ?_
      refine J.op (Yd.move rfl) rfl ?_
      refine J.know (t := 35) (v' := .bool false) rfl (ff (by decide)) ?_
      refine J.op_g rfl rfl rfl (Yd.move rfl) rfl ?_
      refine J.op_g rfl rfl rfl (Yd.neq rfl rfl) rfl ?_
      refine J.op (Yd.pick_f rfl rfl) rfl ?_
      refine J.op (Yd.move rfl) rfl ?_
      refine J.know (t := 39) (v' := .bool false) rfl (ff (by decide)) ?_
      refine J.op_g rfl rfl rfl (Yd.move rfl) rfl ?_
      refine J.op_g rfl rfl rfl (Yd.cast (Yd.eqPn Try.underlying25 rfl rfl) (show _ = Value.bool false from rfl)) rfl ?_
      refine J.op (Yd.pick_f rfl rfl) rfl ?_
      refine J.op (Yd.move rfl) rfl ?_
      refine J.op_g rfl rfl rfl (Yd.move rfl) rfl ?_
      refine J.op_g rfl rfl rfl (Yd.cast (Yd.eqPn Try.underlying25 rfl rfl) (show _ = Value.bool false from rfl)) rfl ?_
      refine J.op (Yd.pick_f rfl rfl) rfl ?_
      refine J.nil ?_
      refine J.n_then ?_
      refine J.cond_false rfl ?_
      refine J.skip ?_
      refine J.n_then ?_
      refine J.seq ?_
      refine J.seq ?_
      refine J.region ?_
      refine J.op (Yd.assign rfl) rfl ?_
      refine J.nil ?_
      refine J.n_then ?_
      refine J.block ?_
      refine J.loop (ι := Nat × Nat × Value × Value) (fun i => [(1, v), (9, I i.1), (5, .pointer (some ⟨b25_3, 0, none⟩)), (7, .pointer (some ⟨b30_4, 0, none⟩))]) (fun i w' => i.1 ≤ xs.length ∧ i.2.1 ≤ 12 * i.1 ∧ Cel w' b25_3 53 (chS i.2.2.1 i.2.1) ∧ Cel w' b30_4 53 (chS i.2.2.2 i.2.1) ∧ Bs w' i.2.2.1 (chK key i.2.1) ∧ Bs w' i.2.2.2 (chK key i.2.1) ∧ Fr w.heap.size (i.2.2.1).ownBlock ∧ Ap (some b25_3) (i.2.2.1).ownBlock ∧ Ap (some b30_4) (i.2.2.1).ownBlock ∧ Fr w.heap.size (i.2.2.2).ownBlock ∧ Ap (some b25_3) (i.2.2.2).ownBlock ∧ Ap (some b30_4) (i.2.2.2).ownBlock ∧ Ext w w') (fun i => xs.length - i.1) ((0, 0, s25_3, s30_4)) ⟨rfl, rfl, rfl, rfl, trivial⟩ (⟨Nat.zero_le _, Nat.le_refl _, (show Cel _ _ _ (chS _ _) from cb25_3), (show Cel _ _ _ (chS _ _) from cb30_4), (Ow.rd os25_3), (Ow.rd os30_4), fr_s25_3, ap_b25_3_s25_3, (Ap.symm ap_s25_3_b30_4), fr_s30_4, ap_b25_3_s30_4, ap_b30_4_s30_4, e0⟩) ?_
      rintro ⟨k, p, s5, s7⟩ w5 ⟨hk1, hp, cb25_3, cb30_4, hs5, hs7, fr_s5, ap_b25_3_s5, ap_b30_4_s5, fr_s7, ap_b25_3_s7, ap_b30_4_s7, e0⟩
      dsimp only at *
      have hkp := chK_len key hk p
      have hm0 := Int.emod_nonneg (xs.getD (k : Int).toNat 0) (show (12 : Int) ≠ 0 by decide)
      have hm1 := Int.emod_lt_of_pos (xs.getD (k : Int).toNat 0) (show (0 : Int) < 12 by decide)
      refine J.seq ?_
      refine J.seq ?_
      refine J.region ?_
      refine J.op (Yd.move rfl) rfl ?_
      refine J.op (Yd.move rfl) rfl ?_
      refine J.op (Yd.len_m Try.underlying23 rfl (Rd.ext hv e0)) rfl ?_
      refine J.op (Yd.lss rfl rfl) rfl ?_
      refine J.nil ?_
      refine J.n_then ?_
      refine J.cond_dec rfl (fun hc2 => ?_) (fun hc2 => ?_)
      · skip
        refine J.skip ?_
        refine J.n_then ?_
        refine J.seq ?_
        refine J.block ?_
        refine J.seq ?_
        refine J.region ?_
        refine J.op (Yd.move rfl) rfl ?_
        refine J.op (Yd.move rfl) rfl ?_
        refine J.op (Yd.idx_m Try.underlying23 ti3 rfl rfl (Rd.ext hv e0) (by first | omega | exact idx_u8' _ | (simp only [Int.toNat_natCast]; omega) | (simp only [List.length_map, List.length_drop, List.length_take, List.length_append, List.length_replicate]; omega) | (simp <;> omega))) rfl ?_
        refine J.op (Yd.load pl3 rfl (Rd.cellI (Rd.ext hv e0) (by first | omega | exact idx_u8' _ | (simp only [Int.toNat_natCast]; omega) | (simp only [List.length_map, List.length_drop, List.length_take, List.length_append, List.length_replicate]; omega) | (simp <;> omega)))) rfl ?_
        refine J.eff (Ye.call cl10 rfl (Round_ok (by omega) (by omega))) rfl ?_
        rintro _ w6 ⟨rfl, x1⟩
        have e0 := e0.trans x1
        have cb25_3 := cb25_3.ext x1
        have cb30_4 := cb30_4.ext x1
        have hs5 := hs5.ext x1
        have hs7 := hs7.ext x1
        clear x1
        refine J.op (Yd.assign rfl) rfl ?_
        refine J.nil ?_
        refine J.n_then ?_
        refine J.seq ?_
        refine J.region ?_
        refine J.op (Yd.move rfl) rfl ?_
        refine J.op (Yd.move rfl) rfl ?_
        refine J.eff (Ye.call cl12 rfl (Index_ok (show Cel _ _ _ (chS _ _) from cb25_3) hs5 (by first | assumption | omega))) rfl ?_
        rintro _ w7 ⟨rfl, x1⟩
        have e0 := e0.trans x1
        have cb25_3 := cb25_3.ext x1
        have cb30_4 := cb30_4.ext x1
        have hs5 := hs5.ext x1
        have hs7 := hs7.ext x1
        clear x1
        refine J.op (Yd.move rfl) rfl ?_
        obtain ⟨q, hq⟩ := Int.eq_ofNat_of_zero_le (show 0 ≤ (p : Int) + (xs.getD (k : Int).toNat 0 % 12) by omega)
        refine J.op (Yd.cast (Yd.add rfl rfl (by omega)) (show I ((p : Int) + (xs.getD (k : Int).toNat 0 % 12)) = I (q : Int) by rw [hq])) rfl ?_
        refine J.eff (Ye.call cl11 rfl (Skip_nat (show Cel _ _ _ (chS _ _) from cb25_3) hs5 (by first | assumption | exact macL_len _ _ | exact chK_len _ (by first | assumption | omega | exact chK_len _ (by assumption) _) _ | omega | (simp; done)) ap_b25_3_s5 (by first | omega | (simp only [Int.toNat_natCast]; omega)) (by omega) (by omega))) rfl ?_
        rintro _ w8 ⟨o64_8, vs64_8, s64_8, rfl, oo64_8, cX5, rs64_8, hsf_s64_8, x1⟩
        have lo_b25_3_o64_8 : Lo w7.heap.size (some b25_3) := (Cel.live cb25_3)
        have lo_b30_4_o64_8 : Lo w7.heap.size (some b30_4) := (Cel.live cb30_4)
        have ap_b25_3_o64_8 : Ap (some b25_3) o64_8.ownBlock := Ap.mk (Cel.live cb25_3) (Ow.fr (Rw.row oo64_8))
        have ap_b30_4_o64_8 : Ap (some b30_4) o64_8.ownBlock := Ap.mk (Cel.live cb30_4) (Ow.fr (Rw.row oo64_8))
        have fr_o64_8 : Fr w.heap.size o64_8.ownBlock := Fr.le (Ow.fr (Rw.row oo64_8)) e0.size
        have ap_b25_3_s64_8 : Ap (some b25_3) s64_8.ownBlock := Ap.sf ap_b25_3_s5 (Cel.live cb25_3) hsf_s64_8
        have ap_b30_4_s64_8 : Ap (some b30_4) s64_8.ownBlock := Ap.sf ap_b30_4_s5 (Cel.live cb30_4) hsf_s64_8
        have fr_s64_8 : Fr w.heap.size s64_8.ownBlock := Fr.sf fr_s5 hsf_s64_8 e0.size
        have cb30_4 := Cel.tnk cb30_4 x1 (ApL.one (Ap.symm ap_b25_3_b30_4))
        have hs5 := Rd.tnk hs5 x1 (ApL.one (Ap.symm ap_b25_3_s5))
        have hs7 := Rd.tnk hs7 x1 (ApL.one (Ap.symm ap_b25_3_s7))
        have e0 := Ext.tnk e0 (fun q hq => by simp only [List.mem_singleton] at hq; subst hq; exact fr_b25_3) x1
        clear x1
        replace cb25_3 := cX5
        clear cX5
        refine J.op (Yd.move rfl) rfl ?_
        refine J.op (Yd.extract rfl rfl) rfl ?_
        refine J.op (Yd.extract rfl rfl) rfl ?_
        refine J.op (Yd.assign rfl) rfl ?_
        refine J.op (Yd.assign rfl) rfl ?_
        refine J.nil ?_
        refine J.n_then ?_
        refine J.seq ?_
        refine J.seq ?_
        refine J.region ?_
        refine J.op (Yd.move rfl) rfl ?_
        refine J.op (Yd.neq rfl rfl) rfl ?_
        refine J.op (Yd.move rfl) rfl ?_
        refine J.know (t := 69) (v' := .bool false) rfl (ff (by decide)) ?_
        refine J.op_g rfl rfl rfl (Yd.move rfl) rfl ?_
        refine J.op_g rfl rfl rfl (Yd.len_l Try.underlying30 rfl (Rw.rl oo64_8)) rfl ?_
        refine J.op_g rfl rfl rfl (Yd.move rfl) rfl ?_
        refine J.op_g rfl rfl rfl (Yd.neq rfl rfl) rfl ?_
        refine J.op (Yd.pick_f rfl rfl) rfl ?_
        refine J.nil ?_
        refine J.n_then ?_
        refine J.know (t := 74) (v' := .bool false) rfl (ff (by rw [chR_len]; omega)) ?_
        refine J.cond_false rfl ?_
        refine J.skip ?_
        refine J.n_then ?_
        refine J.seq ?_
        refine J.seq ?_
        refine J.region ?_
        refine J.op (Yd.assign rfl) rfl ?_
        refine J.nil ?_
        refine J.n_then ?_
        refine J.block ?_
        have hsk5 : Bs _ s64_8 (chK key q) := (show chK (chK key p) (q - p) = chK key q from by rw [chK_add, show p + (q - p) = q by omega]) ▸ rs64_8
        refine J.loop (ι := Nat × Value) (fun i => [(1, v), (9, I (k : Int)), (10, I (xs.getD (k : Int).toNat 0 % 12)), (13, I i.1), (5, .pointer (some ⟨b25_3, 0, none⟩)), (7, .pointer (some ⟨b30_4, 0, none⟩)), (11, o64_8)]) (fun i w' => i.1 ≤ q - p ∧ Cel w' b25_3 53 (chS s64_8 q) ∧ Cel w' b30_4 53 (chS i.2 (p + i.1)) ∧ Bs w' i.2 (chK key (p + i.1)) ∧ Bs w' s64_8 (chK key q) ∧ Rw w7.heap.size 22 5 w' o64_8 vs64_8 (chR (chK key p) 0 (q - p)) ∧ Fr w.heap.size (i.2).ownBlock ∧ Ap (some b25_3) (i.2).ownBlock ∧ Ap (some b30_4) (i.2).ownBlock ∧ Ext w w') (fun i => (q - p) - i.1) ((0, s7)) ⟨rfl, rfl, rfl, rfl, rfl, rfl, rfl, trivial⟩ (⟨Nat.zero_le _, (show Cel _ _ _ (chS _ _) from cb25_3), (show Cel _ _ _ (chS _ _) from cb30_4), hs7, hsk5, oo64_8, fr_s7, ap_b25_3_s7, ap_b30_4_s7, e0⟩) ?_
        rintro ⟨j, s7j⟩ w9 ⟨hj, cb25_3, cb30_4, hs7, hsk5, hrl, fr_s7j, ap_b25_3_s7j, ap_b30_4_s7j, e0⟩
        dsimp only at *
        have hrlen := chR_len (chK key p) 0 (q - p)
        refine J.seq ?_
        refine J.seq ?_
        refine J.region ?_
        refine J.op (Yd.move rfl) rfl ?_
        refine J.op (Yd.move rfl) rfl ?_
        refine J.op (Yd.lss rfl rfl) rfl ?_
        refine J.nil ?_
        refine J.n_then ?_
        refine J.cond_dec rfl (fun hc4 => ?_) (fun hc4 => ?_)
        · skip
          refine J.skip ?_
          refine J.n_then ?_
          refine J.seq ?_
          refine J.block ?_
          refine J.seq ?_
          refine J.regionT [(some b30_4)] [(0, true), (3, true), (4, true)] [(5, 1), (6, 1), (7, 1), (1, 0), (2, 1)] [(8, true)] mix (by kernel_rfl) ?_
          refine J.s_op rfl (fun _ => Yd.move rfl) rfl ?_
          refine J.s_op rfl (fun _ => Yd.move rfl) rfl ?_
          refine J.s_op rfl (fun _ => Yd.move rfl) rfl ?_
          refine J.s_nil ?_
          refine J.t_op rfl (fun w1 ht => Yd.idx_l Try.underlying30 ti22 rfl rfl ((fun w' ht => Rw.rl (Rw.tnk hrl ht (LoL.one lo_b30_4_o64_8))) w1 ht) (by first | omega | exact idx_u8' _ | (simp only [Int.toNat_natCast]; omega) | (simp only [List.length_map, List.length_drop, List.length_take, List.length_append, List.length_replicate]; omega) | (simp <;> omega))) rfl ?_
          refine J.t_op rfl (fun w1 ht => Yd.load pl22 rfl (Rl.cell ((fun w' ht => Rw.rl (Rw.tnk hrl ht (LoL.one lo_b30_4_o64_8))) w1 ht) (by first | omega | exact idx_u8' _ | (simp only [Int.toNat_natCast]; omega) | (simp only [List.length_map, List.length_drop, List.length_take, List.length_append, List.length_replicate]; omega) | (simp <;> omega)))) rfl ?_
          refine J.t_op rfl (fun w1 ht => Yd.bstr Try.underlying22 Try.underlying5 Try.underlying9 rfl ((fun w' ht => Rl.at' ((fun w' ht => Rw.rl (Rw.tnk hrl ht (LoL.one lo_b30_4_o64_8))) w' ht) (by first | omega | exact idx_u8' _ | (simp only [Int.toNat_natCast]; omega) | (simp only [List.length_map, List.length_drop, List.length_take, List.length_append, List.length_replicate]; omega) | (simp <;> omega))) w1 ht)) rfl ?_
          refine J.t_eff rfl (Ye.call cl13 rfl (Next_ok (show Cel _ _ _ (chS _ _) from cb30_4) hs7 (by first | assumption | exact macL_len _ _ | exact chK_len _ (by first | assumption | omega | exact chK_len _ (by assumption) _) _ | omega | (simp; done)) ap_b30_4_s7j (by first | omega | (simp only [Int.toNat_natCast]; omega)))) rfl (fun _ _ ⟨_, _, _, _, h⟩ => Tn.mono h (by simp)) ?_
          rintro v81_10 w10 ⟨s81_10, ov81_10, cX2, os81_10, x1⟩
          have ap_b25_3_v81_10 : Ap (some b25_3) v81_10.ownBlock := Ap.mk (Cel.live cb25_3) (Ow.fr ov81_10)
          have ap_b30_4_v81_10 : Ap (some b30_4) v81_10.ownBlock := Ap.mk (Cel.live cb30_4) (Ow.fr ov81_10)
          have ap_o64_8_v81_10 : Ap o64_8.ownBlock v81_10.ownBlock := Ap.mk (Rw.live hrl) (Ow.fr ov81_10)
          have fr_v81_10 : Fr w.heap.size v81_10.ownBlock := Fr.le (Ow.fr ov81_10) e0.size
          have ap_b25_3_s81_10 : Ap (some b25_3) s81_10.ownBlock := Ap.mk (Cel.live cb25_3) (Ow.fr os81_10)
          have ap_b30_4_s81_10 : Ap (some b30_4) s81_10.ownBlock := Ap.mk (Cel.live cb30_4) (Ow.fr os81_10)
          have ap_o64_8_s81_10 : Ap o64_8.ownBlock s81_10.ownBlock := Ap.mk (Rw.live hrl) (Ow.fr os81_10)
          have fr_s81_10 : Fr w.heap.size s81_10.ownBlock := Fr.le (Ow.fr os81_10) e0.size
          replace ov81_10 := Ow.base ov81_10 e0.size
          replace os81_10 := Ow.base os81_10 e0.size
          have cb25_3 := Cel.tnk cb25_3 x1 (ApL.one ap_b25_3_b30_4)
          have hs7 := Rd.tnk hs7 x1 (ApL.one (Ap.symm ap_b30_4_s7j))
          have hsk5 := Rd.tnk hsk5 x1 (ApL.one (Ap.symm ap_b30_4_s64_8))
          have hrl := Rw.tnk hrl x1 (LoL.one lo_b30_4_o64_8)
          have e0 := Ext.tnk e0 (fun q hq => by simp only [List.mem_singleton] at hq; subst hq; exact fr_b30_4) x1
          clear x1
          replace cb30_4 := cX2
          clear cX2
          refine J.t_op rfl (fun w1 ht => Yd.bstr Try.underlying22 Try.underlying5 Try.underlying9 rfl ((fun w' ht => Rd.tnk (Ow.rd ov81_10) ht (ApL.one (Ap.symm ap_b30_4_v81_10))) w1 ht)) rfl ?_
          refine J.t_nil ?_
          refine J.s_op rfl (fun _ => Yd.sne rfl rfl) rfl ?_
          refine J.s_nil ?_
          refine J.n_np ?_
          refine J.n_then ?_
          refine J.know (t := 88) (v' := .bool false) rfl (ff (by rw [Int.toNat_natCast, chR_get _ _ _ _ (by omega), Nat.zero_add, chM_add]; exact fun e => e rfl)) ?_
          refine J.cond_false rfl ?_
          refine J.skip ?_
          refine J.n_block ?_
          refine J.n_then ?_
          refine J.region ?_
          refine J.op (Yd.move rfl) rfl ?_
          refine J.op (Yd.add rfl rfl (by first | omega | exact idx_u8' _ | (simp only [Int.toNat_natCast]; omega) | (simp only [List.length_map, List.length_drop, List.length_take, List.length_append, List.length_replicate]; omega) | (simp <;> omega))) rfl ?_
          refine J.op (Yd.assign rfl) rfl ?_
          refine J.nil ?_
          refine J.n_then ?_
          exact J.round ((j + 1, s81_10)) ⟨rfl, rfl, rfl, rfl, rfl, rfl, rfl, trivial⟩ (⟨by show j + 1 ≤ q - p; omega, (show Cel _ _ _ (chS _ _) from cb25_3), (show Cel _ _ _ (chS _ (p + (j + 1))) from cb30_4), (show Bs _ _ (chK key (p + (j + 1))) from (Ow.rd os81_10)), hsk5, hrl, fr_s81_10, ap_b25_3_s81_10, ap_b30_4_s81_10, e0⟩) (by show (q - p) - (j + 1) < (q - p) - j; omega)
        · skip
          refine J.exit ?_
          refine J.x_then ?_
          refine J.x_then ?_
          refine J.x_block ?_
          refine J.n_then ?_
          refine J.seq ?_
          refine J.region ?_
          refine J.op (Yd.move rfl) rfl ?_
          refine J.eff (Ye.call cl12 rfl (Index_ok (show Cel _ _ _ (chS _ _) from cb25_3) hsk5 (by first | assumption | exact macL_len _ _ | exact chK_len _ (by first | assumption | omega | exact chK_len _ (by assumption) _) _ | omega | (simp; done)))) rfl ?_
          rintro _ w11 ⟨rfl, x1⟩
          have e0 := e0.trans x1
          have cb25_3 := cb25_3.ext x1
          have cb30_4 := cb30_4.ext x1
          have hs7 := hs7.ext x1
          have hsk5 := hsk5.ext x1
          have hrl := hrl.ext x1
          clear x1
          refine J.op (Yd.move rfl) rfl ?_
          refine J.eff (Ye.call cl12 rfl (Index_ok (show Cel _ _ _ (chS _ _) from cb30_4) hs7 (by first | assumption | exact macL_len _ _ | exact chK_len _ (by first | assumption | omega | exact chK_len _ (by assumption) _) _ | omega | (simp; done)))) rfl ?_
          rintro _ w12 ⟨rfl, x1⟩
          have e0 := e0.trans x1
          have cb25_3 := cb25_3.ext x1
          have cb30_4 := cb30_4.ext x1
          have hs7 := hs7.ext x1
          have hsk5 := hsk5.ext x1
          have hrl := hrl.ext x1
          clear x1
          refine J.op (Yd.neq rfl rfl) rfl ?_
          refine J.nil ?_
          refine J.n_then ?_
          refine J.know (t := 93) (v' := .bool false) rfl (ff (by omega)) ?_
          refine J.cond_false rfl ?_
          refine J.skip ?_
          refine J.n_block ?_
          refine J.n_then ?_
          refine J.region ?_
          refine J.op (Yd.move rfl) rfl ?_
          refine J.op (Yd.add rfl rfl (by first | omega | exact idx_u8' _ | (simp only [Int.toNat_natCast]; omega) | (simp only [List.length_map, List.length_drop, List.length_take, List.length_append, List.length_replicate]; omega) | (simp <;> omega))) rfl ?_
          refine J.op (Yd.assign rfl) rfl ?_
          refine J.nil ?_
          refine J.n_then ?_
          exact J.round ((k + 1, q, s64_8, s7j)) ⟨rfl, rfl, rfl, rfl, trivial⟩ (⟨by show k + 1 ≤ xs.length; omega, by show q ≤ 12 * (k + 1); omega, (show Cel _ _ _ (chS _ _) from cb25_3), (show Cel _ _ _ (chS _ q) from by rw [show q = p + j by omega]; exact cb30_4), (show Bs _ _ (chK key q) from hsk5), (show Bs _ _ (chK key q) from by rw [show q = p + j by omega]; exact hs7), fr_s64_8, ap_b25_3_s64_8, ap_b30_4_s64_8, fr_s7j, ap_b25_3_s7j, ap_b30_4_s7j, e0⟩) (by show xs.length - (k + 1) < xs.length - k; omega)
      · skip
        refine J.exit ?_
        refine J.x_then ?_
        refine J.x_then ?_
        refine J.x_block ?_
        refine J.n_then ?_
        refine J.seq ?_
        refine J.regionT [(some b25_3), (some b30_4)] [(0, true), (3, true), (1, false)] [(2, 1), (4, 0), (5, 1)] [(6, true), (7, true), (8, false), (9, true), (10, true)] mix (by kernel_rfl) ?_
        refine J.s_op rfl (fun _ => Yd.move rfl) rfl ?_
        refine J.s_op rfl (fun _ => Yd.move rfl) rfl ?_
        refine J.s_eff rfl (Ye.call cl13 rfl (Next_ok (show Cel _ _ _ (chS _ _) from cb25_3) hs5 (by first | assumption | exact macL_len _ _ | exact chK_len _ (by first | assumption | omega | exact chK_len _ (by assumption) _) _ | omega | (simp; done)) ap_b25_3_s5 (by first | omega | (simp only [Int.toNat_natCast]; omega)))) rfl ?_
        rintro v95_13 w13 ⟨s95_13, ov95_13, cX2, os95_13, x1⟩
        have ap_b25_3_v95_13 : Ap (some b25_3) v95_13.ownBlock := Ap.mk (Cel.live cb25_3) (Ow.fr ov95_13)
        have ap_b30_4_v95_13 : Ap (some b30_4) v95_13.ownBlock := Ap.mk (Cel.live cb30_4) (Ow.fr ov95_13)
        have fr_v95_13 : Fr w.heap.size v95_13.ownBlock := Fr.le (Ow.fr ov95_13) e0.size
        have ap_b25_3_s95_13 : Ap (some b25_3) s95_13.ownBlock := Ap.mk (Cel.live cb25_3) (Ow.fr os95_13)
        have ap_b30_4_s95_13 : Ap (some b30_4) s95_13.ownBlock := Ap.mk (Cel.live cb30_4) (Ow.fr os95_13)
        have fr_s95_13 : Fr w.heap.size s95_13.ownBlock := Fr.le (Ow.fr os95_13) e0.size
        replace ov95_13 := Ow.base ov95_13 e0.size
        replace os95_13 := Ow.base os95_13 e0.size
        have cb30_4 := Cel.tnk cb30_4 x1 (ApL.one (Ap.symm ap_b25_3_b30_4))
        have hs5 := Rd.tnk hs5 x1 (ApL.one (Ap.symm ap_b25_3_s5))
        have hs7 := Rd.tnk hs7 x1 (ApL.one (Ap.symm ap_b25_3_s7))
        have e0 := Ext.tnk e0 (fun q hq => by simp only [List.mem_singleton] at hq; subst hq; exact fr_b25_3) x1
        clear x1
        replace cb25_3 := cX2
        clear cX2
        refine J.s_nil ?_
        refine J.t_op rfl (fun w1 ht => Yd.bstr Try.underlying22 Try.underlying5 Try.underlying9 rfl ((fun w' ht => Rd.tnk (Ow.rd ov95_13) ht (ApL.two (Ap.symm ap_b25_3_v95_13) (Ap.symm ap_b30_4_v95_13))) w1 ht)) rfl ?_
        refine J.t_eff rfl (Ye.call cl13 rfl (Next_ok (show Cel _ _ _ (chS _ _) from cb30_4) hs7 (by first | assumption | exact macL_len _ _ | exact chK_len _ (by first | assumption | omega | exact chK_len _ (by assumption) _) _ | omega | (simp; done)) ap_b30_4_s7 (by first | omega | (simp only [Int.toNat_natCast]; omega)))) rfl (fun _ _ ⟨_, _, _, _, h⟩ => Tn.mono h (by simp)) ?_
        rintro v98_14 w14 ⟨s98_14, ov98_14, cX2, os98_14, x1⟩
        have ap_b25_3_v98_14 : Ap (some b25_3) v98_14.ownBlock := Ap.mk (Cel.live cb25_3) (Ow.fr ov98_14)
        have ap_b30_4_v98_14 : Ap (some b30_4) v98_14.ownBlock := Ap.mk (Cel.live cb30_4) (Ow.fr ov98_14)
        have ap_v95_13_v98_14 : Ap v95_13.ownBlock v98_14.ownBlock := Ap.mk (Ow.live ov95_13) (Ow.fr ov98_14)
        have ap_s95_13_v98_14 : Ap s95_13.ownBlock v98_14.ownBlock := Ap.mk (Ow.live os95_13) (Ow.fr ov98_14)
        have fr_v98_14 : Fr w.heap.size v98_14.ownBlock := Fr.le (Ow.fr ov98_14) e0.size
        have ap_b25_3_s98_14 : Ap (some b25_3) s98_14.ownBlock := Ap.mk (Cel.live cb25_3) (Ow.fr os98_14)
        have ap_b30_4_s98_14 : Ap (some b30_4) s98_14.ownBlock := Ap.mk (Cel.live cb30_4) (Ow.fr os98_14)
        have ap_v95_13_s98_14 : Ap v95_13.ownBlock s98_14.ownBlock := Ap.mk (Ow.live ov95_13) (Ow.fr os98_14)
        have ap_s95_13_s98_14 : Ap s95_13.ownBlock s98_14.ownBlock := Ap.mk (Ow.live os95_13) (Ow.fr os98_14)
        have fr_s98_14 : Fr w.heap.size s98_14.ownBlock := Fr.le (Ow.fr os98_14) e0.size
        replace ov98_14 := Ow.base ov98_14 e0.size
        replace os98_14 := Ow.base os98_14 e0.size
        have cb25_3 := Cel.tnk cb25_3 x1 (ApL.one ap_b25_3_b30_4)
        have hs5 := Rd.tnk hs5 x1 (ApL.one (Ap.symm ap_b30_4_s5))
        have hs7 := Rd.tnk hs7 x1 (ApL.one (Ap.symm ap_b30_4_s7))
        have ov95_13 := Ow.tnk ov95_13 x1 (ApL.one (Ap.symm ap_b30_4_v95_13))
        have os95_13 := Ow.tnk os95_13 x1 (ApL.one (Ap.symm ap_b30_4_s95_13))
        have e0 := Ext.tnk e0 (fun q hq => by simp only [List.mem_singleton] at hq; subst hq; exact fr_b30_4) x1
        clear x1
        replace cb30_4 := cX2
        clear cX2
        refine J.t_op rfl (fun w1 ht => Yd.bstr Try.underlying22 Try.underlying5 Try.underlying9 rfl ((fun w' ht => Rd.tnk (Ow.rd ov98_14) ht (ApL.two (Ap.symm ap_b25_3_v98_14) (Ap.symm ap_b30_4_v98_14))) w1 ht)) rfl ?_
        refine J.t_nil ?_
        refine J.s_op rfl (fun _ => Yd.seq rfl rfl) rfl ?_
        refine J.s_op rfl (fun _ => Yd.move rfl) rfl ?_
        refine J.know (t := 101) (v' := .bool true) rfl (tt (by rfl)) ?_
        refine J.s_eff_g rfl rfl rfl rfl (Ye.call cl8 rfl (awake_ok)) rfl ?_
        rintro _ w15 ⟨rfl, x1⟩
        have e0 := e0.trans x1
        have cb25_3 := cb25_3.ext x1
        have cb30_4 := cb30_4.ext x1
        have hs5 := hs5.ext x1
        have hs7 := hs7.ext x1
        have ov95_13 := ov95_13.ext x1
        have os95_13 := os95_13.ext x1
        have ov98_14 := ov98_14.ext x1
        have os98_14 := os98_14.ext x1
        clear x1
        refine J.s_op rfl (fun _ => Yd.pick_t rfl rfl) rfl ?_
        refine J.s_op rfl (fun _ => Yd.assign rfl) rfl ?_
        refine J.s_nil ?_
        refine J.n_np ?_
        refine J.n_then ?_
        refine J.ret ?_
        exact J.ret1 rfl rfl (⟨_, rfl, rfl, e0⟩)
end Ytikggonjagoiaaa
end Go.Proofs
