import Derived.Test.YtonoafnjkpahjaaT
import Derived.Test.YtonoafnjkpahjaaE2
set_option linter.unusedVariables false
set_option linter.unusedSimpArgs false
set_option maxRecDepth 100000
set_option maxHeartbeats 4000000
namespace Go.Proofs
open Go.X Go.RowKit
namespace Ytonoafnjkpahjaa
theorem Same_ok {sl sm : Value} {vs us : List Value} {ll mm : List (List UInt8)} {w : World} (hl : Rl w sl vs ll) (hm : Rl w sm us mm) : C Try.prog 22 [sl, sm] w (Ret fun v w' => v = .bool (decide (ll = mm)) ∧ Ext w w') := by
  have hlm := Rd.max hl.rd
  rw [hl.len] at hlm
  have e0 := Ext.refl w
  refine C.enter Try.func22 rfl Try.ntmps22 rfl ?_
  refine J.seq ?_
  refine J.region ?_
  refine J.op (Yd.assign rfl) rfl ?_
  refine J.nil ?_
  refine J.n_then ?_
  refine J.seq ?_
  refine J.seq ?_
  refine J.region ?_
  refine J.op (Yd.move rfl) rfl ?_
  refine J.op (Yd.len_l Try.underlying33 rfl hl) rfl ?_
  refine J.op (Yd.move rfl) rfl ?_
  refine J.op (Yd.len_l Try.underlying33 rfl hm) rfl ?_
  refine J.op (Yd.neq rfl rfl) rfl ?_
  refine J.nil ?_
  refine J.n_then ?_
  refine J.cond_dec rfl (fun hc0 => ?_) (fun hc0 => ?_)
  · skip
    refine J.seq ?_
    refine J.region ?_
    refine J.op (Yd.assign rfl) rfl ?_
    refine J.nil ?_
    refine J.n_then ?_
    refine J.ret ?_
    refine J.r_then ?_
    exact J.ret1 rfl rfl (⟨_, rfl, congrArg Value.bool (by first | exact same_len hc0 | exact same_no hlen (k := k) (by rw [Int.toNat_natCast] at hc2; exact hc2)), e0⟩)
  · skip
    have hlen : ll.length = mm.length := by omega
    refine J.skip ?_
    refine J.n_then ?_
    refine J.seq ?_
    refine J.seq ?_
    refine J.region ?_
    refine J.op (Yd.assign rfl) rfl ?_
    refine J.nil ?_
    refine J.n_then ?_
    refine J.block ?_
    refine J.loop (ι := Nat) (fun i => [(0, sl), (1, sm), (5, I i)]) (fun i w' => i ≤ ll.length ∧ (∀ j, j < i → ll.getD j [] = mm.getD j []) ∧ Ext w w') (fun i => ll.length - i) (0) ⟨rfl, rfl, rfl, trivial⟩ (⟨Nat.zero_le _, fun j hj => absurd hj (Nat.not_lt_zero _), e0⟩) ?_
    rintro k w1 ⟨hk, hall, e0⟩
    refine J.seq ?_
    refine J.seq ?_
    refine J.region ?_
    refine J.op (Yd.move rfl) rfl ?_
    refine J.op (Yd.move rfl) rfl ?_
    refine J.op (Yd.len_l Try.underlying33 rfl (Rl.ext hl e0)) rfl ?_
    refine J.op (Yd.lss rfl rfl) rfl ?_
    refine J.nil ?_
    refine J.n_then ?_
    refine J.cond_dec rfl (fun hc1 => ?_) (fun hc1 => ?_)
    · skip
      refine J.skip ?_
      refine J.n_then ?_
      refine J.seq ?_
      refine J.block ?_
      refine J.seq ?_
      refine J.regionO [(0, true), (1, true), (5, true), (6, true)] [(2, 1), (3, 1), (4, 1), (7, 1), (8, 1), (9, 1)] [(10, true)] mix (by kernel_rfl) ?_
      refine J.s_op rfl (fun _ => Yd.move rfl) rfl ?_
      refine J.s_op rfl (fun _ => Yd.move rfl) rfl ?_
      refine J.s_op rfl (fun _ => Yd.move rfl) rfl ?_
      refine J.s_op rfl (fun _ => Yd.move rfl) rfl ?_
      refine J.s_nil ?_
      refine J.o_op rfl (Yd.idx_l Try.underlying33 ti22 rfl rfl (Rl.ext hl e0) (by first | omega | exact idx_u8' _ | (simp only [Int.toNat_natCast]; omega) | (simp only [List.length_map, List.length_drop, List.length_take, List.length_append, List.length_replicate]; omega) | (simp <;> omega))) rfl ?_
      refine J.o_op rfl (Yd.load pl22 rfl (Rl.cell (Rl.ext hl e0) (by first | omega | exact idx_u8' _ | (simp only [Int.toNat_natCast]; omega) | (simp only [List.length_map, List.length_drop, List.length_take, List.length_append, List.length_replicate]; omega) | (simp <;> omega)))) rfl ?_
      refine J.o_op rfl (Yd.bstr Try.underlying22 Try.underlying5 Try.underlying9 rfl (Rl.at' (Rl.ext hl e0) (by first | omega | exact idx_u8' _ | (simp only [Int.toNat_natCast]; omega) | (simp only [List.length_map, List.length_drop, List.length_take, List.length_append, List.length_replicate]; omega) | (simp <;> omega)))) rfl ?_
      refine J.o_op rfl (Yd.idx_l Try.underlying33 ti22 rfl rfl (Rl.ext hm e0) (by first | omega | exact idx_u8' _ | (simp only [Int.toNat_natCast]; omega) | (simp only [List.length_map, List.length_drop, List.length_take, List.length_append, List.length_replicate]; omega) | (simp <;> omega))) rfl ?_
      refine J.o_op rfl (Yd.load pl22 rfl (Rl.cell (Rl.ext hm e0) (by first | omega | exact idx_u8' _ | (simp only [Int.toNat_natCast]; omega) | (simp only [List.length_map, List.length_drop, List.length_take, List.length_append, List.length_replicate]; omega) | (simp <;> omega)))) rfl ?_
      refine J.o_op rfl (Yd.bstr Try.underlying22 Try.underlying5 Try.underlying9 rfl (Rl.at' (Rl.ext hm e0) (by first | omega | exact idx_u8' _ | (simp only [Int.toNat_natCast]; omega) | (simp only [List.length_map, List.length_drop, List.length_take, List.length_append, List.length_replicate]; omega) | (simp <;> omega)))) rfl ?_
      refine J.o_nil ?_
      refine J.s_op rfl (fun _ => Yd.sne rfl rfl) rfl ?_
      refine J.s_nil ?_
      refine J.n_np ?_
      refine J.n_then ?_
      refine J.cond_dec rfl (fun hc2 => ?_) (fun hc2 => ?_)
      · skip
        refine J.seq ?_
        refine J.region ?_
        refine J.op (Yd.assign rfl) rfl ?_
        refine J.nil ?_
        refine J.n_then ?_
        refine J.ret ?_
        refine J.r_block ?_
        refine J.r_then ?_
        refine J.r_then ?_
        refine J.r_block ?_
        refine J.r_then ?_
        exact J.ret1 rfl rfl (⟨_, rfl, congrArg Value.bool (by first | exact same_len hc0 | exact same_no hlen (k := k) (by rw [Int.toNat_natCast] at hc2; exact hc2)), e0⟩)
      · skip
        refine J.skip ?_
        refine J.n_block ?_
        refine J.n_then ?_
        refine J.region ?_
        refine J.op (Yd.move rfl) rfl ?_
        refine J.op (Yd.add rfl rfl (by first | omega | exact idx_u8' _ | (simp only [Int.toNat_natCast]; omega) | (simp only [List.length_map, List.length_drop, List.length_take, List.length_append, List.length_replicate]; omega) | (simp <;> omega))) rfl ?_
        refine J.op (Yd.assign rfl) rfl ?_
        refine J.nil ?_
        refine J.n_then ?_
        exact J.round (k + 1) ⟨rfl, rfl, rfl, trivial⟩ (⟨by omega, fun j hj => by rcases (show j < k ∨ j = k by omega) with h | rfl; exact hall j h; rw [Int.toNat_natCast] at hc2; exact Classical.not_not.1 hc2, e0⟩) (by omega)
    · skip
      refine J.exit ?_
      refine J.x_then ?_
      refine J.x_then ?_
      refine J.x_block ?_
      refine J.n_then ?_
      refine J.seq ?_
      refine J.region ?_
      refine J.op (Yd.assign rfl) rfl ?_
      refine J.nil ?_
      refine J.n_then ?_
      refine J.ret ?_
      exact J.ret1 rfl rfl (⟨_, rfl, congrArg Value.bool (same_all hlen (fun j hj => hall j (by omega))), e0⟩)

theorem FlatEach_ok {sl : Value} {vs : List Value} {ll : List (List UInt8)} {m : UInt8} {n : Int} {w : World} (hl : Rl w sl vs ll) : C Try.prog 4 [sl, B m, I n] w (Ret fun v w' => v = .bool true ∧ Ext w w') := by
  have hlm := Rd.max hl.rd
  rw [hl.len] at hlm
  have e0 := Ext.refl w
  refine C.enter Try.func4 rfl Try.ntmps4 rfl ?_
  refine J.seq ?_
  refine J.region ?_
  refine J.op (Yd.assign rfl) rfl ?_
  refine J.nil ?_
  refine J.n_then ?_
  refine J.seq ?_
  refine J.seq ?_
  refine J.region ?_
  refine J.op (Yd.move rfl) rfl ?_
  refine J.eff (Ye.call cl16 rfl (All_ok hl (by omega))) rfl ?_
  rintro _ w1 ⟨r, rfl, hr, htot, x1⟩
  have e0 := e0.trans x1
  clear x1
  refine J.op (Yd.gtr rfl rfl) rfl ?_
  refine J.nil ?_
  refine J.n_then ?_
  refine J.cond_dec rfl (fun hc0 => ?_) (fun hc0 => ?_)
  · skip
    refine J.seq ?_
    refine J.region ?_
    refine J.eff (Ye.call cl9 rfl (awake_ok)) rfl ?_
    rintro _ w2 ⟨rfl, x1⟩
    have e0 := e0.trans x1
    clear x1
    refine J.op (Yd.assign rfl) rfl ?_
    refine J.nil ?_
    refine J.n_then ?_
    refine J.ret ?_
    refine J.r_then ?_
    exact J.ret1 rfl rfl (⟨_, rfl, rfl, e0⟩)
  · skip
    have htot' := htot (by omega)
    clear htot
    refine J.skip ?_
    refine J.n_then ?_
    refine J.seq ?_
    refine J.region ?_
    refine J.op (Yd.move rfl) rfl ?_
    refine J.eff (Ye.call cl17 rfl (ACat_ok (Rl.ext hl e0) (by first | omega | (simp [beN_len, leN_len, flipL_len, xorL_len] <;> omega)))) rfl ?_
    rintro s20_3 w3 ⟨os20_3, x1⟩
    have fr_s20_3 : Fr w.heap.size s20_3.ownBlock := Fr.le (Ow.fr os20_3) e0.size
    replace os20_3 := Ow.base os20_3 e0.size
    have e0 := e0.trans x1
    clear x1
    refine J.op (Yd.assign rfl) rfl ?_
    refine J.nil ?_
    refine J.n_then ?_
    refine J.seq ?_
    refine J.region ?_
    refine J.op (Yd.move rfl) rfl ?_
    refine J.op (Yd.buildS (cells := #[B m]) (pl := [(0, 1)]) Try.underlying37 (by kernel_rfl) ti37 rfl (by kernel_rfl)) rfl ?_
    refine J.eff (Ye.alloc ti37 (S := [(0, 1, [.int .u8 0])]) (by simp [SegAll, SegOK, Value.cells])) rfl ?_
    rintro _ w4 ⟨b8_3, rfl, hb_, c8_3, x1⟩
    have ap_s20_3_b8_3 : Ap s20_3.ownBlock (some b8_3) := Ap.mk (Ow.live os20_3) (Fr.blk hb_)
    have fr_b8_3 : Fr w.heap.size (some b8_3) := Fr.le (Fr.blk hb_) e0.size
    have e0 := e0.trans x1
    have os20_3 := os20_3.ext x1
    clear x1 hb_
    refine J.eff0 (Ye.storeA (ys := [B m]) ti37 c8_3 0 rfl rfl rfl rfl (by rfl) (by intro v hv; rw [List.mem_singleton] at hv; subst hv; rfl)) ?_
    rintro _ w5 ⟨cX, hu⟩
    simp only [List.set_cons_zero, List.set_cons_succ] at cX
    have hg := hu.gb
    have os20_3 := Ow.gbk os20_3 hg ap_s20_3_b8_3
    have e0 := Ext.gbk e0 fr_b8_3 hg
    clear hg
    replace c8_3 := cX
    clear cX hu
    refine J.nil ?_
    refine J.n_then ?_
    refine J.seq ?_
    refine J.region ?_
    refine J.op (Yd.loadA ag37 ti37 rfl c8_3 0 rfl) rfl ?_
    refine J.op (Yd.mkFunc rfl) rfl ?_
    refine J.op (Yd.assign rfl) rfl ?_
    refine J.nil ?_
    refine J.n_then ?_
    refine J.seq ?_
    refine J.seq ?_
    refine J.region ?_
    refine J.op (Yd.move rfl) rfl ?_
    refine J.eff (Ye.call cl19 rfl (Round_ok (by omega) (by omega))) rfl ?_
    rintro _ w6 ⟨rfl, x1⟩
    have e0 := e0.trans x1
    have os20_3 := os20_3.ext x1
    have c8_3 := c8_3.ext x1
    clear x1
    refine J.op (Yd.eql rfl rfl) rfl ?_
    refine J.nil ?_
    refine J.n_then ?_
    refine J.cond_dec rfl (fun hc1 => ?_) (fun hc1 => ?_)
    · skip
      refine J.seq ?_
      refine J.region ?_
      refine J.eff (Ye.alloc ti40 (S := [(0, 1, [.nilFunc])]) (by simp [SegAll, SegOK, Value.cells])) rfl ?_
      rintro _ w7 ⟨b10_6, rfl, hb_, c10_6, x1⟩
      have ap_s20_3_b10_6 : Ap s20_3.ownBlock (some b10_6) := Ap.mk (Ow.live os20_3) (Fr.blk hb_)
      have ap_b8_3_b10_6 : Ap (some b8_3) (some b10_6) := Ap.mk (Cel.live c8_3) (Fr.blk hb_)
      have fr_b10_6 : Fr w.heap.size (some b10_6) := Fr.le (Fr.blk hb_) e0.size
      have e0 := e0.trans x1
      have os20_3 := os20_3.ext x1
      have c8_3 := c8_3.ext x1
      clear x1 hb_
      refine J.eff0 (Ye.store1 ti40 c10_6 0 rfl rfl rfl rfl rfl rfl) ?_
      rintro _ w8 ⟨cX, hu⟩
      simp only [List.set_cons_zero, List.set_cons_succ] at cX
      have hg := hu.gb
      have os20_3 := Ow.gbk os20_3 hg ap_s20_3_b10_6
      have c8_3 := Cel.gbk c8_3 hg ap_b8_3_b10_6
      have e0 := Ext.gbk e0 fr_b10_6 hg
      clear hg
      replace c10_6 := cX
      clear cX hu
      refine J.nil ?_
      refine J.n_then ?_
      refine J.region ?_
      refine J.op (Yd.mkFuncC rfl rfl) rfl ?_
      refine J.op (Yd.assign rfl) rfl ?_
      refine J.nil ?_
      refine J.n_then ?_
      refine J.seq ?_
      refine J.region ?_
      refine J.op (Yd.move rfl) rfl ?_
      refine J.op (Yd.move rfl) rfl ?_
      refine J.eff (Ye.call cl21 rfl (EachC_ok (m := m) c10_6 c8_3 (Rl.ext hl e0) (by omega))) rfl ?_
      rintro v31_9 w9 ⟨vs31_9, ov31_9, x1⟩
      have lo_s20_3_v31_9 : Lo w8.heap.size s20_3.ownBlock := (Ow.live os20_3)
      have lo_b8_3_v31_9 : Lo w8.heap.size (some b8_3) := (Cel.live c8_3)
      have lo_b10_6_v31_9 : Lo w8.heap.size (some b10_6) := (Cel.live c10_6)
      have ap_s20_3_v31_9 : Ap s20_3.ownBlock v31_9.ownBlock := Ap.mk (Ow.live os20_3) (Ow.fr (Rw.row ov31_9))
      have ap_b8_3_v31_9 : Ap (some b8_3) v31_9.ownBlock := Ap.mk (Cel.live c8_3) (Ow.fr (Rw.row ov31_9))
      have ap_b10_6_v31_9 : Ap (some b10_6) v31_9.ownBlock := Ap.mk (Cel.live c10_6) (Ow.fr (Rw.row ov31_9))
      have fr_v31_9 : Fr w.heap.size v31_9.ownBlock := Fr.le (Ow.fr (Rw.row ov31_9)) e0.size
      have e0 := e0.trans x1
      have os20_3 := os20_3.ext x1
      have c8_3 := c8_3.ext x1
      have c10_6 := c10_6.ext x1
      clear x1
      refine J.op (Yd.assign rfl) rfl ?_
      refine J.nil ?_
      refine J.n_then ?_
      refine J.seq ?_
      refine J.region ?_
      refine J.op (Yd.move rfl) rfl ?_
      refine J.eff (Ye.call cl21 rfl (EachNil_ok (Rl.ext hl e0) (by omega))) rfl ?_
      rintro v33_10 w10 ⟨vs33_10, ov33_10, x1⟩
      have lo_s20_3_v33_10 : Lo w9.heap.size s20_3.ownBlock := (Ow.live os20_3)
      have lo_b8_3_v33_10 : Lo w9.heap.size (some b8_3) := (Cel.live c8_3)
      have lo_b10_6_v33_10 : Lo w9.heap.size (some b10_6) := (Cel.live c10_6)
      have lo_v31_9_v33_10 : Lo w9.heap.size v31_9.ownBlock := (Rw.live ov31_9)
      have ap_s20_3_v33_10 : Ap s20_3.ownBlock v33_10.ownBlock := Ap.mk (Ow.live os20_3) (Ow.fr (Rw.row ov33_10))
      have ap_b8_3_v33_10 : Ap (some b8_3) v33_10.ownBlock := Ap.mk (Cel.live c8_3) (Ow.fr (Rw.row ov33_10))
      have ap_b10_6_v33_10 : Ap (some b10_6) v33_10.ownBlock := Ap.mk (Cel.live c10_6) (Ow.fr (Rw.row ov33_10))
      have ap_v31_9_v33_10 : Ap v31_9.ownBlock v33_10.ownBlock := Ap.mk (Rw.live ov31_9) (Ow.fr (Rw.row ov33_10))
      have fr_v33_10 : Fr w.heap.size v33_10.ownBlock := Fr.le (Ow.fr (Rw.row ov33_10)) e0.size
      have e0 := e0.trans x1
      have os20_3 := os20_3.ext x1
      have c8_3 := c8_3.ext x1
      have c10_6 := c10_6.ext x1
      have ov31_9 := ov31_9.ext x1
      clear x1
      refine J.op (Yd.assign rfl) rfl ?_
      refine J.nil ?_
      refine J.n_then ?_
      refine J.seq ?_
      refine J.seq ?_
      refine J.regionO [(0, true), (2, true)] [(1, 1), (3, 1), (4, 1), (5, 1), (6, 1), (7, 1), (8, 0), (9, 1), (10, 1), (11, 1), (12, 1), (15, 1), (16, 1), (13, 0), (14, 1)] [(17, true), (18, true)] mix (by kernel_rfl) ?_
      refine J.s_op rfl (fun _ => Yd.move rfl) rfl ?_
      refine J.s_op rfl (fun _ => Yd.move rfl) rfl ?_
      refine J.s_nil ?_
      refine J.o_op rfl (Yd.len_l Try.underlying33 rfl (Rw.rl ov31_9)) rfl ?_
      refine J.o_op rfl (Yd.len_l Try.underlying33 rfl (Rl.ext hl e0)) rfl ?_
      refine J.o_op rfl (Yd.neq rfl rfl) rfl ?_
      refine J.o_op rfl (Yd.move rfl) rfl ?_
      refine J.know (t := 39) (v' := .bool false) rfl (ff (by rw [List.length_map]; exact fun h => h rfl)) ?_
      refine J.o_op_g rfl rfl rfl rfl (Yd.move rfl) rfl ?_
      refine J.o_op_g rfl rfl rfl rfl (Yd.move rfl) rfl ?_
      refine J.o_eff_g rfl rfl rfl rfl (Ye.call cl22 rfl (Same_ok (Rw.rl ov33_10) (Rl.ext hl e0))) rfl (fun _ _ h => h.2) ?_
      rintro _ w11 ⟨rfl, x1⟩
      have e0 := e0.trans x1
      have os20_3 := os20_3.ext x1
      have c8_3 := c8_3.ext x1
      have c10_6 := c10_6.ext x1
      have ov31_9 := ov31_9.ext x1
      have ov33_10 := ov33_10.ext x1
      clear x1
      refine J.o_op_g rfl rfl rfl rfl (Yd.not_dec rfl) rfl ?_
      refine J.o_op rfl (Yd.pick_f rfl rfl) rfl ?_
      refine J.o_op rfl (Yd.move rfl) rfl ?_
      refine J.know (t := 45) (v' := .bool false) rfl (ff (by simp)) ?_
      refine J.o_op_g rfl rfl rfl rfl (Yd.move rfl) rfl ?_
      refine J.o_op_g rfl rfl rfl rfl (Yd.move rfl) rfl ?_
      refine J.o_op_g rfl rfl rfl rfl (Yd.bstr Try.underlying22 Try.underlying5 Try.underlying9 rfl (Ow.rd os20_3)) rfl ?_
      refine J.o_eff_g rfl rfl rfl rfl (Ye.call cl17 rfl (ACat_ok (Rl.ext hl e0) (by first | omega | (simp [beN_len, leN_len, flipL_len, xorL_len] <;> omega)))) rfl (fun _ _ h => h.2) ?_
      rintro s47_12 w12 ⟨os47_12, x1⟩
      have ap_s20_3_s47_12 : Ap s20_3.ownBlock s47_12.ownBlock := Ap.mk (Ow.live os20_3) (Ow.fr os47_12)
      have ap_b8_3_s47_12 : Ap (some b8_3) s47_12.ownBlock := Ap.mk (Cel.live c8_3) (Ow.fr os47_12)
      have ap_b10_6_s47_12 : Ap (some b10_6) s47_12.ownBlock := Ap.mk (Cel.live c10_6) (Ow.fr os47_12)
      have ap_v31_9_s47_12 : Ap v31_9.ownBlock s47_12.ownBlock := Ap.mk (Rw.live ov31_9) (Ow.fr os47_12)
      have ap_v33_10_s47_12 : Ap v33_10.ownBlock s47_12.ownBlock := Ap.mk (Rw.live ov33_10) (Ow.fr os47_12)
      have fr_s47_12 : Fr w.heap.size s47_12.ownBlock := Fr.le (Ow.fr os47_12) e0.size
      replace os47_12 := Ow.base os47_12 e0.size
      have e0 := e0.trans x1
      have os20_3 := os20_3.ext x1
      have c8_3 := c8_3.ext x1
      have c10_6 := c10_6.ext x1
      have ov31_9 := ov31_9.ext x1
      have ov33_10 := ov33_10.ext x1
      clear x1
      refine J.o_op_g rfl rfl rfl rfl (Yd.bstr Try.underlying22 Try.underlying5 Try.underlying9 rfl (Ow.rd os47_12)) rfl ?_
      refine J.o_nil ?_
      refine J.s_op_g rfl rfl rfl rfl (fun _ => Yd.sne rfl rfl) rfl ?_
      refine J.s_op rfl (fun _ => Yd.pick_f rfl rfl) rfl ?_
      refine J.s_nil ?_
      refine J.n_np ?_
      refine J.n_then ?_
      refine J.know (t := 52) (v' := .bool false) rfl (ff (by simp)) ?_
      refine J.cond_false rfl ?_
      refine J.skip ?_
      refine J.n_then ?_
      refine J.seq ?_
      refine J.seq ?_
      refine J.region ?_
      refine J.op (Yd.assign rfl) rfl ?_
      refine J.nil ?_
      refine J.n_then ?_
      refine J.block ?_
      refine J.loop (ι := Nat) (fun i => [(0, sl), (1, B m), (13, I i), (11, v31_9)]) (fun i w' => i ≤ ll.length ∧ Rw w8.heap.size 22 5 w' v31_9 vs31_9 (ll.map (turnL m)) ∧ Ext w w') (fun i => ll.length - i) (0) ⟨rfl, rfl, rfl, rfl, trivial⟩ (⟨Nat.zero_le _, ov31_9, e0⟩) ?_
      rintro k w13 ⟨hk, hrl, e0⟩
      refine J.seq ?_
      refine J.seq ?_
      refine J.region ?_
      refine J.op (Yd.move rfl) rfl ?_
      refine J.op (Yd.move rfl) rfl ?_
      refine J.op (Yd.len_l Try.underlying33 rfl (Rl.ext hl e0)) rfl ?_
      refine J.op (Yd.lss rfl rfl) rfl ?_
      refine J.nil ?_
      refine J.n_then ?_
      refine J.cond_dec rfl (fun hc3 => ?_) (fun hc3 => ?_)
      · skip
        have hgl : ((ll.map (turnL m)).getD (k : Int).toNat []).length = (ll.getD (k : Int).toNat []).length := by rw [Int.toNat_natCast, mapG_get _ (by omega), turnL_len]
        have hgf := flat_get (ll := ll) (k := (k : Int).toNat) (by omega)
        refine J.skip ?_
        refine J.n_then ?_
        refine J.seq ?_
        refine J.block ?_
        refine J.seq ?_
        refine J.seq ?_
        refine J.regionO [(0, true), (1, true), (5, true), (6, true)] [(2, 1), (3, 1), (4, 1), (7, 1), (8, 1), (9, 1)] [(10, true)] mix (by kernel_rfl) ?_
        refine J.s_op rfl (fun _ => Yd.move rfl) rfl ?_
        refine J.s_op rfl (fun _ => Yd.move rfl) rfl ?_
        refine J.s_op rfl (fun _ => Yd.move rfl) rfl ?_
        refine J.s_op rfl (fun _ => Yd.move rfl) rfl ?_
        refine J.s_nil ?_
        refine J.o_op rfl (Yd.idx_l Try.underlying33 ti22 rfl rfl (Rw.rl hrl) (by first | omega | exact idx_u8' _ | (simp only [Int.toNat_natCast]; omega) | (simp only [List.length_map, List.length_drop, List.length_take, List.length_append, List.length_replicate]; omega) | (simp <;> omega))) rfl ?_
        refine J.o_op rfl (Yd.load pl22 rfl (Rl.cell (Rw.rl hrl) (by first | omega | exact idx_u8' _ | (simp only [Int.toNat_natCast]; omega) | (simp only [List.length_map, List.length_drop, List.length_take, List.length_append, List.length_replicate]; omega) | (simp <;> omega)))) rfl ?_
        refine J.o_op rfl (Yd.len_b Try.underlying22 rfl (Rl.at' (Rw.rl hrl) (by first | omega | exact idx_u8' _ | (simp only [Int.toNat_natCast]; omega) | (simp only [List.length_map, List.length_drop, List.length_take, List.length_append, List.length_replicate]; omega) | (simp <;> omega)))) rfl ?_
        refine J.o_op rfl (Yd.idx_l Try.underlying33 ti22 rfl rfl (Rl.ext hl e0) (by first | omega | exact idx_u8' _ | (simp only [Int.toNat_natCast]; omega) | (simp only [List.length_map, List.length_drop, List.length_take, List.length_append, List.length_replicate]; omega) | (simp <;> omega))) rfl ?_
        refine J.o_op rfl (Yd.load pl22 rfl (Rl.cell (Rl.ext hl e0) (by first | omega | exact idx_u8' _ | (simp only [Int.toNat_natCast]; omega) | (simp only [List.length_map, List.length_drop, List.length_take, List.length_append, List.length_replicate]; omega) | (simp <;> omega)))) rfl ?_
        refine J.o_op rfl (Yd.len_b Try.underlying22 rfl (Rl.at' (Rl.ext hl e0) (by first | omega | exact idx_u8' _ | (simp only [Int.toNat_natCast]; omega) | (simp only [List.length_map, List.length_drop, List.length_take, List.length_append, List.length_replicate]; omega) | (simp <;> omega)))) rfl ?_
        refine J.o_nil ?_
        refine J.s_op rfl (fun _ => Yd.neq rfl rfl) rfl ?_
        refine J.s_nil ?_
        refine J.n_np ?_
        refine J.n_then ?_
        refine J.know (t := 69) (v' := .bool false) rfl (ff (by rw [hgl]; exact fun h => h rfl)) ?_
        refine J.cond_false rfl ?_
        refine J.skip ?_
        refine J.n_then ?_
        refine J.seq ?_
        refine J.region ?_
        refine J.op (Yd.assign rfl) rfl ?_
        refine J.nil ?_
        refine J.n_then ?_
        refine J.block ?_
        refine J.loop (ι := Nat) (fun i => [(0, sl), (1, B m), (13, I (k : Int)), (14, I i), (11, v31_9)]) (fun i w' => i ≤ (ll.getD (k : Int).toNat []).length ∧ Rw w8.heap.size 22 5 w' v31_9 vs31_9 (ll.map (turnL m)) ∧ Ext w w') (fun i => (ll.getD (k : Int).toNat []).length - i) (0) ⟨rfl, rfl, rfl, rfl, rfl, trivial⟩ (⟨Nat.zero_le _, hrl, e0⟩) ?_
        rintro j w14 ⟨hj, hrl, e0⟩
        refine J.seq ?_
        refine J.seq ?_
        refine J.region ?_
        refine J.op (Yd.move rfl) rfl ?_
        refine J.op (Yd.move rfl) rfl ?_
        refine J.op (Yd.move rfl) rfl ?_
        refine J.op (Yd.idx_l Try.underlying33 ti22 rfl rfl (Rl.ext hl e0) (by first | omega | exact idx_u8' _ | (simp only [Int.toNat_natCast]; omega) | (simp only [List.length_map, List.length_drop, List.length_take, List.length_append, List.length_replicate]; omega) | (simp <;> omega))) rfl ?_
        refine J.op (Yd.load pl22 rfl (Rl.cell (Rl.ext hl e0) (by first | omega | exact idx_u8' _ | (simp only [Int.toNat_natCast]; omega) | (simp only [List.length_map, List.length_drop, List.length_take, List.length_append, List.length_replicate]; omega) | (simp <;> omega)))) rfl ?_
        refine J.op (Yd.len_b Try.underlying22 rfl (Rl.at' (Rl.ext hl e0) (by first | omega | exact idx_u8' _ | (simp only [Int.toNat_natCast]; omega) | (simp only [List.length_map, List.length_drop, List.length_take, List.length_append, List.length_replicate]; omega) | (simp <;> omega)))) rfl ?_
        refine J.op (Yd.lss rfl rfl) rfl ?_
        refine J.nil ?_
        refine J.n_then ?_
        refine J.cond_dec rfl (fun hc5 => ?_) (fun hc5 => ?_)
        · skip
          refine J.skip ?_
          refine J.n_then ?_
          refine J.seq ?_
          refine J.block ?_
          refine J.seq ?_
          refine J.regionO [(0, true), (1, true), (4, true), (7, true), (8, true), (11, true), (14, true)] [(2, 1), (3, 1), (5, 1), (6, 1), (9, 1), (10, 1), (12, 1), (13, 1), (15, 1)] [(16, true)] mix (by kernel_rfl) ?_
          refine J.s_op rfl (fun _ => Yd.move rfl) rfl ?_
          refine J.s_op rfl (fun _ => Yd.move rfl) rfl ?_
          refine J.s_op rfl (fun _ => Yd.move rfl) rfl ?_
          refine J.s_op rfl (fun _ => Yd.move rfl) rfl ?_
          refine J.s_op rfl (fun _ => Yd.move rfl) rfl ?_
          refine J.s_op rfl (fun _ => Yd.move rfl) rfl ?_
          refine J.s_op rfl (fun _ => Yd.move rfl) rfl ?_
          refine J.s_nil ?_
          refine J.o_op rfl (Yd.idx_l Try.underlying33 ti22 rfl rfl (Rw.rl hrl) (by first | omega | exact idx_u8' _ | (simp only [Int.toNat_natCast]; omega) | (simp only [List.length_map, List.length_drop, List.length_take, List.length_append, List.length_replicate]; omega) | (simp <;> omega))) rfl ?_
          refine J.o_op rfl (Yd.load pl22 rfl (Rl.cell (Rw.rl hrl) (by first | omega | exact idx_u8' _ | (simp only [Int.toNat_natCast]; omega) | (simp only [List.length_map, List.length_drop, List.length_take, List.length_append, List.length_replicate]; omega) | (simp <;> omega)))) rfl ?_
          refine J.o_op rfl (Yd.idx_b Try.underlying22 ti5 rfl rfl (Rl.at' (Rw.rl hrl) (by first | omega | exact idx_u8' _ | (simp only [Int.toNat_natCast]; omega) | (simp only [List.length_map, List.length_drop, List.length_take, List.length_append, List.length_replicate]; omega) | (simp <;> omega))) (by first | omega | exact idx_u8' _ | (simp only [Int.toNat_natCast]; omega) | (simp only [List.length_map, List.length_drop, List.length_take, List.length_append, List.length_replicate]; omega) | (simp <;> omega))) rfl ?_
          refine J.o_op rfl (Yd.load pl5 rfl (Bs.cell (Rl.at' (Rw.rl hrl) (by first | omega | exact idx_u8' _ | (simp only [Int.toNat_natCast]; omega) | (simp only [List.length_map, List.length_drop, List.length_take, List.length_append, List.length_replicate]; omega) | (simp <;> omega))) (by first | omega | exact idx_u8' _ | (simp only [Int.toNat_natCast]; omega) | (simp only [List.length_map, List.length_drop, List.length_take, List.length_append, List.length_replicate]; omega) | (simp <;> omega)))) rfl ?_
          refine J.o_op rfl (Yd.idx_l Try.underlying33 ti22 rfl rfl (Rl.ext hl e0) (by first | omega | exact idx_u8' _ | (simp only [Int.toNat_natCast]; omega) | (simp only [List.length_map, List.length_drop, List.length_take, List.length_append, List.length_replicate]; omega) | (simp <;> omega))) rfl ?_
          refine J.o_op rfl (Yd.load pl22 rfl (Rl.cell (Rl.ext hl e0) (by first | omega | exact idx_u8' _ | (simp only [Int.toNat_natCast]; omega) | (simp only [List.length_map, List.length_drop, List.length_take, List.length_append, List.length_replicate]; omega) | (simp <;> omega)))) rfl ?_
          refine J.o_op rfl (Yd.idx_b Try.underlying22 ti5 rfl rfl (Rl.at' (Rl.ext hl e0) (by first | omega | exact idx_u8' _ | (simp only [Int.toNat_natCast]; omega) | (simp only [List.length_map, List.length_drop, List.length_take, List.length_append, List.length_replicate]; omega) | (simp <;> omega))) (by first | omega | exact idx_u8' _ | (simp only [Int.toNat_natCast]; omega) | (simp only [List.length_map, List.length_drop, List.length_take, List.length_append, List.length_replicate]; omega) | (simp <;> omega))) rfl ?_
          refine J.o_op rfl (Yd.load pl5 rfl (Bs.cell (Rl.at' (Rl.ext hl e0) (by first | omega | exact idx_u8' _ | (simp only [Int.toNat_natCast]; omega) | (simp only [List.length_map, List.length_drop, List.length_take, List.length_append, List.length_replicate]; omega) | (simp <;> omega))) (by first | omega | exact idx_u8' _ | (simp only [Int.toNat_natCast]; omega) | (simp only [List.length_map, List.length_drop, List.length_take, List.length_append, List.length_replicate]; omega) | (simp <;> omega)))) rfl ?_
          refine J.o_op rfl (Yd.xor_u8 rfl rfl) rfl ?_
          refine J.o_nil ?_
          refine J.s_op rfl (fun _ => Yd.neq rfl rfl) rfl ?_
          refine J.s_nil ?_
          refine J.n_np ?_
          refine J.n_then ?_
          refine J.know (t := 95) (v' := .bool false) rfl (ff (by rw [Int.toNat_natCast, mapG_get _ (by omega), turnL_get _ (by rw [Int.toNat_natCast] at hc5; omega)]; exact fun h => h rfl)) ?_
          refine J.cond_false rfl ?_
          refine J.skip ?_
          refine J.n_block ?_
          refine J.n_then ?_
          refine J.region ?_
          refine J.op (Yd.move rfl) rfl ?_
          refine J.op (Yd.add rfl rfl (by first | omega | exact idx_u8' _ | (simp only [Int.toNat_natCast]; omega) | (simp only [List.length_map, List.length_drop, List.length_take, List.length_append, List.length_replicate]; omega) | (simp <;> omega))) rfl ?_
          refine J.op (Yd.assign rfl) rfl ?_
          refine J.nil ?_
          refine J.n_then ?_
          exact J.round (j + 1) ⟨rfl, rfl, rfl, rfl, rfl, trivial⟩ (⟨by omega, hrl, e0⟩) (by omega)
        · skip
          refine J.exit ?_
          refine J.x_then ?_
          refine J.x_then ?_
          refine J.x_block ?_
          refine J.n_block ?_
          refine J.n_then ?_
          refine J.region ?_
          refine J.op (Yd.move rfl) rfl ?_
          refine J.op (Yd.add rfl rfl (by first | omega | exact idx_u8' _ | (simp only [Int.toNat_natCast]; omega) | (simp only [List.length_map, List.length_drop, List.length_take, List.length_append, List.length_replicate]; omega) | (simp <;> omega))) rfl ?_
          refine J.op (Yd.assign rfl) rfl ?_
          refine J.nil ?_
          refine J.n_then ?_
          exact J.round (k + 1) ⟨rfl, rfl, rfl, rfl, trivial⟩ (⟨by omega, hrl, e0⟩) (by omega)
      · skip
        refine J.exit ?_
        refine J.x_then ?_
        refine J.x_then ?_
        refine J.x_block ?_
        refine J.n_then ?_
        refine J.seq ?_
        refine J.region ?_
        refine J.eff (Ye.call cl9 rfl (awake_ok)) rfl ?_
        rintro _ w15 ⟨rfl, x1⟩
        have e0 := e0.trans x1
        have hrl := hrl.ext x1
        clear x1
        refine J.op (Yd.assign rfl) rfl ?_
        refine J.nil ?_
        refine J.n_then ?_
        refine J.ret ?_
        exact J.ret1 rfl rfl (⟨_, rfl, rfl, e0⟩)
    · skip
      refine J.skip ?_
      refine J.n_then ?_
      refine J.seq ?_
      refine J.region ?_
      refine J.op (Yd.move rfl) rfl ?_
      refine J.op (Yd.move rfl) rfl ?_
      refine J.eff (Ye.call cl21 rfl (EachM_ok (m := m) (Rl.ext hl e0) (by omega))) rfl ?_
      rintro v31_16 w16 ⟨vs31_16, ov31_16, x1⟩
      have lo_s20_3_v31_16 : Lo w6.heap.size s20_3.ownBlock := (Ow.live os20_3)
      have lo_b8_3_v31_16 : Lo w6.heap.size (some b8_3) := (Cel.live c8_3)
      have ap_s20_3_v31_16 : Ap s20_3.ownBlock v31_16.ownBlock := Ap.mk (Ow.live os20_3) (Ow.fr (Rw.row ov31_16))
      have ap_b8_3_v31_16 : Ap (some b8_3) v31_16.ownBlock := Ap.mk (Cel.live c8_3) (Ow.fr (Rw.row ov31_16))
      have fr_v31_16 : Fr w.heap.size v31_16.ownBlock := Fr.le (Ow.fr (Rw.row ov31_16)) e0.size
      have e0 := e0.trans x1
      have os20_3 := os20_3.ext x1
      have c8_3 := c8_3.ext x1
      clear x1
      refine J.op (Yd.assign rfl) rfl ?_
      refine J.nil ?_
      refine J.n_then ?_
      refine J.seq ?_
      refine J.region ?_
      refine J.op (Yd.move rfl) rfl ?_
      refine J.eff (Ye.call cl21 rfl (EachNil_ok (Rl.ext hl e0) (by omega))) rfl ?_
      rintro v33_17 w17 ⟨vs33_17, ov33_17, x1⟩
      have lo_s20_3_v33_17 : Lo w16.heap.size s20_3.ownBlock := (Ow.live os20_3)
      have lo_b8_3_v33_17 : Lo w16.heap.size (some b8_3) := (Cel.live c8_3)
      have lo_v31_16_v33_17 : Lo w16.heap.size v31_16.ownBlock := (Rw.live ov31_16)
      have ap_s20_3_v33_17 : Ap s20_3.ownBlock v33_17.ownBlock := Ap.mk (Ow.live os20_3) (Ow.fr (Rw.row ov33_17))
      have ap_b8_3_v33_17 : Ap (some b8_3) v33_17.ownBlock := Ap.mk (Cel.live c8_3) (Ow.fr (Rw.row ov33_17))
      have ap_v31_16_v33_17 : Ap v31_16.ownBlock v33_17.ownBlock := Ap.mk (Rw.live ov31_16) (Ow.fr (Rw.row ov33_17))
      have fr_v33_17 : Fr w.heap.size v33_17.ownBlock := Fr.le (Ow.fr (Rw.row ov33_17)) e0.size
      have e0 := e0.trans x1
      have os20_3 := os20_3.ext x1
      have c8_3 := c8_3.ext x1
      have ov31_16 := ov31_16.ext x1
      clear x1
      refine J.op (Yd.assign rfl) rfl ?_
      refine J.nil ?_
      refine J.n_then ?_
      refine J.seq ?_
      refine J.seq ?_
      refine J.regionO [(0, true), (2, true)] [(1, 1), (3, 1), (4, 1), (5, 1), (6, 1), (7, 1), (8, 0), (9, 1), (10, 1), (11, 1), (12, 1), (15, 1), (16, 1), (13, 0), (14, 1)] [(17, true), (18, true)] mix (by kernel_rfl) ?_
      refine J.s_op rfl (fun _ => Yd.move rfl) rfl ?_
      refine J.s_op rfl (fun _ => Yd.move rfl) rfl ?_
      refine J.s_nil ?_
      refine J.o_op rfl (Yd.len_l Try.underlying33 rfl (Rw.rl ov31_16)) rfl ?_
      refine J.o_op rfl (Yd.len_l Try.underlying33 rfl (Rl.ext hl e0)) rfl ?_
      refine J.o_op rfl (Yd.neq rfl rfl) rfl ?_
      refine J.o_op rfl (Yd.move rfl) rfl ?_
      refine J.know (t := 39) (v' := .bool false) rfl (ff (by rw [List.length_map]; exact fun h => h rfl)) ?_
      refine J.o_op_g rfl rfl rfl rfl (Yd.move rfl) rfl ?_
      refine J.o_op_g rfl rfl rfl rfl (Yd.move rfl) rfl ?_
      refine J.o_eff_g rfl rfl rfl rfl (Ye.call cl22 rfl (Same_ok (Rw.rl ov33_17) (Rl.ext hl e0))) rfl (fun _ _ h => h.2) ?_
      rintro _ w18 ⟨rfl, x1⟩
      have e0 := e0.trans x1
      have os20_3 := os20_3.ext x1
      have c8_3 := c8_3.ext x1
      have ov31_16 := ov31_16.ext x1
      have ov33_17 := ov33_17.ext x1
      clear x1
      refine J.o_op_g rfl rfl rfl rfl (Yd.not_dec rfl) rfl ?_
      refine J.o_op rfl (Yd.pick_f rfl rfl) rfl ?_
      refine J.o_op rfl (Yd.move rfl) rfl ?_
      refine J.know (t := 45) (v' := .bool false) rfl (ff (by simp)) ?_
      refine J.o_op_g rfl rfl rfl rfl (Yd.move rfl) rfl ?_
      refine J.o_op_g rfl rfl rfl rfl (Yd.move rfl) rfl ?_
      refine J.o_op_g rfl rfl rfl rfl (Yd.bstr Try.underlying22 Try.underlying5 Try.underlying9 rfl (Ow.rd os20_3)) rfl ?_
      refine J.o_eff_g rfl rfl rfl rfl (Ye.call cl17 rfl (ACat_ok (Rl.ext hl e0) (by first | omega | (simp [beN_len, leN_len, flipL_len, xorL_len] <;> omega)))) rfl (fun _ _ h => h.2) ?_
      rintro s47_19 w19 ⟨os47_19, x1⟩
      have ap_s20_3_s47_19 : Ap s20_3.ownBlock s47_19.ownBlock := Ap.mk (Ow.live os20_3) (Ow.fr os47_19)
      have ap_b8_3_s47_19 : Ap (some b8_3) s47_19.ownBlock := Ap.mk (Cel.live c8_3) (Ow.fr os47_19)
      have ap_v31_16_s47_19 : Ap v31_16.ownBlock s47_19.ownBlock := Ap.mk (Rw.live ov31_16) (Ow.fr os47_19)
      have ap_v33_17_s47_19 : Ap v33_17.ownBlock s47_19.ownBlock := Ap.mk (Rw.live ov33_17) (Ow.fr os47_19)
      have fr_s47_19 : Fr w.heap.size s47_19.ownBlock := Fr.le (Ow.fr os47_19) e0.size
      replace os47_19 := Ow.base os47_19 e0.size
      have e0 := e0.trans x1
      have os20_3 := os20_3.ext x1
      have c8_3 := c8_3.ext x1
      have ov31_16 := ov31_16.ext x1
      have ov33_17 := ov33_17.ext x1
      clear x1
      refine J.o_op_g rfl rfl rfl rfl (Yd.bstr Try.underlying22 Try.underlying5 Try.underlying9 rfl (Ow.rd os47_19)) rfl ?_
      refine J.o_nil ?_
      refine J.s_op_g rfl rfl rfl rfl (fun _ => Yd.sne rfl rfl) rfl ?_
      refine J.s_op rfl (fun _ => Yd.pick_f rfl rfl) rfl ?_
      refine J.s_nil ?_
      refine J.n_np ?_
      refine J.n_then ?_
      refine J.know (t := 52) (v' := .bool false) rfl (ff (by simp)) ?_
      refine J.cond_false rfl ?_
      refine J.skip ?_
      refine J.n_then ?_
      refine J.seq ?_
      refine J.seq ?_
      refine J.region ?_
      refine J.op (Yd.assign rfl) rfl ?_
      refine J.nil ?_
      refine J.n_then ?_
      refine J.block ?_
      refine J.loop (ι := Nat) (fun i => [(0, sl), (1, B m), (13, I i), (11, v31_16)]) (fun i w' => i ≤ ll.length ∧ Rw w6.heap.size 22 5 w' v31_16 vs31_16 (ll.map (turnL m)) ∧ Ext w w') (fun i => ll.length - i) (0) ⟨rfl, rfl, rfl, rfl, trivial⟩ (⟨Nat.zero_le _, ov31_16, e0⟩) ?_
      rintro k w20 ⟨hk, hrl, e0⟩
      refine J.seq ?_
      refine J.seq ?_
      refine J.region ?_
      refine J.op (Yd.move rfl) rfl ?_
      refine J.op (Yd.move rfl) rfl ?_
      refine J.op (Yd.len_l Try.underlying33 rfl (Rl.ext hl e0)) rfl ?_
      refine J.op (Yd.lss rfl rfl) rfl ?_
      refine J.nil ?_
      refine J.n_then ?_
      refine J.cond_dec rfl (fun hc3 => ?_) (fun hc3 => ?_)
      · skip
        have hgl : ((ll.map (turnL m)).getD (k : Int).toNat []).length = (ll.getD (k : Int).toNat []).length := by rw [Int.toNat_natCast, mapG_get _ (by omega), turnL_len]
        have hgf := flat_get (ll := ll) (k := (k : Int).toNat) (by omega)
        refine J.skip ?_
        refine J.n_then ?_
        refine J.seq ?_
        refine J.block ?_
        refine J.seq ?_
        refine J.seq ?_
        refine J.regionO [(0, true), (1, true), (5, true), (6, true)] [(2, 1), (3, 1), (4, 1), (7, 1), (8, 1), (9, 1)] [(10, true)] mix (by kernel_rfl) ?_
        refine J.s_op rfl (fun _ => Yd.move rfl) rfl ?_
        refine J.s_op rfl (fun _ => Yd.move rfl) rfl ?_
        refine J.s_op rfl (fun _ => Yd.move rfl) rfl ?_
        refine J.s_op rfl (fun _ => Yd.move rfl) rfl ?_
        refine J.s_nil ?_
        refine J.o_op rfl (Yd.idx_l Try.underlying33 ti22 rfl rfl (Rw.rl hrl) (by first | omega | exact idx_u8' _ | (simp only [Int.toNat_natCast]; omega) | (simp only [List.length_map, List.length_drop, List.length_take, List.length_append, List.length_replicate]; omega) | (simp <;> omega))) rfl ?_
        refine J.o_op rfl (Yd.load pl22 rfl (Rl.cell (Rw.rl hrl) (by first | omega | exact idx_u8' _ | (simp only [Int.toNat_natCast]; omega) | (simp only [List.length_map, List.length_drop, List.length_take, List.length_append, List.length_replicate]; omega) | (simp <;> omega)))) rfl ?_
        refine J.o_op rfl (Yd.len_b Try.underlying22 rfl (Rl.at' (Rw.rl hrl) (by first | omega | exact idx_u8' _ | (simp only [Int.toNat_natCast]; omega) | (simp only [List.length_map, List.length_drop, List.length_take, List.length_append, List.length_replicate]; omega) | (simp <;> omega)))) rfl ?_
        refine J.o_op rfl (Yd.idx_l Try.underlying33 ti22 rfl rfl (Rl.ext hl e0) (by first | omega | exact idx_u8' _ | (simp only [Int.toNat_natCast]; omega) | (simp only [List.length_map, List.length_drop, List.length_take, List.length_append, List.length_replicate]; omega) | (simp <;> omega))) rfl ?_
        refine J.o_op rfl (Yd.load pl22 rfl (Rl.cell (Rl.ext hl e0) (by first | omega | exact idx_u8' _ | (simp only [Int.toNat_natCast]; omega) | (simp only [List.length_map, List.length_drop, List.length_take, List.length_append, List.length_replicate]; omega) | (simp <;> omega)))) rfl ?_
        refine J.o_op rfl (Yd.len_b Try.underlying22 rfl (Rl.at' (Rl.ext hl e0) (by first | omega | exact idx_u8' _ | (simp only [Int.toNat_natCast]; omega) | (simp only [List.length_map, List.length_drop, List.length_take, List.length_append, List.length_replicate]; omega) | (simp <;> omega)))) rfl ?_
        refine J.o_nil ?_
        refine J.s_op rfl (fun _ => Yd.neq rfl rfl) rfl ?_
        refine J.s_nil ?_
        refine J.n_np ?_
        refine J.n_then ?_
        refine J.know (t := 69) (v' := .bool false) rfl (ff (by rw [hgl]; exact fun h => h rfl)) ?_
        refine J.cond_false rfl ?_
        refine J.skip ?_
        refine J.n_then ?_
        refine J.seq ?_
        refine J.region ?_
        refine J.op (Yd.assign rfl) rfl ?_
        refine J.nil ?_
        refine J.n_then ?_
        refine J.block ?_
        refine J.loop (ι := Nat) (fun i => [(0, sl), (1, B m), (13, I (k : Int)), (14, I i), (11, v31_16)]) (fun i w' => i ≤ (ll.getD (k : Int).toNat []).length ∧ Rw w6.heap.size 22 5 w' v31_16 vs31_16 (ll.map (turnL m)) ∧ Ext w w') (fun i => (ll.getD (k : Int).toNat []).length - i) (0) ⟨rfl, rfl, rfl, rfl, rfl, trivial⟩ (⟨Nat.zero_le _, hrl, e0⟩) ?_
        rintro j w21 ⟨hj, hrl, e0⟩
        refine J.seq ?_
        refine J.seq ?_
        refine J.region ?_
        refine J.op (Yd.move rfl) rfl ?_
        refine J.op (Yd.move rfl) rfl ?_
        refine J.op (Yd.move rfl) rfl ?_
        refine J.op (Yd.idx_l Try.underlying33 ti22 rfl rfl (Rl.ext hl e0) (by first | omega | exact idx_u8' _ | (simp only [Int.toNat_natCast]; omega) | (simp only [List.length_map, List.length_drop, List.length_take, List.length_append, List.length_replicate]; omega) | (simp <;> omega))) rfl ?_
        refine J.op (Yd.load pl22 rfl (Rl.cell (Rl.ext hl e0) (by first | omega | exact idx_u8' _ | (simp only [Int.toNat_natCast]; omega) | (simp only [List.length_map, List.length_drop, List.length_take, List.length_append, List.length_replicate]; omega) | (simp <;> omega)))) rfl ?_
        refine J.op (Yd.len_b Try.underlying22 rfl (Rl.at' (Rl.ext hl e0) (by first | omega | exact idx_u8' _ | (simp only [Int.toNat_natCast]; omega) | (simp only [List.length_map, List.length_drop, List.length_take, List.length_append, List.length_replicate]; omega) | (simp <;> omega)))) rfl ?_
        refine J.op (Yd.lss rfl rfl) rfl ?_
        refine J.nil ?_
        refine J.n_then ?_
        refine J.cond_dec rfl (fun hc5 => ?_) (fun hc5 => ?_)
        · skip
          refine J.skip ?_
          refine J.n_then ?_
          refine J.seq ?_
          refine J.block ?_
          refine J.seq ?_
          refine J.regionO [(0, true), (1, true), (4, true), (7, true), (8, true), (11, true), (14, true)] [(2, 1), (3, 1), (5, 1), (6, 1), (9, 1), (10, 1), (12, 1), (13, 1), (15, 1)] [(16, true)] mix (by kernel_rfl) ?_
          refine J.s_op rfl (fun _ => Yd.move rfl) rfl ?_
          refine J.s_op rfl (fun _ => Yd.move rfl) rfl ?_
          refine J.s_op rfl (fun _ => Yd.move rfl) rfl ?_
          refine J.s_op rfl (fun _ => Yd.move rfl) rfl ?_
          refine J.s_op rfl (fun _ => Yd.move rfl) rfl ?_
          refine J.s_op rfl (fun _ => Yd.move rfl) rfl ?_
          refine J.s_op rfl (fun _ => Yd.move rfl) rfl ?_
          refine J.s_nil ?_
          refine J.o_op rfl (Yd.idx_l Try.underlying33 ti22 rfl rfl (Rw.rl hrl) (by first | omega | exact idx_u8' _ | (simp only [Int.toNat_natCast]; omega) | (simp only [List.length_map, List.length_drop, List.length_take, List.length_append, List.length_replicate]; omega) | (simp <;> omega))) rfl ?_
          refine J.o_op rfl (Yd.load pl22 rfl (Rl.cell (Rw.rl hrl) (by first | omega | exact idx_u8' _ | (simp only [Int.toNat_natCast]; omega) | (simp only [List.length_map, List.length_drop, List.length_take, List.length_append, List.length_replicate]; omega) | (simp <;> omega)))) rfl ?_
          refine J.o_op rfl (Yd.idx_b Try.underlying22 ti5 rfl rfl (Rl.at' (Rw.rl hrl) (by first | omega | exact idx_u8' _ | (simp only [Int.toNat_natCast]; omega) | (simp only [List.length_map, List.length_drop, List.length_take, List.length_append, List.length_replicate]; omega) | (simp <;> omega))) (by first | omega | exact idx_u8' _ | (simp only [Int.toNat_natCast]; omega) | (simp only [List.length_map, List.length_drop, List.length_take, List.length_append, List.length_replicate]; omega) | (simp <;> omega))) rfl ?_
          refine J.o_op rfl (Yd.load pl5 rfl (Bs.cell (Rl.at' (Rw.rl hrl) (by first | omega | exact idx_u8' _ | (simp only [Int.toNat_natCast]; omega) | (simp only [List.length_map, List.length_drop, List.length_take, List.length_append, List.length_replicate]; omega) | (simp <;> omega))) (by first | omega | exact idx_u8' _ | (simp only [Int.toNat_natCast]; omega) | (simp only [List.length_map, List.length_drop, List.length_take, List.length_append, List.length_replicate]; omega) | (simp <;> omega)))) rfl ?_
          refine J.o_op rfl (Yd.idx_l Try.underlying33 ti22 rfl rfl (Rl.ext hl e0) (by first | omega | exact idx_u8' _ | (simp only [Int.toNat_natCast]; omega) | (simp only [List.length_map, List.length_drop, List.length_take, List.length_append, List.length_replicate]; omega) | (simp <;> omega))) rfl ?_
          refine J.o_op rfl (Yd.load pl22 rfl (Rl.cell (Rl.ext hl e0) (by first | omega | exact idx_u8' _ | (simp only [Int.toNat_natCast]; omega) | (simp only [List.length_map, List.length_drop, List.length_take, List.length_append, List.length_replicate]; omega) | (simp <;> omega)))) rfl ?_
          refine J.o_op rfl (Yd.idx_b Try.underlying22 ti5 rfl rfl (Rl.at' (Rl.ext hl e0) (by first | omega | exact idx_u8' _ | (simp only [Int.toNat_natCast]; omega) | (simp only [List.length_map, List.length_drop, List.length_take, List.length_append, List.length_replicate]; omega) | (simp <;> omega))) (by first | omega | exact idx_u8' _ | (simp only [Int.toNat_natCast]; omega) | (simp only [List.length_map, List.length_drop, List.length_take, List.length_append, List.length_replicate]; omega) | (simp <;> omega))) rfl ?_
          refine J.o_op rfl (Yd.load pl5 rfl (Bs.cell (Rl.at' (Rl.ext hl e0) (by first | omega | exact idx_u8' _ | (simp only [Int.toNat_natCast]; omega) | (simp only [List.length_map, List.length_drop, List.length_take, List.length_append, List.length_replicate]; omega) | (simp <;> omega))) (by first | omega | exact idx_u8' _ | (simp only [Int.toNat_natCast]; omega) | (simp only [List.length_map, List.length_drop, List.length_take, List.length_append, List.length_replicate]; omega) | (simp <;> omega)))) rfl ?_
          refine J.o_op rfl (Yd.xor_u8 rfl rfl) rfl ?_
          refine J.o_nil ?_
          refine J.s_op rfl (fun _ => Yd.neq rfl rfl) rfl ?_
          refine J.s_nil ?_
          refine J.n_np ?_
          refine J.n_then ?_
          refine J.know (t := 95) (v' := .bool false) rfl (ff (by rw [Int.toNat_natCast, mapG_get _ (by omega), turnL_get _ (by rw [Int.toNat_natCast] at hc5; omega)]; exact fun h => h rfl)) ?_
          refine J.cond_false rfl ?_
          refine J.skip ?_
          refine J.n_block ?_
          refine J.n_then ?_
          refine J.region ?_
          refine J.op (Yd.move rfl) rfl ?_
          refine J.op (Yd.add rfl rfl (by first | omega | exact idx_u8' _ | (simp only [Int.toNat_natCast]; omega) | (simp only [List.length_map, List.length_drop, List.length_take, List.length_append, List.length_replicate]; omega) | (simp <;> omega))) rfl ?_
          refine J.op (Yd.assign rfl) rfl ?_
          refine J.nil ?_
          refine J.n_then ?_
          exact J.round (j + 1) ⟨rfl, rfl, rfl, rfl, rfl, trivial⟩ (⟨by omega, hrl, e0⟩) (by omega)
        · skip
          refine J.exit ?_
          refine J.x_then ?_
          refine J.x_then ?_
          refine J.x_block ?_
          refine J.n_block ?_
          refine J.n_then ?_
          refine J.region ?_
          refine J.op (Yd.move rfl) rfl ?_
          refine J.op (Yd.add rfl rfl (by first | omega | exact idx_u8' _ | (simp only [Int.toNat_natCast]; omega) | (simp only [List.length_map, List.length_drop, List.length_take, List.length_append, List.length_replicate]; omega) | (simp <;> omega))) rfl ?_
          refine J.op (Yd.assign rfl) rfl ?_
          refine J.nil ?_
          refine J.n_then ?_
          exact J.round (k + 1) ⟨rfl, rfl, rfl, rfl, trivial⟩ (⟨by omega, hrl, e0⟩) (by omega)
      · skip
        refine J.exit ?_
        refine J.x_then ?_
        refine J.x_then ?_
        refine J.x_block ?_
        refine J.n_then ?_
        refine J.seq ?_
        refine J.region ?_
        refine J.eff (Ye.call cl9 rfl (awake_ok)) rfl ?_
        rintro _ w22 ⟨rfl, x1⟩
        have e0 := e0.trans x1
        have hrl := hrl.ext x1
        clear x1
        refine J.op (Yd.assign rfl) rfl ?_
        refine J.nil ?_
        refine J.n_then ?_
        refine J.ret ?_
        exact J.ret1 rfl rfl (⟨_, rfl, rfl, e0⟩)
end Ytonoafnjkpahjaa
end Go.Proofs
