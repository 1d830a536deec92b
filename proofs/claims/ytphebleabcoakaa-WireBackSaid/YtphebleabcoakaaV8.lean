import Derived.Test.YtphebleabcoakaaT
import Derived.Test.YtphebleabcoakaaW10
import Derived.Test.YtphebleabcoakaaV7
import Derived.Test.YtphebleabcoakaaQf
set_option linter.unusedVariables false
set_option linter.unusedSimpArgs false
set_option maxRecDepth 100000
set_option maxHeartbeats 4000000
namespace Go.Proofs
open Go.X Go.RowKit
namespace Ytphebleabcoakaa
theorem Same_ok {sl sm : Value} {vs us : List Value} {ll mm : List (List UInt8)} {w : World} (hl : Rl w sl vs ll) (hm : Rl w sm us mm) : C Try.prog 40 [sl, sm] w (Ret fun v w' => v = .bool (decide (ll = mm)) ∧ Ext w w') := by
  have hlm := Rd.max hl.rd
  rw [hl.len] at hlm
  have e0 := Ext.refl w
  refine C.enter Try.func40 rfl Try.ntmps40 rfl ?_
  refine J.seq ?_
  refine J.region ?_
  refine J.op (Yd.assign rfl) rfl ?_
  refine J.nil ?_
  refine J.n_then ?_
  refine J.seq ?_
  refine J.seq ?_
  refine J.region ?_
  refine J.op (Yd.move rfl) rfl ?_
  refine J.op (Yd.len_l Try.underlying38 rfl hl) rfl ?_
  refine J.op (Yd.move rfl) rfl ?_
  refine J.op (Yd.len_l Try.underlying38 rfl hm) rfl ?_
  refine J.op (Yd.neq rfl rfl) rfl ?_
  refine J.nil ?_
  refine J.n_then ?_
  refine J.cond_dec rfl (fun hc0 => ?_) (fun hc0 => ?_)
  · skip
    refine J.seq ?_
    refine J.region ?_
    refine J.op (Yd.assign rfl) rfl ?_
    refine J.nil ?_
    refine J.n_then ?_
    refine J.ret ?_
    refine J.r_then ?_
    exact J.ret1 rfl rfl (⟨_, rfl, congrArg Value.bool (by first | exact same_len hc0 | exact same_no hlen (k := k) (by rw [Int.toNat_natCast] at hc2; exact hc2)), e0⟩)
  · skip
    have hlen : ll.length = mm.length := by omega
    refine J.skip ?_
    refine J.n_then ?_
    refine J.seq ?_
    refine J.seq ?_
    refine J.region ?_
    refine J.op (Yd.assign rfl) rfl ?_
    refine J.nil ?_
    refine J.n_then ?_
    refine J.block ?_
    refine J.loop (ι := Nat) (fun i => [(0, sl), (1, sm), (5, I i)]) (fun i w' => i ≤ ll.length ∧ (∀ j, j < i → ll.getD j [] = mm.getD j []) ∧ Ext w w') (fun i => ll.length - i) (0) ⟨rfl, rfl, rfl, trivial⟩ (⟨Nat.zero_le _, fun j hj => absurd hj (Nat.not_lt_zero _), e0⟩) ?_
    rintro k w1 ⟨hk, hall, e0⟩
    refine J.seq ?_
    refine J.seq ?_
    refine J.region ?_
    refine J.op (Yd.move rfl) rfl ?_
    refine J.op (Yd.move rfl) rfl ?_
    refine J.op (Yd.len_l Try.underlying38 rfl (Rl.ext hl e0)) rfl ?_
    refine J.op (Yd.lss rfl rfl) rfl ?_
    refine J.nil ?_
    refine J.n_then ?_
    refine J.cond_dec rfl (fun hc1 => ?_) (fun hc1 => ?_)
    · skip
      refine J.skip ?_
      refine J.n_then ?_
      refine J.seq ?_
      refine J.block ?_
      refine J.seq ?_
      refine J.regionO [(0, true), (1, true), (5, true), (6, true)] [(2, 1), (3, 1), (4, 1), (7, 1), (8, 1), (9, 1)] [(10, true)] mix (by kernel_rfl) ?_
      refine J.s_op rfl (fun _ => Yd.move rfl) rfl ?_
      refine J.s_op rfl (fun _ => Yd.move rfl) rfl ?_
      refine J.s_op rfl (fun _ => Yd.move rfl) rfl ?_
      refine J.s_op rfl (fun _ => Yd.move rfl) rfl ?_
      refine J.s_nil ?_
      refine J.o_op rfl (Yd.idx_l Try.underlying38 ti32 rfl rfl (Rl.ext hl e0) (by first | omega | exact idx_u8' _ | (simp only [Int.toNat_natCast]; omega) | (simp only [List.length_map, List.length_drop, List.length_take, List.length_append, List.length_replicate]; omega) | (simp <;> omega))) rfl ?_
      refine J.o_op rfl (Yd.load pl32 rfl (Rl.cell (Rl.ext hl e0) (by first | omega | exact idx_u8' _ | (simp only [Int.toNat_natCast]; omega) | (simp only [List.length_map, List.length_drop, List.length_take, List.length_append, List.length_replicate]; omega) | (simp <;> omega)))) rfl ?_
      refine J.o_op rfl (Yd.bstr Try.underlying32 Try.underlying5 Try.underlying9 rfl (Rl.at' (Rl.ext hl e0) (by first | omega | exact idx_u8' _ | (simp only [Int.toNat_natCast]; omega) | (simp only [List.length_map, List.length_drop, List.length_take, List.length_append, List.length_replicate]; omega) | (simp <;> omega)))) rfl ?_
      refine J.o_op rfl (Yd.idx_l Try.underlying38 ti32 rfl rfl (Rl.ext hm e0) (by first | omega | exact idx_u8' _ | (simp only [Int.toNat_natCast]; omega) | (simp only [List.length_map, List.length_drop, List.length_take, List.length_append, List.length_replicate]; omega) | (simp <;> omega))) rfl ?_
      refine J.o_op rfl (Yd.load pl32 rfl (Rl.cell (Rl.ext hm e0) (by first | omega | exact idx_u8' _ | (simp only [Int.toNat_natCast]; omega) | (simp only [List.length_map, List.length_drop, List.length_take, List.length_append, List.length_replicate]; omega) | (simp <;> omega)))) rfl ?_
      refine J.o_op rfl (Yd.bstr Try.underlying32 Try.underlying5 Try.underlying9 rfl (Rl.at' (Rl.ext hm e0) (by first | omega | exact idx_u8' _ | (simp only [Int.toNat_natCast]; omega) | (simp only [List.length_map, List.length_drop, List.length_take, List.length_append, List.length_replicate]; omega) | (simp <;> omega)))) rfl ?_
      refine J.o_nil ?_
      refine J.s_op rfl (fun _ => Yd.sne rfl rfl) rfl ?_
      refine J.s_nil ?_
      refine J.n_np ?_
      refine J.n_then ?_
      refine J.cond_dec rfl (fun hc2 => ?_) (fun hc2 => ?_)
      · skip
        refine J.seq ?_
        refine J.region ?_
        refine J.op (Yd.assign rfl) rfl ?_
        refine J.nil ?_
        refine J.n_then ?_
        refine J.ret ?_
        refine J.r_block ?_
        refine J.r_then ?_
        refine J.r_then ?_
        refine J.r_block ?_
        refine J.r_then ?_
        exact J.ret1 rfl rfl (⟨_, rfl, congrArg Value.bool (by first | exact same_len hc0 | exact same_no hlen (k := k) (by rw [Int.toNat_natCast] at hc2; exact hc2)), e0⟩)
      · skip
        refine J.skip ?_
        refine J.n_block ?_
        refine J.n_then ?_
        refine J.region ?_
        refine J.op (Yd.move rfl) rfl ?_
        refine J.op (Yd.add rfl rfl (by first | omega | exact idx_u8' _ | (simp only [Int.toNat_natCast]; omega) | (simp only [List.length_map, List.length_drop, List.length_take, List.length_append, List.length_replicate]; omega) | (simp <;> omega))) rfl ?_
        refine J.op (Yd.assign rfl) rfl ?_
        refine J.nil ?_
        refine J.n_then ?_
        exact J.round (k + 1) ⟨rfl, rfl, rfl, trivial⟩ (⟨by omega, fun j hj => by rcases (show j < k ∨ j = k by omega) with h | rfl; exact hall j h; rw [Int.toNat_natCast] at hc2; exact Classical.not_not.1 hc2, e0⟩) (by omega)
    · skip
      refine J.exit ?_
      refine J.x_then ?_
      refine J.x_then ?_
      refine J.x_block ?_
      refine J.n_then ?_
      refine J.seq ?_
      refine J.region ?_
      refine J.op (Yd.assign rfl) rfl ?_
      refine J.nil ?_
      refine J.n_then ?_
      refine J.ret ?_
      exact J.ret1 rfl rfl (⟨_, rfl, congrArg Value.bool (same_all hlen (fun j hj => hall j (by omega))), e0⟩)

theorem ReadIt_ok {K : Nat → Prop} {b : Nat} {r : List UInt8} {x : X.Item} {w : World} (hr : Rdr 61 K w b (wF x ++ r)) (hq : ∀ w', Tn [some b] w w' → itQ w' x) (hm : wt x ≤ 2000) (hl : r.length ≤ 90000000) : C Try.prog 18 [.pointer (some ⟨b, 0, none⟩), .agg (itS.c x).toArray] w (Ret fun u w' => u = .bool true ∧ Rdr 61 K w' b r ∧ Tn [some b] w w') := by
  have hq1 := fun w' h => (hq w' h).1
  have hq2 := fun w' h => (hq w' h).2
  have hm2 := hm
  unfold wt at hm2
  have e0 := Tn.refl [(some b)] w
  refine C.enter Try.func18 rfl Try.ntmps18 rfl ?_
  refine J.seq ?_
  refine J.region ?_
  refine J.eff (Ye.box (S := [(0, 1, [I x.1]), (1, 1, [W64 x.2.1]), (2, 1, [x.2.2.1.1]), (3, 1, [x.2.2.2.1])]) rfl (by simp [SegAll, SegOK, Value.cells, itS])) rfl ?_
  rintro _ w1 ⟨b3_0, rfl, hb_, c3_0, x1⟩
  have ap_b_b3_0 : Ap (some b) (some b3_0) := Ap.mk (Rdr.live hr) (Fr.blk hb_)
  have fr_b3_0 : Fr w.heap.size (some b3_0) := Fr.le (Fr.blk hb_) e0.size
  have e0 := Tn.ext e0 x1
  have hr := hr.ext x1
  clear x1 hb_
  refine J.op (Yd.assign rfl) rfl ?_
  refine J.nil ?_
  refine J.n_then ?_
  refine J.seq ?_
  refine J.seq ?_
  refine J.region ?_
  refine J.op (Yd.cast (Yd.fieldA Try.underlying40 rfl ti3 rfl rfl) (show _ = Value.pointer (some ⟨b3_0, 0, none⟩) from rfl)) rfl ?_
  refine J.op (Yd.load pl3 rfl (Cel.cell1 c3_0 0 rfl)) rfl ?_
  refine J.nil ?_
  refine J.n_then ?_
  refine J.block ?_
  refine J.seq ?_
  refine J.region ?_
  refine J.op (Yd.eql rfl rfl) rfl ?_
  refine J.op (Yd.assign rfl) rfl ?_
  refine J.nil ?_
  refine J.n_then ?_
  refine J.cond_dec rfl (fun hc0 => ?_) (fun hc0 => ?_)
  · skip
    refine J.seq ?_
    refine J.regionT [(some b)] [(0, true), (2, true)] [(3, 1), (1, 0)] [(4, true), (5, true)] mix (by kernel_rfl) ?_
    refine J.s_op rfl (fun _ => Yd.move rfl) rfl ?_
    refine J.s_op rfl (fun _ => Yd.cast (Yd.fieldA Try.underlying40 rfl ti37 rfl rfl) (show _ = Value.pointer (some ⟨b3_0, 1, none⟩) from rfl)) rfl ?_
    refine J.s_nil ?_
    refine J.t_op rfl (fun w1 ht => Yd.load pl37 rfl (Cel.cell1 (Cel.tnk c3_0 ht (ApL.one (Ap.symm ap_b_b3_0))) 1 rfl)) rfl ?_
    refine J.t_eff rfl (Ye.call cl30 rfl (RNumP (v := x.2.1) (r := r) (by unfold wF at hr; rw [if_pos hc0] at hr; exact hr) (by omega))) rfl (fun _ _ h => Tn.mono h.2.2 (by simp)) ?_
    rintro _ w2 ⟨rfl, hr2, x1⟩
    have c3_0 := Cel.tnk c3_0 x1 (ApL.one (Ap.symm ap_b_b3_0))
    have e0 := Tn.tnk e0 (fun q hq => by simp only [List.mem_singleton] at hq; subst hq; exact .inl (by simp)) x1
    clear x1
    replace hr := hr2
    clear hr2
    refine J.t_nil ?_
    refine J.s_op rfl (fun _ => Yd.eql rfl rfl) rfl ?_
    refine J.s_op rfl (fun _ => Yd.assign rfl) rfl ?_
    refine J.s_nil ?_
    refine J.n_np ?_
    refine J.n_then ?_
    refine J.ret ?_
    refine J.r_block ?_
    refine J.r_then ?_
    exact J.ret1 rfl rfl (⟨_, rfl, (by first | rfl | simp), (by first | exact hr | (unfold wF at hr; rw [if_neg hc0, if_neg hc1, if_neg hc2, if_neg hc3, List.nil_append] at hr; exact hr)), e0⟩)
  · skip
    refine J.seq ?_
    refine J.region ?_
    refine J.op (Yd.eql rfl rfl) rfl ?_
    refine J.op (Yd.assign rfl) rfl ?_
    refine J.nil ?_
    refine J.n_then ?_
    refine J.cond_dec rfl (fun hc1 => ?_) (fun hc1 => ?_)
    · skip
      refine J.seq ?_
      refine J.regionT [(some b)] [(0, true), (1, true), (6, true)] [(2, 1), (3, 1), (7, 1), (8, 1), (4, 0), (5, 1)] [(9, true), (10, true)] mix (by kernel_rfl) ?_
      refine J.s_op rfl (fun _ => Yd.move rfl) rfl ?_
      refine J.s_op rfl (fun _ => Yd.cast (Yd.fieldA Try.underlying40 rfl ti32 rfl rfl) (show _ = Value.pointer (some ⟨b3_0, 2, none⟩) from rfl)) rfl ?_
      refine J.s_op rfl (fun _ => Yd.cast (Yd.fieldA Try.underlying40 rfl ti32 rfl rfl) (show _ = Value.pointer (some ⟨b3_0, 2, none⟩) from rfl)) rfl ?_
      refine J.s_nil ?_
      refine J.t_op rfl (fun w1 ht => Yd.load pl32 rfl (Cel.cell1 (Cel.tnk c3_0 ht (ApL.one (Ap.symm ap_b_b3_0))) 2 rfl)) rfl ?_
      refine J.t_op rfl (fun w1 ht => Yd.len_b Try.underlying32 rfl ((fun w' ht => (hq1 _ (Tn.tnk e0 (fun q hq => by simp only [List.mem_singleton] at hq; subst hq; exact .inl (by simp)) ht))) w1 ht)) rfl ?_
      refine J.t_op rfl (fun w1 ht => Yd.load pl32 rfl (Cel.cell1 (Cel.tnk c3_0 ht (ApL.one (Ap.symm ap_b_b3_0))) 2 rfl)) rfl ?_
      refine J.t_op rfl (fun w1 ht => Yd.bstr Try.underlying32 Try.underlying5 Try.underlying9 rfl ((fun w' ht => (hq1 _ (Tn.tnk e0 (fun q hq => by simp only [List.mem_singleton] at hq; subst hq; exact .inl (by simp)) ht))) w1 ht)) rfl ?_
      refine J.t_eff rfl (Ye.call cl24 rfl (RBytesP (m := x.2.2.1.2) (r := r) (by unfold wF at hr; rw [if_neg hc0, if_pos hc1] at hr; exact hr) (by omega) (by omega))) rfl (fun _ _ h => Tn.mono h.2.2 (by simp)) ?_
      rintro v20 w3 ⟨⟨ov20, fr0⟩, hr2, x1⟩
      have ap_b_v20 : Ap (some b) v20.ownBlock := Ap.mk (Rdr.live hr) fr0
      have ap_b3_0_v20 : Ap (some b3_0) v20.ownBlock := Ap.mk (Cel.live c3_0) fr0
      have fr_v20 : Fr w.heap.size v20.ownBlock := Fr.le fr0 e0.size
      have c3_0 := Cel.tnk c3_0 x1 (ApL.one (Ap.symm ap_b_b3_0))
      have e0 := Tn.tnk e0 (fun q hq => by simp only [List.mem_singleton] at hq; subst hq; exact .inl (by simp)) x1
      clear x1
      replace hr := hr2
      clear hr2
      clear fr0
      refine J.t_op rfl (fun w1 ht => Yd.bstr Try.underlying32 Try.underlying5 Try.underlying9 rfl ((fun w' ht => Rd.tnk (Ow.rd ov20) ht (ApL.one (Ap.symm ap_b_v20))) w1 ht)) rfl ?_
      refine J.t_nil ?_
      refine J.s_op rfl (fun _ => Yd.seq rfl rfl) rfl ?_
      refine J.s_op rfl (fun _ => Yd.assign rfl) rfl ?_
      refine J.s_nil ?_
      refine J.n_np ?_
      refine J.n_then ?_
      refine J.ret ?_
      refine J.r_block ?_
      refine J.r_then ?_
      exact J.ret1 rfl rfl (⟨_, rfl, (by first | rfl | simp), (by first | exact hr | (unfold wF at hr; rw [if_neg hc0, if_neg hc1, if_neg hc2, if_neg hc3, List.nil_append] at hr; exact hr)), e0⟩)
    · skip
      refine J.seq ?_
      refine J.region ?_
      refine J.op (Yd.eql rfl rfl) rfl ?_
      refine J.op (Yd.assign rfl) rfl ?_
      refine J.nil ?_
      refine J.n_then ?_
      refine J.cond_dec rfl (fun hc2 => ?_) (fun hc2 => ?_)
      · skip
        refine J.seq ?_
        refine J.regionT [(some b)] [(0, true), (1, true), (5, true)] [(2, 1), (3, 1), (6, 1), (4, 0)] [(7, false), (8, true)] mix (by kernel_rfl) ?_
        refine J.s_op rfl (fun _ => Yd.move rfl) rfl ?_
        refine J.s_op rfl (fun _ => Yd.cast (Yd.fieldA Try.underlying40 rfl ti38 rfl rfl) (show _ = Value.pointer (some ⟨b3_0, 3, none⟩) from rfl)) rfl ?_
        refine J.s_op rfl (fun _ => Yd.cast (Yd.fieldA Try.underlying40 rfl ti38 rfl rfl) (show _ = Value.pointer (some ⟨b3_0, 3, none⟩) from rfl)) rfl ?_
        refine J.s_nil ?_
        refine J.t_op rfl (fun w1 ht => Yd.load pl38 rfl (Cel.cell1 (Cel.tnk c3_0 ht (ApL.one (Ap.symm ap_b_b3_0))) 3 rfl)) rfl ?_
        refine J.t_op rfl (fun w1 ht => Yd.len_l Try.underlying38 rfl ((fun w' ht => (hq2 _ (Tn.tnk e0 (fun q hq => by simp only [List.mem_singleton] at hq; subst hq; exact .inl (by simp)) ht))) w1 ht)) rfl ?_
        refine J.t_op rfl (fun w1 ht => Yd.load pl38 rfl (Cel.cell1 (Cel.tnk c3_0 ht (ApL.one (Ap.symm ap_b_b3_0))) 3 rfl)) rfl ?_
        refine J.t_eff rfl (Ye.call cl26 rfl (RListP (ll := x.2.2.2.2.2) (r := r) (by unfold wF at hr; rw [if_neg hc0, if_neg hc1, if_pos hc2] at hr; exact hr) (by omega) (by omega) ⟨by omega, fun i hi => by have := ll_get_len hi; omega⟩)) rfl (fun _ _ h => Tn.mono h.2.2 (by simp)) ?_
        rintro v32 w4 ⟨⟨vsv32, kv32⟩, hr2, x1⟩
        have c3_0 := Cel.tnk c3_0 x1 (ApL.one (Ap.symm ap_b_b3_0))
        have e0 := Tn.tnk e0 (fun q hq => by simp only [List.mem_singleton] at hq; subst hq; exact .inl (by simp)) x1
        clear x1
        replace hr := hr2
        clear hr2
        refine J.t_nil ?_
        refine J.s_eff rfl (Ye.call cl40 rfl (Same_ok kv32 (hq2 _ e0))) rfl ?_
        rintro _ w5 ⟨rfl, x1⟩
        have e0 := Tn.ext e0 x1
        have c3_0 := c3_0.ext x1
        have hr := hr.ext x1
        clear x1
        refine J.s_op rfl (fun _ => Yd.assign rfl) rfl ?_
        refine J.s_nil ?_
        refine J.n_np ?_
        refine J.n_then ?_
        refine J.ret ?_
        refine J.r_block ?_
        refine J.r_then ?_
        exact J.ret1 rfl rfl (⟨_, rfl, (by first | rfl | simp), (by first | exact hr | (unfold wF at hr; rw [if_neg hc0, if_neg hc1, if_neg hc2, if_neg hc3, List.nil_append] at hr; exact hr)), e0⟩)
      · skip
        refine J.seq ?_
        refine J.region ?_
        refine J.op (Yd.eql rfl rfl) rfl ?_
        refine J.op (Yd.assign rfl) rfl ?_
        refine J.nil ?_
        refine J.n_then ?_
        refine J.cond_dec rfl (fun hc3 => ?_) (fun hc3 => ?_)
        · skip
          refine J.seq ?_
          refine J.regionT [(some b)] [(0, true), (1, true), (6, true)] [(2, 1), (3, 1), (7, 1), (8, 1), (4, 0), (5, 1)] [(9, true), (10, true)] mix (by kernel_rfl) ?_
          refine J.s_op rfl (fun _ => Yd.move rfl) rfl ?_
          refine J.s_op rfl (fun _ => Yd.cast (Yd.fieldA Try.underlying40 rfl ti32 rfl rfl) (show _ = Value.pointer (some ⟨b3_0, 2, none⟩) from rfl)) rfl ?_
          refine J.s_op rfl (fun _ => Yd.cast (Yd.fieldA Try.underlying40 rfl ti32 rfl rfl) (show _ = Value.pointer (some ⟨b3_0, 2, none⟩) from rfl)) rfl ?_
          refine J.s_nil ?_
          refine J.t_op rfl (fun w1 ht => Yd.load pl32 rfl (Cel.cell1 (Cel.tnk c3_0 ht (ApL.one (Ap.symm ap_b_b3_0))) 2 rfl)) rfl ?_
          refine J.t_op rfl (fun w1 ht => Yd.len_b Try.underlying32 rfl ((fun w' ht => (hq1 _ (Tn.tnk e0 (fun q hq => by simp only [List.mem_singleton] at hq; subst hq; exact .inl (by simp)) ht))) w1 ht)) rfl ?_
          refine J.t_op rfl (fun w1 ht => Yd.load pl32 rfl (Cel.cell1 (Cel.tnk c3_0 ht (ApL.one (Ap.symm ap_b_b3_0))) 2 rfl)) rfl ?_
          refine J.t_op rfl (fun w1 ht => Yd.bstr Try.underlying32 Try.underlying5 Try.underlying9 rfl ((fun w' ht => (hq1 _ (Tn.tnk e0 (fun q hq => by simp only [List.mem_singleton] at hq; subst hq; exact .inl (by simp)) ht))) w1 ht)) rfl ?_
          refine J.t_eff rfl (Ye.call cl41 rfl (RFixedP (m := x.2.2.1.2) (r := r) (by unfold wF at hr; rw [if_neg hc0, if_neg hc1, if_neg hc2, if_pos hc3] at hr; exact hr) (by omega))) rfl (fun _ _ h => Tn.mono h.2.2 (by simp)) ?_
          rintro v42 w6 ⟨⟨ov42, fr0⟩, hr2, x1⟩
          have ap_b_v42 : Ap (some b) v42.ownBlock := Ap.mk (Rdr.live hr) fr0
          have ap_b3_0_v42 : Ap (some b3_0) v42.ownBlock := Ap.mk (Cel.live c3_0) fr0
          have fr_v42 : Fr w.heap.size v42.ownBlock := Fr.le fr0 e0.size
          have c3_0 := Cel.tnk c3_0 x1 (ApL.one (Ap.symm ap_b_b3_0))
          have e0 := Tn.tnk e0 (fun q hq => by simp only [List.mem_singleton] at hq; subst hq; exact .inl (by simp)) x1
          clear x1
          replace hr := hr2
          clear hr2
          clear fr0
          refine J.t_op rfl (fun w1 ht => Yd.bstr Try.underlying32 Try.underlying5 Try.underlying9 rfl ((fun w' ht => Rd.tnk (Ow.rd ov42) ht (ApL.one (Ap.symm ap_b_v42))) w1 ht)) rfl ?_
          refine J.t_nil ?_
          refine J.s_op rfl (fun _ => Yd.seq rfl rfl) rfl ?_
          refine J.s_op rfl (fun _ => Yd.assign rfl) rfl ?_
          refine J.s_nil ?_
          refine J.n_np ?_
          refine J.n_then ?_
          refine J.ret ?_
          refine J.r_block ?_
          refine J.r_then ?_
          exact J.ret1 rfl rfl (⟨_, rfl, (by first | rfl | simp), (by first | exact hr | (unfold wF at hr; rw [if_neg hc0, if_neg hc1, if_neg hc2, if_neg hc3, List.nil_append] at hr; exact hr)), e0⟩)
        · skip
          refine J.skip ?_
          refine J.n_block ?_
          refine J.n_then ?_
          refine J.seq ?_
          refine J.region ?_
          refine J.op (Yd.assign rfl) rfl ?_
          refine J.nil ?_
          refine J.n_then ?_
          refine J.ret ?_
          exact J.ret1 rfl rfl (⟨_, rfl, (by first | rfl | simp), (by first | exact hr | (unfold wF at hr; rw [if_neg hc0, if_neg hc1, if_neg hc2, if_neg hc3, List.nil_append] at hr; exact hr)), e0⟩)
end Ytphebleabcoakaa
end Go.Proofs
