import Derived.Test.YtphebleabcoakaaT
import Derived.Test.YtphebleabcoakaaW9
set_option linter.unusedVariables false
set_option linter.unusedSimpArgs false
set_option maxRecDepth 100000
set_option maxHeartbeats 4000000
namespace Go.Proofs
open Go.X Go.RowKit
namespace Ytphebleabcoakaa
theorem Small_ok {s : Value} {es : List X.Item} {w : World} (hr : Er itS w s es) (hq : ∀ u ∈ es, itQ w u) : C Try.prog 13 [s] w (Ret fun u w' => ∃ t : Bool, u = .bool t ∧ (t = true → wts es ≤ 2000) ∧ Ext w w') := by
  have hmx := hr.max
  have e0 := Ext.refl w
  refine C.enter Try.func13 rfl Try.ntmps13 rfl ?_
  refine J.seq ?_
  refine J.region ?_
  refine J.op (Yd.assign rfl) rfl ?_
  refine J.nil ?_
  refine J.n_then ?_
  refine J.seq ?_
  refine J.region ?_
  refine J.op (Yd.assign rfl) rfl ?_
  refine J.nil ?_
  refine J.n_then ?_
  refine J.seq ?_
  refine J.seq ?_
  refine J.region ?_
  refine J.op (Yd.assign rfl) rfl ?_
  refine J.nil ?_
  refine J.n_then ?_
  refine J.block ?_
  refine J.loop (ι := Nat × Int) (fun i => [(0, s), (3, I i.2), (4, I i.1)]) (fun i w' => i.1 ≤ es.length ∧ (0 ≤ i.2 ∧ i.2 ≤ 1099511627776) ∧ (i.2 ≤ 2000 → (wts (es.take i.1) : Int) ≤ i.2) ∧ Ext w w') (fun i => es.length - i.1) ((0, (0 : Int))) ⟨rfl, rfl, rfl, trivial⟩ (⟨Nat.zero_le _, by decide, by simp [wts], e0⟩) ?_
  rintro ⟨i, v⟩ w1 ⟨hk, hb, hv, e0⟩
  dsimp only at *
  refine J.seq ?_
  refine J.seq ?_
  refine J.region ?_
  refine J.op (Yd.move rfl) rfl ?_
  refine J.op (Yd.move rfl) rfl ?_
  refine J.op (Yd.lenE (K := itS) Try.underlying30 rfl (Er.ext hr e0)) rfl ?_
  refine J.op (Yd.lss rfl rfl) rfl ?_
  refine J.op (Yd.move rfl) rfl ?_
  refine J.split_dec (t := 9) rfl (fun hg => ?_) (fun hg => ?_)
  · skip
    refine J.op_g rfl rfl rfl (Yd.move rfl) rfl ?_
    refine J.op_g rfl rfl rfl (Yd.leq rfl rfl) rfl ?_
    refine J.op (Yd.pick_t rfl rfl) rfl ?_
    refine J.nil ?_
    refine J.n_then ?_
    refine J.cond_dec rfl (fun hc0 => ?_) (fun hc0 => ?_)
    · skip
      refine J.skip ?_
      refine J.n_then ?_
      refine J.seq ?_
      refine J.block ?_
      refine J.regionO [(0, true), (1, true), (2, true), (7, true), (8, true)] [(3, 1), (9, 1), (4, 1), (5, 1), (6, 1), (10, 1), (11, 1), (12, 0)] [(13, false), (14, false), (15, true)] mix (by kernel_rfl) ?_
      refine J.s_op rfl (fun _ => Yd.move rfl) rfl ?_
      refine J.s_op rfl (fun _ => Yd.move rfl) rfl ?_
      refine J.s_op rfl (fun _ => Yd.move rfl) rfl ?_
      refine J.s_op rfl (fun _ => Yd.move rfl) rfl ?_
      refine J.s_op rfl (fun _ => Yd.move rfl) rfl ?_
      refine J.s_nil ?_
      refine J.o_op rfl (Yd.idxE (K := itS) Try.underlying30 ti40 rfl rfl (Er.ext hr e0) (by first | omega | exact idx_u8' _ | (simp only [Int.toNat_natCast]; omega) | (simp only [List.length_map, List.length_drop, List.length_take, List.length_append, List.length_replicate]; omega) | (simp <;> omega))) rfl ?_
      refine J.o_op rfl (Yd.idxE (K := itS) Try.underlying30 ti40 rfl rfl (Er.ext hr e0) (by first | omega | exact idx_u8' _ | (simp only [Int.toNat_natCast]; omega) | (simp only [List.length_map, List.length_drop, List.length_take, List.length_append, List.length_replicate]; omega) | (simp <;> omega))) rfl ?_
      refine J.o_op rfl (Yd.fieldE (K := itS) (Er.ext hr e0) (by omega) Try.underlying40 rfl ti32 rfl rfl) rfl ?_
      refine J.o_op rfl (Yd.cast (Yd.loadFd (K := itS) itD pl32 rfl (Er.ext hr e0) (by first | omega | exact idx_u8' _ | (simp only [Int.toNat_natCast]; omega) | (simp only [List.length_map, List.length_drop, List.length_take, List.length_append, List.length_replicate]; omega) | (simp <;> omega)) rfl) (show _ = (es.getD (i : Int).toNat itD).2.2.1.1 from rfl)) rfl ?_
      refine J.o_op rfl (Yd.len_b Try.underlying32 rfl (Rd.ext ((hq _ (it_mem (show (i : Int).toNat < es.length by omega))).1) e0)) rfl ?_
      refine J.o_op rfl (Yd.fieldE (K := itS) (Er.ext hr e0) (by omega) Try.underlying40 rfl ti38 rfl rfl) rfl ?_
      refine J.o_op rfl (Yd.cast (Yd.loadFd (K := itS) itD pl38 rfl (Er.ext hr e0) (by first | omega | exact idx_u8' _ | (simp only [Int.toNat_natCast]; omega) | (simp only [List.length_map, List.length_drop, List.length_take, List.length_append, List.length_replicate]; omega) | (simp <;> omega)) rfl) (show _ = (es.getD (i : Int).toNat itD).2.2.2.1 from rfl)) rfl ?_
      refine J.o_eff rfl (Ye.call cl35 rfl (All_ok (Rl.ext ((hq _ (it_mem (show (i : Int).toNat < es.length by omega))).2) e0) (by omega))) rfl (fun _ _ ⟨_, _, _, _, h⟩ => h) ?_
      rintro _ w2 ⟨rA, rfl, hrA, htA, x1⟩
      have e0 := e0.trans x1
      clear x1
      refine J.o_nil ?_
      refine J.s_eff rfl (Ye.litM (base := w2.heap.size) (f := fun x : Int => I x) [((es.getD (i : Int).toNat itD).2.2.1.2.length : Int), rA, 1] Try.underlying62 ti3 rfl rfl rfl rfl (fun _ => rfl) rfl (Nat.le_refl _)) rfl ?_
      rintro s28_3 w3 ⟨o28_3, x1⟩
      have fr_s28_3 : Fr w.heap.size s28_3.ownBlock := Fr.le (Ow.fr o28_3) e0.size
      replace o28_3 := Ow.base o28_3 e0.size
      have e0 := e0.trans x1
      clear x1
      refine J.s_eff rfl (Ye.call cl34 rfl (Sum_ok (Ow.rd o28_3) (by omega) (by intro x hx; simp only [List.mem_cons, List.not_mem_nil, or_false] at hx; omega))) rfl ?_
      rintro _ w4 ⟨r, rfl, hr_, hsum, x1⟩
      have e0 := e0.trans x1
      have o28_3 := o28_3.ext x1
      clear x1
      refine J.s_op rfl (fun _ => Yd.assign rfl) rfl ?_
      refine J.s_nil ?_
      refine J.n_np ?_
      refine J.n_block ?_
      refine J.n_then ?_
      refine J.region ?_
      refine J.op (Yd.move rfl) rfl ?_
      refine J.op (Yd.add rfl rfl (by first | omega | exact idx_u8' _ | (simp only [Int.toNat_natCast]; omega) | (simp only [List.length_map, List.length_drop, List.length_take, List.length_append, List.length_replicate]; omega) | (simp <;> omega))) rfl ?_
      refine J.op (Yd.assign rfl) rfl ?_
      refine J.nil ?_
      refine J.n_then ?_
      exact J.round ((i + 1, r)) ⟨rfl, rfl, rfl, trivial⟩ (⟨by show i + 1 ≤ es.length; omega, hr_, by show r ≤ 2000 → (wts (es.take (i + 1)) : Int) ≤ r; intro h; rw [wts_take (by omega)]; unfold wt; simp only [Int.toNat_natCast, List.sum_cons, List.sum_nil] at hsum htA hrA; have := hv (by omega); omega, e0⟩) (by show es.length - (i + 1) < es.length - i; omega)
    · skip
      refine J.exit ?_
      refine J.x_then ?_
      refine J.x_then ?_
      refine J.x_block ?_
      refine J.n_then ?_
      refine J.seq ?_
      refine J.region ?_
      refine J.op (Yd.move rfl) rfl ?_
      refine J.op (Yd.leq rfl rfl) rfl ?_
      refine J.op (Yd.assign rfl) rfl ?_
      refine J.nil ?_
      refine J.n_then ?_
      refine J.ret ?_
      exact J.ret1 rfl rfl (⟨_, rfl, _, rfl, by intro h; have h2 := of_decide_eq_true h; have h1 := hv h2; rw [List.take_of_length_le (by omega)] at h1; omega, e0⟩)
  · skip
    refine J.not_g rfl rfl rfl rfl rfl ?_
    refine J.not_g rfl rfl rfl rfl rfl ?_
    refine J.op (Yd.pick_f rfl rfl) rfl ?_
    refine J.nil ?_
    refine J.n_then ?_
    refine J.cond_false rfl ?_
    refine J.exit ?_
    refine J.x_then ?_
    refine J.x_then ?_
    refine J.x_block ?_
    refine J.n_then ?_
    refine J.seq ?_
    refine J.region ?_
    refine J.op (Yd.move rfl) rfl ?_
    refine J.op (Yd.leq rfl rfl) rfl ?_
    refine J.op (Yd.assign rfl) rfl ?_
    refine J.nil ?_
    refine J.n_then ?_
    refine J.ret ?_
    exact J.ret1 rfl rfl (⟨_, rfl, _, rfl, by intro h; have h2 := of_decide_eq_true h; have h1 := hv h2; rw [List.take_of_length_le (by omega)] at h1; omega, e0⟩)
end Ytphebleabcoakaa
end Go.Proofs
