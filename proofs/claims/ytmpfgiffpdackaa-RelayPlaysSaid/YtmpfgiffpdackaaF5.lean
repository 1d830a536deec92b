import Derived.Test.YtmpfgiffpdackaaT
import Derived.Test.YtmpfgiffpdackaaPA
import Derived.Test.YtmpfgiffpdackaaF4
set_option linter.unusedVariables false
set_option linter.unusedSimpArgs false
set_option maxRecDepth 100000
set_option maxHeartbeats 4000000
namespace Go.Proofs
open Go.X Go.RowKit
namespace Ytmpfgiffpdackaa
theorem Sum_ok {n : Int} {s : Value} {xs : List Int} {w : World} (hs : Rd w s (xs.map fun x => I x)) (hn : 0 ≤ n ∧ n ≤ 1099511627776) (hx : ∀ x ∈ xs, 0 ≤ x) : C Try.prog 18 [I n, s] w (Ret fun v w' => ∃ r, v = I r ∧ (0 ≤ r ∧ r ≤ 1099511627776) ∧ (r = 1099511627776 ∨ r = n + xs.sum) ∧ Ext w w') := by
  have hmx := Rd.max hs
  rw [List.length_map] at hmx
  have e0 := Ext.refl w
  refine C.enter Try.func18 rfl Try.ntmps18 rfl ?_
  refine J.seq ?_
  refine J.region ?_
  refine J.op (Yd.assign rfl) rfl ?_
  refine J.nil ?_
  refine J.n_then ?_
  refine J.seq ?_
  refine J.seq ?_
  refine J.region ?_
  refine J.op (Yd.assign rfl) rfl ?_
  refine J.nil ?_
  refine J.n_then ?_
  refine J.block ?_
  refine J.loop (ι := Nat) (fun i => [(0, I (n + (xs.take i).sum)), (1, s), (5, I i)]) (fun i w' => i ≤ xs.length ∧ (0 ≤ n + (xs.take i).sum ∧ n + (xs.take i).sum ≤ 1099511627776) ∧ Ext w w') (fun i => xs.length - i) (0) ⟨(someI (by simp)), rfl, rfl, trivial⟩ (⟨by omega, by simpa using hn, e0⟩) ?_
  rintro k w1 ⟨hk, hb, e0⟩
  refine J.seq ?_
  refine J.seq ?_
  refine J.region ?_
  refine J.op (Yd.move rfl) rfl ?_
  refine J.op (Yd.move rfl) rfl ?_
  refine J.op (Yd.len_m Try.underlying22 rfl (Rd.ext hs e0)) rfl ?_
  refine J.op (Yd.lss rfl rfl) rfl ?_
  refine J.nil ?_
  refine J.n_then ?_
  refine J.cond_dec rfl (fun hc0 => ?_) (fun hc0 => ?_)
  · skip
    have hxk := getD_mem hx (show k < xs.length by omega)
    refine J.skip ?_
    refine J.n_then ?_
    refine J.seq ?_
    refine J.block ?_
    refine J.seq ?_
    refine J.seq ?_
    refine J.region ?_
    refine J.op (Yd.move rfl) rfl ?_
    refine J.op (Yd.gtr rfl rfl) rfl ?_
    refine J.op (Yd.move rfl) rfl ?_
    refine J.split_dec (t := 14) rfl (fun hg => ?_) (fun hg => ?_)
    · skip
      refine J.not_g rfl rfl rfl rfl rfl ?_
      refine J.not_g rfl rfl rfl rfl rfl ?_
      refine J.not_g rfl rfl rfl rfl rfl ?_
      refine J.not_g rfl rfl rfl rfl rfl ?_
      refine J.not_g rfl rfl rfl rfl rfl ?_
      refine J.not_g rfl rfl rfl rfl rfl ?_
      refine J.not_g rfl rfl rfl rfl rfl ?_
      refine J.op (Yd.pick_t rfl rfl) rfl ?_
      refine J.nil ?_
      refine J.n_then ?_
      refine J.cond_true rfl ?_
      refine J.seq ?_
      refine J.region ?_
      refine J.op (Yd.assign rfl) rfl ?_
      refine J.nil ?_
      refine J.n_then ?_
      refine J.ret ?_
      refine J.r_then ?_
      refine J.r_block ?_
      refine J.r_then ?_
      refine J.r_then ?_
      refine J.r_block ?_
      refine J.r_then ?_
      exact J.ret1 rfl rfl (⟨_, rfl, _, rfl, by omega, by first | exact .inl rfl | (right; rw [List.take_of_length_le (by omega)]), e0⟩)
    · skip
      refine J.op_g rfl rfl rfl (Yd.move rfl) rfl ?_
      refine J.op_g rfl rfl rfl (Yd.move rfl) rfl ?_
      refine J.op_g rfl rfl rfl (Yd.idx_m Try.underlying22 ti3 rfl rfl (Rd.ext hs e0) (by first | omega | (simp only [Int.toNat_natCast]; omega) | (simp <;> omega))) rfl ?_
      refine J.op_g rfl rfl rfl (Yd.load pl3 rfl (Rd.cellI (Rd.ext hs e0) (by first | omega | (simp only [Int.toNat_natCast]; omega) | (simp <;> omega)))) rfl ?_
      refine J.op_g rfl rfl rfl (Yd.move rfl) rfl ?_
      refine J.op_g rfl rfl rfl (Yd.sub rfl rfl (by first | omega | (simp only [Int.toNat_natCast]; omega) | (simp <;> omega))) rfl ?_
      refine J.op_g rfl rfl rfl (Yd.gtr rfl rfl) rfl ?_
      refine J.op (Yd.pick_f rfl rfl) rfl ?_
      refine J.nil ?_
      refine J.n_then ?_
      refine J.cond_dec rfl (fun hc1 => ?_) (fun hc1 => ?_)
      · skip
        refine J.seq ?_
        refine J.region ?_
        refine J.op (Yd.assign rfl) rfl ?_
        refine J.nil ?_
        refine J.n_then ?_
        refine J.ret ?_
        refine J.r_then ?_
        refine J.r_block ?_
        refine J.r_then ?_
        refine J.r_then ?_
        refine J.r_block ?_
        refine J.r_then ?_
        exact J.ret1 rfl rfl (⟨_, rfl, _, rfl, by omega, by first | exact .inl rfl | (right; rw [List.take_of_length_le (by omega)]), e0⟩)
      · skip
        simp only [Int.toNat_natCast] at hc1
        refine J.skip ?_
        refine J.n_then ?_
        refine J.region ?_
        refine J.op (Yd.move rfl) rfl ?_
        refine J.op (Yd.move rfl) rfl ?_
        refine J.op (Yd.move rfl) rfl ?_
        refine J.op (Yd.idx_m Try.underlying22 ti3 rfl rfl (Rd.ext hs e0) (by first | omega | (simp only [Int.toNat_natCast]; omega) | (simp <;> omega))) rfl ?_
        refine J.op (Yd.load pl3 rfl (Rd.cellI (Rd.ext hs e0) (by first | omega | (simp only [Int.toNat_natCast]; omega) | (simp <;> omega)))) rfl ?_
        refine J.op (Yd.add rfl rfl (by first | omega | (simp only [Int.toNat_natCast]; omega) | (simp <;> omega))) rfl ?_
        refine J.op (Yd.assign rfl) rfl ?_
        refine J.nil ?_
        refine J.n_block ?_
        refine J.n_then ?_
        refine J.region ?_
        refine J.op (Yd.move rfl) rfl ?_
        refine J.op (Yd.add rfl rfl (by first | omega | (simp only [Int.toNat_natCast]; omega) | (simp <;> omega))) rfl ?_
        refine J.op (Yd.assign rfl) rfl ?_
        refine J.nil ?_
        refine J.n_then ?_
        exact J.round (k + 1) ⟨(someI (by have := sum_take xs k (by omega); simp only [Int.toNat_natCast]; omega)), rfl, rfl, trivial⟩ (⟨by omega, by have := sum_take xs k (by omega); omega, e0⟩) (by omega)
  · skip
    refine J.exit ?_
    refine J.x_then ?_
    refine J.x_then ?_
    refine J.x_block ?_
    refine J.n_then ?_
    refine J.seq ?_
    refine J.region ?_
    refine J.op (Yd.move rfl) rfl ?_
    refine J.op (Yd.assign rfl) rfl ?_
    refine J.nil ?_
    refine J.n_then ?_
    refine J.ret ?_
    exact J.ret1 rfl rfl (⟨_, rfl, _, rfl, by omega, by first | exact .inl rfl | (right; rw [List.take_of_length_le (by omega)]), e0⟩)
end Ytmpfgiffpdackaa
end Go.Proofs
