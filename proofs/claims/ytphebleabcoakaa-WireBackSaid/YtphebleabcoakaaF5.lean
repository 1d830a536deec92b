import Derived.Test.YtphebleabcoakaaT
import Derived.Test.YtphebleabcoakaaPA
import Derived.Test.YtphebleabcoakaaF4
set_option linter.unusedVariables false
set_option linter.unusedSimpArgs false
set_option maxRecDepth 100000
set_option maxHeartbeats 4000000
namespace Go.Proofs
open Go.X Go.RowKit
namespace Ytphebleabcoakaa
theorem Sum_ok {n : Int} {s : Value} {xs : List Int} {w : World} (hs : Rd w s (xs.map fun x => I x)) (hn : 0 ≤ n ∧ n ≤ 1099511627776) (hx : ∀ x ∈ xs, 0 ≤ x) : C Try.prog 34 [I n, s] w (Ret fun v w' => ∃ r, v = I r ∧ (0 ≤ r ∧ r ≤ 1099511627776) ∧ (r = 1099511627776 ∨ r = n + xs.sum) ∧ Ext w w') := by
  have hmx := Rd.max hs
  rw [List.length_map] at hmx
  have e0 := Ext.refl w
  refine C.enter Try.func34 rfl Try.ntmps34 rfl ?_
  refine J.seq ?_
  refine J.region ?_
  refine J.op (Yd.assign rfl) rfl ?_
  refine J.nil ?_
  refine J.n_then ?_
  refine J.seq ?_
  refine J.seq ?_
  refine J.region ?_
  refine J.op (Yd.assign rfl) rfl ?_
  refine J.nil ?_
  refine J.n_then ?_
  refine J.block ?_
  refine J.loop (ι := Nat) (fun i => [(0, I (n + (xs.take i).sum)), (1, s), (5, I i)]) (fun i w' => i ≤ xs.length ∧ (0 ≤ n + (xs.take i).sum ∧ n + (xs.take i).sum ≤ 1099511627776) ∧ Ext w w') (fun i => xs.length - i) (0) ⟨(someI (by simp)), rfl, rfl, trivial⟩ (⟨by omega, by simpa using hn, e0⟩) ?_
  rintro k w1 ⟨hk, hb, e0⟩
  refine J.seq ?_
  refine J.seq ?_
  refine J.region ?_
  refine J.op (Yd.move rfl) rfl ?_
  refine J.op (Yd.move rfl) rfl ?_
  refine J.op (Yd.len_m Try.underlying62 rfl (Rd.ext hs e0)) rfl ?_
  refine J.op (Yd.lss rfl rfl) rfl ?_
  refine J.nil ?_
  refine J.n_then ?_
  refine J.cond_dec rfl (fun hc0 => ?_) (fun hc0 => ?_)
  · skip
    have hxk := getD_mem hx (show k < xs.length by omega)
    refine J.skip ?_
    refine J.n_then ?_
    refine J.seq ?_
    refine J.block ?_
    refine J.seq ?_
    refine J.seq ?_
    refine J.region ?_
    refine J.op (Yd.move rfl) rfl ?_
    refine J.op (Yd.gtr rfl rfl) rfl ?_
    refine J.op (Yd.move rfl) rfl ?_
    refine J.split_dec (t := 14) rfl (fun hg => ?_) (fun hg => ?_)
    · skip
      refine J.not_g rfl rfl rfl rfl rfl ?_
      refine J.not_g rfl rfl rfl rfl rfl ?_
      refine J.not_g rfl rfl rfl rfl rfl ?_
      refine J.not_g rfl rfl rfl rfl rfl ?_
      refine J.not_g rfl rfl rfl rfl rfl ?_
      refine J.not_g rfl rfl rfl rfl rfl ?_
      refine J.not_g rfl rfl rfl rfl rfl ?_
      refine J.op (Yd.pick_t rfl rfl) rfl ?_
      refine J.nil ?_
      refine J.n_then ?_
      refine J.cond_true rfl ?_
      refine J.seq ?_
      refine J.region ?_
      refine J.op (Yd.assign rfl) rfl ?_
      refine J.nil ?_
      refine J.n_then ?_
      refine J.ret ?_
      refine J.r_then ?_
      refine J.r_block ?_
      refine J.r_then ?_
      refine J.r_then ?_
      refine J.r_block ?_
      refine J.r_then ?_
      exact J.ret1 rfl rfl (⟨_, rfl, _, rfl, by omega, by first | exact .inl rfl | (right; rw [List.take_of_length_le (by omega)]), e0⟩)
    · skip
      refine J.op_g rfl rfl rfl (Yd.move rfl) rfl ?_
      refine J.op_g rfl rfl rfl (Yd.move rfl) rfl ?_
      refine J.op_g rfl rfl rfl (Yd.idx_m Try.underlying62 ti3 rfl rfl (Rd.ext hs e0) (by first | omega | (simp only [Int.toNat_natCast]; omega) | (simp <;> omega))) rfl ?_
      refine J.op_g rfl rfl rfl (Yd.load pl3 rfl (Rd.cellI (Rd.ext hs e0) (by first | omega | (simp only [Int.toNat_natCast]; omega) | (simp <;> omega)))) rfl ?_
      refine J.op_g rfl rfl rfl (Yd.move rfl) rfl ?_
      refine J.op_g rfl rfl rfl (Yd.sub rfl rfl (by first | omega | (simp only [Int.toNat_natCast]; omega) | (simp <;> omega))) rfl ?_
      refine J.op_g rfl rfl rfl (Yd.gtr rfl rfl) rfl ?_
      refine J.op (Yd.pick_f rfl rfl) rfl ?_
      refine J.nil ?_
      refine J.n_then ?_
      refine J.cond_dec rfl (fun hc1 => ?_) (fun hc1 => ?_)
      · skip
        refine J.seq ?_
        refine J.region ?_
        refine J.op (Yd.assign rfl) rfl ?_
        refine J.nil ?_
        refine J.n_then ?_
        refine J.ret ?_
        refine J.r_then ?_
        refine J.r_block ?_
        refine J.r_then ?_
        refine J.r_then ?_
        refine J.r_block ?_
        refine J.r_then ?_
        exact J.ret1 rfl rfl (⟨_, rfl, _, rfl, by omega, by first | exact .inl rfl | (right; rw [List.take_of_length_le (by omega)]), e0⟩)
      · skip
        simp only [Int.toNat_natCast] at hc1
        refine J.skip ?_
        refine J.n_then ?_
        refine J.region ?_
        refine J.op (Yd.move rfl) rfl ?_
        refine J.op (Yd.move rfl) rfl ?_
        refine J.op (Yd.move rfl) rfl ?_
        refine J.op (Yd.idx_m Try.underlying62 ti3 rfl rfl (Rd.ext hs e0) (by first | omega | (simp only [Int.toNat_natCast]; omega) | (simp <;> omega))) rfl ?_
        refine J.op (Yd.load pl3 rfl (Rd.cellI (Rd.ext hs e0) (by first | omega | (simp only [Int.toNat_natCast]; omega) | (simp <;> omega)))) rfl ?_
        refine J.op (Yd.add rfl rfl (by first | omega | (simp only [Int.toNat_natCast]; omega) | (simp <;> omega))) rfl ?_
        refine J.op (Yd.assign rfl) rfl ?_
        refine J.nil ?_
        refine J.n_block ?_
        refine J.n_then ?_
        refine J.region ?_
        refine J.op (Yd.move rfl) rfl ?_
        refine J.op (Yd.add rfl rfl (by first | omega | (simp only [Int.toNat_natCast]; omega) | (simp <;> omega))) rfl ?_
        refine J.op (Yd.assign rfl) rfl ?_
        refine J.nil ?_
        refine J.n_then ?_
        exact J.round (k + 1) ⟨(someI (by have := sum_take xs k (by omega); simp only [Int.toNat_natCast]; omega)), rfl, rfl, trivial⟩ (⟨by omega, by have := sum_take xs k (by omega); omega, e0⟩) (by omega)
  · skip
    refine J.exit ?_
    refine J.x_then ?_
    refine J.x_then ?_
    refine J.x_block ?_
    refine J.n_then ?_
    refine J.seq ?_
    refine J.region ?_
    refine J.op (Yd.move rfl) rfl ?_
    refine J.op (Yd.assign rfl) rfl ?_
    refine J.nil ?_
    refine J.n_then ?_
    refine J.ret ?_
    exact J.ret1 rfl rfl (⟨_, rfl, _, rfl, by omega, by first | exact .inl rfl | (right; rw [List.take_of_length_le (by omega)]), e0⟩)

theorem All_ok {s : Value} {vs : List Value} {ll : List (List UInt8)} {top : Int} {w : World} (hl : Rl w s vs ll) (ht : 0 ≤ top ∧ top ≤ 1000000) : C Try.prog 35 [s, I top] w (Ret fun v w' => ∃ r, v = I r ∧ (0 ≤ r ∧ r ≤ 1099511627776) ∧ (r ≤ top → (ll.flatten.length : Int) + ll.length ≤ r) ∧ Ext w w') := by
  have hlm := Rd.max hl.rd
  rw [hl.len] at hlm
  have e0 := Ext.refl w
  refine C.enter Try.func35 rfl Try.ntmps35 rfl ?_
  refine J.seq ?_
  refine J.region ?_
  refine J.op (Yd.assign rfl) rfl ?_
  refine J.nil ?_
  refine J.n_then ?_
  refine J.seq ?_
  refine J.region ?_
  refine J.op (Yd.assign rfl) rfl ?_
  refine J.nil ?_
  refine J.n_then ?_
  refine J.seq ?_
  refine J.seq ?_
  refine J.region ?_
  refine J.op (Yd.assign rfl) rfl ?_
  refine J.nil ?_
  refine J.n_then ?_
  refine J.block ?_
  refine J.loop (ι := Nat × Int) (fun i => [(0, s), (1, I top), (5, I i.2), (6, I i.1)]) (fun i w' => i.1 ≤ ll.length ∧ (0 ≤ i.2 ∧ i.2 ≤ 1099511627776) ∧ (i.2 ≤ top → i.2 = ((ll.take i.1).flatten.length : Int) + i.1) ∧ Ext w w') (fun i => ll.length - i.1) ((0, (0 : Int))) ⟨rfl, rfl, rfl, rfl, trivial⟩ (⟨Nat.zero_le _, by decide, by simp, e0⟩) ?_
  rintro ⟨k, v⟩ w1 ⟨hk, hb, hv, e0⟩
  dsimp only at hk hb hv ⊢
  refine J.seq ?_
  refine J.seq ?_
  refine J.region ?_
  refine J.op (Yd.move rfl) rfl ?_
  refine J.op (Yd.move rfl) rfl ?_
  refine J.op (Yd.len_l Try.underlying38 rfl (Rl.ext hl e0)) rfl ?_
  refine J.op (Yd.lss rfl rfl) rfl ?_
  refine J.op (Yd.move rfl) rfl ?_
  refine J.split_dec (t := 11) rfl (fun hg => ?_) (fun hg => ?_)
  · skip
    refine J.op_g rfl rfl rfl (Yd.move rfl) rfl ?_
    refine J.op_g rfl rfl rfl (Yd.move rfl) rfl ?_
    refine J.op_g rfl rfl rfl (Yd.leq rfl rfl) rfl ?_
    refine J.op (Yd.pick_t rfl rfl) rfl ?_
    refine J.nil ?_
    refine J.n_then ?_
    refine J.cond_dec rfl (fun hc0 => ?_) (fun hc0 => ?_)
    · skip
      have hft := flat_step ll k (by omega)
      refine J.skip ?_
      refine J.n_then ?_
      refine J.seq ?_
      refine J.block ?_
      refine J.region ?_
      refine J.op (Yd.move rfl) rfl ?_
      refine J.op (Yd.move rfl) rfl ?_
      refine J.op (Yd.move rfl) rfl ?_
      refine J.op (Yd.idx_l Try.underlying38 ti32 rfl rfl (Rl.ext hl e0) (by first | omega | (simp only [Int.toNat_natCast]; omega) | (simp <;> omega))) rfl ?_
      refine J.op (Yd.load pl32 rfl (Rl.cell (Rl.ext hl e0) (by first | omega | (simp only [Int.toNat_natCast]; omega) | (simp <;> omega)))) rfl ?_
      refine J.op (Yd.len_b Try.underlying32 rfl (Rl.at' (Rl.ext hl e0) (by first | omega | (simp only [Int.toNat_natCast]; omega) | (simp <;> omega)))) rfl ?_
      refine J.eff (Ye.lit2 (base := w.heap.size) (f := (fun x : Int => I x)) (v := 1) Try.underlying62 ti3 rfl rfl rfl (fun _ => rfl) e0.size) rfl ?_
      rintro s24_2 w2 ⟨o24_2, x1⟩
      have e0 := e0.trans x1
      clear x1
      refine J.eff (Ye.call cl34 rfl (Sum_ok (Ow.rd o24_2) (by omega) (by intro x hx; simp only [List.mem_cons, List.not_mem_nil, or_false] at hx; omega))) rfl ?_
      rintro _ w3 ⟨r, rfl, hr, hsum, x1⟩
      have e0 := e0.trans x1
      have o24_2 := o24_2.ext x1
      clear x1
      refine J.op (Yd.assign rfl) rfl ?_
      refine J.nil ?_
      refine J.n_block ?_
      refine J.n_then ?_
      refine J.region ?_
      refine J.op (Yd.move rfl) rfl ?_
      refine J.op (Yd.add rfl rfl (by first | omega | (simp only [Int.toNat_natCast]; omega) | (simp <;> omega))) rfl ?_
      refine J.op (Yd.assign rfl) rfl ?_
      refine J.nil ?_
      refine J.n_then ?_
      exact J.round ((k + 1, r)) ⟨rfl, rfl, rfl, rfl, trivial⟩ (⟨by show k + 1 ≤ ll.length; omega, hr, by show r ≤ top → r = ((ll.take (k + 1)).flatten.length : Int) + ((k + 1 : Nat) : Int); intro h; simp only [Int.toNat_natCast, List.sum_cons, List.sum_nil] at hsum; have := hv (by omega); omega, e0⟩) (by show ll.length - (k + 1) < ll.length - k; omega)
    · skip
      refine J.exit ?_
      refine J.x_then ?_
      refine J.x_then ?_
      refine J.x_block ?_
      refine J.n_then ?_
      refine J.seq ?_
      refine J.region ?_
      refine J.op (Yd.move rfl) rfl ?_
      refine J.op (Yd.assign rfl) rfl ?_
      refine J.nil ?_
      refine J.n_then ?_
      refine J.ret ?_
      exact J.ret1 rfl rfl (⟨_, rfl, _, rfl, hb, by intro h; have h1 := hv h; rw [List.take_of_length_le (by omega)] at h1; omega, e0⟩)
  · skip
    refine J.not_g rfl rfl rfl rfl rfl ?_
    refine J.not_g rfl rfl rfl rfl rfl ?_
    refine J.not_g rfl rfl rfl rfl rfl ?_
    refine J.op (Yd.pick_f rfl rfl) rfl ?_
    refine J.nil ?_
    refine J.n_then ?_
    refine J.cond_false rfl ?_
    refine J.exit ?_
    refine J.x_then ?_
    refine J.x_then ?_
    refine J.x_block ?_
    refine J.n_then ?_
    refine J.seq ?_
    refine J.region ?_
    refine J.op (Yd.move rfl) rfl ?_
    refine J.op (Yd.assign rfl) rfl ?_
    refine J.nil ?_
    refine J.n_then ?_
    refine J.ret ?_
    exact J.ret1 rfl rfl (⟨_, rfl, _, rfl, hb, by intro h; have h1 := hv h; rw [List.take_of_length_le (by omega)] at h1; omega, e0⟩)
end Ytphebleabcoakaa
end Go.Proofs
