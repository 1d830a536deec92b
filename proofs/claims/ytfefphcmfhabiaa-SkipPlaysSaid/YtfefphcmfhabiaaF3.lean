import Derived.Test.YtfefphcmfhabiaaT
import Derived.Test.YtfefphcmfhabiaaPA
import Derived.Test.YtfefphcmfhabiaaF2
set_option linter.unusedVariables false
set_option linter.unusedSimpArgs false
set_option maxRecDepth 100000
set_option maxHeartbeats 4000000
namespace Go.Proofs
open Go.X Go.RowKit
namespace Ytfefphcmfhabiaa
theorem Round_ok {k n : Int} {w : World} (hn : 1 ≤ n) (hn2 : n ≤ 4611686018427387904) : C Try.prog 14 [I k, I n] w (Ret fun v w' => v = I (k % n) ∧ Ext w w') := by
  have htb := tmod_bd k n hn
  have e0 := Ext.refl w
  refine C.enter Try.func14 rfl Try.ntmps14 rfl ?_
  refine J.seq ?_
  refine J.region ?_
  refine J.op (Yd.assign rfl) rfl ?_
  refine J.nil ?_
  refine J.n_then ?_
  refine J.seq ?_
  refine J.region ?_
  refine J.op (Yd.move rfl) rfl ?_
  refine J.op (Yd.move rfl) rfl ?_
  refine J.op (Yd.tmod rfl rfl (by omega)) rfl ?_
  refine J.op (Yd.assign rfl) rfl ?_
  refine J.nil ?_
  refine J.n_then ?_
  refine J.seq ?_
  refine J.seq ?_
  refine J.region ?_
  refine J.op (Yd.move rfl) rfl ?_
  refine J.op (Yd.lss rfl rfl) rfl ?_
  refine J.nil ?_
  refine J.n_then ?_
  refine J.cond_dec rfl (fun hc => ?_) (fun hc => ?_)
  · skip
    refine J.region ?_
    refine J.op (Yd.move rfl) rfl ?_
    refine J.op (Yd.move rfl) rfl ?_
    refine J.op (Yd.add rfl rfl (by first | omega | (simp only [Int.toNat_natCast]; omega) | (simp <;> omega))) rfl ?_
    refine J.op (Yd.assign rfl) rfl ?_
    refine J.nil ?_
    refine J.n_then ?_
    refine J.seq ?_
    refine J.region ?_
    refine J.op (Yd.move rfl) rfl ?_
    refine J.op (Yd.assign rfl) rfl ?_
    refine J.nil ?_
    refine J.n_then ?_
    refine J.ret ?_
    exact J.ret1 rfl rfl (⟨_, rfl, by first | rw [tmod_neg hn hc] | rw [tmod_pos hn hc], e0⟩)
  · skip
    refine J.skip ?_
    refine J.n_then ?_
    refine J.seq ?_
    refine J.region ?_
    refine J.op (Yd.move rfl) rfl ?_
    refine J.op (Yd.assign rfl) rfl ?_
    refine J.nil ?_
    refine J.n_then ?_
    refine J.ret ?_
    exact J.ret1 rfl rfl (⟨_, rfl, by first | rw [tmod_neg hn hc] | rw [tmod_pos hn hc], e0⟩)

theorem RCat_ok {s : Value} {vs : List Value} {ll : List (List UInt8)} {w : World} (hl : Rl w s vs ll) (ht : ll.flatten.length ≤ 70368744177664) : C Try.prog 44 [s] w (Ret fun v w' => Ob w.heap.size 5 w' v ll.flatten ∧ Ext w w') := by
  have hlm := Rd.max hl.rd
  rw [hl.len] at hlm
  have e0 := Ext.refl w
  refine C.enter Try.func44 rfl Try.ntmps44 rfl ?_
  refine J.seq ?_
  refine J.region ?_
  refine J.op (Yd.assign rfl) rfl ?_
  refine J.nil ?_
  refine J.n_then ?_
  refine J.seq ?_
  refine J.region ?_
  refine J.op (Yd.assign rfl) rfl ?_
  refine J.nil ?_
  refine J.n_then ?_
  refine J.seq ?_
  refine J.seq ?_
  refine J.region ?_
  refine J.op (Yd.assign rfl) rfl ?_
  refine J.nil ?_
  refine J.n_then ?_
  refine J.block ?_
  refine J.loop (ι := Nat × Value) (fun i => [(0, s), (3, i.2), (4, I i.1)]) (fun i w' => i.1 ≤ ll.length ∧ Ob w.heap.size 5 w' i.2 ((ll.take i.1).flatten) ∧ Ext w w') (fun i => ll.length - i.1) ((0, nilS)) ⟨rfl, rfl, rfl, trivial⟩ (⟨Nat.zero_le _, Ow.nil _ _ _, e0⟩) ?_
  rintro ⟨k, v⟩ w1 ⟨hk, ho, e0⟩
  dsimp only at hk ho ⊢
  have hft := flat_step ll k
  have hle := flat_le ll (k + 1)
  have hle0 := flat_le ll k
  refine J.seq ?_
  refine J.seq ?_
  refine J.region ?_
  refine J.op (Yd.move rfl) rfl ?_
  refine J.op (Yd.move rfl) rfl ?_
  refine J.op (Yd.len_l Try.underlying95 rfl (Rl.ext hl e0)) rfl ?_
  refine J.op (Yd.lss rfl rfl) rfl ?_
  refine J.nil ?_
  refine J.n_then ?_
  refine J.cond_dec rfl (fun hc0 => ?_) (fun hc0 => ?_)
  · skip
    refine J.skip ?_
    refine J.n_then ?_
    refine J.seq ?_
    refine J.block ?_
    refine J.region ?_
    refine J.op (Yd.move rfl) rfl ?_
    refine J.op (Yd.move rfl) rfl ?_
    refine J.op (Yd.move rfl) rfl ?_
    refine J.op (Yd.idx_l Try.underlying95 ti29 rfl rfl (Rl.ext hl e0) (by first | omega | (simp only [Int.toNat_natCast]; omega) | (simp <;> omega))) rfl ?_
    refine J.op (Yd.load pl29 rfl (Rl.cell (Rl.ext hl e0) (by first | omega | (simp only [Int.toNat_natCast]; omega) | (simp <;> omega)))) rfl ?_
    refine J.eff (Ye.appendM Try.underlying29 ti5 rfl rfl rfl rfl ho (Rl.at' (Rl.ext hl e0) (by first | omega | (simp only [Int.toNat_natCast]; omega) | (simp <;> omega))) (fun _ => rfl) (by have := hft (by omega); rw [Int.toNat_natCast]; omega) e0.size) rfl ?_
    rintro s16_2 w2 ⟨o16_2, hg⟩
    have e0 := e0.grown ho (Nat.le_refl _) hg
    clear hg
    refine J.op (Yd.assign rfl) rfl ?_
    refine J.nil ?_
    refine J.n_block ?_
    refine J.n_then ?_
    refine J.region ?_
    refine J.op (Yd.move rfl) rfl ?_
    refine J.op (Yd.add rfl rfl (by first | omega | (simp only [Int.toNat_natCast]; omega) | (simp <;> omega))) rfl ?_
    refine J.op (Yd.assign rfl) rfl ?_
    refine J.nil ?_
    refine J.n_then ?_
    exact J.round ((k + 1, s16_2)) ⟨rfl, rfl, rfl, trivial⟩ (⟨by show k + 1 ≤ ll.length; omega, by show Ob _ _ _ _ (ll.take (k + 1)).flatten; rw [flat_take ll k (by omega)]; exact o16_2, e0⟩) (by show ll.length - (k + 1) < ll.length - k; omega)
  · skip
    refine J.exit ?_
    refine J.x_then ?_
    refine J.x_then ?_
    refine J.x_block ?_
    refine J.n_then ?_
    refine J.seq ?_
    refine J.region ?_
    refine J.op (Yd.move rfl) rfl ?_
    refine J.op (Yd.assign rfl) rfl ?_
    refine J.nil ?_
    refine J.n_then ?_
    refine J.ret ?_
    exact J.ret1 rfl rfl (⟨_, rfl, by rw [List.take_of_length_le (by omega)] at ho; exact ho, e0⟩)
end Ytfefphcmfhabiaa
end Go.Proofs
