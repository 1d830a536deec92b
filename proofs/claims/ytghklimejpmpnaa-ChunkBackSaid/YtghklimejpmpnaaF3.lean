import Derived.Test.YtghklimejpmpnaaT
import Derived.Test.YtghklimejpmpnaaPA
import Derived.Test.YtghklimejpmpnaaF2
set_option linter.unusedVariables false
set_option linter.unusedSimpArgs false
set_option maxRecDepth 100000
set_option maxHeartbeats 4000000
namespace Go.Proofs
open Go.X Go.RowKit
namespace Ytghklimejpmpnaa
theorem Round_ok {k n : Int} {w : World} (hn : 1 ≤ n) (hn2 : n ≤ 4611686018427387904) : C Try.prog 26 [I k, I n] w (Ret fun v w' => v = I (k % n) ∧ Ext w w') := by
  have htb := tmod_bd k n hn
  have e0 := Ext.refl w
  refine C.enter Try.func26 rfl Try.ntmps26 rfl ?_
  refine J.seq ?_
  refine J.region ?_
  refine J.op (Yd.assign rfl) rfl ?_
  refine J.nil ?_
  refine J.n_then ?_
  refine J.seq ?_
  refine J.region ?_
  refine J.op (Yd.move rfl) rfl ?_
  refine J.op (Yd.move rfl) rfl ?_
  refine J.op (Yd.tmod rfl rfl (by omega)) rfl ?_
  refine J.op (Yd.assign rfl) rfl ?_
  refine J.nil ?_
  refine J.n_then ?_
  refine J.seq ?_
  refine J.seq ?_
  refine J.region ?_
  refine J.op (Yd.move rfl) rfl ?_
  refine J.op (Yd.lss rfl rfl) rfl ?_
  refine J.nil ?_
  refine J.n_then ?_
  refine J.cond_dec rfl (fun hc => ?_) (fun hc => ?_)
  · skip
    refine J.region ?_
    refine J.op (Yd.move rfl) rfl ?_
    refine J.op (Yd.move rfl) rfl ?_
    refine J.op (Yd.add rfl rfl (by first | omega | (simp only [Int.toNat_natCast]; omega) | (simp <;> omega))) rfl ?_
    refine J.op (Yd.assign rfl) rfl ?_
    refine J.nil ?_
    refine J.n_then ?_
    refine J.seq ?_
    refine J.region ?_
    refine J.op (Yd.move rfl) rfl ?_
    refine J.op (Yd.assign rfl) rfl ?_
    refine J.nil ?_
    refine J.n_then ?_
    refine J.ret ?_
    exact J.ret1 rfl rfl (⟨_, rfl, by first | rw [tmod_neg hn hc] | rw [tmod_pos hn hc], e0⟩)
  · skip
    refine J.skip ?_
    refine J.n_then ?_
    refine J.seq ?_
    refine J.region ?_
    refine J.op (Yd.move rfl) rfl ?_
    refine J.op (Yd.assign rfl) rfl ?_
    refine J.nil ?_
    refine J.n_then ?_
    refine J.ret ?_
    exact J.ret1 rfl rfl (⟨_, rfl, by first | rw [tmod_neg hn hc] | rw [tmod_pos hn hc], e0⟩)

theorem GrowB_ok {n : Int} {w : World} (hn : 0 ≤ n) (hn2 : n ≤ 70368744177664) : C Try.prog 54 [nilS, I n] w (Ret fun v w' => Ow w.heap.size 5 w' v [] ∧ Ext w w') := by
  have e0 := Ext.refl w
  refine C.enter Try.func54 rfl Try.ntmps54 rfl ?_
  refine J.seq ?_
  refine J.region ?_
  refine J.op (Yd.assign rfl) rfl ?_
  refine J.nil ?_
  refine J.n_then ?_
  refine J.seq ?_
  refine J.seq ?_
  refine J.region ?_
  refine J.op (Yd.move rfl) rfl ?_
  refine J.op (Yd.lss rfl rfl) rfl ?_
  refine J.nil ?_
  refine J.n_then ?_
  refine J.cond_dec rfl (fun hc0 => ?_) (fun hc0 => ?_)
  · skip
    exfalso; first | omega | (simp only [Int.toNat_natCast] at hc0; omega)
  · skip
    refine J.skip ?_
    refine J.n_then ?_
    refine J.seq ?_
    refine J.seq ?_
    refine J.region ?_
    refine J.op (Yd.move rfl) rfl ?_
    refine J.op (Yd.move rfl) rfl ?_
    refine J.op (Yd.cap_nil Try.underlying22 rfl) rfl ?_
    refine J.op (Yd.move rfl) rfl ?_
    refine J.op (Yd.len_nil Try.underlying22 rfl) rfl ?_
    refine J.op (Yd.sub rfl rfl (by first | omega | (simp only [Int.toNat_natCast]; omega) | (simp <;> omega))) rfl ?_
    refine J.op (Yd.sub rfl rfl (by first | omega | (simp only [Int.toNat_natCast]; omega) | (simp <;> omega))) rfl ?_
    refine J.op (Yd.assign rfl) rfl ?_
    refine J.nil ?_
    refine J.n_then ?_
    refine J.seq ?_
    refine J.region ?_
    refine J.op (Yd.move rfl) rfl ?_
    refine J.op (Yd.gtr rfl rfl) rfl ?_
    refine J.nil ?_
    refine J.n_then ?_
    refine J.cond_dec rfl (fun hc1 => ?_) (fun hc1 => ?_)
    · skip
      refine J.region ?_
      refine J.op (Yd.move rfl) rfl ?_
      refine J.op (Yd.move rfl) rfl ?_
      refine J.op (Yd.cap_nil Try.underlying22 rfl) rfl ?_
      refine J.op (Yd.slcH Try.underlying22 ti5 rfl (Rd.nil _) rfl (by simp)) rfl ?_
      refine J.op (Yd.move rfl) rfl ?_
      refine J.eff (Ye.appendZ (base := w.heap.size) Try.underlying22 Try.underlying3 ti5 rfl rfl rfl rfl (by omega) (by omega) e0.size) rfl ?_
      rintro s22_1 w1 ⟨o22_1, x1⟩
      have e0 := e0.trans x1
      clear x1
      refine J.op (Yd.move rfl) rfl ?_
      refine J.op (Yd.len_nil Try.underlying22 rfl) rfl ?_
      refine J.op (Yd.slcH Try.underlying22 ti5 rfl (Ow.rd o22_1) rfl (by simp <;> omega)) rfl ?_
      refine J.op (Yd.assign rfl) rfl ?_
      refine J.nil ?_
      refine J.n_then ?_
      refine J.seq ?_
      refine J.region ?_
      refine J.op (Yd.move rfl) rfl ?_
      refine J.op (Yd.assign rfl) rfl ?_
      refine J.nil ?_
      refine J.n_then ?_
      refine J.ret ?_
      exact J.ret1 rfl rfl (⟨_, rfl, (Ow.slc0 o22_1 0 (Nat.zero_le _)), e0⟩)
    · skip
      refine J.skip ?_
      refine J.n_then ?_
      refine J.seq ?_
      refine J.region ?_
      refine J.op (Yd.move rfl) rfl ?_
      refine J.op (Yd.assign rfl) rfl ?_
      refine J.nil ?_
      refine J.n_then ?_
      refine J.ret ?_
      exact J.ret1 rfl rfl (⟨_, rfl, Ow.nil _ _ _, e0⟩)

theorem ConcatB_ok {s : Value} {vs : List Value} {ll : List (List UInt8)} {w : World} (hl : Rl w s vs ll) (ht : ll.flatten.length ≤ 70368744177664) : C Try.prog 45 [s] w (Ret fun v w' => Ob w.heap.size 5 w' v ll.flatten ∧ Ext w w') := by
  have hlm := Rd.max hl.rd
  rw [hl.len] at hlm
  have e0 := Ext.refl w
  refine C.enter Try.func45 rfl Try.ntmps45 rfl ?_
  refine J.seq ?_
  refine J.region ?_
  refine J.op (Yd.assign rfl) rfl ?_
  refine J.nil ?_
  refine J.n_then ?_
  refine J.seq ?_
  refine J.region ?_
  refine J.op (Yd.assign rfl) rfl ?_
  refine J.nil ?_
  refine J.n_then ?_
  refine J.seq ?_
  refine J.seq ?_
  refine J.region ?_
  refine J.op (Yd.move rfl) rfl ?_
  refine J.op (Yd.len_l Try.underlying70 rfl hl) rfl ?_
  refine J.op (Yd.move rfl) rfl ?_
  refine J.nil ?_
  refine J.n_then ?_
  refine J.block ?_
  refine J.loop (ι := Nat) (fun i => [(0, s), (3, I ((ll.take i).flatten.length : Int)), (9, s), (10, I (ll.length : Int)), (11, I i)]) (fun i w' => i ≤ ll.length ∧ Ext w w') (fun i => ll.length - i) (0) ⟨rfl, rfl, rfl, rfl, rfl, trivial⟩ (⟨by omega, e0⟩) ?_
  rintro k w1 ⟨hk, e0⟩
  have hft := flat_step ll k
  have hle := flat_le ll (k + 1)
  have hle0 := flat_le ll k
  refine J.seq ?_
  refine J.region ?_
  refine J.op (Yd.lss rfl rfl) rfl ?_
  refine J.nil ?_
  refine J.n_then ?_
  refine J.seq ?_
  refine J.cond_dec rfl (fun hc0 => ?_) (fun hc0 => ?_)
  · skip
    refine J.skip ?_
    refine J.n_then ?_
    refine J.seq ?_
    refine J.block ?_
    refine J.seq ?_
    refine J.region ?_
    refine J.op (Yd.idx_l Try.underlying70 ti22 rfl rfl (Rl.ext hl e0) (by first | omega | (simp only [Int.toNat_natCast]; omega) | (simp <;> omega))) rfl ?_
    refine J.op (Yd.load pl22 rfl (Rl.cell (Rl.ext hl e0) (by first | omega | (simp only [Int.toNat_natCast]; omega) | (simp <;> omega)))) rfl ?_
    refine J.op (Yd.assign rfl) rfl ?_
    refine J.nil ?_
    refine J.n_then ?_
    refine J.seq ?_
    refine J.region ?_
    refine J.op (Yd.move rfl) rfl ?_
    refine J.op (Yd.move rfl) rfl ?_
    refine J.op (Yd.len_b Try.underlying22 rfl (Rl.at' (Rl.ext hl e0) (by first | omega | (simp only [Int.toNat_natCast]; omega) | (simp <;> omega)))) rfl ?_
    refine J.op (Yd.add rfl rfl (by first | omega | (simp only [Int.toNat_natCast]; omega) | (simp <;> omega))) rfl ?_
    refine J.op (Yd.assign rfl) rfl ?_
    refine J.nil ?_
    refine J.n_then ?_
    refine J.seq ?_
    refine J.region ?_
    refine J.op (Yd.move rfl) rfl ?_
    refine J.op (Yd.lss rfl rfl) rfl ?_
    refine J.nil ?_
    refine J.n_then ?_
    refine J.cond_dec rfl (fun hneg => ?_) (fun hneg => ?_)
    · skip
      exfalso; first | omega | (simp only [Int.toNat_natCast] at hneg; omega)
    · skip
      refine J.skip ?_
      refine J.n_block ?_
      refine J.n_then ?_
      refine J.region ?_
      refine J.op (Yd.add rfl rfl (by first | omega | (simp only [Int.toNat_natCast]; omega) | (simp <;> omega))) rfl ?_
      refine J.op (Yd.move rfl) rfl ?_
      refine J.nil ?_
      refine J.n_then ?_
      exact J.round (k + 1) ⟨rfl, (someI (by have := hft (by omega); simp only [Int.toNat_natCast]; omega)), rfl, rfl, rfl, trivial⟩ (⟨by omega, e0⟩) (by omega)
  · skip
    refine J.exit ?_
    refine J.x_then ?_
    refine J.x_then ?_
    refine J.x_block ?_
    refine J.n_then ?_
    refine J.seq ?_
    refine J.region ?_
    refine J.op (Yd.move rfl) rfl ?_
    refine J.eff (Ye.call cl54 rfl (GrowB_ok (by omega) (by omega))) rfl ?_
    rintro s24_2 w2 ⟨o24_2, x1⟩
    replace o24_2 := Ow.base o24_2 e0.size
    have e0 := e0.trans x1
    clear x1
    refine J.op (Yd.assign rfl) rfl ?_
    refine J.nil ?_
    refine J.n_then ?_
    refine J.seq ?_
    refine J.seq ?_
    refine J.region ?_
    refine J.op (Yd.move rfl) rfl ?_
    refine J.op (Yd.len_l Try.underlying70 rfl (Rl.ext hl e0)) rfl ?_
    refine J.op (Yd.move rfl) rfl ?_
    refine J.nil ?_
    refine J.n_then ?_
    refine J.block ?_
    refine J.loop (ι := Nat × Value) (fun i => [(6, i.2), (25, s), (26, I (ll.length : Int)), (27, I i.1)]) (fun i w' => i.1 ≤ ll.length ∧ Ob w.heap.size 5 w' i.2 ((ll.take i.1).flatten) ∧ Ext w w') (fun i => ll.length - i.1) ((0, s24_2)) ⟨rfl, rfl, rfl, rfl, trivial⟩ (⟨Nat.zero_le _, o24_2, e0⟩) ?_
    rintro ⟨k, v⟩ w3 ⟨hk, ho, e0⟩
    dsimp only at hk ho ⊢
    have hft := flat_step ll k
    have hle := flat_le ll (k + 1)
    have hle0 := flat_le ll k
    refine J.seq ?_
    refine J.region ?_
    refine J.op (Yd.lss rfl rfl) rfl ?_
    refine J.nil ?_
    refine J.n_then ?_
    refine J.seq ?_
    refine J.cond_dec rfl (fun hc2 => ?_) (fun hc2 => ?_)
    · skip
      refine J.skip ?_
      refine J.n_then ?_
      refine J.seq ?_
      refine J.block ?_
      refine J.seq ?_
      refine J.region ?_
      refine J.op (Yd.idx_l Try.underlying70 ti22 rfl rfl (Rl.ext hl e0) (by first | omega | (simp only [Int.toNat_natCast]; omega) | (simp <;> omega))) rfl ?_
      refine J.op (Yd.load pl22 rfl (Rl.cell (Rl.ext hl e0) (by first | omega | (simp only [Int.toNat_natCast]; omega) | (simp <;> omega)))) rfl ?_
      refine J.op (Yd.assign rfl) rfl ?_
      refine J.nil ?_
      refine J.n_then ?_
      refine J.region ?_
      refine J.op (Yd.move rfl) rfl ?_
      refine J.op (Yd.move rfl) rfl ?_
      refine J.eff (Ye.appendM Try.underlying22 ti5 rfl rfl rfl rfl ho (Rl.at' (Rl.ext hl e0) (by first | omega | (simp only [Int.toNat_natCast]; omega) | (simp <;> omega))) (fun _ => rfl) (by have := hft (by omega); rw [Int.toNat_natCast]; omega) e0.size) rfl ?_
      rintro s33_4 w4 ⟨o33_4, hg⟩
      have e0 := e0.grown ho (Nat.le_refl _) hg
      clear hg
      refine J.op (Yd.assign rfl) rfl ?_
      refine J.nil ?_
      refine J.n_block ?_
      refine J.n_then ?_
      refine J.region ?_
      refine J.op (Yd.add rfl rfl (by first | omega | (simp only [Int.toNat_natCast]; omega) | (simp <;> omega))) rfl ?_
      refine J.op (Yd.move rfl) rfl ?_
      refine J.nil ?_
      refine J.n_then ?_
      exact J.round ((k + 1, s33_4)) ⟨rfl, rfl, rfl, rfl, trivial⟩ (⟨by show k + 1 ≤ ll.length; omega, by show Ob _ _ _ _ (ll.take (k + 1)).flatten; rw [flat_take ll k (by omega)]; exact o33_4, e0⟩) (by show ll.length - (k + 1) < ll.length - k; omega)
    · skip
      refine J.exit ?_
      refine J.x_then ?_
      refine J.x_then ?_
      refine J.x_block ?_
      refine J.n_then ?_
      refine J.seq ?_
      refine J.region ?_
      refine J.op (Yd.move rfl) rfl ?_
      refine J.op (Yd.assign rfl) rfl ?_
      refine J.nil ?_
      refine J.n_then ?_
      refine J.ret ?_
      exact J.ret1 rfl rfl (⟨_, rfl, by rw [List.take_of_length_le (by omega)] at ho; exact ho, e0⟩)

theorem Cat_ok {s : Value} {vs : List Value} {ll : List (List UInt8)} {w : World} (hl : Rl w s vs ll) (ht : ll.flatten.length ≤ 70368744177664) : C Try.prog 30 [s] w (Ret fun v w' => Ob w.heap.size 5 w' v ll.flatten ∧ Ext w w') := by
  have e0 := Ext.refl w
  refine C.enter Try.func30 rfl Try.ntmps30 rfl ?_
  refine J.seq ?_
  refine J.region ?_
  refine J.op (Yd.assign rfl) rfl ?_
  refine J.nil ?_
  refine J.n_then ?_
  refine J.seq ?_
  refine J.region ?_
  refine J.op (Yd.move rfl) rfl ?_
  refine J.eff (Ye.call cl45 rfl (ConcatB_ok hl (by first | omega | (simp [beN_len, leN_len, flipL_len, xorL_len] <;> omega)))) rfl ?_
  rintro s4_1 w1 ⟨o4_1, x1⟩
  replace o4_1 := Ow.base o4_1 e0.size
  have e0 := e0.trans x1
  clear x1
  refine J.op (Yd.assign rfl) rfl ?_
  refine J.nil ?_
  refine J.n_then ?_
  refine J.ret ?_
  exact J.ret1 rfl rfl (⟨_, rfl, o4_1, e0⟩)

theorem RCat_ok {s : Value} {vs : List Value} {ll : List (List UInt8)} {w : World} (hl : Rl w s vs ll) (ht : ll.flatten.length ≤ 70368744177664) : C Try.prog 35 [s] w (Ret fun v w' => Ob w.heap.size 5 w' v ll.flatten ∧ Ext w w') := by
  have hlm := Rd.max hl.rd
  rw [hl.len] at hlm
  have e0 := Ext.refl w
  refine C.enter Try.func35 rfl Try.ntmps35 rfl ?_
  refine J.seq ?_
  refine J.region ?_
  refine J.op (Yd.assign rfl) rfl ?_
  refine J.nil ?_
  refine J.n_then ?_
  refine J.seq ?_
  refine J.region ?_
  refine J.op (Yd.assign rfl) rfl ?_
  refine J.nil ?_
  refine J.n_then ?_
  refine J.seq ?_
  refine J.seq ?_
  refine J.region ?_
  refine J.op (Yd.assign rfl) rfl ?_
  refine J.nil ?_
  refine J.n_then ?_
  refine J.block ?_
  refine J.loop (ι := Nat × Value) (fun i => [(0, s), (3, i.2), (4, I i.1)]) (fun i w' => i.1 ≤ ll.length ∧ Ob w.heap.size 5 w' i.2 ((ll.take i.1).flatten) ∧ Ext w w') (fun i => ll.length - i.1) ((0, nilS)) ⟨rfl, rfl, rfl, trivial⟩ (⟨Nat.zero_le _, Ow.nil _ _ _, e0⟩) ?_
  rintro ⟨k, v⟩ w1 ⟨hk, ho, e0⟩
  dsimp only at hk ho ⊢
  have hft := flat_step ll k
  have hle := flat_le ll (k + 1)
  have hle0 := flat_le ll k
  refine J.seq ?_
  refine J.seq ?_
  refine J.region ?_
  refine J.op (Yd.move rfl) rfl ?_
  refine J.op (Yd.move rfl) rfl ?_
  refine J.op (Yd.len_l Try.underlying70 rfl (Rl.ext hl e0)) rfl ?_
  refine J.op (Yd.lss rfl rfl) rfl ?_
  refine J.nil ?_
  refine J.n_then ?_
  refine J.cond_dec rfl (fun hc0 => ?_) (fun hc0 => ?_)
  · skip
    refine J.skip ?_
    refine J.n_then ?_
    refine J.seq ?_
    refine J.block ?_
    refine J.region ?_
    refine J.op (Yd.move rfl) rfl ?_
    refine J.op (Yd.move rfl) rfl ?_
    refine J.op (Yd.move rfl) rfl ?_
    refine J.op (Yd.idx_l Try.underlying70 ti22 rfl rfl (Rl.ext hl e0) (by first | omega | (simp only [Int.toNat_natCast]; omega) | (simp <;> omega))) rfl ?_
    refine J.op (Yd.load pl22 rfl (Rl.cell (Rl.ext hl e0) (by first | omega | (simp only [Int.toNat_natCast]; omega) | (simp <;> omega)))) rfl ?_
    refine J.eff (Ye.appendM Try.underlying22 ti5 rfl rfl rfl rfl ho (Rl.at' (Rl.ext hl e0) (by first | omega | (simp only [Int.toNat_natCast]; omega) | (simp <;> omega))) (fun _ => rfl) (by have := hft (by omega); rw [Int.toNat_natCast]; omega) e0.size) rfl ?_
    rintro s16_2 w2 ⟨o16_2, hg⟩
    have e0 := e0.grown ho (Nat.le_refl _) hg
    clear hg
    refine J.op (Yd.assign rfl) rfl ?_
    refine J.nil ?_
    refine J.n_block ?_
    refine J.n_then ?_
    refine J.region ?_
    refine J.op (Yd.move rfl) rfl ?_
    refine J.op (Yd.add rfl rfl (by first | omega | (simp only [Int.toNat_natCast]; omega) | (simp <;> omega))) rfl ?_
    refine J.op (Yd.assign rfl) rfl ?_
    refine J.nil ?_
    refine J.n_then ?_
    exact J.round ((k + 1, s16_2)) ⟨rfl, rfl, rfl, trivial⟩ (⟨by show k + 1 ≤ ll.length; omega, by show Ob _ _ _ _ (ll.take (k + 1)).flatten; rw [flat_take ll k (by omega)]; exact o16_2, e0⟩) (by show ll.length - (k + 1) < ll.length - k; omega)
  · skip
    refine J.exit ?_
    refine J.x_then ?_
    refine J.x_then ?_
    refine J.x_block ?_
    refine J.n_then ?_
    refine J.seq ?_
    refine J.region ?_
    refine J.op (Yd.move rfl) rfl ?_
    refine J.op (Yd.assign rfl) rfl ?_
    refine J.nil ?_
    refine J.n_then ?_
    refine J.ret ?_
    exact J.ret1 rfl rfl (⟨_, rfl, by rw [List.take_of_length_le (by omega)] at ho; exact ho, e0⟩)
end Ytghklimejpmpnaa
end Go.Proofs
