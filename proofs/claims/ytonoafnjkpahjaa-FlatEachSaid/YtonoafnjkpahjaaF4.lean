import Derived.Test.YtonoafnjkpahjaaT
import Derived.Test.YtonoafnjkpahjaaPA
import Derived.Test.YtonoafnjkpahjaaF3
set_option linter.unusedVariables false
set_option linter.unusedSimpArgs false
set_option maxRecDepth 100000
set_option maxHeartbeats 4000000
namespace Go.Proofs
open Go.X Go.RowKit
namespace Ytonoafnjkpahjaa
theorem Flip_ok {a : Value} {l : List UInt8} {bit : Int} {w : World} (ha : Bs w a l) (hl : l.length ≤ 1000000) : C Try.prog 28 [a, I bit] w (Ret fun v w' => Ob w.heap.size 5 w' v (flipL l bit) ∧ Ext w w') := by
  have e0 := Ext.refl w
  refine C.enter Try.func28 rfl Try.ntmps28 rfl ?_
  refine J.seq ?_
  refine J.region ?_
  refine J.op (Yd.assign rfl) rfl ?_
  refine J.nil ?_
  refine J.n_then ?_
  refine J.seq ?_
  refine J.region ?_
  refine J.eff (Ye.lit0 (base := w.heap.size) (f := (fun x : UInt8 => B x)) Try.underlying22 ti5 rfl e0.size) rfl ?_
  rintro s7_1 w1 ⟨o7_1, x1⟩
  have e0 := e0.trans x1
  clear x1
  refine J.op (Yd.move rfl) rfl ?_
  refine J.eff (Ye.appendM Try.underlying22 ti5 rfl rfl rfl rfl o7_1 (Rd.ext ha e0) (fun _ => rfl) (by first | omega | (simp only [Int.toNat_natCast]; omega) | (simp <;> omega)) e0.size) rfl ?_
  rintro s9_2 w2 ⟨o9_2, hg⟩
  have e0 := e0.grown o7_1 (Nat.le_refl _) hg
  clear hg
  rw [List.nil_append] at o9_2
  refine J.op (Yd.assign rfl) rfl ?_
  refine J.nil ?_
  refine J.n_then ?_
  refine J.seq ?_
  refine J.seq ?_
  refine J.region ?_
  refine J.op (Yd.move rfl) rfl ?_
  refine J.op (Yd.len_b Try.underlying22 rfl (Ow.rd o9_2)) rfl ?_
  refine J.op (Yd.gtr rfl rfl) rfl ?_
  refine J.nil ?_
  refine J.n_then ?_
  refine J.cond_dec rfl (fun hc => ?_) (fun hc => ?_)
  · skip
    have hb0 := Int.emod_nonneg bit (show (8 * (l.length : Int)) ≠ 0 by omega)
    have hb1 := Int.emod_lt_of_pos bit (show (0 : Int) < 8 * (l.length : Int) by omega)
    refine J.seq ?_
    refine J.region ?_
    refine J.op (Yd.move rfl) rfl ?_
    refine J.op (Yd.move rfl) rfl ?_
    refine J.op (Yd.len_b Try.underlying22 rfl (Ow.rd o9_2)) rfl ?_
    refine J.op (Yd.mul rfl rfl (by first | omega | (simp only [Int.toNat_natCast]; omega) | (simp <;> omega))) rfl ?_
    refine J.eff (Ye.call cl19 rfl (Round_ok (by omega) (by omega))) rfl ?_
    rintro _ w3 ⟨rfl, x1⟩
    have e0 := e0.trans x1
    have o9_2 := o9_2.ext x1
    clear x1
    refine J.op (Yd.assign rfl) rfl ?_
    refine J.nil ?_
    refine J.n_then ?_
    refine J.regionO [(0, true), (1, true), (2, true), (3, true), (4, true), (5, true), (8, true), (9, true), (10, true), (6, false), (7, false), (11, true), (12, false), (13, false)] [] [] mix (by kernel_rfl) ?_
    refine J.s_op rfl (fun _ => Yd.move rfl) rfl ?_
    refine J.s_op rfl (fun _ => Yd.move rfl) rfl ?_
    refine J.s_op rfl (fun _ => Yd.quo rfl rfl (by first | omega | (simp only [Int.toNat_natCast]; omega) | (simp <;> omega)) (by first | omega | (simp only [Int.toNat_natCast]; omega) | (simp <;> omega)) (by first | omega | (simp only [Int.toNat_natCast]; omega) | (simp <;> omega))) rfl ?_
    refine J.s_op rfl (fun _ => Yd.move rfl) rfl ?_
    refine J.s_op rfl (fun _ => Yd.move rfl) rfl ?_
    refine J.s_op rfl (fun _ => Yd.quo rfl rfl (by first | omega | (simp only [Int.toNat_natCast]; omega) | (simp <;> omega)) (by first | omega | (simp only [Int.toNat_natCast]; omega) | (simp <;> omega)) (by first | omega | (simp only [Int.toNat_natCast]; omega) | (simp <;> omega))) rfl ?_
    refine J.s_op rfl (fun _ => Yd.move rfl) rfl ?_
    refine J.s_op rfl (fun _ => Yd.rem rfl rfl (by first | omega | (simp only [Int.toNat_natCast]; omega) | (simp <;> omega)) (by first | omega | (simp only [Int.toNat_natCast]; omega) | (simp <;> omega))) rfl ?_
    refine J.s_op rfl (fun _ => Yd.shl_u8 (m := 1) rfl rfl (by first | omega | (simp only [Int.toNat_natCast]; omega) | (simp <;> omega))) rfl ?_
    refine J.s_one rfl (Yd.idx_b Try.underlying22 ti5 rfl rfl (Ow.rd o9_2) (by first | omega | (simp only [Int.toNat_natCast]; omega) | (simp <;> omega))) rfl ?_
    refine J.s_one rfl (Yd.load pl5 rfl (Bs.cell (Ow.rd o9_2) (by first | omega | (simp only [Int.toNat_natCast]; omega) | (simp <;> omega)))) rfl ?_
    refine J.s_op rfl (fun _ => Yd.xor_u8 rfl rfl) rfl ?_
    refine J.s_one rfl (Yd.idx_b Try.underlying22 ti5 rfl rfl (Ow.rd o9_2) (by first | omega | (simp only [Int.toNat_natCast]; omega) | (simp <;> omega))) rfl ?_
    refine J.s_eff0 rfl (Ye.storeOwM ti5 o9_2 rfl rfl (by first | omega | (simp only [Int.toNat_natCast]; omega) | (simp <;> omega)) (fun _ => rfl) (fun _ => rfl)) ?_
    rintro _ w4 ⟨o', hg⟩
    have e0 := e0.grown o9_2 (Nat.le_refl _) hg
    replace o9_2 := o'
    clear hg o'
    refine J.s_nil ?_
    refine J.o_nil ?_
    refine J.s_nil ?_
    refine J.n_np ?_
    refine J.n_then ?_
    refine J.seq ?_
    refine J.region ?_
    refine J.op (Yd.move rfl) rfl ?_
    refine J.op (Yd.assign rfl) rfl ?_
    refine J.nil ?_
    refine J.n_then ?_
    refine J.ret ?_
    exact J.ret1 rfl rfl (⟨_, rfl, by first | (unfold flipL; rw [if_neg (by omega)]; exact o9_2) | (have h0 : l = [] := List.eq_nil_of_length_eq_zero (by omega); subst h0; exact o9_2), e0⟩)
  · skip
    refine J.skip ?_
    refine J.n_then ?_
    refine J.seq ?_
    refine J.region ?_
    refine J.op (Yd.move rfl) rfl ?_
    refine J.op (Yd.assign rfl) rfl ?_
    refine J.nil ?_
    refine J.n_then ?_
    refine J.ret ?_
    exact J.ret1 rfl rfl (⟨_, rfl, by first | (unfold flipL; rw [if_neg (by omega)]; exact o9_2) | (have h0 : l = [] := List.eq_nil_of_length_eq_zero (by omega); subst h0; exact o9_2), e0⟩)

theorem RXor_ok {a b : Value} {l m : List UInt8} {w : World} (ha : Bs w a l) (hb : Bs w b m) (hl : l.length ≤ 70368744177664) : C Try.prog 30 [a, b] w (Ret fun v w' => Ob w.heap.size 5 w' v (xorL l m) ∧ Ext w w') := by
  have hma := Bs.max ha
  have hxl := xorL_len l m
  have e0 := Ext.refl w
  refine C.enter Try.func30 rfl Try.ntmps30 rfl ?_
  refine J.seq ?_
  refine J.region ?_
  refine J.op (Yd.assign rfl) rfl ?_
  refine J.nil ?_
  refine J.n_then ?_
  refine J.seq ?_
  refine J.region ?_
  refine J.op (Yd.assign rfl) rfl ?_
  refine J.nil ?_
  refine J.n_then ?_
  refine J.seq ?_
  refine J.seq ?_
  refine J.region ?_
  refine J.op (Yd.assign rfl) rfl ?_
  refine J.nil ?_
  refine J.n_then ?_
  refine J.block ?_
  refine J.loop (ι := Nat × Value) (fun i => [(0, a), (1, b), (5, i.2), (6, I i.1)]) (fun i w' => i.1 ≤ min l.length m.length ∧ Ob w.heap.size 5 w' i.2 ((xorL l m).take i.1) ∧ Ext w w') (fun i => l.length - i.1) ((0, nilS)) ⟨rfl, rfl, rfl, rfl, trivial⟩ (⟨Nat.zero_le _, Ow.nil _ _ _, e0⟩) ?_
  rintro ⟨k, v⟩ w1 ⟨hk, ho, e0⟩
  dsimp only at hk ho ⊢
  have htk := List.length_take_le k (xorL l m)
  refine J.seq ?_
  refine J.seq ?_
  refine J.region ?_
  refine J.op (Yd.move rfl) rfl ?_
  refine J.op (Yd.move rfl) rfl ?_
  refine J.op (Yd.len_b Try.underlying22 rfl (Rd.ext ha e0)) rfl ?_
  refine J.op (Yd.lss rfl rfl) rfl ?_
  refine J.op (Yd.move rfl) rfl ?_
  refine J.split_dec (t := 11) rfl (fun hg => ?_) (fun hg => ?_)
  · skip
    refine J.op_g rfl rfl rfl (Yd.move rfl) rfl ?_
    refine J.op_g rfl rfl rfl (Yd.move rfl) rfl ?_
    refine J.op_g rfl rfl rfl (Yd.len_b Try.underlying22 rfl (Rd.ext hb e0)) rfl ?_
    refine J.op_g rfl rfl rfl (Yd.lss rfl rfl) rfl ?_
    refine J.op (Yd.pick_t rfl rfl) rfl ?_
    refine J.nil ?_
    refine J.n_then ?_
    refine J.cond_dec rfl (fun hc0 => ?_) (fun hc0 => ?_)
    · skip
      refine J.skip ?_
      refine J.n_then ?_
      refine J.seq ?_
      refine J.block ?_
      refine J.regionO [(0, true), (1, true), (2, true), (5, true), (6, true)] [(3, 1), (4, 1), (7, 1), (8, 1)] [(9, true), (10, false), (11, false), (12, true)] mix (by kernel_rfl) ?_
      refine J.s_op rfl (fun _ => Yd.move rfl) rfl ?_
      refine J.s_op rfl (fun _ => Yd.move rfl) rfl ?_
      refine J.s_op rfl (fun _ => Yd.move rfl) rfl ?_
      refine J.s_op rfl (fun _ => Yd.move rfl) rfl ?_
      refine J.s_op rfl (fun _ => Yd.move rfl) rfl ?_
      refine J.s_nil ?_
      refine J.o_op rfl (Yd.idx_b Try.underlying22 ti5 rfl rfl (Rd.ext ha e0) (by first | omega | (simp only [Int.toNat_natCast]; omega) | (simp <;> omega))) rfl ?_
      refine J.o_op rfl (Yd.load pl5 rfl (Bs.cell (Rd.ext ha e0) (by first | omega | (simp only [Int.toNat_natCast]; omega) | (simp <;> omega)))) rfl ?_
      refine J.o_op rfl (Yd.idx_b Try.underlying22 ti5 rfl rfl (Rd.ext hb e0) (by first | omega | (simp only [Int.toNat_natCast]; omega) | (simp <;> omega))) rfl ?_
      refine J.o_op rfl (Yd.load pl5 rfl (Bs.cell (Rd.ext hb e0) (by first | omega | (simp only [Int.toNat_natCast]; omega) | (simp <;> omega)))) rfl ?_
      refine J.o_nil ?_
      refine J.s_op rfl (fun _ => Yd.xor_u8 rfl rfl) rfl ?_
      refine J.s_eff rfl (Ye.lit1 (base := w.heap.size) (f := (fun x : UInt8 => B x)) Try.underlying22 ti5 rfl rfl (fun _ => rfl) e0.size) rfl ?_
      rintro s29_2 w2 ⟨o29_2, x1⟩
      have e0 := e0.trans x1
      have ho := ho.ext x1
      clear x1
      refine J.s_eff rfl (Ye.appendM Try.underlying22 ti5 rfl rfl rfl rfl ho (Ow.rd o29_2) (fun _ => rfl) (by first | omega | (simp only [Int.toNat_natCast]; omega) | (simp <;> omega)) e0.size) rfl ?_
      rintro s30_3 w3 ⟨o30_3, hg⟩
      have e0 := e0.grown ho (Nat.le_refl _) hg
      -- other own rows: o29_2
      clear hg
      refine J.s_op rfl (fun _ => Yd.assign rfl) rfl ?_
      refine J.s_nil ?_
      refine J.n_np ?_
      refine J.n_block ?_
      refine J.n_then ?_
      refine J.region ?_
      refine J.op (Yd.move rfl) rfl ?_
      refine J.op (Yd.add rfl rfl (by first | omega | (simp only [Int.toNat_natCast]; omega) | (simp <;> omega))) rfl ?_
      refine J.op (Yd.assign rfl) rfl ?_
      refine J.nil ?_
      refine J.n_then ?_
      exact J.round ((k + 1, s30_3)) ⟨rfl, rfl, rfl, rfl, trivial⟩ (⟨by show k + 1 ≤ min l.length m.length; omega, by show Ob _ _ _ _ ((xorL l m).take (k + 1)); rw [xorL_take l m k (by omega) (by omega)]; exact o30_3, e0⟩) (by show l.length - (k + 1) < l.length - k; omega)
    · skip
      refine J.exit ?_
      refine J.x_then ?_
      refine J.x_then ?_
      refine J.x_block ?_
      refine J.n_then ?_
      refine J.seq ?_
      refine J.region ?_
      refine J.op (Yd.move rfl) rfl ?_
      refine J.op (Yd.assign rfl) rfl ?_
      refine J.nil ?_
      refine J.n_then ?_
      refine J.ret ?_
      exact J.ret1 rfl rfl (⟨_, rfl, by rw [List.take_of_length_le (by omega)] at ho; exact ho, e0⟩)
  · skip
    refine J.not_g rfl rfl rfl rfl rfl ?_
    refine J.not_g rfl rfl rfl rfl rfl ?_
    refine J.not_g rfl rfl rfl rfl rfl ?_
    refine J.not_g rfl rfl rfl rfl rfl ?_
    refine J.op (Yd.pick_f rfl rfl) rfl ?_
    refine J.nil ?_
    refine J.n_then ?_
    refine J.cond_false rfl ?_
    refine J.exit ?_
    refine J.x_then ?_
    refine J.x_then ?_
    refine J.x_block ?_
    refine J.n_then ?_
    refine J.seq ?_
    refine J.region ?_
    refine J.op (Yd.move rfl) rfl ?_
    refine J.op (Yd.assign rfl) rfl ?_
    refine J.nil ?_
    refine J.n_then ?_
    refine J.ret ?_
    exact J.ret1 rfl rfl (⟨_, rfl, by rw [List.take_of_length_le (by omega)] at ho; exact ho, e0⟩)

theorem RLittle_ok {v : UInt64} {n : Nat} {w : World} (hn : n ≤ 8) : C Try.prog 32 [W64 v, I n] w (Ret fun r w' => Ob w.heap.size 5 w' r (leN v n) ∧ Ext w w') := by
  have e0 := Ext.refl w
  refine C.enter Try.func32 rfl Try.ntmps32 rfl ?_
  refine J.seq ?_
  refine J.region ?_
  refine J.op (Yd.assign rfl) rfl ?_
  refine J.nil ?_
  refine J.n_then ?_
  refine J.seq ?_
  refine J.region ?_
  refine J.op (Yd.move rfl) rfl ?_
  refine J.eff (Ye.make (n := (n : Int)) (w.heap.size) Try.underlying22 ti5 rfl rfl (by omega) (by omega) (by unfold maxLen; omega) rfl e0.size) rfl ?_
  rintro s8_1 w1 ⟨o8_1, x1⟩
  have e0 := e0.trans x1
  clear x1
  rw [rep_B] at o8_1
  refine J.op (Yd.assign rfl) rfl ?_
  refine J.nil ?_
  refine J.n_then ?_
  refine J.seq ?_
  refine J.seq ?_
  refine J.region ?_
  refine J.op (Yd.assign rfl) rfl ?_
  refine J.nil ?_
  refine J.n_then ?_
  refine J.block ?_
  refine J.loop (ι := Nat) (fun i => [(0, W64 v), (1, I (n : Int)), (5, s8_1), (6, I i)]) (fun i w' => i ≤ n ∧ Ob w.heap.size 5 w' s8_1 (leN v i ++ List.replicate (n - i) 0) ∧ Ext w w') (fun i => n - i) (0) ⟨rfl, rfl, rfl, rfl, trivial⟩ (⟨by omega, by have h := o8_1; rw [Int.toNat_natCast] at h; exact h, e0⟩) ?_
  rintro k w2 ⟨hk, ho, e0⟩
  refine J.seq ?_
  refine J.seq ?_
  refine J.region ?_
  refine J.op (Yd.move rfl) rfl ?_
  refine J.op (Yd.move rfl) rfl ?_
  refine J.op (Yd.lss rfl rfl) rfl ?_
  refine J.nil ?_
  refine J.n_then ?_
  refine J.cond_dec rfl (fun hc0 => ?_) (fun hc0 => ?_)
  · skip
    refine J.skip ?_
    refine J.n_then ?_
    refine J.seq ?_
    refine J.block ?_
    refine J.region ?_
    refine J.op (Yd.move rfl) rfl ?_
    refine J.op (Yd.move rfl) rfl ?_
    refine J.op (Yd.move rfl) rfl ?_
    refine J.op (Yd.move rfl) rfl ?_
    refine J.op (Yd.mul rfl rfl (by first | omega | (simp only [Int.toNat_natCast]; omega) | (simp <;> omega))) rfl ?_
    refine J.op (Yd.shr_u64 rfl rfl (by first | omega | (simp only [Int.toNat_natCast]; omega) | (simp <;> omega))) rfl ?_
    refine J.op (Yd.cv_64_8 Try.underlying23 Try.underlying5 rfl) rfl ?_
    refine J.op (Yd.idx_b Try.underlying22 ti5 rfl rfl (Ow.rd ho) (by simp [leN_len]; omega)) rfl ?_
    refine J.eff0 (Ye.storeOwM ti5 ho rfl rfl (by simp [leN_len]; omega) (fun _ => rfl) (fun _ => rfl)) ?_
    rintro _ w3 ⟨o', hg⟩
    have e0 := e0.grown ho (Nat.le_refl _) hg
    replace ho := o'
    clear hg o'
    refine J.nil ?_
    refine J.n_block ?_
    refine J.n_then ?_
    refine J.region ?_
    refine J.op (Yd.move rfl) rfl ?_
    refine J.op (Yd.add rfl rfl (by first | omega | (simp only [Int.toNat_natCast]; omega) | (simp <;> omega))) rfl ?_
    refine J.op (Yd.assign rfl) rfl ?_
    refine J.nil ?_
    refine J.n_then ?_
    rw [show n - k = (n - (k + 1)) + 1 by omega, set_front (leN v k) (n - (k + 1)) 0 _ (by rw [leN_len]; omega)] at ho
    rw [show (leN v k ++ [(shr_u64 v (8 * (k : Int)).toNat).toUInt8]) = leN v (k + 1) from by rw [leN_succ, show ((8 * (k : Int)).toNat) = 8 * k by omega]] at ho
    exact J.round (k + 1) ⟨rfl, rfl, rfl, rfl, trivial⟩ (⟨by omega, ho, e0⟩) (by omega)
  · skip
    refine J.exit ?_
    refine J.x_then ?_
    refine J.x_then ?_
    refine J.x_block ?_
    refine J.n_then ?_
    refine J.seq ?_
    refine J.region ?_
    refine J.op (Yd.move rfl) rfl ?_
    refine J.op (Yd.assign rfl) rfl ?_
    refine J.nil ?_
    refine J.n_then ?_
    refine J.ret ?_
    exact J.ret1 rfl rfl (⟨_, rfl, by rw [show k = n by omega] at ho; simpa using ho, e0⟩)

theorem RBig_ok {v : UInt64} {n : Nat} {w : World} (hn : n ≤ 8) : C Try.prog 31 [W64 v, I n] w (Ret fun r w' => Ob w.heap.size 5 w' r (beN v n) ∧ Ext w w') := by
  have e0 := Ext.refl w
  refine C.enter Try.func31 rfl Try.ntmps31 rfl ?_
  refine J.seq ?_
  refine J.region ?_
  refine J.op (Yd.assign rfl) rfl ?_
  refine J.nil ?_
  refine J.n_then ?_
  refine J.seq ?_
  refine J.region ?_
  refine J.op (Yd.move rfl) rfl ?_
  refine J.eff (Ye.make (n := (n : Int)) (w.heap.size) Try.underlying22 ti5 rfl rfl (by omega) (by omega) (by unfold maxLen; omega) rfl e0.size) rfl ?_
  rintro s8_1 w1 ⟨o8_1, x1⟩
  have e0 := e0.trans x1
  clear x1
  rw [rep_B] at o8_1
  refine J.op (Yd.assign rfl) rfl ?_
  refine J.nil ?_
  refine J.n_then ?_
  refine J.seq ?_
  refine J.seq ?_
  refine J.region ?_
  refine J.op (Yd.assign rfl) rfl ?_
  refine J.nil ?_
  refine J.n_then ?_
  refine J.block ?_
  refine J.loop (ι := Nat) (fun i => [(0, W64 v), (1, I (n : Int)), (5, s8_1), (6, I i)]) (fun i w' => i ≤ n ∧ Ob w.heap.size 5 w' s8_1 (List.replicate (n - i) 0 ++ beN v i) ∧ Ext w w') (fun i => n - i) (0) ⟨rfl, rfl, rfl, rfl, trivial⟩ (⟨by omega, by have h := o8_1; rw [Int.toNat_natCast] at h; rw [show (List.replicate (n - 0) (0 : UInt8) ++ beN v 0) = List.replicate n 0 from by simp [beN, leN]]; exact h, e0⟩) ?_
  rintro k w2 ⟨hk, ho, e0⟩
  refine J.seq ?_
  refine J.seq ?_
  refine J.region ?_
  refine J.op (Yd.move rfl) rfl ?_
  refine J.op (Yd.move rfl) rfl ?_
  refine J.op (Yd.lss rfl rfl) rfl ?_
  refine J.nil ?_
  refine J.n_then ?_
  refine J.cond_dec rfl (fun hc0 => ?_) (fun hc0 => ?_)
  · skip
    refine J.skip ?_
    refine J.n_then ?_
    refine J.seq ?_
    refine J.block ?_
    refine J.region ?_
    refine J.op (Yd.move rfl) rfl ?_
    refine J.op (Yd.move rfl) rfl ?_
    refine J.op (Yd.sub rfl rfl (by first | omega | (simp only [Int.toNat_natCast]; omega) | (simp <;> omega))) rfl ?_
    refine J.op (Yd.move rfl) rfl ?_
    refine J.op (Yd.sub rfl rfl (by first | omega | (simp only [Int.toNat_natCast]; omega) | (simp <;> omega))) rfl ?_
    refine J.op (Yd.move rfl) rfl ?_
    refine J.op (Yd.move rfl) rfl ?_
    refine J.op (Yd.mul rfl rfl (by first | omega | (simp only [Int.toNat_natCast]; omega) | (simp <;> omega))) rfl ?_
    refine J.op (Yd.shr_u64 rfl rfl (by first | omega | (simp only [Int.toNat_natCast]; omega) | (simp <;> omega))) rfl ?_
    refine J.op (Yd.cv_64_8 Try.underlying23 Try.underlying5 rfl) rfl ?_
    refine J.op (Yd.idx_b Try.underlying22 ti5 rfl rfl (Ow.rd ho) (by simp [leN_len]; omega)) rfl ?_
    refine J.eff0 (Ye.storeOwM ti5 ho rfl rfl (by simp [leN_len]; omega) (fun _ => rfl) (fun _ => rfl)) ?_
    rintro _ w3 ⟨o', hg⟩
    have e0 := e0.grown ho (Nat.le_refl _) hg
    replace ho := o'
    clear hg o'
    refine J.nil ?_
    refine J.n_block ?_
    refine J.n_then ?_
    refine J.region ?_
    refine J.op (Yd.move rfl) rfl ?_
    refine J.op (Yd.add rfl rfl (by first | omega | (simp only [Int.toNat_natCast]; omega) | (simp <;> omega))) rfl ?_
    refine J.op (Yd.assign rfl) rfl ?_
    refine J.nil ?_
    refine J.n_then ?_
    rw [show n - k = (n - (k + 1)) + 1 by omega, set_back (beN v k) (n - (k + 1)) 0 _ (by omega)] at ho
    rw [show ((shr_u64 v (8 * (k : Int)).toNat).toUInt8 :: beN v k) = beN v (k + 1) from by rw [beN_succ, show ((8 * (k : Int)).toNat) = 8 * k by omega]] at ho
    exact J.round (k + 1) ⟨rfl, rfl, rfl, rfl, trivial⟩ (⟨by omega, ho, e0⟩) (by omega)
  · skip
    refine J.exit ?_
    refine J.x_then ?_
    refine J.x_then ?_
    refine J.x_block ?_
    refine J.n_then ?_
    refine J.seq ?_
    refine J.region ?_
    refine J.op (Yd.move rfl) rfl ?_
    refine J.op (Yd.assign rfl) rfl ?_
    refine J.nil ?_
    refine J.n_then ?_
    refine J.ret ?_
    exact J.ret1 rfl rfl (⟨_, rfl, by rw [show k = n by omega] at ho; simpa using ho, e0⟩)

theorem RGetBig_ok {a : Value} {l : List UInt8} {n : Nat} {w : World} (ha : Bs w a l) (hn : n ≤ 8) : C Try.prog 33 [a, I n] w (Ret fun v w' => v = W64 (get64N l n) ∧ Ext w w') := by
  have e0 := Ext.refl w
  refine C.enter Try.func33 rfl Try.ntmps33 rfl ?_
  refine J.seq ?_
  refine J.region ?_
  refine J.op (Yd.assign rfl) rfl ?_
  refine J.nil ?_
  refine J.n_then ?_
  refine J.seq ?_
  refine J.region ?_
  refine J.op (Yd.assign rfl) rfl ?_
  refine J.nil ?_
  refine J.n_then ?_
  refine J.seq ?_
  refine J.seq ?_
  refine J.region ?_
  refine J.op (Yd.assign rfl) rfl ?_
  refine J.nil ?_
  refine J.n_then ?_
  refine J.block ?_
  refine J.loop (ι := Nat) (fun i => [(0, a), (1, I (n : Int)), (5, W64 (get64N l i)), (6, I i)]) (fun i w' => i ≤ n ∧ Ext w w') (fun i => n - i) (0) ⟨rfl, rfl, rfl, rfl, trivial⟩ (⟨by omega, e0⟩) ?_
  rintro k w1 ⟨hk, e0⟩
  refine J.seq ?_
  refine J.seq ?_
  refine J.region ?_
  refine J.op (Yd.move rfl) rfl ?_
  refine J.op (Yd.move rfl) rfl ?_
  refine J.op (Yd.lss rfl rfl) rfl ?_
  refine J.nil ?_
  refine J.n_then ?_
  refine J.cond_dec rfl (fun hc0 => ?_) (fun hc0 => ?_)
  · skip
    refine J.skip ?_
    refine J.n_then ?_
    refine J.seq ?_
    refine J.block ?_
    refine J.seq ?_
    refine J.region ?_
    refine J.op (Yd.move rfl) rfl ?_
    refine J.op (Yd.shl_u64 rfl rfl (by first | omega | (simp only [Int.toNat_natCast]; omega) | (simp <;> omega))) rfl ?_
    refine J.op (Yd.assign rfl) rfl ?_
    refine J.nil ?_
    refine J.n_then ?_
    refine J.seq ?_
    refine J.region ?_
    refine J.op (Yd.move rfl) rfl ?_
    refine J.op (Yd.move rfl) rfl ?_
    refine J.op (Yd.len_b Try.underlying22 rfl (Rd.ext ha e0)) rfl ?_
    refine J.op (Yd.lss rfl rfl) rfl ?_
    refine J.nil ?_
    refine J.n_then ?_
    refine J.cond_dec rfl (fun hc1 => ?_) (fun hc1 => ?_)
    · skip
      refine J.region ?_
      refine J.op (Yd.move rfl) rfl ?_
      refine J.op (Yd.move rfl) rfl ?_
      refine J.op (Yd.move rfl) rfl ?_
      refine J.op (Yd.idx_b Try.underlying22 ti5 rfl rfl (Rd.ext ha e0) (by first | omega | (simp only [Int.toNat_natCast]; omega) | (simp <;> omega))) rfl ?_
      refine J.op (Yd.load pl5 rfl (Bs.cell (Rd.ext ha e0) (by first | omega | (simp only [Int.toNat_natCast]; omega) | (simp <;> omega)))) rfl ?_
      refine J.op (Yd.cv_8_64 Try.underlying5 Try.underlying23 rfl) rfl ?_
      refine J.op (Yd.or_u64 rfl rfl) rfl ?_
      refine J.op (Yd.assign rfl) rfl ?_
      refine J.nil ?_
      refine J.n_block ?_
      refine J.n_then ?_
      refine J.region ?_
      refine J.op (Yd.move rfl) rfl ?_
      refine J.op (Yd.add rfl rfl (by first | omega | (simp only [Int.toNat_natCast]; omega) | (simp <;> omega))) rfl ?_
      refine J.op (Yd.assign rfl) rfl ?_
      refine J.nil ?_
      refine J.n_then ?_
      exact J.round (k + 1) ⟨rfl, rfl, (by first | rfl | exact get64_no hc1), rfl, trivial⟩ (⟨by omega, e0⟩) (by omega)
    · skip
      refine J.skip ?_
      refine J.n_block ?_
      refine J.n_then ?_
      refine J.region ?_
      refine J.op (Yd.move rfl) rfl ?_
      refine J.op (Yd.add rfl rfl (by first | omega | (simp only [Int.toNat_natCast]; omega) | (simp <;> omega))) rfl ?_
      refine J.op (Yd.assign rfl) rfl ?_
      refine J.nil ?_
      refine J.n_then ?_
      exact J.round (k + 1) ⟨rfl, rfl, (by first | rfl | exact get64_no hc1), rfl, trivial⟩ (⟨by omega, e0⟩) (by omega)
  · skip
    refine J.exit ?_
    refine J.x_then ?_
    refine J.x_then ?_
    refine J.x_block ?_
    refine J.n_then ?_
    refine J.seq ?_
    refine J.region ?_
    refine J.op (Yd.move rfl) rfl ?_
    refine J.op (Yd.assign rfl) rfl ?_
    refine J.nil ?_
    refine J.n_then ?_
    refine J.ret ?_
    exact J.ret1 rfl rfl (⟨_, rfl, by rw [show k = n by omega], e0⟩)
end Ytonoafnjkpahjaa
end Go.Proofs
