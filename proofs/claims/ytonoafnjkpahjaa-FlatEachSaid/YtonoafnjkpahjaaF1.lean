import Derived.Test.YtonoafnjkpahjaaT
import Derived.Test.YtonoafnjkpahjaaPA
set_option linter.unusedVariables false
set_option linter.unusedSimpArgs false
set_option maxRecDepth 100000
set_option maxHeartbeats 4000000
namespace Go.Proofs
open Go.X Go.RowKit
namespace Ytonoafnjkpahjaa
theorem Get64_ok {a : Value} {l : List UInt8} {w : World} (ha : Bs w a l) : C Try.prog 11 [a] w (Ret fun v w' => v = W64 (get64N l 8) ∧ Ext w w') := by
  have e0 := Ext.refl w
  refine C.enter Try.func11 rfl Try.ntmps11 rfl ?_
  refine J.seq ?_
  refine J.region ?_
  refine J.op (Yd.assign rfl) rfl ?_
  refine J.nil ?_
  refine J.n_then ?_
  refine J.seq ?_
  refine J.seq ?_
  refine J.region ?_
  refine J.op (Yd.move rfl) rfl ?_
  refine J.nil ?_
  refine J.n_then ?_
  refine J.block ?_
  refine J.loop (ι := Nat) (fun i => [(0, a), (2, W64 (get64N l i)), (4, I i)]) (fun i w' => i ≤ 8 ∧ Ext w w') (fun i => 8 - i) (0) ⟨rfl, rfl, rfl, trivial⟩ (⟨by omega, e0⟩) ?_
  rintro k w1 ⟨hk, e0⟩
  refine J.seq ?_
  refine J.region ?_
  refine J.op (Yd.lss rfl rfl) rfl ?_
  refine J.nil ?_
  refine J.n_then ?_
  refine J.seq ?_
  refine J.cond_dec rfl (fun hc0 => ?_) (fun hc0 => ?_)
  · skip
    refine J.skip ?_
    refine J.n_then ?_
    refine J.seq ?_
    refine J.block ?_
    refine J.seq ?_
    refine J.region ?_
    refine J.op (Yd.move rfl) rfl ?_
    refine J.op (Yd.assign rfl) rfl ?_
    refine J.nil ?_
    refine J.n_then ?_
    refine J.seq ?_
    refine J.region ?_
    refine J.op (Yd.move rfl) rfl ?_
    refine J.op (Yd.shl_u64 rfl rfl (by first | omega | (simp only [Int.toNat_natCast]; omega) | (simp <;> omega))) rfl ?_
    refine J.op (Yd.assign rfl) rfl ?_
    refine J.nil ?_
    refine J.n_then ?_
    refine J.seq ?_
    refine J.region ?_
    refine J.op (Yd.move rfl) rfl ?_
    refine J.op (Yd.move rfl) rfl ?_
    refine J.op (Yd.len_b Try.underlying22 rfl (Rd.ext ha e0)) rfl ?_
    refine J.op (Yd.lss rfl rfl) rfl ?_
    refine J.nil ?_
    refine J.n_then ?_
    refine J.cond_dec rfl (fun hc1 => ?_) (fun hc1 => ?_)
    · skip
      refine J.region ?_
      refine J.op (Yd.move rfl) rfl ?_
      refine J.op (Yd.move rfl) rfl ?_
      refine J.op (Yd.move rfl) rfl ?_
      refine J.op (Yd.idx_b Try.underlying22 ti5 rfl rfl (Rd.ext ha e0) (by first | omega | (simp only [Int.toNat_natCast]; omega) | (simp <;> omega))) rfl ?_
      refine J.op (Yd.load pl5 rfl (Bs.cell (Rd.ext ha e0) (by first | omega | (simp only [Int.toNat_natCast]; omega) | (simp <;> omega)))) rfl ?_
      refine J.op (Yd.cv_8_64 Try.underlying5 Try.underlying23 rfl) rfl ?_
      refine J.op (Yd.or_u64 rfl rfl) rfl ?_
      refine J.op (Yd.assign rfl) rfl ?_
      refine J.nil ?_
      refine J.n_block ?_
      refine J.n_then ?_
      refine J.region ?_
      refine J.op (Yd.add rfl rfl (by first | omega | (simp only [Int.toNat_natCast]; omega) | (simp <;> omega))) rfl ?_
      refine J.op (Yd.move rfl) rfl ?_
      refine J.nil ?_
      refine J.n_then ?_
      exact J.round (k + 1) ⟨rfl, (by first | rfl | exact get64_no hc1), rfl, trivial⟩ (⟨by omega, e0⟩) (by omega)
    · skip
      refine J.skip ?_
      refine J.n_block ?_
      refine J.n_then ?_
      refine J.region ?_
      refine J.op (Yd.add rfl rfl (by first | omega | (simp only [Int.toNat_natCast]; omega) | (simp <;> omega))) rfl ?_
      refine J.op (Yd.move rfl) rfl ?_
      refine J.nil ?_
      refine J.n_then ?_
      exact J.round (k + 1) ⟨rfl, (by first | rfl | exact get64_no hc1), rfl, trivial⟩ (⟨by omega, e0⟩) (by omega)
  · skip
    refine J.exit ?_
    refine J.x_then ?_
    refine J.x_then ?_
    refine J.x_block ?_
    refine J.n_then ?_
    refine J.seq ?_
    refine J.region ?_
    refine J.op (Yd.move rfl) rfl ?_
    refine J.op (Yd.assign rfl) rfl ?_
    refine J.nil ?_
    refine J.n_then ?_
    refine J.ret ?_
    exact J.ret1 rfl rfl (⟨_, rfl, by rw [show k = 8 by omega], e0⟩)

theorem Get32_ok {a : Value} {l : List UInt8} {w : World} (ha : Bs w a l) : C Try.prog 13 [a] w (Ret fun v w' => v = W32 (shr_u64 (get64N l 8) 32).toUInt32 ∧ Ext w w') := by
  have e0 := Ext.refl w
  refine C.enter Try.func13 rfl Try.ntmps13 rfl ?_
  refine J.seq ?_
  refine J.region ?_
  refine J.op (Yd.assign rfl) rfl ?_
  refine J.nil ?_
  refine J.n_then ?_
  refine J.seq ?_
  refine J.region ?_
  refine J.op (Yd.move rfl) rfl ?_
  refine J.eff (Ye.call cl11 rfl (Get64_ok ha)) rfl ?_
  rintro _ w1 ⟨rfl, x1⟩
  have e0 := e0.trans x1
  clear x1
  refine J.op (Yd.shr_u64 rfl rfl (by first | omega | (simp only [Int.toNat_natCast]; omega) | (simp <;> omega))) rfl ?_
  refine J.op (Yd.cv_64_32 Try.underlying23 Try.underlying28 rfl) rfl ?_
  refine J.op (Yd.assign rfl) rfl ?_
  refine J.nil ?_
  refine J.n_then ?_
  refine J.ret ?_
  exact J.ret1 rfl rfl (⟨_, rfl, rfl, e0⟩)

theorem Little64_ok {n : UInt64} {w : World} : C Try.prog 29 [W64 n] w (Ret fun v w' => Ob w.heap.size 5 w' v (leN n 8) ∧ Ext w w') := by
  have e0 := Ext.refl w
  refine C.enter Try.func29 rfl Try.ntmps29 rfl ?_
  refine J.seq ?_
  refine J.region ?_
  refine J.op (Yd.assign rfl) rfl ?_
  refine J.nil ?_
  refine J.n_then ?_
  refine J.seq ?_
  refine J.region ?_
  refine J.eff (Ye.make (w.heap.size) Try.underlying22 ti5 rfl rfl (by first | omega | (simp only [Int.toNat_natCast]; omega) | (simp <;> omega)) (by first | omega | (simp only [Int.toNat_natCast]; omega) | (simp <;> omega)) (by unfold maxLen; omega) rfl (e0.size)) rfl ?_
  rintro s5_1 w1 ⟨o5_1, x1⟩
  have e0 := e0.trans x1
  clear x1
  rw [rep_B] at o5_1
  refine J.op (Yd.assign rfl) rfl ?_
  refine J.nil ?_
  refine J.n_then ?_
  refine J.seq ?_
  refine J.seq ?_
  refine J.region ?_
  refine J.op (Yd.move rfl) rfl ?_
  refine J.op (Yd.len_b Try.underlying22 rfl (Ow.rd o5_1)) rfl ?_
  refine J.op (Yd.move rfl) rfl ?_
  refine J.nil ?_
  refine J.n_then ?_
  refine J.block ?_
  refine J.loop (ι := Nat) (fun i => [(0, W64 n), (3, s5_1), (7, I 8), (8, I i)]) (fun i w' => i ≤ 8 ∧ Ob w.heap.size 5 w' s5_1 (leN n i ++ List.replicate (8 - i) 0) ∧ Ext w w') (fun i => 8 - i) (0) ⟨rfl, rfl, rfl, rfl, trivial⟩ (⟨by omega, o5_1, e0⟩) ?_
  rintro k w2 ⟨hk, ho, e0⟩
  refine J.seq ?_
  refine J.region ?_
  refine J.op (Yd.lss rfl rfl) rfl ?_
  refine J.nil ?_
  refine J.n_then ?_
  refine J.seq ?_
  refine J.cond_dec rfl (fun hc0 => ?_) (fun hc0 => ?_)
  · skip
    refine J.skip ?_
    refine J.n_then ?_
    refine J.seq ?_
    refine J.block ?_
    refine J.seq ?_
    refine J.region ?_
    refine J.op (Yd.move rfl) rfl ?_
    refine J.op (Yd.assign rfl) rfl ?_
    refine J.nil ?_
    refine J.n_then ?_
    refine J.region ?_
    refine J.op (Yd.move rfl) rfl ?_
    refine J.op (Yd.move rfl) rfl ?_
    refine J.op (Yd.move rfl) rfl ?_
    refine J.op (Yd.move rfl) rfl ?_
    refine J.op (Yd.mul rfl rfl (by first | omega | (simp only [Int.toNat_natCast]; omega) | (simp <;> omega))) rfl ?_
    refine J.op (Yd.shr_u64 rfl rfl (by first | omega | (simp only [Int.toNat_natCast]; omega) | (simp <;> omega))) rfl ?_
    refine J.op (Yd.cv_64_8 Try.underlying23 Try.underlying5 rfl) rfl ?_
    refine J.op (Yd.idx_b Try.underlying22 ti5 rfl rfl (Ow.rd ho) (by simp [leN_len]; omega)) rfl ?_
    refine J.eff0 (Ye.storeOwM ti5 ho rfl rfl (by simp [leN_len]; omega) (fun _ => rfl) (fun _ => rfl)) ?_
    rintro _ w3 ⟨o', hg⟩
    have e0 := e0.grown ho (Nat.le_refl _) hg
    replace ho := o'
    clear hg o'
    refine J.nil ?_
    refine J.n_block ?_
    refine J.n_then ?_
    refine J.region ?_
    refine J.op (Yd.add rfl rfl (by first | omega | (simp only [Int.toNat_natCast]; omega) | (simp <;> omega))) rfl ?_
    refine J.op (Yd.move rfl) rfl ?_
    refine J.nil ?_
    refine J.n_then ?_
    rw [show 8 - k = (7 - k) + 1 by omega, set_front (leN n k) (7 - k) 0 _ (by rw [leN_len]; omega)] at ho
    rw [show (leN n k ++ [(shr_u64 n (8 * (k : Int)).toNat).toUInt8]) = leN n (k + 1) from by rw [leN_succ, show ((8 * (k : Int)).toNat) = 8 * k by omega], show 7 - k = 8 - (k + 1) by omega] at ho
    exact J.round (k + 1) ⟨rfl, rfl, rfl, rfl, trivial⟩ (⟨by omega, ho, e0⟩) (by omega)
  · skip
    refine J.exit ?_
    refine J.x_then ?_
    refine J.x_then ?_
    refine J.x_block ?_
    refine J.n_then ?_
    refine J.seq ?_
    refine J.region ?_
    refine J.op (Yd.move rfl) rfl ?_
    refine J.op (Yd.assign rfl) rfl ?_
    refine J.nil ?_
    refine J.n_then ?_
    refine J.ret ?_
    exact J.ret1 rfl rfl (⟨_, rfl, by rw [show k = 8 by omega] at ho; simpa using ho, e0⟩)

theorem ReverseB_ok {s : Value} {l : List UInt8} {bs : Nat} {w : World} (ho : Ob bs 5 w s l) (hl : l.length ≤ 1000000000000) : C Try.prog 34 [s] w (Ret fun v w' => v = .tuple #[] ∧ Ob bs 5 w' s l.reverse ∧ w.grownBy w' s.ownBlock) := by
  have hg0 := GB.refl w s.ownBlock
  refine C.enter Try.func34 rfl Try.ntmps34 rfl ?_
  refine J.seq ?_
  refine J.region ?_
  refine J.op (Yd.move rfl) rfl ?_
  refine J.op (Yd.len_b Try.underlying22 rfl (Ow.rd ho)) rfl ?_
  refine J.op (Yd.sub rfl rfl (by first | omega | (simp only [Int.toNat_natCast]; omega) | (simp <;> omega))) rfl ?_
  refine J.op (Yd.assign rfl) rfl ?_
  refine J.op (Yd.assign rfl) rfl ?_
  refine J.nil ?_
  refine J.n_then ?_
  refine J.block ?_
  refine J.loop (ι := Nat) (fun i => [(0, s), (2, I i), (3, I ((l.length : Int) - 1 - i))]) (fun i w' => 2 * i ≤ l.length + 1 ∧ Ob bs 5 w' s (revN l i) ∧ w.grownBy w' s.ownBlock) (fun i => l.length - 2 * i) (0) ⟨rfl, rfl, (someI (by simp)), trivial⟩ (⟨by omega, ho, hg0⟩) ?_
  rintro k w1 ⟨hk, ho, hg0⟩
  have hrl := revN_len l k
  refine J.seq ?_
  refine J.seq ?_
  refine J.region ?_
  refine J.op (Yd.move rfl) rfl ?_
  refine J.op (Yd.move rfl) rfl ?_
  refine J.op (Yd.lss rfl rfl) rfl ?_
  refine J.nil ?_
  refine J.n_then ?_
  refine J.cond_dec rfl (fun hc0 => ?_) (fun hc0 => ?_)
  · skip
    refine J.skip ?_
    refine J.n_then ?_
    refine J.seq ?_
    refine J.block ?_
    refine J.regionO [(0, true), (1, true), (2, true), (3, true), (4, true), (5, true), (8, true), (9, true)] [(6, 1), (7, 1), (10, 1), (11, 1)] [(12, false), (13, false), (14, false), (15, false)] mix (by kernel_rfl) ?_
    refine J.s_op rfl (fun _ => Yd.move rfl) rfl ?_
    refine J.s_op rfl (fun _ => Yd.move rfl) rfl ?_
    refine J.s_op rfl (fun _ => Yd.move rfl) rfl ?_
    refine J.s_op rfl (fun _ => Yd.move rfl) rfl ?_
    refine J.s_op rfl (fun _ => Yd.move rfl) rfl ?_
    refine J.s_op rfl (fun _ => Yd.move rfl) rfl ?_
    refine J.s_op rfl (fun _ => Yd.move rfl) rfl ?_
    refine J.s_op rfl (fun _ => Yd.move rfl) rfl ?_
    refine J.s_nil ?_
    refine J.o_op rfl (Yd.idx_b Try.underlying22 ti5 rfl rfl (Ow.rd ho) (by first | omega | (simp only [Int.toNat_natCast]; omega) | (simp <;> omega))) rfl ?_
    refine J.o_op rfl (Yd.load pl5 rfl (Bs.cell (Ow.rd ho) (by first | omega | (simp only [Int.toNat_natCast]; omega) | (simp <;> omega)))) rfl ?_
    refine J.o_op rfl (Yd.idx_b Try.underlying22 ti5 rfl rfl (Ow.rd ho) (by first | omega | (simp only [Int.toNat_natCast]; omega) | (simp <;> omega))) rfl ?_
    refine J.o_op rfl (Yd.load pl5 rfl (Bs.cell (Ow.rd ho) (by first | omega | (simp only [Int.toNat_natCast]; omega) | (simp <;> omega)))) rfl ?_
    refine J.o_nil ?_
    refine J.s_one rfl (Yd.idx_b Try.underlying22 ti5 rfl rfl (Ow.rd ho) (by first | omega | (simp only [Int.toNat_natCast]; omega) | (simp <;> omega))) rfl ?_
    refine J.s_eff0 rfl (Ye.storeOwM ti5 ho rfl rfl (by first | omega | (simp only [Int.toNat_natCast]; omega) | (simp <;> omega)) (fun _ => rfl) (fun _ => rfl)) ?_
    rintro _ w2 ⟨o', hg⟩
    have hg0 := GB.trans hg0 hg
    replace ho := o'
    clear hg o'
    refine J.s_one rfl (Yd.idx_b Try.underlying22 ti5 rfl rfl (Ow.rd ho) (by first | omega | (simp only [Int.toNat_natCast]; omega) | (simp <;> omega))) rfl ?_
    refine J.s_eff0 rfl (Ye.storeOwM ti5 ho rfl rfl (by first | omega | (simp only [Int.toNat_natCast]; omega) | (simp <;> omega)) (fun _ => rfl) (fun _ => rfl)) ?_
    rintro _ w3 ⟨o', hg⟩
    have hg0 := GB.trans hg0 hg
    replace ho := o'
    clear hg o'
    refine J.s_nil ?_
    refine J.n_np ?_
    refine J.n_block ?_
    refine J.n_then ?_
    refine J.region ?_
    refine J.op (Yd.move rfl) rfl ?_
    refine J.op (Yd.add rfl rfl (by first | omega | (simp only [Int.toNat_natCast]; omega) | (simp <;> omega))) rfl ?_
    refine J.op (Yd.move rfl) rfl ?_
    refine J.op (Yd.sub rfl rfl (by first | omega | (simp only [Int.toNat_natCast]; omega) | (simp <;> omega))) rfl ?_
    refine J.op (Yd.assign rfl) rfl ?_
    refine J.op (Yd.assign rfl) rfl ?_
    refine J.nil ?_
    refine J.n_then ?_
    rw [show ((l.length : Int) - 1 - (k : Int)).toNat = l.length - 1 - k by omega, Int.toNat_natCast] at ho
    exact J.round (k + 1) ⟨rfl, rfl, (someI (by omega)), trivial⟩ (⟨by omega, ho, hg0⟩) (by omega)
  · skip
    refine J.exit ?_
    refine J.x_then ?_
    refine J.x_then ?_
    refine J.x_block ?_
    exact J.end0 rfl (⟨_, rfl, rfl, by rw [← revN_rev l k (by omega) (by omega)]; exact ho, hg0⟩)

theorem Put64_ok {n : UInt64} {w : World} : C Try.prog 12 [W64 n] w (Ret fun v w' => Ob w.heap.size 5 w' v (beN n 8) ∧ Ext w w') := by
  have e0 := Ext.refl w
  refine C.enter Try.func12 rfl Try.ntmps12 rfl ?_
  refine J.seq ?_
  refine J.region ?_
  refine J.op (Yd.assign rfl) rfl ?_
  refine J.nil ?_
  refine J.n_then ?_
  refine J.seq ?_
  refine J.region ?_
  refine J.op (Yd.move rfl) rfl ?_
  refine J.eff (Ye.call cl29 rfl (Little64_ok)) rfl ?_
  rintro s5_1 w1 ⟨o5_1, x1⟩
  replace o5_1 := Ow.base o5_1 e0.size
  have e0 := e0.trans x1
  clear x1
  refine J.op (Yd.assign rfl) rfl ?_
  refine J.nil ?_
  refine J.n_then ?_
  refine J.seq ?_
  refine J.region ?_
  refine J.op (Yd.move rfl) rfl ?_
  refine J.eff (Ye.call cl34 rfl (ReverseB_ok o5_1 (by first | omega | (simp [leN_len] <;> omega)))) rfl ?_
  rintro _ w2 ⟨rfl, o', hg⟩
  have e0 := e0.grown o5_1 (Nat.le_refl _) hg
  replace o5_1 := o'
  clear hg o'
  refine J.nil ?_
  refine J.n_then ?_
  refine J.seq ?_
  refine J.region ?_
  refine J.op (Yd.move rfl) rfl ?_
  refine J.op (Yd.assign rfl) rfl ?_
  refine J.nil ?_
  refine J.n_then ?_
  refine J.ret ?_
  exact J.ret1 rfl rfl (⟨_, rfl, o5_1, e0⟩)

theorem Put32_ok {n : UInt32} {w : World} : C Try.prog 14 [W32 n] w (Ret fun v w' => Bs w' v (((beN n.toUInt64 8).take 8).drop 4) ∧ Ext w w') := by
  have e0 := Ext.refl w
  refine C.enter Try.func14 rfl Try.ntmps14 rfl ?_
  refine J.seq ?_
  refine J.region ?_
  refine J.op (Yd.assign rfl) rfl ?_
  refine J.nil ?_
  refine J.n_then ?_
  refine J.seq ?_
  refine J.region ?_
  refine J.op (Yd.move rfl) rfl ?_
  refine J.op (Yd.cv_32_64 Try.underlying28 Try.underlying23 rfl) rfl ?_
  refine J.eff (Ye.call cl12 rfl (Put64_ok)) rfl ?_
  rintro s5_1 w1 ⟨o5_1, x1⟩
  replace o5_1 := Ow.base o5_1 e0.size
  have e0 := e0.trans x1
  clear x1
  have hs4 := Bs.slc (Ow.rd o5_1) (l := 4) (k := 8) (by decide) (by simp [beN_len])
  refine J.op (Yd.slcL Try.underlying22 ti5 rfl (Ow.rd o5_1) rfl (by simp [beN_len])) rfl ?_
  refine J.op (Yd.assign rfl) rfl ?_
  refine J.nil ?_
  refine J.n_then ?_
  refine J.ret ?_
  exact J.ret1 rfl rfl (⟨_, rfl, by simpa [beN_len] using hs4, e0⟩)

theorem EqualB_ok {a b : Value} {l m : List UInt8} {w : World} (ha : Bs w a l) (hb : Bs w b m) : C Try.prog 35 [a, b] w (Ret fun v w' => v = .bool (decide (l = m)) ∧ Ext w w') := by
  have e0 := Ext.refl w
  refine C.enter Try.func35 rfl Try.ntmps35 rfl ?_
  refine J.seq ?_
  refine J.region ?_
  refine J.op (Yd.assign rfl) rfl ?_
  refine J.nil ?_
  refine J.n_then ?_
  refine J.seq ?_
  refine J.seq ?_
  refine J.region ?_
  refine J.op (Yd.move rfl) rfl ?_
  refine J.op (Yd.len_b Try.underlying22 rfl ha) rfl ?_
  refine J.op (Yd.move rfl) rfl ?_
  refine J.op (Yd.len_b Try.underlying22 rfl hb) rfl ?_
  refine J.op (Yd.neq rfl rfl) rfl ?_
  refine J.nil ?_
  refine J.n_then ?_
  refine J.cond_dec rfl (fun hne => ?_) (fun hne => ?_)
  · skip
    refine J.seq ?_
    refine J.region ?_
    refine J.op (Yd.assign rfl) rfl ?_
    refine J.nil ?_
    refine J.n_then ?_
    refine J.ret ?_
    refine J.r_then ?_
    exact J.ret1 rfl rfl (⟨_, rfl, eqB_ret (by first | omega | assumption | exact eqB_len hne | exact eqB_diff hd | exact eqB_all hne (by omega) ht), e0⟩)
  · skip
    refine J.skip ?_
    refine J.n_then ?_
    refine J.seq ?_
    refine J.seq ?_
    refine J.region ?_
    refine J.op (Yd.move rfl) rfl ?_
    refine J.op (Yd.len_b Try.underlying22 rfl ha) rfl ?_
    refine J.op (Yd.move rfl) rfl ?_
    refine J.nil ?_
    refine J.n_then ?_
    refine J.block ?_
    refine J.loop (ι := Nat) (fun i => [(0, a), (1, b), (12, I l.length), (13, I i)]) (fun i w' => i ≤ l.length ∧ l.take i = m.take i ∧ Ext w w') (fun i => l.length - i) (0) ⟨rfl, rfl, rfl, rfl, trivial⟩ (⟨by omega, rfl, e0⟩) ?_
    rintro k w1 ⟨hk, ht, e0⟩
    have hma := Bs.max ha
    refine J.seq ?_
    refine J.region ?_
    refine J.op (Yd.lss rfl rfl) rfl ?_
    refine J.nil ?_
    refine J.n_then ?_
    refine J.seq ?_
    refine J.cond_dec rfl (fun hlt => ?_) (fun hlt => ?_)
    · skip
      refine J.skip ?_
      refine J.n_then ?_
      refine J.seq ?_
      refine J.block ?_
      refine J.seq ?_
      refine J.region ?_
      refine J.op (Yd.move rfl) rfl ?_
      refine J.op (Yd.assign rfl) rfl ?_
      refine J.nil ?_
      refine J.n_then ?_
      refine J.seq ?_
      refine J.regionO [(0, true), (1, true), (4, true), (5, true)] [(2, 1), (3, 1), (6, 1), (7, 1)] [(8, true)] mix (by kernel_rfl) ?_
      refine J.s_op rfl (fun _ => Yd.move rfl) rfl ?_
      refine J.s_op rfl (fun _ => Yd.move rfl) rfl ?_
      refine J.s_op rfl (fun _ => Yd.move rfl) rfl ?_
      refine J.s_op rfl (fun _ => Yd.move rfl) rfl ?_
      refine J.s_nil ?_
      refine J.o_op rfl (Yd.idx_b Try.underlying22 ti5 rfl rfl (Rd.ext ha e0) (by first | omega | (simp only [Int.toNat_natCast]; omega) | (simp <;> omega))) rfl ?_
      refine J.o_op rfl (Yd.load pl5 rfl (Bs.cell (Rd.ext ha e0) (by first | omega | (simp only [Int.toNat_natCast]; omega) | (simp <;> omega)))) rfl ?_
      refine J.o_op rfl (Yd.idx_b Try.underlying22 ti5 rfl rfl (Rd.ext hb e0) (by first | omega | (simp only [Int.toNat_natCast]; omega) | (simp <;> omega))) rfl ?_
      refine J.o_op rfl (Yd.load pl5 rfl (Bs.cell (Rd.ext hb e0) (by first | omega | (simp only [Int.toNat_natCast]; omega) | (simp <;> omega)))) rfl ?_
      refine J.o_nil ?_
      refine J.s_op rfl (fun _ => Yd.neq rfl rfl) rfl ?_
      refine J.s_nil ?_
      refine J.n_np ?_
      refine J.n_then ?_
      refine J.cond_dec rfl (fun hd => ?_) (fun hd => ?_)
      · skip
        refine J.seq ?_
        refine J.region ?_
        refine J.op (Yd.assign rfl) rfl ?_
        refine J.nil ?_
        refine J.n_then ?_
        refine J.ret ?_
        refine J.r_block ?_
        refine J.r_then ?_
        refine J.r_then ?_
        refine J.r_block ?_
        refine J.r_then ?_
        exact J.ret1 rfl rfl (⟨_, rfl, eqB_ret (by first | omega | assumption | exact eqB_len hne | exact eqB_diff hd | exact eqB_all hne (by omega) ht), e0⟩)
      · skip
        refine J.skip ?_
        refine J.n_block ?_
        refine J.n_then ?_
        refine J.region ?_
        refine J.op (Yd.add rfl rfl (by first | omega | (simp only [Int.toNat_natCast]; omega) | (simp <;> omega))) rfl ?_
        refine J.op (Yd.move rfl) rfl ?_
        refine J.nil ?_
        refine J.n_then ?_
        exact J.round (k + 1) ⟨rfl, rfl, rfl, rfl, trivial⟩ (⟨by omega, take_eq_succ (by omega) (by omega) ht hd, e0⟩) (by omega)
    · skip
      refine J.exit ?_
      refine J.x_then ?_
      refine J.x_then ?_
      refine J.x_block ?_
      refine J.n_then ?_
      refine J.seq ?_
      refine J.region ?_
      refine J.op (Yd.assign rfl) rfl ?_
      refine J.nil ?_
      refine J.n_then ?_
      refine J.ret ?_
      exact J.ret1 rfl rfl (⟨_, rfl, eqB_ret (by first | omega | assumption | exact eqB_len hne | exact eqB_diff hd | exact eqB_all hne (by omega) ht), e0⟩)

theorem Equal_ok {a b : Value} {l m : List UInt8} {w : World} (ha : Bs w a l) (hb : Bs w b m) : C Try.prog 15 [a, b] w (Ret fun v w' => v = .bool (decide (l = m)) ∧ Ext w w') := by
  have e0 := Ext.refl w
  refine C.enter Try.func15 rfl Try.ntmps15 rfl ?_
  refine J.seq ?_
  refine J.region ?_
  refine J.op (Yd.assign rfl) rfl ?_
  refine J.nil ?_
  refine J.n_then ?_
  refine J.seq ?_
  refine J.region ?_
  refine J.op (Yd.move rfl) rfl ?_
  refine J.op (Yd.move rfl) rfl ?_
  refine J.eff (Ye.call cl35 rfl (EqualB_ok ha hb)) rfl ?_
  rintro _ w1 ⟨rfl, x1⟩
  have e0 := e0.trans x1
  clear x1
  refine J.op (Yd.assign rfl) rfl ?_
  refine J.nil ?_
  refine J.n_then ?_
  refine J.ret ?_
  exact J.ret1 rfl rfl (⟨_, rfl, rfl, e0⟩)

theorem Xor_ok {a b : Value} {l m : List UInt8} {w : World} (ha : Bs w a l) (hb : Bs w b m) (hl : l.length ≤ 140737488355328) : C Try.prog 10 [a, b] w (Ret fun v w' => Ob w.heap.size 5 w' v (xorL l m) ∧ Ext w w') := by
  have e0 := Ext.refl w
  refine C.enter Try.func10 rfl Try.ntmps10 rfl ?_
  refine J.seq ?_
  refine J.region ?_
  refine J.op (Yd.assign rfl) rfl ?_
  refine J.nil ?_
  refine J.n_then ?_
  refine J.seq ?_
  refine J.region ?_
  refine J.op (Yd.move rfl) rfl ?_
  refine J.op (Yd.len_b Try.underlying22 rfl ha) rfl ?_
  refine J.op (Yd.move rfl) rfl ?_
  refine J.op (Yd.len_b Try.underlying22 rfl hb) rfl ?_
  refine J.op (Yd.mini rfl rfl) rfl ?_
  refine J.eff (Ye.make (n := ((min l.length m.length : Nat) : Int)) (w.heap.size) Try.underlying22 ti5 (by show some (Value.int _ _) = some (Value.int _ _); rw [minI]) (by show some (Value.int _ _) = some (Value.int _ _); rw [minI]) (by omega) (by omega) (by unfold maxLen; omega) rfl e0.size) rfl ?_
  rintro s12_1 w1 ⟨o12_1, x1⟩
  have e0 := e0.trans x1
  clear x1
  rw [rep_B] at o12_1
  refine J.op (Yd.assign rfl) rfl ?_
  refine J.nil ?_
  refine J.n_then ?_
  refine J.seq ?_
  refine J.seq ?_
  refine J.region ?_
  refine J.op (Yd.move rfl) rfl ?_
  refine J.op (Yd.len_b Try.underlying22 rfl (Ow.rd o12_1)) rfl ?_
  refine J.op (Yd.move rfl) rfl ?_
  refine J.nil ?_
  refine J.n_then ?_
  refine J.block ?_
  refine J.loop (ι := Nat) (fun i => [(0, a), (1, b), (5, s12_1), (14, I ((min l.length m.length : Nat) : Int)), (15, I i)]) (fun i w' => i ≤ min l.length m.length ∧ Ob w.heap.size 5 w' s12_1 ((xorL l m).take i ++ List.replicate (min l.length m.length - i) 0) ∧ Ext w w') (fun i => min l.length m.length - i) (0) ⟨rfl, rfl, rfl, (someI (by simp)), rfl, trivial⟩ (⟨by omega, by have h := o12_1; rw [Int.toNat_natCast] at h; exact h, e0⟩) ?_
  rintro k w2 ⟨hk, ho, e0⟩
  have hma := Bs.max ha
  have hxl := xorL_len l m
  have htl : ((xorL l m).take k).length = k := by rw [List.length_take, xorL_len]; omega
  refine J.seq ?_
  refine J.region ?_
  refine J.op (Yd.lss rfl rfl) rfl ?_
  refine J.nil ?_
  refine J.n_then ?_
  refine J.seq ?_
  refine J.cond_dec rfl (fun hc0 => ?_) (fun hc0 => ?_)
  · skip
    refine J.skip ?_
    refine J.n_then ?_
    refine J.seq ?_
    refine J.block ?_
    refine J.seq ?_
    refine J.region ?_
    refine J.op (Yd.move rfl) rfl ?_
    refine J.op (Yd.assign rfl) rfl ?_
    refine J.nil ?_
    refine J.n_then ?_
    refine J.regionO [(0, true), (1, true), (2, true), (3, true), (6, true), (7, true)] [(4, 1), (5, 1), (8, 1), (9, 1)] [(10, true), (11, false), (12, false)] mix (by kernel_rfl) ?_
    refine J.s_op rfl (fun _ => Yd.move rfl) rfl ?_
    refine J.s_op rfl (fun _ => Yd.move rfl) rfl ?_
    refine J.s_op rfl (fun _ => Yd.move rfl) rfl ?_
    refine J.s_op rfl (fun _ => Yd.move rfl) rfl ?_
    refine J.s_op rfl (fun _ => Yd.move rfl) rfl ?_
    refine J.s_op rfl (fun _ => Yd.move rfl) rfl ?_
    refine J.s_nil ?_
    refine J.o_op rfl (Yd.idx_b Try.underlying22 ti5 rfl rfl (Rd.ext ha e0) (by first | omega | (simp only [Int.toNat_natCast]; omega) | (simp <;> omega))) rfl ?_
    refine J.o_op rfl (Yd.load pl5 rfl (Bs.cell (Rd.ext ha e0) (by first | omega | (simp only [Int.toNat_natCast]; omega) | (simp <;> omega)))) rfl ?_
    refine J.o_op rfl (Yd.idx_b Try.underlying22 ti5 rfl rfl (Rd.ext hb e0) (by first | omega | (simp only [Int.toNat_natCast]; omega) | (simp <;> omega))) rfl ?_
    refine J.o_op rfl (Yd.load pl5 rfl (Bs.cell (Rd.ext hb e0) (by first | omega | (simp only [Int.toNat_natCast]; omega) | (simp <;> omega)))) rfl ?_
    refine J.o_nil ?_
    refine J.s_op rfl (fun _ => Yd.xor_u8 rfl rfl) rfl ?_
    refine J.s_one rfl (Yd.idx_b Try.underlying22 ti5 rfl rfl (Ow.rd ho) (by first | omega | (simp only [Int.toNat_natCast]; omega) | (simp <;> omega))) rfl ?_
    refine J.s_eff0 rfl (Ye.storeOwM ti5 ho rfl rfl (by first | omega | (simp only [Int.toNat_natCast]; omega) | (simp <;> omega)) (fun _ => rfl) (fun _ => rfl)) ?_
    rintro _ w3 ⟨o', hg⟩
    have e0 := e0.grown ho (Nat.le_refl _) hg
    replace ho := o'
    clear hg o'
    refine J.s_nil ?_
    refine J.n_np ?_
    refine J.n_block ?_
    refine J.n_then ?_
    refine J.region ?_
    refine J.op (Yd.add rfl rfl (by first | omega | (simp only [Int.toNat_natCast]; omega) | (simp <;> omega))) rfl ?_
    refine J.op (Yd.move rfl) rfl ?_
    refine J.nil ?_
    refine J.n_then ?_
    rw [show min l.length m.length - k = (min l.length m.length - (k + 1)) + 1 by omega, set_front ((xorL l m).take k) _ 0 _ (by rw [htl]; omega), Int.toNat_natCast, ← xorL_take l m k (by omega) (by omega)] at ho
    exact J.round (k + 1) ⟨rfl, rfl, rfl, rfl, rfl, trivial⟩ (⟨by omega, ho, e0⟩) (by omega)
  · skip
    refine J.exit ?_
    refine J.x_then ?_
    refine J.x_then ?_
    refine J.x_block ?_
    refine J.n_then ?_
    refine J.seq ?_
    refine J.region ?_
    refine J.op (Yd.move rfl) rfl ?_
    refine J.op (Yd.assign rfl) rfl ?_
    refine J.nil ?_
    refine J.n_then ?_
    refine J.ret ?_
    exact J.ret1 rfl rfl (⟨_, rfl, by rw [show k = min l.length m.length by omega] at ho; simpa [List.take_of_length_le, xorL_len] using ho, e0⟩)
end Ytonoafnjkpahjaa
end Go.Proofs
