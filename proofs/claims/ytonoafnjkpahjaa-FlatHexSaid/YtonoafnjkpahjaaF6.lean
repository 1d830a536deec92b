import Derived.Test.YtonoafnjkpahjaaT
import Derived.Test.YtonoafnjkpahjaaPl
import Derived.Test.YtonoafnjkpahjaaF5
set_option linter.unusedVariables false
set_option linter.unusedSimpArgs false
set_option maxRecDepth 100000
namespace Go.Proofs
open Go.X Go.RowKit
namespace Ytonoafnjkpahjaa
theorem RHex_ok {a : Value} {l : List UInt8} {w : World} (ha : Bs w a l) (hl : l.length ≤ 70368744177664) : C Try.prog 26 [a] w (Ret fun v w' => v = Str (hexL l) ∧ Ext w w') := by
  have e0 := Ext.refl w
  refine C.enter Try.func26 rfl Try.ntmps26 rfl ?_
  refine J.seq ?_
  refine J.region ?_
  refine J.op (Yd.assign rfl) rfl ?_
  refine J.nil ?_
  refine J.n_then ?_
  refine J.seq ?_
  refine J.region ?_
  refine J.op (Yd.assign rfl) rfl ?_
  refine J.nil ?_
  refine J.n_then ?_
  refine J.seq ?_
  refine J.seq ?_
  refine J.region ?_
  refine J.op (Yd.assign rfl) rfl ?_
  refine J.nil ?_
  refine J.n_then ?_
  refine J.block ?_
  refine J.loop (ι := Nat × Value) (fun i => [(0, a), (3, i.2), (4, I i.1)]) (fun i w' => i.1 ≤ l.length ∧ Ob w.heap.size 5 w' i.2 (hexL (l.take i.1)) ∧ Ext w w') (fun i => l.length - i.1) ((0, nilS)) ⟨rfl, rfl, rfl, trivial⟩ (⟨Nat.zero_le _, Ow.nil _ _ _, e0⟩) ?_
  rintro ⟨k, v⟩ w1 ⟨hk, ho, e0⟩
  dsimp only at hk ho ⊢
  have hxl := hexL_len (l.take k)
  have htk := List.length_take_le k l
  refine J.seq ?_
  refine J.seq ?_
  refine J.region ?_
  refine J.op (Yd.move rfl) rfl ?_
  refine J.op (Yd.move rfl) rfl ?_
  refine J.op (Yd.len_b Try.underlying22 rfl (Rd.ext ha e0)) rfl ?_
  refine J.op (Yd.lss rfl rfl) rfl ?_
  refine J.nil ?_
  refine J.n_then ?_
  refine J.cond_dec rfl (fun hc0 => ?_) (fun hc0 => ?_)
  · skip
    refine J.skip ?_
    refine J.n_then ?_
    refine J.seq ?_
    refine J.block ?_
    refine J.regionO [(0, true), (1, true), (2, true), (7, true), (8, true)] [(3, 1), (4, 1), (9, 1), (10, 1), (5, 1), (6, 1), (11, 1), (12, 1)] [(13, false), (14, false), (15, true)] mix (by kernel_rfl) ?_
    refine J.s_op rfl (fun _ => Yd.move rfl) rfl ?_
    refine J.s_op rfl (fun _ => Yd.move rfl) rfl ?_
    refine J.s_op rfl (fun _ => Yd.move rfl) rfl ?_
    refine J.s_op rfl (fun _ => Yd.move rfl) rfl ?_
    refine J.s_op rfl (fun _ => Yd.move rfl) rfl ?_
    refine J.s_nil ?_
    refine J.o_op rfl (Yd.idx_b Try.underlying22 ti5 rfl rfl (Rd.ext ha e0) (by first | omega | (simp only [Int.toNat_natCast]; omega) | (simp <;> omega))) rfl ?_
    refine J.o_op rfl (Yd.load pl5 rfl (Bs.cell (Rd.ext ha e0) (by first | omega | (simp only [Int.toNat_natCast]; omega) | (simp <;> omega)))) rfl ?_
    refine J.o_op rfl (Yd.idx_b Try.underlying22 ti5 rfl rfl (Rd.ext ha e0) (by first | omega | (simp only [Int.toNat_natCast]; omega) | (simp <;> omega))) rfl ?_
    refine J.o_op rfl (Yd.load pl5 rfl (Bs.cell (Rd.ext ha e0) (by first | omega | (simp only [Int.toNat_natCast]; omega) | (simp <;> omega)))) rfl ?_
    refine J.o_op rfl (Yd.shr_u8 rfl rfl (by first | omega | (simp only [Int.toNat_natCast]; omega) | (simp <;> omega))) rfl ?_
    refine J.o_op rfl (Yd.sidx Try.underlying9 rfl rfl (hexB (hi_lt _))) rfl ?_
    refine J.o_op rfl (Yd.and_u8 (n := 15) rfl rfl) rfl ?_
    refine J.o_op rfl (Yd.sidx Try.underlying9 rfl rfl (hexB (lo_lt _))) rfl ?_
    refine J.o_nil ?_
    refine J.s_eff rfl (Ye.lit2 (base := w.heap.size) (f := (fun x : UInt8 => B x)) Try.underlying22 ti5 rfl rfl rfl (fun _ => rfl) e0.size) rfl ?_
    rintro s24_2 w2 ⟨o24_2, x1⟩
    have e0 := e0.trans x1
    have ho := ho.ext x1
    clear x1
    refine J.s_eff rfl (Ye.appendM Try.underlying22 ti5 rfl rfl rfl rfl ho (Ow.rd o24_2) (fun _ => rfl) (by first | omega | (simp only [Int.toNat_natCast]; omega) | (simp <;> omega)) e0.size) rfl ?_
    rintro s25_3 w3 ⟨o25_3, hg⟩
    have e0 := e0.grown ho (Nat.le_refl _) hg
    -- other own rows: o24_2
    clear hg
    refine J.s_op rfl (fun _ => Yd.assign rfl) rfl ?_
    refine J.s_nil ?_
    refine J.n_np ?_
    refine J.n_block ?_
    refine J.n_then ?_
    refine J.region ?_
    refine J.op (Yd.move rfl) rfl ?_
    refine J.op (Yd.add rfl rfl (by first | omega | (simp only [Int.toNat_natCast]; omega) | (simp <;> omega))) rfl ?_
    refine J.op (Yd.assign rfl) rfl ?_
    refine J.nil ?_
    refine J.n_then ?_
    exact J.round ((k + 1, s25_3)) ⟨rfl, rfl, rfl, trivial⟩ (⟨by show k + 1 ≤ l.length; omega, by show Ob _ _ _ _ (hexL (l.take (k + 1))); rw [hexL_take l k (by omega)]; exact o25_3, e0⟩) (by show l.length - (k + 1) < l.length - k; omega)
  · skip
    refine J.exit ?_
    refine J.x_then ?_
    refine J.x_then ?_
    refine J.x_block ?_
    refine J.n_then ?_
    refine J.seq ?_
    refine J.region ?_
    refine J.op (Yd.move rfl) rfl ?_
    refine J.op (Yd.bstr Try.underlying22 Try.underlying5 Try.underlying9 rfl (Ow.rd ho)) rfl ?_
    refine J.op (Yd.assign rfl) rfl ?_
    refine J.nil ?_
    refine J.n_then ?_
    refine J.ret ?_
    exact J.ret1 rfl rfl (⟨_, rfl, by rw [List.take_of_length_le (by omega)], e0⟩)

theorem IndexD1_ok {c : UInt8} {w : World} : C Try.prog 40 [Str hexD, B c] w (Ret fun v w' => v = I (dig c) ∧ Ext w w') := by
  have e0 := Ext.refl w
  refine C.enter Try.func40 rfl Try.ntmps40 rfl ?_
  refine J.seq ?_
  refine J.region ?_
  refine J.op (Yd.assign rfl) rfl ?_
  refine J.nil ?_
  refine J.n_then ?_
  refine J.seq ?_
  refine J.region ?_
  refine J.op (Yd.move rfl) rfl ?_
  refine J.op (Yd.move rfl) rfl ?_
  refine J.op (Yd.indexByte (l := hexD) Try.func42 (by kernel_rfl) (by kernel_rfl) (by kernel_rfl) (by kernel_rfl) rfl) rfl ?_
  refine J.op (Yd.assign rfl) rfl ?_
  refine J.nil ?_
  refine J.n_then ?_
  refine J.ret ?_
  exact J.ret1 rfl rfl (⟨_, rfl, by rw [dig_index], e0⟩)

theorem IndexD_ok {c : UInt8} {w : World} : C Try.prog 38 [Str hexD, B c] w (Ret fun v w' => v = I (dig c) ∧ Ext w w') := by
  have e0 := Ext.refl w
  refine C.enter Try.func38 rfl Try.ntmps38 rfl ?_
  refine J.seq ?_
  refine J.region ?_
  refine J.op (Yd.assign rfl) rfl ?_
  refine J.nil ?_
  refine J.n_then ?_
  refine J.seq ?_
  refine J.region ?_
  refine J.op (Yd.move rfl) rfl ?_
  refine J.op (Yd.move rfl) rfl ?_
  refine J.eff (Ye.call cl40 rfl (IndexD1_ok)) rfl ?_
  rintro _ w1 ⟨rfl, x1⟩
  have e0 := e0.trans x1
  clear x1
  refine J.op (Yd.assign rfl) rfl ?_
  refine J.nil ?_
  refine J.n_then ?_
  refine J.ret ?_
  exact J.ret1 rfl rfl (⟨_, rfl, rfl, e0⟩)

theorem Unhex_ok {l : List UInt8} {w : World} (hl : l.length ≤ 70368744177664) : C Try.prog 23 [Str l] w (Ret fun v w' => (∃ s, v = .tuple #[s, .bool (okH l)] ∧ Bs w' s (unH l)) ∧ Ext w w') := by
  have e0 := Ext.refl w
  refine C.enter Try.func23 rfl Try.ntmps23 rfl ?_
  refine J.seq ?_
  refine J.region ?_
  refine J.op (Yd.assign rfl) rfl ?_
  refine J.op (Yd.assign rfl) rfl ?_
  refine J.nil ?_
  refine J.n_then ?_
  refine J.seq ?_
  refine J.seq ?_
  refine J.region ?_
  refine J.op (Yd.move rfl) rfl ?_
  refine J.op (Yd.slen Try.underlying9 rfl) rfl ?_
  refine J.op (Yd.rem rfl rfl (by first | omega | (simp only [Int.toNat_natCast]; omega) | (simp <;> omega)) (by first | omega | (simp only [Int.toNat_natCast]; omega) | (simp <;> omega))) rfl ?_
  refine J.op (Yd.neq rfl rfl) rfl ?_
  refine J.nil ?_
  refine J.n_then ?_
  refine J.cond_dec rfl (fun hc0 => ?_) (fun hc0 => ?_)
  · skip
    refine J.seq ?_
    refine J.region ?_
    refine J.op (Yd.assign rfl) rfl ?_
    refine J.op (Yd.assign rfl) rfl ?_
    refine J.nil ?_
    refine J.n_then ?_
    refine J.ret ?_
    refine J.r_then ?_
    exact J.ret2 rfl rfl rfl (⟨_, rfl, un_no (by first | exact okH_odd hc0 | exact okH_bad (by omega) hd0 | exact okH_bad (by omega) hd1 | exact okH_bad (j := 2 * k + j) (by omega) (by rw [← hij, dig_no (by omega) (by omega)]; decide)), e0⟩)
  · skip
    refine J.skip ?_
    refine J.n_then ?_
    refine J.seq ?_
    refine J.region ?_
    refine J.op (Yd.assign rfl) rfl ?_
    refine J.nil ?_
    refine J.n_then ?_
    refine J.seq ?_
    refine J.seq ?_
    refine J.region ?_
    refine J.op (Yd.assign rfl) rfl ?_
    refine J.nil ?_
    refine J.n_then ?_
    refine J.block ?_
    refine J.loop (ι := Nat × Value) (fun i => [(0, Str l), (4, i.2), (5, I (2 * (i.1 : Int)))]) (fun i w' => 2 * i.1 ≤ l.length ∧ (∀ j, j < 2 * i.1 → 0 ≤ dig (l.getD j 0)) ∧ Ob w.heap.size 5 w' i.2 (unT l i.1) ∧ Ext w w') (fun i => l.length - i.1) ((0, nilS)) ⟨rfl, rfl, (someI (by simp)), trivial⟩ (⟨Nat.zero_le _, (by intro j hj; exact absurd hj (by simp)), Ow.nil _ _ _, e0⟩) ?_
    rintro ⟨k, v⟩ w1 ⟨hk, hall, ho, e0⟩
    dsimp only at hk hall ho ⊢
    have hul := unT_len l k
    have hi0 : (2 * (k : Int)).toNat = 2 * k := by omega
    have hi1 : (2 * (k : Int) + 1).toNat = 2 * k + 1 := by omega
    have hb0 := dig_bd (l.getD (2 * (k : Int)).toNat 0)
    have hb1 := dig_bd (l.getD (2 * (k : Int) + 1).toNat 0)
    refine J.seq ?_
    refine J.seq ?_
    refine J.region ?_
    refine J.op (Yd.move rfl) rfl ?_
    refine J.op (Yd.move rfl) rfl ?_
    refine J.op (Yd.slen Try.underlying9 rfl) rfl ?_
    refine J.op (Yd.lss rfl rfl) rfl ?_
    refine J.nil ?_
    refine J.n_then ?_
    refine J.cond_dec rfl (fun hc1 => ?_) (fun hc1 => ?_)
    · skip
      refine J.skip ?_
      refine J.n_then ?_
      refine J.seq ?_
      refine J.block ?_
      refine J.seq ?_
      refine J.regionO [(0, true), (1, true), (2, true), (4, true), (5, true), (6, true), (7, true), (3, false), (8, false), (9, true), (10, true)] [] [] mix (by kernel_rfl) ?_
      refine J.s_op rfl (fun _ => Yd.move rfl) rfl ?_
      refine J.s_op rfl (fun _ => Yd.move rfl) rfl ?_
      refine J.s_op rfl (fun _ => Yd.sidx Try.underlying9 rfl rfl (by first | omega | (simp only [Int.toNat_natCast]; omega) | (simp <;> omega))) rfl ?_
      refine J.s_op rfl (fun _ => Yd.move rfl) rfl ?_
      refine J.s_op rfl (fun _ => Yd.move rfl) rfl ?_
      refine J.s_op rfl (fun _ => Yd.add rfl rfl (by first | omega | (simp only [Int.toNat_natCast]; omega) | (simp <;> omega))) rfl ?_
      refine J.s_op rfl (fun _ => Yd.sidx Try.underlying9 rfl rfl (by first | omega | (simp only [Int.toNat_natCast]; omega) | (simp <;> omega))) rfl ?_
      refine J.s_eff rfl (Ye.call cl38 rfl (IndexD_ok)) rfl ?_
      rintro _ w2 ⟨rfl, x1⟩
      have e0 := e0.trans x1
      have ho := ho.ext x1
      clear x1
      refine J.s_eff rfl (Ye.call cl38 rfl (IndexD_ok)) rfl ?_
      rintro _ w3 ⟨rfl, x1⟩
      have e0 := e0.trans x1
      have ho := ho.ext x1
      clear x1
      refine J.s_op rfl (fun _ => Yd.assign rfl) rfl ?_
      refine J.s_op rfl (fun _ => Yd.assign rfl) rfl ?_
      refine J.s_nil ?_
      refine J.o_nil ?_
      refine J.s_nil ?_
      refine J.n_np ?_
      refine J.n_then ?_
      refine J.seq ?_
      refine J.seq ?_
      refine J.region ?_
      refine J.op (Yd.move rfl) rfl ?_
      refine J.op (Yd.lss rfl rfl) rfl ?_
      refine J.op (Yd.move rfl) rfl ?_
      refine J.split_dec (t := 29) rfl (fun hd0 => ?_) (fun hd0 => ?_)
      · skip
        refine J.not_g rfl rfl rfl rfl rfl ?_
        refine J.not_g rfl rfl rfl rfl rfl ?_
        refine J.op (Yd.pick_t rfl rfl) rfl ?_
        refine J.nil ?_
        refine J.n_then ?_
        refine J.cond_true rfl ?_
        refine J.seq ?_
        refine J.region ?_
        refine J.op (Yd.assign rfl) rfl ?_
        refine J.op (Yd.assign rfl) rfl ?_
        refine J.nil ?_
        refine J.n_then ?_
        refine J.ret ?_
        refine J.r_then ?_
        refine J.r_block ?_
        refine J.r_then ?_
        refine J.r_then ?_
        refine J.r_block ?_
        refine J.r_then ?_
        exact J.ret2 rfl rfl rfl (⟨_, rfl, un_no (by first | exact okH_odd hc0 | exact okH_bad (by omega) hd0 | exact okH_bad (by omega) hd1 | exact okH_bad (j := 2 * k + j) (by omega) (by rw [← hij, dig_no (by omega) (by omega)]; decide)), e0⟩)
      · skip
        refine J.op_g rfl rfl rfl (Yd.move rfl) rfl ?_
        refine J.op_g rfl rfl rfl (Yd.lss rfl rfl) rfl ?_
        refine J.op (Yd.pick_f rfl rfl) rfl ?_
        refine J.nil ?_
        refine J.n_then ?_
        refine J.cond_dec rfl (fun hd1 => ?_) (fun hd1 => ?_)
        · skip
          refine J.seq ?_
          refine J.region ?_
          refine J.op (Yd.assign rfl) rfl ?_
          refine J.op (Yd.assign rfl) rfl ?_
          refine J.nil ?_
          refine J.n_then ?_
          refine J.ret ?_
          refine J.r_then ?_
          refine J.r_block ?_
          refine J.r_then ?_
          refine J.r_then ?_
          refine J.r_block ?_
          refine J.r_then ?_
          exact J.ret2 rfl rfl rfl (⟨_, rfl, un_no (by first | exact okH_odd hc0 | exact okH_bad (by omega) hd0 | exact okH_bad (by omega) hd1 | exact okH_bad (j := 2 * k + j) (by omega) (by rw [← hij, dig_no (by omega) (by omega)]; decide)), e0⟩)
        · skip
          refine J.skip ?_
          refine J.n_then ?_
          refine J.region ?_
          refine J.op (Yd.move rfl) rfl ?_
          refine J.op (Yd.move rfl) rfl ?_
          refine J.op (Yd.shl_i rfl rfl (by omega) (by rw [show (2 : Int) ^ (4 : Int).toNat = 16 from rfl]; omega)) rfl ?_
          refine J.op (Yd.move rfl) rfl ?_
          refine J.op (Yd.or_i rfl rfl (by rw [show (2 : Int) ^ (4 : Int).toNat = 16 from rfl]; omega) (by omega)) rfl ?_
          refine J.op (Yd.cv_i_8 Try.underlying3 Try.underlying5 rfl (by first | omega | (simp only [Int.toNat_natCast]; omega) | (simp <;> omega))) rfl ?_
          refine J.eff (Ye.lit1 (base := w.heap.size) (f := (fun x : UInt8 => B x)) Try.underlying22 ti5 rfl rfl (fun _ => rfl) e0.size) rfl ?_
          rintro s39_4 w4 ⟨o39_4, x1⟩
          have e0 := e0.trans x1
          have ho := ho.ext x1
          clear x1
          refine J.eff (Ye.appendM Try.underlying22 ti5 rfl rfl rfl rfl ho (Ow.rd o39_4) (fun _ => rfl) (by first | omega | (simp only [Int.toNat_natCast]; omega) | (simp <;> omega)) e0.size) rfl ?_
          rintro s40_5 w5 ⟨o40_5, hg⟩
          have e0 := e0.grown ho (Nat.le_refl _) hg
          -- other own rows: o39_4
          clear hg
          refine J.op (Yd.assign rfl) rfl ?_
          refine J.nil ?_
          refine J.n_block ?_
          refine J.n_then ?_
          refine J.region ?_
          refine J.op (Yd.move rfl) rfl ?_
          refine J.op (Yd.add rfl rfl (by first | omega | (simp only [Int.toNat_natCast]; omega) | (simp <;> omega))) rfl ?_
          refine J.op (Yd.assign rfl) rfl ?_
          refine J.nil ?_
          refine J.n_then ?_
          rw [or_dig (by omega) (by omega) (by omega), hi0, hi1] at o40_5
          rw [hi0] at hd0 hb0
          rw [hi1] at hd1 hb1
          exact J.round ((k + 1, s40_5)) ⟨rfl, rfl, (someI (by show (2 * (k : Int) + 2) = 2 * ((k + 1 : Nat) : Int); omega)), trivial⟩ (⟨by show 2 * (k + 1) ≤ l.length; omega, by show ∀ j, j < 2 * (k + 1) → 0 ≤ dig (l.getD j 0); intro j hj; rcases (show j < 2 * k ∨ j = 2 * k ∨ j = 2 * k + 1 by omega) with h | rfl | rfl; exact hall j h; all_goals omega, by show Ob _ _ _ _ (unT l (k + 1)); rw [unT_succ]; exact o40_5, e0⟩) (by show l.length - (k + 1) < l.length - k; omega)
    · skip
      refine J.exit ?_
      refine J.x_then ?_
      refine J.x_then ?_
      refine J.x_block ?_
      refine J.n_then ?_
      refine J.seq ?_
      refine J.region ?_
      refine J.op (Yd.move rfl) rfl ?_
      refine J.op (Yd.assign rfl) rfl ?_
      refine J.op (Yd.assign rfl) rfl ?_
      refine J.nil ?_
      refine J.n_then ?_
      refine J.ret ?_
      exact J.ret2 rfl rfl rfl (⟨_, rfl, un_yes (okH_yes (by omega) hall (by omega)) (by omega) (Ow.rd ho), e0⟩)

theorem RUnhex_ok {l : List UInt8} {w : World} (hl : l.length ≤ 70368744177664) : C Try.prog 24 [Str l] w (Ret fun v w' => (∃ s, v = .tuple #[s, .bool (okH l)] ∧ Bs w' s (unH l)) ∧ Ext w w') := by
  have e0 := Ext.refl w
  refine C.enter Try.func24 rfl Try.ntmps24 rfl ?_
  refine J.seq ?_
  refine J.region ?_
  refine J.op (Yd.assign rfl) rfl ?_
  refine J.op (Yd.assign rfl) rfl ?_
  refine J.nil ?_
  refine J.n_then ?_
  refine J.seq ?_
  refine J.seq ?_
  refine J.region ?_
  refine J.op (Yd.move rfl) rfl ?_
  refine J.op (Yd.slen Try.underlying9 rfl) rfl ?_
  refine J.op (Yd.rem rfl rfl (by first | omega | (simp only [Int.toNat_natCast]; omega) | (simp <;> omega)) (by first | omega | (simp only [Int.toNat_natCast]; omega) | (simp <;> omega))) rfl ?_
  refine J.op (Yd.neq rfl rfl) rfl ?_
  refine J.nil ?_
  refine J.n_then ?_
  refine J.cond_dec rfl (fun hc0 => ?_) (fun hc0 => ?_)
  · skip
    refine J.seq ?_
    refine J.region ?_
    refine J.op (Yd.assign rfl) rfl ?_
    refine J.op (Yd.assign rfl) rfl ?_
    refine J.nil ?_
    refine J.n_then ?_
    refine J.ret ?_
    refine J.r_then ?_
    exact J.ret2 rfl rfl rfl (⟨_, rfl, un_no (by first | exact okH_odd hc0 | exact okH_bad (by omega) hd0 | exact okH_bad (by omega) hd1 | exact okH_bad (j := 2 * k + j) (by omega) (by rw [← hij, dig_no (by omega) (by omega)]; decide)), e0⟩)
  · skip
    refine J.skip ?_
    refine J.n_then ?_
    refine J.seq ?_
    refine J.region ?_
    refine J.op (Yd.assign rfl) rfl ?_
    refine J.nil ?_
    refine J.n_then ?_
    refine J.seq ?_
    refine J.seq ?_
    refine J.region ?_
    refine J.op (Yd.assign rfl) rfl ?_
    refine J.nil ?_
    refine J.n_then ?_
    refine J.block ?_
    refine J.loop (ι := Nat × Value) (fun i => [(0, Str l), (4, i.2), (5, I (2 * (i.1 : Int)))]) (fun i w' => 2 * i.1 ≤ l.length ∧ (∀ j, j < 2 * i.1 → 0 ≤ dig (l.getD j 0)) ∧ Ob w.heap.size 5 w' i.2 (unT l i.1) ∧ Ext w w') (fun i => l.length - i.1) ((0, nilS)) ⟨rfl, rfl, (someI (by simp)), trivial⟩ (⟨Nat.zero_le _, (by intro j hj; exact absurd hj (by simp)), Ow.nil _ _ _, e0⟩) ?_
    rintro ⟨k, v⟩ w1 ⟨hk, hall, ho, e0⟩
    dsimp only at hk hall ho ⊢
    have hul := unT_len l k
    have hi0 : (2 * (k : Int)).toNat = 2 * k := by omega
    refine J.seq ?_
    refine J.seq ?_
    refine J.region ?_
    refine J.op (Yd.move rfl) rfl ?_
    refine J.op (Yd.move rfl) rfl ?_
    refine J.op (Yd.slen Try.underlying9 rfl) rfl ?_
    refine J.op (Yd.lss rfl rfl) rfl ?_
    refine J.nil ?_
    refine J.n_then ?_
    refine J.cond_dec rfl (fun hc1 => ?_) (fun hc1 => ?_)
    · skip
      refine J.skip ?_
      refine J.n_then ?_
      refine J.seq ?_
      refine J.block ?_
      refine J.seq ?_
      refine J.region ?_
      refine J.op (Yd.assign rfl) rfl ?_
      refine J.nil ?_
      refine J.n_then ?_
      refine J.seq ?_
      refine J.seq ?_
      refine J.region ?_
      refine J.op (Yd.assign rfl) rfl ?_
      refine J.nil ?_
      refine J.n_then ?_
      refine J.block ?_
      refine J.loop (ι := Nat) (fun i => [(0, Str l), (4, v), (5, I (2 * (k : Int))), (6, I (pv l k i)), (7, I i)]) (fun i w' => i ≤ 2 ∧ (∀ j, j < i → 0 ≤ dig (l.getD (2 * k + j) 0)) ∧ Ob w.heap.size 5 w' v (unT l k) ∧ Ext w w') (fun i => 2 - i) (0) ⟨rfl, rfl, rfl, rfl, rfl, trivial⟩ (⟨by omega, (by intro j hj; exact absurd hj (by simp)), ho, e0⟩) ?_
      rintro j w2 ⟨hj, hd, ho, e0⟩
      have hij : (2 * (k : Int) + (j : Int)).toNat = 2 * k + j := by omega
      have hcn := (l.getD (2 * (k : Int) + (j : Int)).toNat 0 - 48).toNat_lt
      have hcm := (l.getD (2 * (k : Int) + (j : Int)).toNat 0 - 97).toNat_lt
      have hpb := pv_bd l k j
      refine J.seq ?_
      refine J.seq ?_
      refine J.region ?_
      refine J.op (Yd.move rfl) rfl ?_
      refine J.op (Yd.lss rfl rfl) rfl ?_
      refine J.nil ?_
      refine J.n_then ?_
      refine J.cond_dec rfl (fun hc2 => ?_) (fun hc2 => ?_)
      · skip
        refine J.skip ?_
        refine J.n_then ?_
        refine J.seq ?_
        refine J.block ?_
        refine J.seq ?_
        refine J.region ?_
        refine J.op (Yd.move rfl) rfl ?_
        refine J.op (Yd.move rfl) rfl ?_
        refine J.op (Yd.move rfl) rfl ?_
        refine J.op (Yd.add rfl rfl (by first | omega | (simp only [Int.toNat_natCast]; omega) | (simp <;> omega))) rfl ?_
        refine J.op (Yd.sidx Try.underlying9 rfl rfl (by first | omega | (simp only [Int.toNat_natCast]; omega) | (simp <;> omega))) rfl ?_
        refine J.op (Yd.assign rfl) rfl ?_
        refine J.nil ?_
        refine J.n_then ?_
        refine J.block ?_
        refine J.seq ?_
        refine J.region ?_
        refine J.op (Yd.move rfl) rfl ?_
        refine J.op (Yd.geq rfl rfl) rfl ?_
        refine J.op (Yd.move rfl) rfl ?_
        refine J.split_dec (t := 31) rfl (fun hg1 => ?_) (fun hg1 => ?_)
        · skip
          refine J.op_g rfl rfl rfl (Yd.move rfl) rfl ?_
          refine J.op_g rfl rfl rfl (Yd.leq rfl rfl) rfl ?_
          refine J.op (Yd.pick_t rfl rfl) rfl ?_
          refine J.op (Yd.assign rfl) rfl ?_
          refine J.nil ?_
          refine J.n_then ?_
          refine J.cond_dec rfl (fun hc3 => ?_) (fun hc3 => ?_)
          · skip
            refine J.region ?_
            refine J.op (Yd.move rfl) rfl ?_
            refine J.op (Yd.mul rfl rfl (by first | omega | (simp only [Int.toNat_natCast]; omega) | (simp <;> omega))) rfl ?_
            refine J.op (Yd.move rfl) rfl ?_
            refine J.op (Yd.sub_u8 (n := 48) rfl rfl) rfl ?_
            refine J.op (Yd.cv_8_i Try.underlying5 Try.underlying3 rfl) rfl ?_
            refine J.op (Yd.add rfl rfl (by first | omega | (simp only [Int.toNat_natCast]; omega) | (simp <;> omega))) rfl ?_
            refine J.op (Yd.assign rfl) rfl ?_
            refine J.nil ?_
            refine J.n_block ?_
            refine J.n_block ?_
            refine J.n_then ?_
            refine J.region ?_
            refine J.op (Yd.move rfl) rfl ?_
            refine J.op (Yd.add rfl rfl (by first | omega | (simp only [Int.toNat_natCast]; omega) | (simp <;> omega))) rfl ?_
            refine J.op (Yd.assign rfl) rfl ?_
            refine J.nil ?_
            refine J.n_then ?_
            exact J.round (j + 1) ⟨rfl, rfl, rfl, (someI (by have hpj := pv_succ l k j (by omega); first | (have e := dig_num hg1 hc3; rw [hij] at e ⊢; omega) | (have e := dig_let hg2 hc4; rw [hij] at e ⊢; omega))), rfl, trivial⟩ (⟨by omega, by intro i hi; rcases (show i < j ∨ i = j by omega) with h | rfl; exact hd i h; first | (have e := dig_num hg1 hc3; rw [hij] at e; omega) | (have e := dig_let hg2 hc4; rw [hij] at e; omega), ho, e0⟩) (by omega)
          · skip
            refine J.seq ?_
            refine J.region ?_
            refine J.op (Yd.move rfl) rfl ?_
            refine J.op (Yd.geq rfl rfl) rfl ?_
            refine J.op (Yd.move rfl) rfl ?_
            refine J.split_dec (t := 44) rfl (fun hg2 => ?_) (fun hg2 => ?_)
            · skip
              refine J.op_g rfl rfl rfl (Yd.move rfl) rfl ?_
              refine J.op_g rfl rfl rfl (Yd.leq rfl rfl) rfl ?_
              refine J.op (Yd.pick_t rfl rfl) rfl ?_
              refine J.op (Yd.assign rfl) rfl ?_
              refine J.nil ?_
              refine J.n_then ?_
              refine J.cond_dec rfl (fun hc4 => ?_) (fun hc4 => ?_)
              · skip
                refine J.region ?_
                refine J.op (Yd.move rfl) rfl ?_
                refine J.op (Yd.mul rfl rfl (by first | omega | (simp only [Int.toNat_natCast]; omega) | (simp <;> omega))) rfl ?_
                refine J.op (Yd.move rfl) rfl ?_
                refine J.op (Yd.sub_u8 (n := 97) rfl rfl) rfl ?_
                refine J.op (Yd.cv_8_i Try.underlying5 Try.underlying3 rfl) rfl ?_
                refine J.op (Yd.add rfl rfl (by first | omega | (simp only [Int.toNat_natCast]; omega) | (simp <;> omega))) rfl ?_
                refine J.op (Yd.add rfl rfl (by first | omega | (simp only [Int.toNat_natCast]; omega) | (simp <;> omega))) rfl ?_
                refine J.op (Yd.assign rfl) rfl ?_
                refine J.nil ?_
                refine J.n_block ?_
                refine J.n_block ?_
                refine J.n_then ?_
                refine J.region ?_
                refine J.op (Yd.move rfl) rfl ?_
                refine J.op (Yd.add rfl rfl (by first | omega | (simp only [Int.toNat_natCast]; omega) | (simp <;> omega))) rfl ?_
                refine J.op (Yd.assign rfl) rfl ?_
                refine J.nil ?_
                refine J.n_then ?_
                exact J.round (j + 1) ⟨rfl, rfl, rfl, (someI (by have hpj := pv_succ l k j (by omega); first | (have e := dig_num hg1 hc3; rw [hij] at e ⊢; omega) | (have e := dig_let hg2 hc4; rw [hij] at e ⊢; omega))), rfl, trivial⟩ (⟨by omega, by intro i hi; rcases (show i < j ∨ i = j by omega) with h | rfl; exact hd i h; first | (have e := dig_num hg1 hc3; rw [hij] at e; omega) | (have e := dig_let hg2 hc4; rw [hij] at e; omega), ho, e0⟩) (by omega)
              · skip
                refine J.seq ?_
                refine J.region ?_
                refine J.op (Yd.assign rfl) rfl ?_
                refine J.op (Yd.assign rfl) rfl ?_
                refine J.nil ?_
                refine J.n_then ?_
                refine J.ret ?_
                refine J.r_block ?_
                refine J.r_block ?_
                refine J.r_then ?_
                refine J.r_then ?_
                refine J.r_block ?_
                refine J.r_then ?_
                refine J.r_block ?_
                refine J.r_then ?_
                refine J.r_then ?_
                refine J.r_block ?_
                refine J.r_then ?_
                exact J.ret2 rfl rfl rfl (⟨_, rfl, un_no (by first | exact okH_odd hc0 | exact okH_bad (by omega) hd0 | exact okH_bad (by omega) hd1 | exact okH_bad (j := 2 * k + j) (by omega) (by rw [← hij, dig_no (by omega) (by omega)]; decide)), e0⟩)
            · skip
              refine J.not_g rfl rfl rfl rfl rfl ?_
              refine J.not_g rfl rfl rfl rfl rfl ?_
              refine J.op (Yd.pick_f rfl rfl) rfl ?_
              refine J.op (Yd.assign rfl) rfl ?_
              refine J.nil ?_
              refine J.n_then ?_
              refine J.cond_false rfl ?_
              refine J.seq ?_
              refine J.region ?_
              refine J.op (Yd.assign rfl) rfl ?_
              refine J.op (Yd.assign rfl) rfl ?_
              refine J.nil ?_
              refine J.n_then ?_
              refine J.ret ?_
              refine J.r_block ?_
              refine J.r_block ?_
              refine J.r_then ?_
              refine J.r_then ?_
              refine J.r_block ?_
              refine J.r_then ?_
              refine J.r_block ?_
              refine J.r_then ?_
              refine J.r_then ?_
              refine J.r_block ?_
              refine J.r_then ?_
              exact J.ret2 rfl rfl rfl (⟨_, rfl, un_no (by first | exact okH_odd hc0 | exact okH_bad (by omega) hd0 | exact okH_bad (by omega) hd1 | exact okH_bad (j := 2 * k + j) (by omega) (by rw [← hij, dig_no (by omega) (by omega)]; decide)), e0⟩)
        · skip
          refine J.not_g rfl rfl rfl rfl rfl ?_
          refine J.not_g rfl rfl rfl rfl rfl ?_
          refine J.op (Yd.pick_f rfl rfl) rfl ?_
          refine J.op (Yd.assign rfl) rfl ?_
          refine J.nil ?_
          refine J.n_then ?_
          refine J.cond_false rfl ?_
          refine J.seq ?_
          refine J.region ?_
          refine J.op (Yd.move rfl) rfl ?_
          refine J.op (Yd.geq rfl rfl) rfl ?_
          refine J.op (Yd.move rfl) rfl ?_
          refine J.split_dec (t := 44) rfl (fun hg2 => ?_) (fun hg2 => ?_)
          · skip
            refine J.op_g rfl rfl rfl (Yd.move rfl) rfl ?_
            refine J.op_g rfl rfl rfl (Yd.leq rfl rfl) rfl ?_
            refine J.op (Yd.pick_t rfl rfl) rfl ?_
            refine J.op (Yd.assign rfl) rfl ?_
            refine J.nil ?_
            refine J.n_then ?_
            refine J.cond_dec rfl (fun hc4 => ?_) (fun hc4 => ?_)
            · skip
              refine J.region ?_
              refine J.op (Yd.move rfl) rfl ?_
              refine J.op (Yd.mul rfl rfl (by first | omega | (simp only [Int.toNat_natCast]; omega) | (simp <;> omega))) rfl ?_
              refine J.op (Yd.move rfl) rfl ?_
              refine J.op (Yd.sub_u8 (n := 97) rfl rfl) rfl ?_
              refine J.op (Yd.cv_8_i Try.underlying5 Try.underlying3 rfl) rfl ?_
              refine J.op (Yd.add rfl rfl (by first | omega | (simp only [Int.toNat_natCast]; omega) | (simp <;> omega))) rfl ?_
              refine J.op (Yd.add rfl rfl (by first | omega | (simp only [Int.toNat_natCast]; omega) | (simp <;> omega))) rfl ?_
              refine J.op (Yd.assign rfl) rfl ?_
              refine J.nil ?_
              refine J.n_block ?_
              refine J.n_block ?_
              refine J.n_then ?_
              refine J.region ?_
              refine J.op (Yd.move rfl) rfl ?_
              refine J.op (Yd.add rfl rfl (by first | omega | (simp only [Int.toNat_natCast]; omega) | (simp <;> omega))) rfl ?_
              refine J.op (Yd.assign rfl) rfl ?_
              refine J.nil ?_
              refine J.n_then ?_
              exact J.round (j + 1) ⟨rfl, rfl, rfl, (someI (by have hpj := pv_succ l k j (by omega); first | (have e := dig_num hg1 hc3; rw [hij] at e ⊢; omega) | (have e := dig_let hg2 hc4; rw [hij] at e ⊢; omega))), rfl, trivial⟩ (⟨by omega, by intro i hi; rcases (show i < j ∨ i = j by omega) with h | rfl; exact hd i h; first | (have e := dig_num hg1 hc3; rw [hij] at e; omega) | (have e := dig_let hg2 hc4; rw [hij] at e; omega), ho, e0⟩) (by omega)
            · skip
              refine J.seq ?_
              refine J.region ?_
              refine J.op (Yd.assign rfl) rfl ?_
              refine J.op (Yd.assign rfl) rfl ?_
              refine J.nil ?_
              refine J.n_then ?_
              refine J.ret ?_
              refine J.r_block ?_
              refine J.r_block ?_
              refine J.r_then ?_
              refine J.r_then ?_
              refine J.r_block ?_
              refine J.r_then ?_
              refine J.r_block ?_
              refine J.r_then ?_
              refine J.r_then ?_
              refine J.r_block ?_
              refine J.r_then ?_
              exact J.ret2 rfl rfl rfl (⟨_, rfl, un_no (by first | exact okH_odd hc0 | exact okH_bad (by omega) hd0 | exact okH_bad (by omega) hd1 | exact okH_bad (j := 2 * k + j) (by omega) (by rw [← hij, dig_no (by omega) (by omega)]; decide)), e0⟩)
          · skip
            refine J.not_g rfl rfl rfl rfl rfl ?_
            refine J.not_g rfl rfl rfl rfl rfl ?_
            refine J.op (Yd.pick_f rfl rfl) rfl ?_
            refine J.op (Yd.assign rfl) rfl ?_
            refine J.nil ?_
            refine J.n_then ?_
            refine J.cond_false rfl ?_
            refine J.seq ?_
            refine J.region ?_
            refine J.op (Yd.assign rfl) rfl ?_
            refine J.op (Yd.assign rfl) rfl ?_
            refine J.nil ?_
            refine J.n_then ?_
            refine J.ret ?_
            refine J.r_block ?_
            refine J.r_block ?_
            refine J.r_then ?_
            refine J.r_then ?_
            refine J.r_block ?_
            refine J.r_then ?_
            refine J.r_block ?_
            refine J.r_then ?_
            refine J.r_then ?_
            refine J.r_block ?_
            refine J.r_then ?_
            exact J.ret2 rfl rfl rfl (⟨_, rfl, un_no (by first | exact okH_odd hc0 | exact okH_bad (by omega) hd0 | exact okH_bad (by omega) hd1 | exact okH_bad (j := 2 * k + j) (by omega) (by rw [← hij, dig_no (by omega) (by omega)]; decide)), e0⟩)
      · skip
        obtain rfl : j = 2 := by omega
        have hd0 := hd 0 (by omega)
        have hd1 := hd 1 (by omega)
        rw [Nat.add_zero] at hd0
        have hpv : pv l k 2 = 16 * dig (l.getD (2 * k) 0) + dig (l.getD (2 * k + 1) 0) := rfl
        refine J.exit ?_
        refine J.x_then ?_
        refine J.x_then ?_
        refine J.x_block ?_
        refine J.n_then ?_
        refine J.region ?_
        refine J.op (Yd.move rfl) rfl ?_
        refine J.op (Yd.move rfl) rfl ?_
        refine J.op (Yd.cv_i_8 Try.underlying3 Try.underlying5 rfl (by first | omega | (simp only [Int.toNat_natCast]; omega) | (simp <;> omega))) rfl ?_
        refine J.eff (Ye.lit1 (base := w.heap.size) (f := (fun x : UInt8 => B x)) Try.underlying22 ti5 rfl rfl (fun _ => rfl) e0.size) rfl ?_
        rintro s58_3 w3 ⟨o58_3, x1⟩
        have e0 := e0.trans x1
        have ho := ho.ext x1
        clear x1
        refine J.eff (Ye.appendM Try.underlying22 ti5 rfl rfl rfl rfl ho (Ow.rd o58_3) (fun _ => rfl) (by first | omega | (simp only [Int.toNat_natCast]; omega) | (simp <;> omega)) e0.size) rfl ?_
        rintro s59_4 w4 ⟨o59_4, hg⟩
        have e0 := e0.grown ho (Nat.le_refl _) hg
        -- other own rows: o58_3
        clear hg
        refine J.op (Yd.assign rfl) rfl ?_
        refine J.nil ?_
        refine J.n_block ?_
        refine J.n_then ?_
        refine J.region ?_
        refine J.op (Yd.move rfl) rfl ?_
        refine J.op (Yd.add rfl rfl (by first | omega | (simp only [Int.toNat_natCast]; omega) | (simp <;> omega))) rfl ?_
        refine J.op (Yd.assign rfl) rfl ?_
        refine J.nil ?_
        refine J.n_then ?_
        rw [hpv] at o59_4
        exact J.round ((k + 1, s59_4)) ⟨rfl, rfl, (someI (by show (2 * (k : Int) + 2) = 2 * ((k + 1 : Nat) : Int); omega)), trivial⟩ (⟨by show 2 * (k + 1) ≤ l.length; omega, by show ∀ j, j < 2 * (k + 1) → 0 ≤ dig (l.getD j 0); intro j hj; rcases (show j < 2 * k ∨ j = 2 * k ∨ j = 2 * k + 1 by omega) with h | rfl | rfl; exact hall j h; all_goals omega, by show Ob _ _ _ _ (unT l (k + 1)); rw [unT_succ]; exact o59_4, e0⟩) (by show l.length - (k + 1) < l.length - k; omega)
    · skip
      refine J.exit ?_
      refine J.x_then ?_
      refine J.x_then ?_
      refine J.x_block ?_
      refine J.n_then ?_
      refine J.seq ?_
      refine J.region ?_
      refine J.op (Yd.move rfl) rfl ?_
      refine J.op (Yd.assign rfl) rfl ?_
      refine J.op (Yd.assign rfl) rfl ?_
      refine J.nil ?_
      refine J.n_then ?_
      refine J.ret ?_
      exact J.ret2 rfl rfl rfl (⟨_, rfl, un_yes (okH_yes (by omega) hall (by omega)) (by omega) (Ow.rd ho), e0⟩)
end Ytonoafnjkpahjaa
end Go.Proofs
