import Derived.Test.YtonoafnjkpahjaaT
import Derived.Test.YtonoafnjkpahjaaPA
import Derived.Test.YtonoafnjkpahjaaF1
set_option linter.unusedVariables false
set_option linter.unusedSimpArgs false
set_option maxRecDepth 100000
set_option maxHeartbeats 4000000
namespace Go.Proofs
open Go.X Go.RowKit
namespace Ytonoafnjkpahjaa
theorem Hex_ok {a : Value} {l : List UInt8} {w : World} (ha : Bs w a l) (hl : l.length ≤ 70368744177664) : C Try.prog 25 [a] w (Ret fun v w' => v = Str (hexL l) ∧ Ext w w') := by
  have e0 := Ext.refl w
  refine C.enter Try.func25 rfl Try.ntmps25 rfl ?_
  refine J.seq ?_
  refine J.region ?_
  refine J.op (Yd.assign rfl) rfl ?_
  refine J.nil ?_
  refine J.n_then ?_
  refine J.seq ?_
  refine J.region ?_
  refine J.op (Yd.assign rfl) rfl ?_
  refine J.nil ?_
  refine J.n_then ?_
  refine J.seq ?_
  refine J.seq ?_
  refine J.region ?_
  refine J.op (Yd.move rfl) rfl ?_
  refine J.op (Yd.len_b Try.underlying22 rfl ha) rfl ?_
  refine J.op (Yd.move rfl) rfl ?_
  refine J.nil ?_
  refine J.n_then ?_
  refine J.block ?_
  refine J.loop (ι := Nat × Value) (fun i => [(3, i.2), (6, a), (7, I l.length), (8, I i.1)]) (fun i w' => i.1 ≤ l.length ∧ Ob w.heap.size 5 w' i.2 (hexL (l.take i.1)) ∧ Ext w w') (fun i => l.length - i.1) ((0, nilS)) ⟨rfl, rfl, rfl, rfl, trivial⟩ (⟨Nat.zero_le _, Ow.nil _ _ _, e0⟩) ?_
  rintro ⟨k, v⟩ w1 ⟨hk, ho, e0⟩
  dsimp only at hk ho ⊢
  have hxl := hexL_len (l.take k)
  have htk := List.length_take_le k l
  refine J.seq ?_
  refine J.region ?_
  refine J.op (Yd.lss rfl rfl) rfl ?_
  refine J.nil ?_
  refine J.n_then ?_
  refine J.seq ?_
  refine J.cond_dec rfl (fun hc0 => ?_) (fun hc0 => ?_)
  · skip
    refine J.skip ?_
    refine J.n_then ?_
    refine J.seq ?_
    refine J.block ?_
    refine J.seq ?_
    refine J.region ?_
    refine J.op (Yd.idx_b Try.underlying22 ti5 rfl rfl (Rd.ext ha e0) (by first | omega | (simp only [Int.toNat_natCast]; omega) | (simp <;> omega))) rfl ?_
    refine J.op (Yd.load pl5 rfl (Bs.cell (Rd.ext ha e0) (by first | omega | (simp only [Int.toNat_natCast]; omega) | (simp <;> omega)))) rfl ?_
    refine J.op (Yd.assign rfl) rfl ?_
    refine J.nil ?_
    refine J.n_then ?_
    refine J.regionO [(0, true), (1, true), (2, true), (3, true), (4, true), (5, true), (6, true), (7, false), (8, false), (9, true)] [] [] mix (by kernel_rfl) ?_
    refine J.s_op rfl (fun _ => Yd.move rfl) rfl ?_
    refine J.s_op rfl (fun _ => Yd.move rfl) rfl ?_
    refine J.s_op rfl (fun _ => Yd.shr_u8 rfl rfl (by first | omega | (simp only [Int.toNat_natCast]; omega) | (simp <;> omega))) rfl ?_
    refine J.s_op rfl (fun _ => Yd.sidx Try.underlying9 rfl rfl (hexB (hi_lt _))) rfl ?_
    refine J.s_op rfl (fun _ => Yd.move rfl) rfl ?_
    refine J.s_op rfl (fun _ => Yd.and_u8 (n := 15) rfl rfl) rfl ?_
    refine J.s_op rfl (fun _ => Yd.sidx Try.underlying9 rfl rfl (hexB (lo_lt _))) rfl ?_
    refine J.s_eff rfl (Ye.lit2 (base := w.heap.size) (f := (fun x : UInt8 => B x)) Try.underlying22 ti5 rfl rfl rfl (fun _ => rfl) e0.size) rfl ?_
    rintro s19_2 w2 ⟨o19_2, x1⟩
    have e0 := e0.trans x1
    have ho := ho.ext x1
    clear x1
    refine J.s_eff rfl (Ye.appendM Try.underlying22 ti5 rfl rfl rfl rfl ho (Ow.rd o19_2) (fun _ => rfl) (by first | omega | (simp only [Int.toNat_natCast]; omega) | (simp <;> omega)) e0.size) rfl ?_
    rintro s20_3 w3 ⟨o20_3, hg⟩
    have e0 := e0.grown ho (Nat.le_refl _) hg
    -- other own rows: o19_2
    clear hg
    refine J.s_op rfl (fun _ => Yd.assign rfl) rfl ?_
    refine J.s_nil ?_
    refine J.o_nil ?_
    refine J.s_nil ?_
    refine J.n_np ?_
    refine J.n_block ?_
    refine J.n_then ?_
    refine J.region ?_
    refine J.op (Yd.add rfl rfl (by first | omega | (simp only [Int.toNat_natCast]; omega) | (simp <;> omega))) rfl ?_
    refine J.op (Yd.move rfl) rfl ?_
    refine J.nil ?_
    refine J.n_then ?_
    exact J.round ((k + 1, s20_3)) ⟨rfl, rfl, rfl, rfl, trivial⟩ (⟨by show k + 1 ≤ l.length; omega, by show Ob _ _ _ _ (hexL (l.take (k + 1))); rw [hexL_take l k (by omega)]; exact o20_3, e0⟩) (by show l.length - (k + 1) < l.length - k; omega)
  · skip
    refine J.exit ?_
    refine J.x_then ?_
    refine J.x_then ?_
    refine J.x_block ?_
    refine J.n_then ?_
    refine J.seq ?_
    refine J.region ?_
    refine J.op (Yd.move rfl) rfl ?_
    refine J.op (Yd.bstr Try.underlying22 Try.underlying5 Try.underlying9 rfl (Ow.rd ho)) rfl ?_
    refine J.op (Yd.assign rfl) rfl ?_
    refine J.nil ?_
    refine J.n_then ?_
    refine J.ret ?_
    exact J.ret1 rfl rfl (⟨_, rfl, by rw [List.take_of_length_le (by omega)], e0⟩)

theorem awake_ok {w : World} : C Try.prog 9 [] w (Ret fun v w' => v = .bool true ∧ Ext w w') := by
  have e0 := Ext.refl w
  refine C.enter Try.func9 rfl Try.ntmps9 rfl ?_
  refine J.seq ?_
  refine J.region ?_
  refine J.op (Yd.assign rfl) rfl ?_
  refine J.nil ?_
  refine J.n_then ?_
  refine J.seq ?_
  refine J.region ?_
  refine J.eff (Ye.call cl14 rfl (Put32_ok (n := 258))) rfl ?_
  rintro s2_1 w1 ⟨o2_1, x1⟩
  have e0 := e0.trans x1
  clear x1
  refine J.op (Yd.assign rfl) rfl ?_
  refine J.nil ?_
  refine J.n_then ?_
  refine J.seq ?_
  refine J.region ?_
  refine J.op (Yd.move rfl) rfl ?_
  refine J.op (Yd.bstr Try.underlying22 Try.underlying5 Try.underlying9 rfl o2_1) rfl ?_
  refine J.op (Yd.seq rfl rfl) rfl ?_
  refine J.op (Yd.move rfl) rfl ?_
  refine J.know (t := 6) (v' := .bool true) rfl (tt (by decide +kernel)) ?_
  refine J.eff_g rfl rfl rfl (Ye.lit1 (base := w.heap.size) (f := (fun x : UInt8 => B x)) (u := 10) Try.underlying22 ti5 rfl rfl (fun _ => rfl) e0.size) rfl ?_
  rintro s7_2 w2 ⟨o7_2, x1⟩
  have e0 := e0.trans x1
  have o2_1 := o2_1.ext x1
  clear x1
  refine J.eff_g rfl rfl rfl (Ye.call cl25 rfl (Hex_ok (Ow.rd o7_2) (by first | omega | simp))) rfl ?_
  rintro _ w3 ⟨rfl, x1⟩
  have e0 := e0.trans x1
  have o2_1 := o2_1.ext x1
  have o7_2 := o7_2.ext x1
  clear x1
  refine J.op_g rfl rfl rfl (Yd.seq rfl rfl) rfl ?_
  refine J.op (Yd.pick_t rfl rfl) rfl ?_
  refine J.op (Yd.move rfl) rfl ?_
  refine J.know (t := 11) (v' := .bool true) rfl (tt (by decide +kernel)) ?_
  refine J.eff_g rfl rfl rfl (Ye.call cl15 rfl (Equal_ok (Rd.nilM (fun x : UInt8 => B x) _) (Rd.nilM (fun x : UInt8 => B x) _))) rfl ?_
  rintro _ w4 ⟨rfl, x1⟩
  have e0 := e0.trans x1
  have o2_1 := o2_1.ext x1
  have o7_2 := o7_2.ext x1
  clear x1
  refine J.op (Yd.pick_t rfl rfl) rfl ?_
  refine J.op (Yd.assign rfl) rfl ?_
  refine J.nil ?_
  refine J.n_then ?_
  refine J.ret ?_
  exact J.ret1 rfl rfl (⟨_, rfl, tt (by decide), e0⟩)
end Ytonoafnjkpahjaa
end Go.Proofs
