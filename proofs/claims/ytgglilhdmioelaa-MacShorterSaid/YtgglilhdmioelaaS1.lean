import Derived.Test.YtgglilhdmioelaaT
import Derived.Test.YtgglilhdmioelaaPs
import Derived.Test.YtgglilhdmioelaaF5
set_option linter.unusedVariables false
set_option linter.unusedSimpArgs false
set_option maxRecDepth 100000
set_option maxHeartbeats 4000000
namespace Go.Proofs
open Go.X Go.RowKit
namespace Ytgglilhdmioelaa
theorem Rrounds_ok {w : World} : C Try.prog 26 [] w (Ret fun v w' => v = Ag (fun x => W64 x) roundsL ∧ Ext w w') := by
  have e0 := Ext.refl w
  refine C.enter Try.func26 rfl Try.ntmps26 rfl ?_
  refine J.seq ?_
  refine J.region ?_
  refine J.eff (Ye.alloc ti52 (S := [(0, 80, (List.replicate 80 0).map (fun x : UInt64 => W64 x))]) (by simp [SegAll, SegOK, Value.cells])) rfl ?_
  rintro _ w1 ⟨b0_0, rfl, hb_, c0_0, x1⟩
  have hz_b0_0 := Nat.le_trans e0.size hb_
  have e0 := e0.trans x1
  clear x1 hb_
  refine J.nil ?_
  refine J.n_then ?_
  refine J.seq ?_
  refine J.region ?_
  refine J.op (Yd.buildA (cells := (roundsL.map fun x => W64 x).toArray) Try.underlying52 ti43 ti52 rfl (by kernel_rfl)) rfl ?_
  refine J.eff0 (Ye.storeA (ys := List.map (fun x : UInt64 => W64 x) _) ti52 c0_0 0 rfl rfl rfl rfl (by first | (rw [List.length_map]; omega) | (simp; done) | rfl | (simp <;> omega)) (one_M _ (fun _ => rfl))) ?_
  rintro _ w2 ⟨cX, hu⟩
  simp only [List.set_cons_zero, List.set_cons_succ] at cX
  have e0 := e0.upd hz_b0_0 hu
  replace c0_0 := cX
  clear cX hu
  refine J.nil ?_
  refine J.n_then ?_
  refine J.ret ?_
  exact J.ret1c rfl rfl ag52 ti52 c0_0 0 rfl (⟨_, rfl, rfl, e0⟩)

theorem Rounds_ok {w : World} : C Try.prog 39 [] w (Ret fun v w' => v = Ag (fun x => W64 x) roundsL ∧ Ext w w') := by
  have e0 := Ext.refl w
  refine C.enter Try.func39 rfl Try.ntmps39 rfl ?_
  refine J.seq ?_
  refine J.region ?_
  refine J.eff (Ye.alloc ti52 (S := [(0, 80, (List.replicate 80 0).map (fun x : UInt64 => W64 x))]) (by simp [SegAll, SegOK, Value.cells])) rfl ?_
  rintro _ w1 ⟨b0_0, rfl, hb_, c0_0, x1⟩
  have hz_b0_0 := Nat.le_trans e0.size hb_
  have e0 := e0.trans x1
  clear x1 hb_
  refine J.nil ?_
  refine J.n_then ?_
  refine J.seq ?_
  refine J.region ?_
  refine J.op (Yd.buildA (cells := (roundsL.map fun x => W64 x).toArray) Try.underlying52 ti43 ti52 rfl (by kernel_rfl)) rfl ?_
  refine J.eff0 (Ye.storeA (ys := List.map (fun x : UInt64 => W64 x) _) ti52 c0_0 0 rfl rfl rfl rfl (by first | (rw [List.length_map]; omega) | (simp; done) | rfl | (simp <;> omega)) (one_M _ (fun _ => rfl))) ?_
  rintro _ w2 ⟨cX, hu⟩
  simp only [List.set_cons_zero, List.set_cons_succ] at cX
  have e0 := e0.upd hz_b0_0 hu
  replace c0_0 := cX
  clear cX hu
  refine J.nil ?_
  refine J.n_then ?_
  refine J.ret ?_
  exact J.ret1c rfl rfl ag52 ti52 c0_0 0 rfl (⟨_, rfl, rfl, e0⟩)

theorem Rstart_ok {w : World} : C Try.prog 27 [] w (Ret fun v w' => v = Ag (fun x => W64 x) startL ∧ Ext w w') := by
  have e0 := Ext.refl w
  refine C.enter Try.func27 rfl Try.ntmps27 rfl ?_
  refine J.seq ?_
  refine J.region ?_
  refine J.eff (Ye.alloc ti54 (S := [(0, 8, (List.replicate 8 0).map (fun x : UInt64 => W64 x))]) (by simp [SegAll, SegOK, Value.cells])) rfl ?_
  rintro _ w1 ⟨b0_0, rfl, hb_, c0_0, x1⟩
  have hz_b0_0 := Nat.le_trans e0.size hb_
  have e0 := e0.trans x1
  clear x1 hb_
  refine J.nil ?_
  refine J.n_then ?_
  refine J.seq ?_
  refine J.region ?_
  refine J.op (Yd.buildA (cells := (startL.map fun x => W64 x).toArray) Try.underlying54 ti43 ti54 rfl (by kernel_rfl)) rfl ?_
  refine J.eff0 (Ye.storeA (ys := List.map (fun x : UInt64 => W64 x) _) ti54 c0_0 0 rfl rfl rfl rfl (by first | (rw [List.length_map]; omega) | (simp; done) | rfl | (simp <;> omega)) (one_M _ (fun _ => rfl))) ?_
  rintro _ w2 ⟨cX, hu⟩
  simp only [List.set_cons_zero, List.set_cons_succ] at cX
  have e0 := e0.upd hz_b0_0 hu
  replace c0_0 := cX
  clear cX hu
  refine J.nil ?_
  refine J.n_then ?_
  refine J.ret ?_
  exact J.ret1c rfl rfl ag54 ti54 c0_0 0 rfl (⟨_, rfl, rfl, e0⟩)

theorem Start_ok {w : World} : C Try.prog 38 [] w (Ret fun v w' => v = Ag (fun x => W64 x) startL ∧ Ext w w') := by
  have e0 := Ext.refl w
  refine C.enter Try.func38 rfl Try.ntmps38 rfl ?_
  refine J.seq ?_
  refine J.region ?_
  refine J.eff (Ye.alloc ti54 (S := [(0, 8, (List.replicate 8 0).map (fun x : UInt64 => W64 x))]) (by simp [SegAll, SegOK, Value.cells])) rfl ?_
  rintro _ w1 ⟨b0_0, rfl, hb_, c0_0, x1⟩
  have hz_b0_0 := Nat.le_trans e0.size hb_
  have e0 := e0.trans x1
  clear x1 hb_
  refine J.nil ?_
  refine J.n_then ?_
  refine J.seq ?_
  refine J.region ?_
  refine J.op (Yd.buildA (cells := (startL.map fun x => W64 x).toArray) Try.underlying54 ti43 ti54 rfl (by kernel_rfl)) rfl ?_
  refine J.eff0 (Ye.storeA (ys := List.map (fun x : UInt64 => W64 x) _) ti54 c0_0 0 rfl rfl rfl rfl (by first | (rw [List.length_map]; omega) | (simp; done) | rfl | (simp <;> omega)) (one_M _ (fun _ => rfl))) ?_
  rintro _ w2 ⟨cX, hu⟩
  simp only [List.set_cons_zero, List.set_cons_succ] at cX
  have e0 := e0.upd hz_b0_0 hu
  replace c0_0 := cX
  clear cX hu
  refine J.nil ?_
  refine J.n_then ?_
  refine J.ret ?_
  exact J.ret1c rfl rfl ag54 ti54 c0_0 0 rfl (⟨_, rfl, rfl, e0⟩)
end Ytgglilhdmioelaa
end Go.Proofs
