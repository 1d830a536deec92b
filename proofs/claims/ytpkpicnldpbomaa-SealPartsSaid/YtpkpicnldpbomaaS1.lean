import Derived.Test.YtpkpicnldpbomaaT
import Derived.Test.YtpkpicnldpbomaaPB
import Derived.Test.YtpkpicnldpbomaaF5
set_option linter.unusedVariables false
set_option linter.unusedSimpArgs false
set_option maxRecDepth 100000
set_option maxHeartbeats 4000000
namespace Go.Proofs
open Go.X Go.RowKit
namespace Ytpkpicnldpbomaa
theorem Rrounds_ok {w : World} : C Try.prog 44 [] w (Ret fun v w' => v = Ag (fun x => W64 x) roundsL ∧ Ext w w') := by
  have e0 := Ext.refl w
  refine C.enter Try.func44 rfl Try.ntmps44 rfl ?_
  refine J.seq ?_
  refine J.region ?_
  refine J.eff (Ye.alloc ti72 (S := [(0, 80, (List.replicate 80 0).map (fun x : UInt64 => W64 x))]) (by simp [SegAll, SegOK, Value.cells])) rfl ?_
  rintro _ w1 ⟨b0_0, rfl, hb_, c0_0, x1⟩
  have hz_b0_0 := Nat.le_trans e0.size hb_
  have e0 := e0.trans x1
  clear x1 hb_
  refine J.nil ?_
  refine J.n_then ?_
  refine J.seq ?_
  refine J.region ?_
  refine J.op (Yd.buildA (cells := (roundsL.map fun x => W64 x).toArray) Try.underlying72 ti42 ti72 rfl (by kernel_rfl)) rfl ?_
  refine J.eff0 (Ye.storeA (ys := List.map (fun x : UInt64 => W64 x) _) ti72 c0_0 0 rfl rfl rfl rfl (by first | (rw [List.length_map]; omega) | (simp; done) | rfl | (simp <;> omega)) (one_M _ (fun _ => rfl))) ?_
  rintro _ w2 ⟨cX, hu⟩
  simp only [List.set_cons_zero, List.set_cons_succ] at cX
  have e0 := e0.upd hz_b0_0 hu
  replace c0_0 := cX
  clear cX hu
  refine J.nil ?_
  refine J.n_then ?_
  refine J.ret ?_
  exact J.ret1c rfl rfl ag72 ti72 c0_0 0 rfl (⟨_, rfl, rfl, e0⟩)

theorem Rounds_ok {w : World} : C Try.prog 65 [] w (Ret fun v w' => v = Ag (fun x => W64 x) roundsL ∧ Ext w w') := by
  have e0 := Ext.refl w
  refine C.enter Try.func65 rfl Try.ntmps65 rfl ?_
  refine J.seq ?_
  refine J.region ?_
  refine J.eff (Ye.alloc ti72 (S := [(0, 80, (List.replicate 80 0).map (fun x : UInt64 => W64 x))]) (by simp [SegAll, SegOK, Value.cells])) rfl ?_
  rintro _ w1 ⟨b0_0, rfl, hb_, c0_0, x1⟩
  have hz_b0_0 := Nat.le_trans e0.size hb_
  have e0 := e0.trans x1
  clear x1 hb_
  refine J.nil ?_
  refine J.n_then ?_
  refine J.seq ?_
  refine J.region ?_
  refine J.op (Yd.buildA (cells := (roundsL.map fun x => W64 x).toArray) Try.underlying72 ti42 ti72 rfl (by kernel_rfl)) rfl ?_
  refine J.eff0 (Ye.storeA (ys := List.map (fun x : UInt64 => W64 x) _) ti72 c0_0 0 rfl rfl rfl rfl (by first | (rw [List.length_map]; omega) | (simp; done) | rfl | (simp <;> omega)) (one_M _ (fun _ => rfl))) ?_
  rintro _ w2 ⟨cX, hu⟩
  simp only [List.set_cons_zero, List.set_cons_succ] at cX
  have e0 := e0.upd hz_b0_0 hu
  replace c0_0 := cX
  clear cX hu
  refine J.nil ?_
  refine J.n_then ?_
  refine J.ret ?_
  exact J.ret1c rfl rfl ag72 ti72 c0_0 0 rfl (⟨_, rfl, rfl, e0⟩)

theorem Rstart_ok {w : World} : C Try.prog 45 [] w (Ret fun v w' => v = Ag (fun x => W64 x) startL ∧ Ext w w') := by
  have e0 := Ext.refl w
  refine C.enter Try.func45 rfl Try.ntmps45 rfl ?_
  refine J.seq ?_
  refine J.region ?_
  refine J.eff (Ye.alloc ti74 (S := [(0, 8, (List.replicate 8 0).map (fun x : UInt64 => W64 x))]) (by simp [SegAll, SegOK, Value.cells])) rfl ?_
  rintro _ w1 ⟨b0_0, rfl, hb_, c0_0, x1⟩
  have hz_b0_0 := Nat.le_trans e0.size hb_
  have e0 := e0.trans x1
  clear x1 hb_
  refine J.nil ?_
  refine J.n_then ?_
  refine J.seq ?_
  refine J.region ?_
  refine J.op (Yd.buildA (cells := (startL.map fun x => W64 x).toArray) Try.underlying74 ti42 ti74 rfl (by kernel_rfl)) rfl ?_
  refine J.eff0 (Ye.storeA (ys := List.map (fun x : UInt64 => W64 x) _) ti74 c0_0 0 rfl rfl rfl rfl (by first | (rw [List.length_map]; omega) | (simp; done) | rfl | (simp <;> omega)) (one_M _ (fun _ => rfl))) ?_
  rintro _ w2 ⟨cX, hu⟩
  simp only [List.set_cons_zero, List.set_cons_succ] at cX
  have e0 := e0.upd hz_b0_0 hu
  replace c0_0 := cX
  clear cX hu
  refine J.nil ?_
  refine J.n_then ?_
  refine J.ret ?_
  exact J.ret1c rfl rfl ag74 ti74 c0_0 0 rfl (⟨_, rfl, rfl, e0⟩)

theorem Start_ok {w : World} : C Try.prog 64 [] w (Ret fun v w' => v = Ag (fun x => W64 x) startL ∧ Ext w w') := by
  have e0 := Ext.refl w
  refine C.enter Try.func64 rfl Try.ntmps64 rfl ?_
  refine J.seq ?_
  refine J.region ?_
  refine J.eff (Ye.alloc ti74 (S := [(0, 8, (List.replicate 8 0).map (fun x : UInt64 => W64 x))]) (by simp [SegAll, SegOK, Value.cells])) rfl ?_
  rintro _ w1 ⟨b0_0, rfl, hb_, c0_0, x1⟩
  have hz_b0_0 := Nat.le_trans e0.size hb_
  have e0 := e0.trans x1
  clear x1 hb_
  refine J.nil ?_
  refine J.n_then ?_
  refine J.seq ?_
  refine J.region ?_
  refine J.op (Yd.buildA (cells := (startL.map fun x => W64 x).toArray) Try.underlying74 ti42 ti74 rfl (by kernel_rfl)) rfl ?_
  refine J.eff0 (Ye.storeA (ys := List.map (fun x : UInt64 => W64 x) _) ti74 c0_0 0 rfl rfl rfl rfl (by first | (rw [List.length_map]; omega) | (simp; done) | rfl | (simp <;> omega)) (one_M _ (fun _ => rfl))) ?_
  rintro _ w2 ⟨cX, hu⟩
  simp only [List.set_cons_zero, List.set_cons_succ] at cX
  have e0 := e0.upd hz_b0_0 hu
  replace c0_0 := cX
  clear cX hu
  refine J.nil ?_
  refine J.n_then ?_
  refine J.ret ?_
  exact J.ret1c rfl rfl ag74 ti74 c0_0 0 rfl (⟨_, rfl, rfl, e0⟩)
end Ytpkpicnldpbomaa
end Go.Proofs
