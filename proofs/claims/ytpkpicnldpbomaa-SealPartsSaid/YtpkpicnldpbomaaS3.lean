import Derived.Test.YtpkpicnldpbomaaT
import Derived.Test.YtpkpicnldpbomaaPB
import Derived.Test.YtpkpicnldpbomaaS2
set_option linter.unusedVariables false
set_option linter.unusedSimpArgs false
set_option maxRecDepth 100000
set_option maxHeartbeats 4000000
namespace Go.Proofs
open Go.X Go.RowKit
namespace Ytpkpicnldpbomaa
theorem Over_ok {h : List UInt32} {w : World} (hh : h.length = 8) : C Try.prog 51 [Ag (fun x => W32 x) h] w (Ret fun v w' => v = Ag (fun x => W32 x) (overL h) ∧ Ext w w') := by
  have e0 := Ext.refl w
  refine C.enter Try.func51 rfl Try.ntmps51 rfl ?_
  refine J.seq ?_
  refine J.region ?_
  refine J.eff (Ye.box rfl (Ag.all _ _ (n := 8) (by first | omega | (simp only [Int.toNat_natCast]; omega) | (simp only [List.length_map, List.length_drop, List.length_take, List.length_append, List.length_replicate]; omega) | (simp <;> omega)))) rfl ?_
  rintro _ w1 ⟨b1_0, rfl, hb_, c1_0, x1⟩
  have hz_b1_0 := Nat.le_trans e0.size hb_
  have e0 := e0.trans x1
  clear x1 hb_
  refine J.eff (Ye.alloc ti60 (S := [(0, 8, (List.replicate 8 0).map (fun x : UInt32 => W32 x))]) (by simp [SegAll, SegOK, Value.cells])) rfl ?_
  rintro _ w2 ⟨b2_1, rfl, hb_, c2_1, x1⟩
  have hz_b2_1 := Nat.le_trans e0.size hb_
  have lt_b1_0_b2_1 : b1_0 < b2_1 := Nat.lt_of_lt_of_le (Cel.lt c1_0) hb_
  have e0 := e0.trans x1
  have c1_0 := c1_0.ext x1
  clear x1 hb_
  refine J.nil ?_
  refine J.n_then ?_
  refine J.seq ?_
  refine J.seq ?_
  refine J.region ?_
  refine J.eff (Ye.call cl64 rfl (Start_ok)) rfl ?_
  rintro _ w3 ⟨rfl, x1⟩
  have e0 := e0.trans x1
  have c1_0 := c1_0.ext x1
  have c2_1 := c2_1.ext x1
  clear x1
  refine J.op (Yd.move rfl) rfl ?_
  refine J.nil ?_
  refine J.n_then ?_
  refine J.block ?_
  refine J.loop (ι := Nat) (fun i => [(5, Ag (fun x => W64 x) startL), (6, I i), (1, .pointer (some ⟨b1_0, 0, none⟩)), (2, .pointer (some ⟨b2_1, 0, none⟩))]) (fun i w' => i ≤ 8 ∧ Cel w' b1_0 60 [(0, 8, (fillU (overF h) h i).map fun x => W32 x)] ∧ Cel w' b2_1 60 [(0, 8, (List.replicate 8 0).map fun x => W32 x)] ∧ Ext w w') (fun i => 8 - i) (0) ⟨rfl, rfl, rfl, rfl, trivial⟩ (⟨by omega, by rw [fillU_zero]; exact c1_0, c2_1, e0⟩) ?_
  rintro k w4 ⟨hk, c1_0, c2_1, e0⟩
  have hfl := fillU_len (overF h) h k
  have hsl : startL.length = 8 := rfl
  refine J.seq ?_
  refine J.region ?_
  refine J.op (Yd.lss rfl rfl) rfl ?_
  refine J.nil ?_
  refine J.n_then ?_
  refine J.seq ?_
  refine J.cond_dec rfl (fun hc0 => ?_) (fun hc0 => ?_)
  · skip
    refine J.skip ?_
    refine J.n_then ?_
    refine J.seq ?_
    refine J.block ?_
    refine J.seq ?_
    refine J.region ?_
    refine J.op (Yd.move rfl) rfl ?_
    refine J.op (Yd.idxV Try.underlying74 pl42 ti42 rfl rfl (by first | omega | (simp only [Int.toNat_natCast]; omega) | (simp only [List.length_map, List.length_drop, List.length_take, List.length_append, List.length_replicate]; omega) | (simp <;> omega)) (Ag.get (fun x : UInt64 => W64 x) _ 0 (by first | omega | (simp only [Int.toNat_natCast]; omega) | (simp only [List.length_map, List.length_drop, List.length_take, List.length_append, List.length_replicate]; omega) | (simp <;> omega)))) rfl ?_
    refine J.op (Yd.assign rfl) rfl ?_
    refine J.op (Yd.assign rfl) rfl ?_
    refine J.nil ?_
    refine J.n_then ?_
    refine J.region ?_
    refine J.op (Yd.move rfl) rfl ?_
    refine J.op (Yd.idxA Try.underlying60 ti59 rfl rfl (by first | omega | (simp only [Int.toNat_natCast]; omega) | (simp only [List.length_map, List.length_drop, List.length_take, List.length_append, List.length_replicate]; omega) | (simp <;> omega))) rfl ?_
    refine J.op (Yd.load pl59 rfl (Cel.cellM c1_0 0 rfl 0 (by have hl_ := Cel.lenM c1_0 0 rfl; first | omega | (simp only [Int.toNat_natCast]; omega) | (simp at hl_ ⊢ <;> omega)))) rfl ?_
    refine J.op (Yd.move rfl) rfl ?_
    refine J.op (Yd.shr_u64 rfl rfl (by first | omega | (simp only [Int.toNat_natCast]; omega) | (simp only [List.length_map, List.length_drop, List.length_take, List.length_append, List.length_replicate]; omega) | (simp <;> omega))) rfl ?_
    refine J.op (Yd.cv_64_32 Try.underlying42 Try.underlying59 rfl) rfl ?_
    refine J.op (Yd.xor_u32 rfl rfl) rfl ?_
    refine J.op (Yd.idxA Try.underlying60 ti59 rfl rfl (by first | omega | (simp only [Int.toNat_natCast]; omega) | (simp only [List.length_map, List.length_drop, List.length_take, List.length_append, List.length_replicate]; omega) | (simp <;> omega))) rfl ?_
    refine J.eff0 (Ye.storeM ti59 c1_0 0 rfl rfl rfl rfl (by first | omega | (simp only [Int.toNat_natCast]; omega) | (simp only [List.length_map, List.length_drop, List.length_take, List.length_append, List.length_replicate]; omega) | (simp <;> omega)) (fun _ => rfl) (fun _ => rfl)) ?_
    rintro _ w5 ⟨cX, hu⟩
    simp only [List.set_cons_zero, List.set_cons_succ] at cX
    have e0 := e0.upd hz_b1_0 hu
    have c2_1 := Cel.upd c2_1 hu (by omega)
    replace c1_0 := cX
    clear cX hu
    refine J.nil ?_
    refine J.n_block ?_
    refine J.n_then ?_
    refine J.region ?_
    refine J.op (Yd.add rfl rfl (by first | omega | (simp only [Int.toNat_natCast]; omega) | (simp only [List.length_map, List.length_drop, List.length_take, List.length_append, List.length_replicate]; omega) | (simp <;> omega))) rfl ?_
    refine J.op (Yd.move rfl) rfl ?_
    refine J.nil ?_
    refine J.n_then ?_
    rw [fillU_get _ _ _ _ _ (by simp), Int.toNat_natCast] at c1_0; rw [show h.getD k 0 ^^^ (shr_u64 (startL.getD k 0) (Int.toNat 32)).toUInt32 = overF h k from rfl, fillU_set] at c1_0
    exact J.round (k + 1) ⟨rfl, rfl, rfl, rfl, trivial⟩ (⟨by omega, c1_0, c2_1, e0⟩) (by omega)
  · skip
    refine J.exit ?_
    refine J.x_then ?_
    refine J.x_then ?_
    refine J.x_block ?_
    refine J.n_then ?_
    refine J.seq ?_
    refine J.region ?_
    refine J.op (Yd.loadA ag60 ti60 rfl c1_0 0 rfl) rfl ?_
    refine J.eff0 (Ye.storeA (ys := List.map (fun x : UInt32 => W32 x) _) ti60 c2_1 0 rfl rfl rfl rfl (by first | (rw [List.length_map]; omega) | (simp; done) | rfl | (simp <;> omega)) (one_M _ (fun _ => rfl))) ?_
    rintro _ w6 ⟨cX, hu⟩
    simp only [List.set_cons_zero, List.set_cons_succ] at cX
    have e0 := e0.upd hz_b2_1 hu
    have c1_0 := Cel.upd c1_0 hu (by omega)
    replace c2_1 := cX
    clear cX hu
    refine J.nil ?_
    refine J.n_then ?_
    refine J.ret ?_
    exact J.ret1c rfl rfl ag60 ti60 c2_1 0 rfl (⟨_, rfl, by rw [show k = 8 by omega, fillU_all _ _ _ (by omega), hh]; rfl, e0⟩)
end Ytpkpicnldpbomaa
end Go.Proofs
