import Derived.Test.YtpkpicnldpbomaaT
import Derived.Test.YtpkpicnldpbomaaPC
import Derived.Test.YtpkpicnldpbomaaF5
set_option linter.unusedVariables false
set_option linter.unusedSimpArgs false
set_option maxRecDepth 100000
set_option maxHeartbeats 4000000
namespace Go.Proofs
open Go.X Go.RowKit
namespace Ytpkpicnldpbomaa
theorem Twice_ok {b : UInt8} {w : World} : C Try.prog 69 [B b] w (Ret fun v w' => v = B (tw b) ∧ Ext w w') := by
  have e0 := Ext.refl w
  refine C.enter Try.func69 rfl Try.ntmps69 rfl ?_
  refine J.seq ?_
  refine J.region ?_
  refine J.op (Yd.assign rfl) rfl ?_
  refine J.nil ?_
  refine J.n_then ?_
  refine J.seq ?_
  refine J.region ?_
  refine J.op (Yd.move rfl) rfl ?_
  refine J.op (Yd.shl_u8 rfl rfl (by first | omega | exact idx_u8' _ | (simp only [Int.toNat_natCast]; omega) | (simp only [List.length_map, List.length_drop, List.length_take, List.length_append, List.length_replicate]; omega) | (simp <;> omega))) rfl ?_
  refine J.op (Yd.move rfl) rfl ?_
  refine J.op (Yd.shr_u8 rfl rfl (by first | omega | exact idx_u8' _ | (simp only [Int.toNat_natCast]; omega) | (simp only [List.length_map, List.length_drop, List.length_take, List.length_append, List.length_replicate]; omega) | (simp <;> omega))) rfl ?_
  refine J.op (Yd.mul_u8 (n := 27) rfl rfl) rfl ?_
  refine J.op (Yd.xor_u8 rfl rfl) rfl ?_
  refine J.op (Yd.assign rfl) rfl ?_
  refine J.nil ?_
  refine J.n_then ?_
  refine J.ret ?_
  exact J.ret1 rfl rfl (⟨_, rfl, rfl, e0⟩)

theorem Times_ok {a b : UInt8} {w : World} : C Try.prog 72 [B a, B b] w (Ret fun v w' => v = B (gm a b 0) ∧ Ext w w') := by
  have e0 := Ext.refl w
  refine C.enter Try.func72 rfl Try.ntmps72 rfl ?_
  refine J.seq ?_
  refine J.region ?_
  refine J.op (Yd.assign rfl) rfl ?_
  refine J.nil ?_
  refine J.n_then ?_
  refine J.seq ?_
  refine J.block ?_
  refine J.loop (ι := UInt8 × UInt8 × UInt8) (fun i => [(0, B i.1), (1, B i.2.1), (4, B i.2.2)]) (fun i w' => gm i.1 i.2.1 i.2.2 = gm a b 0 ∧ Ext w w') (fun i => i.2.1.toNat) ((a, b, 0)) ⟨rfl, rfl, rfl, trivial⟩ (⟨rfl, e0⟩) ?_
  rintro ⟨x, y, z⟩ w1 ⟨hg, e0⟩
  dsimp only at hg ⊢
  refine J.seq ?_
  refine J.seq ?_
  refine J.region ?_
  refine J.op (Yd.move rfl) rfl ?_
  refine J.op (Yd.gtr rfl rfl) rfl ?_
  refine J.nil ?_
  refine J.n_then ?_
  refine J.cond_dec rfl (fun hc0 => ?_) (fun hc0 => ?_)
  · skip
    refine J.skip ?_
    refine J.n_then ?_
    refine J.seq ?_
    refine J.block ?_
    refine J.seq ?_
    refine J.region ?_
    refine J.op (Yd.move rfl) rfl ?_
    refine J.op (Yd.move rfl) rfl ?_
    refine J.op (Yd.move rfl) rfl ?_
    refine J.op (Yd.and_u8 (n := 1) rfl rfl) rfl ?_
    refine J.op (Yd.mul_u8 rfl rfl) rfl ?_
    refine J.op (Yd.xor_u8 rfl rfl) rfl ?_
    refine J.op (Yd.assign rfl) rfl ?_
    refine J.nil ?_
    refine J.n_then ?_
    refine J.region ?_
    refine J.op (Yd.move rfl) rfl ?_
    refine J.eff (Ye.call cl69 rfl (Twice_ok)) rfl ?_
    rintro _ w2 ⟨rfl, x1⟩
    have e0 := e0.trans x1
    clear x1
    refine J.op (Yd.assign rfl) rfl ?_
    refine J.nil ?_
    refine J.n_block ?_
    refine J.n_then ?_
    refine J.region ?_
    refine J.op (Yd.move rfl) rfl ?_
    refine J.op (Yd.shr_u8 rfl rfl (by first | omega | exact idx_u8' _ | (simp only [Int.toNat_natCast]; omega) | (simp only [List.length_map, List.length_drop, List.length_take, List.length_append, List.length_replicate]; omega) | (simp <;> omega))) rfl ?_
    refine J.op (Yd.assign rfl) rfl ?_
    refine J.nil ?_
    refine J.n_then ?_
    exact J.round ((tw x, shr_u8 y 1, z ^^^ x * (y &&& 1))) ⟨rfl, rfl, rfl, trivial⟩ (⟨gm_next hg, e0⟩) (shr1_lt hc0)
  · skip
    refine J.exit ?_
    refine J.x_then ?_
    refine J.x_then ?_
    refine J.x_block ?_
    refine J.n_then ?_
    refine J.seq ?_
    refine J.region ?_
    refine J.op (Yd.move rfl) rfl ?_
    refine J.op (Yd.assign rfl) rfl ?_
    refine J.nil ?_
    refine J.n_then ?_
    refine J.ret ?_
    exact J.ret1 rfl rfl (⟨_, rfl, congrArg (fun x => B x) (gm_end hg hc0), e0⟩)

theorem Gmul_ok {a b : UInt8} {w : World} : C Try.prog 43 [B a, B b] w (Ret fun v w' => v = B (gm a b 0) ∧ Ext w w') := by
  have e0 := Ext.refl w
  refine C.enter Try.func43 rfl Try.ntmps43 rfl ?_
  refine J.seq ?_
  refine J.region ?_
  refine J.op (Yd.assign rfl) rfl ?_
  refine J.nil ?_
  refine J.n_then ?_
  refine J.seq ?_
  refine J.region ?_
  refine J.op (Yd.assign rfl) rfl ?_
  refine J.nil ?_
  refine J.n_then ?_
  refine J.seq ?_
  refine J.block ?_
  refine J.loop (ι := UInt8 × UInt8 × UInt8) (fun i => [(0, B i.1), (1, B i.2.1), (5, B i.2.2)]) (fun i w' => gm i.1 i.2.1 i.2.2 = gm a b 0 ∧ Ext w w') (fun i => i.2.1.toNat) ((a, b, 0)) ⟨rfl, rfl, rfl, trivial⟩ (⟨rfl, e0⟩) ?_
  rintro ⟨x, y, z⟩ w1 ⟨hg, e0⟩
  dsimp only at hg ⊢
  refine J.seq ?_
  refine J.seq ?_
  refine J.region ?_
  refine J.op (Yd.move rfl) rfl ?_
  refine J.op (Yd.gtr rfl rfl) rfl ?_
  refine J.nil ?_
  refine J.n_then ?_
  refine J.cond_dec rfl (fun hc0 => ?_) (fun hc0 => ?_)
  · skip
    refine J.skip ?_
    refine J.n_then ?_
    refine J.block ?_
    refine J.seq ?_
    refine J.seq ?_
    refine J.region ?_
    refine J.op (Yd.move rfl) rfl ?_
    refine J.op (Yd.and_u8 (n := 1) rfl rfl) rfl ?_
    refine J.op (Yd.eql rfl rfl) rfl ?_
    refine J.nil ?_
    refine J.n_then ?_
    refine J.cond_dec rfl (fun hc1 => ?_) (fun hc1 => ?_)
    · skip
      refine J.region ?_
      refine J.op (Yd.move rfl) rfl ?_
      refine J.op (Yd.move rfl) rfl ?_
      refine J.op (Yd.xor_u8 rfl rfl) rfl ?_
      refine J.op (Yd.assign rfl) rfl ?_
      refine J.nil ?_
      refine J.n_then ?_
      refine J.seq ?_
      refine J.region ?_
      refine J.op (Yd.move rfl) rfl ?_
      refine J.op (Yd.shr_u8 rfl rfl (by first | omega | exact idx_u8' _ | (simp only [Int.toNat_natCast]; omega) | (simp only [List.length_map, List.length_drop, List.length_take, List.length_append, List.length_replicate]; omega) | (simp <;> omega))) rfl ?_
      refine J.op (Yd.assign rfl) rfl ?_
      refine J.nil ?_
      refine J.n_then ?_
      refine J.seq ?_
      refine J.region ?_
      refine J.op (Yd.move rfl) rfl ?_
      refine J.op (Yd.shl_u8 rfl rfl (by first | omega | exact idx_u8' _ | (simp only [Int.toNat_natCast]; omega) | (simp only [List.length_map, List.length_drop, List.length_take, List.length_append, List.length_replicate]; omega) | (simp <;> omega))) rfl ?_
      refine J.op (Yd.assign rfl) rfl ?_
      refine J.nil ?_
      refine J.n_then ?_
      refine J.seq ?_
      refine J.seq ?_
      refine J.region ?_
      refine J.op (Yd.move rfl) rfl ?_
      refine J.op (Yd.eql rfl rfl) rfl ?_
      refine J.nil ?_
      refine J.n_then ?_
      refine J.cond_dec rfl (fun hc2 => ?_) (fun hc2 => ?_)
      · skip
        refine J.region ?_
        refine J.op (Yd.move rfl) rfl ?_
        refine J.op (Yd.xor_u8 (n := 27) rfl rfl) rfl ?_
        refine J.op (Yd.assign rfl) rfl ?_
        refine J.nil ?_
        refine J.n_then ?_
        refine J.region ?_
        refine J.op (Yd.move rfl) rfl ?_
        refine J.op (Yd.shr_u8 rfl rfl (by first | omega | exact idx_u8' _ | (simp only [Int.toNat_natCast]; omega) | (simp only [List.length_map, List.length_drop, List.length_take, List.length_append, List.length_replicate]; omega) | (simp <;> omega))) rfl ?_
        refine J.op (Yd.assign rfl) rfl ?_
        refine J.nil ?_
        refine J.n_block ?_
        refine J.n_then ?_
        exact J.round ((tw x, shr_u8 y 1, z ^^^ x * (y &&& 1))) ⟨(by first | exact congrArg (fun u => some (B u)) (tw_pos (u8_one hc2)) | exact congrArg (fun u => some (B u)) (tw_neg (u8_one_ne hc2))), rfl, (by first | exact congrArg (fun u => some (B u)) (gm_bit1 (u8_one hc1)) | exact congrArg (fun u => some (B u)) (gm_bit0 (u8_one_ne hc1))), trivial⟩ (⟨gm_next hg, e0⟩) (shr1_lt hc0)
      · skip
        refine J.skip ?_
        refine J.n_then ?_
        refine J.region ?_
        refine J.op (Yd.move rfl) rfl ?_
        refine J.op (Yd.shr_u8 rfl rfl (by first | omega | exact idx_u8' _ | (simp only [Int.toNat_natCast]; omega) | (simp only [List.length_map, List.length_drop, List.length_take, List.length_append, List.length_replicate]; omega) | (simp <;> omega))) rfl ?_
        refine J.op (Yd.assign rfl) rfl ?_
        refine J.nil ?_
        refine J.n_block ?_
        refine J.n_then ?_
        exact J.round ((tw x, shr_u8 y 1, z ^^^ x * (y &&& 1))) ⟨(by first | exact congrArg (fun u => some (B u)) (tw_pos (u8_one hc2)) | exact congrArg (fun u => some (B u)) (tw_neg (u8_one_ne hc2))), rfl, (by first | exact congrArg (fun u => some (B u)) (gm_bit1 (u8_one hc1)) | exact congrArg (fun u => some (B u)) (gm_bit0 (u8_one_ne hc1))), trivial⟩ (⟨gm_next hg, e0⟩) (shr1_lt hc0)
    · skip
      refine J.skip ?_
      refine J.n_then ?_
      refine J.seq ?_
      refine J.region ?_
      refine J.op (Yd.move rfl) rfl ?_
      refine J.op (Yd.shr_u8 rfl rfl (by first | omega | exact idx_u8' _ | (simp only [Int.toNat_natCast]; omega) | (simp only [List.length_map, List.length_drop, List.length_take, List.length_append, List.length_replicate]; omega) | (simp <;> omega))) rfl ?_
      refine J.op (Yd.assign rfl) rfl ?_
      refine J.nil ?_
      refine J.n_then ?_
      refine J.seq ?_
      refine J.region ?_
      refine J.op (Yd.move rfl) rfl ?_
      refine J.op (Yd.shl_u8 rfl rfl (by first | omega | exact idx_u8' _ | (simp only [Int.toNat_natCast]; omega) | (simp only [List.length_map, List.length_drop, List.length_take, List.length_append, List.length_replicate]; omega) | (simp <;> omega))) rfl ?_
      refine J.op (Yd.assign rfl) rfl ?_
      refine J.nil ?_
      refine J.n_then ?_
      refine J.seq ?_
      refine J.seq ?_
      refine J.region ?_
      refine J.op (Yd.move rfl) rfl ?_
      refine J.op (Yd.eql rfl rfl) rfl ?_
      refine J.nil ?_
      refine J.n_then ?_
      refine J.cond_dec rfl (fun hc2 => ?_) (fun hc2 => ?_)
      · skip
        refine J.region ?_
        refine J.op (Yd.move rfl) rfl ?_
        refine J.op (Yd.xor_u8 (n := 27) rfl rfl) rfl ?_
        refine J.op (Yd.assign rfl) rfl ?_
        refine J.nil ?_
        refine J.n_then ?_
        refine J.region ?_
        refine J.op (Yd.move rfl) rfl ?_
        refine J.op (Yd.shr_u8 rfl rfl (by first | omega | exact idx_u8' _ | (simp only [Int.toNat_natCast]; omega) | (simp only [List.length_map, List.length_drop, List.length_take, List.length_append, List.length_replicate]; omega) | (simp <;> omega))) rfl ?_
        refine J.op (Yd.assign rfl) rfl ?_
        refine J.nil ?_
        refine J.n_block ?_
        refine J.n_then ?_
        exact J.round ((tw x, shr_u8 y 1, z ^^^ x * (y &&& 1))) ⟨(by first | exact congrArg (fun u => some (B u)) (tw_pos (u8_one hc2)) | exact congrArg (fun u => some (B u)) (tw_neg (u8_one_ne hc2))), rfl, (by first | exact congrArg (fun u => some (B u)) (gm_bit1 (u8_one hc1)) | exact congrArg (fun u => some (B u)) (gm_bit0 (u8_one_ne hc1))), trivial⟩ (⟨gm_next hg, e0⟩) (shr1_lt hc0)
      · skip
        refine J.skip ?_
        refine J.n_then ?_
        refine J.region ?_
        refine J.op (Yd.move rfl) rfl ?_
        refine J.op (Yd.shr_u8 rfl rfl (by first | omega | exact idx_u8' _ | (simp only [Int.toNat_natCast]; omega) | (simp only [List.length_map, List.length_drop, List.length_take, List.length_append, List.length_replicate]; omega) | (simp <;> omega))) rfl ?_
        refine J.op (Yd.assign rfl) rfl ?_
        refine J.nil ?_
        refine J.n_block ?_
        refine J.n_then ?_
        exact J.round ((tw x, shr_u8 y 1, z ^^^ x * (y &&& 1))) ⟨(by first | exact congrArg (fun u => some (B u)) (tw_pos (u8_one hc2)) | exact congrArg (fun u => some (B u)) (tw_neg (u8_one_ne hc2))), rfl, (by first | exact congrArg (fun u => some (B u)) (gm_bit1 (u8_one hc1)) | exact congrArg (fun u => some (B u)) (gm_bit0 (u8_one_ne hc1))), trivial⟩ (⟨gm_next hg, e0⟩) (shr1_lt hc0)
  · skip
    refine J.exit ?_
    refine J.x_then ?_
    refine J.x_then ?_
    refine J.x_block ?_
    refine J.n_then ?_
    refine J.seq ?_
    refine J.region ?_
    refine J.op (Yd.move rfl) rfl ?_
    refine J.op (Yd.assign rfl) rfl ?_
    refine J.nil ?_
    refine J.n_then ?_
    refine J.ret ?_
    exact J.ret1 rfl rfl (⟨_, rfl, congrArg (fun x => B x) (gm_end hg hc0), e0⟩)

theorem RotL8_ok {x : UInt8} {m : Nat} {w : World} (h : 1 ≤ m ∧ m ≤ 7) : C Try.prog 73 [B x, I (m : Int)] w (Ret fun v w' => v = B (rot8 x m) ∧ Ext w w') := by
  have e0 := Ext.refl w
  refine C.enter Try.func73 rfl Try.ntmps73 rfl ?_
  refine J.seq ?_
  refine J.region ?_
  refine J.op (Yd.assign rfl) rfl ?_
  refine J.nil ?_
  refine J.n_then ?_
  refine J.seq ?_
  refine J.region ?_
  refine J.op (Yd.move rfl) rfl ?_
  refine J.op (Yd.cv_i_64 Try.underlying3 Try.underlying76 rfl (by omega)) rfl ?_
  refine J.op (Yd.and_u64 (n := 7) rfl rfl) rfl ?_
  refine J.op (Yd.assign rfl) rfl ?_
  refine J.nil ?_
  refine J.n_then ?_
  refine J.seq ?_
  refine J.region ?_
  refine J.op (Yd.move rfl) rfl ?_
  refine J.op (Yd.move rfl) rfl ?_
  refine J.op (Yd.shl_u8 rfl rfl (by first | omega | exact idx_u8' _ | (simp only [Int.toNat_natCast]; omega) | (simp only [List.length_map, List.length_drop, List.length_take, List.length_append, List.length_replicate]; omega) | (simp <;> omega))) rfl ?_
  refine J.op (Yd.move rfl) rfl ?_
  refine J.op (Yd.move rfl) rfl ?_
  refine J.op (Yd.sub_u64 (m := 8) rfl rfl) rfl ?_
  refine J.op (Yd.shr_u8 rfl rfl (by first | omega | exact idx_u8' _ | (simp only [Int.toNat_natCast]; omega) | (simp only [List.length_map, List.length_drop, List.length_take, List.length_append, List.length_replicate]; omega) | (simp <;> omega))) rfl ?_
  refine J.op (Yd.or_u8 rfl rfl) rfl ?_
  refine J.op (Yd.assign rfl) rfl ?_
  refine J.nil ?_
  refine J.n_then ?_
  refine J.ret ?_
  exact J.ret1 rfl rfl (⟨_, rfl, congrArg (fun x => B x) (rot8_law x h), e0⟩)

theorem Box_ok {b : UInt8} {w : World} : C Try.prog 68 [B b] w (Ret fun v w' => v = B (S8 b) ∧ Ext w w') := by
  have e0 := Ext.refl w
  refine C.enter Try.func68 rfl Try.ntmps68 rfl ?_
  refine J.seq ?_
  refine J.region ?_
  refine J.op (Yd.assign rfl) rfl ?_
  refine J.nil ?_
  refine J.n_then ?_
  refine J.seq ?_
  refine J.region ?_
  refine J.op (Yd.assign rfl) rfl ?_
  refine J.nil ?_
  refine J.n_then ?_
  refine J.seq ?_
  refine J.seq ?_
  refine J.region ?_
  refine J.op (Yd.assign rfl) rfl ?_
  refine J.nil ?_
  refine J.n_then ?_
  refine J.block ?_
  refine J.loop (ι := Nat) (fun i => [(0, B b), (3, B (invP b i)), (4, I (7 - (i : Int)))]) (fun i w' => i ≤ 8 ∧ Ext w w') (fun i => 8 - i) (0) ⟨rfl, rfl, rfl, trivial⟩ (⟨by omega, e0⟩) ?_
  rintro k w1 ⟨hk, e0⟩
  refine J.seq ?_
  refine J.seq ?_
  refine J.region ?_
  refine J.op (Yd.move rfl) rfl ?_
  refine J.op (Yd.geq rfl rfl) rfl ?_
  refine J.nil ?_
  refine J.n_then ?_
  refine J.cond_dec rfl (fun hc0 => ?_) (fun hc0 => ?_)
  · skip
    refine J.skip ?_
    refine J.n_then ?_
    refine J.seq ?_
    refine J.block ?_
    refine J.seq ?_
    refine J.region ?_
    refine J.op (Yd.move rfl) rfl ?_
    refine J.op (Yd.move rfl) rfl ?_
    refine J.eff (Ye.call cl72 rfl (Times_ok)) rfl ?_
    rintro _ w2 ⟨rfl, x1⟩
    have e0 := e0.trans x1
    clear x1
    refine J.op (Yd.assign rfl) rfl ?_
    refine J.nil ?_
    refine J.n_then ?_
    refine J.seq ?_
    refine J.region ?_
    refine J.op (Yd.move rfl) rfl ?_
    refine J.op (Yd.gtr rfl rfl) rfl ?_
    refine J.nil ?_
    refine J.n_then ?_
    refine J.cond_dec rfl (fun hc1 => ?_) (fun hc1 => ?_)
    · skip
      refine J.region ?_
      refine J.op (Yd.move rfl) rfl ?_
      refine J.op (Yd.move rfl) rfl ?_
      refine J.eff (Ye.call cl72 rfl (Times_ok)) rfl ?_
      rintro _ w3 ⟨rfl, x1⟩
      have e0 := e0.trans x1
      clear x1
      refine J.op (Yd.assign rfl) rfl ?_
      refine J.nil ?_
      refine J.n_block ?_
      refine J.n_then ?_
      refine J.region ?_
      refine J.op (Yd.move rfl) rfl ?_
      refine J.op (Yd.sub rfl rfl (by first | omega | exact idx_u8' _ | (simp only [Int.toNat_natCast]; omega) | (simp only [List.length_map, List.length_drop, List.length_take, List.length_append, List.length_replicate]; omega) | (simp <;> omega))) rfl ?_
      refine J.op (Yd.assign rfl) rfl ?_
      refine J.nil ?_
      refine J.n_then ?_
      exact J.round (k + 1) ⟨rfl, (by show some (B _) = some (B (invP b (k + 1))); rw [invP]; first | rw [if_pos (by omega)] | rw [if_neg (by omega)]), (someI (by omega)), trivial⟩ (⟨by omega, e0⟩) (by omega)
    · skip
      refine J.skip ?_
      refine J.n_block ?_
      refine J.n_then ?_
      refine J.region ?_
      refine J.op (Yd.move rfl) rfl ?_
      refine J.op (Yd.sub rfl rfl (by first | omega | exact idx_u8' _ | (simp only [Int.toNat_natCast]; omega) | (simp only [List.length_map, List.length_drop, List.length_take, List.length_append, List.length_replicate]; omega) | (simp <;> omega))) rfl ?_
      refine J.op (Yd.assign rfl) rfl ?_
      refine J.nil ?_
      refine J.n_then ?_
      exact J.round (k + 1) ⟨rfl, (by show some (B _) = some (B (invP b (k + 1))); rw [invP]; first | rw [if_pos (by omega)] | rw [if_neg (by omega)]), (someI (by omega)), trivial⟩ (⟨by omega, e0⟩) (by omega)
  · skip
    refine J.exit ?_
    refine J.x_then ?_
    refine J.x_then ?_
    refine J.x_block ?_
    refine J.n_then ?_
    refine J.seq ?_
    refine J.region ?_
    refine J.op (Yd.move rfl) rfl ?_
    refine J.op (Yd.assign rfl) rfl ?_
    refine J.nil ?_
    refine J.n_then ?_
    refine J.seq ?_
    refine J.seq ?_
    refine J.region ?_
    refine J.op (Yd.assign rfl) rfl ?_
    refine J.nil ?_
    refine J.n_then ?_
    refine J.block ?_
    refine J.loop (ι := Nat) (fun i => [(3, B (invP b 8)), (5, B (rotX (invP b 8) i)), (6, I ((i + 1 : Nat) : Int))]) (fun i w' => i ≤ 4 ∧ Ext w w') (fun i => 4 - i) (0) ⟨(by rw [show k = 8 by omega]; rfl), (by rw [show k = 8 by omega]; rfl), rfl, trivial⟩ (⟨by omega, e0⟩) ?_
    rintro j w4 ⟨hj, e0⟩
    refine J.seq ?_
    refine J.seq ?_
    refine J.region ?_
    refine J.op (Yd.move rfl) rfl ?_
    refine J.op (Yd.lss rfl rfl) rfl ?_
    refine J.nil ?_
    refine J.n_then ?_
    refine J.cond_dec rfl (fun hc2 => ?_) (fun hc2 => ?_)
    · skip
      refine J.skip ?_
      refine J.n_then ?_
      refine J.seq ?_
      refine J.block ?_
      refine J.region ?_
      refine J.op (Yd.move rfl) rfl ?_
      refine J.op (Yd.move rfl) rfl ?_
      refine J.op (Yd.move rfl) rfl ?_
      refine J.eff (Ye.call cl73 rfl (RotL8_ok (m := j + 1) (by omega))) rfl ?_
      rintro _ w5 ⟨rfl, x1⟩
      have e0 := e0.trans x1
      clear x1
      refine J.op (Yd.xor_u8 rfl rfl) rfl ?_
      refine J.op (Yd.assign rfl) rfl ?_
      refine J.nil ?_
      refine J.n_block ?_
      refine J.n_then ?_
      refine J.region ?_
      refine J.op (Yd.move rfl) rfl ?_
      refine J.op (Yd.add rfl rfl (by first | omega | exact idx_u8' _ | (simp only [Int.toNat_natCast]; omega) | (simp only [List.length_map, List.length_drop, List.length_take, List.length_append, List.length_replicate]; omega) | (simp <;> omega))) rfl ?_
      refine J.op (Yd.assign rfl) rfl ?_
      refine J.nil ?_
      refine J.n_then ?_
      exact J.round (j + 1) ⟨rfl, rfl, (someI (by omega)), trivial⟩ (⟨by omega, e0⟩) (by omega)
    · skip
      refine J.exit ?_
      refine J.x_then ?_
      refine J.x_then ?_
      refine J.x_block ?_
      refine J.n_then ?_
      refine J.seq ?_
      refine J.region ?_
      refine J.op (Yd.move rfl) rfl ?_
      refine J.op (Yd.xor_u8 (n := 99) rfl rfl) rfl ?_
      refine J.op (Yd.assign rfl) rfl ?_
      refine J.nil ?_
      refine J.n_then ?_
      refine J.ret ?_
      exact J.ret1 rfl rfl (⟨_, rfl, congrArg (fun x => B x) (by rw [show j = 4 by omega]; exact boxP_tab b), e0⟩)

theorem Mixed_ok {a b c d : UInt8} {w : World} : C Try.prog 70 [B a, B b, B c, B d] w (Ret fun v w' => v = Ag (fun x => B x) [mixB a b c d, mixB b c d a, mixB c d a b, mixB d a b c] ∧ Ext w w') := by
  have e0 := Ext.refl w
  refine C.enter Try.func70 rfl Try.ntmps70 rfl ?_
  refine J.seq ?_
  refine J.region ?_
  refine J.eff (Ye.alloc ti97 (S := [(0, 4, (List.replicate 4 0).map (fun x : UInt8 => B x))]) (by simp [SegAll, SegOK, Value.cells])) rfl ?_
  rintro _ w1 ⟨b8_0, rfl, hb_, c8_0, x1⟩
  have fr_b8_0 : Fr w.heap.size (some b8_0) := Fr.le (Fr.blk hb_) e0.size
  have e0 := e0.trans x1
  clear x1 hb_
  refine J.nil ?_
  refine J.n_then ?_
  refine J.seq ?_
  refine J.region ?_
  refine J.op (Yd.move rfl) rfl ?_
  refine J.op (Yd.move rfl) rfl ?_
  refine J.op (Yd.xor_u8 rfl rfl) rfl ?_
  refine J.op (Yd.move rfl) rfl ?_
  refine J.op (Yd.xor_u8 rfl rfl) rfl ?_
  refine J.op (Yd.move rfl) rfl ?_
  refine J.op (Yd.xor_u8 rfl rfl) rfl ?_
  refine J.op (Yd.assign rfl) rfl ?_
  refine J.nil ?_
  refine J.n_then ?_
  refine J.seq ?_
  refine J.region ?_
  refine J.op (Yd.move rfl) rfl ?_
  refine J.op (Yd.move rfl) rfl ?_
  refine J.op (Yd.xor_u8 rfl rfl) rfl ?_
  refine J.op (Yd.move rfl) rfl ?_
  refine J.op (Yd.move rfl) rfl ?_
  refine J.op (Yd.xor_u8 rfl rfl) rfl ?_
  refine J.eff (Ye.call cl69 rfl (Twice_ok)) rfl ?_
  rintro _ w2 ⟨rfl, x1⟩
  have e0 := e0.trans x1
  have c8_0 := c8_0.ext x1
  clear x1
  refine J.op (Yd.xor_u8 rfl rfl) rfl ?_
  refine J.op (Yd.move rfl) rfl ?_
  refine J.op (Yd.move rfl) rfl ?_
  refine J.op (Yd.xor_u8 rfl rfl) rfl ?_
  refine J.op (Yd.move rfl) rfl ?_
  refine J.op (Yd.move rfl) rfl ?_
  refine J.op (Yd.xor_u8 rfl rfl) rfl ?_
  refine J.eff (Ye.call cl69 rfl (Twice_ok)) rfl ?_
  rintro _ w3 ⟨rfl, x1⟩
  have e0 := e0.trans x1
  have c8_0 := c8_0.ext x1
  clear x1
  refine J.op (Yd.xor_u8 rfl rfl) rfl ?_
  refine J.op (Yd.move rfl) rfl ?_
  refine J.op (Yd.move rfl) rfl ?_
  refine J.op (Yd.xor_u8 rfl rfl) rfl ?_
  refine J.op (Yd.move rfl) rfl ?_
  refine J.op (Yd.move rfl) rfl ?_
  refine J.op (Yd.xor_u8 rfl rfl) rfl ?_
  refine J.eff (Ye.call cl69 rfl (Twice_ok)) rfl ?_
  rintro _ w4 ⟨rfl, x1⟩
  have e0 := e0.trans x1
  have c8_0 := c8_0.ext x1
  clear x1
  refine J.op (Yd.xor_u8 rfl rfl) rfl ?_
  refine J.op (Yd.move rfl) rfl ?_
  refine J.op (Yd.move rfl) rfl ?_
  refine J.op (Yd.xor_u8 rfl rfl) rfl ?_
  refine J.op (Yd.move rfl) rfl ?_
  refine J.op (Yd.move rfl) rfl ?_
  refine J.op (Yd.xor_u8 rfl rfl) rfl ?_
  refine J.eff (Ye.call cl69 rfl (Twice_ok)) rfl ?_
  rintro _ w5 ⟨rfl, x1⟩
  have e0 := e0.trans x1
  have c8_0 := c8_0.ext x1
  clear x1
  refine J.op (Yd.xor_u8 rfl rfl) rfl ?_
  refine J.op (Yd.cast (Yd.buildA Try.underlying97 ti5 ti97 rfl rfl) (show _ = Ag (fun x : UInt8 => B x) ([a ^^^ (a ^^^ b ^^^ c ^^^ d) ^^^ tw (a ^^^ b), b ^^^ (a ^^^ b ^^^ c ^^^ d) ^^^ tw (b ^^^ c), c ^^^ (a ^^^ b ^^^ c ^^^ d) ^^^ tw (c ^^^ d), d ^^^ (a ^^^ b ^^^ c ^^^ d) ^^^ tw (d ^^^ a)]) from rfl)) rfl ?_
  refine J.eff0 (Ye.storeA (ys := List.map (fun x : UInt8 => B x) _) ti97 c8_0 0 rfl rfl rfl rfl (by first | (rw [List.length_map]; omega) | (simp; done) | rfl | (simp <;> omega)) (one_M _ (fun _ => rfl))) ?_
  rintro _ w6 ⟨cX, hu⟩
  simp only [List.set_cons_zero, List.set_cons_succ] at cX
  have hg := hu.gb
  have e0 := Ext.gbk e0 fr_b8_0 hg
  clear hg
  replace c8_0 := cX
  clear cX hu
  refine J.nil ?_
  refine J.n_then ?_
  refine J.ret ?_
  exact J.ret1c rfl rfl ag97 ti97 c8_0 0 rfl (⟨_, rfl, congrArg (fun l => Ag (fun x => B x) l) (show [a ^^^ (a ^^^ b ^^^ c ^^^ d) ^^^ tw (a ^^^ b), b ^^^ (a ^^^ b ^^^ c ^^^ d) ^^^ tw (b ^^^ c), c ^^^ (a ^^^ b ^^^ c ^^^ d) ^^^ tw (c ^^^ d), d ^^^ (a ^^^ b ^^^ c ^^^ d) ^^^ tw (d ^^^ a)] = [mixB a b c d, mixB b c d a, mixB c d a b, mixB d a b c] by rw [mix_law, mix_law2, mix_law3, mix_law4]), e0⟩)
end Ytpkpicnldpbomaa
end Go.Proofs
