import Derived.Test.YtpkpicnldpbomaaT
import Derived.Test.YtpkpicnldpbomaaPB
import Derived.Test.YtpkpicnldpbomaaXB
import Derived.Test.YtpkpicnldpbomaaS6
set_option linter.unusedVariables false
set_option linter.unusedSimpArgs false
set_option maxRecDepth 100000
set_option maxHeartbeats 4000000
namespace Go.Proofs
open Go.X Go.RowKit
namespace Ytpkpicnldpbomaa
theorem RSum256_ok {a : Value} {l : List UInt8} {w : World} (ha : Bs w a l) (hl : l.length ≤ 1000000000) : C Try.prog 32 [a] w (Ret fun v w' => Ob w.heap.size 5 w' v (sha256L l) ∧ Ext w w') := by
  have hpm := pad64_mod l (UInt64.ofNat l.length)
  have hpl := pad64L_len l (UInt64.ofNat l.length)
  have e0 := Ext.refl w
  refine C.enter Try.func32 rfl Try.ntmps32 rfl ?_
  refine J.seq ?_
  refine J.region ?_
  refine J.op (Yd.assign rfl) rfl ?_
  refine J.nil ?_
  refine J.n_then ?_
  refine J.seq ?_
  refine J.region ?_
  refine J.eff (Ye.call cl44 rfl (Rrounds_ok)) rfl ?_
  rintro _ w1 ⟨rfl, x1⟩
  have e0 := e0.trans x1
  clear x1
  refine J.eff (Ye.alloc ti72 (S := [(0, 80, (List.replicate 80 0).map (fun x : UInt64 => W64 x))]) (by simp [SegAll, SegOK, Value.cells])) rfl ?_
  rintro _ w2 ⟨b3_1, rfl, hb_, c3_1, x1⟩
  have hz_b3_1 := Nat.le_trans e0.size hb_
  have e0 := e0.trans x1
  clear x1 hb_
  refine J.eff0 (Ye.storeA (ys := List.map (fun x : UInt64 => W64 x) _) ti72 c3_1 0 rfl rfl rfl rfl (by first | (rw [List.length_map]; omega) | (simp; done) | rfl | (simp <;> omega)) (one_M _ (fun _ => rfl))) ?_
  rintro _ w3 ⟨cX, hu⟩
  simp only [List.set_cons_zero, List.set_cons_succ] at cX
  have e0 := e0.upd hz_b3_1 hu
  replace c3_1 := cX
  clear cX hu
  refine J.nil ?_
  refine J.n_then ?_
  refine J.seq ?_
  refine J.region ?_
  refine J.eff (Ye.call cl45 rfl (Rstart_ok)) rfl ?_
  rintro _ w4 ⟨rfl, x1⟩
  have e0 := e0.trans x1
  have c3_1 := c3_1.ext x1
  clear x1
  refine J.eff (Ye.alloc ti74 (S := [(0, 8, (List.replicate 8 0).map (fun x : UInt64 => W64 x))]) (by simp [SegAll, SegOK, Value.cells])) rfl ?_
  rintro _ w5 ⟨b4_4, rfl, hb_, c4_4, x1⟩
  have hz_b4_4 := Nat.le_trans e0.size hb_
  have lt_b3_1_b4_4 : b3_1 < b4_4 := Nat.lt_of_lt_of_le (Cel.lt c3_1) hb_
  have e0 := e0.trans x1
  have c3_1 := c3_1.ext x1
  clear x1 hb_
  refine J.eff0 (Ye.storeA (ys := List.map (fun x : UInt64 => W64 x) _) ti74 c4_4 0 rfl rfl rfl rfl (by first | (rw [List.length_map]; omega) | (simp; done) | rfl | (simp <;> omega)) (one_M _ (fun _ => rfl))) ?_
  rintro _ w6 ⟨cX, hu⟩
  simp only [List.set_cons_zero, List.set_cons_succ] at cX
  have e0 := e0.upd hz_b4_4 hu
  have c3_1 := Cel.upd c3_1 hu (by omega)
  replace c4_4 := cX
  clear cX hu
  refine J.nil ?_
  refine J.n_then ?_
  refine J.seq ?_
  refine J.region ?_
  refine J.eff (Ye.alloc ti60 (S := [(0, 8, (List.replicate 8 0).map (fun x : UInt32 => W32 x))]) (by simp [SegAll, SegOK, Value.cells])) rfl ?_
  rintro _ w7 ⟨b5_6, rfl, hb_, c5_6, x1⟩
  have hz_b5_6 := Nat.le_trans e0.size hb_
  have lt_b3_1_b5_6 : b3_1 < b5_6 := Nat.lt_of_lt_of_le (Cel.lt c3_1) hb_
  have lt_b4_4_b5_6 : b4_4 < b5_6 := Nat.lt_of_lt_of_le (Cel.lt c4_4) hb_
  have e0 := e0.trans x1
  have c3_1 := c3_1.ext x1
  have c4_4 := c4_4.ext x1
  clear x1 hb_
  refine J.nil ?_
  refine J.n_then ?_
  refine J.seq ?_
  refine J.seq ?_
  refine J.region ?_
  refine J.op (Yd.assign rfl) rfl ?_
  refine J.nil ?_
  refine J.n_then ?_
  refine J.block ?_
  refine J.loop (ι := Nat) (fun i => [(6, I i), (0, a), (3, .pointer (some ⟨b3_1, 0, none⟩)), (4, .pointer (some ⟨b4_4, 0, none⟩)), (5, .pointer (some ⟨b5_6, 0, none⟩))]) (fun i w' => i ≤ 8 ∧ Cel w' b3_1 72 [(0, 80, (roundsL).map fun x => W64 x)] ∧ Cel w' b4_4 74 [(0, 8, (startL).map fun x => W64 x)] ∧ Cel w' b5_6 60 [(0, 8, (fillU (fun j => (shr_u64 (startL.getD j 0) 32).toUInt32) (List.replicate 8 0) i).map fun x => W32 x)] ∧ Ext w w') (fun i => 8 - i) (0) ⟨rfl, rfl, rfl, rfl, rfl, trivial⟩ (⟨by omega, c3_1, c4_4, Cel.cong c5_6 (by rw [fillU_zero]), e0⟩) ?_
  rintro k w8 ⟨hk, c3_1, c4_4, c5_6, e0⟩
  have hsl : startL.length = 8 := rfl
  have hfl := fillU_len (fun j => (shr_u64 (startL.getD j 0) 32).toUInt32) (List.replicate 8 0) k
  rw [List.length_replicate] at hfl
  refine J.seq ?_
  refine J.seq ?_
  refine J.region ?_
  refine J.op (Yd.move rfl) rfl ?_
  refine J.op (Yd.lss rfl rfl) rfl ?_
  refine J.nil ?_
  refine J.n_then ?_
  refine J.cond_dec rfl (fun hc0 => ?_) (fun hc0 => ?_)
  · skip
    refine J.skip ?_
    refine J.n_then ?_
    refine J.seq ?_
    refine J.block ?_
    refine J.region ?_
    refine J.op (Yd.move rfl) rfl ?_
    refine J.op (Yd.move rfl) rfl ?_
    refine J.op (Yd.idxA Try.underlying74 ti42 rfl rfl (by first | omega | (simp only [Int.toNat_natCast]; omega) | (simp only [List.length_map, List.length_drop, List.length_take, List.length_append, List.length_replicate]; omega) | (simp <;> omega))) rfl ?_
    refine J.op (Yd.load pl42 rfl (Cel.cellM c4_4 0 rfl 0 (by have hl_ := Cel.lenM c4_4 0 rfl; first | omega | (simp only [Int.toNat_natCast]; omega) | (simp at hl_ ⊢ <;> omega)))) rfl ?_
    refine J.op (Yd.shr_u64 rfl rfl (by first | omega | (simp only [Int.toNat_natCast]; omega) | (simp only [List.length_map, List.length_drop, List.length_take, List.length_append, List.length_replicate]; omega) | (simp <;> omega))) rfl ?_
    refine J.op (Yd.cv_64_32 Try.underlying42 Try.underlying59 rfl) rfl ?_
    refine J.op (Yd.idxA Try.underlying60 ti59 rfl rfl (by first | omega | (simp only [Int.toNat_natCast]; omega) | (simp only [List.length_map, List.length_drop, List.length_take, List.length_append, List.length_replicate]; omega) | (simp <;> omega))) rfl ?_
    refine J.eff0 (Ye.storeM ti59 c5_6 0 rfl rfl rfl rfl (by first | omega | (simp only [Int.toNat_natCast]; omega) | (simp only [List.length_map, List.length_drop, List.length_take, List.length_append, List.length_replicate]; omega) | (simp <;> omega)) (fun _ => rfl) (fun _ => rfl)) ?_
    rintro _ w9 ⟨cX, hu⟩
    simp only [List.set_cons_zero, List.set_cons_succ] at cX
    have e0 := e0.upd hz_b5_6 hu
    have c3_1 := Cel.upd c3_1 hu (by omega)
    have c4_4 := Cel.upd c4_4 hu (by omega)
    replace c5_6 := cX
    clear cX hu
    refine J.nil ?_
    refine J.n_block ?_
    refine J.n_then ?_
    refine J.region ?_
    refine J.op (Yd.move rfl) rfl ?_
    refine J.op (Yd.add rfl rfl (by first | omega | (simp only [Int.toNat_natCast]; omega) | (simp only [List.length_map, List.length_drop, List.length_take, List.length_append, List.length_replicate]; omega) | (simp <;> omega))) rfl ?_
    refine J.op (Yd.assign rfl) rfl ?_
    refine J.nil ?_
    refine J.n_then ?_
    exact J.round (k + 1) ⟨rfl, rfl, rfl, rfl, rfl, trivial⟩ (⟨by omega, c3_1, c4_4, Cel.cong c5_6 (by rw [Int.toNat_natCast]; exact fillU_set _ _ _), e0⟩) (by omega)
  · skip
    refine J.exit ?_
    refine J.x_then ?_
    refine J.x_then ?_
    refine J.x_block ?_
    refine J.n_then ?_
    refine J.seq ?_
    refine J.region ?_
    have hz_w8 : w.heap.size ≤ w8.heap.size := e0.size
    have le_w8 : w8.heap.size ≤ w8.heap.size := Nat.le_refl _
    have lt_b3_1_w8 : b3_1 < w8.heap.size := Cel.lt c3_1
    have lt_b4_4_w8 : b4_4 < w8.heap.size := Cel.lt c4_4
    have lt_b5_6_w8 : b5_6 < w8.heap.size := Cel.lt c5_6
    refine J.eff (Ye.lit0 (base := w8.heap.size) (f := (fun x : UInt8 => B x)) Try.underlying22 ti5 rfl (Nat.le_refl _)) rfl ?_
    rintro s36_10 w10 ⟨o36_10, x1⟩
    have e0 := e0.trans x1
    have c3_1 := c3_1.ext x1
    have c4_4 := c4_4.ext x1
    have c5_6 := c5_6.ext x1
    have le_w8 := Nat.le_trans le_w8 x1.size
    clear x1
    have ne_s36_10_b3_1 := Ow.neBase o36_10 lt_b3_1_w8
    have ne_s36_10_b4_4 := Ow.neBase o36_10 lt_b4_4_w8
    have ne_s36_10_b5_6 := Ow.neBase o36_10 lt_b5_6_w8
    refine J.op (Yd.move rfl) rfl ?_
    have hs_w10 : w8.heap.size ≤ w10.heap.size := le_w8
    refine J.eff (Ye.appendM Try.underlying22 ti5 rfl rfl rfl rfl o36_10 (Rd.ext ha e0) (fun _ => rfl) (by first | omega | (simp only [Int.toNat_natCast]; omega) | (simp only [List.length_map, List.length_drop, List.length_take, List.length_append, List.length_replicate]; omega) | (simp <;> omega)) hs_w10) rfl ?_
    rintro s38_11 w11 ⟨o38_11, hg⟩
    have e0 := e0.grown o36_10 hz_w8 hg
    have le_w8 := Nat.le_trans le_w8 hg.size
    have c3_1 := Cel.grown c3_1 hg ne_s36_10_b3_1
    have c4_4 := Cel.grown c4_4 hg ne_s36_10_b4_4
    have c5_6 := Cel.grown c5_6 hg ne_s36_10_b5_6
    clear hg
    rw [List.nil_append] at o38_11
    have ne_s38_11_b3_1 := Ow.neBase o38_11 lt_b3_1_w8
    have ne_s38_11_b4_4 := Ow.neBase o38_11 lt_b4_4_w8
    have ne_s38_11_b5_6 := Ow.neBase o38_11 lt_b5_6_w8
    have hz_w11 : w.heap.size ≤ w11.heap.size := e0.size
    have le_w11 : w11.heap.size ≤ w11.heap.size := Nat.le_refl _
    have lt_b3_1_w11 : b3_1 < w11.heap.size := Cel.lt c3_1
    have lt_b4_4_w11 : b4_4 < w11.heap.size := Cel.lt c4_4
    have lt_b5_6_w11 : b5_6 < w11.heap.size := Cel.lt c5_6
    refine J.eff (Ye.lit1 (base := w11.heap.size) (f := (fun x : UInt8 => B x)) (u := 128) Try.underlying22 ti5 rfl rfl (fun _ => rfl) (Nat.le_refl _)) rfl ?_
    rintro s39_12 w12 ⟨o39_12, x1⟩
    have e0 := e0.trans x1
    have c3_1 := c3_1.ext x1
    have c4_4 := c4_4.ext x1
    have c5_6 := c5_6.ext x1
    have o38_11 := o38_11.ext x1
    have le_w8 := Nat.le_trans le_w8 x1.size
    have le_w11 := Nat.le_trans le_w11 x1.size
    clear x1
    have ne_s39_12_b3_1 := Ow.neBase o39_12 lt_b3_1_w11
    have ne_s39_12_b4_4 := Ow.neBase o39_12 lt_b4_4_w11
    have ne_s39_12_b5_6 := Ow.neBase o39_12 lt_b5_6_w11
    have hs_w12 : w8.heap.size ≤ w12.heap.size := le_w8
    refine J.eff (Ye.appendM Try.underlying22 ti5 rfl rfl rfl rfl o38_11 (Ow.rd o39_12) (fun _ => rfl) (by first | omega | (simp only [Int.toNat_natCast]; omega) | (simp only [List.length_map, List.length_drop, List.length_take, List.length_append, List.length_replicate]; omega) | (simp <;> omega)) hs_w12) rfl ?_
    rintro s40_13 w13 ⟨o40_13, hg⟩
    have e0 := e0.grown o38_11 hz_w8 hg
    have le_w8 := Nat.le_trans le_w8 hg.size
    have le_w11 := Nat.le_trans le_w11 hg.size
    have c3_1 := Cel.grown c3_1 hg ne_s38_11_b3_1
    have c4_4 := Cel.grown c4_4 hg ne_s38_11_b4_4
    have c5_6 := Cel.grown c5_6 hg ne_s38_11_b5_6
    clear hg
    have ne_s40_13_b3_1 := Ow.neBase o40_13 lt_b3_1_w8
    have ne_s40_13_b4_4 := Ow.neBase o40_13 lt_b4_4_w8
    have ne_s40_13_b5_6 := Ow.neBase o40_13 lt_b5_6_w8
    refine J.op (Yd.assign rfl) rfl ?_
    refine J.nil ?_
    refine J.n_then ?_
    refine J.seq ?_
    refine J.block ?_
    refine J.loop (ι := Nat × Value) (fun i => [(0, a), (3, .pointer (some ⟨b3_1, 0, none⟩)), (5, .pointer (some ⟨b5_6, 0, none⟩)), (7, i.2)]) (fun i w' => i.1 ≤ (120 - (l.length + 1) % 64) % 64 ∧ Cel w' b3_1 72 [(0, 80, (roundsL).map fun x => W64 x)] ∧ Cel w' b5_6 60 [(0, 8, (start256L).map fun x => W32 x)] ∧ Ob w8.heap.size 5 w' i.2 (l ++ [128] ++ List.replicate i.1 0) ∧ w8.heap.size ≤ w'.heap.size ∧ Ext w w') (fun i => (120 - (l.length + 1) % 64) % 64 - i.1) ((0, s40_13)) ⟨rfl, rfl, rfl, rfl, trivial⟩ (⟨Nat.zero_le _, c3_1, Cel.cong c5_6 (by rw [show k = 8 by omega, fillU_all _ _ _ (by simp)]; rfl), by rw [List.replicate_zero, List.append_nil]; exact o40_13, le_w8, e0⟩) ?_
    rintro ⟨k, v⟩ w14 ⟨hk, c3_1, c5_6, ho, le_w8, e0⟩
    dsimp only at hk ho ⊢
    have ne_v_b3_1 := Ow.neBase ho lt_b3_1_w8
    have ne_v_b5_6 := Ow.neBase ho lt_b5_6_w8
    refine J.seq ?_
    refine J.seq ?_
    refine J.region ?_
    refine J.op (Yd.move rfl) rfl ?_
    refine J.op (Yd.len_b Try.underlying22 rfl (Ow.rd ho)) rfl ?_
    refine J.op (Yd.rem rfl rfl (by first | omega | (simp only [Int.toNat_natCast]; omega) | (simp only [List.length_map, List.length_drop, List.length_take, List.length_append, List.length_replicate]; omega) | (simp <;> omega)) (by first | omega | (simp only [Int.toNat_natCast]; omega) | (simp only [List.length_map, List.length_drop, List.length_take, List.length_append, List.length_replicate]; omega) | (simp <;> omega))) rfl ?_
    refine J.op (Yd.neq rfl rfl) rfl ?_
    refine J.nil ?_
    refine J.n_then ?_
    refine J.cond_dec rfl (fun hc1 => ?_) (fun hc1 => ?_)
    · skip
      rw [show ((l ++ [128] ++ List.replicate k 0 : List UInt8).length) = l.length + 1 + k by simp; omega] at hc1
      refine J.skip ?_
      refine J.n_then ?_
      refine J.block ?_
      refine J.region ?_
      refine J.op (Yd.move rfl) rfl ?_
      have hz_w14 : w.heap.size ≤ w14.heap.size := e0.size
      have le_w14 : w14.heap.size ≤ w14.heap.size := Nat.le_refl _
      have lt_b3_1_w14 : b3_1 < w14.heap.size := Cel.lt c3_1
      have lt_b5_6_w14 : b5_6 < w14.heap.size := Cel.lt c5_6
      refine J.eff (Ye.lit1 (base := w14.heap.size) (f := (fun x : UInt8 => B x)) (u := 0) Try.underlying22 ti5 rfl rfl (fun _ => rfl) (Nat.le_refl _)) rfl ?_
      rintro s46_15 w15 ⟨o46_15, x1⟩
      have e0 := e0.trans x1
      have c3_1 := c3_1.ext x1
      have c5_6 := c5_6.ext x1
      have ho := ho.ext x1
      have le_w8 := Nat.le_trans le_w8 x1.size
      have le_w14 := Nat.le_trans le_w14 x1.size
      clear x1
      have ne_s46_15_b3_1 := Ow.neBase o46_15 lt_b3_1_w14
      have ne_s46_15_b5_6 := Ow.neBase o46_15 lt_b5_6_w14
      have hs_w15 : w8.heap.size ≤ w15.heap.size := le_w8
      refine J.eff (Ye.appendM Try.underlying22 ti5 rfl rfl rfl rfl ho (Ow.rd o46_15) (fun _ => rfl) (by first | omega | (simp only [Int.toNat_natCast]; omega) | (simp only [List.length_map, List.length_drop, List.length_take, List.length_append, List.length_replicate]; omega) | (simp <;> omega)) hs_w15) rfl ?_
      rintro s47_16 w16 ⟨o47_16, hg⟩
      have e0 := e0.grown ho hz_w8 hg
      have le_w8 := Nat.le_trans le_w8 hg.size
      have le_w14 := Nat.le_trans le_w14 hg.size
      have c3_1 := Cel.grown c3_1 hg ne_v_b3_1
      have c5_6 := Cel.grown c5_6 hg ne_v_b5_6
      clear hg
      have ne_s47_16_b3_1 := Ow.neBase o47_16 lt_b3_1_w8
      have ne_s47_16_b5_6 := Ow.neBase o47_16 lt_b5_6_w8
      refine J.op (Yd.assign rfl) rfl ?_
      refine J.nil ?_
      refine J.n_block ?_
      refine J.n_then ?_
      exact J.round ((k + 1, s47_16)) ⟨rfl, rfl, rfl, rfl, trivial⟩ (⟨by show k + 1 ≤ _; omega, c3_1, c5_6, by show Ob _ _ _ _ (l ++ [128] ++ List.replicate (k + 1) 0); rw [List.replicate_succ', ← List.append_assoc]; exact o47_16, le_w8, e0⟩) (by show (120 - (l.length + 1) % 64) % 64 - (k + 1) < (120 - (l.length + 1) % 64) % 64 - k; omega)
    · skip
      rw [show ((l ++ [128] ++ List.replicate k 0 : List UInt8).length) = l.length + 1 + k by simp; omega] at hc1
      refine J.exit ?_
      refine J.x_then ?_
      refine J.x_then ?_
      refine J.x_block ?_
      refine J.n_then ?_
      refine J.seq ?_
      refine J.region ?_
      refine J.op (Yd.move rfl) rfl ?_
      refine J.op (Yd.move rfl) rfl ?_
      refine J.op (Yd.len_b Try.underlying22 rfl (Rd.ext ha e0)) rfl ?_
      refine J.op (Yd.cv_i_64 Try.underlying3 Try.underlying42 rfl (by first | omega | (simp only [Int.toNat_natCast]; omega) | (simp only [List.length_map, List.length_drop, List.length_take, List.length_append, List.length_replicate]; omega) | (simp <;> omega))) rfl ?_
      refine J.op (Yd.mul_u64 (n := 8) rfl rfl) rfl ?_
      have hz_w14 : w.heap.size ≤ w14.heap.size := e0.size
      have le_w14 : w14.heap.size ≤ w14.heap.size := Nat.le_refl _
      have lt_b3_1_w14 : b3_1 < w14.heap.size := Cel.lt c3_1
      have lt_b5_6_w14 : b5_6 < w14.heap.size := Cel.lt c5_6
      refine J.eff (Ye.call cl21 rfl (RBig_ok (n := 8) (by omega))) rfl ?_
      rintro s53_17 w17 ⟨o53_17, x1⟩
      have e0 := e0.trans x1
      have c3_1 := c3_1.ext x1
      have c5_6 := c5_6.ext x1
      have ho := ho.ext x1
      have le_w8 := Nat.le_trans le_w8 x1.size
      have le_w14 := Nat.le_trans le_w14 x1.size
      clear x1
      have ne_s53_17_b3_1 := Ow.neBase o53_17 lt_b3_1_w14
      have ne_s53_17_b5_6 := Ow.neBase o53_17 lt_b5_6_w14
      have hs_w17 : w8.heap.size ≤ w17.heap.size := le_w8
      refine J.eff (Ye.appendM Try.underlying22 ti5 rfl rfl rfl rfl ho (Ow.rd o53_17) (fun _ => rfl) (by simp [beN_len]; omega) hs_w17) rfl ?_
      rintro s54_18 w18 ⟨o54_18, hg⟩
      have e0 := e0.grown ho hz_w8 hg
      have le_w8 := Nat.le_trans le_w8 hg.size
      have le_w14 := Nat.le_trans le_w14 hg.size
      have c3_1 := Cel.grown c3_1 hg ne_v_b3_1
      have c5_6 := Cel.grown c5_6 hg ne_v_b5_6
      clear hg
      have ne_s54_18_b3_1 := Ow.neBase o54_18 lt_b3_1_w8
      have ne_s54_18_b5_6 := Ow.neBase o54_18 lt_b5_6_w8
      refine J.op (Yd.assign rfl) rfl ?_
      refine J.nil ?_
      refine J.n_then ?_
      refine J.seq ?_
      refine J.seq ?_
      refine J.region ?_
      refine J.op (Yd.assign rfl) rfl ?_
      refine J.nil ?_
      refine J.n_then ?_
      refine J.block ?_
      refine J.loop (ι := Nat) (fun i => [(8, I (64 * (i : Int))), (3, .pointer (some ⟨b3_1, 0, none⟩)), (5, .pointer (some ⟨b5_6, 0, none⟩)), (7, s54_18)]) (fun i w' => 64 * i ≤ (pad64L l (UInt64.ofNat l.length)).length ∧ Cel w' b3_1 72 [(0, 80, (roundsL).map fun x => W64 x)] ∧ Cel w' b5_6 60 [(0, 8, (blk256 start256L (pad64L l (UInt64.ofNat l.length)) i).map fun x => W32 x)] ∧ Ob w8.heap.size 5 w' s54_18 (pad64L l (UInt64.ofNat l.length)) ∧ w8.heap.size ≤ w'.heap.size ∧ Ext w w') (fun i => (pad64L l (UInt64.ofNat l.length)).length - 64 * i) (0) ⟨(someI (by simp)), rfl, rfl, rfl, trivial⟩ (⟨Nat.zero_le _, c3_1, Cel.cong c5_6 (by rfl), by rw [← rpad64_law l (UInt64.ofNat l.length) (k := k) (by omega)]; exact o54_18, le_w8, e0⟩) ?_
      rintro k w19 ⟨hk, c3_1, c5_6, o54_18, le_w8, e0⟩
      have hHk := blk256_len start256L (pad64L l (UInt64.ofNat l.length)) rfl k
      have ne_s54_18_b3_1 := Ow.neBase o54_18 lt_b3_1_w8
      have ne_s54_18_b5_6 := Ow.neBase o54_18 lt_b5_6_w8
      refine J.seq ?_
      refine J.seq ?_
      refine J.region ?_
      refine J.op (Yd.move rfl) rfl ?_
      refine J.op (Yd.move rfl) rfl ?_
      refine J.op (Yd.len_b Try.underlying22 rfl (Ow.rd o54_18)) rfl ?_
      refine J.op (Yd.lss rfl rfl) rfl ?_
      refine J.nil ?_
      refine J.n_then ?_
      refine J.cond_dec rfl (fun hc2 => ?_) (fun hc2 => ?_)
      · skip
        refine J.skip ?_
        refine J.n_then ?_
        refine J.seq ?_
        refine J.block ?_
        refine J.seq ?_
        refine J.region ?_
        refine J.eff (Ye.alloc ti77 (S := [(0, 64, (List.replicate 64 0).map (fun x : UInt32 => W32 x))]) (by simp [SegAll, SegOK, Value.cells])) rfl ?_
        rintro _ w20 ⟨b9_19, rfl, hb_, c9_19, x1⟩
        have hz_b9_19 := Nat.le_trans e0.size hb_
        have lt_b3_1_b9_19 : b3_1 < b9_19 := Nat.lt_of_lt_of_le (Cel.lt c3_1) hb_
        have lt_b5_6_b9_19 : b5_6 < b9_19 := Nat.lt_of_lt_of_le (Cel.lt c5_6) hb_
        have ne_s54_18_b9_19 := Ow.neLt o54_18 hb_
        have e0 := e0.trans x1
        have c3_1 := c3_1.ext x1
        have c5_6 := c5_6.ext x1
        have o54_18 := o54_18.ext x1
        have le_w8 := Nat.le_trans le_w8 x1.size
        clear x1 hb_
        refine J.nil ?_
        refine J.n_then ?_
        refine J.seq ?_
        refine J.seq ?_
        refine J.region ?_
        refine J.op (Yd.assign rfl) rfl ?_
        refine J.nil ?_
        refine J.n_then ?_
        refine J.block ?_
        refine J.loop (ι := Nat) (fun i => [(8, I (64 * (k : Int))), (10, I i), (3, .pointer (some ⟨b3_1, 0, none⟩)), (5, .pointer (some ⟨b5_6, 0, none⟩)), (9, .pointer (some ⟨b9_19, 0, none⟩)), (7, s54_18)]) (fun i w' => i ≤ 16 ∧ Cel w' b3_1 72 [(0, 80, (roundsL).map fun x => W64 x)] ∧ Cel w' b5_6 60 [(0, 8, ((blk256 start256L (pad64L l (UInt64.ofNat l.length)) k)).map fun x => W32 x)] ∧ Cel w' b9_19 77 [(0, 64, (arr256 ((pad64L l (UInt64.ofNat l.length)).drop (64 * k)) i).map fun x => W32 x)] ∧ Ob w8.heap.size 5 w' s54_18 (pad64L l (UInt64.ofNat l.length)) ∧ w8.heap.size ≤ w'.heap.size ∧ Ext w w') (fun i => 16 - i) (0) ⟨rfl, rfl, rfl, rfl, rfl, rfl, trivial⟩ (⟨by omega, c3_1, c5_6, Cel.cong c9_19 (by simp [arr256, sched256]), o54_18, le_w8, e0⟩) ?_
        rintro j w21 ⟨hj, c3_1, c5_6, c9_19, o54_18, le_w8, e0⟩
        have hal := arr256_len ((pad64L l (UInt64.ofNat l.length)).drop (64 * k)) j (by omega)
        have ne_s54_18_b3_1 := Ow.neBase o54_18 lt_b3_1_w8
        have ne_s54_18_b5_6 := Ow.neBase o54_18 lt_b5_6_w8
        refine J.seq ?_
        refine J.seq ?_
        refine J.region ?_
        refine J.op (Yd.move rfl) rfl ?_
        refine J.op (Yd.lss rfl rfl) rfl ?_
        refine J.nil ?_
        refine J.n_then ?_
        refine J.cond_dec rfl (fun hc3 => ?_) (fun hc3 => ?_)
        · skip
          refine J.skip ?_
          refine J.n_then ?_
          refine J.seq ?_
          refine J.block ?_
          refine J.region ?_
          refine J.op (Yd.move rfl) rfl ?_
          refine J.op (Yd.move rfl) rfl ?_
          refine J.op (Yd.move rfl) rfl ?_
          refine J.op (Yd.move rfl) rfl ?_
          refine J.op (Yd.mul rfl rfl (by first | omega | (simp only [Int.toNat_natCast]; omega) | (simp only [List.length_map, List.length_drop, List.length_take, List.length_append, List.length_replicate]; omega) | (simp <;> omega))) rfl ?_
          refine J.op (Yd.add rfl rfl (by first | omega | (simp only [Int.toNat_natCast]; omega) | (simp only [List.length_map, List.length_drop, List.length_take, List.length_append, List.length_replicate]; omega) | (simp <;> omega))) rfl ?_
          refine J.op (Yd.move rfl) rfl ?_
          refine J.op (Yd.move rfl) rfl ?_
          refine J.op (Yd.mul rfl rfl (by first | omega | (simp only [Int.toNat_natCast]; omega) | (simp only [List.length_map, List.length_drop, List.length_take, List.length_append, List.length_replicate]; omega) | (simp <;> omega))) rfl ?_
          refine J.op (Yd.add rfl rfl (by first | omega | (simp only [Int.toNat_natCast]; omega) | (simp only [List.length_map, List.length_drop, List.length_take, List.length_append, List.length_replicate]; omega) | (simp <;> omega))) rfl ?_
          refine J.op (Yd.add rfl rfl (by first | omega | (simp only [Int.toNat_natCast]; omega) | (simp only [List.length_map, List.length_drop, List.length_take, List.length_append, List.length_replicate]; omega) | (simp <;> omega))) rfl ?_
          refine J.op (Yd.slcLH Try.underlying22 ti5 rfl (Ow.rd o54_18) rfl rfl (by first | omega | (simp only [Int.toNat_natCast]; omega) | (simp only [List.length_map, List.length_drop, List.length_take, List.length_append, List.length_replicate]; omega) | (simp <;> omega))) rfl ?_
          refine J.eff (Ye.call cl46 rfl (RGetBig_ok (n := 4) (Bs.slc (Ow.rd o54_18) (by first | omega | (simp only [Int.toNat_natCast]; omega) | (simp only [List.length_map, List.length_drop, List.length_take, List.length_append, List.length_replicate]; omega) | (simp <;> omega)) (by first | omega | (simp only [Int.toNat_natCast]; omega) | (simp only [List.length_map, List.length_drop, List.length_take, List.length_append, List.length_replicate]; omega) | (simp <;> omega))) (by omega))) rfl ?_
          rintro _ w22 ⟨rfl, x1⟩
          have e0 := e0.trans x1
          have c3_1 := c3_1.ext x1
          have c5_6 := c5_6.ext x1
          have c9_19 := c9_19.ext x1
          have o54_18 := o54_18.ext x1
          have le_w8 := Nat.le_trans le_w8 x1.size
          clear x1
          refine J.op (Yd.cv_64_32 Try.underlying42 Try.underlying59 rfl) rfl ?_
          refine J.op (Yd.idxA Try.underlying77 ti59 rfl rfl (by first | omega | (simp only [Int.toNat_natCast]; omega) | (simp only [List.length_map, List.length_drop, List.length_take, List.length_append, List.length_replicate]; omega) | (simp <;> omega))) rfl ?_
          refine J.eff0 (Ye.storeM ti59 c9_19 0 rfl rfl rfl rfl (by first | omega | (simp only [Int.toNat_natCast]; omega) | (simp only [List.length_map, List.length_drop, List.length_take, List.length_append, List.length_replicate]; omega) | (simp <;> omega)) (fun _ => rfl) (fun _ => rfl)) ?_
          rintro _ w23 ⟨cX, hu⟩
          simp only [List.set_cons_zero, List.set_cons_succ] at cX
          have e0 := e0.upd hz_b9_19 hu
          have le_w8 := Nat.le_trans le_w8 (Nat.le_of_eq hu.size.symm)
          have c3_1 := Cel.upd c3_1 hu (by omega)
          have c5_6 := Cel.upd c5_6 hu (by omega)
          have o54_18 := Ow.upd o54_18 hu ne_s54_18_b9_19
          replace c9_19 := cX
          clear cX hu
          refine J.nil ?_
          refine J.n_block ?_
          refine J.n_then ?_
          refine J.region ?_
          refine J.op (Yd.move rfl) rfl ?_
          refine J.op (Yd.add rfl rfl (by first | omega | (simp only [Int.toNat_natCast]; omega) | (simp only [List.length_map, List.length_drop, List.length_take, List.length_append, List.length_replicate]; omega) | (simp <;> omega))) rfl ?_
          refine J.op (Yd.assign rfl) rfl ?_
          refine J.nil ?_
          refine J.n_then ?_
          exact J.round (j + 1) ⟨rfl, rfl, rfl, rfl, rfl, rfl, trivial⟩ (⟨by omega, c3_1, c5_6, Cel.cong c9_19 (by rw [Int.toNat_natCast, ← arr256_set ((pad64L l (UInt64.ofNat l.length)).drop (64 * k)) j (by omega), next256_lo' ((pad64L l (UInt64.ofNat l.length)).drop (64 * k)) _ j (by omega), show (64 * (k : Int) + 4 * (j : Int) + 4).toNat = 64 * k + 4 * j + 4 by omega, show (64 * (k : Int) + 4 * (j : Int)).toNat = 64 * k + 4 * j by omega, get64_cut, ← List.drop_drop]), o54_18, le_w8, e0⟩) (by omega)
        · skip
          refine J.exit ?_
          refine J.x_then ?_
          refine J.x_then ?_
          refine J.x_block ?_
          refine J.n_then ?_
          refine J.seq ?_
          refine J.seq ?_
          refine J.region ?_
          refine J.op (Yd.assign rfl) rfl ?_
          refine J.nil ?_
          refine J.n_then ?_
          refine J.block ?_
          refine J.loop (ι := Nat) (fun i => [(8, I (64 * (k : Int))), (11, I i), (3, .pointer (some ⟨b3_1, 0, none⟩)), (5, .pointer (some ⟨b5_6, 0, none⟩)), (9, .pointer (some ⟨b9_19, 0, none⟩)), (7, s54_18)]) (fun i w' => (16 ≤ i ∧ i ≤ 64) ∧ Cel w' b3_1 72 [(0, 80, (roundsL).map fun x => W64 x)] ∧ Cel w' b5_6 60 [(0, 8, ((blk256 start256L (pad64L l (UInt64.ofNat l.length)) k)).map fun x => W32 x)] ∧ Cel w' b9_19 77 [(0, 64, (arr256 ((pad64L l (UInt64.ofNat l.length)).drop (64 * k)) i).map fun x => W32 x)] ∧ Ob w8.heap.size 5 w' s54_18 (pad64L l (UInt64.ofNat l.length)) ∧ w8.heap.size ≤ w'.heap.size ∧ Ext w w') (fun i => 64 - i) (16) ⟨rfl, rfl, rfl, rfl, rfl, rfl, trivial⟩ (⟨by omega, c3_1, c5_6, Cel.cong c9_19 (by rw [show j = 16 by omega]), o54_18, le_w8, e0⟩) ?_
          rintro i w24 ⟨hi16, c3_1, c5_6, c9_19, o54_18, le_w8, e0⟩
          have hal := arr256_len ((pad64L l (UInt64.ofNat l.length)).drop (64 * k)) i (by omega)
          have ne_s54_18_b3_1 := Ow.neBase o54_18 lt_b3_1_w8
          have ne_s54_18_b5_6 := Ow.neBase o54_18 lt_b5_6_w8
          refine J.seq ?_
          refine J.seq ?_
          refine J.region ?_
          refine J.op (Yd.move rfl) rfl ?_
          refine J.op (Yd.lss rfl rfl) rfl ?_
          refine J.nil ?_
          refine J.n_then ?_
          refine J.cond_dec rfl (fun hc4 => ?_) (fun hc4 => ?_)
          · skip
            refine J.skip ?_
            refine J.n_then ?_
            refine J.seq ?_
            refine J.block ?_
            refine J.seq ?_
            refine J.regionO [(0, true), (1, true), (5, true), (6, true), (11, true), (12, true)] [(2, 1), (3, 1), (7, 1), (8, 1), (13, 1), (14, 1), (15, 1), (4, 0), (9, 0), (10, 1)] [(16, true), (17, true)] mix (by kernel_rfl) ?_
            refine J.s_op rfl (fun _ => Yd.move rfl) rfl ?_
            refine J.s_op rfl (fun _ => Yd.sub rfl rfl (by first | omega | (simp only [Int.toNat_natCast]; omega) | (simp only [List.length_map, List.length_drop, List.length_take, List.length_append, List.length_replicate]; omega) | (simp <;> omega))) rfl ?_
            refine J.s_op rfl (fun _ => Yd.move rfl) rfl ?_
            refine J.s_op rfl (fun _ => Yd.sub rfl rfl (by first | omega | (simp only [Int.toNat_natCast]; omega) | (simp only [List.length_map, List.length_drop, List.length_take, List.length_append, List.length_replicate]; omega) | (simp <;> omega))) rfl ?_
            refine J.s_op rfl (fun _ => Yd.move rfl) rfl ?_
            refine J.s_op rfl (fun _ => Yd.sub rfl rfl (by first | omega | (simp only [Int.toNat_natCast]; omega) | (simp only [List.length_map, List.length_drop, List.length_take, List.length_append, List.length_replicate]; omega) | (simp <;> omega))) rfl ?_
            refine J.s_nil ?_
            refine J.o_op rfl (Yd.idxA Try.underlying77 ti59 rfl rfl (by first | omega | (simp only [Int.toNat_natCast]; omega) | (simp only [List.length_map, List.length_drop, List.length_take, List.length_append, List.length_replicate]; omega) | (simp <;> omega))) rfl ?_
            refine J.o_op rfl (Yd.load pl59 rfl (Cel.cellM c9_19 0 rfl 0 (by have hl_ := Cel.lenM c9_19 0 rfl; first | omega | (simp only [Int.toNat_natCast]; omega) | (simp at hl_ ⊢ <;> omega)))) rfl ?_
            refine J.o_op rfl (Yd.idxA Try.underlying77 ti59 rfl rfl (by first | omega | (simp only [Int.toNat_natCast]; omega) | (simp only [List.length_map, List.length_drop, List.length_take, List.length_append, List.length_replicate]; omega) | (simp <;> omega))) rfl ?_
            refine J.o_op rfl (Yd.load pl59 rfl (Cel.cellM c9_19 0 rfl 0 (by have hl_ := Cel.lenM c9_19 0 rfl; first | omega | (simp only [Int.toNat_natCast]; omega) | (simp at hl_ ⊢ <;> omega)))) rfl ?_
            refine J.o_op rfl (Yd.idxA Try.underlying77 ti59 rfl rfl (by first | omega | (simp only [Int.toNat_natCast]; omega) | (simp only [List.length_map, List.length_drop, List.length_take, List.length_append, List.length_replicate]; omega) | (simp <;> omega))) rfl ?_
            refine J.o_op rfl (Yd.load pl59 rfl (Cel.cellM c9_19 0 rfl 0 (by have hl_ := Cel.lenM c9_19 0 rfl; first | omega | (simp only [Int.toNat_natCast]; omega) | (simp at hl_ ⊢ <;> omega)))) rfl ?_
            refine J.o_op rfl (Yd.shr_u32 rfl rfl (by first | omega | (simp only [Int.toNat_natCast]; omega) | (simp only [List.length_map, List.length_drop, List.length_take, List.length_append, List.length_replicate]; omega) | (simp <;> omega))) rfl ?_
            refine J.o_eff rfl (Ye.call cl47 rfl (Rot32_ok (m := 7) (by omega))) rfl (fun _ _ h => h.2) ?_
            rintro _ w25 ⟨rfl, x1⟩
            have e0 := e0.trans x1
            have c3_1 := c3_1.ext x1
            have c5_6 := c5_6.ext x1
            have c9_19 := c9_19.ext x1
            have o54_18 := o54_18.ext x1
            have le_w8 := Nat.le_trans le_w8 x1.size
            clear x1
            refine J.o_eff rfl (Ye.call cl47 rfl (Rot32_ok (m := 18) (by omega))) rfl (fun _ _ h => h.2) ?_
            rintro _ w26 ⟨rfl, x1⟩
            have e0 := e0.trans x1
            have c3_1 := c3_1.ext x1
            have c5_6 := c5_6.ext x1
            have c9_19 := c9_19.ext x1
            have o54_18 := o54_18.ext x1
            have le_w8 := Nat.le_trans le_w8 x1.size
            clear x1
            refine J.o_op rfl (Yd.xor_u32 rfl rfl) rfl ?_
            refine J.o_nil ?_
            refine J.s_op rfl (fun _ => Yd.xor_u32 rfl rfl) rfl ?_
            refine J.s_op rfl (fun _ => Yd.assign rfl) rfl ?_
            refine J.s_nil ?_
            refine J.n_np ?_
            refine J.n_then ?_
            refine J.seq ?_
            refine J.regionO [(0, true), (1, true), (5, true), (6, true), (11, true), (12, true)] [(2, 1), (3, 1), (7, 1), (8, 1), (13, 1), (14, 1), (15, 1), (4, 0), (9, 0), (10, 1)] [(16, true), (17, true)] mix (by kernel_rfl) ?_
            refine J.s_op rfl (fun _ => Yd.move rfl) rfl ?_
            refine J.s_op rfl (fun _ => Yd.sub rfl rfl (by first | omega | (simp only [Int.toNat_natCast]; omega) | (simp only [List.length_map, List.length_drop, List.length_take, List.length_append, List.length_replicate]; omega) | (simp <;> omega))) rfl ?_
            refine J.s_op rfl (fun _ => Yd.move rfl) rfl ?_
            refine J.s_op rfl (fun _ => Yd.sub rfl rfl (by first | omega | (simp only [Int.toNat_natCast]; omega) | (simp only [List.length_map, List.length_drop, List.length_take, List.length_append, List.length_replicate]; omega) | (simp <;> omega))) rfl ?_
            refine J.s_op rfl (fun _ => Yd.move rfl) rfl ?_
            refine J.s_op rfl (fun _ => Yd.sub rfl rfl (by first | omega | (simp only [Int.toNat_natCast]; omega) | (simp only [List.length_map, List.length_drop, List.length_take, List.length_append, List.length_replicate]; omega) | (simp <;> omega))) rfl ?_
            refine J.s_nil ?_
            refine J.o_op rfl (Yd.idxA Try.underlying77 ti59 rfl rfl (by first | omega | (simp only [Int.toNat_natCast]; omega) | (simp only [List.length_map, List.length_drop, List.length_take, List.length_append, List.length_replicate]; omega) | (simp <;> omega))) rfl ?_
            refine J.o_op rfl (Yd.load pl59 rfl (Cel.cellM c9_19 0 rfl 0 (by have hl_ := Cel.lenM c9_19 0 rfl; first | omega | (simp only [Int.toNat_natCast]; omega) | (simp at hl_ ⊢ <;> omega)))) rfl ?_
            refine J.o_op rfl (Yd.idxA Try.underlying77 ti59 rfl rfl (by first | omega | (simp only [Int.toNat_natCast]; omega) | (simp only [List.length_map, List.length_drop, List.length_take, List.length_append, List.length_replicate]; omega) | (simp <;> omega))) rfl ?_
            refine J.o_op rfl (Yd.load pl59 rfl (Cel.cellM c9_19 0 rfl 0 (by have hl_ := Cel.lenM c9_19 0 rfl; first | omega | (simp only [Int.toNat_natCast]; omega) | (simp at hl_ ⊢ <;> omega)))) rfl ?_
            refine J.o_op rfl (Yd.idxA Try.underlying77 ti59 rfl rfl (by first | omega | (simp only [Int.toNat_natCast]; omega) | (simp only [List.length_map, List.length_drop, List.length_take, List.length_append, List.length_replicate]; omega) | (simp <;> omega))) rfl ?_
            refine J.o_op rfl (Yd.load pl59 rfl (Cel.cellM c9_19 0 rfl 0 (by have hl_ := Cel.lenM c9_19 0 rfl; first | omega | (simp only [Int.toNat_natCast]; omega) | (simp at hl_ ⊢ <;> omega)))) rfl ?_
            refine J.o_op rfl (Yd.shr_u32 rfl rfl (by first | omega | (simp only [Int.toNat_natCast]; omega) | (simp only [List.length_map, List.length_drop, List.length_take, List.length_append, List.length_replicate]; omega) | (simp <;> omega))) rfl ?_
            refine J.o_eff rfl (Ye.call cl47 rfl (Rot32_ok (m := 17) (by omega))) rfl (fun _ _ h => h.2) ?_
            rintro _ w27 ⟨rfl, x1⟩
            have e0 := e0.trans x1
            have c3_1 := c3_1.ext x1
            have c5_6 := c5_6.ext x1
            have c9_19 := c9_19.ext x1
            have o54_18 := o54_18.ext x1
            have le_w8 := Nat.le_trans le_w8 x1.size
            clear x1
            refine J.o_eff rfl (Ye.call cl47 rfl (Rot32_ok (m := 19) (by omega))) rfl (fun _ _ h => h.2) ?_
            rintro _ w28 ⟨rfl, x1⟩
            have e0 := e0.trans x1
            have c3_1 := c3_1.ext x1
            have c5_6 := c5_6.ext x1
            have c9_19 := c9_19.ext x1
            have o54_18 := o54_18.ext x1
            have le_w8 := Nat.le_trans le_w8 x1.size
            clear x1
            refine J.o_op rfl (Yd.xor_u32 rfl rfl) rfl ?_
            refine J.o_nil ?_
            refine J.s_op rfl (fun _ => Yd.xor_u32 rfl rfl) rfl ?_
            refine J.s_op rfl (fun _ => Yd.assign rfl) rfl ?_
            refine J.s_nil ?_
            refine J.n_np ?_
            refine J.n_then ?_
            refine J.regionO [(0, true), (1, true), (2, true), (5, true), (7, true), (8, true), (12, true)] [(3, 1), (4, 1), (9, 1), (10, 1), (6, 1)] [(11, true), (13, true), (14, false), (15, false)] mix (by kernel_rfl) ?_
            refine J.s_op rfl (fun _ => Yd.move rfl) rfl ?_
            refine J.s_op rfl (fun _ => Yd.move rfl) rfl ?_
            refine J.s_op rfl (fun _ => Yd.sub rfl rfl (by first | omega | (simp only [Int.toNat_natCast]; omega) | (simp only [List.length_map, List.length_drop, List.length_take, List.length_append, List.length_replicate]; omega) | (simp <;> omega))) rfl ?_
            refine J.s_op rfl (fun _ => Yd.move rfl) rfl ?_
            refine J.s_op rfl (fun _ => Yd.move rfl) rfl ?_
            refine J.s_op rfl (fun _ => Yd.sub rfl rfl (by first | omega | (simp only [Int.toNat_natCast]; omega) | (simp only [List.length_map, List.length_drop, List.length_take, List.length_append, List.length_replicate]; omega) | (simp <;> omega))) rfl ?_
            refine J.s_op rfl (fun _ => Yd.move rfl) rfl ?_
            refine J.s_nil ?_
            refine J.o_op rfl (Yd.idxA Try.underlying77 ti59 rfl rfl (by first | omega | (simp only [Int.toNat_natCast]; omega) | (simp only [List.length_map, List.length_drop, List.length_take, List.length_append, List.length_replicate]; omega) | (simp <;> omega))) rfl ?_
            refine J.o_op rfl (Yd.load pl59 rfl (Cel.cellM c9_19 0 rfl 0 (by have hl_ := Cel.lenM c9_19 0 rfl; first | omega | (simp only [Int.toNat_natCast]; omega) | (simp at hl_ ⊢ <;> omega)))) rfl ?_
            refine J.o_op rfl (Yd.idxA Try.underlying77 ti59 rfl rfl (by first | omega | (simp only [Int.toNat_natCast]; omega) | (simp only [List.length_map, List.length_drop, List.length_take, List.length_append, List.length_replicate]; omega) | (simp <;> omega))) rfl ?_
            refine J.o_op rfl (Yd.load pl59 rfl (Cel.cellM c9_19 0 rfl 0 (by have hl_ := Cel.lenM c9_19 0 rfl; first | omega | (simp only [Int.toNat_natCast]; omega) | (simp at hl_ ⊢ <;> omega)))) rfl ?_
            refine J.o_op rfl (Yd.add_u32 rfl rfl) rfl ?_
            refine J.o_nil ?_
            refine J.s_op rfl (fun _ => Yd.add_u32 rfl rfl) rfl ?_
            refine J.s_op rfl (fun _ => Yd.add_u32 rfl rfl) rfl ?_
            refine J.s_one rfl (Yd.idxA Try.underlying77 ti59 rfl rfl (by first | omega | (simp only [Int.toNat_natCast]; omega) | (simp only [List.length_map, List.length_drop, List.length_take, List.length_append, List.length_replicate]; omega) | (simp <;> omega))) rfl ?_
            refine J.s_eff0 rfl (Ye.storeM ti59 c9_19 0 rfl rfl rfl rfl (by first | omega | (simp only [Int.toNat_natCast]; omega) | (simp only [List.length_map, List.length_drop, List.length_take, List.length_append, List.length_replicate]; omega) | (simp <;> omega)) (fun _ => rfl) (fun _ => rfl)) ?_
            rintro _ w29 ⟨cX, hu⟩
            simp only [List.set_cons_zero, List.set_cons_succ] at cX
            have e0 := e0.upd hz_b9_19 hu
            have le_w8 := Nat.le_trans le_w8 (Nat.le_of_eq hu.size.symm)
            have c3_1 := Cel.upd c3_1 hu (by omega)
            have c5_6 := Cel.upd c5_6 hu (by omega)
            have o54_18 := Ow.upd o54_18 hu ne_s54_18_b9_19
            replace c9_19 := cX
            clear cX hu
            refine J.s_nil ?_
            refine J.n_np ?_
            refine J.n_block ?_
            refine J.n_then ?_
            refine J.region ?_
            refine J.op (Yd.move rfl) rfl ?_
            refine J.op (Yd.add rfl rfl (by first | omega | (simp only [Int.toNat_natCast]; omega) | (simp only [List.length_map, List.length_drop, List.length_take, List.length_append, List.length_replicate]; omega) | (simp <;> omega))) rfl ?_
            refine J.op (Yd.assign rfl) rfl ?_
            refine J.nil ?_
            refine J.n_then ?_
            exact J.round (i + 1) ⟨rfl, rfl, rfl, rfl, rfl, rfl, trivial⟩ (⟨by omega, c3_1, c5_6, Cel.cong c9_19 (by rw [Int.toNat_natCast, ← arr256_set ((pad64L l (UInt64.ofNat l.length)).drop (64 * k)) i (by omega), ← next256_hi ((pad64L l (UInt64.ofNat l.length)).drop (64 * k)) i (by omega) (by omega)]; simp only [show ((i : Int) - 15).toNat = i - 15 by omega, show ((i : Int) - 2).toNat = i - 2 by omega, show ((i : Int) - 16).toNat = i - 16 by omega, show ((i : Int) - 7).toNat = i - 7 by omega]; rfl), o54_18, le_w8, e0⟩) (by omega)
          · skip
            refine J.exit ?_
            refine J.x_then ?_
            refine J.x_then ?_
            refine J.x_block ?_
            refine J.n_then ?_
            refine J.seq ?_
            refine J.region ?_
            refine J.op (Yd.loadA ag60 ti60 rfl c5_6 0 rfl) rfl ?_
            refine J.eff (Ye.alloc ti60 (S := [(0, 8, (List.replicate 8 0).map (fun x : UInt32 => W32 x))]) (by simp [SegAll, SegOK, Value.cells])) rfl ?_
            rintro _ w30 ⟨b14_29, rfl, hb_, c14_29, x1⟩
            have hz_b14_29 := Nat.le_trans e0.size hb_
            have lt_b3_1_b14_29 : b3_1 < b14_29 := Nat.lt_of_lt_of_le (Cel.lt c3_1) hb_
            have lt_b5_6_b14_29 : b5_6 < b14_29 := Nat.lt_of_lt_of_le (Cel.lt c5_6) hb_
            have lt_b9_19_b14_29 : b9_19 < b14_29 := Nat.lt_of_lt_of_le (Cel.lt c9_19) hb_
            have ne_s54_18_b14_29 := Ow.neLt o54_18 hb_
            have e0 := e0.trans x1
            have c3_1 := c3_1.ext x1
            have c5_6 := c5_6.ext x1
            have c9_19 := c9_19.ext x1
            have o54_18 := o54_18.ext x1
            have le_w8 := Nat.le_trans le_w8 x1.size
            clear x1 hb_
            refine J.eff0 (Ye.storeA (ys := List.map (fun x : UInt32 => W32 x) _) ti60 c14_29 0 rfl rfl rfl rfl (by first | (rw [List.length_map]; omega) | (simp; done) | rfl | (simp <;> omega)) (one_M _ (fun _ => rfl))) ?_
            rintro _ w31 ⟨cX, hu⟩
            simp only [List.set_cons_zero, List.set_cons_succ] at cX
            have e0 := e0.upd hz_b14_29 hu
            have le_w8 := Nat.le_trans le_w8 (Nat.le_of_eq hu.size.symm)
            have c3_1 := Cel.upd c3_1 hu (by omega)
            have c5_6 := Cel.upd c5_6 hu (by omega)
            have c9_19 := Cel.upd c9_19 hu (by omega)
            have o54_18 := Ow.upd o54_18 hu ne_s54_18_b14_29
            replace c14_29 := cX
            clear cX hu
            refine J.nil ?_
            refine J.n_then ?_
            refine J.seq ?_
            refine J.seq ?_
            refine J.region ?_
            refine J.op (Yd.assign rfl) rfl ?_
            refine J.nil ?_
            refine J.n_then ?_
            refine J.block ?_
            refine J.loop (ι := Nat) (fun i => [(8, I (64 * (k : Int))), (15, I i), (3, .pointer (some ⟨b3_1, 0, none⟩)), (5, .pointer (some ⟨b5_6, 0, none⟩)), (9, .pointer (some ⟨b9_19, 0, none⟩)), (14, .pointer (some ⟨b14_29, 0, none⟩)), (7, s54_18)]) (fun i w' => i ≤ 64 ∧ Cel w' b3_1 72 [(0, 80, (roundsL).map fun x => W64 x)] ∧ Cel w' b5_6 60 [(0, 8, ((blk256 start256L (pad64L l (UInt64.ofNat l.length)) k)).map fun x => W32 x)] ∧ Cel w' b9_19 77 [(0, 64, (arr256 ((pad64L l (UInt64.ofNat l.length)).drop (64 * k)) 64).map fun x => W32 x)] ∧ Cel w' b14_29 60 [(0, 8, ((rnd256 (blk256 start256L (pad64L l (UInt64.ofNat l.length)) k) (sched256 ((pad64L l (UInt64.ofNat l.length)).drop (64 * k)) 64) i)).map fun x => W32 x)] ∧ Ob w8.heap.size 5 w' s54_18 (pad64L l (UInt64.ofNat l.length)) ∧ w8.heap.size ≤ w'.heap.size ∧ Ext w w') (fun i => 64 - i) (0) ⟨rfl, rfl, rfl, rfl, rfl, rfl, rfl, trivial⟩ (⟨by omega, c3_1, c5_6, Cel.cong c9_19 (by rw [show i = 64 by omega]), Cel.cong c14_29 (by rfl), o54_18, le_w8, e0⟩) ?_
            rintro t w32 ⟨ht, c3_1, c5_6, c9_19, c14_29, o54_18, le_w8, e0⟩
            have hal := arr256_len ((pad64L l (UInt64.ofNat l.length)).drop (64 * k)) 64 (by omega)
            have hrl := rnd256_len (blk256 start256L (pad64L l (UInt64.ofNat l.length)) k) (sched256 ((pad64L l (UInt64.ofNat l.length)).drop (64 * k)) 64) hHk t
            have hkl : roundsL.length = 80 := rfl
            have ne_s54_18_b3_1 := Ow.neBase o54_18 lt_b3_1_w8
            have ne_s54_18_b5_6 := Ow.neBase o54_18 lt_b5_6_w8
            refine J.seq ?_
            refine J.seq ?_
            refine J.region ?_
            refine J.op (Yd.move rfl) rfl ?_
            refine J.op (Yd.lss rfl rfl) rfl ?_
            refine J.nil ?_
            refine J.n_then ?_
            refine J.cond_dec rfl (fun hc5 => ?_) (fun hc5 => ?_)
            · skip
              refine J.skip ?_
              refine J.n_then ?_
              refine J.seq ?_
              refine J.block ?_
              refine J.seq ?_
              refine J.region ?_
              refine J.op (Yd.idxA Try.underlying60 ti59 rfl rfl (by first | omega | (simp only [Int.toNat_natCast]; omega) | (simp only [List.length_map, List.length_drop, List.length_take, List.length_append, List.length_replicate]; omega) | (simp <;> omega))) rfl ?_
              refine J.op (Yd.load pl59 rfl (Cel.cellM c14_29 0 rfl 0 (by have hl_ := Cel.lenM c14_29 0 rfl; first | omega | (simp only [Int.toNat_natCast]; omega) | (simp at hl_ ⊢ <;> omega)))) rfl ?_
              refine J.op (Yd.assign rfl) rfl ?_
              refine J.nil ?_
              refine J.n_then ?_
              refine J.seq ?_
              refine J.region ?_
              refine J.op (Yd.idxA Try.underlying60 ti59 rfl rfl (by first | omega | (simp only [Int.toNat_natCast]; omega) | (simp only [List.length_map, List.length_drop, List.length_take, List.length_append, List.length_replicate]; omega) | (simp <;> omega))) rfl ?_
              refine J.op (Yd.load pl59 rfl (Cel.cellM c14_29 0 rfl 0 (by have hl_ := Cel.lenM c14_29 0 rfl; first | omega | (simp only [Int.toNat_natCast]; omega) | (simp at hl_ ⊢ <;> omega)))) rfl ?_
              refine J.op (Yd.assign rfl) rfl ?_
              refine J.nil ?_
              refine J.n_then ?_
              refine J.seq ?_
              refine J.regionO [(2, true), (4, true), (7, true), (11, true), (15, true), (16, true), (22, true), (28, true)] [(0, 1), (1, 1), (12, 1), (13, 1), (17, 1), (18, 1), (23, 1), (24, 1), (29, 1), (30, 1), (14, 1), (19, 1), (20, 1), (25, 1), (26, 1), (3, 0), (5, 0), (6, 1), (8, 0), (9, 1), (10, 1), (21, 1), (27, 1)] [(31, true), (32, true)] mix (by kernel_rfl) ?_
              refine J.s_op rfl (fun _ => Yd.move rfl) rfl ?_
              refine J.s_op rfl (fun _ => Yd.move rfl) rfl ?_
              refine J.s_op rfl (fun _ => Yd.move rfl) rfl ?_
              refine J.s_op rfl (fun _ => Yd.move rfl) rfl ?_
              refine J.s_op rfl (fun _ => Yd.move rfl) rfl ?_
              refine J.s_op rfl (fun _ => Yd.xor1_u32 rfl) rfl ?_
              refine J.s_op rfl (fun _ => Yd.move rfl) rfl ?_
              refine J.s_op rfl (fun _ => Yd.move rfl) rfl ?_
              refine J.s_nil ?_
              refine J.o_op rfl (Yd.idxA Try.underlying60 ti59 rfl rfl (by first | omega | (simp only [Int.toNat_natCast]; omega) | (simp only [List.length_map, List.length_drop, List.length_take, List.length_append, List.length_replicate]; omega) | (simp <;> omega))) rfl ?_
              refine J.o_op rfl (Yd.load pl59 rfl (Cel.cellM c14_29 0 rfl 0 (by have hl_ := Cel.lenM c14_29 0 rfl; first | omega | (simp only [Int.toNat_natCast]; omega) | (simp at hl_ ⊢ <;> omega)))) rfl ?_
              refine J.o_op rfl (Yd.idxA Try.underlying60 ti59 rfl rfl (by first | omega | (simp only [Int.toNat_natCast]; omega) | (simp only [List.length_map, List.length_drop, List.length_take, List.length_append, List.length_replicate]; omega) | (simp <;> omega))) rfl ?_
              refine J.o_op rfl (Yd.load pl59 rfl (Cel.cellM c14_29 0 rfl 0 (by have hl_ := Cel.lenM c14_29 0 rfl; first | omega | (simp only [Int.toNat_natCast]; omega) | (simp at hl_ ⊢ <;> omega)))) rfl ?_
              refine J.o_op rfl (Yd.idxA Try.underlying60 ti59 rfl rfl (by first | omega | (simp only [Int.toNat_natCast]; omega) | (simp only [List.length_map, List.length_drop, List.length_take, List.length_append, List.length_replicate]; omega) | (simp <;> omega))) rfl ?_
              refine J.o_op rfl (Yd.load pl59 rfl (Cel.cellM c14_29 0 rfl 0 (by have hl_ := Cel.lenM c14_29 0 rfl; first | omega | (simp only [Int.toNat_natCast]; omega) | (simp at hl_ ⊢ <;> omega)))) rfl ?_
              refine J.o_op rfl (Yd.idxA Try.underlying72 ti42 rfl rfl (by first | omega | (simp only [Int.toNat_natCast]; omega) | (simp only [List.length_map, List.length_drop, List.length_take, List.length_append, List.length_replicate]; omega) | (simp <;> omega))) rfl ?_
              refine J.o_op rfl (Yd.load pl42 rfl (Cel.cellM c3_1 0 rfl 0 (by have hl_ := Cel.lenM c3_1 0 rfl; first | omega | (simp only [Int.toNat_natCast]; omega) | (simp at hl_ ⊢ <;> omega)))) rfl ?_
              refine J.o_op rfl (Yd.idxA Try.underlying77 ti59 rfl rfl (by first | omega | (simp only [Int.toNat_natCast]; omega) | (simp only [List.length_map, List.length_drop, List.length_take, List.length_append, List.length_replicate]; omega) | (simp <;> omega))) rfl ?_
              refine J.o_op rfl (Yd.load pl59 rfl (Cel.cellM c9_19 0 rfl 0 (by have hl_ := Cel.lenM c9_19 0 rfl; first | omega | (simp only [Int.toNat_natCast]; omega) | (simp at hl_ ⊢ <;> omega)))) rfl ?_
              refine J.o_op rfl (Yd.and_u32 rfl rfl) rfl ?_
              refine J.o_op rfl (Yd.and_u32 rfl rfl) rfl ?_
              refine J.o_op rfl (Yd.xor_u32 rfl rfl) rfl ?_
              refine J.o_op rfl (Yd.shr_u64 rfl rfl (by first | omega | (simp only [Int.toNat_natCast]; omega) | (simp only [List.length_map, List.length_drop, List.length_take, List.length_append, List.length_replicate]; omega) | (simp <;> omega))) rfl ?_
              refine J.o_op rfl (Yd.cv_64_32 Try.underlying42 Try.underlying59 rfl) rfl ?_
              refine J.o_eff rfl (Ye.call cl47 rfl (Rot32_ok (m := 6) (by omega))) rfl (fun _ _ h => h.2) ?_
              rintro _ w33 ⟨rfl, x1⟩
              have e0 := e0.trans x1
              have c3_1 := c3_1.ext x1
              have c5_6 := c5_6.ext x1
              have c9_19 := c9_19.ext x1
              have c14_29 := c14_29.ext x1
              have o54_18 := o54_18.ext x1
              have le_w8 := Nat.le_trans le_w8 x1.size
              clear x1
              refine J.o_eff rfl (Ye.call cl47 rfl (Rot32_ok (m := 11) (by omega))) rfl (fun _ _ h => h.2) ?_
              rintro _ w34 ⟨rfl, x1⟩
              have e0 := e0.trans x1
              have c3_1 := c3_1.ext x1
              have c5_6 := c5_6.ext x1
              have c9_19 := c9_19.ext x1
              have c14_29 := c14_29.ext x1
              have o54_18 := o54_18.ext x1
              have le_w8 := Nat.le_trans le_w8 x1.size
              clear x1
              refine J.o_op rfl (Yd.xor_u32 rfl rfl) rfl ?_
              refine J.o_eff rfl (Ye.call cl47 rfl (Rot32_ok (m := 25) (by omega))) rfl (fun _ _ h => h.2) ?_
              rintro _ w35 ⟨rfl, x1⟩
              have e0 := e0.trans x1
              have c3_1 := c3_1.ext x1
              have c5_6 := c5_6.ext x1
              have c9_19 := c9_19.ext x1
              have c14_29 := c14_29.ext x1
              have o54_18 := o54_18.ext x1
              have le_w8 := Nat.le_trans le_w8 x1.size
              clear x1
              refine J.o_op rfl (Yd.xor_u32 rfl rfl) rfl ?_
              refine J.o_op rfl (Yd.add_u32 rfl rfl) rfl ?_
              refine J.o_op rfl (Yd.add_u32 rfl rfl) rfl ?_
              refine J.o_op rfl (Yd.add_u32 rfl rfl) rfl ?_
              refine J.o_nil ?_
              refine J.s_op rfl (fun _ => Yd.add_u32 rfl rfl) rfl ?_
              refine J.s_op rfl (fun _ => Yd.assign rfl) rfl ?_
              refine J.s_nil ?_
              refine J.n_np ?_
              refine J.n_then ?_
              refine J.seq ?_
              refine J.regionO [(0, true), (2, true), (5, true), (8, true), (12, true)] [(9, 1), (10, 1), (13, 1), (14, 1), (17, 1), (18, 1), (19, 1), (20, 1), (11, 1), (15, 1), (16, 1), (21, 1), (22, 1), (1, 0), (3, 0), (4, 1), (6, 0), (7, 1)] [(23, true), (24, true)] mix (by kernel_rfl) ?_
              refine J.s_op rfl (fun _ => Yd.move rfl) rfl ?_
              refine J.s_op rfl (fun _ => Yd.move rfl) rfl ?_
              refine J.s_op rfl (fun _ => Yd.move rfl) rfl ?_
              refine J.s_op rfl (fun _ => Yd.move rfl) rfl ?_
              refine J.s_op rfl (fun _ => Yd.move rfl) rfl ?_
              refine J.s_nil ?_
              refine J.o_op rfl (Yd.idxA Try.underlying60 ti59 rfl rfl (by first | omega | (simp only [Int.toNat_natCast]; omega) | (simp only [List.length_map, List.length_drop, List.length_take, List.length_append, List.length_replicate]; omega) | (simp <;> omega))) rfl ?_
              refine J.o_op rfl (Yd.load pl59 rfl (Cel.cellM c14_29 0 rfl 0 (by have hl_ := Cel.lenM c14_29 0 rfl; first | omega | (simp only [Int.toNat_natCast]; omega) | (simp at hl_ ⊢ <;> omega)))) rfl ?_
              refine J.o_op rfl (Yd.idxA Try.underlying60 ti59 rfl rfl (by first | omega | (simp only [Int.toNat_natCast]; omega) | (simp only [List.length_map, List.length_drop, List.length_take, List.length_append, List.length_replicate]; omega) | (simp <;> omega))) rfl ?_
              refine J.o_op rfl (Yd.load pl59 rfl (Cel.cellM c14_29 0 rfl 0 (by have hl_ := Cel.lenM c14_29 0 rfl; first | omega | (simp only [Int.toNat_natCast]; omega) | (simp at hl_ ⊢ <;> omega)))) rfl ?_
              refine J.o_op rfl (Yd.idxA Try.underlying60 ti59 rfl rfl (by first | omega | (simp only [Int.toNat_natCast]; omega) | (simp only [List.length_map, List.length_drop, List.length_take, List.length_append, List.length_replicate]; omega) | (simp <;> omega))) rfl ?_
              refine J.o_op rfl (Yd.load pl59 rfl (Cel.cellM c14_29 0 rfl 0 (by have hl_ := Cel.lenM c14_29 0 rfl; first | omega | (simp only [Int.toNat_natCast]; omega) | (simp at hl_ ⊢ <;> omega)))) rfl ?_
              refine J.o_op rfl (Yd.idxA Try.underlying60 ti59 rfl rfl (by first | omega | (simp only [Int.toNat_natCast]; omega) | (simp only [List.length_map, List.length_drop, List.length_take, List.length_append, List.length_replicate]; omega) | (simp <;> omega))) rfl ?_
              refine J.o_op rfl (Yd.load pl59 rfl (Cel.cellM c14_29 0 rfl 0 (by have hl_ := Cel.lenM c14_29 0 rfl; first | omega | (simp only [Int.toNat_natCast]; omega) | (simp at hl_ ⊢ <;> omega)))) rfl ?_
              refine J.o_op rfl (Yd.and_u32 rfl rfl) rfl ?_
              refine J.o_op rfl (Yd.and_u32 rfl rfl) rfl ?_
              refine J.o_op rfl (Yd.xor_u32 rfl rfl) rfl ?_
              refine J.o_op rfl (Yd.and_u32 rfl rfl) rfl ?_
              refine J.o_op rfl (Yd.xor_u32 rfl rfl) rfl ?_
              refine J.o_eff rfl (Ye.call cl47 rfl (Rot32_ok (m := 2) (by omega))) rfl (fun _ _ h => h.2) ?_
              rintro _ w36 ⟨rfl, x1⟩
              have e0 := e0.trans x1
              have c3_1 := c3_1.ext x1
              have c5_6 := c5_6.ext x1
              have c9_19 := c9_19.ext x1
              have c14_29 := c14_29.ext x1
              have o54_18 := o54_18.ext x1
              have le_w8 := Nat.le_trans le_w8 x1.size
              clear x1
              refine J.o_eff rfl (Ye.call cl47 rfl (Rot32_ok (m := 13) (by omega))) rfl (fun _ _ h => h.2) ?_
              rintro _ w37 ⟨rfl, x1⟩
              have e0 := e0.trans x1
              have c3_1 := c3_1.ext x1
              have c5_6 := c5_6.ext x1
              have c9_19 := c9_19.ext x1
              have c14_29 := c14_29.ext x1
              have o54_18 := o54_18.ext x1
              have le_w8 := Nat.le_trans le_w8 x1.size
              clear x1
              refine J.o_op rfl (Yd.xor_u32 rfl rfl) rfl ?_
              refine J.o_eff rfl (Ye.call cl47 rfl (Rot32_ok (m := 22) (by omega))) rfl (fun _ _ h => h.2) ?_
              rintro _ w38 ⟨rfl, x1⟩
              have e0 := e0.trans x1
              have c3_1 := c3_1.ext x1
              have c5_6 := c5_6.ext x1
              have c9_19 := c9_19.ext x1
              have c14_29 := c14_29.ext x1
              have o54_18 := o54_18.ext x1
              have le_w8 := Nat.le_trans le_w8 x1.size
              clear x1
              refine J.o_op rfl (Yd.xor_u32 rfl rfl) rfl ?_
              refine J.o_nil ?_
              refine J.s_op rfl (fun _ => Yd.add_u32 rfl rfl) rfl ?_
              refine J.s_op rfl (fun _ => Yd.assign rfl) rfl ?_
              refine J.s_nil ?_
              refine J.n_np ?_
              refine J.n_then ?_
              refine J.region ?_
              refine J.op (Yd.move rfl) rfl ?_
              refine J.op (Yd.move rfl) rfl ?_
              refine J.op (Yd.add_u32 rfl rfl) rfl ?_
              refine J.op (Yd.idxA Try.underlying60 ti59 rfl rfl (by first | omega | (simp only [Int.toNat_natCast]; omega) | (simp only [List.length_map, List.length_drop, List.length_take, List.length_append, List.length_replicate]; omega) | (simp <;> omega))) rfl ?_
              refine J.op (Yd.load pl59 rfl (Cel.cellM c14_29 0 rfl 0 (by have hl_ := Cel.lenM c14_29 0 rfl; first | omega | (simp only [Int.toNat_natCast]; omega) | (simp at hl_ ⊢ <;> omega)))) rfl ?_
              refine J.op (Yd.idxA Try.underlying60 ti59 rfl rfl (by first | omega | (simp only [Int.toNat_natCast]; omega) | (simp only [List.length_map, List.length_drop, List.length_take, List.length_append, List.length_replicate]; omega) | (simp <;> omega))) rfl ?_
              refine J.op (Yd.load pl59 rfl (Cel.cellM c14_29 0 rfl 0 (by have hl_ := Cel.lenM c14_29 0 rfl; first | omega | (simp only [Int.toNat_natCast]; omega) | (simp at hl_ ⊢ <;> omega)))) rfl ?_
              refine J.op (Yd.idxA Try.underlying60 ti59 rfl rfl (by first | omega | (simp only [Int.toNat_natCast]; omega) | (simp only [List.length_map, List.length_drop, List.length_take, List.length_append, List.length_replicate]; omega) | (simp <;> omega))) rfl ?_
              refine J.op (Yd.load pl59 rfl (Cel.cellM c14_29 0 rfl 0 (by have hl_ := Cel.lenM c14_29 0 rfl; first | omega | (simp only [Int.toNat_natCast]; omega) | (simp at hl_ ⊢ <;> omega)))) rfl ?_
              refine J.op (Yd.idxA Try.underlying60 ti59 rfl rfl (by first | omega | (simp only [Int.toNat_natCast]; omega) | (simp only [List.length_map, List.length_drop, List.length_take, List.length_append, List.length_replicate]; omega) | (simp <;> omega))) rfl ?_
              refine J.op (Yd.load pl59 rfl (Cel.cellM c14_29 0 rfl 0 (by have hl_ := Cel.lenM c14_29 0 rfl; first | omega | (simp only [Int.toNat_natCast]; omega) | (simp at hl_ ⊢ <;> omega)))) rfl ?_
              refine J.op (Yd.move rfl) rfl ?_
              refine J.op (Yd.add_u32 rfl rfl) rfl ?_
              refine J.op (Yd.idxA Try.underlying60 ti59 rfl rfl (by first | omega | (simp only [Int.toNat_natCast]; omega) | (simp only [List.length_map, List.length_drop, List.length_take, List.length_append, List.length_replicate]; omega) | (simp <;> omega))) rfl ?_
              refine J.op (Yd.load pl59 rfl (Cel.cellM c14_29 0 rfl 0 (by have hl_ := Cel.lenM c14_29 0 rfl; first | omega | (simp only [Int.toNat_natCast]; omega) | (simp at hl_ ⊢ <;> omega)))) rfl ?_
              refine J.op (Yd.idxA Try.underlying60 ti59 rfl rfl (by first | omega | (simp only [Int.toNat_natCast]; omega) | (simp only [List.length_map, List.length_drop, List.length_take, List.length_append, List.length_replicate]; omega) | (simp <;> omega))) rfl ?_
              refine J.op (Yd.load pl59 rfl (Cel.cellM c14_29 0 rfl 0 (by have hl_ := Cel.lenM c14_29 0 rfl; first | omega | (simp only [Int.toNat_natCast]; omega) | (simp at hl_ ⊢ <;> omega)))) rfl ?_
              refine J.op (Yd.idxA Try.underlying60 ti59 rfl rfl (by first | omega | (simp only [Int.toNat_natCast]; omega) | (simp only [List.length_map, List.length_drop, List.length_take, List.length_append, List.length_replicate]; omega) | (simp <;> omega))) rfl ?_
              refine J.op (Yd.load pl59 rfl (Cel.cellM c14_29 0 rfl 0 (by have hl_ := Cel.lenM c14_29 0 rfl; first | omega | (simp only [Int.toNat_natCast]; omega) | (simp at hl_ ⊢ <;> omega)))) rfl ?_
              refine J.op (Yd.buildA (cells := ((step256 (rnd256 (blk256 start256L (pad64L l (UInt64.ofNat l.length)) k) (sched256 ((pad64L l (UInt64.ofNat l.length)).drop (64 * k)) 64) t) (shr_u64 (roundsL.getD t 0) 32).toUInt32 ((arr256 ((pad64L l (UInt64.ofNat l.length)).drop (64 * k)) 64).getD t 0)).map fun x => W32 x).toArray) Try.underlying60 ti59 ti60 rfl (by kernel_rfl)) rfl ?_
              refine J.eff0 (Ye.storeA (ys := List.map (fun x : UInt32 => W32 x) _) ti60 c14_29 0 rfl rfl rfl rfl (by first | (rw [List.length_map]; omega) | (simp; done) | rfl | (simp <;> omega)) (one_M _ (fun _ => rfl))) ?_
              rintro _ w39 ⟨cX, hu⟩
              simp only [List.set_cons_zero, List.set_cons_succ] at cX
              have e0 := e0.upd hz_b14_29 hu
              have le_w8 := Nat.le_trans le_w8 (Nat.le_of_eq hu.size.symm)
              have c3_1 := Cel.upd c3_1 hu (by omega)
              have c5_6 := Cel.upd c5_6 hu (by omega)
              have c9_19 := Cel.upd c9_19 hu (by omega)
              have o54_18 := Ow.upd o54_18 hu ne_s54_18_b14_29
              replace c14_29 := cX
              clear cX hu
              refine J.nil ?_
              refine J.n_block ?_
              refine J.n_then ?_
              refine J.region ?_
              refine J.op (Yd.move rfl) rfl ?_
              refine J.op (Yd.add rfl rfl (by first | omega | (simp only [Int.toNat_natCast]; omega) | (simp only [List.length_map, List.length_drop, List.length_take, List.length_append, List.length_replicate]; omega) | (simp <;> omega))) rfl ?_
              refine J.op (Yd.assign rfl) rfl ?_
              refine J.nil ?_
              refine J.n_then ?_
              exact J.round (t + 1) ⟨rfl, rfl, rfl, rfl, rfl, rfl, rfl, trivial⟩ (⟨by omega, c3_1, c5_6, c9_19, Cel.cong c14_29 (by rw [arr256_get ((pad64L l (UInt64.ofNat l.length)).drop (64 * k)) 64 t (by omega)]; rfl), o54_18, le_w8, e0⟩) (by omega)
            · skip
              refine J.exit ?_
              refine J.x_then ?_
              refine J.x_then ?_
              refine J.x_block ?_
              refine J.n_then ?_
              refine J.seq ?_
              refine J.region ?_
              refine J.op (Yd.assign rfl) rfl ?_
              refine J.nil ?_
              refine J.n_then ?_
              refine J.block ?_
              refine J.loop (ι := Nat) (fun i => [(8, I (64 * (k : Int))), (20, I i), (3, .pointer (some ⟨b3_1, 0, none⟩)), (5, .pointer (some ⟨b5_6, 0, none⟩)), (14, .pointer (some ⟨b14_29, 0, none⟩)), (7, s54_18)]) (fun i w' => i ≤ 8 ∧ Cel w' b3_1 72 [(0, 80, (roundsL).map fun x => W64 x)] ∧ Cel w' b5_6 60 [(0, 8, (fillU (fun j => (blk256 start256L (pad64L l (UInt64.ofNat l.length)) k).getD j 0 + (rnd256 (blk256 start256L (pad64L l (UInt64.ofNat l.length)) k) (sched256 ((pad64L l (UInt64.ofNat l.length)).drop (64 * k)) 64) 64).getD j 0) (blk256 start256L (pad64L l (UInt64.ofNat l.length)) k) i).map fun x => W32 x)] ∧ Cel w' b14_29 60 [(0, 8, ((rnd256 (blk256 start256L (pad64L l (UInt64.ofNat l.length)) k) (sched256 ((pad64L l (UInt64.ofNat l.length)).drop (64 * k)) 64) 64)).map fun x => W32 x)] ∧ Ob w8.heap.size 5 w' s54_18 (pad64L l (UInt64.ofNat l.length)) ∧ w8.heap.size ≤ w'.heap.size ∧ Ext w w') (fun i => 8 - i) (0) ⟨rfl, rfl, rfl, rfl, rfl, rfl, trivial⟩ (⟨by omega, c3_1, Cel.cong c5_6 (by rw [fillU_zero]), Cel.cong c14_29 (by rw [show t = 64 by omega]), o54_18, le_w8, e0⟩) ?_
              rintro f w40 ⟨hf, c3_1, c5_6, c14_29, o54_18, le_w8, e0⟩
              have hrl := rnd256_len (blk256 start256L (pad64L l (UInt64.ofNat l.length)) k) (sched256 ((pad64L l (UInt64.ofNat l.length)).drop (64 * k)) 64) hHk 64
              have hfl := fillU_len (fun j => (blk256 start256L (pad64L l (UInt64.ofNat l.length)) k).getD j 0 + (rnd256 (blk256 start256L (pad64L l (UInt64.ofNat l.length)) k) (sched256 ((pad64L l (UInt64.ofNat l.length)).drop (64 * k)) 64) 64).getD j 0) (blk256 start256L (pad64L l (UInt64.ofNat l.length)) k) f
              have ne_s54_18_b3_1 := Ow.neBase o54_18 lt_b3_1_w8
              have ne_s54_18_b5_6 := Ow.neBase o54_18 lt_b5_6_w8
              refine J.seq ?_
              refine J.seq ?_
              refine J.region ?_
              refine J.op (Yd.move rfl) rfl ?_
              refine J.op (Yd.lss rfl rfl) rfl ?_
              refine J.nil ?_
              refine J.n_then ?_
              refine J.cond_dec rfl (fun hc6 => ?_) (fun hc6 => ?_)
              · skip
                refine J.skip ?_
                refine J.n_then ?_
                refine J.seq ?_
                refine J.block ?_
                refine J.regionO [(0, true), (1, true), (4, true)] [(2, 1), (3, 1), (5, 1), (6, 1)] [(7, true), (8, false), (9, false)] mix (by kernel_rfl) ?_
                refine J.s_op rfl (fun _ => Yd.move rfl) rfl ?_
                refine J.s_op rfl (fun _ => Yd.move rfl) rfl ?_
                refine J.s_op rfl (fun _ => Yd.move rfl) rfl ?_
                refine J.s_nil ?_
                refine J.o_op rfl (Yd.idxA Try.underlying60 ti59 rfl rfl (by first | omega | (simp only [Int.toNat_natCast]; omega) | (simp only [List.length_map, List.length_drop, List.length_take, List.length_append, List.length_replicate]; omega) | (simp <;> omega))) rfl ?_
                refine J.o_op rfl (Yd.load pl59 rfl (Cel.cellM c5_6 0 rfl 0 (by have hl_ := Cel.lenM c5_6 0 rfl; first | omega | (simp only [Int.toNat_natCast]; omega) | (simp at hl_ ⊢ <;> omega)))) rfl ?_
                refine J.o_op rfl (Yd.idxA Try.underlying60 ti59 rfl rfl (by first | omega | (simp only [Int.toNat_natCast]; omega) | (simp only [List.length_map, List.length_drop, List.length_take, List.length_append, List.length_replicate]; omega) | (simp <;> omega))) rfl ?_
                refine J.o_op rfl (Yd.load pl59 rfl (Cel.cellM c14_29 0 rfl 0 (by have hl_ := Cel.lenM c14_29 0 rfl; first | omega | (simp only [Int.toNat_natCast]; omega) | (simp at hl_ ⊢ <;> omega)))) rfl ?_
                refine J.o_nil ?_
                refine J.s_op rfl (fun _ => Yd.add_u32 rfl rfl) rfl ?_
                refine J.s_one rfl (Yd.idxA Try.underlying60 ti59 rfl rfl (by first | omega | (simp only [Int.toNat_natCast]; omega) | (simp only [List.length_map, List.length_drop, List.length_take, List.length_append, List.length_replicate]; omega) | (simp <;> omega))) rfl ?_
                refine J.s_eff0 rfl (Ye.storeM ti59 c5_6 0 rfl rfl rfl rfl (by first | omega | (simp only [Int.toNat_natCast]; omega) | (simp only [List.length_map, List.length_drop, List.length_take, List.length_append, List.length_replicate]; omega) | (simp <;> omega)) (fun _ => rfl) (fun _ => rfl)) ?_
                rintro _ w41 ⟨cX, hu⟩
                simp only [List.set_cons_zero, List.set_cons_succ] at cX
                have e0 := e0.upd hz_b5_6 hu
                have le_w8 := Nat.le_trans le_w8 (Nat.le_of_eq hu.size.symm)
                have c3_1 := Cel.upd c3_1 hu (by omega)
                have c14_29 := Cel.upd c14_29 hu (by omega)
                have o54_18 := Ow.upd o54_18 hu ne_s54_18_b5_6
                replace c5_6 := cX
                clear cX hu
                refine J.s_nil ?_
                refine J.n_np ?_
                refine J.n_block ?_
                refine J.n_then ?_
                refine J.region ?_
                refine J.op (Yd.move rfl) rfl ?_
                refine J.op (Yd.add rfl rfl (by first | omega | (simp only [Int.toNat_natCast]; omega) | (simp only [List.length_map, List.length_drop, List.length_take, List.length_append, List.length_replicate]; omega) | (simp <;> omega))) rfl ?_
                refine J.op (Yd.assign rfl) rfl ?_
                refine J.nil ?_
                refine J.n_then ?_
                exact J.round (f + 1) ⟨rfl, rfl, rfl, rfl, rfl, rfl, trivial⟩ (⟨by omega, c3_1, Cel.cong c5_6 (by rw [Int.toNat_natCast, fillU_get _ _ _ _ _ (Nat.le_refl _)]; exact fillU_set _ _ _), c14_29, o54_18, le_w8, e0⟩) (by omega)
              · skip
                refine J.exit ?_
                refine J.x_then ?_
                refine J.x_then ?_
                refine J.x_block ?_
                refine J.n_block ?_
                refine J.n_then ?_
                refine J.region ?_
                refine J.op (Yd.move rfl) rfl ?_
                refine J.op (Yd.add rfl rfl (by first | omega | (simp only [Int.toNat_natCast]; omega) | (simp only [List.length_map, List.length_drop, List.length_take, List.length_append, List.length_replicate]; omega) | (simp <;> omega))) rfl ?_
                refine J.op (Yd.assign rfl) rfl ?_
                refine J.nil ?_
                refine J.n_then ?_
                exact J.round (k + 1) ⟨(someI (by show (64 * (k : Int) + 64) = 64 * ((k + 1 : Nat) : Int); omega)), rfl, rfl, rfl, trivial⟩ (⟨by omega, c3_1, Cel.cong c5_6 (by rw [show f = 8 by omega, fillU_all _ _ _ (by omega), hHk]; rfl), o54_18, le_w8, e0⟩) (by omega)
      · skip
        refine J.exit ?_
        refine J.x_then ?_
        refine J.x_then ?_
        refine J.x_block ?_
        refine J.n_then ?_
        refine J.seq ?_
        refine J.region ?_
        refine J.op (Yd.assign rfl) rfl ?_
        refine J.nil ?_
        refine J.n_then ?_
        refine J.seq ?_
        refine J.seq ?_
        refine J.region ?_
        refine J.op (Yd.assign rfl) rfl ?_
        refine J.nil ?_
        refine J.n_then ?_
        refine J.block ?_
        have hz_w19 : w.heap.size ≤ w19.heap.size := e0.size
        have le_w19 : w19.heap.size ≤ w19.heap.size := Nat.le_refl _
        have lt_b3_1_w19 : b3_1 < w19.heap.size := Cel.lt c3_1
        have lt_b5_6_w19 : b5_6 < w19.heap.size := Cel.lt c5_6
        refine J.loop (ι := Nat × Value) (fun i => [(22, I i.1), (5, .pointer (some ⟨b5_6, 0, none⟩)), (21, i.2)]) (fun i w' => i.1 ≤ 8 ∧ Cel w' b5_6 60 [(0, 8, ((blk256 start256L (pad64L l (UInt64.ofNat l.length)) k)).map fun x => W32 x)] ∧ Ob w19.heap.size 5 w' i.2 (((blk256 start256L (pad64L l (UInt64.ofNat l.length)) k).take i.1).flatMap fun x => beN x.toUInt64 4) ∧ w19.heap.size ≤ w'.heap.size ∧ Ext w w') (fun i => 8 - i.1) ((0, nilS)) ⟨rfl, rfl, rfl, trivial⟩ (⟨Nat.zero_le _, c5_6, Ow.nil _ _ _, le_w19, e0⟩) ?_
        rintro ⟨j, v2⟩ w42 ⟨hj, c5_6, ho, le_w19, e0⟩
        dsimp only at hj ho ⊢
        have hol : (((blk256 start256L (pad64L l (UInt64.ofNat l.length)) k).take j).flatMap fun x => beN x.toUInt64 4).length = 4 * ((blk256 start256L (pad64L l (UInt64.ofNat l.length)) k).take j).length := out256_len _
        have htl := List.length_take_le j (blk256 start256L (pad64L l (UInt64.ofNat l.length)) k)
        have hHl : (blk256 start256L (pad64L l (UInt64.ofNat l.length)) k).length = 8 := blk256_len _ _ rfl _
        have ne_v2_b5_6 := Ow.neBase ho lt_b5_6_w19
        refine J.seq ?_
        refine J.seq ?_
        refine J.region ?_
        refine J.op (Yd.move rfl) rfl ?_
        refine J.op (Yd.lss rfl rfl) rfl ?_
        refine J.nil ?_
        refine J.n_then ?_
        refine J.cond_dec rfl (fun hc7 => ?_) (fun hc7 => ?_)
        · skip
          refine J.skip ?_
          refine J.n_then ?_
          refine J.seq ?_
          refine J.block ?_
          refine J.region ?_
          refine J.op (Yd.move rfl) rfl ?_
          refine J.op (Yd.move rfl) rfl ?_
          refine J.op (Yd.idxA Try.underlying60 ti59 rfl rfl (by first | omega | (simp only [Int.toNat_natCast]; omega) | (simp only [List.length_map, List.length_drop, List.length_take, List.length_append, List.length_replicate]; omega) | (simp <;> omega))) rfl ?_
          refine J.op (Yd.load pl59 rfl (Cel.cellM c5_6 0 rfl 0 (by have hl_ := Cel.lenM c5_6 0 rfl; first | omega | (simp only [Int.toNat_natCast]; omega) | (simp at hl_ ⊢ <;> omega)))) rfl ?_
          refine J.op (Yd.cv_32_64 Try.underlying59 Try.underlying42 rfl) rfl ?_
          have hz_w42 : w.heap.size ≤ w42.heap.size := e0.size
          have le_w42 : w42.heap.size ≤ w42.heap.size := Nat.le_refl _
          have lt_b5_6_w42 : b5_6 < w42.heap.size := Cel.lt c5_6
          refine J.eff (Ye.call cl21 rfl (RBig_ok (n := 4) (by omega))) rfl ?_
          rintro s240_43 w43 ⟨o240_43, x1⟩
          have e0 := e0.trans x1
          have c5_6 := c5_6.ext x1
          have ho := ho.ext x1
          have le_w19 := Nat.le_trans le_w19 x1.size
          have le_w42 := Nat.le_trans le_w42 x1.size
          clear x1
          have ne_s240_43_b5_6 := Ow.neBase o240_43 lt_b5_6_w42
          have hs_w43 : w19.heap.size ≤ w43.heap.size := le_w19
          refine J.eff (Ye.appendM Try.underlying22 ti5 rfl rfl rfl rfl ho (Ow.rd o240_43) (fun _ => rfl) (by simp only [beN_len]; omega) hs_w43) rfl ?_
          rintro s241_44 w44 ⟨o241_44, hg⟩
          have e0 := e0.grown ho hz_w19 hg
          have le_w19 := Nat.le_trans le_w19 hg.size
          have le_w42 := Nat.le_trans le_w42 hg.size
          have c5_6 := Cel.grown c5_6 hg ne_v2_b5_6
          clear hg
          have ne_s241_44_b5_6 := Ow.neBase o241_44 lt_b5_6_w19
          refine J.op (Yd.assign rfl) rfl ?_
          refine J.nil ?_
          refine J.n_block ?_
          refine J.n_then ?_
          refine J.region ?_
          refine J.op (Yd.move rfl) rfl ?_
          refine J.op (Yd.add rfl rfl (by first | omega | (simp only [Int.toNat_natCast]; omega) | (simp only [List.length_map, List.length_drop, List.length_take, List.length_append, List.length_replicate]; omega) | (simp <;> omega))) rfl ?_
          refine J.op (Yd.assign rfl) rfl ?_
          refine J.nil ?_
          refine J.n_then ?_
          have h9 := o241_44
          simp only [Int.toNat_natCast] at h9
          generalize hHe : (blk256 start256L (pad64L l (UInt64.ofNat l.length)) k) = H at *
          have h10 := flatMap_take (fun x : UInt32 => beN x.toUInt64 4) H j 0 (by omega)
          rw [← h10] at h9
          exact J.round ((j + 1, s241_44)) ⟨rfl, rfl, rfl, trivial⟩ (⟨by show j + 1 ≤ 8; omega, c5_6, h9, le_w19, e0⟩) (by show 8 - (j + 1) < 8 - j; omega)
        · skip
          refine J.exit ?_
          refine J.x_then ?_
          refine J.x_then ?_
          refine J.x_block ?_
          refine J.n_then ?_
          refine J.seq ?_
          refine J.region ?_
          refine J.op (Yd.move rfl) rfl ?_
          refine J.op (Yd.assign rfl) rfl ?_
          refine J.nil ?_
          refine J.n_then ?_
          refine J.ret ?_
          exact J.ret1 rfl rfl (⟨_, rfl, by rw [List.take_of_length_le (by omega), show k = (pad64L l (UInt64.ofNat l.length)).length / 64 by omega] at ho; exact (Ow.base ho hz_w19), e0⟩)
end Ytpkpicnldpbomaa
end Go.Proofs
