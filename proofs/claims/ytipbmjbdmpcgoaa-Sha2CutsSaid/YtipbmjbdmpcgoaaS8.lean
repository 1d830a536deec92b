import Derived.Test.YtipbmjbdmpcgoaaT
import Derived.Test.YtipbmjbdmpcgoaaPv
import Derived.Test.YtipbmjbdmpcgoaaX12
import Derived.Test.YtipbmjbdmpcgoaaS7
set_option linter.unusedVariables false
set_option linter.unusedSimpArgs false
set_option maxRecDepth 100000
set_option maxHeartbeats 4000000
namespace Go.Proofs
open Go.X Go.RowKit
namespace Ytipbmjbdmpcgoaa
theorem RSum512_ok {a : Value} {l : List UInt8} {w : World} (ha : Bs w a l) (hl : l.length ≤ 1000000000) : C Try.prog 13 [a] w (Ret fun v w' => Ob w.heap.size 5 w' v (sha512L l) ∧ Ext w w') := by
  have hpm := pad128_mod l (UInt64.ofNat l.length)
  have hpl := pad128L_len l (UInt64.ofNat l.length)
  have e0 := Ext.refl w
  refine C.enter Try.func13 rfl Try.ntmps13 rfl ?_
  refine J.seq ?_
  refine J.region ?_
  refine J.op (Yd.assign rfl) rfl ?_
  refine J.nil ?_
  refine J.n_then ?_
  refine J.seq ?_
  refine J.region ?_
  refine J.eff (Ye.call cl19 rfl (Rrounds_ok)) rfl ?_
  rintro _ w1 ⟨rfl, x1⟩
  have e0 := e0.trans x1
  clear x1
  refine J.eff (Ye.alloc ti45 (S := [(0, 80, (List.replicate 80 0).map (fun x : UInt64 => W64 x))]) (by simp [SegAll, SegOK, Value.cells])) rfl ?_
  rintro _ w2 ⟨b3_1, rfl, hb_, c3_1, x1⟩
  have hz_b3_1 := Nat.le_trans e0.size hb_
  have e0 := e0.trans x1
  clear x1 hb_
  refine J.eff0 (Ye.storeA (ys := List.map (fun x : UInt64 => W64 x) _) ti45 c3_1 0 rfl rfl rfl rfl (by first | (rw [List.length_map]; omega) | (simp; done) | rfl | (simp <;> omega)) (one_M _ (fun _ => rfl))) ?_
  rintro _ w3 ⟨cX, hu⟩
  simp only [List.set_cons_zero, List.set_cons_succ] at cX
  have e0 := e0.upd hz_b3_1 hu
  replace c3_1 := cX
  clear cX hu
  refine J.nil ?_
  refine J.n_then ?_
  refine J.seq ?_
  refine J.region ?_
  refine J.eff (Ye.call cl20 rfl (Rstart_ok)) rfl ?_
  rintro _ w4 ⟨rfl, x1⟩
  have e0 := e0.trans x1
  have c3_1 := c3_1.ext x1
  clear x1
  refine J.eff (Ye.alloc ti47 (S := [(0, 8, (List.replicate 8 0).map (fun x : UInt64 => W64 x))]) (by simp [SegAll, SegOK, Value.cells])) rfl ?_
  rintro _ w5 ⟨b4_4, rfl, hb_, c4_4, x1⟩
  have hz_b4_4 := Nat.le_trans e0.size hb_
  have lt_b3_1_b4_4 : b3_1 < b4_4 := Nat.lt_of_lt_of_le (Cel.lt c3_1) hb_
  have e0 := e0.trans x1
  have c3_1 := c3_1.ext x1
  clear x1 hb_
  refine J.eff0 (Ye.storeA (ys := List.map (fun x : UInt64 => W64 x) _) ti47 c4_4 0 rfl rfl rfl rfl (by first | (rw [List.length_map]; omega) | (simp; done) | rfl | (simp <;> omega)) (one_M _ (fun _ => rfl))) ?_
  rintro _ w6 ⟨cX, hu⟩
  simp only [List.set_cons_zero, List.set_cons_succ] at cX
  have e0 := e0.upd hz_b4_4 hu
  have c3_1 := Cel.upd c3_1 hu (by omega)
  replace c4_4 := cX
  clear cX hu
  refine J.nil ?_
  refine J.n_then ?_
  refine J.seq ?_
  refine J.region ?_
  have hz_w6 : w.heap.size ≤ w6.heap.size := e0.size
  have le_w6 : w6.heap.size ≤ w6.heap.size := Nat.le_refl _
  have lt_b3_1_w6 : b3_1 < w6.heap.size := Cel.lt c3_1
  have lt_b4_4_w6 : b4_4 < w6.heap.size := Cel.lt c4_4
  refine J.eff (Ye.lit0 (base := w6.heap.size) (f := (fun x : UInt8 => B x)) Try.underlying25 ti5 rfl (Nat.le_refl _)) rfl ?_
  rintro s23_7 w7 ⟨o23_7, x1⟩
  have e0 := e0.trans x1
  have c3_1 := c3_1.ext x1
  have c4_4 := c4_4.ext x1
  have le_w6 := Nat.le_trans le_w6 x1.size
  clear x1
  have ne_s23_7_b3_1 := Ow.neBase o23_7 lt_b3_1_w6
  have ne_s23_7_b4_4 := Ow.neBase o23_7 lt_b4_4_w6
  refine J.op (Yd.move rfl) rfl ?_
  have hs_w7 : w6.heap.size ≤ w7.heap.size := le_w6
  refine J.eff (Ye.appendM Try.underlying25 ti5 rfl rfl rfl rfl o23_7 (Rd.ext ha e0) (fun _ => rfl) (by first | omega | (simp only [Int.toNat_natCast]; omega) | (simp only [List.length_map, List.length_drop, List.length_take, List.length_append, List.length_replicate]; omega) | (simp <;> omega)) hs_w7) rfl ?_
  rintro s25_8 w8 ⟨o25_8, hg⟩
  have e0 := e0.grown o23_7 hz_w6 hg
  have le_w6 := Nat.le_trans le_w6 hg.size
  have c3_1 := Cel.grown c3_1 hg ne_s23_7_b3_1
  have c4_4 := Cel.grown c4_4 hg ne_s23_7_b4_4
  clear hg
  rw [List.nil_append] at o25_8
  have ne_s25_8_b3_1 := Ow.neBase o25_8 lt_b3_1_w6
  have ne_s25_8_b4_4 := Ow.neBase o25_8 lt_b4_4_w6
  have hz_w8 : w.heap.size ≤ w8.heap.size := e0.size
  have le_w8 : w8.heap.size ≤ w8.heap.size := Nat.le_refl _
  have lt_b3_1_w8 : b3_1 < w8.heap.size := Cel.lt c3_1
  have lt_b4_4_w8 : b4_4 < w8.heap.size := Cel.lt c4_4
  refine J.eff (Ye.lit1 (base := w8.heap.size) (f := (fun x : UInt8 => B x)) (u := 128) Try.underlying25 ti5 rfl rfl (fun _ => rfl) (Nat.le_refl _)) rfl ?_
  rintro s26_9 w9 ⟨o26_9, x1⟩
  have e0 := e0.trans x1
  have c3_1 := c3_1.ext x1
  have c4_4 := c4_4.ext x1
  have o25_8 := o25_8.ext x1
  have le_w6 := Nat.le_trans le_w6 x1.size
  have le_w8 := Nat.le_trans le_w8 x1.size
  clear x1
  have ne_s26_9_b3_1 := Ow.neBase o26_9 lt_b3_1_w8
  have ne_s26_9_b4_4 := Ow.neBase o26_9 lt_b4_4_w8
  have hs_w9 : w6.heap.size ≤ w9.heap.size := le_w6
  refine J.eff (Ye.appendM Try.underlying25 ti5 rfl rfl rfl rfl o25_8 (Ow.rd o26_9) (fun _ => rfl) (by first | omega | (simp only [Int.toNat_natCast]; omega) | (simp only [List.length_map, List.length_drop, List.length_take, List.length_append, List.length_replicate]; omega) | (simp <;> omega)) hs_w9) rfl ?_
  rintro s27_10 w10 ⟨o27_10, hg⟩
  have e0 := e0.grown o25_8 hz_w6 hg
  have le_w6 := Nat.le_trans le_w6 hg.size
  have le_w8 := Nat.le_trans le_w8 hg.size
  have c3_1 := Cel.grown c3_1 hg ne_s25_8_b3_1
  have c4_4 := Cel.grown c4_4 hg ne_s25_8_b4_4
  clear hg
  have ne_s27_10_b3_1 := Ow.neBase o27_10 lt_b3_1_w6
  have ne_s27_10_b4_4 := Ow.neBase o27_10 lt_b4_4_w6
  refine J.op (Yd.assign rfl) rfl ?_
  refine J.nil ?_
  refine J.n_then ?_
  refine J.seq ?_
  refine J.block ?_
  refine J.loop (ι := Nat × Value) (fun i => [(0, a), (3, .pointer (some ⟨b3_1, 0, none⟩)), (4, .pointer (some ⟨b4_4, 0, none⟩)), (5, i.2)]) (fun i w' => i.1 ≤ (240 - (l.length + 1) % 128) % 128 ∧ Cel w' b3_1 45 [(0, 80, (roundsL).map fun x => W64 x)] ∧ Cel w' b4_4 47 [(0, 8, (startL).map fun x => W64 x)] ∧ Ob w6.heap.size 5 w' i.2 (l ++ [128] ++ List.replicate i.1 0) ∧ w6.heap.size ≤ w'.heap.size ∧ Ext w w') (fun i => (240 - (l.length + 1) % 128) % 128 - i.1) ((0, s27_10)) ⟨rfl, rfl, rfl, rfl, trivial⟩ (⟨Nat.zero_le _, c3_1, c4_4, by rw [List.replicate_zero, List.append_nil]; exact o27_10, le_w6, e0⟩) ?_
  rintro ⟨k, v⟩ w11 ⟨hk, c3_1, c4_4, ho, le_w6, e0⟩
  dsimp only at hk ho ⊢
  have ne_v_b3_1 := Ow.neBase ho lt_b3_1_w6
  have ne_v_b4_4 := Ow.neBase ho lt_b4_4_w6
  refine J.seq ?_
  refine J.seq ?_
  refine J.region ?_
  refine J.op (Yd.move rfl) rfl ?_
  refine J.op (Yd.len_b Try.underlying25 rfl (Ow.rd ho)) rfl ?_
  refine J.op (Yd.rem rfl rfl (by first | omega | (simp only [Int.toNat_natCast]; omega) | (simp only [List.length_map, List.length_drop, List.length_take, List.length_append, List.length_replicate]; omega) | (simp <;> omega)) (by first | omega | (simp only [Int.toNat_natCast]; omega) | (simp only [List.length_map, List.length_drop, List.length_take, List.length_append, List.length_replicate]; omega) | (simp <;> omega))) rfl ?_
  refine J.op (Yd.neq rfl rfl) rfl ?_
  refine J.nil ?_
  refine J.n_then ?_
  refine J.cond_dec rfl (fun hc0 => ?_) (fun hc0 => ?_)
  · skip
    rw [show ((l ++ [128] ++ List.replicate k 0 : List UInt8).length) = l.length + 1 + k by simp; omega] at hc0
    refine J.skip ?_
    refine J.n_then ?_
    refine J.block ?_
    refine J.region ?_
    refine J.op (Yd.move rfl) rfl ?_
    have hz_w11 : w.heap.size ≤ w11.heap.size := e0.size
    have le_w11 : w11.heap.size ≤ w11.heap.size := Nat.le_refl _
    have lt_b3_1_w11 : b3_1 < w11.heap.size := Cel.lt c3_1
    have lt_b4_4_w11 : b4_4 < w11.heap.size := Cel.lt c4_4
    refine J.eff (Ye.lit1 (base := w11.heap.size) (f := (fun x : UInt8 => B x)) (u := 0) Try.underlying25 ti5 rfl rfl (fun _ => rfl) (Nat.le_refl _)) rfl ?_
    rintro s33_12 w12 ⟨o33_12, x1⟩
    have e0 := e0.trans x1
    have c3_1 := c3_1.ext x1
    have c4_4 := c4_4.ext x1
    have ho := ho.ext x1
    have le_w6 := Nat.le_trans le_w6 x1.size
    have le_w11 := Nat.le_trans le_w11 x1.size
    clear x1
    have ne_s33_12_b3_1 := Ow.neBase o33_12 lt_b3_1_w11
    have ne_s33_12_b4_4 := Ow.neBase o33_12 lt_b4_4_w11
    have hs_w12 : w6.heap.size ≤ w12.heap.size := le_w6
    refine J.eff (Ye.appendM Try.underlying25 ti5 rfl rfl rfl rfl ho (Ow.rd o33_12) (fun _ => rfl) (by first | omega | (simp only [Int.toNat_natCast]; omega) | (simp only [List.length_map, List.length_drop, List.length_take, List.length_append, List.length_replicate]; omega) | (simp <;> omega)) hs_w12) rfl ?_
    rintro s34_13 w13 ⟨o34_13, hg⟩
    have e0 := e0.grown ho hz_w6 hg
    have le_w6 := Nat.le_trans le_w6 hg.size
    have le_w11 := Nat.le_trans le_w11 hg.size
    have c3_1 := Cel.grown c3_1 hg ne_v_b3_1
    have c4_4 := Cel.grown c4_4 hg ne_v_b4_4
    clear hg
    have ne_s34_13_b3_1 := Ow.neBase o34_13 lt_b3_1_w6
    have ne_s34_13_b4_4 := Ow.neBase o34_13 lt_b4_4_w6
    refine J.op (Yd.assign rfl) rfl ?_
    refine J.nil ?_
    refine J.n_block ?_
    refine J.n_then ?_
    exact J.round ((k + 1, s34_13)) ⟨rfl, rfl, rfl, rfl, trivial⟩ (⟨by show k + 1 ≤ _; omega, c3_1, c4_4, by show Ob _ _ _ _ (l ++ [128] ++ List.replicate (k + 1) 0); rw [List.replicate_succ', ← List.append_assoc]; exact o34_13, le_w6, e0⟩) (by show (240 - (l.length + 1) % 128) % 128 - (k + 1) < (240 - (l.length + 1) % 128) % 128 - k; omega)
  · skip
    rw [show ((l ++ [128] ++ List.replicate k 0 : List UInt8).length) = l.length + 1 + k by simp; omega] at hc0
    refine J.exit ?_
    refine J.x_then ?_
    refine J.x_then ?_
    refine J.x_block ?_
    refine J.n_then ?_
    refine J.seq ?_
    refine J.region ?_
    refine J.op (Yd.move rfl) rfl ?_
    have hs_w11 : w6.heap.size ≤ w11.heap.size := le_w6
    refine J.eff (Ye.appendZO Try.underlying25 Try.underlying3 ti5 rfl rfl rfl rfl rfl ho (by first | omega | (simp only [Int.toNat_natCast]; omega) | (simp only [List.length_map, List.length_drop, List.length_take, List.length_append, List.length_replicate]; omega) | (simp <;> omega)) (by first | omega | (simp only [Int.toNat_natCast]; omega) | (simp only [List.length_map, List.length_drop, List.length_take, List.length_append, List.length_replicate]; omega) | (simp <;> omega)) hs_w11) rfl ?_
    rintro s36_14 w14 ⟨o36_14, hg⟩
    have e0 := e0.grown ho hz_w6 hg
    have le_w6 := Nat.le_trans le_w6 hg.size
    have c3_1 := Cel.grown c3_1 hg ne_v_b3_1
    have c4_4 := Cel.grown c4_4 hg ne_v_b4_4
    clear hg
    rw [rep_B, ← List.map_append] at o36_14
    have ne_s36_14_b3_1 := Ow.neBase o36_14 lt_b3_1_w6
    have ne_s36_14_b4_4 := Ow.neBase o36_14 lt_b4_4_w6
    refine J.op (Yd.move rfl) rfl ?_
    refine J.op (Yd.len_b Try.underlying25 rfl (Rd.ext ha e0)) rfl ?_
    refine J.op (Yd.cv_i_64 Try.underlying3 Try.underlying35 rfl (by first | omega | (simp only [Int.toNat_natCast]; omega) | (simp only [List.length_map, List.length_drop, List.length_take, List.length_append, List.length_replicate]; omega) | (simp <;> omega))) rfl ?_
    refine J.op (Yd.mul_u64 (n := 8) rfl rfl) rfl ?_
    have hz_w14 : w.heap.size ≤ w14.heap.size := e0.size
    have le_w14 : w14.heap.size ≤ w14.heap.size := Nat.le_refl _
    have lt_b3_1_w14 : b3_1 < w14.heap.size := Cel.lt c3_1
    have lt_b4_4_w14 : b4_4 < w14.heap.size := Cel.lt c4_4
    refine J.eff (Ye.call cl21 rfl (RBig_ok (n := 8) (by omega))) rfl ?_
    rintro s41_15 w15 ⟨o41_15, x1⟩
    have e0 := e0.trans x1
    have c3_1 := c3_1.ext x1
    have c4_4 := c4_4.ext x1
    have o36_14 := o36_14.ext x1
    have le_w6 := Nat.le_trans le_w6 x1.size
    have le_w14 := Nat.le_trans le_w14 x1.size
    clear x1
    have ne_s41_15_b3_1 := Ow.neBase o41_15 lt_b3_1_w14
    have ne_s41_15_b4_4 := Ow.neBase o41_15 lt_b4_4_w14
    have hs_w15 : w6.heap.size ≤ w15.heap.size := le_w6
    refine J.eff (Ye.appendM Try.underlying25 ti5 rfl rfl rfl rfl o36_14 (Ow.rd o41_15) (fun _ => rfl) (by simp [beN_len]; omega) hs_w15) rfl ?_
    rintro s42_16 w16 ⟨o42_16, hg⟩
    have e0 := e0.grown o36_14 hz_w6 hg
    have le_w6 := Nat.le_trans le_w6 hg.size
    have le_w14 := Nat.le_trans le_w14 hg.size
    have c3_1 := Cel.grown c3_1 hg ne_s36_14_b3_1
    have c4_4 := Cel.grown c4_4 hg ne_s36_14_b4_4
    clear hg
    have ne_s42_16_b3_1 := Ow.neBase o42_16 lt_b3_1_w6
    have ne_s42_16_b4_4 := Ow.neBase o42_16 lt_b4_4_w6
    refine J.op (Yd.assign rfl) rfl ?_
    refine J.nil ?_
    refine J.n_then ?_
    refine J.seq ?_
    refine J.seq ?_
    refine J.region ?_
    refine J.op (Yd.assign rfl) rfl ?_
    refine J.nil ?_
    refine J.n_then ?_
    refine J.block ?_
    refine J.loop (ι := Nat) (fun i => [(6, I (128 * (i : Int))), (3, .pointer (some ⟨b3_1, 0, none⟩)), (4, .pointer (some ⟨b4_4, 0, none⟩)), (5, s42_16)]) (fun i w' => 128 * i ≤ (pad128L l (UInt64.ofNat l.length)).length ∧ Cel w' b3_1 45 [(0, 80, (roundsL).map fun x => W64 x)] ∧ Cel w' b4_4 47 [(0, 8, (blk512 startL (pad128L l (UInt64.ofNat l.length)) i).map fun x => W64 x)] ∧ Ob w6.heap.size 5 w' s42_16 (pad128L l (UInt64.ofNat l.length)) ∧ w6.heap.size ≤ w'.heap.size ∧ Ext w w') (fun i => (pad128L l (UInt64.ofNat l.length)).length - 128 * i) (0) ⟨(someI (by simp)), rfl, rfl, rfl, trivial⟩ (⟨Nat.zero_le _, c3_1, Cel.cong c4_4 (by rfl), by rw [← rpad128_law l (UInt64.ofNat l.length) (k := k) (by omega)]; exact o42_16, le_w6, e0⟩) ?_
    rintro k w17 ⟨hk, c3_1, c4_4, o42_16, le_w6, e0⟩
    have hHk := blk512_len startL (pad128L l (UInt64.ofNat l.length)) rfl k
    have ne_s42_16_b3_1 := Ow.neBase o42_16 lt_b3_1_w6
    have ne_s42_16_b4_4 := Ow.neBase o42_16 lt_b4_4_w6
    refine J.seq ?_
    refine J.seq ?_
    refine J.region ?_
    refine J.op (Yd.move rfl) rfl ?_
    refine J.op (Yd.move rfl) rfl ?_
    refine J.op (Yd.len_b Try.underlying25 rfl (Ow.rd o42_16)) rfl ?_
    refine J.op (Yd.lss rfl rfl) rfl ?_
    refine J.nil ?_
    refine J.n_then ?_
    refine J.cond_dec rfl (fun hc1 => ?_) (fun hc1 => ?_)
    · skip
      refine J.skip ?_
      refine J.n_then ?_
      refine J.seq ?_
      refine J.block ?_
      refine J.seq ?_
      refine J.region ?_
      refine J.eff (Ye.alloc ti45 (S := [(0, 80, (List.replicate 80 0).map (fun x : UInt64 => W64 x))]) (by simp [SegAll, SegOK, Value.cells])) rfl ?_
      rintro _ w18 ⟨b7_17, rfl, hb_, c7_17, x1⟩
      have hz_b7_17 := Nat.le_trans e0.size hb_
      have lt_b3_1_b7_17 : b3_1 < b7_17 := Nat.lt_of_lt_of_le (Cel.lt c3_1) hb_
      have lt_b4_4_b7_17 : b4_4 < b7_17 := Nat.lt_of_lt_of_le (Cel.lt c4_4) hb_
      have ne_s42_16_b7_17 := Ow.neLt o42_16 hb_
      have e0 := e0.trans x1
      have c3_1 := c3_1.ext x1
      have c4_4 := c4_4.ext x1
      have o42_16 := o42_16.ext x1
      have le_w6 := Nat.le_trans le_w6 x1.size
      clear x1 hb_
      refine J.nil ?_
      refine J.n_then ?_
      refine J.seq ?_
      refine J.seq ?_
      refine J.region ?_
      refine J.op (Yd.assign rfl) rfl ?_
      refine J.nil ?_
      refine J.n_then ?_
      refine J.block ?_
      refine J.loop (ι := Nat) (fun i => [(6, I (128 * (k : Int))), (8, I i), (3, .pointer (some ⟨b3_1, 0, none⟩)), (4, .pointer (some ⟨b4_4, 0, none⟩)), (7, .pointer (some ⟨b7_17, 0, none⟩)), (5, s42_16)]) (fun i w' => i ≤ 16 ∧ Cel w' b3_1 45 [(0, 80, (roundsL).map fun x => W64 x)] ∧ Cel w' b4_4 47 [(0, 8, ((blk512 startL (pad128L l (UInt64.ofNat l.length)) k)).map fun x => W64 x)] ∧ Cel w' b7_17 45 [(0, 80, (arr512 ((pad128L l (UInt64.ofNat l.length)).drop (128 * k)) i).map fun x => W64 x)] ∧ Ob w6.heap.size 5 w' s42_16 (pad128L l (UInt64.ofNat l.length)) ∧ w6.heap.size ≤ w'.heap.size ∧ Ext w w') (fun i => 16 - i) (0) ⟨rfl, rfl, rfl, rfl, rfl, rfl, trivial⟩ (⟨by omega, c3_1, c4_4, Cel.cong c7_17 (by simp [arr512, sched512]), o42_16, le_w6, e0⟩) ?_
      rintro j w19 ⟨hj, c3_1, c4_4, c7_17, o42_16, le_w6, e0⟩
      have hal := arr512_len ((pad128L l (UInt64.ofNat l.length)).drop (128 * k)) j (by omega)
      have ne_s42_16_b3_1 := Ow.neBase o42_16 lt_b3_1_w6
      have ne_s42_16_b4_4 := Ow.neBase o42_16 lt_b4_4_w6
      refine J.seq ?_
      refine J.seq ?_
      refine J.region ?_
      refine J.op (Yd.move rfl) rfl ?_
      refine J.op (Yd.lss rfl rfl) rfl ?_
      refine J.nil ?_
      refine J.n_then ?_
      refine J.cond_dec rfl (fun hc2 => ?_) (fun hc2 => ?_)
      · skip
        refine J.skip ?_
        refine J.n_then ?_
        refine J.seq ?_
        refine J.block ?_
        refine J.region ?_
        refine J.op (Yd.move rfl) rfl ?_
        refine J.op (Yd.move rfl) rfl ?_
        refine J.op (Yd.move rfl) rfl ?_
        refine J.op (Yd.move rfl) rfl ?_
        refine J.op (Yd.mul rfl rfl (by first | omega | (simp only [Int.toNat_natCast]; omega) | (simp only [List.length_map, List.length_drop, List.length_take, List.length_append, List.length_replicate]; omega) | (simp <;> omega))) rfl ?_
        refine J.op (Yd.add rfl rfl (by first | omega | (simp only [Int.toNat_natCast]; omega) | (simp only [List.length_map, List.length_drop, List.length_take, List.length_append, List.length_replicate]; omega) | (simp <;> omega))) rfl ?_
        refine J.op (Yd.move rfl) rfl ?_
        refine J.op (Yd.move rfl) rfl ?_
        refine J.op (Yd.mul rfl rfl (by first | omega | (simp only [Int.toNat_natCast]; omega) | (simp only [List.length_map, List.length_drop, List.length_take, List.length_append, List.length_replicate]; omega) | (simp <;> omega))) rfl ?_
        refine J.op (Yd.add rfl rfl (by first | omega | (simp only [Int.toNat_natCast]; omega) | (simp only [List.length_map, List.length_drop, List.length_take, List.length_append, List.length_replicate]; omega) | (simp <;> omega))) rfl ?_
        refine J.op (Yd.add rfl rfl (by first | omega | (simp only [Int.toNat_natCast]; omega) | (simp only [List.length_map, List.length_drop, List.length_take, List.length_append, List.length_replicate]; omega) | (simp <;> omega))) rfl ?_
        refine J.op (Yd.slcLH Try.underlying25 ti5 rfl (Ow.rd o42_16) rfl rfl (by first | omega | (simp only [Int.toNat_natCast]; omega) | (simp only [List.length_map, List.length_drop, List.length_take, List.length_append, List.length_replicate]; omega) | (simp <;> omega))) rfl ?_
        refine J.eff (Ye.call cl22 rfl (RGetBig_ok (n := 8) (Bs.slc (Ow.rd o42_16) (by first | omega | (simp only [Int.toNat_natCast]; omega) | (simp only [List.length_map, List.length_drop, List.length_take, List.length_append, List.length_replicate]; omega) | (simp <;> omega)) (by first | omega | (simp only [Int.toNat_natCast]; omega) | (simp only [List.length_map, List.length_drop, List.length_take, List.length_append, List.length_replicate]; omega) | (simp <;> omega))) (by omega))) rfl ?_
        rintro _ w20 ⟨rfl, x1⟩
        have e0 := e0.trans x1
        have c3_1 := c3_1.ext x1
        have c4_4 := c4_4.ext x1
        have c7_17 := c7_17.ext x1
        have o42_16 := o42_16.ext x1
        have le_w6 := Nat.le_trans le_w6 x1.size
        clear x1
        refine J.op (Yd.idxA Try.underlying45 ti35 rfl rfl (by first | omega | (simp only [Int.toNat_natCast]; omega) | (simp only [List.length_map, List.length_drop, List.length_take, List.length_append, List.length_replicate]; omega) | (simp <;> omega))) rfl ?_
        refine J.eff0 (Ye.storeM ti35 c7_17 0 rfl rfl rfl rfl (by first | omega | (simp only [Int.toNat_natCast]; omega) | (simp only [List.length_map, List.length_drop, List.length_take, List.length_append, List.length_replicate]; omega) | (simp <;> omega)) (fun _ => rfl) (fun _ => rfl)) ?_
        rintro _ w21 ⟨cX, hu⟩
        simp only [List.set_cons_zero, List.set_cons_succ] at cX
        have e0 := e0.upd hz_b7_17 hu
        have le_w6 := Nat.le_trans le_w6 (Nat.le_of_eq hu.size.symm)
        have c3_1 := Cel.upd c3_1 hu (by omega)
        have c4_4 := Cel.upd c4_4 hu (by omega)
        have o42_16 := Ow.upd o42_16 hu ne_s42_16_b7_17
        replace c7_17 := cX
        clear cX hu
        refine J.nil ?_
        refine J.n_block ?_
        refine J.n_then ?_
        refine J.region ?_
        refine J.op (Yd.move rfl) rfl ?_
        refine J.op (Yd.add rfl rfl (by first | omega | (simp only [Int.toNat_natCast]; omega) | (simp only [List.length_map, List.length_drop, List.length_take, List.length_append, List.length_replicate]; omega) | (simp <;> omega))) rfl ?_
        refine J.op (Yd.assign rfl) rfl ?_
        refine J.nil ?_
        refine J.n_then ?_
        exact J.round (j + 1) ⟨rfl, rfl, rfl, rfl, rfl, rfl, trivial⟩ (⟨by omega, c3_1, c4_4, Cel.cong c7_17 (by rw [Int.toNat_natCast, ← arr512_set ((pad128L l (UInt64.ofNat l.length)).drop (128 * k)) j (by omega), next512_lo ((pad128L l (UInt64.ofNat l.length)).drop (128 * k)) _ j (by omega), show (128 * (k : Int) + 8 * (j : Int) + 8).toNat = 128 * k + 8 * j + 8 by omega, show (128 * (k : Int) + 8 * (j : Int)).toNat = 128 * k + 8 * j by omega, get64_cut, ← List.drop_drop]), o42_16, le_w6, e0⟩) (by omega)
      · skip
        refine J.exit ?_
        refine J.x_then ?_
        refine J.x_then ?_
        refine J.x_block ?_
        refine J.n_then ?_
        refine J.seq ?_
        refine J.seq ?_
        refine J.region ?_
        refine J.op (Yd.assign rfl) rfl ?_
        refine J.nil ?_
        refine J.n_then ?_
        refine J.block ?_
        refine J.loop (ι := Nat) (fun i => [(6, I (128 * (k : Int))), (9, I i), (3, .pointer (some ⟨b3_1, 0, none⟩)), (4, .pointer (some ⟨b4_4, 0, none⟩)), (7, .pointer (some ⟨b7_17, 0, none⟩)), (5, s42_16)]) (fun i w' => (16 ≤ i ∧ i ≤ 80) ∧ Cel w' b3_1 45 [(0, 80, (roundsL).map fun x => W64 x)] ∧ Cel w' b4_4 47 [(0, 8, ((blk512 startL (pad128L l (UInt64.ofNat l.length)) k)).map fun x => W64 x)] ∧ Cel w' b7_17 45 [(0, 80, (arr512 ((pad128L l (UInt64.ofNat l.length)).drop (128 * k)) i).map fun x => W64 x)] ∧ Ob w6.heap.size 5 w' s42_16 (pad128L l (UInt64.ofNat l.length)) ∧ w6.heap.size ≤ w'.heap.size ∧ Ext w w') (fun i => 80 - i) (16) ⟨rfl, rfl, rfl, rfl, rfl, rfl, trivial⟩ (⟨by omega, c3_1, c4_4, Cel.cong c7_17 (by rw [show j = 16 by omega]), o42_16, le_w6, e0⟩) ?_
        rintro i w22 ⟨hi16, c3_1, c4_4, c7_17, o42_16, le_w6, e0⟩
        have hal := arr512_len ((pad128L l (UInt64.ofNat l.length)).drop (128 * k)) i (by omega)
        have ne_s42_16_b3_1 := Ow.neBase o42_16 lt_b3_1_w6
        have ne_s42_16_b4_4 := Ow.neBase o42_16 lt_b4_4_w6
        refine J.seq ?_
        refine J.seq ?_
        refine J.region ?_
        refine J.op (Yd.move rfl) rfl ?_
        refine J.op (Yd.lss rfl rfl) rfl ?_
        refine J.nil ?_
        refine J.n_then ?_
        refine J.cond_dec rfl (fun hc3 => ?_) (fun hc3 => ?_)
        · skip
          refine J.skip ?_
          refine J.n_then ?_
          refine J.seq ?_
          refine J.block ?_
          refine J.seq ?_
          refine J.regionO [(0, true), (1, true), (5, true), (6, true), (11, true), (12, true)] [(2, 1), (3, 1), (7, 1), (8, 1), (13, 1), (14, 1), (15, 1), (4, 0), (9, 0), (10, 1)] [(16, true), (17, true)] mix (by kernel_rfl) ?_
          refine J.s_op rfl (fun _ => Yd.move rfl) rfl ?_
          refine J.s_op rfl (fun _ => Yd.sub rfl rfl (by first | omega | (simp only [Int.toNat_natCast]; omega) | (simp only [List.length_map, List.length_drop, List.length_take, List.length_append, List.length_replicate]; omega) | (simp <;> omega))) rfl ?_
          refine J.s_op rfl (fun _ => Yd.move rfl) rfl ?_
          refine J.s_op rfl (fun _ => Yd.sub rfl rfl (by first | omega | (simp only [Int.toNat_natCast]; omega) | (simp only [List.length_map, List.length_drop, List.length_take, List.length_append, List.length_replicate]; omega) | (simp <;> omega))) rfl ?_
          refine J.s_op rfl (fun _ => Yd.move rfl) rfl ?_
          refine J.s_op rfl (fun _ => Yd.sub rfl rfl (by first | omega | (simp only [Int.toNat_natCast]; omega) | (simp only [List.length_map, List.length_drop, List.length_take, List.length_append, List.length_replicate]; omega) | (simp <;> omega))) rfl ?_
          refine J.s_nil ?_
          refine J.o_op rfl (Yd.idxA Try.underlying45 ti35 rfl rfl (by first | omega | (simp only [Int.toNat_natCast]; omega) | (simp only [List.length_map, List.length_drop, List.length_take, List.length_append, List.length_replicate]; omega) | (simp <;> omega))) rfl ?_
          refine J.o_op rfl (Yd.load pl35 rfl (Cel.cellM c7_17 0 rfl 0 (by have hl_ := Cel.lenM c7_17 0 rfl; first | omega | (simp only [Int.toNat_natCast]; omega) | (simp at hl_ ⊢ <;> omega)))) rfl ?_
          refine J.o_op rfl (Yd.idxA Try.underlying45 ti35 rfl rfl (by first | omega | (simp only [Int.toNat_natCast]; omega) | (simp only [List.length_map, List.length_drop, List.length_take, List.length_append, List.length_replicate]; omega) | (simp <;> omega))) rfl ?_
          refine J.o_op rfl (Yd.load pl35 rfl (Cel.cellM c7_17 0 rfl 0 (by have hl_ := Cel.lenM c7_17 0 rfl; first | omega | (simp only [Int.toNat_natCast]; omega) | (simp at hl_ ⊢ <;> omega)))) rfl ?_
          refine J.o_op rfl (Yd.idxA Try.underlying45 ti35 rfl rfl (by first | omega | (simp only [Int.toNat_natCast]; omega) | (simp only [List.length_map, List.length_drop, List.length_take, List.length_append, List.length_replicate]; omega) | (simp <;> omega))) rfl ?_
          refine J.o_op rfl (Yd.load pl35 rfl (Cel.cellM c7_17 0 rfl 0 (by have hl_ := Cel.lenM c7_17 0 rfl; first | omega | (simp only [Int.toNat_natCast]; omega) | (simp at hl_ ⊢ <;> omega)))) rfl ?_
          refine J.o_op rfl (Yd.shr_u64 rfl rfl (by first | omega | (simp only [Int.toNat_natCast]; omega) | (simp only [List.length_map, List.length_drop, List.length_take, List.length_append, List.length_replicate]; omega) | (simp <;> omega))) rfl ?_
          refine J.o_eff rfl (Ye.call cl29 rfl (Rot64_ok (m := 1) (by omega))) rfl (fun _ _ h => h.2) ?_
          rintro _ w23 ⟨rfl, x1⟩
          have e0 := e0.trans x1
          have c3_1 := c3_1.ext x1
          have c4_4 := c4_4.ext x1
          have c7_17 := c7_17.ext x1
          have o42_16 := o42_16.ext x1
          have le_w6 := Nat.le_trans le_w6 x1.size
          clear x1
          refine J.o_eff rfl (Ye.call cl29 rfl (Rot64_ok (m := 8) (by omega))) rfl (fun _ _ h => h.2) ?_
          rintro _ w24 ⟨rfl, x1⟩
          have e0 := e0.trans x1
          have c3_1 := c3_1.ext x1
          have c4_4 := c4_4.ext x1
          have c7_17 := c7_17.ext x1
          have o42_16 := o42_16.ext x1
          have le_w6 := Nat.le_trans le_w6 x1.size
          clear x1
          refine J.o_op rfl (Yd.xor_u64 rfl rfl) rfl ?_
          refine J.o_nil ?_
          refine J.s_op rfl (fun _ => Yd.xor_u64 rfl rfl) rfl ?_
          refine J.s_op rfl (fun _ => Yd.assign rfl) rfl ?_
          refine J.s_nil ?_
          refine J.n_np ?_
          refine J.n_then ?_
          refine J.seq ?_
          refine J.regionO [(0, true), (1, true), (5, true), (6, true), (11, true), (12, true)] [(2, 1), (3, 1), (7, 1), (8, 1), (13, 1), (14, 1), (15, 1), (4, 0), (9, 0), (10, 1)] [(16, true), (17, true)] mix (by kernel_rfl) ?_
          refine J.s_op rfl (fun _ => Yd.move rfl) rfl ?_
          refine J.s_op rfl (fun _ => Yd.sub rfl rfl (by first | omega | (simp only [Int.toNat_natCast]; omega) | (simp only [List.length_map, List.length_drop, List.length_take, List.length_append, List.length_replicate]; omega) | (simp <;> omega))) rfl ?_
          refine J.s_op rfl (fun _ => Yd.move rfl) rfl ?_
          refine J.s_op rfl (fun _ => Yd.sub rfl rfl (by first | omega | (simp only [Int.toNat_natCast]; omega) | (simp only [List.length_map, List.length_drop, List.length_take, List.length_append, List.length_replicate]; omega) | (simp <;> omega))) rfl ?_
          refine J.s_op rfl (fun _ => Yd.move rfl) rfl ?_
          refine J.s_op rfl (fun _ => Yd.sub rfl rfl (by first | omega | (simp only [Int.toNat_natCast]; omega) | (simp only [List.length_map, List.length_drop, List.length_take, List.length_append, List.length_replicate]; omega) | (simp <;> omega))) rfl ?_
          refine J.s_nil ?_
          refine J.o_op rfl (Yd.idxA Try.underlying45 ti35 rfl rfl (by first | omega | (simp only [Int.toNat_natCast]; omega) | (simp only [List.length_map, List.length_drop, List.length_take, List.length_append, List.length_replicate]; omega) | (simp <;> omega))) rfl ?_
          refine J.o_op rfl (Yd.load pl35 rfl (Cel.cellM c7_17 0 rfl 0 (by have hl_ := Cel.lenM c7_17 0 rfl; first | omega | (simp only [Int.toNat_natCast]; omega) | (simp at hl_ ⊢ <;> omega)))) rfl ?_
          refine J.o_op rfl (Yd.idxA Try.underlying45 ti35 rfl rfl (by first | omega | (simp only [Int.toNat_natCast]; omega) | (simp only [List.length_map, List.length_drop, List.length_take, List.length_append, List.length_replicate]; omega) | (simp <;> omega))) rfl ?_
          refine J.o_op rfl (Yd.load pl35 rfl (Cel.cellM c7_17 0 rfl 0 (by have hl_ := Cel.lenM c7_17 0 rfl; first | omega | (simp only [Int.toNat_natCast]; omega) | (simp at hl_ ⊢ <;> omega)))) rfl ?_
          refine J.o_op rfl (Yd.idxA Try.underlying45 ti35 rfl rfl (by first | omega | (simp only [Int.toNat_natCast]; omega) | (simp only [List.length_map, List.length_drop, List.length_take, List.length_append, List.length_replicate]; omega) | (simp <;> omega))) rfl ?_
          refine J.o_op rfl (Yd.load pl35 rfl (Cel.cellM c7_17 0 rfl 0 (by have hl_ := Cel.lenM c7_17 0 rfl; first | omega | (simp only [Int.toNat_natCast]; omega) | (simp at hl_ ⊢ <;> omega)))) rfl ?_
          refine J.o_op rfl (Yd.shr_u64 rfl rfl (by first | omega | (simp only [Int.toNat_natCast]; omega) | (simp only [List.length_map, List.length_drop, List.length_take, List.length_append, List.length_replicate]; omega) | (simp <;> omega))) rfl ?_
          refine J.o_eff rfl (Ye.call cl29 rfl (Rot64_ok (m := 19) (by omega))) rfl (fun _ _ h => h.2) ?_
          rintro _ w25 ⟨rfl, x1⟩
          have e0 := e0.trans x1
          have c3_1 := c3_1.ext x1
          have c4_4 := c4_4.ext x1
          have c7_17 := c7_17.ext x1
          have o42_16 := o42_16.ext x1
          have le_w6 := Nat.le_trans le_w6 x1.size
          clear x1
          refine J.o_eff rfl (Ye.call cl29 rfl (Rot64_ok (m := 61) (by omega))) rfl (fun _ _ h => h.2) ?_
          rintro _ w26 ⟨rfl, x1⟩
          have e0 := e0.trans x1
          have c3_1 := c3_1.ext x1
          have c4_4 := c4_4.ext x1
          have c7_17 := c7_17.ext x1
          have o42_16 := o42_16.ext x1
          have le_w6 := Nat.le_trans le_w6 x1.size
          clear x1
          refine J.o_op rfl (Yd.xor_u64 rfl rfl) rfl ?_
          refine J.o_nil ?_
          refine J.s_op rfl (fun _ => Yd.xor_u64 rfl rfl) rfl ?_
          refine J.s_op rfl (fun _ => Yd.assign rfl) rfl ?_
          refine J.s_nil ?_
          refine J.n_np ?_
          refine J.n_then ?_
          refine J.regionO [(0, true), (1, true), (2, true), (5, true), (7, true), (8, true), (12, true)] [(3, 1), (4, 1), (9, 1), (10, 1), (6, 1)] [(11, true), (13, true), (14, false), (15, false)] mix (by kernel_rfl) ?_
          refine J.s_op rfl (fun _ => Yd.move rfl) rfl ?_
          refine J.s_op rfl (fun _ => Yd.move rfl) rfl ?_
          refine J.s_op rfl (fun _ => Yd.sub rfl rfl (by first | omega | (simp only [Int.toNat_natCast]; omega) | (simp only [List.length_map, List.length_drop, List.length_take, List.length_append, List.length_replicate]; omega) | (simp <;> omega))) rfl ?_
          refine J.s_op rfl (fun _ => Yd.move rfl) rfl ?_
          refine J.s_op rfl (fun _ => Yd.move rfl) rfl ?_
          refine J.s_op rfl (fun _ => Yd.sub rfl rfl (by first | omega | (simp only [Int.toNat_natCast]; omega) | (simp only [List.length_map, List.length_drop, List.length_take, List.length_append, List.length_replicate]; omega) | (simp <;> omega))) rfl ?_
          refine J.s_op rfl (fun _ => Yd.move rfl) rfl ?_
          refine J.s_nil ?_
          refine J.o_op rfl (Yd.idxA Try.underlying45 ti35 rfl rfl (by first | omega | (simp only [Int.toNat_natCast]; omega) | (simp only [List.length_map, List.length_drop, List.length_take, List.length_append, List.length_replicate]; omega) | (simp <;> omega))) rfl ?_
          refine J.o_op rfl (Yd.load pl35 rfl (Cel.cellM c7_17 0 rfl 0 (by have hl_ := Cel.lenM c7_17 0 rfl; first | omega | (simp only [Int.toNat_natCast]; omega) | (simp at hl_ ⊢ <;> omega)))) rfl ?_
          refine J.o_op rfl (Yd.idxA Try.underlying45 ti35 rfl rfl (by first | omega | (simp only [Int.toNat_natCast]; omega) | (simp only [List.length_map, List.length_drop, List.length_take, List.length_append, List.length_replicate]; omega) | (simp <;> omega))) rfl ?_
          refine J.o_op rfl (Yd.load pl35 rfl (Cel.cellM c7_17 0 rfl 0 (by have hl_ := Cel.lenM c7_17 0 rfl; first | omega | (simp only [Int.toNat_natCast]; omega) | (simp at hl_ ⊢ <;> omega)))) rfl ?_
          refine J.o_op rfl (Yd.add_u64 rfl rfl) rfl ?_
          refine J.o_nil ?_
          refine J.s_op rfl (fun _ => Yd.add_u64 rfl rfl) rfl ?_
          refine J.s_op rfl (fun _ => Yd.add_u64 rfl rfl) rfl ?_
          refine J.s_one rfl (Yd.idxA Try.underlying45 ti35 rfl rfl (by first | omega | (simp only [Int.toNat_natCast]; omega) | (simp only [List.length_map, List.length_drop, List.length_take, List.length_append, List.length_replicate]; omega) | (simp <;> omega))) rfl ?_
          refine J.s_eff0 rfl (Ye.storeM ti35 c7_17 0 rfl rfl rfl rfl (by first | omega | (simp only [Int.toNat_natCast]; omega) | (simp only [List.length_map, List.length_drop, List.length_take, List.length_append, List.length_replicate]; omega) | (simp <;> omega)) (fun _ => rfl) (fun _ => rfl)) ?_
          rintro _ w27 ⟨cX, hu⟩
          simp only [List.set_cons_zero, List.set_cons_succ] at cX
          have e0 := e0.upd hz_b7_17 hu
          have le_w6 := Nat.le_trans le_w6 (Nat.le_of_eq hu.size.symm)
          have c3_1 := Cel.upd c3_1 hu (by omega)
          have c4_4 := Cel.upd c4_4 hu (by omega)
          have o42_16 := Ow.upd o42_16 hu ne_s42_16_b7_17
          replace c7_17 := cX
          clear cX hu
          refine J.s_nil ?_
          refine J.n_np ?_
          refine J.n_block ?_
          refine J.n_then ?_
          refine J.region ?_
          refine J.op (Yd.move rfl) rfl ?_
          refine J.op (Yd.add rfl rfl (by first | omega | (simp only [Int.toNat_natCast]; omega) | (simp only [List.length_map, List.length_drop, List.length_take, List.length_append, List.length_replicate]; omega) | (simp <;> omega))) rfl ?_
          refine J.op (Yd.assign rfl) rfl ?_
          refine J.nil ?_
          refine J.n_then ?_
          exact J.round (i + 1) ⟨rfl, rfl, rfl, rfl, rfl, rfl, trivial⟩ (⟨by omega, c3_1, c4_4, Cel.cong c7_17 (by rw [Int.toNat_natCast, ← arr512_set ((pad128L l (UInt64.ofNat l.length)).drop (128 * k)) i (by omega), ← next512_hi ((pad128L l (UInt64.ofNat l.length)).drop (128 * k)) i (by omega) (by omega)]; simp only [show ((i : Int) - 15).toNat = i - 15 by omega, show ((i : Int) - 2).toNat = i - 2 by omega, show ((i : Int) - 16).toNat = i - 16 by omega, show ((i : Int) - 7).toNat = i - 7 by omega]; rfl), o42_16, le_w6, e0⟩) (by omega)
        · skip
          refine J.exit ?_
          refine J.x_then ?_
          refine J.x_then ?_
          refine J.x_block ?_
          refine J.n_then ?_
          refine J.seq ?_
          refine J.region ?_
          refine J.op (Yd.loadA ag47 ti47 rfl c4_4 0 rfl) rfl ?_
          refine J.eff (Ye.alloc ti47 (S := [(0, 8, (List.replicate 8 0).map (fun x : UInt64 => W64 x))]) (by simp [SegAll, SegOK, Value.cells])) rfl ?_
          rintro _ w28 ⟨b12_27, rfl, hb_, c12_27, x1⟩
          have hz_b12_27 := Nat.le_trans e0.size hb_
          have lt_b3_1_b12_27 : b3_1 < b12_27 := Nat.lt_of_lt_of_le (Cel.lt c3_1) hb_
          have lt_b4_4_b12_27 : b4_4 < b12_27 := Nat.lt_of_lt_of_le (Cel.lt c4_4) hb_
          have lt_b7_17_b12_27 : b7_17 < b12_27 := Nat.lt_of_lt_of_le (Cel.lt c7_17) hb_
          have ne_s42_16_b12_27 := Ow.neLt o42_16 hb_
          have e0 := e0.trans x1
          have c3_1 := c3_1.ext x1
          have c4_4 := c4_4.ext x1
          have c7_17 := c7_17.ext x1
          have o42_16 := o42_16.ext x1
          have le_w6 := Nat.le_trans le_w6 x1.size
          clear x1 hb_
          refine J.eff0 (Ye.storeA (ys := List.map (fun x : UInt64 => W64 x) _) ti47 c12_27 0 rfl rfl rfl rfl (by first | (rw [List.length_map]; omega) | (simp; done) | rfl | (simp <;> omega)) (one_M _ (fun _ => rfl))) ?_
          rintro _ w29 ⟨cX, hu⟩
          simp only [List.set_cons_zero, List.set_cons_succ] at cX
          have e0 := e0.upd hz_b12_27 hu
          have le_w6 := Nat.le_trans le_w6 (Nat.le_of_eq hu.size.symm)
          have c3_1 := Cel.upd c3_1 hu (by omega)
          have c4_4 := Cel.upd c4_4 hu (by omega)
          have c7_17 := Cel.upd c7_17 hu (by omega)
          have o42_16 := Ow.upd o42_16 hu ne_s42_16_b12_27
          replace c12_27 := cX
          clear cX hu
          refine J.nil ?_
          refine J.n_then ?_
          refine J.seq ?_
          refine J.seq ?_
          refine J.region ?_
          refine J.op (Yd.assign rfl) rfl ?_
          refine J.nil ?_
          refine J.n_then ?_
          refine J.block ?_
          refine J.loop (ι := Nat) (fun i => [(6, I (128 * (k : Int))), (13, I i), (3, .pointer (some ⟨b3_1, 0, none⟩)), (4, .pointer (some ⟨b4_4, 0, none⟩)), (7, .pointer (some ⟨b7_17, 0, none⟩)), (12, .pointer (some ⟨b12_27, 0, none⟩)), (5, s42_16)]) (fun i w' => i ≤ 80 ∧ Cel w' b3_1 45 [(0, 80, (roundsL).map fun x => W64 x)] ∧ Cel w' b4_4 47 [(0, 8, ((blk512 startL (pad128L l (UInt64.ofNat l.length)) k)).map fun x => W64 x)] ∧ Cel w' b7_17 45 [(0, 80, (arr512 ((pad128L l (UInt64.ofNat l.length)).drop (128 * k)) 80).map fun x => W64 x)] ∧ Cel w' b12_27 47 [(0, 8, ((rnd512 (blk512 startL (pad128L l (UInt64.ofNat l.length)) k) (sched512 ((pad128L l (UInt64.ofNat l.length)).drop (128 * k)) 80) i)).map fun x => W64 x)] ∧ Ob w6.heap.size 5 w' s42_16 (pad128L l (UInt64.ofNat l.length)) ∧ w6.heap.size ≤ w'.heap.size ∧ Ext w w') (fun i => 80 - i) (0) ⟨rfl, rfl, rfl, rfl, rfl, rfl, rfl, trivial⟩ (⟨by omega, c3_1, c4_4, Cel.cong c7_17 (by rw [show i = 80 by omega]), Cel.cong c12_27 (by rfl), o42_16, le_w6, e0⟩) ?_
          rintro t w30 ⟨ht, c3_1, c4_4, c7_17, c12_27, o42_16, le_w6, e0⟩
          have hal := arr512_len ((pad128L l (UInt64.ofNat l.length)).drop (128 * k)) 80 (by omega)
          have hrl := rnd512_len (blk512 startL (pad128L l (UInt64.ofNat l.length)) k) (sched512 ((pad128L l (UInt64.ofNat l.length)).drop (128 * k)) 80) hHk t
          have hkl : roundsL.length = 80 := rfl
          have ne_s42_16_b3_1 := Ow.neBase o42_16 lt_b3_1_w6
          have ne_s42_16_b4_4 := Ow.neBase o42_16 lt_b4_4_w6
          refine J.seq ?_
          refine J.seq ?_
          refine J.region ?_
          refine J.op (Yd.move rfl) rfl ?_
          refine J.op (Yd.lss rfl rfl) rfl ?_
          refine J.nil ?_
          refine J.n_then ?_
          refine J.cond_dec rfl (fun hc4 => ?_) (fun hc4 => ?_)
          · skip
            refine J.skip ?_
            refine J.n_then ?_
            refine J.seq ?_
            refine J.block ?_
            refine J.seq ?_
            refine J.region ?_
            refine J.op (Yd.idxA Try.underlying47 ti35 rfl rfl (by first | omega | (simp only [Int.toNat_natCast]; omega) | (simp only [List.length_map, List.length_drop, List.length_take, List.length_append, List.length_replicate]; omega) | (simp <;> omega))) rfl ?_
            refine J.op (Yd.load pl35 rfl (Cel.cellM c12_27 0 rfl 0 (by have hl_ := Cel.lenM c12_27 0 rfl; first | omega | (simp only [Int.toNat_natCast]; omega) | (simp at hl_ ⊢ <;> omega)))) rfl ?_
            refine J.op (Yd.assign rfl) rfl ?_
            refine J.nil ?_
            refine J.n_then ?_
            refine J.seq ?_
            refine J.region ?_
            refine J.op (Yd.idxA Try.underlying47 ti35 rfl rfl (by first | omega | (simp only [Int.toNat_natCast]; omega) | (simp only [List.length_map, List.length_drop, List.length_take, List.length_append, List.length_replicate]; omega) | (simp <;> omega))) rfl ?_
            refine J.op (Yd.load pl35 rfl (Cel.cellM c12_27 0 rfl 0 (by have hl_ := Cel.lenM c12_27 0 rfl; first | omega | (simp only [Int.toNat_natCast]; omega) | (simp at hl_ ⊢ <;> omega)))) rfl ?_
            refine J.op (Yd.assign rfl) rfl ?_
            refine J.nil ?_
            refine J.n_then ?_
            refine J.seq ?_
            refine J.regionO [(2, true), (4, true), (7, true), (11, true), (15, true), (16, true), (22, true), (26, true)] [(0, 1), (1, 1), (12, 1), (13, 1), (17, 1), (18, 1), (23, 1), (24, 1), (27, 1), (28, 1), (14, 1), (19, 1), (20, 1), (3, 0), (5, 0), (6, 1), (8, 0), (9, 1), (10, 1), (21, 1), (25, 1)] [(29, true), (30, true)] mix (by kernel_rfl) ?_
            refine J.s_op rfl (fun _ => Yd.move rfl) rfl ?_
            refine J.s_op rfl (fun _ => Yd.move rfl) rfl ?_
            refine J.s_op rfl (fun _ => Yd.move rfl) rfl ?_
            refine J.s_op rfl (fun _ => Yd.move rfl) rfl ?_
            refine J.s_op rfl (fun _ => Yd.move rfl) rfl ?_
            refine J.s_op rfl (fun _ => Yd.xor1_u64 rfl) rfl ?_
            refine J.s_op rfl (fun _ => Yd.move rfl) rfl ?_
            refine J.s_op rfl (fun _ => Yd.move rfl) rfl ?_
            refine J.s_nil ?_
            refine J.o_op rfl (Yd.idxA Try.underlying47 ti35 rfl rfl (by first | omega | (simp only [Int.toNat_natCast]; omega) | (simp only [List.length_map, List.length_drop, List.length_take, List.length_append, List.length_replicate]; omega) | (simp <;> omega))) rfl ?_
            refine J.o_op rfl (Yd.load pl35 rfl (Cel.cellM c12_27 0 rfl 0 (by have hl_ := Cel.lenM c12_27 0 rfl; first | omega | (simp only [Int.toNat_natCast]; omega) | (simp at hl_ ⊢ <;> omega)))) rfl ?_
            refine J.o_op rfl (Yd.idxA Try.underlying47 ti35 rfl rfl (by first | omega | (simp only [Int.toNat_natCast]; omega) | (simp only [List.length_map, List.length_drop, List.length_take, List.length_append, List.length_replicate]; omega) | (simp <;> omega))) rfl ?_
            refine J.o_op rfl (Yd.load pl35 rfl (Cel.cellM c12_27 0 rfl 0 (by have hl_ := Cel.lenM c12_27 0 rfl; first | omega | (simp only [Int.toNat_natCast]; omega) | (simp at hl_ ⊢ <;> omega)))) rfl ?_
            refine J.o_op rfl (Yd.idxA Try.underlying47 ti35 rfl rfl (by first | omega | (simp only [Int.toNat_natCast]; omega) | (simp only [List.length_map, List.length_drop, List.length_take, List.length_append, List.length_replicate]; omega) | (simp <;> omega))) rfl ?_
            refine J.o_op rfl (Yd.load pl35 rfl (Cel.cellM c12_27 0 rfl 0 (by have hl_ := Cel.lenM c12_27 0 rfl; first | omega | (simp only [Int.toNat_natCast]; omega) | (simp at hl_ ⊢ <;> omega)))) rfl ?_
            refine J.o_op rfl (Yd.idxA Try.underlying45 ti35 rfl rfl (by first | omega | (simp only [Int.toNat_natCast]; omega) | (simp only [List.length_map, List.length_drop, List.length_take, List.length_append, List.length_replicate]; omega) | (simp <;> omega))) rfl ?_
            refine J.o_op rfl (Yd.load pl35 rfl (Cel.cellM c3_1 0 rfl 0 (by have hl_ := Cel.lenM c3_1 0 rfl; first | omega | (simp only [Int.toNat_natCast]; omega) | (simp at hl_ ⊢ <;> omega)))) rfl ?_
            refine J.o_op rfl (Yd.idxA Try.underlying45 ti35 rfl rfl (by first | omega | (simp only [Int.toNat_natCast]; omega) | (simp only [List.length_map, List.length_drop, List.length_take, List.length_append, List.length_replicate]; omega) | (simp <;> omega))) rfl ?_
            refine J.o_op rfl (Yd.load pl35 rfl (Cel.cellM c7_17 0 rfl 0 (by have hl_ := Cel.lenM c7_17 0 rfl; first | omega | (simp only [Int.toNat_natCast]; omega) | (simp at hl_ ⊢ <;> omega)))) rfl ?_
            refine J.o_op rfl (Yd.and_u64 rfl rfl) rfl ?_
            refine J.o_op rfl (Yd.and_u64 rfl rfl) rfl ?_
            refine J.o_op rfl (Yd.xor_u64 rfl rfl) rfl ?_
            refine J.o_eff rfl (Ye.call cl29 rfl (Rot64_ok (m := 14) (by omega))) rfl (fun _ _ h => h.2) ?_
            rintro _ w31 ⟨rfl, x1⟩
            have e0 := e0.trans x1
            have c3_1 := c3_1.ext x1
            have c4_4 := c4_4.ext x1
            have c7_17 := c7_17.ext x1
            have c12_27 := c12_27.ext x1
            have o42_16 := o42_16.ext x1
            have le_w6 := Nat.le_trans le_w6 x1.size
            clear x1
            refine J.o_eff rfl (Ye.call cl29 rfl (Rot64_ok (m := 18) (by omega))) rfl (fun _ _ h => h.2) ?_
            rintro _ w32 ⟨rfl, x1⟩
            have e0 := e0.trans x1
            have c3_1 := c3_1.ext x1
            have c4_4 := c4_4.ext x1
            have c7_17 := c7_17.ext x1
            have c12_27 := c12_27.ext x1
            have o42_16 := o42_16.ext x1
            have le_w6 := Nat.le_trans le_w6 x1.size
            clear x1
            refine J.o_op rfl (Yd.xor_u64 rfl rfl) rfl ?_
            refine J.o_eff rfl (Ye.call cl29 rfl (Rot64_ok (m := 41) (by omega))) rfl (fun _ _ h => h.2) ?_
            rintro _ w33 ⟨rfl, x1⟩
            have e0 := e0.trans x1
            have c3_1 := c3_1.ext x1
            have c4_4 := c4_4.ext x1
            have c7_17 := c7_17.ext x1
            have c12_27 := c12_27.ext x1
            have o42_16 := o42_16.ext x1
            have le_w6 := Nat.le_trans le_w6 x1.size
            clear x1
            refine J.o_op rfl (Yd.xor_u64 rfl rfl) rfl ?_
            refine J.o_op rfl (Yd.add_u64 rfl rfl) rfl ?_
            refine J.o_op rfl (Yd.add_u64 rfl rfl) rfl ?_
            refine J.o_op rfl (Yd.add_u64 rfl rfl) rfl ?_
            refine J.o_nil ?_
            refine J.s_op rfl (fun _ => Yd.add_u64 rfl rfl) rfl ?_
            refine J.s_op rfl (fun _ => Yd.assign rfl) rfl ?_
            refine J.s_nil ?_
            refine J.n_np ?_
            refine J.n_then ?_
            refine J.seq ?_
            refine J.regionO [(0, true), (2, true), (5, true), (8, true), (12, true)] [(9, 1), (10, 1), (13, 1), (14, 1), (17, 1), (18, 1), (19, 1), (20, 1), (11, 1), (15, 1), (16, 1), (21, 1), (22, 1), (1, 0), (3, 0), (4, 1), (6, 0), (7, 1)] [(23, true), (24, true)] mix (by kernel_rfl) ?_
            refine J.s_op rfl (fun _ => Yd.move rfl) rfl ?_
            refine J.s_op rfl (fun _ => Yd.move rfl) rfl ?_
            refine J.s_op rfl (fun _ => Yd.move rfl) rfl ?_
            refine J.s_op rfl (fun _ => Yd.move rfl) rfl ?_
            refine J.s_op rfl (fun _ => Yd.move rfl) rfl ?_
            refine J.s_nil ?_
            refine J.o_op rfl (Yd.idxA Try.underlying47 ti35 rfl rfl (by first | omega | (simp only [Int.toNat_natCast]; omega) | (simp only [List.length_map, List.length_drop, List.length_take, List.length_append, List.length_replicate]; omega) | (simp <;> omega))) rfl ?_
            refine J.o_op rfl (Yd.load pl35 rfl (Cel.cellM c12_27 0 rfl 0 (by have hl_ := Cel.lenM c12_27 0 rfl; first | omega | (simp only [Int.toNat_natCast]; omega) | (simp at hl_ ⊢ <;> omega)))) rfl ?_
            refine J.o_op rfl (Yd.idxA Try.underlying47 ti35 rfl rfl (by first | omega | (simp only [Int.toNat_natCast]; omega) | (simp only [List.length_map, List.length_drop, List.length_take, List.length_append, List.length_replicate]; omega) | (simp <;> omega))) rfl ?_
            refine J.o_op rfl (Yd.load pl35 rfl (Cel.cellM c12_27 0 rfl 0 (by have hl_ := Cel.lenM c12_27 0 rfl; first | omega | (simp only [Int.toNat_natCast]; omega) | (simp at hl_ ⊢ <;> omega)))) rfl ?_
            refine J.o_op rfl (Yd.idxA Try.underlying47 ti35 rfl rfl (by first | omega | (simp only [Int.toNat_natCast]; omega) | (simp only [List.length_map, List.length_drop, List.length_take, List.length_append, List.length_replicate]; omega) | (simp <;> omega))) rfl ?_
            refine J.o_op rfl (Yd.load pl35 rfl (Cel.cellM c12_27 0 rfl 0 (by have hl_ := Cel.lenM c12_27 0 rfl; first | omega | (simp only [Int.toNat_natCast]; omega) | (simp at hl_ ⊢ <;> omega)))) rfl ?_
            refine J.o_op rfl (Yd.idxA Try.underlying47 ti35 rfl rfl (by first | omega | (simp only [Int.toNat_natCast]; omega) | (simp only [List.length_map, List.length_drop, List.length_take, List.length_append, List.length_replicate]; omega) | (simp <;> omega))) rfl ?_
            refine J.o_op rfl (Yd.load pl35 rfl (Cel.cellM c12_27 0 rfl 0 (by have hl_ := Cel.lenM c12_27 0 rfl; first | omega | (simp only [Int.toNat_natCast]; omega) | (simp at hl_ ⊢ <;> omega)))) rfl ?_
            refine J.o_op rfl (Yd.and_u64 rfl rfl) rfl ?_
            refine J.o_op rfl (Yd.and_u64 rfl rfl) rfl ?_
            refine J.o_op rfl (Yd.xor_u64 rfl rfl) rfl ?_
            refine J.o_op rfl (Yd.and_u64 rfl rfl) rfl ?_
            refine J.o_op rfl (Yd.xor_u64 rfl rfl) rfl ?_
            refine J.o_eff rfl (Ye.call cl29 rfl (Rot64_ok (m := 28) (by omega))) rfl (fun _ _ h => h.2) ?_
            rintro _ w34 ⟨rfl, x1⟩
            have e0 := e0.trans x1
            have c3_1 := c3_1.ext x1
            have c4_4 := c4_4.ext x1
            have c7_17 := c7_17.ext x1
            have c12_27 := c12_27.ext x1
            have o42_16 := o42_16.ext x1
            have le_w6 := Nat.le_trans le_w6 x1.size
            clear x1
            refine J.o_eff rfl (Ye.call cl29 rfl (Rot64_ok (m := 34) (by omega))) rfl (fun _ _ h => h.2) ?_
            rintro _ w35 ⟨rfl, x1⟩
            have e0 := e0.trans x1
            have c3_1 := c3_1.ext x1
            have c4_4 := c4_4.ext x1
            have c7_17 := c7_17.ext x1
            have c12_27 := c12_27.ext x1
            have o42_16 := o42_16.ext x1
            have le_w6 := Nat.le_trans le_w6 x1.size
            clear x1
            refine J.o_op rfl (Yd.xor_u64 rfl rfl) rfl ?_
            refine J.o_eff rfl (Ye.call cl29 rfl (Rot64_ok (m := 39) (by omega))) rfl (fun _ _ h => h.2) ?_
            rintro _ w36 ⟨rfl, x1⟩
            have e0 := e0.trans x1
            have c3_1 := c3_1.ext x1
            have c4_4 := c4_4.ext x1
            have c7_17 := c7_17.ext x1
            have c12_27 := c12_27.ext x1
            have o42_16 := o42_16.ext x1
            have le_w6 := Nat.le_trans le_w6 x1.size
            clear x1
            refine J.o_op rfl (Yd.xor_u64 rfl rfl) rfl ?_
            refine J.o_nil ?_
            refine J.s_op rfl (fun _ => Yd.add_u64 rfl rfl) rfl ?_
            refine J.s_op rfl (fun _ => Yd.assign rfl) rfl ?_
            refine J.s_nil ?_
            refine J.n_np ?_
            refine J.n_then ?_
            refine J.region ?_
            refine J.op (Yd.move rfl) rfl ?_
            refine J.op (Yd.move rfl) rfl ?_
            refine J.op (Yd.add_u64 rfl rfl) rfl ?_
            refine J.op (Yd.idxA Try.underlying47 ti35 rfl rfl (by first | omega | (simp only [Int.toNat_natCast]; omega) | (simp only [List.length_map, List.length_drop, List.length_take, List.length_append, List.length_replicate]; omega) | (simp <;> omega))) rfl ?_
            refine J.op (Yd.load pl35 rfl (Cel.cellM c12_27 0 rfl 0 (by have hl_ := Cel.lenM c12_27 0 rfl; first | omega | (simp only [Int.toNat_natCast]; omega) | (simp at hl_ ⊢ <;> omega)))) rfl ?_
            refine J.op (Yd.idxA Try.underlying47 ti35 rfl rfl (by first | omega | (simp only [Int.toNat_natCast]; omega) | (simp only [List.length_map, List.length_drop, List.length_take, List.length_append, List.length_replicate]; omega) | (simp <;> omega))) rfl ?_
            refine J.op (Yd.load pl35 rfl (Cel.cellM c12_27 0 rfl 0 (by have hl_ := Cel.lenM c12_27 0 rfl; first | omega | (simp only [Int.toNat_natCast]; omega) | (simp at hl_ ⊢ <;> omega)))) rfl ?_
            refine J.op (Yd.idxA Try.underlying47 ti35 rfl rfl (by first | omega | (simp only [Int.toNat_natCast]; omega) | (simp only [List.length_map, List.length_drop, List.length_take, List.length_append, List.length_replicate]; omega) | (simp <;> omega))) rfl ?_
            refine J.op (Yd.load pl35 rfl (Cel.cellM c12_27 0 rfl 0 (by have hl_ := Cel.lenM c12_27 0 rfl; first | omega | (simp only [Int.toNat_natCast]; omega) | (simp at hl_ ⊢ <;> omega)))) rfl ?_
            refine J.op (Yd.idxA Try.underlying47 ti35 rfl rfl (by first | omega | (simp only [Int.toNat_natCast]; omega) | (simp only [List.length_map, List.length_drop, List.length_take, List.length_append, List.length_replicate]; omega) | (simp <;> omega))) rfl ?_
            refine J.op (Yd.load pl35 rfl (Cel.cellM c12_27 0 rfl 0 (by have hl_ := Cel.lenM c12_27 0 rfl; first | omega | (simp only [Int.toNat_natCast]; omega) | (simp at hl_ ⊢ <;> omega)))) rfl ?_
            refine J.op (Yd.move rfl) rfl ?_
            refine J.op (Yd.add_u64 rfl rfl) rfl ?_
            refine J.op (Yd.idxA Try.underlying47 ti35 rfl rfl (by first | omega | (simp only [Int.toNat_natCast]; omega) | (simp only [List.length_map, List.length_drop, List.length_take, List.length_append, List.length_replicate]; omega) | (simp <;> omega))) rfl ?_
            refine J.op (Yd.load pl35 rfl (Cel.cellM c12_27 0 rfl 0 (by have hl_ := Cel.lenM c12_27 0 rfl; first | omega | (simp only [Int.toNat_natCast]; omega) | (simp at hl_ ⊢ <;> omega)))) rfl ?_
            refine J.op (Yd.idxA Try.underlying47 ti35 rfl rfl (by first | omega | (simp only [Int.toNat_natCast]; omega) | (simp only [List.length_map, List.length_drop, List.length_take, List.length_append, List.length_replicate]; omega) | (simp <;> omega))) rfl ?_
            refine J.op (Yd.load pl35 rfl (Cel.cellM c12_27 0 rfl 0 (by have hl_ := Cel.lenM c12_27 0 rfl; first | omega | (simp only [Int.toNat_natCast]; omega) | (simp at hl_ ⊢ <;> omega)))) rfl ?_
            refine J.op (Yd.idxA Try.underlying47 ti35 rfl rfl (by first | omega | (simp only [Int.toNat_natCast]; omega) | (simp only [List.length_map, List.length_drop, List.length_take, List.length_append, List.length_replicate]; omega) | (simp <;> omega))) rfl ?_
            refine J.op (Yd.load pl35 rfl (Cel.cellM c12_27 0 rfl 0 (by have hl_ := Cel.lenM c12_27 0 rfl; first | omega | (simp only [Int.toNat_natCast]; omega) | (simp at hl_ ⊢ <;> omega)))) rfl ?_
            refine J.op (Yd.buildA (cells := ((step512 (rnd512 (blk512 startL (pad128L l (UInt64.ofNat l.length)) k) (sched512 ((pad128L l (UInt64.ofNat l.length)).drop (128 * k)) 80) t) (roundsL.getD t 0) ((arr512 ((pad128L l (UInt64.ofNat l.length)).drop (128 * k)) 80).getD t 0)).map fun x => W64 x).toArray) Try.underlying47 ti35 ti47 rfl (by kernel_rfl)) rfl ?_
            refine J.eff0 (Ye.storeA (ys := List.map (fun x : UInt64 => W64 x) _) ti47 c12_27 0 rfl rfl rfl rfl (by first | (rw [List.length_map]; omega) | (simp; done) | rfl | (simp <;> omega)) (one_M _ (fun _ => rfl))) ?_
            rintro _ w37 ⟨cX, hu⟩
            simp only [List.set_cons_zero, List.set_cons_succ] at cX
            have e0 := e0.upd hz_b12_27 hu
            have le_w6 := Nat.le_trans le_w6 (Nat.le_of_eq hu.size.symm)
            have c3_1 := Cel.upd c3_1 hu (by omega)
            have c4_4 := Cel.upd c4_4 hu (by omega)
            have c7_17 := Cel.upd c7_17 hu (by omega)
            have o42_16 := Ow.upd o42_16 hu ne_s42_16_b12_27
            replace c12_27 := cX
            clear cX hu
            refine J.nil ?_
            refine J.n_block ?_
            refine J.n_then ?_
            refine J.region ?_
            refine J.op (Yd.move rfl) rfl ?_
            refine J.op (Yd.add rfl rfl (by first | omega | (simp only [Int.toNat_natCast]; omega) | (simp only [List.length_map, List.length_drop, List.length_take, List.length_append, List.length_replicate]; omega) | (simp <;> omega))) rfl ?_
            refine J.op (Yd.assign rfl) rfl ?_
            refine J.nil ?_
            refine J.n_then ?_
            exact J.round (t + 1) ⟨rfl, rfl, rfl, rfl, rfl, rfl, rfl, trivial⟩ (⟨by omega, c3_1, c4_4, c7_17, Cel.cong c12_27 (by rw [arr512_get ((pad128L l (UInt64.ofNat l.length)).drop (128 * k)) 80 t (by omega)]; rfl), o42_16, le_w6, e0⟩) (by omega)
          · skip
            refine J.exit ?_
            refine J.x_then ?_
            refine J.x_then ?_
            refine J.x_block ?_
            refine J.n_then ?_
            refine J.seq ?_
            refine J.region ?_
            refine J.op (Yd.assign rfl) rfl ?_
            refine J.nil ?_
            refine J.n_then ?_
            refine J.block ?_
            refine J.loop (ι := Nat) (fun i => [(6, I (128 * (k : Int))), (18, I i), (3, .pointer (some ⟨b3_1, 0, none⟩)), (4, .pointer (some ⟨b4_4, 0, none⟩)), (12, .pointer (some ⟨b12_27, 0, none⟩)), (5, s42_16)]) (fun i w' => i ≤ 8 ∧ Cel w' b3_1 45 [(0, 80, (roundsL).map fun x => W64 x)] ∧ Cel w' b4_4 47 [(0, 8, (fillU (fun j => (blk512 startL (pad128L l (UInt64.ofNat l.length)) k).getD j 0 + (rnd512 (blk512 startL (pad128L l (UInt64.ofNat l.length)) k) (sched512 ((pad128L l (UInt64.ofNat l.length)).drop (128 * k)) 80) 80).getD j 0) (blk512 startL (pad128L l (UInt64.ofNat l.length)) k) i).map fun x => W64 x)] ∧ Cel w' b12_27 47 [(0, 8, ((rnd512 (blk512 startL (pad128L l (UInt64.ofNat l.length)) k) (sched512 ((pad128L l (UInt64.ofNat l.length)).drop (128 * k)) 80) 80)).map fun x => W64 x)] ∧ Ob w6.heap.size 5 w' s42_16 (pad128L l (UInt64.ofNat l.length)) ∧ w6.heap.size ≤ w'.heap.size ∧ Ext w w') (fun i => 8 - i) (0) ⟨rfl, rfl, rfl, rfl, rfl, rfl, trivial⟩ (⟨by omega, c3_1, Cel.cong c4_4 (by rw [fillU_zero]), Cel.cong c12_27 (by rw [show t = 80 by omega]), o42_16, le_w6, e0⟩) ?_
            rintro f w38 ⟨hf, c3_1, c4_4, c12_27, o42_16, le_w6, e0⟩
            have hrl := rnd512_len (blk512 startL (pad128L l (UInt64.ofNat l.length)) k) (sched512 ((pad128L l (UInt64.ofNat l.length)).drop (128 * k)) 80) hHk 80
            have hfl := fillU_len (fun j => (blk512 startL (pad128L l (UInt64.ofNat l.length)) k).getD j 0 + (rnd512 (blk512 startL (pad128L l (UInt64.ofNat l.length)) k) (sched512 ((pad128L l (UInt64.ofNat l.length)).drop (128 * k)) 80) 80).getD j 0) (blk512 startL (pad128L l (UInt64.ofNat l.length)) k) f
            have ne_s42_16_b3_1 := Ow.neBase o42_16 lt_b3_1_w6
            have ne_s42_16_b4_4 := Ow.neBase o42_16 lt_b4_4_w6
            refine J.seq ?_
            refine J.seq ?_
            refine J.region ?_
            refine J.op (Yd.move rfl) rfl ?_
            refine J.op (Yd.lss rfl rfl) rfl ?_
            refine J.nil ?_
            refine J.n_then ?_
            refine J.cond_dec rfl (fun hc5 => ?_) (fun hc5 => ?_)
            · skip
              refine J.skip ?_
              refine J.n_then ?_
              refine J.seq ?_
              refine J.block ?_
              refine J.regionO [(0, true), (1, true), (4, true)] [(2, 1), (3, 1), (5, 1), (6, 1)] [(7, true), (8, false), (9, false)] mix (by kernel_rfl) ?_
              refine J.s_op rfl (fun _ => Yd.move rfl) rfl ?_
              refine J.s_op rfl (fun _ => Yd.move rfl) rfl ?_
              refine J.s_op rfl (fun _ => Yd.move rfl) rfl ?_
              refine J.s_nil ?_
              refine J.o_op rfl (Yd.idxA Try.underlying47 ti35 rfl rfl (by first | omega | (simp only [Int.toNat_natCast]; omega) | (simp only [List.length_map, List.length_drop, List.length_take, List.length_append, List.length_replicate]; omega) | (simp <;> omega))) rfl ?_
              refine J.o_op rfl (Yd.load pl35 rfl (Cel.cellM c4_4 0 rfl 0 (by have hl_ := Cel.lenM c4_4 0 rfl; first | omega | (simp only [Int.toNat_natCast]; omega) | (simp at hl_ ⊢ <;> omega)))) rfl ?_
              refine J.o_op rfl (Yd.idxA Try.underlying47 ti35 rfl rfl (by first | omega | (simp only [Int.toNat_natCast]; omega) | (simp only [List.length_map, List.length_drop, List.length_take, List.length_append, List.length_replicate]; omega) | (simp <;> omega))) rfl ?_
              refine J.o_op rfl (Yd.load pl35 rfl (Cel.cellM c12_27 0 rfl 0 (by have hl_ := Cel.lenM c12_27 0 rfl; first | omega | (simp only [Int.toNat_natCast]; omega) | (simp at hl_ ⊢ <;> omega)))) rfl ?_
              refine J.o_nil ?_
              refine J.s_op rfl (fun _ => Yd.add_u64 rfl rfl) rfl ?_
              refine J.s_one rfl (Yd.idxA Try.underlying47 ti35 rfl rfl (by first | omega | (simp only [Int.toNat_natCast]; omega) | (simp only [List.length_map, List.length_drop, List.length_take, List.length_append, List.length_replicate]; omega) | (simp <;> omega))) rfl ?_
              refine J.s_eff0 rfl (Ye.storeM ti35 c4_4 0 rfl rfl rfl rfl (by first | omega | (simp only [Int.toNat_natCast]; omega) | (simp only [List.length_map, List.length_drop, List.length_take, List.length_append, List.length_replicate]; omega) | (simp <;> omega)) (fun _ => rfl) (fun _ => rfl)) ?_
              rintro _ w39 ⟨cX, hu⟩
              simp only [List.set_cons_zero, List.set_cons_succ] at cX
              have e0 := e0.upd hz_b4_4 hu
              have le_w6 := Nat.le_trans le_w6 (Nat.le_of_eq hu.size.symm)
              have c3_1 := Cel.upd c3_1 hu (by omega)
              have c12_27 := Cel.upd c12_27 hu (by omega)
              have o42_16 := Ow.upd o42_16 hu ne_s42_16_b4_4
              replace c4_4 := cX
              clear cX hu
              refine J.s_nil ?_
              refine J.n_np ?_
              refine J.n_block ?_
              refine J.n_then ?_
              refine J.region ?_
              refine J.op (Yd.move rfl) rfl ?_
              refine J.op (Yd.add rfl rfl (by first | omega | (simp only [Int.toNat_natCast]; omega) | (simp only [List.length_map, List.length_drop, List.length_take, List.length_append, List.length_replicate]; omega) | (simp <;> omega))) rfl ?_
              refine J.op (Yd.assign rfl) rfl ?_
              refine J.nil ?_
              refine J.n_then ?_
              exact J.round (f + 1) ⟨rfl, rfl, rfl, rfl, rfl, rfl, trivial⟩ (⟨by omega, c3_1, Cel.cong c4_4 (by rw [Int.toNat_natCast, fillU_get _ _ _ _ _ (Nat.le_refl _)]; exact fillU_set _ _ _), c12_27, o42_16, le_w6, e0⟩) (by omega)
            · skip
              refine J.exit ?_
              refine J.x_then ?_
              refine J.x_then ?_
              refine J.x_block ?_
              refine J.n_block ?_
              refine J.n_then ?_
              refine J.region ?_
              refine J.op (Yd.move rfl) rfl ?_
              refine J.op (Yd.add rfl rfl (by first | omega | (simp only [Int.toNat_natCast]; omega) | (simp only [List.length_map, List.length_drop, List.length_take, List.length_append, List.length_replicate]; omega) | (simp <;> omega))) rfl ?_
              refine J.op (Yd.assign rfl) rfl ?_
              refine J.nil ?_
              refine J.n_then ?_
              exact J.round (k + 1) ⟨(someI (by show (128 * (k : Int) + 128) = 128 * ((k + 1 : Nat) : Int); omega)), rfl, rfl, rfl, trivial⟩ (⟨by omega, c3_1, Cel.cong c4_4 (by rw [show f = 8 by omega, fillU_all _ _ _ (by omega), hHk]; rfl), o42_16, le_w6, e0⟩) (by omega)
    · skip
      refine J.exit ?_
      refine J.x_then ?_
      refine J.x_then ?_
      refine J.x_block ?_
      refine J.n_then ?_
      refine J.seq ?_
      refine J.region ?_
      refine J.op (Yd.assign rfl) rfl ?_
      refine J.nil ?_
      refine J.n_then ?_
      refine J.seq ?_
      refine J.seq ?_
      refine J.region ?_
      refine J.op (Yd.assign rfl) rfl ?_
      refine J.nil ?_
      refine J.n_then ?_
      refine J.block ?_
      have hz_w17 : w.heap.size ≤ w17.heap.size := e0.size
      have le_w17 : w17.heap.size ≤ w17.heap.size := Nat.le_refl _
      have lt_b3_1_w17 : b3_1 < w17.heap.size := Cel.lt c3_1
      have lt_b4_4_w17 : b4_4 < w17.heap.size := Cel.lt c4_4
      refine J.loop (ι := Nat × Value) (fun i => [(20, I i.1), (4, .pointer (some ⟨b4_4, 0, none⟩)), (19, i.2)]) (fun i w' => i.1 ≤ 8 ∧ Cel w' b4_4 47 [(0, 8, ((blk512 startL (pad128L l (UInt64.ofNat l.length)) k)).map fun x => W64 x)] ∧ Ob w17.heap.size 5 w' i.2 (((blk512 startL (pad128L l (UInt64.ofNat l.length)) k).take i.1).flatMap fun x => beN x 8) ∧ w17.heap.size ≤ w'.heap.size ∧ Ext w w') (fun i => 8 - i.1) ((0, nilS)) ⟨rfl, rfl, rfl, trivial⟩ (⟨Nat.zero_le _, c4_4, Ow.nil _ _ _, le_w17, e0⟩) ?_
      rintro ⟨j, v2⟩ w40 ⟨hj, c4_4, ho, le_w17, e0⟩
      dsimp only at hj ho ⊢
      have hol : (((blk512 startL (pad128L l (UInt64.ofNat l.length)) k).take j).flatMap fun x => beN x 8).length = 8 * ((blk512 startL (pad128L l (UInt64.ofNat l.length)) k).take j).length := out512_len _
      have htl := List.length_take_le j (blk512 startL (pad128L l (UInt64.ofNat l.length)) k)
      have hHl : (blk512 startL (pad128L l (UInt64.ofNat l.length)) k).length = 8 := blk512_len _ _ rfl _
      have ne_v2_b4_4 := Ow.neBase ho lt_b4_4_w17
      refine J.seq ?_
      refine J.seq ?_
      refine J.region ?_
      refine J.op (Yd.move rfl) rfl ?_
      refine J.op (Yd.lss rfl rfl) rfl ?_
      refine J.nil ?_
      refine J.n_then ?_
      refine J.cond_dec rfl (fun hc6 => ?_) (fun hc6 => ?_)
      · skip
        refine J.skip ?_
        refine J.n_then ?_
        refine J.seq ?_
        refine J.block ?_
        refine J.region ?_
        refine J.op (Yd.move rfl) rfl ?_
        refine J.op (Yd.move rfl) rfl ?_
        refine J.op (Yd.idxA Try.underlying47 ti35 rfl rfl (by first | omega | (simp only [Int.toNat_natCast]; omega) | (simp only [List.length_map, List.length_drop, List.length_take, List.length_append, List.length_replicate]; omega) | (simp <;> omega))) rfl ?_
        refine J.op (Yd.load pl35 rfl (Cel.cellM c4_4 0 rfl 0 (by have hl_ := Cel.lenM c4_4 0 rfl; first | omega | (simp only [Int.toNat_natCast]; omega) | (simp at hl_ ⊢ <;> omega)))) rfl ?_
        have hz_w40 : w.heap.size ≤ w40.heap.size := e0.size
        have le_w40 : w40.heap.size ≤ w40.heap.size := Nat.le_refl _
        have lt_b4_4_w40 : b4_4 < w40.heap.size := Cel.lt c4_4
        refine J.eff (Ye.call cl21 rfl (RBig_ok (n := 8) (by omega))) rfl ?_
        rintro s224_41 w41 ⟨o224_41, x1⟩
        have e0 := e0.trans x1
        have c4_4 := c4_4.ext x1
        have ho := ho.ext x1
        have le_w17 := Nat.le_trans le_w17 x1.size
        have le_w40 := Nat.le_trans le_w40 x1.size
        clear x1
        have ne_s224_41_b4_4 := Ow.neBase o224_41 lt_b4_4_w40
        have hs_w41 : w17.heap.size ≤ w41.heap.size := le_w17
        refine J.eff (Ye.appendM Try.underlying25 ti5 rfl rfl rfl rfl ho (Ow.rd o224_41) (fun _ => rfl) (by simp only [beN_len]; omega) hs_w41) rfl ?_
        rintro s225_42 w42 ⟨o225_42, hg⟩
        have e0 := e0.grown ho hz_w17 hg
        have le_w17 := Nat.le_trans le_w17 hg.size
        have le_w40 := Nat.le_trans le_w40 hg.size
        have c4_4 := Cel.grown c4_4 hg ne_v2_b4_4
        clear hg
        have ne_s225_42_b4_4 := Ow.neBase o225_42 lt_b4_4_w17
        refine J.op (Yd.assign rfl) rfl ?_
        refine J.nil ?_
        refine J.n_block ?_
        refine J.n_then ?_
        refine J.region ?_
        refine J.op (Yd.move rfl) rfl ?_
        refine J.op (Yd.add rfl rfl (by first | omega | (simp only [Int.toNat_natCast]; omega) | (simp only [List.length_map, List.length_drop, List.length_take, List.length_append, List.length_replicate]; omega) | (simp <;> omega))) rfl ?_
        refine J.op (Yd.assign rfl) rfl ?_
        refine J.nil ?_
        refine J.n_then ?_
        have h9 := o225_42
        simp only [Int.toNat_natCast] at h9
        generalize hHe : (blk512 startL (pad128L l (UInt64.ofNat l.length)) k) = H at *
        have h10 := flatMap_take (fun x : UInt64 => beN x 8) H j 0 (by omega)
        rw [← h10] at h9
        exact J.round ((j + 1, s225_42)) ⟨rfl, rfl, rfl, trivial⟩ (⟨by show j + 1 ≤ 8; omega, c4_4, h9, le_w17, e0⟩) (by show 8 - (j + 1) < 8 - j; omega)
      · skip
        refine J.exit ?_
        refine J.x_then ?_
        refine J.x_then ?_
        refine J.x_block ?_
        refine J.n_then ?_
        refine J.seq ?_
        refine J.region ?_
        refine J.op (Yd.move rfl) rfl ?_
        refine J.op (Yd.assign rfl) rfl ?_
        refine J.nil ?_
        refine J.n_then ?_
        refine J.ret ?_
        exact J.ret1 rfl rfl (⟨_, rfl, by rw [List.take_of_length_le (by omega), show k = (pad128L l (UInt64.ofNat l.length)).length / 128 by omega] at ho; exact (Ow.base ho hz_w17), e0⟩)
end Ytipbmjbdmpcgoaa
end Go.Proofs
