import Derived.Test.YtipbmjbdmpcgoaaT
import Derived.Test.YtipbmjbdmpcgoaaPv
import Derived.Test.YtipbmjbdmpcgoaaX12
import Derived.Test.YtipbmjbdmpcgoaaS6
set_option linter.unusedVariables false
set_option linter.unusedSimpArgs false
set_option maxRecDepth 100000
set_option maxHeartbeats 4000000
namespace Go.Proofs
open Go.X Go.RowKit
namespace Ytipbmjbdmpcgoaa
theorem Sum512_ok {s : Value} {vs : List Value} {ll : List (List UInt8)} {w : World} (hl : Rl w s vs ll) (ht : ll.flatten.length ≤ 1000000000) : C Try.prog 12 [s] w (Ret fun v w' => Ob w.heap.size 5 w' v (sha512L ll.flatten) ∧ Ext w w') := by
  have hpm := pad128_mod ll.flatten (UInt64.ofNat ll.flatten.length)
  have hpl := pad128L_len ll.flatten (UInt64.ofNat ll.flatten.length)
  have e0 := Ext.refl w
  refine C.enter Try.func12 rfl Try.ntmps12 rfl ?_
  refine J.seq ?_
  refine J.region ?_
  refine J.op (Yd.assign rfl) rfl ?_
  refine J.nil ?_
  refine J.n_then ?_
  refine J.seq ?_
  refine J.region ?_
  refine J.op (Yd.move rfl) rfl ?_
  have hz_w : w.heap.size ≤ w.heap.size := e0.size
  have le_w : w.heap.size ≤ w.heap.size := Nat.le_refl _
  refine J.eff (Ye.call cl24 rfl (Cat_ok hl (by first | omega | assumption))) rfl ?_
  rintro s9_1 w1 ⟨o9_1, x1⟩
  have e0 := e0.trans x1
  have le_w := Nat.le_trans le_w x1.size
  clear x1
  refine J.op (Yd.assign rfl) rfl ?_
  refine J.nil ?_
  refine J.n_then ?_
  refine J.seq ?_
  refine J.region ?_
  refine J.eff (Ye.call cl25 rfl (Start_ok)) rfl ?_
  rintro _ w2 ⟨rfl, x1⟩
  have e0 := e0.trans x1
  have o9_1 := o9_1.ext x1
  have le_w := Nat.le_trans le_w x1.size
  clear x1
  refine J.eff (Ye.alloc ti47 (S := [(0, 8, (List.replicate 8 0).map (fun x : UInt64 => W64 x))]) (by simp [SegAll, SegOK, Value.cells])) rfl ?_
  rintro _ w3 ⟨b4_2, rfl, hb_, c4_2, x1⟩
  have hz_b4_2 := Nat.le_trans e0.size hb_
  have ne_s9_1_b4_2 := Ow.neLt o9_1 hb_
  have e0 := e0.trans x1
  have o9_1 := o9_1.ext x1
  have le_w := Nat.le_trans le_w x1.size
  clear x1 hb_
  refine J.eff0 (Ye.storeA (ys := List.map (fun x : UInt64 => W64 x) _) ti47 c4_2 0 rfl rfl rfl rfl (by first | (rw [List.length_map]; omega) | (simp; done) | rfl | (simp <;> omega)) (one_M _ (fun _ => rfl))) ?_
  rintro _ w4 ⟨cX, hu⟩
  simp only [List.set_cons_zero, List.set_cons_succ] at cX
  have e0 := e0.upd hz_b4_2 hu
  have le_w := Nat.le_trans le_w (Nat.le_of_eq hu.size.symm)
  have o9_1 := Ow.upd o9_1 hu ne_s9_1_b4_2
  replace c4_2 := cX
  clear cX hu
  refine J.nil ?_
  refine J.n_then ?_
  refine J.seq ?_
  refine J.seq ?_
  refine J.region ?_
  refine J.op (Yd.move rfl) rfl ?_
  refine J.op (Yd.move rfl) rfl ?_
  refine J.op (Yd.len_b Try.underlying25 rfl (Ow.rd o9_1)) rfl ?_
  refine J.op (Yd.cv_i_64 Try.underlying3 Try.underlying35 rfl (by omega)) rfl ?_
  have hz_w4 : w.heap.size ≤ w4.heap.size := e0.size
  have le_w4 : w4.heap.size ≤ w4.heap.size := Nat.le_refl _
  have lt_b4_2_w4 : b4_2 < w4.heap.size := Cel.lt c4_2
  refine J.eff (Ye.call cl26 rfl (Padded128_ok (Ow.rd o9_1) (by first | omega | (simp <;> omega)))) rfl ?_
  rintro s15_5 w5 ⟨o15_5, x1⟩
  have e0 := e0.trans x1
  have o9_1 := o9_1.ext x1
  have c4_2 := c4_2.ext x1
  have le_w := Nat.le_trans le_w x1.size
  have le_w4 := Nat.le_trans le_w4 x1.size
  clear x1
  have ne_s15_5_b4_2 := Ow.neBase o15_5 lt_b4_2_w4
  refine J.op (Yd.assign rfl) rfl ?_
  refine J.nil ?_
  refine J.n_then ?_
  refine J.block ?_
  refine J.loop (ι := Nat × Value) (fun i => [(2, nilS), (4, .pointer (some ⟨b4_2, 0, none⟩)), (5, i.2)]) (fun i w' => 128 * i.1 ≤ (pad128L ll.flatten (UInt64.ofNat ll.flatten.length)).length ∧ Cel w' b4_2 47 [(0, 8, (blk512 startL (pad128L ll.flatten (UInt64.ofNat ll.flatten.length)) i.1).map fun x => W64 x)] ∧ Bs w' i.2 ((pad128L ll.flatten (UInt64.ofNat ll.flatten.length)).drop (128 * i.1)) ∧ (i.2).ownBlock ≠ some b4_2 ∧ Ext w w') (fun i => (pad128L ll.flatten (UInt64.ofNat ll.flatten.length)).length - 128 * i.1) ((0, s15_5)) ⟨rfl, rfl, rfl, trivial⟩ (⟨Nat.zero_le _, Cel.cong c4_2 (by rfl), Ow.rd o15_5, ne_s15_5_b4_2, e0⟩) ?_
  rintro ⟨k, v⟩ w6 ⟨hk, c4_2, hv, ne_v_b4_2, e0⟩
  dsimp only at hk hv ⊢
  have hbl := blk512_len startL (pad128L ll.flatten (UInt64.ofNat ll.flatten.length)) (by rfl) k
  refine J.seq ?_
  refine J.seq ?_
  refine J.region ?_
  refine J.op (Yd.move rfl) rfl ?_
  refine J.op (Yd.len_b Try.underlying25 rfl hv) rfl ?_
  refine J.op (Yd.gtr rfl rfl) rfl ?_
  refine J.nil ?_
  refine J.n_then ?_
  refine J.cond_dec rfl (fun hc0 => ?_) (fun hc0 => ?_)
  · skip
    rw [List.length_drop] at hc0
    refine J.skip ?_
    refine J.n_then ?_
    refine J.seq ?_
    refine J.block ?_
    refine J.region ?_
    refine J.op (Yd.loadA ag47 ti47 rfl c4_2 0 rfl) rfl ?_
    refine J.op (Yd.move rfl) rfl ?_
    refine J.eff (Ye.call cl27 rfl (Turn512_ok (by first | assumption | simp | omega) hv (by first | omega | (rw [List.length_drop]; omega) | (simp <;> omega)))) rfl ?_
    rintro _ w7 ⟨rfl, x1⟩
    have e0 := e0.trans x1
    have c4_2 := c4_2.ext x1
    have hv := hv.ext x1
    clear x1
    refine J.eff0 (Ye.storeA (ys := List.map (fun x : UInt64 => W64 x) _) ti47 c4_2 0 rfl rfl rfl rfl (by first | (rw [List.length_map]; omega) | (simp; done) | rfl | (simp <;> omega)) (one_M _ (fun _ => rfl))) ?_
    rintro _ w8 ⟨cX, hu⟩
    simp only [List.set_cons_zero, List.set_cons_succ] at cX
    have e0 := e0.upd hz_b4_2 hu
    have hv := Rd.updN hv hu ne_v_b4_2
    replace c4_2 := cX
    clear cX hu
    refine J.nil ?_
    refine J.n_block ?_
    refine J.n_then ?_
    refine J.region ?_
    refine J.op (Yd.move rfl) rfl ?_
    refine J.op (Yd.slcL Try.underlying25 ti5 rfl hv rfl (by first | omega | (simp only [Int.toNat_natCast]; omega) | (simp only [List.length_map, List.length_drop, List.length_take, List.length_append, List.length_replicate]; omega) | (simp <;> omega))) rfl ?_
    refine J.op (Yd.assign rfl) rfl ?_
    refine J.nil ?_
    refine J.n_then ?_
    exact J.round ((k + 1, _)) ⟨rfl, rfl, rfl, trivial⟩ (⟨by show 128 * (k + 1) ≤ (pad128L ll.flatten (UInt64.ofNat ll.flatten.length)).length; omega, Cel.cong c4_2 (by rfl), by show Bs _ _ ((pad128L ll.flatten (UInt64.ofNat ll.flatten.length)).drop (128 * (k + 1))); rw [show 128 * (k + 1) = 128 * k + 128 by omega, ← List.drop_drop]; exact Bs.tail hv (by rw [List.length_drop]; omega) (by rw [List.length_map]), by show (slc _ _ _).ownBlock ≠ _; rw [slc_own]; exact ne_v_b4_2, e0⟩) (by show (pad128L ll.flatten (UInt64.ofNat ll.flatten.length)).length - 128 * (k + 1) < (pad128L ll.flatten (UInt64.ofNat ll.flatten.length)).length - 128 * k; omega)
  · skip
    rw [List.length_drop] at hc0
    refine J.exit ?_
    refine J.x_then ?_
    refine J.x_then ?_
    refine J.x_block ?_
    refine J.n_then ?_
    refine J.seq ?_
    refine J.seq ?_
    refine J.region ?_
    refine J.op (Yd.loadA ag47 ti47 rfl c4_2 0 rfl) rfl ?_
    refine J.op (Yd.move rfl) rfl ?_
    refine J.nil ?_
    refine J.n_then ?_
    refine J.block ?_
    refine J.loop (ι := Nat × Value) (fun i => [(24, Ag (fun x => W64 x) (blk512 startL (pad128L ll.flatten (UInt64.ofNat ll.flatten.length)) k)), (25, I i.1), (2, i.2)]) (fun i w' => i.1 ≤ 8 ∧ Ob w.heap.size 5 w' i.2 (((blk512 startL (pad128L ll.flatten (UInt64.ofNat ll.flatten.length)) k).take i.1).flatMap fun x => beN x 8) ∧ Ext w w') (fun i => 8 - i.1) ((0, nilS)) ⟨rfl, rfl, rfl, trivial⟩ (⟨Nat.zero_le _, Ow.nil _ _ _, e0⟩) ?_
    rintro ⟨j, v2⟩ w9 ⟨hj, ho, e0⟩
    dsimp only at hj ho ⊢
    have hol : (((blk512 startL (pad128L ll.flatten (UInt64.ofNat ll.flatten.length)) k).take j).flatMap fun x => beN x 8).length = 8 * ((blk512 startL (pad128L ll.flatten (UInt64.ofNat ll.flatten.length)) k).take j).length := out512_len _
    have htl := List.length_take_le j (blk512 startL (pad128L ll.flatten (UInt64.ofNat ll.flatten.length)) k)
    have hHl : (blk512 startL (pad128L ll.flatten (UInt64.ofNat ll.flatten.length)) k).length = 8 := blk512_len _ _ (by rfl) _
    refine J.seq ?_
    refine J.region ?_
    refine J.op (Yd.lss rfl rfl) rfl ?_
    refine J.nil ?_
    refine J.n_then ?_
    refine J.seq ?_
    refine J.cond_dec rfl (fun hc1 => ?_) (fun hc1 => ?_)
    · skip
      refine J.skip ?_
      refine J.n_then ?_
      refine J.seq ?_
      refine J.block ?_
      refine J.seq ?_
      refine J.region ?_
      refine J.op (Yd.idxV Try.underlying47 pl35 ti35 rfl rfl (by first | omega | (simp only [Int.toNat_natCast]; omega) | (simp only [List.length_map, List.length_drop, List.length_take, List.length_append, List.length_replicate]; omega) | (simp <;> omega)) (Ag.get (fun x : UInt64 => W64 x) _ 0 (by first | omega | (simp only [Int.toNat_natCast]; omega) | (simp only [List.length_map, List.length_drop, List.length_take, List.length_append, List.length_replicate]; omega) | (simp <;> omega)))) rfl ?_
      refine J.op (Yd.assign rfl) rfl ?_
      refine J.nil ?_
      refine J.n_then ?_
      refine J.region ?_
      refine J.op (Yd.move rfl) rfl ?_
      refine J.op (Yd.move rfl) rfl ?_
      have hz_w9 : w.heap.size ≤ w9.heap.size := e0.size
      have le_w9 : w9.heap.size ≤ w9.heap.size := Nat.le_refl _
      refine J.eff (Ye.call cl28 rfl (Put64_ok)) rfl ?_
      rintro s30_10 w10 ⟨o30_10, x1⟩
      have e0 := e0.trans x1
      have ho := ho.ext x1
      have le_w9 := Nat.le_trans le_w9 x1.size
      clear x1
      have hs_w10 : w.heap.size ≤ w10.heap.size := e0.size
      refine J.eff (Ye.appendM Try.underlying25 ti5 rfl rfl rfl rfl ho (Ow.rd o30_10) (fun _ => rfl) (by simp only [beN_len]; omega) hs_w10) rfl ?_
      rintro s31_11 w11 ⟨o31_11, hg⟩
      have e0 := e0.grown ho (Nat.le_refl _) hg
      have le_w9 := Nat.le_trans le_w9 hg.size
      clear hg
      refine J.op (Yd.assign rfl) rfl ?_
      refine J.nil ?_
      refine J.n_block ?_
      refine J.n_then ?_
      refine J.region ?_
      refine J.op (Yd.add rfl rfl (by first | omega | (simp only [Int.toNat_natCast]; omega) | (simp only [List.length_map, List.length_drop, List.length_take, List.length_append, List.length_replicate]; omega) | (simp <;> omega))) rfl ?_
      refine J.op (Yd.move rfl) rfl ?_
      refine J.nil ?_
      refine J.n_then ?_
      exact J.round ((j + 1, s31_11)) ⟨rfl, rfl, rfl, trivial⟩ (⟨by show j + 1 ≤ 8; omega, by show Ob _ _ _ _ (((blk512 startL (pad128L ll.flatten (UInt64.ofNat ll.flatten.length)) k).take (j + 1)).flatMap fun x => beN x 8); rw [flatMap_take _ _ j 0 (by omega)]; exact o31_11, e0⟩) (by show 8 - (j + 1) < 8 - j; omega)
    · skip
      refine J.exit ?_
      refine J.x_then ?_
      refine J.x_then ?_
      refine J.x_block ?_
      refine J.n_then ?_
      refine J.seq ?_
      refine J.region ?_
      refine J.op (Yd.move rfl) rfl ?_
      refine J.op (Yd.assign rfl) rfl ?_
      refine J.nil ?_
      refine J.n_then ?_
      refine J.ret ?_
      exact J.ret1 rfl rfl (⟨_, rfl, by rw [List.take_of_length_le (by omega), show k = (pad128L ll.flatten (UInt64.ofNat ll.flatten.length)).length / 128 by omega] at ho; exact ho, e0⟩)
end Ytipbmjbdmpcgoaa
end Go.Proofs
