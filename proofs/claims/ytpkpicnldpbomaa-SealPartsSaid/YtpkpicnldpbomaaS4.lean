import Derived.Test.YtpkpicnldpbomaaT
import Derived.Test.YtpkpicnldpbomaaPB
import Derived.Test.YtpkpicnldpbomaaS3
set_option linter.unusedVariables false
set_option linter.unusedSimpArgs false
set_option maxRecDepth 100000
set_option maxHeartbeats 4000000
namespace Go.Proofs
open Go.X Go.RowKit
namespace Ytpkpicnldpbomaa
theorem Turn256_ok {h : List UInt32} {b : Value} {l : List UInt8} {w : World} (hh : h.length = 8) (hb : Bs w b l) (hl : 64 ≤ l.length) : C Try.prog 52 [Ag (fun x => W32 x) h, b] w (Ret fun v w' => v = Ag (fun x => W32 x) (turn256L h l) ∧ Ext w w') := by
  have e0 := Ext.refl w
  refine C.enter Try.func52 rfl Try.ntmps52 rfl ?_
  refine J.seq ?_
  refine J.region ?_
  refine J.eff (Ye.box rfl (Ag.all _ _ (n := 8) (by first | omega | (simp only [Int.toNat_natCast]; omega) | (simp only [List.length_map, List.length_drop, List.length_take, List.length_append, List.length_replicate]; omega) | (simp <;> omega)))) rfl ?_
  rintro _ w1 ⟨b2_0, rfl, hb_, c2_0, x1⟩
  have hz_b2_0 := Nat.le_trans e0.size hb_
  have e0 := e0.trans x1
  clear x1 hb_
  refine J.eff (Ye.alloc ti60 (S := [(0, 8, (List.replicate 8 0).map (fun x : UInt32 => W32 x))]) (by simp [SegAll, SegOK, Value.cells])) rfl ?_
  rintro _ w2 ⟨b4_1, rfl, hb_, c4_1, x1⟩
  have hz_b4_1 := Nat.le_trans e0.size hb_
  have lt_b2_0_b4_1 : b2_0 < b4_1 := Nat.lt_of_lt_of_le (Cel.lt c2_0) hb_
  have e0 := e0.trans x1
  have c2_0 := c2_0.ext x1
  clear x1 hb_
  refine J.nil ?_
  refine J.n_then ?_
  refine J.seq ?_
  refine J.region ?_
  refine J.eff (Ye.alloc ti77 (S := [(0, 64, (List.replicate 64 0).map (fun x : UInt32 => W32 x))]) (by simp [SegAll, SegOK, Value.cells])) rfl ?_
  rintro _ w3 ⟨b5_2, rfl, hb_, c5_2, x1⟩
  have hz_b5_2 := Nat.le_trans e0.size hb_
  have lt_b2_0_b5_2 : b2_0 < b5_2 := Nat.lt_of_lt_of_le (Cel.lt c2_0) hb_
  have lt_b4_1_b5_2 : b4_1 < b5_2 := Nat.lt_of_lt_of_le (Cel.lt c4_1) hb_
  have e0 := e0.trans x1
  have c2_0 := c2_0.ext x1
  have c4_1 := c4_1.ext x1
  clear x1 hb_
  refine J.nil ?_
  refine J.n_then ?_
  refine J.seq ?_
  refine J.region ?_
  refine J.eff (Ye.call cl65 rfl (Rounds_ok)) rfl ?_
  rintro _ w4 ⟨rfl, x1⟩
  have e0 := e0.trans x1
  have c2_0 := c2_0.ext x1
  have c4_1 := c4_1.ext x1
  have c5_2 := c5_2.ext x1
  clear x1
  refine J.eff (Ye.alloc ti72 (S := [(0, 80, (List.replicate 80 0).map (fun x : UInt64 => W64 x))]) (by simp [SegAll, SegOK, Value.cells])) rfl ?_
  rintro _ w5 ⟨b6_4, rfl, hb_, c6_4, x1⟩
  have hz_b6_4 := Nat.le_trans e0.size hb_
  have lt_b2_0_b6_4 : b2_0 < b6_4 := Nat.lt_of_lt_of_le (Cel.lt c2_0) hb_
  have lt_b4_1_b6_4 : b4_1 < b6_4 := Nat.lt_of_lt_of_le (Cel.lt c4_1) hb_
  have lt_b5_2_b6_4 : b5_2 < b6_4 := Nat.lt_of_lt_of_le (Cel.lt c5_2) hb_
  have e0 := e0.trans x1
  have c2_0 := c2_0.ext x1
  have c4_1 := c4_1.ext x1
  have c5_2 := c5_2.ext x1
  clear x1 hb_
  refine J.eff0 (Ye.storeA (ys := List.map (fun x : UInt64 => W64 x) _) ti72 c6_4 0 rfl rfl rfl rfl (by first | (rw [List.length_map]; omega) | (simp; done) | rfl | (simp <;> omega)) (one_M _ (fun _ => rfl))) ?_
  rintro _ w6 ⟨cX, hu⟩
  simp only [List.set_cons_zero, List.set_cons_succ] at cX
  have e0 := e0.upd hz_b6_4 hu
  have c2_0 := Cel.upd c2_0 hu (by omega)
  have c4_1 := Cel.upd c4_1 hu (by omega)
  have c5_2 := Cel.upd c5_2 hu (by omega)
  replace c6_4 := cX
  clear cX hu
  refine J.nil ?_
  refine J.n_then ?_
  refine J.seq ?_
  refine J.seq ?_
  refine J.region ?_
  refine J.op (Yd.move rfl) rfl ?_
  refine J.nil ?_
  refine J.n_then ?_
  refine J.block ?_
  refine J.loop (ι := Nat) (fun i => [(22, I i), (1, b), (2, .pointer (some ⟨b2_0, 0, none⟩)), (4, .pointer (some ⟨b4_1, 0, none⟩)), (5, .pointer (some ⟨b5_2, 0, none⟩)), (6, .pointer (some ⟨b6_4, 0, none⟩))]) (fun i w' => i ≤ 64 ∧ Cel w' b2_0 60 [(0, 8, h.map fun x => W32 x)] ∧ Cel w' b4_1 60 [(0, 8, (List.replicate 8 0).map fun x => W32 x)] ∧ Cel w' b5_2 77 [(0, 64, (arr256 l i).map fun x => W32 x)] ∧ Cel w' b6_4 72 [(0, 80, roundsL.map fun x => W64 x)] ∧ Ext w w') (fun i => 64 - i) (0) ⟨rfl, rfl, rfl, rfl, rfl, rfl, trivial⟩ (⟨by omega, c2_0, c4_1, Cel.cong c5_2 (by simp [arr256, sched256]), c6_4, e0⟩) ?_
  rintro k w7 ⟨hk, c2_0, c4_1, c5_2, c6_4, e0⟩
  have hal := arr256_len l k hk
  refine J.seq ?_
  refine J.region ?_
  refine J.op (Yd.lss rfl rfl) rfl ?_
  refine J.nil ?_
  refine J.n_then ?_
  refine J.seq ?_
  refine J.cond_dec rfl (fun hc0 => ?_) (fun hc0 => ?_)
  · skip
    refine J.skip ?_
    refine J.n_then ?_
    refine J.seq ?_
    refine J.block ?_
    refine J.seq ?_
    refine J.region ?_
    refine J.op (Yd.move rfl) rfl ?_
    refine J.op (Yd.assign rfl) rfl ?_
    refine J.nil ?_
    refine J.n_then ?_
    refine J.seq ?_
    refine J.seq ?_
    refine J.region ?_
    refine J.op (Yd.move rfl) rfl ?_
    refine J.op (Yd.lss rfl rfl) rfl ?_
    refine J.nil ?_
    refine J.n_then ?_
    refine J.cond_dec rfl (fun hc1 => ?_) (fun hc1 => ?_)
    · skip
      refine J.seq ?_
      refine J.region ?_
      refine J.op (Yd.move rfl) rfl ?_
      refine J.op (Yd.move rfl) rfl ?_
      refine J.op (Yd.move rfl) rfl ?_
      refine J.op (Yd.mul rfl rfl (by first | omega | (simp only [Int.toNat_natCast]; omega) | (simp only [List.length_map, List.length_drop, List.length_take, List.length_append, List.length_replicate]; omega) | (simp <;> omega))) rfl ?_
      refine J.op (Yd.slcL Try.underlying22 ti5 rfl (Rd.ext hb e0) rfl (by first | omega | (simp only [Int.toNat_natCast]; omega) | (simp only [List.length_map, List.length_drop, List.length_take, List.length_append, List.length_replicate]; omega) | (simp <;> omega))) rfl ?_
      refine J.eff (Ye.call cl66 rfl (Get32_ok (Bs.slc (Rd.ext hb e0) (by first | omega | (simp only [Int.toNat_natCast]; omega) | (simp only [List.length_map, List.length_drop, List.length_take, List.length_append, List.length_replicate]; omega) | (simp <;> omega)) (by first | omega | (simp only [Int.toNat_natCast]; omega) | (simp only [List.length_map, List.length_drop, List.length_take, List.length_append, List.length_replicate]; omega) | (simp <;> omega))))) rfl ?_
      rintro _ w8 ⟨rfl, x1⟩
      have e0 := e0.trans x1
      have c2_0 := c2_0.ext x1
      have c4_1 := c4_1.ext x1
      have c5_2 := c5_2.ext x1
      have c6_4 := c6_4.ext x1
      clear x1
      refine J.op (Yd.idxA Try.underlying77 ti59 rfl rfl (by first | omega | (simp only [Int.toNat_natCast]; omega) | (simp only [List.length_map, List.length_drop, List.length_take, List.length_append, List.length_replicate]; omega) | (simp <;> omega))) rfl ?_
      refine J.eff0 (Ye.storeM ti59 c5_2 0 rfl rfl rfl rfl (by first | omega | (simp only [Int.toNat_natCast]; omega) | (simp only [List.length_map, List.length_drop, List.length_take, List.length_append, List.length_replicate]; omega) | (simp <;> omega)) (fun _ => rfl) (fun _ => rfl)) ?_
      rintro _ w9 ⟨cX, hu⟩
      simp only [List.set_cons_zero, List.set_cons_succ] at cX
      have e0 := e0.upd hz_b5_2 hu
      have c2_0 := Cel.upd c2_0 hu (by omega)
      have c4_1 := Cel.upd c4_1 hu (by omega)
      have c6_4 := Cel.upd c6_4 hu (by omega)
      replace c5_2 := cX
      clear cX hu
      refine J.nil ?_
      refine J.n_then ?_
      refine J.exit ?_
      refine J.x_then ?_
      refine J.x_block ?_
      refine J.n_then ?_
      refine J.region ?_
      refine J.op (Yd.add rfl rfl (by first | omega | (simp only [Int.toNat_natCast]; omega) | (simp only [List.length_map, List.length_drop, List.length_take, List.length_append, List.length_replicate]; omega) | (simp <;> omega))) rfl ?_
      refine J.op (Yd.move rfl) rfl ?_
      refine J.nil ?_
      refine J.n_then ?_
      exact J.round (k + 1) ⟨rfl, rfl, rfl, rfl, rfl, rfl, trivial⟩ (⟨by omega, c2_0, c4_1, Cel.cong c5_2 (by (rw [Int.toNat_natCast, ← arr256_set l k (by omega), next256_lo l _ k (by omega)]; simp only [List.length_map, List.take_length, show (4 * (k : Int)).toNat = 4 * k by omega]; try rfl)), c6_4, e0⟩) (by omega)
    · skip
      refine J.skip ?_
      refine J.n_then ?_
      refine J.seq ?_
      refine J.regionO [(0, true), (1, true), (4, true), (5, true)] [(2, 1), (3, 1), (6, 1), (7, 1), (8, 1)] [(9, true)] mix (by kernel_rfl) ?_
      refine J.s_op rfl (fun _ => Yd.move rfl) rfl ?_
      refine J.s_op rfl (fun _ => Yd.sub rfl rfl (by first | omega | (simp only [Int.toNat_natCast]; omega) | (simp only [List.length_map, List.length_drop, List.length_take, List.length_append, List.length_replicate]; omega) | (simp <;> omega))) rfl ?_
      refine J.s_op rfl (fun _ => Yd.move rfl) rfl ?_
      refine J.s_op rfl (fun _ => Yd.sub rfl rfl (by first | omega | (simp only [Int.toNat_natCast]; omega) | (simp only [List.length_map, List.length_drop, List.length_take, List.length_append, List.length_replicate]; omega) | (simp <;> omega))) rfl ?_
      refine J.s_nil ?_
      refine J.o_op rfl (Yd.idxA Try.underlying77 ti59 rfl rfl (by first | omega | (simp only [Int.toNat_natCast]; omega) | (simp only [List.length_map, List.length_drop, List.length_take, List.length_append, List.length_replicate]; omega) | (simp <;> omega))) rfl ?_
      refine J.o_op rfl (Yd.load pl59 rfl (Cel.cellM c5_2 0 rfl 0 (by have hl_ := Cel.lenM c5_2 0 rfl; first | omega | (simp only [Int.toNat_natCast]; omega) | (simp at hl_ ⊢ <;> omega)))) rfl ?_
      refine J.o_op rfl (Yd.idxA Try.underlying77 ti59 rfl rfl (by first | omega | (simp only [Int.toNat_natCast]; omega) | (simp only [List.length_map, List.length_drop, List.length_take, List.length_append, List.length_replicate]; omega) | (simp <;> omega))) rfl ?_
      refine J.o_op rfl (Yd.load pl59 rfl (Cel.cellM c5_2 0 rfl 0 (by have hl_ := Cel.lenM c5_2 0 rfl; first | omega | (simp only [Int.toNat_natCast]; omega) | (simp at hl_ ⊢ <;> omega)))) rfl ?_
      refine J.o_op rfl (Yd.assign rfl) rfl ?_
      refine J.o_nil ?_
      refine J.s_op rfl (fun _ => Yd.assign rfl) rfl ?_
      refine J.s_nil ?_
      refine J.n_np ?_
      refine J.n_then ?_
      refine J.seq ?_
      refine J.region ?_
      refine J.op (Yd.move rfl) rfl ?_
      refine J.eff (Ye.call cl67 rfl (RotL32_ok (m := 7) (by omega))) rfl ?_
      rintro _ w10 ⟨rfl, x1⟩
      have e0 := e0.trans x1
      have c2_0 := c2_0.ext x1
      have c4_1 := c4_1.ext x1
      have c5_2 := c5_2.ext x1
      have c6_4 := c6_4.ext x1
      clear x1
      refine J.op (Yd.move rfl) rfl ?_
      refine J.eff (Ye.call cl67 rfl (RotL32_ok (m := 18) (by omega))) rfl ?_
      rintro _ w11 ⟨rfl, x1⟩
      have e0 := e0.trans x1
      have c2_0 := c2_0.ext x1
      have c4_1 := c4_1.ext x1
      have c5_2 := c5_2.ext x1
      have c6_4 := c6_4.ext x1
      clear x1
      refine J.op (Yd.xor_u32 rfl rfl) rfl ?_
      refine J.op (Yd.move rfl) rfl ?_
      refine J.op (Yd.shr_u32 rfl rfl (by first | omega | (simp only [Int.toNat_natCast]; omega) | (simp only [List.length_map, List.length_drop, List.length_take, List.length_append, List.length_replicate]; omega) | (simp <;> omega))) rfl ?_
      refine J.op (Yd.xor_u32 rfl rfl) rfl ?_
      refine J.op (Yd.assign rfl) rfl ?_
      refine J.nil ?_
      refine J.n_then ?_
      refine J.seq ?_
      refine J.region ?_
      refine J.op (Yd.move rfl) rfl ?_
      refine J.eff (Ye.call cl67 rfl (RotL32_ok (m := 17) (by omega))) rfl ?_
      rintro _ w12 ⟨rfl, x1⟩
      have e0 := e0.trans x1
      have c2_0 := c2_0.ext x1
      have c4_1 := c4_1.ext x1
      have c5_2 := c5_2.ext x1
      have c6_4 := c6_4.ext x1
      clear x1
      refine J.op (Yd.move rfl) rfl ?_
      refine J.eff (Ye.call cl67 rfl (RotL32_ok (m := 19) (by omega))) rfl ?_
      rintro _ w13 ⟨rfl, x1⟩
      have e0 := e0.trans x1
      have c2_0 := c2_0.ext x1
      have c4_1 := c4_1.ext x1
      have c5_2 := c5_2.ext x1
      have c6_4 := c6_4.ext x1
      clear x1
      refine J.op (Yd.xor_u32 rfl rfl) rfl ?_
      refine J.op (Yd.move rfl) rfl ?_
      refine J.op (Yd.shr_u32 rfl rfl (by first | omega | (simp only [Int.toNat_natCast]; omega) | (simp only [List.length_map, List.length_drop, List.length_take, List.length_append, List.length_replicate]; omega) | (simp <;> omega))) rfl ?_
      refine J.op (Yd.xor_u32 rfl rfl) rfl ?_
      refine J.op (Yd.assign rfl) rfl ?_
      refine J.nil ?_
      refine J.n_then ?_
      refine J.regionO [(0, true), (1, true), (2, true), (5, true), (7, true), (8, true), (12, true)] [(3, 1), (4, 1), (9, 1), (10, 1), (6, 1)] [(11, true), (13, true), (14, false), (15, false)] mix (by kernel_rfl) ?_
      refine J.s_op rfl (fun _ => Yd.move rfl) rfl ?_
      refine J.s_op rfl (fun _ => Yd.move rfl) rfl ?_
      refine J.s_op rfl (fun _ => Yd.sub rfl rfl (by first | omega | (simp only [Int.toNat_natCast]; omega) | (simp only [List.length_map, List.length_drop, List.length_take, List.length_append, List.length_replicate]; omega) | (simp <;> omega))) rfl ?_
      refine J.s_op rfl (fun _ => Yd.move rfl) rfl ?_
      refine J.s_op rfl (fun _ => Yd.move rfl) rfl ?_
      refine J.s_op rfl (fun _ => Yd.sub rfl rfl (by first | omega | (simp only [Int.toNat_natCast]; omega) | (simp only [List.length_map, List.length_drop, List.length_take, List.length_append, List.length_replicate]; omega) | (simp <;> omega))) rfl ?_
      refine J.s_op rfl (fun _ => Yd.move rfl) rfl ?_
      refine J.s_nil ?_
      refine J.o_op rfl (Yd.idxA Try.underlying77 ti59 rfl rfl (by first | omega | (simp only [Int.toNat_natCast]; omega) | (simp only [List.length_map, List.length_drop, List.length_take, List.length_append, List.length_replicate]; omega) | (simp <;> omega))) rfl ?_
      refine J.o_op rfl (Yd.load pl59 rfl (Cel.cellM c5_2 0 rfl 0 (by have hl_ := Cel.lenM c5_2 0 rfl; first | omega | (simp only [Int.toNat_natCast]; omega) | (simp at hl_ ⊢ <;> omega)))) rfl ?_
      refine J.o_op rfl (Yd.idxA Try.underlying77 ti59 rfl rfl (by first | omega | (simp only [Int.toNat_natCast]; omega) | (simp only [List.length_map, List.length_drop, List.length_take, List.length_append, List.length_replicate]; omega) | (simp <;> omega))) rfl ?_
      refine J.o_op rfl (Yd.load pl59 rfl (Cel.cellM c5_2 0 rfl 0 (by have hl_ := Cel.lenM c5_2 0 rfl; first | omega | (simp only [Int.toNat_natCast]; omega) | (simp at hl_ ⊢ <;> omega)))) rfl ?_
      refine J.o_op rfl (Yd.add_u32 rfl rfl) rfl ?_
      refine J.o_nil ?_
      refine J.s_op rfl (fun _ => Yd.add_u32 rfl rfl) rfl ?_
      refine J.s_op rfl (fun _ => Yd.add_u32 rfl rfl) rfl ?_
      refine J.s_one rfl (Yd.idxA Try.underlying77 ti59 rfl rfl (by first | omega | (simp only [Int.toNat_natCast]; omega) | (simp only [List.length_map, List.length_drop, List.length_take, List.length_append, List.length_replicate]; omega) | (simp <;> omega))) rfl ?_
      refine J.s_eff0 rfl (Ye.storeM ti59 c5_2 0 rfl rfl rfl rfl (by first | omega | (simp only [Int.toNat_natCast]; omega) | (simp only [List.length_map, List.length_drop, List.length_take, List.length_append, List.length_replicate]; omega) | (simp <;> omega)) (fun _ => rfl) (fun _ => rfl)) ?_
      rintro _ w14 ⟨cX, hu⟩
      simp only [List.set_cons_zero, List.set_cons_succ] at cX
      have e0 := e0.upd hz_b5_2 hu
      have c2_0 := Cel.upd c2_0 hu (by omega)
      have c4_1 := Cel.upd c4_1 hu (by omega)
      have c6_4 := Cel.upd c6_4 hu (by omega)
      replace c5_2 := cX
      clear cX hu
      refine J.s_nil ?_
      refine J.n_np ?_
      refine J.n_block ?_
      refine J.n_then ?_
      refine J.region ?_
      refine J.op (Yd.add rfl rfl (by first | omega | (simp only [Int.toNat_natCast]; omega) | (simp only [List.length_map, List.length_drop, List.length_take, List.length_append, List.length_replicate]; omega) | (simp <;> omega))) rfl ?_
      refine J.op (Yd.move rfl) rfl ?_
      refine J.nil ?_
      refine J.n_then ?_
      exact J.round (k + 1) ⟨rfl, rfl, rfl, rfl, rfl, rfl, trivial⟩ (⟨by omega, c2_0, c4_1, Cel.cong c5_2 (by (rw [Int.toNat_natCast, ← arr256_set l k (by omega), ← next256_hi l k (by omega) (by omega)]; simp only [show ((k : Int) - 15).toNat = k - 15 by omega, show ((k : Int) - 2).toNat = k - 2 by omega, show ((k : Int) - 16).toNat = k - 16 by omega, show ((k : Int) - 7).toNat = k - 7 by omega]; rfl)), c6_4, e0⟩) (by omega)
  · skip
    refine J.exit ?_
    refine J.x_then ?_
    refine J.x_then ?_
    refine J.x_block ?_
    refine J.n_then ?_
    refine J.seq ?_
    refine J.region ?_
    refine J.op (Yd.loadA ag60 ti60 rfl c2_0 0 rfl) rfl ?_
    refine J.eff (Ye.alloc ti60 (S := [(0, 8, (List.replicate 8 0).map (fun x : UInt32 => W32 x))]) (by simp [SegAll, SegOK, Value.cells])) rfl ?_
    rintro _ w15 ⟨b12_14, rfl, hb_, c12_14, x1⟩
    have hz_b12_14 := Nat.le_trans e0.size hb_
    have lt_b2_0_b12_14 : b2_0 < b12_14 := Nat.lt_of_lt_of_le (Cel.lt c2_0) hb_
    have lt_b4_1_b12_14 : b4_1 < b12_14 := Nat.lt_of_lt_of_le (Cel.lt c4_1) hb_
    have lt_b5_2_b12_14 : b5_2 < b12_14 := Nat.lt_of_lt_of_le (Cel.lt c5_2) hb_
    have lt_b6_4_b12_14 : b6_4 < b12_14 := Nat.lt_of_lt_of_le (Cel.lt c6_4) hb_
    have e0 := e0.trans x1
    have c2_0 := c2_0.ext x1
    have c4_1 := c4_1.ext x1
    have c5_2 := c5_2.ext x1
    have c6_4 := c6_4.ext x1
    clear x1 hb_
    refine J.eff0 (Ye.storeA (ys := List.map (fun x : UInt32 => W32 x) _) ti60 c12_14 0 rfl rfl rfl rfl (by first | (rw [List.length_map]; omega) | (simp; done) | rfl | (simp <;> omega)) (one_M _ (fun _ => rfl))) ?_
    rintro _ w16 ⟨cX, hu⟩
    simp only [List.set_cons_zero, List.set_cons_succ] at cX
    have e0 := e0.upd hz_b12_14 hu
    have c2_0 := Cel.upd c2_0 hu (by omega)
    have c4_1 := Cel.upd c4_1 hu (by omega)
    have c5_2 := Cel.upd c5_2 hu (by omega)
    have c6_4 := Cel.upd c6_4 hu (by omega)
    replace c12_14 := cX
    clear cX hu
    refine J.nil ?_
    refine J.n_then ?_
    refine J.seq ?_
    refine J.seq ?_
    refine J.region ?_
    refine J.op (Yd.move rfl) rfl ?_
    refine J.nil ?_
    refine J.n_then ?_
    refine J.block ?_
    refine J.loop (ι := Nat) (fun i => [(75, I i), (2, .pointer (some ⟨b2_0, 0, none⟩)), (4, .pointer (some ⟨b4_1, 0, none⟩)), (5, .pointer (some ⟨b5_2, 0, none⟩)), (6, .pointer (some ⟨b6_4, 0, none⟩)), (12, .pointer (some ⟨b12_14, 0, none⟩))]) (fun i w' => i ≤ 64 ∧ Cel w' b2_0 60 [(0, 8, h.map fun x => W32 x)] ∧ Cel w' b4_1 60 [(0, 8, (List.replicate 8 0).map fun x => W32 x)] ∧ Cel w' b5_2 77 [(0, 64, (arr256 l 64).map fun x => W32 x)] ∧ Cel w' b6_4 72 [(0, 80, roundsL.map fun x => W64 x)] ∧ Cel w' b12_14 60 [(0, 8, (rnd256 h (sched256 l 64) i).map fun x => W32 x)] ∧ Ext w w') (fun i => 64 - i) (0) ⟨rfl, rfl, rfl, rfl, rfl, rfl, trivial⟩ (⟨by omega, c2_0, c4_1, Cel.cong c5_2 (by rw [show k = 64 by omega]), c6_4, Cel.cong c12_14 (by rfl), e0⟩) ?_
    rintro k w17 ⟨hk, c2_0, c4_1, c5_2, c6_4, c12_14, e0⟩
    have hal := arr256_len l 64 (by omega)
    have hrl := rnd256_len h (sched256 l 64) hh k
    have hkl : roundsL.length = 80 := rfl
    refine J.seq ?_
    refine J.region ?_
    refine J.op (Yd.lss rfl rfl) rfl ?_
    refine J.nil ?_
    refine J.n_then ?_
    refine J.seq ?_
    refine J.cond_dec rfl (fun hc2 => ?_) (fun hc2 => ?_)
    · skip
      refine J.skip ?_
      refine J.n_then ?_
      refine J.seq ?_
      refine J.block ?_
      refine J.seq ?_
      refine J.region ?_
      refine J.op (Yd.move rfl) rfl ?_
      refine J.op (Yd.assign rfl) rfl ?_
      refine J.nil ?_
      refine J.n_then ?_
      refine J.seq ?_
      refine J.regionO [] [(0, 1), (1, 1), (2, 1), (3, 1), (4, 1)] [(5, true)] mix (by kernel_rfl) ?_
      refine J.s_nil ?_
      refine J.o_op rfl (Yd.idxA Try.underlying60 ti59 rfl rfl (by first | omega | (simp only [Int.toNat_natCast]; omega) | (simp only [List.length_map, List.length_drop, List.length_take, List.length_append, List.length_replicate]; omega) | (simp <;> omega))) rfl ?_
      refine J.o_op rfl (Yd.load pl59 rfl (Cel.cellM c12_14 0 rfl 0 (by have hl_ := Cel.lenM c12_14 0 rfl; first | omega | (simp only [Int.toNat_natCast]; omega) | (simp at hl_ ⊢ <;> omega)))) rfl ?_
      refine J.o_op rfl (Yd.idxA Try.underlying60 ti59 rfl rfl (by first | omega | (simp only [Int.toNat_natCast]; omega) | (simp only [List.length_map, List.length_drop, List.length_take, List.length_append, List.length_replicate]; omega) | (simp <;> omega))) rfl ?_
      refine J.o_op rfl (Yd.load pl59 rfl (Cel.cellM c12_14 0 rfl 0 (by have hl_ := Cel.lenM c12_14 0 rfl; first | omega | (simp only [Int.toNat_natCast]; omega) | (simp at hl_ ⊢ <;> omega)))) rfl ?_
      refine J.o_op rfl (Yd.assign rfl) rfl ?_
      refine J.o_nil ?_
      refine J.s_op rfl (fun _ => Yd.assign rfl) rfl ?_
      refine J.s_nil ?_
      refine J.n_np ?_
      refine J.n_then ?_
      refine J.seq ?_
      refine J.region ?_
      refine J.op (Yd.move rfl) rfl ?_
      refine J.eff (Ye.call cl67 rfl (RotL32_ok (m := 6) (by omega))) rfl ?_
      rintro _ w18 ⟨rfl, x1⟩
      have e0 := e0.trans x1
      have c2_0 := c2_0.ext x1
      have c4_1 := c4_1.ext x1
      have c5_2 := c5_2.ext x1
      have c6_4 := c6_4.ext x1
      have c12_14 := c12_14.ext x1
      clear x1
      refine J.op (Yd.move rfl) rfl ?_
      refine J.eff (Ye.call cl67 rfl (RotL32_ok (m := 11) (by omega))) rfl ?_
      rintro _ w19 ⟨rfl, x1⟩
      have e0 := e0.trans x1
      have c2_0 := c2_0.ext x1
      have c4_1 := c4_1.ext x1
      have c5_2 := c5_2.ext x1
      have c6_4 := c6_4.ext x1
      have c12_14 := c12_14.ext x1
      clear x1
      refine J.op (Yd.xor_u32 rfl rfl) rfl ?_
      refine J.op (Yd.move rfl) rfl ?_
      refine J.eff (Ye.call cl67 rfl (RotL32_ok (m := 25) (by omega))) rfl ?_
      rintro _ w20 ⟨rfl, x1⟩
      have e0 := e0.trans x1
      have c2_0 := c2_0.ext x1
      have c4_1 := c4_1.ext x1
      have c5_2 := c5_2.ext x1
      have c6_4 := c6_4.ext x1
      have c12_14 := c12_14.ext x1
      clear x1
      refine J.op (Yd.xor_u32 rfl rfl) rfl ?_
      refine J.op (Yd.assign rfl) rfl ?_
      refine J.nil ?_
      refine J.n_then ?_
      refine J.seq ?_
      refine J.regionO [(2, true), (4, true), (8, true), (9, true), (15, true), (21, true)] [(0, 1), (1, 1), (5, 1), (6, 1), (10, 1), (11, 1), (16, 1), (17, 1), (22, 1), (23, 1), (3, 1), (7, 1), (12, 1), (13, 1), (14, 1), (18, 1), (19, 1), (20, 1)] [(24, true), (25, true)] mix (by kernel_rfl) ?_
      refine J.s_op rfl (fun _ => Yd.move rfl) rfl ?_
      refine J.s_op rfl (fun _ => Yd.move rfl) rfl ?_
      refine J.s_op rfl (fun _ => Yd.move rfl) rfl ?_
      refine J.s_op rfl (fun _ => Yd.xor1_u32 rfl) rfl ?_
      refine J.s_op rfl (fun _ => Yd.move rfl) rfl ?_
      refine J.s_op rfl (fun _ => Yd.move rfl) rfl ?_
      refine J.s_nil ?_
      refine J.o_op rfl (Yd.idxA Try.underlying60 ti59 rfl rfl (by first | omega | (simp only [Int.toNat_natCast]; omega) | (simp only [List.length_map, List.length_drop, List.length_take, List.length_append, List.length_replicate]; omega) | (simp <;> omega))) rfl ?_
      refine J.o_op rfl (Yd.load pl59 rfl (Cel.cellM c12_14 0 rfl 0 (by have hl_ := Cel.lenM c12_14 0 rfl; first | omega | (simp only [Int.toNat_natCast]; omega) | (simp at hl_ ⊢ <;> omega)))) rfl ?_
      refine J.o_op rfl (Yd.idxA Try.underlying60 ti59 rfl rfl (by first | omega | (simp only [Int.toNat_natCast]; omega) | (simp only [List.length_map, List.length_drop, List.length_take, List.length_append, List.length_replicate]; omega) | (simp <;> omega))) rfl ?_
      refine J.o_op rfl (Yd.load pl59 rfl (Cel.cellM c12_14 0 rfl 0 (by have hl_ := Cel.lenM c12_14 0 rfl; first | omega | (simp only [Int.toNat_natCast]; omega) | (simp at hl_ ⊢ <;> omega)))) rfl ?_
      refine J.o_op rfl (Yd.idxA Try.underlying60 ti59 rfl rfl (by first | omega | (simp only [Int.toNat_natCast]; omega) | (simp only [List.length_map, List.length_drop, List.length_take, List.length_append, List.length_replicate]; omega) | (simp <;> omega))) rfl ?_
      refine J.o_op rfl (Yd.load pl59 rfl (Cel.cellM c12_14 0 rfl 0 (by have hl_ := Cel.lenM c12_14 0 rfl; first | omega | (simp only [Int.toNat_natCast]; omega) | (simp at hl_ ⊢ <;> omega)))) rfl ?_
      refine J.o_op rfl (Yd.idxA Try.underlying72 ti42 rfl rfl (by first | omega | (simp only [Int.toNat_natCast]; omega) | (simp only [List.length_map, List.length_drop, List.length_take, List.length_append, List.length_replicate]; omega) | (simp <;> omega))) rfl ?_
      refine J.o_op rfl (Yd.load pl42 rfl (Cel.cellM c6_4 0 rfl 0 (by have hl_ := Cel.lenM c6_4 0 rfl; first | omega | (simp only [Int.toNat_natCast]; omega) | (simp at hl_ ⊢ <;> omega)))) rfl ?_
      refine J.o_op rfl (Yd.idxA Try.underlying77 ti59 rfl rfl (by first | omega | (simp only [Int.toNat_natCast]; omega) | (simp only [List.length_map, List.length_drop, List.length_take, List.length_append, List.length_replicate]; omega) | (simp <;> omega))) rfl ?_
      refine J.o_op rfl (Yd.load pl59 rfl (Cel.cellM c5_2 0 rfl 0 (by have hl_ := Cel.lenM c5_2 0 rfl; first | omega | (simp only [Int.toNat_natCast]; omega) | (simp at hl_ ⊢ <;> omega)))) rfl ?_
      refine J.o_op rfl (Yd.add_u32 rfl rfl) rfl ?_
      refine J.o_op rfl (Yd.and_u32 rfl rfl) rfl ?_
      refine J.o_op rfl (Yd.and_u32 rfl rfl) rfl ?_
      refine J.o_op rfl (Yd.xor_u32 rfl rfl) rfl ?_
      refine J.o_op rfl (Yd.add_u32 rfl rfl) rfl ?_
      refine J.o_op rfl (Yd.shr_u64 rfl rfl (by first | omega | (simp only [Int.toNat_natCast]; omega) | (simp only [List.length_map, List.length_drop, List.length_take, List.length_append, List.length_replicate]; omega) | (simp <;> omega))) rfl ?_
      refine J.o_op rfl (Yd.cv_64_32 Try.underlying42 Try.underlying59 rfl) rfl ?_
      refine J.o_op rfl (Yd.add_u32 rfl rfl) rfl ?_
      refine J.o_nil ?_
      refine J.s_op rfl (fun _ => Yd.add_u32 rfl rfl) rfl ?_
      refine J.s_op rfl (fun _ => Yd.assign rfl) rfl ?_
      refine J.s_nil ?_
      refine J.n_np ?_
      refine J.n_then ?_
      refine J.seq ?_
      refine J.region ?_
      refine J.op (Yd.move rfl) rfl ?_
      refine J.eff (Ye.call cl67 rfl (RotL32_ok (m := 2) (by omega))) rfl ?_
      rintro _ w21 ⟨rfl, x1⟩
      have e0 := e0.trans x1
      have c2_0 := c2_0.ext x1
      have c4_1 := c4_1.ext x1
      have c5_2 := c5_2.ext x1
      have c6_4 := c6_4.ext x1
      have c12_14 := c12_14.ext x1
      clear x1
      refine J.op (Yd.move rfl) rfl ?_
      refine J.eff (Ye.call cl67 rfl (RotL32_ok (m := 13) (by omega))) rfl ?_
      rintro _ w22 ⟨rfl, x1⟩
      have e0 := e0.trans x1
      have c2_0 := c2_0.ext x1
      have c4_1 := c4_1.ext x1
      have c5_2 := c5_2.ext x1
      have c6_4 := c6_4.ext x1
      have c12_14 := c12_14.ext x1
      clear x1
      refine J.op (Yd.xor_u32 rfl rfl) rfl ?_
      refine J.op (Yd.move rfl) rfl ?_
      refine J.eff (Ye.call cl67 rfl (RotL32_ok (m := 22) (by omega))) rfl ?_
      rintro _ w23 ⟨rfl, x1⟩
      have e0 := e0.trans x1
      have c2_0 := c2_0.ext x1
      have c4_1 := c4_1.ext x1
      have c5_2 := c5_2.ext x1
      have c6_4 := c6_4.ext x1
      have c12_14 := c12_14.ext x1
      clear x1
      refine J.op (Yd.xor_u32 rfl rfl) rfl ?_
      refine J.op (Yd.assign rfl) rfl ?_
      refine J.nil ?_
      refine J.n_then ?_
      refine J.seq ?_
      refine J.region ?_
      refine J.op (Yd.move rfl) rfl ?_
      refine J.op (Yd.move rfl) rfl ?_
      refine J.op (Yd.idxA Try.underlying60 ti59 rfl rfl (by first | omega | (simp only [Int.toNat_natCast]; omega) | (simp only [List.length_map, List.length_drop, List.length_take, List.length_append, List.length_replicate]; omega) | (simp <;> omega))) rfl ?_
      refine J.op (Yd.load pl59 rfl (Cel.cellM c12_14 0 rfl 0 (by have hl_ := Cel.lenM c12_14 0 rfl; first | omega | (simp only [Int.toNat_natCast]; omega) | (simp at hl_ ⊢ <;> omega)))) rfl ?_
      refine J.op (Yd.and_u32 rfl rfl) rfl ?_
      refine J.op (Yd.move rfl) rfl ?_
      refine J.op (Yd.idxA Try.underlying60 ti59 rfl rfl (by first | omega | (simp only [Int.toNat_natCast]; omega) | (simp only [List.length_map, List.length_drop, List.length_take, List.length_append, List.length_replicate]; omega) | (simp <;> omega))) rfl ?_
      refine J.op (Yd.load pl59 rfl (Cel.cellM c12_14 0 rfl 0 (by have hl_ := Cel.lenM c12_14 0 rfl; first | omega | (simp only [Int.toNat_natCast]; omega) | (simp at hl_ ⊢ <;> omega)))) rfl ?_
      refine J.op (Yd.and_u32 rfl rfl) rfl ?_
      refine J.op (Yd.xor_u32 rfl rfl) rfl ?_
      refine J.op (Yd.idxA Try.underlying60 ti59 rfl rfl (by first | omega | (simp only [Int.toNat_natCast]; omega) | (simp only [List.length_map, List.length_drop, List.length_take, List.length_append, List.length_replicate]; omega) | (simp <;> omega))) rfl ?_
      refine J.op (Yd.load pl59 rfl (Cel.cellM c12_14 0 rfl 0 (by have hl_ := Cel.lenM c12_14 0 rfl; first | omega | (simp only [Int.toNat_natCast]; omega) | (simp at hl_ ⊢ <;> omega)))) rfl ?_
      refine J.op (Yd.idxA Try.underlying60 ti59 rfl rfl (by first | omega | (simp only [Int.toNat_natCast]; omega) | (simp only [List.length_map, List.length_drop, List.length_take, List.length_append, List.length_replicate]; omega) | (simp <;> omega))) rfl ?_
      refine J.op (Yd.load pl59 rfl (Cel.cellM c12_14 0 rfl 0 (by have hl_ := Cel.lenM c12_14 0 rfl; first | omega | (simp only [Int.toNat_natCast]; omega) | (simp at hl_ ⊢ <;> omega)))) rfl ?_
      refine J.op (Yd.and_u32 rfl rfl) rfl ?_
      refine J.op (Yd.xor_u32 rfl rfl) rfl ?_
      refine J.op (Yd.add_u32 rfl rfl) rfl ?_
      refine J.op (Yd.assign rfl) rfl ?_
      refine J.nil ?_
      refine J.n_then ?_
      refine J.region ?_
      refine J.op (Yd.move rfl) rfl ?_
      refine J.op (Yd.move rfl) rfl ?_
      refine J.op (Yd.add_u32 rfl rfl) rfl ?_
      refine J.op (Yd.move rfl) rfl ?_
      refine J.op (Yd.idxA Try.underlying60 ti59 rfl rfl (by first | omega | (simp only [Int.toNat_natCast]; omega) | (simp only [List.length_map, List.length_drop, List.length_take, List.length_append, List.length_replicate]; omega) | (simp <;> omega))) rfl ?_
      refine J.op (Yd.load pl59 rfl (Cel.cellM c12_14 0 rfl 0 (by have hl_ := Cel.lenM c12_14 0 rfl; first | omega | (simp only [Int.toNat_natCast]; omega) | (simp at hl_ ⊢ <;> omega)))) rfl ?_
      refine J.op (Yd.idxA Try.underlying60 ti59 rfl rfl (by first | omega | (simp only [Int.toNat_natCast]; omega) | (simp only [List.length_map, List.length_drop, List.length_take, List.length_append, List.length_replicate]; omega) | (simp <;> omega))) rfl ?_
      refine J.op (Yd.load pl59 rfl (Cel.cellM c12_14 0 rfl 0 (by have hl_ := Cel.lenM c12_14 0 rfl; first | omega | (simp only [Int.toNat_natCast]; omega) | (simp at hl_ ⊢ <;> omega)))) rfl ?_
      refine J.op (Yd.idxA Try.underlying60 ti59 rfl rfl (by first | omega | (simp only [Int.toNat_natCast]; omega) | (simp only [List.length_map, List.length_drop, List.length_take, List.length_append, List.length_replicate]; omega) | (simp <;> omega))) rfl ?_
      refine J.op (Yd.load pl59 rfl (Cel.cellM c12_14 0 rfl 0 (by have hl_ := Cel.lenM c12_14 0 rfl; first | omega | (simp only [Int.toNat_natCast]; omega) | (simp at hl_ ⊢ <;> omega)))) rfl ?_
      refine J.op (Yd.move rfl) rfl ?_
      refine J.op (Yd.add_u32 rfl rfl) rfl ?_
      refine J.op (Yd.move rfl) rfl ?_
      refine J.op (Yd.idxA Try.underlying60 ti59 rfl rfl (by first | omega | (simp only [Int.toNat_natCast]; omega) | (simp only [List.length_map, List.length_drop, List.length_take, List.length_append, List.length_replicate]; omega) | (simp <;> omega))) rfl ?_
      refine J.op (Yd.load pl59 rfl (Cel.cellM c12_14 0 rfl 0 (by have hl_ := Cel.lenM c12_14 0 rfl; first | omega | (simp only [Int.toNat_natCast]; omega) | (simp at hl_ ⊢ <;> omega)))) rfl ?_
      refine J.op (Yd.idxA Try.underlying60 ti59 rfl rfl (by first | omega | (simp only [Int.toNat_natCast]; omega) | (simp only [List.length_map, List.length_drop, List.length_take, List.length_append, List.length_replicate]; omega) | (simp <;> omega))) rfl ?_
      refine J.op (Yd.load pl59 rfl (Cel.cellM c12_14 0 rfl 0 (by have hl_ := Cel.lenM c12_14 0 rfl; first | omega | (simp only [Int.toNat_natCast]; omega) | (simp at hl_ ⊢ <;> omega)))) rfl ?_
      refine J.op (Yd.buildA (cells := ((step256 (rnd256 h (sched256 l 64) k) (shr_u64 (roundsL.getD k 0) 32).toUInt32 ((arr256 l 64).getD k 0)).map fun x => W32 x).toArray) Try.underlying60 ti59 ti60 rfl (by kernel_rfl)) rfl ?_
      refine J.eff0 (Ye.storeA (ys := List.map (fun x : UInt32 => W32 x) _) ti60 c12_14 0 rfl rfl rfl rfl (by first | (rw [List.length_map]; omega) | (simp; done) | rfl | (simp <;> omega)) (one_M _ (fun _ => rfl))) ?_
      rintro _ w24 ⟨cX, hu⟩
      simp only [List.set_cons_zero, List.set_cons_succ] at cX
      have e0 := e0.upd hz_b12_14 hu
      have c2_0 := Cel.upd c2_0 hu (by omega)
      have c4_1 := Cel.upd c4_1 hu (by omega)
      have c5_2 := Cel.upd c5_2 hu (by omega)
      have c6_4 := Cel.upd c6_4 hu (by omega)
      replace c12_14 := cX
      clear cX hu
      refine J.nil ?_
      refine J.n_block ?_
      refine J.n_then ?_
      refine J.region ?_
      refine J.op (Yd.add rfl rfl (by first | omega | (simp only [Int.toNat_natCast]; omega) | (simp only [List.length_map, List.length_drop, List.length_take, List.length_append, List.length_replicate]; omega) | (simp <;> omega))) rfl ?_
      refine J.op (Yd.move rfl) rfl ?_
      refine J.nil ?_
      refine J.n_then ?_
      exact J.round (k + 1) ⟨rfl, rfl, rfl, rfl, rfl, rfl, trivial⟩ (⟨by omega, c2_0, c4_1, c5_2, c6_4, Cel.cong c12_14 (by rw [arr256_get l 64 k (by omega)]; rfl), e0⟩) (by omega)
    · skip
      refine J.exit ?_
      refine J.x_then ?_
      refine J.x_then ?_
      refine J.x_block ?_
      refine J.n_then ?_
      refine J.seq ?_
      refine J.seq ?_
      refine J.region ?_
      refine J.op (Yd.move rfl) rfl ?_
      refine J.nil ?_
      refine J.n_then ?_
      refine J.block ?_
      refine J.loop (ι := Nat) (fun i => [(159, I i), (2, .pointer (some ⟨b2_0, 0, none⟩)), (4, .pointer (some ⟨b4_1, 0, none⟩)), (12, .pointer (some ⟨b12_14, 0, none⟩))]) (fun i w' => i ≤ 8 ∧ Cel w' b2_0 60 [(0, 8, (fillU (fun j => h.getD j 0 + (rnd256 h (sched256 l 64) 64).getD j 0) h i).map fun x => W32 x)] ∧ Cel w' b4_1 60 [(0, 8, (List.replicate 8 0).map fun x => W32 x)] ∧ Cel w' b12_14 60 [(0, 8, (rnd256 h (sched256 l 64) 64).map fun x => W32 x)] ∧ Ext w w') (fun i => 8 - i) (0) ⟨rfl, rfl, rfl, rfl, trivial⟩ (⟨by omega, Cel.cong c2_0 (by rw [fillU_zero]), c4_1, Cel.cong c12_14 (by rw [show k = 64 by omega]), e0⟩) ?_
      rintro k w25 ⟨hk, c2_0, c4_1, c12_14, e0⟩
      have hrl := rnd256_len h (sched256 l 64) hh 64
      have hfl := fillU_len (fun j => h.getD j 0 + (rnd256 h (sched256 l 64) 64).getD j 0) h k
      refine J.seq ?_
      refine J.region ?_
      refine J.op (Yd.lss rfl rfl) rfl ?_
      refine J.nil ?_
      refine J.n_then ?_
      refine J.seq ?_
      refine J.cond_dec rfl (fun hc3 => ?_) (fun hc3 => ?_)
      · skip
        refine J.skip ?_
        refine J.n_then ?_
        refine J.seq ?_
        refine J.block ?_
        refine J.seq ?_
        refine J.region ?_
        refine J.op (Yd.move rfl) rfl ?_
        refine J.op (Yd.assign rfl) rfl ?_
        refine J.nil ?_
        refine J.n_then ?_
        refine J.regionO [(0, true), (3, true)] [(1, 1), (2, 1), (4, 1), (5, 1)] [(6, true), (7, false), (8, false)] mix (by kernel_rfl) ?_
        refine J.s_op rfl (fun _ => Yd.move rfl) rfl ?_
        refine J.s_op rfl (fun _ => Yd.move rfl) rfl ?_
        refine J.s_nil ?_
        refine J.o_op rfl (Yd.idxA Try.underlying60 ti59 rfl rfl (by first | omega | (simp only [Int.toNat_natCast]; omega) | (simp only [List.length_map, List.length_drop, List.length_take, List.length_append, List.length_replicate]; omega) | (simp <;> omega))) rfl ?_
        refine J.o_op rfl (Yd.load pl59 rfl (Cel.cellM c2_0 0 rfl 0 (by have hl_ := Cel.lenM c2_0 0 rfl; first | omega | (simp only [Int.toNat_natCast]; omega) | (simp at hl_ ⊢ <;> omega)))) rfl ?_
        refine J.o_op rfl (Yd.idxA Try.underlying60 ti59 rfl rfl (by first | omega | (simp only [Int.toNat_natCast]; omega) | (simp only [List.length_map, List.length_drop, List.length_take, List.length_append, List.length_replicate]; omega) | (simp <;> omega))) rfl ?_
        refine J.o_op rfl (Yd.load pl59 rfl (Cel.cellM c12_14 0 rfl 0 (by have hl_ := Cel.lenM c12_14 0 rfl; first | omega | (simp only [Int.toNat_natCast]; omega) | (simp at hl_ ⊢ <;> omega)))) rfl ?_
        refine J.o_nil ?_
        refine J.s_op rfl (fun _ => Yd.add_u32 rfl rfl) rfl ?_
        refine J.s_one rfl (Yd.idxA Try.underlying60 ti59 rfl rfl (by first | omega | (simp only [Int.toNat_natCast]; omega) | (simp only [List.length_map, List.length_drop, List.length_take, List.length_append, List.length_replicate]; omega) | (simp <;> omega))) rfl ?_
        refine J.s_eff0 rfl (Ye.storeM ti59 c2_0 0 rfl rfl rfl rfl (by first | omega | (simp only [Int.toNat_natCast]; omega) | (simp only [List.length_map, List.length_drop, List.length_take, List.length_append, List.length_replicate]; omega) | (simp <;> omega)) (fun _ => rfl) (fun _ => rfl)) ?_
        rintro _ w26 ⟨cX, hu⟩
        simp only [List.set_cons_zero, List.set_cons_succ] at cX
        have e0 := e0.upd hz_b2_0 hu
        have c4_1 := Cel.upd c4_1 hu (by omega)
        have c12_14 := Cel.upd c12_14 hu (by omega)
        replace c2_0 := cX
        clear cX hu
        refine J.s_nil ?_
        refine J.n_np ?_
        refine J.n_block ?_
        refine J.n_then ?_
        refine J.region ?_
        refine J.op (Yd.add rfl rfl (by first | omega | (simp only [Int.toNat_natCast]; omega) | (simp only [List.length_map, List.length_drop, List.length_take, List.length_append, List.length_replicate]; omega) | (simp <;> omega))) rfl ?_
        refine J.op (Yd.move rfl) rfl ?_
        refine J.nil ?_
        refine J.n_then ?_
        exact J.round (k + 1) ⟨rfl, rfl, rfl, rfl, trivial⟩ (⟨by omega, Cel.cong c2_0 (by rw [Int.toNat_natCast, fillU_get _ _ _ _ _ (Nat.le_refl _)]; exact fillU_set _ _ _), c4_1, c12_14, e0⟩) (by omega)
      · skip
        refine J.exit ?_
        refine J.x_then ?_
        refine J.x_then ?_
        refine J.x_block ?_
        refine J.n_then ?_
        refine J.seq ?_
        refine J.region ?_
        refine J.op (Yd.loadA ag60 ti60 rfl c2_0 0 rfl) rfl ?_
        refine J.eff0 (Ye.storeA (ys := List.map (fun x : UInt32 => W32 x) _) ti60 c4_1 0 rfl rfl rfl rfl (by first | (rw [List.length_map]; omega) | (simp; done) | rfl | (simp <;> omega)) (one_M _ (fun _ => rfl))) ?_
        rintro _ w27 ⟨cX, hu⟩
        simp only [List.set_cons_zero, List.set_cons_succ] at cX
        have e0 := e0.upd hz_b4_1 hu
        have c2_0 := Cel.upd c2_0 hu (by omega)
        have c12_14 := Cel.upd c12_14 hu (by omega)
        replace c4_1 := cX
        clear cX hu
        refine J.nil ?_
        refine J.n_then ?_
        refine J.ret ?_
        exact J.ret1c rfl rfl ag60 ti60 c4_1 0 rfl (⟨_, rfl, by rw [show k = 8 by omega, fillU_all _ _ _ (by omega), hh]; rfl, e0⟩)
end Ytpkpicnldpbomaa
end Go.Proofs
