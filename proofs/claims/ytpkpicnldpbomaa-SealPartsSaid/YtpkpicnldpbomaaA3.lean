import Derived.Test.YtpkpicnldpbomaaT
import Derived.Test.YtpkpicnldpbomaaA2
set_option linter.unusedVariables false
set_option linter.unusedSimpArgs false
set_option maxRecDepth 100000
set_option maxHeartbeats 4000000
namespace Go.Proofs
open Go.X Go.RowKit
namespace Ytpkpicnldpbomaa
theorem CBlock_ok {c : Nat} {s W : List UInt8} {w : World} (hc : Cel w c 95 [(0, 256, boxT.map (fun x : UInt8 => B x)), (256, 240, W.map (fun x : UInt8 => B x))]) (hs : s.length = 16) (hW : W.length = 240) : C Try.prog 55 [.pointer (some ⟨c, 0, none⟩), Ag (fun x => B x) s] w (Ret fun v w' => v = Ag (fun x => B x) (encR W s 14) ∧ Ext w w') := by
  have hb := boxT_len
  have e0 := Ext.refl w
  refine C.enter Try.func55 rfl Try.ntmps55 rfl ?_
  refine J.seq ?_
  refine J.region ?_
  refine J.eff (Ye.box rfl (Ag.all _ _ (n := 16) (by first | omega | exact idx_u8' _ | (simp only [Int.toNat_natCast]; omega) | (simp only [List.length_map, List.length_drop, List.length_take, List.length_append, List.length_replicate]; omega) | (simp <;> omega)))) rfl ?_
  rintro _ w1 ⟨b3_0, rfl, hb_, c3_0, x1⟩
  have fr_b3_0 : Fr w.heap.size (some b3_0) := Fr.le (Fr.blk hb_) e0.size
  have e0 := e0.trans x1
  clear x1 hb_
  refine J.eff (Ye.alloc ti86 (S := [(0, 16, (List.replicate 16 0).map (fun x : UInt8 => B x))]) (by simp [SegAll, SegOK, Value.cells])) rfl ?_
  rintro _ w2 ⟨b4_1, rfl, hb_, c4_1, x1⟩
  have ap_b3_0_b4_1 : Ap (some b3_0) (some b4_1) := Ap.mk (Cel.live c3_0) (Fr.blk hb_)
  have fr_b4_1 : Fr w.heap.size (some b4_1) := Fr.le (Fr.blk hb_) e0.size
  have e0 := e0.trans x1
  have c3_0 := c3_0.ext x1
  clear x1 hb_
  refine J.nil ?_
  refine J.n_then ?_
  refine J.seq ?_
  refine J.seq ?_
  refine J.region ?_
  refine J.op (Yd.move rfl) rfl ?_
  refine J.nil ?_
  refine J.n_then ?_
  refine J.block ?_
  refine J.loop (ι := Nat) (fun i => [(12, I i), (0, .pointer (some ⟨c, 0, none⟩)), (3, .pointer (some ⟨b3_0, 0, none⟩)), (4, .pointer (some ⟨b4_1, 0, none⟩))]) (fun i w' => i ≤ 16 ∧ Cel w' b3_0 86 [(0, 16, (fillU (xorF s W 0) (s) i).map (fun x : UInt8 => B x))] ∧ Cel w' b4_1 86 [(0, 16, (List.replicate 16 0).map (fun x : UInt8 => B x))] ∧ Ext w w') (fun i => 16 - i) (0) ⟨rfl, rfl, rfl, rfl, trivial⟩ (⟨by omega, Cel.eq c3_0 (by rw [fillU_zero]), c4_1, e0⟩) ?_
  rintro k w3 ⟨hk, c3_0, c4_1, e0⟩
  have hfl := fillU_len (xorF s W 0) s k
  refine J.seq ?_
  refine J.region ?_
  refine J.op (Yd.lss rfl rfl) rfl ?_
  refine J.nil ?_
  refine J.n_then ?_
  refine J.seq ?_
  refine J.cond_dec rfl (fun hc0 => ?_) (fun hc0 => ?_)
  · skip
    refine J.skip ?_
    refine J.n_then ?_
    refine J.seq ?_
    refine J.block ?_
    refine J.seq ?_
    refine J.region ?_
    refine J.op (Yd.move rfl) rfl ?_
    refine J.op (Yd.assign rfl) rfl ?_
    refine J.nil ?_
    refine J.n_then ?_
    refine J.regionO [(0, true), (1, true), (3, true), (4, true), (5, true), (6, true), (7, true)] [(2, 1), (8, 1)] [(9, true), (10, true), (11, false)] mix (by kernel_rfl) ?_
    refine J.s_op rfl (fun _ => Yd.move rfl) rfl ?_
    refine J.s_op rfl (fun _ => Yd.idxA Try.underlying86 ti5 rfl rfl (by first | omega | exact idx_u8' _ | (simp only [Int.toNat_natCast]; omega) | (simp only [List.length_map, List.length_drop, List.length_take, List.length_append, List.length_replicate]; omega) | (simp <;> omega))) rfl ?_
    refine J.s_op rfl (fun _ => Yd.move rfl) rfl ?_
    refine J.s_op rfl (fun _ => Yd.move rfl) rfl ?_
    refine J.s_op rfl (fun _ => Yd.nilCheck rfl) rfl ?_
    refine J.s_op rfl (fun _ => Yd.cast (Yd.fieldA Try.underlying95 rfl ti93 rfl rfl) (show _ = Value.pointer (some ⟨c, 256, none⟩) from rfl)) rfl ?_
    refine J.s_op rfl (fun _ => Yd.idxA Try.underlying93 ti5 rfl rfl (by first | omega | exact idx_u8' _ | (simp only [Int.toNat_natCast]; omega) | (simp only [List.length_map, List.length_drop, List.length_take, List.length_append, List.length_replicate]; omega) | (simp <;> omega))) rfl ?_
    refine J.s_nil ?_
    refine J.o_op rfl (Yd.load pl5 rfl (Cel.cellM c3_0 0 rfl 0 (by have hl_ := Cel.lenM c3_0 0 rfl; first | omega | (rw [hl_]; exact idx_u8' _) | (simp only [Int.toNat_natCast]; omega) | (simp at hl_ ⊢ <;> omega)))) rfl ?_
    refine J.o_op rfl (Yd.load pl5 rfl (Cel.cellM (Cel.ext hc e0) 1 rfl 0 (by have hl_ := Cel.lenM (Cel.ext hc e0) 1 rfl; first | omega | (rw [hl_]; exact idx_u8' _) | (simp only [Int.toNat_natCast]; omega) | (simp at hl_ ⊢ <;> omega)))) rfl ?_
    refine J.o_nil ?_
    refine J.s_op rfl (fun _ => Yd.xor_u8 rfl rfl) rfl ?_
    refine J.s_op rfl (fun _ => Yd.idxA Try.underlying86 ti5 rfl rfl (by first | omega | exact idx_u8' _ | (simp only [Int.toNat_natCast]; omega) | (simp only [List.length_map, List.length_drop, List.length_take, List.length_append, List.length_replicate]; omega) | (simp <;> omega))) rfl ?_
    refine J.s_eff0 rfl (Ye.storeM ti5 c3_0 0 rfl rfl rfl rfl (by first | omega | exact idx_u8' _ | (simp only [Int.toNat_natCast]; omega) | (simp only [List.length_map, List.length_drop, List.length_take, List.length_append, List.length_replicate]; omega) | (simp <;> omega)) (fun _ => rfl) (fun _ => rfl)) ?_
    rintro _ w4 ⟨cX, hu⟩
    simp only [List.set_cons_zero, List.set_cons_succ] at cX
    have hg := hu.gb
    have c4_1 := Cel.gbk c4_1 hg (Ap.symm ap_b3_0_b4_1)
    have e0 := Ext.gbk e0 fr_b3_0 hg
    clear hg
    replace c3_0 := cX
    clear cX hu
    refine J.s_nil ?_
    refine J.n_np ?_
    refine J.n_block ?_
    refine J.n_then ?_
    refine J.region ?_
    refine J.op (Yd.add rfl rfl (by first | omega | exact idx_u8' _ | (simp only [Int.toNat_natCast]; omega) | (simp only [List.length_map, List.length_drop, List.length_take, List.length_append, List.length_replicate]; omega) | (simp <;> omega))) rfl ?_
    refine J.op (Yd.move rfl) rfl ?_
    refine J.nil ?_
    refine J.n_then ?_
    exact J.round (k + 1) ⟨rfl, rfl, rfl, rfl, trivial⟩ (⟨by omega, Cel.eq c3_0 (by rw [Int.toNat_natCast, fillU_get _ _ _ _ _ (Nat.le_refl _), show s.getD k 0 ^^^ W.getD k 0 = xorF s W 0 k by rw [xorF, Nat.zero_add], fillU_set]), c4_1, e0⟩) (by omega)
  · skip
    refine J.exit ?_
    refine J.x_then ?_
    refine J.x_then ?_
    refine J.x_block ?_
    refine J.n_then ?_
    refine J.seq ?_
    refine J.seq ?_
    refine J.region ?_
    refine J.op (Yd.assign rfl) rfl ?_
    refine J.nil ?_
    refine J.n_then ?_
    refine J.block ?_
    refine J.loop (ι := Nat) (fun i => [(6, I ((i : Int) + 1)), (0, .pointer (some ⟨c, 0, none⟩)), (3, .pointer (some ⟨b3_0, 0, none⟩)), (4, .pointer (some ⟨b4_1, 0, none⟩))]) (fun i w' => i ≤ 14 ∧ Cel w' b3_0 86 [(0, 16, (encR W s i).map (fun x : UInt8 => B x))] ∧ Cel w' b4_1 86 [(0, 16, (List.replicate 16 0).map (fun x : UInt8 => B x))] ∧ Ext w w') (fun i => 14 - i) (0) ⟨rfl, rfl, rfl, rfl, trivial⟩ (⟨by omega, Cel.eq c3_0 (by rw [show k = 16 by omega, xor16_fill _ _ _ _ hs]; rfl), c4_1, e0⟩) ?_
    rintro n w5 ⟨hn, c3_0, c4_1, e0⟩
    have hel := encR_len W s n
    refine J.seq ?_
    refine J.seq ?_
    refine J.region ?_
    refine J.op (Yd.move rfl) rfl ?_
    refine J.op (Yd.leq rfl rfl) rfl ?_
    refine J.nil ?_
    refine J.n_then ?_
    refine J.cond_dec rfl (fun hc1 => ?_) (fun hc1 => ?_)
    · skip
      refine J.skip ?_
      refine J.n_then ?_
      refine J.seq ?_
      refine J.block ?_
      refine J.seq ?_
      refine J.region ?_
      refine J.eff (Ye.alloc ti86 (S := [(0, 16, (List.replicate 16 0).map (fun x : UInt8 => B x))]) (by simp [SegAll, SegOK, Value.cells])) rfl ?_
      rintro _ w6 ⟨b7_5, rfl, hb_, c7_5, x1⟩
      have ap_b3_0_b7_5 : Ap (some b3_0) (some b7_5) := Ap.mk (Cel.live c3_0) (Fr.blk hb_)
      have ap_b4_1_b7_5 : Ap (some b4_1) (some b7_5) := Ap.mk (Cel.live c4_1) (Fr.blk hb_)
      have fr_b7_5 : Fr w.heap.size (some b7_5) := Fr.le (Fr.blk hb_) e0.size
      have e0 := e0.trans x1
      have c3_0 := c3_0.ext x1
      have c4_1 := c4_1.ext x1
      clear x1 hb_
      refine J.nil ?_
      refine J.n_then ?_
      refine J.seq ?_
      refine J.seq ?_
      refine J.region ?_
      refine J.op (Yd.move rfl) rfl ?_
      refine J.nil ?_
      refine J.n_then ?_
      refine J.block ?_
      refine J.loop (ι := Nat) (fun i => [(6, I ((n : Int) + 1)), (31, I i), (0, .pointer (some ⟨c, 0, none⟩)), (3, .pointer (some ⟨b3_0, 0, none⟩)), (4, .pointer (some ⟨b4_1, 0, none⟩)), (7, .pointer (some ⟨b7_5, 0, none⟩))]) (fun i w' => i ≤ 16 ∧ Cel w' b3_0 86 [(0, 16, ((encR W s n)).map (fun x : UInt8 => B x))] ∧ Cel w' b4_1 86 [(0, 16, (List.replicate 16 0).map (fun x : UInt8 => B x))] ∧ Cel w' b7_5 86 [(0, 16, (fillU (subF (encR W s n)) (List.replicate 16 0) i).map (fun x : UInt8 => B x))] ∧ Ext w w') (fun i => 16 - i) (0) ⟨rfl, rfl, rfl, rfl, rfl, rfl, trivial⟩ (⟨by omega, c3_0, c4_1, Cel.eq c7_5 (by rw [fillU_zero]), e0⟩) ?_
      rintro k w7 ⟨hk, c3_0, c4_1, c7_5, e0⟩
      have hfl := fillU_len (subF (encR W s n)) (List.replicate 16 0) k
      rw [List.length_replicate] at hfl
      refine J.seq ?_
      refine J.region ?_
      refine J.op (Yd.lss rfl rfl) rfl ?_
      refine J.nil ?_
      refine J.n_then ?_
      refine J.seq ?_
      refine J.cond_dec rfl (fun hc2 => ?_) (fun hc2 => ?_)
      · skip
        refine J.skip ?_
        refine J.n_then ?_
        refine J.seq ?_
        refine J.block ?_
        refine J.seq ?_
        refine J.region ?_
        refine J.op (Yd.move rfl) rfl ?_
        refine J.op (Yd.assign rfl) rfl ?_
        refine J.nil ?_
        refine J.n_then ?_
        refine J.regionO [(0, true), (1, true), (2, true), (3, true), (4, true), (5, true), (6, true), (7, true), (8, true), (10, true), (11, true), (9, false), (12, true), (13, false), (14, true), (15, false)] [] [] mix (by kernel_rfl) ?_
        refine J.s_op rfl (fun _ => Yd.move rfl) rfl ?_
        refine J.s_op rfl (fun _ => Yd.move rfl) rfl ?_
        refine J.s_op rfl (fun _ => Yd.move rfl) rfl ?_
        refine J.s_op rfl (fun _ => Yd.move rfl) rfl ?_
        refine J.s_op rfl (fun _ => Yd.rem rfl rfl (by first | omega | exact idx_u8' _ | (simp only [Int.toNat_natCast]; omega) | (simp only [List.length_map, List.length_drop, List.length_take, List.length_append, List.length_replicate]; omega) | (simp <;> omega)) (by first | omega | exact idx_u8' _ | (simp only [Int.toNat_natCast]; omega) | (simp only [List.length_map, List.length_drop, List.length_take, List.length_append, List.length_replicate]; omega) | (simp <;> omega))) rfl ?_
        refine J.s_op rfl (fun _ => Yd.mul rfl rfl (by first | omega | exact idx_u8' _ | (simp only [Int.toNat_natCast]; omega) | (simp only [List.length_map, List.length_drop, List.length_take, List.length_append, List.length_replicate]; omega) | (simp <;> omega))) rfl ?_
        refine J.s_op rfl (fun _ => Yd.add rfl rfl (by first | omega | exact idx_u8' _ | (simp only [Int.toNat_natCast]; omega) | (simp only [List.length_map, List.length_drop, List.length_take, List.length_append, List.length_replicate]; omega) | (simp <;> omega))) rfl ?_
        refine J.s_op rfl (fun _ => Yd.rem rfl rfl (by first | omega | exact idx_u8' _ | (simp only [Int.toNat_natCast]; omega) | (simp only [List.length_map, List.length_drop, List.length_take, List.length_append, List.length_replicate]; omega) | (simp <;> omega)) (by first | omega | exact idx_u8' _ | (simp only [Int.toNat_natCast]; omega) | (simp only [List.length_map, List.length_drop, List.length_take, List.length_append, List.length_replicate]; omega) | (simp <;> omega))) rfl ?_
        refine J.s_op rfl (fun _ => Yd.idxA Try.underlying86 ti5 rfl rfl (by first | omega | exact idx_u8' _ | (simp only [Int.toNat_natCast]; omega) | (simp only [List.length_map, List.length_drop, List.length_take, List.length_append, List.length_replicate]; omega) | (simp <;> omega))) rfl ?_
        refine J.s_op rfl (fun _ => Yd.nilCheck rfl) rfl ?_
        refine J.s_op rfl (fun _ => Yd.cast (Yd.fieldA Try.underlying95 rfl ti51 rfl rfl) (show _ = Value.pointer (some ⟨c, 0, none⟩) from rfl)) rfl ?_
        refine J.s_one rfl (Yd.load pl5 rfl (Cel.cellM c3_0 0 rfl 0 (by have hl_ := Cel.lenM c3_0 0 rfl; first | omega | (rw [hl_]; exact idx_u8' _) | (simp only [Int.toNat_natCast]; omega) | (simp at hl_ ⊢ <;> omega)))) rfl ?_
        refine J.s_op rfl (fun _ => Yd.idxA Try.underlying51 ti5 rfl rfl (idx_u8 _)) rfl ?_
        refine J.s_one rfl (Yd.load pl5 rfl (Cel.cellM (Cel.ext hc e0) 0 rfl 0 (by have hl_ := Cel.lenM (Cel.ext hc e0) 0 rfl; first | omega | (rw [hl_]; exact idx_u8' _) | (simp only [Int.toNat_natCast]; omega) | (simp at hl_ ⊢ <;> omega)))) rfl ?_
        refine J.s_op rfl (fun _ => Yd.idxA Try.underlying86 ti5 rfl rfl (by first | omega | exact idx_u8' _ | (simp only [Int.toNat_natCast]; omega) | (simp only [List.length_map, List.length_drop, List.length_take, List.length_append, List.length_replicate]; omega) | (simp <;> omega))) rfl ?_
        refine J.s_eff0 rfl (Ye.storeM ti5 c7_5 0 rfl rfl rfl rfl (by first | omega | exact idx_u8' _ | (simp only [Int.toNat_natCast]; omega) | (simp only [List.length_map, List.length_drop, List.length_take, List.length_append, List.length_replicate]; omega) | (simp <;> omega)) (fun _ => rfl) (fun _ => rfl)) ?_
        rintro _ w8 ⟨cX, hu⟩
        simp only [List.set_cons_zero, List.set_cons_succ] at cX
        have hg := hu.gb
        have c3_0 := Cel.gbk c3_0 hg ap_b3_0_b7_5
        have c4_1 := Cel.gbk c4_1 hg ap_b4_1_b7_5
        have e0 := Ext.gbk e0 fr_b7_5 hg
        clear hg
        replace c7_5 := cX
        clear cX hu
        refine J.s_nil ?_
        refine J.o_nil ?_
        refine J.s_nil ?_
        refine J.n_np ?_
        refine J.n_block ?_
        refine J.n_then ?_
        refine J.region ?_
        refine J.op (Yd.add rfl rfl (by first | omega | exact idx_u8' _ | (simp only [Int.toNat_natCast]; omega) | (simp only [List.length_map, List.length_drop, List.length_take, List.length_append, List.length_replicate]; omega) | (simp <;> omega))) rfl ?_
        refine J.op (Yd.move rfl) rfl ?_
        refine J.nil ?_
        refine J.n_then ?_
        exact J.round (k + 1) ⟨rfl, rfl, rfl, rfl, rfl, rfl, trivial⟩ (⟨by omega, c3_0, c4_1, Cel.eq c7_5 (by simp only [Int.toNat_natCast, show (((k : Int) + (k : Int) % 4 * 4) % 16).toNat = (k + k % 4 * 4) % 16 by omega]; exact congrArg (fun l => [(0, 16, List.map (fun x : UInt8 => B x) l)]) (fillU_set (subF (encR W s n)) _ k)), e0⟩) (by omega)
      · skip
        refine J.exit ?_
        refine J.x_then ?_
        refine J.x_then ?_
        refine J.x_block ?_
        refine J.n_then ?_
        refine J.seq ?_
        refine J.seq ?_
        refine J.region ?_
        refine J.op (Yd.assign rfl) rfl ?_
        refine J.nil ?_
        refine J.n_then ?_
        refine J.block ?_
        refine J.loop (ι := Nat) (fun i => [(6, I ((n : Int) + 1)), (9, I (4 * (i : Int))), (0, .pointer (some ⟨c, 0, none⟩)), (3, .pointer (some ⟨b3_0, 0, none⟩)), (4, .pointer (some ⟨b4_1, 0, none⟩)), (7, .pointer (some ⟨b7_5, 0, none⟩))]) (fun i w' => (i ≤ 4 ∧ (n + 1 = 14 → i = 0)) ∧ Cel w' b3_0 86 [(0, 16, ((encR W s n)).map (fun x : UInt8 => B x))] ∧ Cel w' b4_1 86 [(0, 16, (List.replicate 16 0).map (fun x : UInt8 => B x))] ∧ Cel w' b7_5 86 [(0, 16, (mixP (sub16 (encR W s n)) i).map (fun x : UInt8 => B x))] ∧ Ext w w') (fun i => 4 - i) (0) ⟨rfl, (someI (by omega)), rfl, rfl, rfl, rfl, trivial⟩ (⟨by omega, c3_0, c4_1, Cel.eq c7_5 (by rw [show k = 16 by omega, sub16_fill _ _ (by simp), mixP_zero]), e0⟩) ?_
        rintro k w9 ⟨hk, c3_0, c4_1, c7_5, e0⟩
        have hml := mixP_len (sub16 (encR W s n)) (sub16_len _) k hk.1
        refine J.seq ?_
        refine J.seq ?_
        refine J.region ?_
        refine J.op (Yd.move rfl) rfl ?_
        refine J.op (Yd.lss rfl rfl) rfl ?_
        refine J.op (Yd.move rfl) rfl ?_
        refine J.split_dec (t := 52) rfl (fun hg16 => ?_) (fun hg16 => ?_)
        · skip
          refine J.op_g rfl rfl rfl (Yd.move rfl) rfl ?_
          refine J.op_g rfl rfl rfl (Yd.lss rfl rfl) rfl ?_
          refine J.op (Yd.pick_t rfl rfl) rfl ?_
          refine J.nil ?_
          refine J.n_then ?_
          refine J.cond_dec rfl (fun hc3 => ?_) (fun hc3 => ?_)
          · skip
            refine J.skip ?_
            refine J.n_then ?_
            refine J.seq ?_
            refine J.block ?_
            refine J.seq ?_
            refine J.regionA [(0, true), (1, true), (3, true), (4, true), (5, true), (7, true), (8, true), (9, true), (11, true), (12, true), (13, true)] [(2, Asr.v 60 (B ((mixP (sub16 (encR W s n)) k).getD (4 * (k : Int)).toNat 0))), (6, Asr.v 64 (B ((mixP (sub16 (encR W s n)) k).getD (4 * (k : Int) + 1).toNat 0))), (10, Asr.v 68 (B ((mixP (sub16 (encR W s n)) k).getD (4 * (k : Int) + 2).toNat 0))), (14, Asr.v 72 (B ((mixP (sub16 (encR W s n)) k).getD (4 * (k : Int) + 3).toNat 0))), (15, Asr.v 73 (Ag (fun x => B x) [mixB ((mixP (sub16 (encR W s n)) k).getD (4 * (k : Int)).toNat 0) ((mixP (sub16 (encR W s n)) k).getD (4 * (k : Int) + 1).toNat 0) ((mixP (sub16 (encR W s n)) k).getD (4 * (k : Int) + 2).toNat 0) ((mixP (sub16 (encR W s n)) k).getD (4 * (k : Int) + 3).toNat 0), mixB ((mixP (sub16 (encR W s n)) k).getD (4 * (k : Int) + 1).toNat 0) ((mixP (sub16 (encR W s n)) k).getD (4 * (k : Int) + 2).toNat 0) ((mixP (sub16 (encR W s n)) k).getD (4 * (k : Int) + 3).toNat 0) ((mixP (sub16 (encR W s n)) k).getD (4 * (k : Int)).toNat 0), mixB ((mixP (sub16 (encR W s n)) k).getD (4 * (k : Int) + 2).toNat 0) ((mixP (sub16 (encR W s n)) k).getD (4 * (k : Int) + 3).toNat 0) ((mixP (sub16 (encR W s n)) k).getD (4 * (k : Int)).toNat 0) ((mixP (sub16 (encR W s n)) k).getD (4 * (k : Int) + 1).toNat 0), mixB ((mixP (sub16 (encR W s n)) k).getD (4 * (k : Int) + 3).toNat 0) ((mixP (sub16 (encR W s n)) k).getD (4 * (k : Int)).toNat 0) ((mixP (sub16 (encR W s n)) k).getD (4 * (k : Int) + 1).toNat 0) ((mixP (sub16 (encR W s n)) k).getD (4 * (k : Int) + 2).toNat 0)])), (16, Asr.new 10 w9.heap.size 97 [(0, 4, (List.replicate 4 0).map (fun x : UInt8 => B x))])] [2, 6, 10, 14, 15, 16] [60, 64, 68, 72, 73, 10] [[], [], [], [], [0, 1, 2, 3], []] [(17, false)] rfl rfl mix (by kernel_rfl) ?_
            refine J.s_op rfl (fun _ => Yd.move rfl) rfl ?_
            refine J.s_op rfl (fun _ => Yd.idxA Try.underlying86 ti5 rfl rfl (by first | omega | exact idx_u8' _ | (simp only [Int.toNat_natCast]; omega) | (simp only [List.length_map, List.length_drop, List.length_take, List.length_append, List.length_replicate]; omega) | (simp <;> omega))) rfl ?_
            refine J.s_op rfl (fun _ => Yd.move rfl) rfl ?_
            refine J.s_op rfl (fun _ => Yd.add rfl rfl (by first | omega | exact idx_u8' _ | (simp only [Int.toNat_natCast]; omega) | (simp only [List.length_map, List.length_drop, List.length_take, List.length_append, List.length_replicate]; omega) | (simp <;> omega))) rfl ?_
            refine J.s_op rfl (fun _ => Yd.idxA Try.underlying86 ti5 rfl rfl (by first | omega | exact idx_u8' _ | (simp only [Int.toNat_natCast]; omega) | (simp only [List.length_map, List.length_drop, List.length_take, List.length_append, List.length_replicate]; omega) | (simp <;> omega))) rfl ?_
            refine J.s_op rfl (fun _ => Yd.move rfl) rfl ?_
            refine J.s_op rfl (fun _ => Yd.add rfl rfl (by first | omega | exact idx_u8' _ | (simp only [Int.toNat_natCast]; omega) | (simp only [List.length_map, List.length_drop, List.length_take, List.length_append, List.length_replicate]; omega) | (simp <;> omega))) rfl ?_
            refine J.s_op rfl (fun _ => Yd.idxA Try.underlying86 ti5 rfl rfl (by first | omega | exact idx_u8' _ | (simp only [Int.toNat_natCast]; omega) | (simp only [List.length_map, List.length_drop, List.length_take, List.length_append, List.length_replicate]; omega) | (simp <;> omega))) rfl ?_
            refine J.s_op rfl (fun _ => Yd.move rfl) rfl ?_
            refine J.s_op rfl (fun _ => Yd.add rfl rfl (by first | omega | exact idx_u8' _ | (simp only [Int.toNat_natCast]; omega) | (simp only [List.length_map, List.length_drop, List.length_take, List.length_append, List.length_replicate]; omega) | (simp <;> omega))) rfl ?_
            refine J.s_op rfl (fun _ => Yd.idxA Try.underlying86 ti5 rfl rfl (by first | omega | exact idx_u8' _ | (simp only [Int.toNat_natCast]; omega) | (simp only [List.length_map, List.length_drop, List.length_take, List.length_append, List.length_replicate]; omega) | (simp <;> omega))) rfl ?_
            refine J.s_nil ?_
            refine J.a_in [0, 1, 2, 3, 4, 5] rfl (by rfl) ⟨?_, ?_, ?_, ?_, ?_, ?_, trivial⟩ ?_
            · skip
              intro w10 x1
              have xs1 := x1.size
              have e0 := e0.trans x1
              have c3_0 := c3_0.ext x1
              have c4_1 := c4_1.ext x1
              have c7_5 := c7_5.ext x1
              clear x1
              refine PremP.nil ?_
              exact OpYe.val rfl (Yd.load pl5 rfl (Cel.cellM c7_5 0 rfl 0 (by have hl_ := Cel.lenM c7_5 0 rfl; first | omega | (rw [hl_]; exact idx_u8' _) | (simp only [Int.toNat_natCast]; omega) | (simp at hl_ ⊢ <;> omega))))
            · skip
              intro w11 x1
              have xs1 := x1.size
              have e0 := e0.trans x1
              have c3_0 := c3_0.ext x1
              have c4_1 := c4_1.ext x1
              have c7_5 := c7_5.ext x1
              clear x1
              refine PremP.nil ?_
              exact OpYe.val rfl (Yd.load pl5 rfl (Cel.cellM c7_5 0 rfl 0 (by have hl_ := Cel.lenM c7_5 0 rfl; first | omega | (rw [hl_]; exact idx_u8' _) | (simp only [Int.toNat_natCast]; omega) | (simp at hl_ ⊢ <;> omega))))
            · skip
              intro w12 x1
              have xs1 := x1.size
              have e0 := e0.trans x1
              have c3_0 := c3_0.ext x1
              have c4_1 := c4_1.ext x1
              have c7_5 := c7_5.ext x1
              clear x1
              refine PremP.nil ?_
              exact OpYe.val rfl (Yd.load pl5 rfl (Cel.cellM c7_5 0 rfl 0 (by have hl_ := Cel.lenM c7_5 0 rfl; first | omega | (rw [hl_]; exact idx_u8' _) | (simp only [Int.toNat_natCast]; omega) | (simp at hl_ ⊢ <;> omega))))
            · skip
              intro w13 x1
              have xs1 := x1.size
              have e0 := e0.trans x1
              have c3_0 := c3_0.ext x1
              have c4_1 := c4_1.ext x1
              have c7_5 := c7_5.ext x1
              clear x1
              refine PremP.nil ?_
              exact OpYe.val rfl (Yd.load pl5 rfl (Cel.cellM c7_5 0 rfl 0 (by have hl_ := Cel.lenM c7_5 0 rfl; first | omega | (rw [hl_]; exact idx_u8' _) | (simp only [Int.toNat_natCast]; omega) | (simp at hl_ ⊢ <;> omega))))
            · skip
              intro w14 x1
              refine PremP.v rfl ?_
              refine PremP.v rfl ?_
              refine PremP.v rfl ?_
              refine PremP.v rfl ?_
              have xs1 := x1.size
              have e0 := e0.trans x1
              have c3_0 := c3_0.ext x1
              have c4_1 := c4_1.ext x1
              have c7_5 := c7_5.ext x1
              clear x1
              refine PremP.nil ?_
              exact OpYe.mk rfl ((Ye.call cl70 rfl (Mixed_ok)).mono fun v w2 h => ⟨⟨(), h.1, trivial⟩, h.2⟩)
            · skip
              intro w15 x1
              have xs1 := x1.size
              have e0 := e0.trans x1
              have c3_0 := c3_0.ext x1
              have c4_1 := c4_1.ext x1
              have c7_5 := c7_5.ext x1
              clear x1
              refine PremP.nil ?_
              exact OpYe.mk rfl ((Ye.alloc ti97 (S := [(0, 4, (List.replicate 4 0).map (fun x : UInt8 => B x))]) (by simp [SegAll, SegOK, Value.cells])).mono fun v w2 h => let ⟨b_, e_, h1, h2, h3⟩ := h; ⟨⟨b_, e_, Nat.le_trans xs1 h1, h2⟩, h3⟩)
            intro w16 x1
            refine PremP.v rfl ?_
            refine PremP.v rfl ?_
            refine PremP.v rfl ?_
            refine PremP.v rfl ?_
            refine PremP.v rfl ?_
            refine PremP.new rfl fun b10_16 hb_b10_16 c10_16 => ?_
            have ap_b3_0_b10_16 : Ap (some b3_0) (some b10_16) := Ap.mk (Cel.live c3_0) (Fr.blk hb_b10_16)
            have ap_b4_1_b10_16 : Ap (some b4_1) (some b10_16) := Ap.mk (Cel.live c4_1) (Fr.blk hb_b10_16)
            have ap_b7_5_b10_16 : Ap (some b7_5) (some b10_16) := Ap.mk (Cel.live c7_5) (Fr.blk hb_b10_16)
            have fr_b10_16 : Fr w.heap.size (some b10_16) := Fr.le (Fr.blk hb_b10_16) e0.size
            have xs1 := x1.size
            have e0 := e0.trans x1
            have c3_0 := c3_0.ext x1
            have c4_1 := c4_1.ext x1
            have c7_5 := c7_5.ext x1
            clear x1
            refine PremP.nil ?_
            refine J.s_eff0 rfl (Ye.storeA (ys := List.map (fun x : UInt8 => B x) _) ti97 c10_16 0 rfl rfl rfl rfl (by first | (rw [List.length_map]; omega) | (simp; done) | rfl | (simp <;> omega)) (one_M _ (fun _ => rfl))) ?_
            rintro _ w17 ⟨cX, hu⟩
            simp only [List.set_cons_zero, List.set_cons_succ] at cX
            have hg := hu.gb
            have c3_0 := Cel.gbk c3_0 hg ap_b3_0_b10_16
            have c4_1 := Cel.gbk c4_1 hg ap_b4_1_b10_16
            have c7_5 := Cel.gbk c7_5 hg ap_b7_5_b10_16
            have e0 := Ext.gbk e0 fr_b10_16 hg
            clear hg
            replace c10_16 := cX
            clear cX hu
            refine J.s_nil ?_
            refine J.n_np ?_
            refine J.n_then ?_
            refine J.regionO [(0, true), (1, true), (2, true), (3, false)] [] [] mix (by kernel_rfl) ?_
            refine J.s_op rfl (fun _ => Yd.move rfl) rfl ?_
            refine J.s_op rfl (fun _ => Yd.cast (v' := asl b7_5 0 16 (4 * k) (16)) (Yd.sliceAL Try.underlying86 ti5 rfl rfl (by first | omega | exact idx_u8' _ | (simp only [Int.toNat_natCast]; omega) | (simp only [List.length_map, List.length_drop, List.length_take, List.length_append, List.length_replicate]; omega) | (simp <;> omega))) (asl_eq (by omega) (by omega))) rfl ?_
            refine J.s_op rfl (fun _ => Yd.sliceA Try.underlying97 ti5 rfl) rfl ?_
            refine J.s_eff rfl (Ye.copyA Try.underlying22 ti5 c7_5 0 rfl rfl (l := 4 * k) rfl (by omega) (by omega) rfl (Cel.bs c10_16 0 rfl (l := 0) (k := 4) (by omega) (by omega) (by decide)) (one_M _ (fun _ => rfl))) rfl ?_
            rintro _ w18 ⟨rfl, cX, hu⟩
            simp only [List.set_cons_zero, List.set_cons_succ] at cX
            have hg := hu.gb
            have c3_0 := Cel.gbk c3_0 hg ap_b3_0_b7_5
            have c4_1 := Cel.gbk c4_1 hg ap_b4_1_b7_5
            have c10_16 := Cel.gbk c10_16 hg (Ap.symm ap_b7_5_b10_16)
            have e0 := Ext.gbk e0 fr_b7_5 hg
            clear hg
            replace c7_5 := cX
            clear cX hu
            refine J.s_nil ?_
            refine J.o_nil ?_
            refine J.s_nil ?_
            refine J.n_np ?_
            refine J.n_block ?_
            refine J.n_then ?_
            refine J.region ?_
            refine J.op (Yd.move rfl) rfl ?_
            refine J.op (Yd.add rfl rfl (by first | omega | exact idx_u8' _ | (simp only [Int.toNat_natCast]; omega) | (simp only [List.length_map, List.length_drop, List.length_take, List.length_append, List.length_replicate]; omega) | (simp <;> omega))) rfl ?_
            refine J.op (Yd.assign rfl) rfl ?_
            refine J.nil ?_
            refine J.n_then ?_
            exact J.round (k + 1) ⟨rfl, (someI (by omega)), rfl, rfl, rfl, rfl, trivial⟩ (⟨by omega, c3_0, c4_1, Cel.eq c7_5 (by exact congrArg (fun l => [(0, 16, l)]) (copy_col (sub16 (encR W s n)) (sub16_len _) k (by omega) _ (by rfl) _ rfl)), e0⟩) (by omega)
          · skip
            refine J.exit ?_
            refine J.x_then ?_
            refine J.x_then ?_
            refine J.x_block ?_
            refine J.n_then ?_
            refine J.seq ?_
            refine J.region ?_
            refine J.op (Yd.move rfl) rfl ?_
            refine J.nil ?_
            refine J.n_then ?_
            refine J.block ?_
            refine J.loop (ι := Nat) (fun i => [(6, I ((n : Int) + 1)), (78, I i), (0, .pointer (some ⟨c, 0, none⟩)), (3, .pointer (some ⟨b3_0, 0, none⟩)), (4, .pointer (some ⟨b4_1, 0, none⟩)), (7, .pointer (some ⟨b7_5, 0, none⟩))]) (fun i w' => i ≤ 16 ∧ Cel w' b3_0 86 [(0, 16, (fillU (xorF (if n + 1 < 14 then mix16 (sub16 (encR W s n)) else (sub16 (encR W s n))) W (16 * (n + 1))) ((encR W s n)) i).map (fun x : UInt8 => B x))] ∧ Cel w' b4_1 86 [(0, 16, (List.replicate 16 0).map (fun x : UInt8 => B x))] ∧ Cel w' b7_5 86 [(0, 16, ((if n + 1 < 14 then mix16 (sub16 (encR W s n)) else (sub16 (encR W s n)))).map (fun x : UInt8 => B x))] ∧ Ext w w') (fun i => 16 - i) (0) ⟨rfl, rfl, rfl, rfl, rfl, rfl, trivial⟩ (⟨by omega, Cel.eq c3_0 (by rw [fillU_zero]), c4_1, Cel.eq c7_5 (by rw [if_neg (by omega), show k = 0 by omega, mixP_zero]), e0⟩) ?_
            rintro k w19 ⟨hk, c3_0, c4_1, c7_5, e0⟩
            have hfl := fillU_len (xorF (if n + 1 < 14 then mix16 (sub16 (encR W s n)) else (sub16 (encR W s n))) W (16 * (n + 1))) (encR W s n) k
            have hMl : (if n + 1 < 14 then mix16 (sub16 (encR W s n)) else (sub16 (encR W s n))).length = 16 := by split <;> simp [mix16_len, sub16_len]
            refine J.seq ?_
            refine J.region ?_
            refine J.op (Yd.lss rfl rfl) rfl ?_
            refine J.nil ?_
            refine J.n_then ?_
            refine J.seq ?_
            refine J.cond_dec rfl (fun hc4 => ?_) (fun hc4 => ?_)
            · skip
              refine J.skip ?_
              refine J.n_then ?_
              refine J.seq ?_
              refine J.block ?_
              refine J.seq ?_
              refine J.region ?_
              refine J.op (Yd.move rfl) rfl ?_
              refine J.op (Yd.assign rfl) rfl ?_
              refine J.nil ?_
              refine J.n_then ?_
              refine J.regionO [(0, true), (1, true), (2, true), (4, true), (5, true), (6, true), (7, true), (8, true), (9, true), (10, true), (11, true)] [(3, 1), (12, 1)] [(13, true), (14, true), (15, false)] mix (by kernel_rfl) ?_
              refine J.s_op rfl (fun _ => Yd.move rfl) rfl ?_
              refine J.s_op rfl (fun _ => Yd.move rfl) rfl ?_
              refine J.s_op rfl (fun _ => Yd.idxA Try.underlying86 ti5 rfl rfl (by first | omega | exact idx_u8' _ | (simp only [Int.toNat_natCast]; omega) | (simp only [List.length_map, List.length_drop, List.length_take, List.length_append, List.length_replicate]; omega) | (simp <;> omega))) rfl ?_
              refine J.s_op rfl (fun _ => Yd.move rfl) rfl ?_
              refine J.s_op rfl (fun _ => Yd.move rfl) rfl ?_
              refine J.s_op rfl (fun _ => Yd.mul rfl rfl (by first | omega | exact idx_u8' _ | (simp only [Int.toNat_natCast]; omega) | (simp only [List.length_map, List.length_drop, List.length_take, List.length_append, List.length_replicate]; omega) | (simp <;> omega))) rfl ?_
              refine J.s_op rfl (fun _ => Yd.move rfl) rfl ?_
              refine J.s_op rfl (fun _ => Yd.add rfl rfl (by first | omega | exact idx_u8' _ | (simp only [Int.toNat_natCast]; omega) | (simp only [List.length_map, List.length_drop, List.length_take, List.length_append, List.length_replicate]; omega) | (simp <;> omega))) rfl ?_
              refine J.s_op rfl (fun _ => Yd.nilCheck rfl) rfl ?_
              refine J.s_op rfl (fun _ => Yd.cast (Yd.fieldA Try.underlying95 rfl ti93 rfl rfl) (show _ = Value.pointer (some ⟨c, 256, none⟩) from rfl)) rfl ?_
              refine J.s_op rfl (fun _ => Yd.idxA Try.underlying93 ti5 rfl rfl (by first | omega | exact idx_u8' _ | (simp only [Int.toNat_natCast]; omega) | (simp only [List.length_map, List.length_drop, List.length_take, List.length_append, List.length_replicate]; omega) | (simp <;> omega))) rfl ?_
              refine J.s_nil ?_
              refine J.o_op rfl (Yd.load pl5 rfl (Cel.cellM c7_5 0 rfl 0 (by have hl_ := Cel.lenM c7_5 0 rfl; first | omega | (rw [hl_]; exact idx_u8' _) | (simp only [Int.toNat_natCast]; omega) | (simp at hl_ ⊢ <;> omega)))) rfl ?_
              refine J.o_op rfl (Yd.load pl5 rfl (Cel.cellM (Cel.ext hc e0) 1 rfl 0 (by have hl_ := Cel.lenM (Cel.ext hc e0) 1 rfl; first | omega | (rw [hl_]; exact idx_u8' _) | (simp only [Int.toNat_natCast]; omega) | (simp at hl_ ⊢ <;> omega)))) rfl ?_
              refine J.o_nil ?_
              refine J.s_op rfl (fun _ => Yd.xor_u8 rfl rfl) rfl ?_
              refine J.s_op rfl (fun _ => Yd.idxA Try.underlying86 ti5 rfl rfl (by first | omega | exact idx_u8' _ | (simp only [Int.toNat_natCast]; omega) | (simp only [List.length_map, List.length_drop, List.length_take, List.length_append, List.length_replicate]; omega) | (simp <;> omega))) rfl ?_
              refine J.s_eff0 rfl (Ye.storeM ti5 c3_0 0 rfl rfl rfl rfl (by first | omega | exact idx_u8' _ | (simp only [Int.toNat_natCast]; omega) | (simp only [List.length_map, List.length_drop, List.length_take, List.length_append, List.length_replicate]; omega) | (simp <;> omega)) (fun _ => rfl) (fun _ => rfl)) ?_
              rintro _ w20 ⟨cX, hu⟩
              simp only [List.set_cons_zero, List.set_cons_succ] at cX
              have hg := hu.gb
              have c4_1 := Cel.gbk c4_1 hg (Ap.symm ap_b3_0_b4_1)
              have c7_5 := Cel.gbk c7_5 hg (Ap.symm ap_b3_0_b7_5)
              have e0 := Ext.gbk e0 fr_b3_0 hg
              clear hg
              replace c3_0 := cX
              clear cX hu
              refine J.s_nil ?_
              refine J.n_np ?_
              refine J.n_block ?_
              refine J.n_then ?_
              refine J.region ?_
              refine J.op (Yd.add rfl rfl (by first | omega | exact idx_u8' _ | (simp only [Int.toNat_natCast]; omega) | (simp only [List.length_map, List.length_drop, List.length_take, List.length_append, List.length_replicate]; omega) | (simp <;> omega))) rfl ?_
              refine J.op (Yd.move rfl) rfl ?_
              refine J.nil ?_
              refine J.n_then ?_
              exact J.round (k + 1) ⟨rfl, rfl, rfl, rfl, rfl, rfl, trivial⟩ (⟨by omega, Cel.eq c3_0 (by rw [show (((n : Int) + 1) * 16 + (k : Int)).toNat = 16 * (n + 1) + k by omega, Int.toNat_natCast]; exact congrArg (fun l => [(0, 16, List.map (fun x : UInt8 => B x) l)]) (fillU_set (xorF (if n + 1 < 14 then mix16 (sub16 (encR W s n)) else (sub16 (encR W s n))) W (16 * (n + 1))) _ k)), c4_1, c7_5, e0⟩) (by omega)
            · skip
              refine J.exit ?_
              refine J.x_then ?_
              refine J.x_then ?_
              refine J.x_block ?_
              refine J.n_block ?_
              refine J.n_then ?_
              refine J.region ?_
              refine J.op (Yd.move rfl) rfl ?_
              refine J.op (Yd.add rfl rfl (by first | omega | exact idx_u8' _ | (simp only [Int.toNat_natCast]; omega) | (simp only [List.length_map, List.length_drop, List.length_take, List.length_append, List.length_replicate]; omega) | (simp <;> omega))) rfl ?_
              refine J.op (Yd.assign rfl) rfl ?_
              refine J.nil ?_
              refine J.n_then ?_
              exact J.round (n + 1) ⟨(someI (by omega)), rfl, rfl, rfl, trivial⟩ (⟨by omega, Cel.eq c3_0 (by rw [show k = 16 by omega, xor16_fill _ _ _ _ (encR_len _ _ _)]; exact congrArg (fun l => [(0, 16, List.map (fun x : UInt8 => B x) l)]) (encR_next W s n).symm), c4_1, e0⟩) (by omega)
        · skip
          refine J.not_g rfl rfl rfl rfl rfl ?_
          refine J.not_g rfl rfl rfl rfl rfl ?_
          refine J.op (Yd.pick_f rfl rfl) rfl ?_
          refine J.nil ?_
          refine J.n_then ?_
          refine J.cond_false rfl ?_
          refine J.exit ?_
          refine J.x_then ?_
          refine J.x_then ?_
          refine J.x_block ?_
          refine J.n_then ?_
          refine J.seq ?_
          refine J.region ?_
          refine J.op (Yd.move rfl) rfl ?_
          refine J.nil ?_
          refine J.n_then ?_
          refine J.block ?_
          refine J.loop (ι := Nat) (fun i => [(6, I ((n : Int) + 1)), (78, I i), (0, .pointer (some ⟨c, 0, none⟩)), (3, .pointer (some ⟨b3_0, 0, none⟩)), (4, .pointer (some ⟨b4_1, 0, none⟩)), (7, .pointer (some ⟨b7_5, 0, none⟩))]) (fun i w' => i ≤ 16 ∧ Cel w' b3_0 86 [(0, 16, (fillU (xorF (if n + 1 < 14 then mix16 (sub16 (encR W s n)) else (sub16 (encR W s n))) W (16 * (n + 1))) ((encR W s n)) i).map (fun x : UInt8 => B x))] ∧ Cel w' b4_1 86 [(0, 16, (List.replicate 16 0).map (fun x : UInt8 => B x))] ∧ Cel w' b7_5 86 [(0, 16, ((if n + 1 < 14 then mix16 (sub16 (encR W s n)) else (sub16 (encR W s n)))).map (fun x : UInt8 => B x))] ∧ Ext w w') (fun i => 16 - i) (0) ⟨rfl, rfl, rfl, rfl, rfl, rfl, trivial⟩ (⟨by omega, Cel.eq c3_0 (by rw [fillU_zero]), c4_1, Cel.eq c7_5 (by rw [if_pos (by omega), show k = 4 by omega, mixP_four _ (sub16_len _)]), e0⟩) ?_
          rintro k w21 ⟨hk, c3_0, c4_1, c7_5, e0⟩
          have hfl := fillU_len (xorF (if n + 1 < 14 then mix16 (sub16 (encR W s n)) else (sub16 (encR W s n))) W (16 * (n + 1))) (encR W s n) k
          have hMl : (if n + 1 < 14 then mix16 (sub16 (encR W s n)) else (sub16 (encR W s n))).length = 16 := by split <;> simp [mix16_len, sub16_len]
          refine J.seq ?_
          refine J.region ?_
          refine J.op (Yd.lss rfl rfl) rfl ?_
          refine J.nil ?_
          refine J.n_then ?_
          refine J.seq ?_
          refine J.cond_dec rfl (fun hc4 => ?_) (fun hc4 => ?_)
          · skip
            refine J.skip ?_
            refine J.n_then ?_
            refine J.seq ?_
            refine J.block ?_
            refine J.seq ?_
            refine J.region ?_
            refine J.op (Yd.move rfl) rfl ?_
            refine J.op (Yd.assign rfl) rfl ?_
            refine J.nil ?_
            refine J.n_then ?_
            refine J.regionO [(0, true), (1, true), (2, true), (4, true), (5, true), (6, true), (7, true), (8, true), (9, true), (10, true), (11, true)] [(3, 1), (12, 1)] [(13, true), (14, true), (15, false)] mix (by kernel_rfl) ?_
            refine J.s_op rfl (fun _ => Yd.move rfl) rfl ?_
            refine J.s_op rfl (fun _ => Yd.move rfl) rfl ?_
            refine J.s_op rfl (fun _ => Yd.idxA Try.underlying86 ti5 rfl rfl (by first | omega | exact idx_u8' _ | (simp only [Int.toNat_natCast]; omega) | (simp only [List.length_map, List.length_drop, List.length_take, List.length_append, List.length_replicate]; omega) | (simp <;> omega))) rfl ?_
            refine J.s_op rfl (fun _ => Yd.move rfl) rfl ?_
            refine J.s_op rfl (fun _ => Yd.move rfl) rfl ?_
            refine J.s_op rfl (fun _ => Yd.mul rfl rfl (by first | omega | exact idx_u8' _ | (simp only [Int.toNat_natCast]; omega) | (simp only [List.length_map, List.length_drop, List.length_take, List.length_append, List.length_replicate]; omega) | (simp <;> omega))) rfl ?_
            refine J.s_op rfl (fun _ => Yd.move rfl) rfl ?_
            refine J.s_op rfl (fun _ => Yd.add rfl rfl (by first | omega | exact idx_u8' _ | (simp only [Int.toNat_natCast]; omega) | (simp only [List.length_map, List.length_drop, List.length_take, List.length_append, List.length_replicate]; omega) | (simp <;> omega))) rfl ?_
            refine J.s_op rfl (fun _ => Yd.nilCheck rfl) rfl ?_
            refine J.s_op rfl (fun _ => Yd.cast (Yd.fieldA Try.underlying95 rfl ti93 rfl rfl) (show _ = Value.pointer (some ⟨c, 256, none⟩) from rfl)) rfl ?_
            refine J.s_op rfl (fun _ => Yd.idxA Try.underlying93 ti5 rfl rfl (by first | omega | exact idx_u8' _ | (simp only [Int.toNat_natCast]; omega) | (simp only [List.length_map, List.length_drop, List.length_take, List.length_append, List.length_replicate]; omega) | (simp <;> omega))) rfl ?_
            refine J.s_nil ?_
            refine J.o_op rfl (Yd.load pl5 rfl (Cel.cellM c7_5 0 rfl 0 (by have hl_ := Cel.lenM c7_5 0 rfl; first | omega | (rw [hl_]; exact idx_u8' _) | (simp only [Int.toNat_natCast]; omega) | (simp at hl_ ⊢ <;> omega)))) rfl ?_
            refine J.o_op rfl (Yd.load pl5 rfl (Cel.cellM (Cel.ext hc e0) 1 rfl 0 (by have hl_ := Cel.lenM (Cel.ext hc e0) 1 rfl; first | omega | (rw [hl_]; exact idx_u8' _) | (simp only [Int.toNat_natCast]; omega) | (simp at hl_ ⊢ <;> omega)))) rfl ?_
            refine J.o_nil ?_
            refine J.s_op rfl (fun _ => Yd.xor_u8 rfl rfl) rfl ?_
            refine J.s_op rfl (fun _ => Yd.idxA Try.underlying86 ti5 rfl rfl (by first | omega | exact idx_u8' _ | (simp only [Int.toNat_natCast]; omega) | (simp only [List.length_map, List.length_drop, List.length_take, List.length_append, List.length_replicate]; omega) | (simp <;> omega))) rfl ?_
            refine J.s_eff0 rfl (Ye.storeM ti5 c3_0 0 rfl rfl rfl rfl (by first | omega | exact idx_u8' _ | (simp only [Int.toNat_natCast]; omega) | (simp only [List.length_map, List.length_drop, List.length_take, List.length_append, List.length_replicate]; omega) | (simp <;> omega)) (fun _ => rfl) (fun _ => rfl)) ?_
            rintro _ w22 ⟨cX, hu⟩
            simp only [List.set_cons_zero, List.set_cons_succ] at cX
            have hg := hu.gb
            have c4_1 := Cel.gbk c4_1 hg (Ap.symm ap_b3_0_b4_1)
            have c7_5 := Cel.gbk c7_5 hg (Ap.symm ap_b3_0_b7_5)
            have e0 := Ext.gbk e0 fr_b3_0 hg
            clear hg
            replace c3_0 := cX
            clear cX hu
            refine J.s_nil ?_
            refine J.n_np ?_
            refine J.n_block ?_
            refine J.n_then ?_
            refine J.region ?_
            refine J.op (Yd.add rfl rfl (by first | omega | exact idx_u8' _ | (simp only [Int.toNat_natCast]; omega) | (simp only [List.length_map, List.length_drop, List.length_take, List.length_append, List.length_replicate]; omega) | (simp <;> omega))) rfl ?_
            refine J.op (Yd.move rfl) rfl ?_
            refine J.nil ?_
            refine J.n_then ?_
            exact J.round (k + 1) ⟨rfl, rfl, rfl, rfl, rfl, rfl, trivial⟩ (⟨by omega, Cel.eq c3_0 (by rw [show (((n : Int) + 1) * 16 + (k : Int)).toNat = 16 * (n + 1) + k by omega, Int.toNat_natCast]; exact congrArg (fun l => [(0, 16, List.map (fun x : UInt8 => B x) l)]) (fillU_set (xorF (if n + 1 < 14 then mix16 (sub16 (encR W s n)) else (sub16 (encR W s n))) W (16 * (n + 1))) _ k)), c4_1, c7_5, e0⟩) (by omega)
          · skip
            refine J.exit ?_
            refine J.x_then ?_
            refine J.x_then ?_
            refine J.x_block ?_
            refine J.n_block ?_
            refine J.n_then ?_
            refine J.region ?_
            refine J.op (Yd.move rfl) rfl ?_
            refine J.op (Yd.add rfl rfl (by first | omega | exact idx_u8' _ | (simp only [Int.toNat_natCast]; omega) | (simp only [List.length_map, List.length_drop, List.length_take, List.length_append, List.length_replicate]; omega) | (simp <;> omega))) rfl ?_
            refine J.op (Yd.assign rfl) rfl ?_
            refine J.nil ?_
            refine J.n_then ?_
            exact J.round (n + 1) ⟨(someI (by omega)), rfl, rfl, rfl, trivial⟩ (⟨by omega, Cel.eq c3_0 (by rw [show k = 16 by omega, xor16_fill _ _ _ _ (encR_len _ _ _)]; exact congrArg (fun l => [(0, 16, List.map (fun x : UInt8 => B x) l)]) (encR_next W s n).symm), c4_1, e0⟩) (by omega)
    · skip
      refine J.exit ?_
      refine J.x_then ?_
      refine J.x_then ?_
      refine J.x_block ?_
      refine J.n_then ?_
      refine J.seq ?_
      refine J.region ?_
      refine J.op (Yd.loadA ag86 ti86 rfl c3_0 0 rfl) rfl ?_
      refine J.eff0 (Ye.storeA (ys := List.map (fun x : UInt8 => B x) _) ti86 c4_1 0 rfl rfl rfl rfl (by first | (rw [List.length_map]; omega) | (simp; done) | rfl | (simp <;> omega)) (one_M _ (fun _ => rfl))) ?_
      rintro _ w23 ⟨cX, hu⟩
      simp only [List.set_cons_zero, List.set_cons_succ] at cX
      have hg := hu.gb
      have c3_0 := Cel.gbk c3_0 hg ap_b3_0_b4_1
      have e0 := Ext.gbk e0 fr_b4_1 hg
      clear hg
      replace c4_1 := cX
      clear cX hu
      refine J.nil ?_
      refine J.n_then ?_
      refine J.ret ?_
      exact J.ret1c rfl rfl ag86 ti86 c4_1 0 rfl (⟨_, rfl, by rw [show n = 14 by omega], e0⟩)
end Ytpkpicnldpbomaa
end Go.Proofs
