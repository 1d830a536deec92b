import Derived.Test.YtpkpicnldpbomaaT
import Derived.Test.YtpkpicnldpbomaaA1
set_option linter.unusedVariables false
set_option linter.unusedSimpArgs false
set_option maxRecDepth 100000
set_option maxHeartbeats 4000000
namespace Go.Proofs
open Go.X Go.RowKit
namespace Ytpkpicnldpbomaa
theorem Ready_ok {a : Value} {key : List UInt8} {w : World} (hk : Bs w a key) (h32 : key.length = 32) : C Try.prog 54 [a] w (Ret fun u w' => ∃ b, u = .pointer (some ⟨b, 0, none⟩) ∧ w.heap.size ≤ b ∧ Cel w' b 95 [(0, 256, boxT.map (fun x : UInt8 => B x)), (256, 240, (kx key 52).map (fun x : UInt8 => B x))] ∧ Ext w w') := by
  have hkl := fun n => kx_len key h32 n
  have e0 := Ext.refl w
  refine C.enter Try.func54 rfl Try.ntmps54 rfl ?_
  refine J.seq ?_
  refine J.region ?_
  refine J.op (Yd.assign rfl) rfl ?_
  refine J.nil ?_
  refine J.n_then ?_
  refine J.seq ?_
  refine J.region ?_
  refine J.op (Yd.buildS (pl := [(0, 256), (256, 240)]) Try.underlying95 (by kernel_rfl) ti95 rfl rfl) rfl ?_
  refine J.eff (Ye.box (S := [(0, 256, (List.replicate 256 0).map (fun x : UInt8 => B x)), (256, 240, (List.replicate 240 0).map (fun x : UInt8 => B x))]) rfl (by simp [SegAll, SegOK, Value.cells])) rfl ?_
  rintro _ w1 ⟨b10_0, rfl, hb_, c10_0, x1⟩
  have fr_b10_0 : Fr w.heap.size (some b10_0) := Fr.le (Fr.blk hb_) e0.size
  have e0 := e0.trans x1
  clear x1 hb_
  refine J.op (Yd.assign rfl) rfl ?_
  refine J.nil ?_
  refine J.n_then ?_
  refine J.seq ?_
  refine J.seq ?_
  refine J.region ?_
  refine J.op (Yd.move rfl) rfl ?_
  refine J.nil ?_
  refine J.n_then ?_
  refine J.block ?_
  refine J.loop (ι := Nat) (fun i => [(11, I i), (0, a), (3, .pointer (some ⟨b10_0, 0, none⟩))]) (fun i w' => i ≤ 256 ∧ Cel w' b10_0 95 [(0, 256, (fillU boxF (List.replicate 256 0) i).map (fun x : UInt8 => B x)), (256, 240, (List.replicate 240 0).map (fun x : UInt8 => B x))] ∧ Ext w w') (fun i => 256 - i) (0) ⟨rfl, rfl, rfl, trivial⟩ (⟨by omega, Cel.eq c10_0 (by rw [fillU_zero]), e0⟩) ?_
  rintro k w2 ⟨hi, c10_0, e0⟩
  have hfl := fillU_len boxF (List.replicate 256 0) k
  rw [List.length_replicate] at hfl
  refine J.seq ?_
  refine J.region ?_
  refine J.op (Yd.lss rfl rfl) rfl ?_
  refine J.nil ?_
  refine J.n_then ?_
  refine J.seq ?_
  refine J.cond_dec rfl (fun hc0 => ?_) (fun hc0 => ?_)
  · skip
    refine J.skip ?_
    refine J.n_then ?_
    refine J.seq ?_
    refine J.block ?_
    refine J.seq ?_
    refine J.region ?_
    refine J.op (Yd.move rfl) rfl ?_
    refine J.op (Yd.assign rfl) rfl ?_
    refine J.nil ?_
    refine J.n_then ?_
    refine J.regionO [(0, true), (1, true), (2, true), (3, true), (5, true), (6, true), (4, false), (7, true), (8, false)] [] [] mix (by kernel_rfl) ?_
    refine J.s_op rfl (fun _ => Yd.move rfl) rfl ?_
    refine J.s_op rfl (fun _ => Yd.move rfl) rfl ?_
    refine J.s_op rfl (fun _ => Yd.move rfl) rfl ?_
    refine J.s_op rfl (fun _ => Yd.cv_i_8 Try.underlying3 Try.underlying5 rfl (by first | omega | exact idx_u8' _ | (simp only [Int.toNat_natCast]; omega) | (simp only [List.length_map, List.length_drop, List.length_take, List.length_append, List.length_replicate]; omega) | (simp <;> omega))) rfl ?_
    refine J.s_op rfl (fun _ => Yd.nilCheck rfl) rfl ?_
    refine J.s_op rfl (fun _ => Yd.cast (Yd.fieldA Try.underlying95 rfl ti51 rfl rfl) (show _ = Value.pointer (some ⟨b10_0, 0, none⟩) from rfl)) rfl ?_
    refine J.s_eff rfl (Ye.call cl68 rfl (Box_ok)) rfl ?_
    rintro _ w3 ⟨rfl, x1⟩
    have e0 := e0.trans x1
    have c10_0 := c10_0.ext x1
    clear x1
    refine J.s_op rfl (fun _ => Yd.idxA Try.underlying51 ti5 rfl rfl (by first | omega | exact idx_u8' _ | (simp only [Int.toNat_natCast]; omega) | (simp only [List.length_map, List.length_drop, List.length_take, List.length_append, List.length_replicate]; omega) | (simp <;> omega))) rfl ?_
    refine J.s_eff0 rfl (Ye.storeM ti5 c10_0 0 rfl rfl rfl rfl (by first | omega | exact idx_u8' _ | (simp only [Int.toNat_natCast]; omega) | (simp only [List.length_map, List.length_drop, List.length_take, List.length_append, List.length_replicate]; omega) | (simp <;> omega)) (fun _ => rfl) (fun _ => rfl)) ?_
    rintro _ w4 ⟨cX, hu⟩
    simp only [List.set_cons_zero, List.set_cons_succ] at cX
    have hg := hu.gb
    have e0 := Ext.gbk e0 fr_b10_0 hg
    clear hg
    replace c10_0 := cX
    clear cX hu
    refine J.s_nil ?_
    refine J.o_nil ?_
    refine J.s_nil ?_
    refine J.n_np ?_
    refine J.n_block ?_
    refine J.n_then ?_
    refine J.region ?_
    refine J.op (Yd.add rfl rfl (by first | omega | exact idx_u8' _ | (simp only [Int.toNat_natCast]; omega) | (simp only [List.length_map, List.length_drop, List.length_take, List.length_append, List.length_replicate]; omega) | (simp <;> omega))) rfl ?_
    refine J.op (Yd.move rfl) rfl ?_
    refine J.nil ?_
    refine J.n_then ?_
    exact J.round (k + 1) ⟨rfl, rfl, rfl, trivial⟩ (⟨by omega, Cel.eq c10_0 (by rw [Int.toNat_natCast, show S8 (UInt8.ofNat k) = boxF k from rfl, fillU_set]), e0⟩) (by omega)
  · skip
    refine J.exit ?_
    refine J.x_then ?_
    refine J.x_then ?_
    refine J.x_block ?_
    refine J.n_then ?_
    refine J.seq ?_
    refine J.region ?_
    refine J.op (Yd.move rfl) rfl ?_
    refine J.op (Yd.nilCheck rfl) rfl ?_
    refine J.op (Yd.cast (Yd.fieldA Try.underlying95 rfl ti93 rfl rfl) (show _ = Value.pointer (some ⟨b10_0, 256, none⟩) from rfl)) rfl ?_
    refine J.op (Yd.sliceA Try.underlying93 ti5 rfl) rfl ?_
    refine J.op (Yd.move rfl) rfl ?_
    refine J.eff (Ye.copyA Try.underlying22 ti5 c10_0 1 rfl rfl (l := 0) rfl (by omega) (by omega) rfl (Rd.ext hk e0) (one_M _ (fun _ => rfl))) rfl ?_
    rintro _ w5 ⟨rfl, cX, hu⟩
    simp only [List.set_cons_zero, List.set_cons_succ] at cX
    have hg := hu.gb
    have e0 := Ext.gbk e0 fr_b10_0 hg
    clear hg
    replace c10_0 := cX
    clear cX hu
    rw [copy_keys key h32, show k = 256 by omega, boxF_fill] at c10_0
    refine J.nil ?_
    refine J.n_then ?_
    refine J.seq ?_
    refine J.region ?_
    refine J.op (Yd.assign rfl) rfl ?_
    refine J.nil ?_
    refine J.n_then ?_
    refine J.seq ?_
    refine J.seq ?_
    refine J.region ?_
    refine J.op (Yd.assign rfl) rfl ?_
    refine J.nil ?_
    refine J.n_then ?_
    refine J.block ?_
    refine J.loop (ι := Nat) (fun i => [(5, B (rc ((i + 7) / 8))), (6, I (4 * ((i : Int) + 8))), (3, .pointer (some ⟨b10_0, 0, none⟩))]) (fun i w' => i ≤ 52 ∧ Cel w' b10_0 95 [(0, 256, boxT.map (fun x : UInt8 => B x)), (256, 240, (kP key i 0).map (fun x : UInt8 => B x))] ∧ Ext w w') (fun i => 52 - i) (0) ⟨rfl, (someI (by omega)), rfl, trivial⟩ (⟨by omega, c10_0, e0⟩) ?_
    rintro n w6 ⟨hn, c10_0, e0⟩
    have hkn := hkl n
    have hkp := kP_len key h32 n 0
    refine J.seq ?_
    refine J.seq ?_
    refine J.region ?_
    refine J.op (Yd.move rfl) rfl ?_
    refine J.op (Yd.lss rfl rfl) rfl ?_
    refine J.nil ?_
    refine J.n_then ?_
    refine J.cond_dec rfl (fun hc1 => ?_) (fun hc1 => ?_)
    · skip
      refine J.skip ?_
      refine J.n_then ?_
      refine J.seq ?_
      refine J.block ?_
      refine J.seq ?_
      refine J.region ?_
      refine J.op (Yd.move rfl) rfl ?_
      refine J.op (Yd.nilCheck rfl) rfl ?_
      refine J.op (Yd.cast (Yd.fieldA Try.underlying95 rfl ti93 rfl rfl) (show _ = Value.pointer (some ⟨b10_0, 256, none⟩) from rfl)) rfl ?_
      refine J.op (Yd.move rfl) rfl ?_
      refine J.op (Yd.sub rfl rfl (by first | omega | exact idx_u8' _ | (simp only [Int.toNat_natCast]; omega) | (simp only [List.length_map, List.length_drop, List.length_take, List.length_append, List.length_replicate]; omega) | (simp <;> omega))) rfl ?_
      refine J.op (Yd.move rfl) rfl ?_
      refine J.op (Yd.cast (v' := asl b10_0 256 240 (4 * (n + 8) - 4) (4 * (n + 8))) (Yd.sliceA4 Try.underlying93 ti5 rfl rfl rfl (by first | omega | exact idx_u8' _ | (simp only [Int.toNat_natCast]; omega) | (simp only [List.length_map, List.length_drop, List.length_take, List.length_append, List.length_replicate]; omega) | (simp <;> omega))) (asl_eq (by omega) (by omega))) rfl ?_
      refine J.op (Yd.arrPB Try.underlying97 rfl (Cel.bs c10_0 1 rfl (l := 4 * (n + 8) - 4) (k := 4 * (n + 8)) (by omega) (by omega) (by decide)) (by first | omega | exact idx_u8' _ | (simp only [Int.toNat_natCast]; omega) | (simp only [List.length_map, List.length_drop, List.length_take, List.length_append, List.length_replicate]; omega) | (simp <;> omega))) rfl ?_
      refine J.op (Yd.loadPB ag97 ti97 rfl (Cel.bs c10_0 1 rfl (l := 4 * (n + 8) - 4) (k := 4 * (n + 8)) (by omega) (by omega) (by decide)) (by first | omega | exact idx_u8' _ | (simp only [Int.toNat_natCast]; omega) | (simp only [List.length_map, List.length_drop, List.length_take, List.length_append, List.length_replicate]; omega) | (simp <;> omega)) rfl) rfl ?_
      refine J.eff (Ye.alloc ti97 (S := [(0, 4, (List.replicate 4 0).map (fun x : UInt8 => B x))]) (by simp [SegAll, SegOK, Value.cells])) rfl ?_
      rintro _ w7 ⟨b7_6, rfl, hb_, c7_6, x1⟩
      have ap_b10_0_b7_6 : Ap (some b10_0) (some b7_6) := Ap.mk (Cel.live c10_0) (Fr.blk hb_)
      have fr_b7_6 : Fr w.heap.size (some b7_6) := Fr.le (Fr.blk hb_) e0.size
      have e0 := e0.trans x1
      have c10_0 := c10_0.ext x1
      clear x1 hb_
      refine J.eff0 (Ye.storeA (ys := List.map (fun x : UInt8 => B x) _) ti97 c7_6 0 rfl rfl rfl rfl (by first | (rw [List.length_map]; omega) | (simp; done) | rfl | (simp <;> omega)) (one_M _ (fun _ => rfl))) ?_
      rintro _ w8 ⟨cX, hu⟩
      simp only [List.set_cons_zero, List.set_cons_succ] at cX
      have hg := hu.gb
      have c10_0 := Cel.gbk c10_0 hg ap_b10_0_b7_6
      have e0 := Ext.gbk e0 fr_b7_6 hg
      clear hg
      replace c7_6 := cX
      clear cX hu
      rw [kP_last key h32 n] at c7_6
      refine J.nil ?_
      refine J.n_then ?_
      refine J.seq ?_
      refine J.seq ?_
      refine J.region ?_
      refine J.op (Yd.move rfl) rfl ?_
      refine J.op (Yd.quo rfl rfl (by first | omega | exact idx_u8' _ | (simp only [Int.toNat_natCast]; omega) | (simp only [List.length_map, List.length_drop, List.length_take, List.length_append, List.length_replicate]; omega) | (simp <;> omega)) (by first | omega | exact idx_u8' _ | (simp only [Int.toNat_natCast]; omega) | (simp only [List.length_map, List.length_drop, List.length_take, List.length_append, List.length_replicate]; omega) | (simp <;> omega)) (by first | omega | exact idx_u8' _ | (simp only [Int.toNat_natCast]; omega) | (simp only [List.length_map, List.length_drop, List.length_take, List.length_append, List.length_replicate]; omega) | (simp <;> omega))) rfl ?_
      refine J.op (Yd.rem rfl rfl (by first | omega | exact idx_u8' _ | (simp only [Int.toNat_natCast]; omega) | (simp only [List.length_map, List.length_drop, List.length_take, List.length_append, List.length_replicate]; omega) | (simp <;> omega)) (by first | omega | exact idx_u8' _ | (simp only [Int.toNat_natCast]; omega) | (simp only [List.length_map, List.length_drop, List.length_take, List.length_append, List.length_replicate]; omega) | (simp <;> omega))) rfl ?_
      refine J.nil ?_
      refine J.n_then ?_
      refine J.block ?_
      refine J.seq ?_
      refine J.region ?_
      refine J.op (Yd.eql rfl rfl) rfl ?_
      refine J.op (Yd.assign rfl) rfl ?_
      refine J.nil ?_
      refine J.n_then ?_
      refine J.cond_dec rfl (fun hc2 => ?_) (fun hc2 => ?_)
      · skip
        refine J.seq ?_
        refine J.regionO [(0, true), (1, true), (3, true), (4, true), (7, true), (9, true), (10, true), (12, true), (13, true), (16, true), (17, true), (19, true), (20, true), (23, true), (24, true), (26, true), (27, true)] [(2, 1), (11, 1), (18, 1), (25, 1), (5, 1), (6, 1), (8, 1), (14, 1), (15, 1), (21, 1), (22, 1), (28, 1), (29, 1)] [(30, false), (31, false)] mix (by kernel_rfl) ?_
        refine J.s_op rfl (fun _ => Yd.move rfl) rfl ?_
        refine J.s_op rfl (fun _ => Yd.idxA Try.underlying97 ti5 rfl rfl (by first | omega | exact idx_u8' _ | (simp only [Int.toNat_natCast]; omega) | (simp only [List.length_map, List.length_drop, List.length_take, List.length_append, List.length_replicate]; omega) | (simp <;> omega))) rfl ?_
        refine J.s_op rfl (fun _ => Yd.nilCheck rfl) rfl ?_
        refine J.s_op rfl (fun _ => Yd.cast (Yd.fieldA Try.underlying95 rfl ti51 rfl rfl) (show _ = Value.pointer (some ⟨b10_0, 0, none⟩) from rfl)) rfl ?_
        refine J.s_op rfl (fun _ => Yd.move rfl) rfl ?_
        refine J.s_op rfl (fun _ => Yd.move rfl) rfl ?_
        refine J.s_op rfl (fun _ => Yd.idxA Try.underlying97 ti5 rfl rfl (by first | omega | exact idx_u8' _ | (simp only [Int.toNat_natCast]; omega) | (simp only [List.length_map, List.length_drop, List.length_take, List.length_append, List.length_replicate]; omega) | (simp <;> omega))) rfl ?_
        refine J.s_op rfl (fun _ => Yd.nilCheck rfl) rfl ?_
        refine J.s_op rfl (fun _ => Yd.cast (Yd.fieldA Try.underlying95 rfl ti51 rfl rfl) (show _ = Value.pointer (some ⟨b10_0, 0, none⟩) from rfl)) rfl ?_
        refine J.s_op rfl (fun _ => Yd.move rfl) rfl ?_
        refine J.s_op rfl (fun _ => Yd.idxA Try.underlying97 ti5 rfl rfl (by first | omega | exact idx_u8' _ | (simp only [Int.toNat_natCast]; omega) | (simp only [List.length_map, List.length_drop, List.length_take, List.length_append, List.length_replicate]; omega) | (simp <;> omega))) rfl ?_
        refine J.s_op rfl (fun _ => Yd.nilCheck rfl) rfl ?_
        refine J.s_op rfl (fun _ => Yd.cast (Yd.fieldA Try.underlying95 rfl ti51 rfl rfl) (show _ = Value.pointer (some ⟨b10_0, 0, none⟩) from rfl)) rfl ?_
        refine J.s_op rfl (fun _ => Yd.move rfl) rfl ?_
        refine J.s_op rfl (fun _ => Yd.idxA Try.underlying97 ti5 rfl rfl (by first | omega | exact idx_u8' _ | (simp only [Int.toNat_natCast]; omega) | (simp only [List.length_map, List.length_drop, List.length_take, List.length_append, List.length_replicate]; omega) | (simp <;> omega))) rfl ?_
        refine J.s_op rfl (fun _ => Yd.nilCheck rfl) rfl ?_
        refine J.s_op rfl (fun _ => Yd.cast (Yd.fieldA Try.underlying95 rfl ti51 rfl rfl) (show _ = Value.pointer (some ⟨b10_0, 0, none⟩) from rfl)) rfl ?_
        refine J.s_nil ?_
        refine J.o_op rfl (Yd.load pl5 rfl (Cel.cellM c7_6 0 rfl 0 (by have hl_ := Cel.lenM c7_6 0 rfl; first | omega | (rw [hl_]; exact idx_u8' _) | (simp only [Int.toNat_natCast]; omega) | (simp at hl_ ⊢ <;> omega)))) rfl ?_
        refine J.o_op rfl (Yd.load pl5 rfl (Cel.cellM c7_6 0 rfl 0 (by have hl_ := Cel.lenM c7_6 0 rfl; first | omega | (rw [hl_]; exact idx_u8' _) | (simp only [Int.toNat_natCast]; omega) | (simp at hl_ ⊢ <;> omega)))) rfl ?_
        refine J.o_op rfl (Yd.load pl5 rfl (Cel.cellM c7_6 0 rfl 0 (by have hl_ := Cel.lenM c7_6 0 rfl; first | omega | (rw [hl_]; exact idx_u8' _) | (simp only [Int.toNat_natCast]; omega) | (simp at hl_ ⊢ <;> omega)))) rfl ?_
        refine J.o_op rfl (Yd.load pl5 rfl (Cel.cellM c7_6 0 rfl 0 (by have hl_ := Cel.lenM c7_6 0 rfl; first | omega | (rw [hl_]; exact idx_u8' _) | (simp only [Int.toNat_natCast]; omega) | (simp at hl_ ⊢ <;> omega)))) rfl ?_
        refine J.o_op rfl (Yd.idxA Try.underlying51 ti5 rfl rfl (idx_u8 _)) rfl ?_
        refine J.o_op rfl (Yd.load pl5 rfl (Cel.cellM c10_0 0 rfl 0 (by have hl_ := Cel.lenM c10_0 0 rfl; first | omega | (rw [hl_]; exact idx_u8' _) | (simp only [Int.toNat_natCast]; omega) | (simp at hl_ ⊢ <;> omega)))) rfl ?_
        refine J.o_op rfl (Yd.xor_u8 rfl rfl) rfl ?_
        refine J.o_op rfl (Yd.idxA Try.underlying51 ti5 rfl rfl (idx_u8 _)) rfl ?_
        refine J.o_op rfl (Yd.load pl5 rfl (Cel.cellM c10_0 0 rfl 0 (by have hl_ := Cel.lenM c10_0 0 rfl; first | omega | (rw [hl_]; exact idx_u8' _) | (simp only [Int.toNat_natCast]; omega) | (simp at hl_ ⊢ <;> omega)))) rfl ?_
        refine J.o_op rfl (Yd.idxA Try.underlying51 ti5 rfl rfl (idx_u8 _)) rfl ?_
        refine J.o_op rfl (Yd.load pl5 rfl (Cel.cellM c10_0 0 rfl 0 (by have hl_ := Cel.lenM c10_0 0 rfl; first | omega | (rw [hl_]; exact idx_u8' _) | (simp only [Int.toNat_natCast]; omega) | (simp at hl_ ⊢ <;> omega)))) rfl ?_
        refine J.o_op rfl (Yd.idxA Try.underlying51 ti5 rfl rfl (idx_u8 _)) rfl ?_
        refine J.o_op rfl (Yd.load pl5 rfl (Cel.cellM c10_0 0 rfl 0 (by have hl_ := Cel.lenM c10_0 0 rfl; first | omega | (rw [hl_]; exact idx_u8' _) | (simp only [Int.toNat_natCast]; omega) | (simp at hl_ ⊢ <;> omega)))) rfl ?_
        refine J.o_nil ?_
        refine J.s_one rfl (Yd.cast (Yd.buildA Try.underlying97 ti5 ti97 rfl rfl) (show _ = Ag (fun x : UInt8 => B x) ([S8 (((kx key n).drop (4 * (n + 8) - 4)).getD 1 0) ^^^ rc ((n + 7) / 8), S8 (((kx key n).drop (4 * (n + 8) - 4)).getD 2 0), S8 (((kx key n).drop (4 * (n + 8) - 4)).getD 3 0), S8 (((kx key n).drop (4 * (n + 8) - 4)).getD 0 0)]) from rfl)) rfl ?_
        refine J.s_eff0 rfl (Ye.storeA (ys := List.map (fun x : UInt8 => B x) _) ti97 c7_6 0 rfl rfl rfl rfl (by first | (rw [List.length_map]; omega) | (simp; done) | rfl | (simp <;> omega)) (one_M _ (fun _ => rfl))) ?_
        rintro _ w9 ⟨cX, hu⟩
        simp only [List.set_cons_zero, List.set_cons_succ] at cX
        have hg := hu.gb
        have c10_0 := Cel.gbk c10_0 hg ap_b10_0_b7_6
        have e0 := Ext.gbk e0 fr_b7_6 hg
        clear hg
        replace c7_6 := cX
        clear cX hu
        refine J.s_nil ?_
        refine J.n_np ?_
        refine J.n_then ?_
        refine J.region ?_
        refine J.op (Yd.move rfl) rfl ?_
        refine J.eff (Ye.call cl69 rfl (Twice_ok)) rfl ?_
        rintro _ w10 ⟨rfl, x1⟩
        have e0 := e0.trans x1
        have c10_0 := c10_0.ext x1
        have c7_6 := c7_6.ext x1
        clear x1
        refine J.op (Yd.assign rfl) rfl ?_
        refine J.nil ?_
        refine J.n_block ?_
        refine J.n_then ?_
        refine J.seq ?_
        refine J.region ?_
        refine J.op (Yd.move rfl) rfl ?_
        refine J.nil ?_
        refine J.n_then ?_
        refine J.block ?_
        refine J.loop (ι := Nat) (fun i => [(5, B (rc ((n + 1 + 7) / 8))), (6, I (4 * ((n : Int) + 8))), (111, I i), (3, .pointer (some ⟨b10_0, 0, none⟩)), (7, .pointer (some ⟨b7_6, 0, none⟩))]) (fun i w' => i ≤ 4 ∧ Cel w' b10_0 95 [(0, 256, boxT.map (fun x : UInt8 => B x)), (256, 240, (kP key n i).map (fun x : UInt8 => B x))] ∧ Cel w' b7_6 97 [(0, 4, (kU (kx key n) (n + 8)).map (fun x : UInt8 => B x))] ∧ Ext w w') (fun i => 4 - i) (0) ⟨(by first | exact congrArg (fun u => some (B u)) (rc_up (by omega)) | exact congrArg (fun u => some (B u)) (rc_same (by omega))), rfl, rfl, rfl, rfl, trivial⟩ (⟨by omega, c10_0, Cel.eq c7_6 (by rw [kU_0 (by omega)]; rfl), e0⟩) ?_
        rintro k w11 ⟨hk4, c10_0, c7_6, e0⟩
        have hkq := kP_len key h32 n k (by omega) hk4
        have hul := kU_len (kx key n) (n + 8)
        refine J.seq ?_
        refine J.region ?_
        refine J.op (Yd.lss rfl rfl) rfl ?_
        refine J.nil ?_
        refine J.n_then ?_
        refine J.seq ?_
        refine J.cond_dec rfl (fun hc4 => ?_) (fun hc4 => ?_)
        · skip
          refine J.skip ?_
          refine J.n_then ?_
          refine J.seq ?_
          refine J.block ?_
          refine J.seq ?_
          refine J.region ?_
          refine J.op (Yd.move rfl) rfl ?_
          refine J.op (Yd.assign rfl) rfl ?_
          refine J.nil ?_
          refine J.n_then ?_
          refine J.regionO [(0, true), (1, true), (2, true), (3, true), (4, true), (5, true), (6, true), (7, true), (8, true), (9, true), (10, true), (11, true), (13, true), (14, true), (17, true), (18, true)] [(12, 1), (15, 1)] [(16, true), (19, true), (20, false)] mix (by kernel_rfl) ?_
          refine J.s_op rfl (fun _ => Yd.move rfl) rfl ?_
          refine J.s_op rfl (fun _ => Yd.move rfl) rfl ?_
          refine J.s_op rfl (fun _ => Yd.move rfl) rfl ?_
          refine J.s_op rfl (fun _ => Yd.add rfl rfl (by first | omega | exact idx_u8' _ | (simp only [Int.toNat_natCast]; omega) | (simp only [List.length_map, List.length_drop, List.length_take, List.length_append, List.length_replicate]; omega) | (simp <;> omega))) rfl ?_
          refine J.s_op rfl (fun _ => Yd.move rfl) rfl ?_
          refine J.s_op rfl (fun _ => Yd.move rfl) rfl ?_
          refine J.s_op rfl (fun _ => Yd.move rfl) rfl ?_
          refine J.s_op rfl (fun _ => Yd.add rfl rfl (by first | omega | exact idx_u8' _ | (simp only [Int.toNat_natCast]; omega) | (simp only [List.length_map, List.length_drop, List.length_take, List.length_append, List.length_replicate]; omega) | (simp <;> omega))) rfl ?_
          refine J.s_op rfl (fun _ => Yd.sub rfl rfl (by first | omega | exact idx_u8' _ | (simp only [Int.toNat_natCast]; omega) | (simp only [List.length_map, List.length_drop, List.length_take, List.length_append, List.length_replicate]; omega) | (simp <;> omega))) rfl ?_
          refine J.s_op rfl (fun _ => Yd.nilCheck rfl) rfl ?_
          refine J.s_op rfl (fun _ => Yd.cast (Yd.fieldA Try.underlying95 rfl ti93 rfl rfl) (show _ = Value.pointer (some ⟨b10_0, 256, none⟩) from rfl)) rfl ?_
          refine J.s_op rfl (fun _ => Yd.idxA Try.underlying93 ti5 rfl rfl (by first | omega | exact idx_u8' _ | (simp only [Int.toNat_natCast]; omega) | (simp only [List.length_map, List.length_drop, List.length_take, List.length_append, List.length_replicate]; omega) | (simp <;> omega))) rfl ?_
          refine J.s_op rfl (fun _ => Yd.move rfl) rfl ?_
          refine J.s_op rfl (fun _ => Yd.idxA Try.underlying97 ti5 rfl rfl (by first | omega | exact idx_u8' _ | (simp only [Int.toNat_natCast]; omega) | (simp only [List.length_map, List.length_drop, List.length_take, List.length_append, List.length_replicate]; omega) | (simp <;> omega))) rfl ?_
          refine J.s_op rfl (fun _ => Yd.nilCheck rfl) rfl ?_
          refine J.s_op rfl (fun _ => Yd.cast (Yd.fieldA Try.underlying95 rfl ti93 rfl rfl) (show _ = Value.pointer (some ⟨b10_0, 256, none⟩) from rfl)) rfl ?_
          refine J.s_nil ?_
          refine J.o_op rfl (Yd.load pl5 rfl (Cel.cellM c10_0 1 rfl 0 (by have hl_ := Cel.lenM c10_0 1 rfl; first | omega | (rw [hl_]; exact idx_u8' _) | (simp only [Int.toNat_natCast]; omega) | (simp at hl_ ⊢ <;> omega)))) rfl ?_
          refine J.o_op rfl (Yd.load pl5 rfl (Cel.cellM c7_6 0 rfl 0 (by have hl_ := Cel.lenM c7_6 0 rfl; first | omega | (rw [hl_]; exact idx_u8' _) | (simp only [Int.toNat_natCast]; omega) | (simp at hl_ ⊢ <;> omega)))) rfl ?_
          refine J.o_nil ?_
          refine J.s_op rfl (fun _ => Yd.xor_u8 rfl rfl) rfl ?_
          refine J.s_op rfl (fun _ => Yd.idxA Try.underlying93 ti5 rfl rfl (by first | omega | exact idx_u8' _ | (simp only [Int.toNat_natCast]; omega) | (simp only [List.length_map, List.length_drop, List.length_take, List.length_append, List.length_replicate]; omega) | (simp <;> omega))) rfl ?_
          refine J.s_eff0 rfl (Ye.storeM ti5 c10_0 1 rfl rfl rfl rfl (by first | omega | exact idx_u8' _ | (simp only [Int.toNat_natCast]; omega) | (simp only [List.length_map, List.length_drop, List.length_take, List.length_append, List.length_replicate]; omega) | (simp <;> omega)) (fun _ => rfl) (fun _ => rfl)) ?_
          rintro _ w12 ⟨cX, hu⟩
          simp only [List.set_cons_zero, List.set_cons_succ] at cX
          have hg := hu.gb
          have c7_6 := Cel.gbk c7_6 hg (Ap.symm ap_b10_0_b7_6)
          have e0 := Ext.gbk e0 fr_b10_0 hg
          clear hg
          replace c10_0 := cX
          clear cX hu
          refine J.s_nil ?_
          refine J.n_np ?_
          refine J.n_block ?_
          refine J.n_then ?_
          refine J.region ?_
          refine J.op (Yd.add rfl rfl (by first | omega | exact idx_u8' _ | (simp only [Int.toNat_natCast]; omega) | (simp only [List.length_map, List.length_drop, List.length_take, List.length_append, List.length_replicate]; omega) | (simp <;> omega))) rfl ?_
          refine J.op (Yd.move rfl) rfl ?_
          refine J.nil ?_
          refine J.n_then ?_
          exact J.round (k + 1) ⟨rfl, rfl, rfl, rfl, rfl, trivial⟩ (⟨by omega, Cel.eq c10_0 (by rw [show (4 * ((n : Int) + 8) + (k : Int)).toNat = 4 * (n + 8) + k by omega, show (4 * ((n : Int) + 8) + (k : Int) - 32).toNat = 4 * (n + 8) + k - 32 by omega, Int.toNat_natCast, kP_set key h32 n k (by omega) (by omega)]), c7_6, e0⟩) (by omega)
        · skip
          refine J.exit ?_
          refine J.x_then ?_
          refine J.x_then ?_
          refine J.x_block ?_
          refine J.n_block ?_
          refine J.n_then ?_
          refine J.region ?_
          refine J.op (Yd.move rfl) rfl ?_
          refine J.op (Yd.add rfl rfl (by first | omega | exact idx_u8' _ | (simp only [Int.toNat_natCast]; omega) | (simp only [List.length_map, List.length_drop, List.length_take, List.length_append, List.length_replicate]; omega) | (simp <;> omega))) rfl ?_
          refine J.op (Yd.assign rfl) rfl ?_
          refine J.nil ?_
          refine J.n_then ?_
          exact J.round (n + 1) ⟨rfl, (someI (by omega)), rfl, trivial⟩ (⟨by omega, Cel.eq c10_0 (by rw [show k = 4 by omega, kP_next key n (by omega)]), e0⟩) (by omega)
      · skip
        refine J.seq ?_
        refine J.region ?_
        refine J.op (Yd.eql rfl rfl) rfl ?_
        refine J.op (Yd.assign rfl) rfl ?_
        refine J.nil ?_
        refine J.n_then ?_
        refine J.cond_dec rfl (fun hc3 => ?_) (fun hc3 => ?_)
        · skip
          refine J.regionO [(0, true), (1, true), (3, true), (4, true), (7, true), (8, true), (10, true), (11, true), (14, true), (15, true), (17, true), (18, true), (21, true), (22, true), (24, true), (25, true)] [(2, 1), (9, 1), (16, 1), (23, 1), (5, 1), (6, 1), (12, 1), (13, 1), (19, 1), (20, 1), (26, 1), (27, 1)] [(28, false), (29, false)] mix (by kernel_rfl) ?_
          refine J.s_op rfl (fun _ => Yd.move rfl) rfl ?_
          refine J.s_op rfl (fun _ => Yd.idxA Try.underlying97 ti5 rfl rfl (by first | omega | exact idx_u8' _ | (simp only [Int.toNat_natCast]; omega) | (simp only [List.length_map, List.length_drop, List.length_take, List.length_append, List.length_replicate]; omega) | (simp <;> omega))) rfl ?_
          refine J.s_op rfl (fun _ => Yd.nilCheck rfl) rfl ?_
          refine J.s_op rfl (fun _ => Yd.cast (Yd.fieldA Try.underlying95 rfl ti51 rfl rfl) (show _ = Value.pointer (some ⟨b10_0, 0, none⟩) from rfl)) rfl ?_
          refine J.s_op rfl (fun _ => Yd.move rfl) rfl ?_
          refine J.s_op rfl (fun _ => Yd.idxA Try.underlying97 ti5 rfl rfl (by first | omega | exact idx_u8' _ | (simp only [Int.toNat_natCast]; omega) | (simp only [List.length_map, List.length_drop, List.length_take, List.length_append, List.length_replicate]; omega) | (simp <;> omega))) rfl ?_
          refine J.s_op rfl (fun _ => Yd.nilCheck rfl) rfl ?_
          refine J.s_op rfl (fun _ => Yd.cast (Yd.fieldA Try.underlying95 rfl ti51 rfl rfl) (show _ = Value.pointer (some ⟨b10_0, 0, none⟩) from rfl)) rfl ?_
          refine J.s_op rfl (fun _ => Yd.move rfl) rfl ?_
          refine J.s_op rfl (fun _ => Yd.idxA Try.underlying97 ti5 rfl rfl (by first | omega | exact idx_u8' _ | (simp only [Int.toNat_natCast]; omega) | (simp only [List.length_map, List.length_drop, List.length_take, List.length_append, List.length_replicate]; omega) | (simp <;> omega))) rfl ?_
          refine J.s_op rfl (fun _ => Yd.nilCheck rfl) rfl ?_
          refine J.s_op rfl (fun _ => Yd.cast (Yd.fieldA Try.underlying95 rfl ti51 rfl rfl) (show _ = Value.pointer (some ⟨b10_0, 0, none⟩) from rfl)) rfl ?_
          refine J.s_op rfl (fun _ => Yd.move rfl) rfl ?_
          refine J.s_op rfl (fun _ => Yd.idxA Try.underlying97 ti5 rfl rfl (by first | omega | exact idx_u8' _ | (simp only [Int.toNat_natCast]; omega) | (simp only [List.length_map, List.length_drop, List.length_take, List.length_append, List.length_replicate]; omega) | (simp <;> omega))) rfl ?_
          refine J.s_op rfl (fun _ => Yd.nilCheck rfl) rfl ?_
          refine J.s_op rfl (fun _ => Yd.cast (Yd.fieldA Try.underlying95 rfl ti51 rfl rfl) (show _ = Value.pointer (some ⟨b10_0, 0, none⟩) from rfl)) rfl ?_
          refine J.s_nil ?_
          refine J.o_op rfl (Yd.load pl5 rfl (Cel.cellM c7_6 0 rfl 0 (by have hl_ := Cel.lenM c7_6 0 rfl; first | omega | (rw [hl_]; exact idx_u8' _) | (simp only [Int.toNat_natCast]; omega) | (simp at hl_ ⊢ <;> omega)))) rfl ?_
          refine J.o_op rfl (Yd.load pl5 rfl (Cel.cellM c7_6 0 rfl 0 (by have hl_ := Cel.lenM c7_6 0 rfl; first | omega | (rw [hl_]; exact idx_u8' _) | (simp only [Int.toNat_natCast]; omega) | (simp at hl_ ⊢ <;> omega)))) rfl ?_
          refine J.o_op rfl (Yd.load pl5 rfl (Cel.cellM c7_6 0 rfl 0 (by have hl_ := Cel.lenM c7_6 0 rfl; first | omega | (rw [hl_]; exact idx_u8' _) | (simp only [Int.toNat_natCast]; omega) | (simp at hl_ ⊢ <;> omega)))) rfl ?_
          refine J.o_op rfl (Yd.load pl5 rfl (Cel.cellM c7_6 0 rfl 0 (by have hl_ := Cel.lenM c7_6 0 rfl; first | omega | (rw [hl_]; exact idx_u8' _) | (simp only [Int.toNat_natCast]; omega) | (simp at hl_ ⊢ <;> omega)))) rfl ?_
          refine J.o_op rfl (Yd.idxA Try.underlying51 ti5 rfl rfl (idx_u8 _)) rfl ?_
          refine J.o_op rfl (Yd.load pl5 rfl (Cel.cellM c10_0 0 rfl 0 (by have hl_ := Cel.lenM c10_0 0 rfl; first | omega | (rw [hl_]; exact idx_u8' _) | (simp only [Int.toNat_natCast]; omega) | (simp at hl_ ⊢ <;> omega)))) rfl ?_
          refine J.o_op rfl (Yd.idxA Try.underlying51 ti5 rfl rfl (idx_u8 _)) rfl ?_
          refine J.o_op rfl (Yd.load pl5 rfl (Cel.cellM c10_0 0 rfl 0 (by have hl_ := Cel.lenM c10_0 0 rfl; first | omega | (rw [hl_]; exact idx_u8' _) | (simp only [Int.toNat_natCast]; omega) | (simp at hl_ ⊢ <;> omega)))) rfl ?_
          refine J.o_op rfl (Yd.idxA Try.underlying51 ti5 rfl rfl (idx_u8 _)) rfl ?_
          refine J.o_op rfl (Yd.load pl5 rfl (Cel.cellM c10_0 0 rfl 0 (by have hl_ := Cel.lenM c10_0 0 rfl; first | omega | (rw [hl_]; exact idx_u8' _) | (simp only [Int.toNat_natCast]; omega) | (simp at hl_ ⊢ <;> omega)))) rfl ?_
          refine J.o_op rfl (Yd.idxA Try.underlying51 ti5 rfl rfl (idx_u8 _)) rfl ?_
          refine J.o_op rfl (Yd.load pl5 rfl (Cel.cellM c10_0 0 rfl 0 (by have hl_ := Cel.lenM c10_0 0 rfl; first | omega | (rw [hl_]; exact idx_u8' _) | (simp only [Int.toNat_natCast]; omega) | (simp at hl_ ⊢ <;> omega)))) rfl ?_
          refine J.o_nil ?_
          refine J.s_one rfl (Yd.cast (Yd.buildA Try.underlying97 ti5 ti97 rfl rfl) (show _ = Ag (fun x : UInt8 => B x) ([S8 (((kx key n).drop (4 * (n + 8) - 4)).getD 0 0), S8 (((kx key n).drop (4 * (n + 8) - 4)).getD 1 0), S8 (((kx key n).drop (4 * (n + 8) - 4)).getD 2 0), S8 (((kx key n).drop (4 * (n + 8) - 4)).getD 3 0)]) from rfl)) rfl ?_
          refine J.s_eff0 rfl (Ye.storeA (ys := List.map (fun x : UInt8 => B x) _) ti97 c7_6 0 rfl rfl rfl rfl (by first | (rw [List.length_map]; omega) | (simp; done) | rfl | (simp <;> omega)) (one_M _ (fun _ => rfl))) ?_
          rintro _ w13 ⟨cX, hu⟩
          simp only [List.set_cons_zero, List.set_cons_succ] at cX
          have hg := hu.gb
          have c10_0 := Cel.gbk c10_0 hg ap_b10_0_b7_6
          have e0 := Ext.gbk e0 fr_b7_6 hg
          clear hg
          replace c7_6 := cX
          clear cX hu
          refine J.s_nil ?_
          refine J.n_np ?_
          refine J.n_block ?_
          refine J.n_then ?_
          refine J.seq ?_
          refine J.region ?_
          refine J.op (Yd.move rfl) rfl ?_
          refine J.nil ?_
          refine J.n_then ?_
          refine J.block ?_
          refine J.loop (ι := Nat) (fun i => [(5, B (rc ((n + 1 + 7) / 8))), (6, I (4 * ((n : Int) + 8))), (111, I i), (3, .pointer (some ⟨b10_0, 0, none⟩)), (7, .pointer (some ⟨b7_6, 0, none⟩))]) (fun i w' => i ≤ 4 ∧ Cel w' b10_0 95 [(0, 256, boxT.map (fun x : UInt8 => B x)), (256, 240, (kP key n i).map (fun x : UInt8 => B x))] ∧ Cel w' b7_6 97 [(0, 4, (kU (kx key n) (n + 8)).map (fun x : UInt8 => B x))] ∧ Ext w w') (fun i => 4 - i) (0) ⟨(by first | exact congrArg (fun u => some (B u)) (rc_up (by omega)) | exact congrArg (fun u => some (B u)) (rc_same (by omega))), rfl, rfl, rfl, rfl, trivial⟩ (⟨by omega, c10_0, Cel.eq c7_6 (by rw [kU_4 (by omega)]), e0⟩) ?_
          rintro k w14 ⟨hk4, c10_0, c7_6, e0⟩
          have hkq := kP_len key h32 n k (by omega) hk4
          have hul := kU_len (kx key n) (n + 8)
          refine J.seq ?_
          refine J.region ?_
          refine J.op (Yd.lss rfl rfl) rfl ?_
          refine J.nil ?_
          refine J.n_then ?_
          refine J.seq ?_
          refine J.cond_dec rfl (fun hc4 => ?_) (fun hc4 => ?_)
          · skip
            refine J.skip ?_
            refine J.n_then ?_
            refine J.seq ?_
            refine J.block ?_
            refine J.seq ?_
            refine J.region ?_
            refine J.op (Yd.move rfl) rfl ?_
            refine J.op (Yd.assign rfl) rfl ?_
            refine J.nil ?_
            refine J.n_then ?_
            refine J.regionO [(0, true), (1, true), (2, true), (3, true), (4, true), (5, true), (6, true), (7, true), (8, true), (9, true), (10, true), (11, true), (13, true), (14, true), (17, true), (18, true)] [(12, 1), (15, 1)] [(16, true), (19, true), (20, false)] mix (by kernel_rfl) ?_
            refine J.s_op rfl (fun _ => Yd.move rfl) rfl ?_
            refine J.s_op rfl (fun _ => Yd.move rfl) rfl ?_
            refine J.s_op rfl (fun _ => Yd.move rfl) rfl ?_
            refine J.s_op rfl (fun _ => Yd.add rfl rfl (by first | omega | exact idx_u8' _ | (simp only [Int.toNat_natCast]; omega) | (simp only [List.length_map, List.length_drop, List.length_take, List.length_append, List.length_replicate]; omega) | (simp <;> omega))) rfl ?_
            refine J.s_op rfl (fun _ => Yd.move rfl) rfl ?_
            refine J.s_op rfl (fun _ => Yd.move rfl) rfl ?_
            refine J.s_op rfl (fun _ => Yd.move rfl) rfl ?_
            refine J.s_op rfl (fun _ => Yd.add rfl rfl (by first | omega | exact idx_u8' _ | (simp only [Int.toNat_natCast]; omega) | (simp only [List.length_map, List.length_drop, List.length_take, List.length_append, List.length_replicate]; omega) | (simp <;> omega))) rfl ?_
            refine J.s_op rfl (fun _ => Yd.sub rfl rfl (by first | omega | exact idx_u8' _ | (simp only [Int.toNat_natCast]; omega) | (simp only [List.length_map, List.length_drop, List.length_take, List.length_append, List.length_replicate]; omega) | (simp <;> omega))) rfl ?_
            refine J.s_op rfl (fun _ => Yd.nilCheck rfl) rfl ?_
            refine J.s_op rfl (fun _ => Yd.cast (Yd.fieldA Try.underlying95 rfl ti93 rfl rfl) (show _ = Value.pointer (some ⟨b10_0, 256, none⟩) from rfl)) rfl ?_
            refine J.s_op rfl (fun _ => Yd.idxA Try.underlying93 ti5 rfl rfl (by first | omega | exact idx_u8' _ | (simp only [Int.toNat_natCast]; omega) | (simp only [List.length_map, List.length_drop, List.length_take, List.length_append, List.length_replicate]; omega) | (simp <;> omega))) rfl ?_
            refine J.s_op rfl (fun _ => Yd.move rfl) rfl ?_
            refine J.s_op rfl (fun _ => Yd.idxA Try.underlying97 ti5 rfl rfl (by first | omega | exact idx_u8' _ | (simp only [Int.toNat_natCast]; omega) | (simp only [List.length_map, List.length_drop, List.length_take, List.length_append, List.length_replicate]; omega) | (simp <;> omega))) rfl ?_
            refine J.s_op rfl (fun _ => Yd.nilCheck rfl) rfl ?_
            refine J.s_op rfl (fun _ => Yd.cast (Yd.fieldA Try.underlying95 rfl ti93 rfl rfl) (show _ = Value.pointer (some ⟨b10_0, 256, none⟩) from rfl)) rfl ?_
            refine J.s_nil ?_
            refine J.o_op rfl (Yd.load pl5 rfl (Cel.cellM c10_0 1 rfl 0 (by have hl_ := Cel.lenM c10_0 1 rfl; first | omega | (rw [hl_]; exact idx_u8' _) | (simp only [Int.toNat_natCast]; omega) | (simp at hl_ ⊢ <;> omega)))) rfl ?_
            refine J.o_op rfl (Yd.load pl5 rfl (Cel.cellM c7_6 0 rfl 0 (by have hl_ := Cel.lenM c7_6 0 rfl; first | omega | (rw [hl_]; exact idx_u8' _) | (simp only [Int.toNat_natCast]; omega) | (simp at hl_ ⊢ <;> omega)))) rfl ?_
            refine J.o_nil ?_
            refine J.s_op rfl (fun _ => Yd.xor_u8 rfl rfl) rfl ?_
            refine J.s_op rfl (fun _ => Yd.idxA Try.underlying93 ti5 rfl rfl (by first | omega | exact idx_u8' _ | (simp only [Int.toNat_natCast]; omega) | (simp only [List.length_map, List.length_drop, List.length_take, List.length_append, List.length_replicate]; omega) | (simp <;> omega))) rfl ?_
            refine J.s_eff0 rfl (Ye.storeM ti5 c10_0 1 rfl rfl rfl rfl (by first | omega | exact idx_u8' _ | (simp only [Int.toNat_natCast]; omega) | (simp only [List.length_map, List.length_drop, List.length_take, List.length_append, List.length_replicate]; omega) | (simp <;> omega)) (fun _ => rfl) (fun _ => rfl)) ?_
            rintro _ w15 ⟨cX, hu⟩
            simp only [List.set_cons_zero, List.set_cons_succ] at cX
            have hg := hu.gb
            have c7_6 := Cel.gbk c7_6 hg (Ap.symm ap_b10_0_b7_6)
            have e0 := Ext.gbk e0 fr_b10_0 hg
            clear hg
            replace c10_0 := cX
            clear cX hu
            refine J.s_nil ?_
            refine J.n_np ?_
            refine J.n_block ?_
            refine J.n_then ?_
            refine J.region ?_
            refine J.op (Yd.add rfl rfl (by first | omega | exact idx_u8' _ | (simp only [Int.toNat_natCast]; omega) | (simp only [List.length_map, List.length_drop, List.length_take, List.length_append, List.length_replicate]; omega) | (simp <;> omega))) rfl ?_
            refine J.op (Yd.move rfl) rfl ?_
            refine J.nil ?_
            refine J.n_then ?_
            exact J.round (k + 1) ⟨rfl, rfl, rfl, rfl, rfl, trivial⟩ (⟨by omega, Cel.eq c10_0 (by rw [show (4 * ((n : Int) + 8) + (k : Int)).toNat = 4 * (n + 8) + k by omega, show (4 * ((n : Int) + 8) + (k : Int) - 32).toNat = 4 * (n + 8) + k - 32 by omega, Int.toNat_natCast, kP_set key h32 n k (by omega) (by omega)]), c7_6, e0⟩) (by omega)
          · skip
            refine J.exit ?_
            refine J.x_then ?_
            refine J.x_then ?_
            refine J.x_block ?_
            refine J.n_block ?_
            refine J.n_then ?_
            refine J.region ?_
            refine J.op (Yd.move rfl) rfl ?_
            refine J.op (Yd.add rfl rfl (by first | omega | exact idx_u8' _ | (simp only [Int.toNat_natCast]; omega) | (simp only [List.length_map, List.length_drop, List.length_take, List.length_append, List.length_replicate]; omega) | (simp <;> omega))) rfl ?_
            refine J.op (Yd.assign rfl) rfl ?_
            refine J.nil ?_
            refine J.n_then ?_
            exact J.round (n + 1) ⟨rfl, (someI (by omega)), rfl, trivial⟩ (⟨by omega, Cel.eq c10_0 (by rw [show k = 4 by omega, kP_next key n (by omega)]), e0⟩) (by omega)
        · skip
          refine J.skip ?_
          refine J.n_block ?_
          refine J.n_then ?_
          refine J.seq ?_
          refine J.region ?_
          refine J.op (Yd.move rfl) rfl ?_
          refine J.nil ?_
          refine J.n_then ?_
          refine J.block ?_
          refine J.loop (ι := Nat) (fun i => [(5, B (rc ((n + 1 + 7) / 8))), (6, I (4 * ((n : Int) + 8))), (111, I i), (3, .pointer (some ⟨b10_0, 0, none⟩)), (7, .pointer (some ⟨b7_6, 0, none⟩))]) (fun i w' => i ≤ 4 ∧ Cel w' b10_0 95 [(0, 256, boxT.map (fun x : UInt8 => B x)), (256, 240, (kP key n i).map (fun x : UInt8 => B x))] ∧ Cel w' b7_6 97 [(0, 4, (kU (kx key n) (n + 8)).map (fun x : UInt8 => B x))] ∧ Ext w w') (fun i => 4 - i) (0) ⟨(by first | exact congrArg (fun u => some (B u)) (rc_up (by omega)) | exact congrArg (fun u => some (B u)) (rc_same (by omega))), rfl, rfl, rfl, rfl, trivial⟩ (⟨by omega, c10_0, Cel.eq c7_6 (by rw [kU_e (hkl n) (by omega) (by omega) (by omega)]), e0⟩) ?_
          rintro k w16 ⟨hk4, c10_0, c7_6, e0⟩
          have hkq := kP_len key h32 n k (by omega) hk4
          have hul := kU_len (kx key n) (n + 8)
          refine J.seq ?_
          refine J.region ?_
          refine J.op (Yd.lss rfl rfl) rfl ?_
          refine J.nil ?_
          refine J.n_then ?_
          refine J.seq ?_
          refine J.cond_dec rfl (fun hc4 => ?_) (fun hc4 => ?_)
          · skip
            refine J.skip ?_
            refine J.n_then ?_
            refine J.seq ?_
            refine J.block ?_
            refine J.seq ?_
            refine J.region ?_
            refine J.op (Yd.move rfl) rfl ?_
            refine J.op (Yd.assign rfl) rfl ?_
            refine J.nil ?_
            refine J.n_then ?_
            refine J.regionO [(0, true), (1, true), (2, true), (3, true), (4, true), (5, true), (6, true), (7, true), (8, true), (9, true), (10, true), (11, true), (13, true), (14, true), (17, true), (18, true)] [(12, 1), (15, 1)] [(16, true), (19, true), (20, false)] mix (by kernel_rfl) ?_
            refine J.s_op rfl (fun _ => Yd.move rfl) rfl ?_
            refine J.s_op rfl (fun _ => Yd.move rfl) rfl ?_
            refine J.s_op rfl (fun _ => Yd.move rfl) rfl ?_
            refine J.s_op rfl (fun _ => Yd.add rfl rfl (by first | omega | exact idx_u8' _ | (simp only [Int.toNat_natCast]; omega) | (simp only [List.length_map, List.length_drop, List.length_take, List.length_append, List.length_replicate]; omega) | (simp <;> omega))) rfl ?_
            refine J.s_op rfl (fun _ => Yd.move rfl) rfl ?_
            refine J.s_op rfl (fun _ => Yd.move rfl) rfl ?_
            refine J.s_op rfl (fun _ => Yd.move rfl) rfl ?_
            refine J.s_op rfl (fun _ => Yd.add rfl rfl (by first | omega | exact idx_u8' _ | (simp only [Int.toNat_natCast]; omega) | (simp only [List.length_map, List.length_drop, List.length_take, List.length_append, List.length_replicate]; omega) | (simp <;> omega))) rfl ?_
            refine J.s_op rfl (fun _ => Yd.sub rfl rfl (by first | omega | exact idx_u8' _ | (simp only [Int.toNat_natCast]; omega) | (simp only [List.length_map, List.length_drop, List.length_take, List.length_append, List.length_replicate]; omega) | (simp <;> omega))) rfl ?_
            refine J.s_op rfl (fun _ => Yd.nilCheck rfl) rfl ?_
            refine J.s_op rfl (fun _ => Yd.cast (Yd.fieldA Try.underlying95 rfl ti93 rfl rfl) (show _ = Value.pointer (some ⟨b10_0, 256, none⟩) from rfl)) rfl ?_
            refine J.s_op rfl (fun _ => Yd.idxA Try.underlying93 ti5 rfl rfl (by first | omega | exact idx_u8' _ | (simp only [Int.toNat_natCast]; omega) | (simp only [List.length_map, List.length_drop, List.length_take, List.length_append, List.length_replicate]; omega) | (simp <;> omega))) rfl ?_
            refine J.s_op rfl (fun _ => Yd.move rfl) rfl ?_
            refine J.s_op rfl (fun _ => Yd.idxA Try.underlying97 ti5 rfl rfl (by first | omega | exact idx_u8' _ | (simp only [Int.toNat_natCast]; omega) | (simp only [List.length_map, List.length_drop, List.length_take, List.length_append, List.length_replicate]; omega) | (simp <;> omega))) rfl ?_
            refine J.s_op rfl (fun _ => Yd.nilCheck rfl) rfl ?_
            refine J.s_op rfl (fun _ => Yd.cast (Yd.fieldA Try.underlying95 rfl ti93 rfl rfl) (show _ = Value.pointer (some ⟨b10_0, 256, none⟩) from rfl)) rfl ?_
            refine J.s_nil ?_
            refine J.o_op rfl (Yd.load pl5 rfl (Cel.cellM c10_0 1 rfl 0 (by have hl_ := Cel.lenM c10_0 1 rfl; first | omega | (rw [hl_]; exact idx_u8' _) | (simp only [Int.toNat_natCast]; omega) | (simp at hl_ ⊢ <;> omega)))) rfl ?_
            refine J.o_op rfl (Yd.load pl5 rfl (Cel.cellM c7_6 0 rfl 0 (by have hl_ := Cel.lenM c7_6 0 rfl; first | omega | (rw [hl_]; exact idx_u8' _) | (simp only [Int.toNat_natCast]; omega) | (simp at hl_ ⊢ <;> omega)))) rfl ?_
            refine J.o_nil ?_
            refine J.s_op rfl (fun _ => Yd.xor_u8 rfl rfl) rfl ?_
            refine J.s_op rfl (fun _ => Yd.idxA Try.underlying93 ti5 rfl rfl (by first | omega | exact idx_u8' _ | (simp only [Int.toNat_natCast]; omega) | (simp only [List.length_map, List.length_drop, List.length_take, List.length_append, List.length_replicate]; omega) | (simp <;> omega))) rfl ?_
            refine J.s_eff0 rfl (Ye.storeM ti5 c10_0 1 rfl rfl rfl rfl (by first | omega | exact idx_u8' _ | (simp only [Int.toNat_natCast]; omega) | (simp only [List.length_map, List.length_drop, List.length_take, List.length_append, List.length_replicate]; omega) | (simp <;> omega)) (fun _ => rfl) (fun _ => rfl)) ?_
            rintro _ w17 ⟨cX, hu⟩
            simp only [List.set_cons_zero, List.set_cons_succ] at cX
            have hg := hu.gb
            have c7_6 := Cel.gbk c7_6 hg (Ap.symm ap_b10_0_b7_6)
            have e0 := Ext.gbk e0 fr_b10_0 hg
            clear hg
            replace c10_0 := cX
            clear cX hu
            refine J.s_nil ?_
            refine J.n_np ?_
            refine J.n_block ?_
            refine J.n_then ?_
            refine J.region ?_
            refine J.op (Yd.add rfl rfl (by first | omega | exact idx_u8' _ | (simp only [Int.toNat_natCast]; omega) | (simp only [List.length_map, List.length_drop, List.length_take, List.length_append, List.length_replicate]; omega) | (simp <;> omega))) rfl ?_
            refine J.op (Yd.move rfl) rfl ?_
            refine J.nil ?_
            refine J.n_then ?_
            exact J.round (k + 1) ⟨rfl, rfl, rfl, rfl, rfl, trivial⟩ (⟨by omega, Cel.eq c10_0 (by rw [show (4 * ((n : Int) + 8) + (k : Int)).toNat = 4 * (n + 8) + k by omega, show (4 * ((n : Int) + 8) + (k : Int) - 32).toNat = 4 * (n + 8) + k - 32 by omega, Int.toNat_natCast, kP_set key h32 n k (by omega) (by omega)]), c7_6, e0⟩) (by omega)
          · skip
            refine J.exit ?_
            refine J.x_then ?_
            refine J.x_then ?_
            refine J.x_block ?_
            refine J.n_block ?_
            refine J.n_then ?_
            refine J.region ?_
            refine J.op (Yd.move rfl) rfl ?_
            refine J.op (Yd.add rfl rfl (by first | omega | exact idx_u8' _ | (simp only [Int.toNat_natCast]; omega) | (simp only [List.length_map, List.length_drop, List.length_take, List.length_append, List.length_replicate]; omega) | (simp <;> omega))) rfl ?_
            refine J.op (Yd.assign rfl) rfl ?_
            refine J.nil ?_
            refine J.n_then ?_
            exact J.round (n + 1) ⟨rfl, (someI (by omega)), rfl, trivial⟩ (⟨by omega, Cel.eq c10_0 (by rw [show k = 4 by omega, kP_next key n (by omega)]), e0⟩) (by omega)
    · skip
      refine J.exit ?_
      refine J.x_then ?_
      refine J.x_then ?_
      refine J.x_block ?_
      refine J.n_then ?_
      refine J.seq ?_
      refine J.region ?_
      refine J.op (Yd.move rfl) rfl ?_
      refine J.op (Yd.assign rfl) rfl ?_
      refine J.nil ?_
      refine J.n_then ?_
      refine J.ret ?_
      exact J.ret1 rfl rfl (⟨_, rfl, b10_0, rfl, fr_b10_0 _ rfl, Cel.eq c10_0 (by rw [show n = 52 by omega, kP_end]), e0⟩)
end Ytpkpicnldpbomaa
end Go.Proofs
