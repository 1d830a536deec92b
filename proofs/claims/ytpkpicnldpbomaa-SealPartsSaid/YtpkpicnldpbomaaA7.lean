import Derived.Test.YtpkpicnldpbomaaT
import Derived.Test.YtpkpicnldpbomaaA6
set_option linter.unusedVariables false
set_option linter.unusedSimpArgs false
set_option maxRecDepth 100000
set_option maxHeartbeats 4000000
namespace Go.Proofs
open Go.X Go.RowKit
namespace Ytpkpicnldpbomaa
theorem Sched_ok {a : Value} {key : List UInt8} {w : World} (hk : Bs w a key) (h32 : key.length = 32) : C Try.prog 30 [a, Ag (fun x => B x) boxT] w (Ret fun v w' => Ob w.heap.size 5 w' v (kx key 52) ∧ Ext w w') := by
  have hkl := fun n => kx_len key h32 n
  have hbl := boxT_len
  have e0 := Ext.refl w
  refine C.enter Try.func30 rfl Try.ntmps30 rfl ?_
  refine J.seq ?_
  refine J.region ?_
  refine J.eff (Ye.box rfl (Ag.all _ _ (n := 256) (by first | omega | exact idx_u8' _ | (simp only [Int.toNat_natCast]; omega) | (simp only [List.length_map, List.length_drop, List.length_take, List.length_append, List.length_replicate]; omega) | (simp <;> omega)))) rfl ?_
  rintro _ w1 ⟨b3_0, rfl, hb_, c3_0, x1⟩
  have fr_b3_0 : Fr w.heap.size (some b3_0) := Fr.le (Fr.blk hb_) e0.size
  have e0 := e0.trans x1
  clear x1 hb_
  refine J.op (Yd.assign rfl) rfl ?_
  refine J.nil ?_
  refine J.n_then ?_
  refine J.seq ?_
  refine J.region ?_
  refine J.eff (Ye.lit0 (base := w1.heap.size) (f := (fun x : UInt8 => B x)) Try.underlying22 ti5 rfl (Nat.le_refl _)) rfl ?_
  rintro s10_2 w2 ⟨o10_2, x1⟩
  have ap_b3_0_s10_2 : Ap (some b3_0) s10_2.ownBlock := Ap.mk (Cel.live c3_0) (Ow.fr o10_2)
  have fr_s10_2 : Fr w.heap.size s10_2.ownBlock := Fr.le (Ow.fr o10_2) e0.size
  replace o10_2 := Ow.base o10_2 e0.size
  have e0 := e0.trans x1
  have c3_0 := c3_0.ext x1
  clear x1
  refine J.op (Yd.move rfl) rfl ?_
  refine J.eff (Ye.appendS Try.underlying22 ti5 rfl rfl rfl rfl o10_2 (Rd.ext hk e0) (fun _ => rfl) (by first | omega | exact idx_u8' _ | (simp only [Int.toNat_natCast]; omega) | (simp only [List.length_map, List.length_drop, List.length_take, List.length_append, List.length_replicate]; omega) | (simp <;> omega)) e0.size) rfl ?_
  rintro s12_3 w3 ⟨o12_3, hg, hsf⟩
  have ap_b3_0_s12_3 : Ap (some b3_0) s12_3.ownBlock := Ap.sf ap_b3_0_s10_2 (Cel.live c3_0) hsf
  have fr_s12_3 : Fr w.heap.size s12_3.ownBlock := Fr.sf fr_s10_2 hsf e0.size
  have c3_0 := Cel.gbk c3_0 hg ap_b3_0_s10_2
  have e0 := Ext.gbk e0 fr_s10_2 hg
  clear hg hsf
  rw [List.nil_append] at o12_3
  refine J.op (Yd.assign rfl) rfl ?_
  refine J.nil ?_
  refine J.n_then ?_
  refine J.seq ?_
  refine J.region ?_
  refine J.op (Yd.assign rfl) rfl ?_
  refine J.nil ?_
  refine J.n_then ?_
  refine J.seq ?_
  refine J.seq ?_
  refine J.region ?_
  refine J.op (Yd.assign rfl) rfl ?_
  refine J.nil ?_
  refine J.n_then ?_
  refine J.block ?_
  refine J.loop (ι := Nat × Value) (fun i => [(6, B (rc ((i.1 + 7) / 8))), (7, I ((i.1 : Int) + 8)), (3, .pointer (some ⟨b3_0, 0, none⟩)), (5, i.2)]) (fun i w' => i.1 ≤ 52 ∧ Cel w' b3_0 51 [(0, 256, boxT.map (fun x : UInt8 => B x))] ∧ Ob w.heap.size 5 w' i.2 (kx key i.1) ∧ Fr w.heap.size (i.2).ownBlock ∧ Ap (some b3_0) (i.2).ownBlock ∧ Ext w w') (fun i => 52 - i.1) ((0, s12_3)) ⟨(show some (B 1) = some (B (rc ((0 + 7) / 8))) from rfl), (someI (by omega)), rfl, rfl, trivial⟩ (⟨Nat.zero_le _, c3_0, o12_3, fr_s12_3, ap_b3_0_s12_3, e0⟩) ?_
  rintro ⟨n, v⟩ w4 ⟨hn, c3_0, hw, fr_v, ap_b3_0_v, e0⟩
  dsimp only at *
  have hkn := hkl n
  refine J.seq ?_
  refine J.seq ?_
  refine J.region ?_
  refine J.op (Yd.move rfl) rfl ?_
  refine J.op (Yd.lss rfl rfl) rfl ?_
  refine J.nil ?_
  refine J.n_then ?_
  refine J.cond_dec rfl (fun hc0 => ?_) (fun hc0 => ?_)
  · skip
    refine J.skip ?_
    refine J.n_then ?_
    refine J.seq ?_
    refine J.block ?_
    refine J.seq ?_
    refine J.region ?_
    refine J.eff (Ye.lit0 (base := w4.heap.size) (f := (fun x : UInt8 => B x)) Try.underlying22 ti5 rfl (Nat.le_refl _)) rfl ?_
    rintro s17_5 w5 ⟨o17_5, x1⟩
    have ap_b3_0_s17_5 : Ap (some b3_0) s17_5.ownBlock := Ap.mk (Cel.live c3_0) (Ow.fr o17_5)
    have ap_v_s17_5 : Ap v.ownBlock s17_5.ownBlock := Ap.mk (Ow.live hw) (Ow.fr o17_5)
    have fr_s17_5 : Fr w.heap.size s17_5.ownBlock := Fr.le (Ow.fr o17_5) e0.size
    replace o17_5 := Ow.base o17_5 e0.size
    have e0 := e0.trans x1
    have c3_0 := c3_0.ext x1
    have hw := hw.ext x1
    clear x1
    refine J.op (Yd.move rfl) rfl ?_
    refine J.op (Yd.move rfl) rfl ?_
    refine J.op (Yd.mul rfl rfl (by first | omega | exact idx_u8' _ | (simp only [Int.toNat_natCast]; omega) | (simp only [List.length_map, List.length_drop, List.length_take, List.length_append, List.length_replicate]; omega) | (simp <;> omega))) rfl ?_
    refine J.op (Yd.sub rfl rfl (by first | omega | exact idx_u8' _ | (simp only [Int.toNat_natCast]; omega) | (simp only [List.length_map, List.length_drop, List.length_take, List.length_append, List.length_replicate]; omega) | (simp <;> omega))) rfl ?_
    refine J.op (Yd.move rfl) rfl ?_
    refine J.op (Yd.mul rfl rfl (by first | omega | exact idx_u8' _ | (simp only [Int.toNat_natCast]; omega) | (simp only [List.length_map, List.length_drop, List.length_take, List.length_append, List.length_replicate]; omega) | (simp <;> omega))) rfl ?_
    refine J.op (Yd.slcLH Try.underlying22 ti5 rfl (Ow.rd hw) rfl rfl (by first | omega | exact idx_u8' _ | (simp only [Int.toNat_natCast]; omega) | (simp only [List.length_map, List.length_drop, List.length_take, List.length_append, List.length_replicate]; omega) | (simp <;> omega))) rfl ?_
    refine J.eff (Ye.appendS Try.underlying22 ti5 rfl rfl rfl rfl o17_5 (Bs.slc (Ow.rd hw) (by first | omega | exact idx_u8' _ | (simp only [Int.toNat_natCast]; omega) | (simp only [List.length_map, List.length_drop, List.length_take, List.length_append, List.length_replicate]; omega) | (simp <;> omega)) (by first | omega | exact idx_u8' _ | (simp only [Int.toNat_natCast]; omega) | (simp only [List.length_map, List.length_drop, List.length_take, List.length_append, List.length_replicate]; omega) | (simp <;> omega))) (fun _ => rfl) (by first | omega | exact idx_u8' _ | (simp only [Int.toNat_natCast]; omega) | (simp only [List.length_map, List.length_drop, List.length_take, List.length_append, List.length_replicate]; omega) | (simp <;> omega)) e0.size) rfl ?_
    rintro s25_6 w6 ⟨o25_6, hg, hsf⟩
    have ap_b3_0_s25_6 : Ap (some b3_0) s25_6.ownBlock := Ap.sf ap_b3_0_s17_5 (Cel.live c3_0) hsf
    have ap_v_s25_6 : Ap v.ownBlock s25_6.ownBlock := Ap.sf ap_v_s17_5 (Ow.live hw) hsf
    have fr_s25_6 : Fr w.heap.size s25_6.ownBlock := Fr.sf fr_s17_5 hsf e0.size
    have c3_0 := Cel.gbk c3_0 hg ap_b3_0_s17_5
    have hw := Ow.gbk hw hg ap_v_s17_5
    have e0 := Ext.gbk e0 fr_s17_5 hg
    clear hg hsf
    rw [List.nil_append] at o25_6
    rw [show (4 * ((n : Int) + 8) - 4).toNat = 4 * (n + 8) - 4 by omega, show (4 * ((n : Int) + 8)).toNat = 4 * (n + 8) by omega, kx_cut key h32 n] at o25_6
    refine J.op (Yd.assign rfl) rfl ?_
    refine J.nil ?_
    refine J.n_then ?_
    refine J.seq ?_
    refine J.seq ?_
    refine J.region ?_
    refine J.op (Yd.move rfl) rfl ?_
    refine J.op (Yd.rem rfl rfl (by first | omega | exact idx_u8' _ | (simp only [Int.toNat_natCast]; omega) | (simp only [List.length_map, List.length_drop, List.length_take, List.length_append, List.length_replicate]; omega) | (simp <;> omega)) (by first | omega | exact idx_u8' _ | (simp only [Int.toNat_natCast]; omega) | (simp only [List.length_map, List.length_drop, List.length_take, List.length_append, List.length_replicate]; omega) | (simp <;> omega))) rfl ?_
    refine J.op (Yd.eql rfl rfl) rfl ?_
    refine J.nil ?_
    refine J.n_then ?_
    refine J.cond_dec rfl (fun hc1 => ?_) (fun hc1 => ?_)
    · skip
      refine J.seq ?_
      refine J.regionO [(0, true), (5, true), (7, true), (12, true), (17, true)] [(1, 1), (2, 1), (8, 1), (9, 1), (13, 1), (14, 1), (18, 1), (19, 1), (3, 1), (4, 1), (6, 1), (10, 1), (11, 1), (15, 1), (16, 1), (20, 1), (21, 1)] [(22, false), (23, true)] mix (by kernel_rfl) ?_
      refine J.s_op rfl (fun _ => Yd.move rfl) rfl ?_
      refine J.s_op rfl (fun _ => Yd.move rfl) rfl ?_
      refine J.s_op rfl (fun _ => Yd.move rfl) rfl ?_
      refine J.s_op rfl (fun _ => Yd.move rfl) rfl ?_
      refine J.s_op rfl (fun _ => Yd.move rfl) rfl ?_
      refine J.s_nil ?_
      refine J.o_op rfl (Yd.idx_b Try.underlying22 ti5 rfl rfl (Ow.rd o25_6) (by first | omega | exact idx_u8' _ | (simp only [Int.toNat_natCast]; omega) | (simp only [List.length_map, List.length_drop, List.length_take, List.length_append, List.length_replicate]; omega) | (simp <;> omega))) rfl ?_
      refine J.o_op rfl (Yd.load pl5 rfl (Bs.cell (Ow.rd o25_6) (by first | omega | exact idx_u8' _ | (simp only [Int.toNat_natCast]; omega) | (simp only [List.length_map, List.length_drop, List.length_take, List.length_append, List.length_replicate]; omega) | (simp <;> omega)))) rfl ?_
      refine J.o_op rfl (Yd.idx_b Try.underlying22 ti5 rfl rfl (Ow.rd o25_6) (by first | omega | exact idx_u8' _ | (simp only [Int.toNat_natCast]; omega) | (simp only [List.length_map, List.length_drop, List.length_take, List.length_append, List.length_replicate]; omega) | (simp <;> omega))) rfl ?_
      refine J.o_op rfl (Yd.load pl5 rfl (Bs.cell (Ow.rd o25_6) (by first | omega | exact idx_u8' _ | (simp only [Int.toNat_natCast]; omega) | (simp only [List.length_map, List.length_drop, List.length_take, List.length_append, List.length_replicate]; omega) | (simp <;> omega)))) rfl ?_
      refine J.o_op rfl (Yd.idx_b Try.underlying22 ti5 rfl rfl (Ow.rd o25_6) (by first | omega | exact idx_u8' _ | (simp only [Int.toNat_natCast]; omega) | (simp only [List.length_map, List.length_drop, List.length_take, List.length_append, List.length_replicate]; omega) | (simp <;> omega))) rfl ?_
      refine J.o_op rfl (Yd.load pl5 rfl (Bs.cell (Ow.rd o25_6) (by first | omega | exact idx_u8' _ | (simp only [Int.toNat_natCast]; omega) | (simp only [List.length_map, List.length_drop, List.length_take, List.length_append, List.length_replicate]; omega) | (simp <;> omega)))) rfl ?_
      refine J.o_op rfl (Yd.idx_b Try.underlying22 ti5 rfl rfl (Ow.rd o25_6) (by first | omega | exact idx_u8' _ | (simp only [Int.toNat_natCast]; omega) | (simp only [List.length_map, List.length_drop, List.length_take, List.length_append, List.length_replicate]; omega) | (simp <;> omega))) rfl ?_
      refine J.o_op rfl (Yd.load pl5 rfl (Bs.cell (Ow.rd o25_6) (by first | omega | exact idx_u8' _ | (simp only [Int.toNat_natCast]; omega) | (simp only [List.length_map, List.length_drop, List.length_take, List.length_append, List.length_replicate]; omega) | (simp <;> omega)))) rfl ?_
      refine J.o_op rfl (Yd.idxA Try.underlying51 ti5 rfl rfl (idx_u8 _)) rfl ?_
      refine J.o_op rfl (Yd.load pl5 rfl (Cel.cellM c3_0 0 rfl 0 (by have hl_ := Cel.lenM c3_0 0 rfl; first | omega | (rw [hl_]; exact idx_u8' _) | (simp only [Int.toNat_natCast]; omega) | (simp at hl_ ⊢ <;> omega)))) rfl ?_
      refine J.o_op rfl (Yd.xor_u8 rfl rfl) rfl ?_
      refine J.o_op rfl (Yd.idxA Try.underlying51 ti5 rfl rfl (idx_u8 _)) rfl ?_
      refine J.o_op rfl (Yd.load pl5 rfl (Cel.cellM c3_0 0 rfl 0 (by have hl_ := Cel.lenM c3_0 0 rfl; first | omega | (rw [hl_]; exact idx_u8' _) | (simp only [Int.toNat_natCast]; omega) | (simp at hl_ ⊢ <;> omega)))) rfl ?_
      refine J.o_op rfl (Yd.idxA Try.underlying51 ti5 rfl rfl (idx_u8 _)) rfl ?_
      refine J.o_op rfl (Yd.load pl5 rfl (Cel.cellM c3_0 0 rfl 0 (by have hl_ := Cel.lenM c3_0 0 rfl; first | omega | (rw [hl_]; exact idx_u8' _) | (simp only [Int.toNat_natCast]; omega) | (simp at hl_ ⊢ <;> omega)))) rfl ?_
      refine J.o_op rfl (Yd.idxA Try.underlying51 ti5 rfl rfl (idx_u8 _)) rfl ?_
      refine J.o_op rfl (Yd.load pl5 rfl (Cel.cellM c3_0 0 rfl 0 (by have hl_ := Cel.lenM c3_0 0 rfl; first | omega | (rw [hl_]; exact idx_u8' _) | (simp only [Int.toNat_natCast]; omega) | (simp at hl_ ⊢ <;> omega)))) rfl ?_
      refine J.o_nil ?_
      refine J.s_eff rfl (Ye.litM (base := w6.heap.size) (f := fun x : UInt8 => B x) ([S8 (((((kx key n).drop (4 * (n + 8) - 4)))).getD 1 0) ^^^ rc ((n + 7) / 8), S8 (((((kx key n).drop (4 * (n + 8) - 4)))).getD 2 0), S8 (((((kx key n).drop (4 * (n + 8) - 4)))).getD 3 0), S8 (((((kx key n).drop (4 * (n + 8) - 4)))).getD 0 0)]) Try.underlying22 ti5 rfl rfl rfl rfl (fun _ => rfl) rfl (Nat.le_refl _)) rfl ?_
      rintro s51_7 w7 ⟨o51_7, x1⟩
      have ap_b3_0_s51_7 : Ap (some b3_0) s51_7.ownBlock := Ap.mk (Cel.live c3_0) (Ow.fr o51_7)
      have ap_v_s51_7 : Ap v.ownBlock s51_7.ownBlock := Ap.mk (Ow.live hw) (Ow.fr o51_7)
      have ap_s25_6_s51_7 : Ap s25_6.ownBlock s51_7.ownBlock := Ap.mk (Ow.live o25_6) (Ow.fr o51_7)
      have fr_s51_7 : Fr w.heap.size s51_7.ownBlock := Fr.le (Ow.fr o51_7) e0.size
      replace o51_7 := Ow.base o51_7 e0.size
      have e0 := e0.trans x1
      have c3_0 := c3_0.ext x1
      have hw := hw.ext x1
      have o25_6 := o25_6.ext x1
      clear x1
      refine J.s_op rfl (fun _ => Yd.assign rfl) rfl ?_
      refine J.s_nil ?_
      refine J.n_np ?_
      refine J.n_then ?_
      refine J.region ?_
      refine J.op (Yd.move rfl) rfl ?_
      refine J.eff (Ye.call cl43 rfl (Gmul_ok (b := 2))) rfl ?_
      rintro _ w8 ⟨rfl, x1⟩
      have e0 := e0.trans x1
      have c3_0 := c3_0.ext x1
      have hw := hw.ext x1
      have o25_6 := o25_6.ext x1
      have o51_7 := o51_7.ext x1
      clear x1
      refine J.op (Yd.assign rfl) rfl ?_
      refine J.nil ?_
      refine J.n_then ?_
      refine J.seq ?_
      refine J.region ?_
      refine J.op (Yd.assign rfl) rfl ?_
      refine J.nil ?_
      refine J.n_then ?_
      refine J.block ?_
      refine J.loop (ι := Nat × Value) (fun i => [(6, B (rc ((n + 1 + 7) / 8))), (7, I ((n : Int) + 8)), (9, I i.1), (3, .pointer (some ⟨b3_0, 0, none⟩)), (5, i.2), (8, s51_7)]) (fun i w' => i.1 ≤ 4 ∧ Cel w' b3_0 51 [(0, 256, boxT.map (fun x : UInt8 => B x))] ∧ Ob w.heap.size 5 w' i.2 (kxk key n i.1) ∧ Ob w.heap.size 5 w' s51_7 (kU (kx key n) (n + 8)) ∧ Fr w.heap.size (i.2).ownBlock ∧ Ap (some b3_0) (i.2).ownBlock ∧ Ap s51_7.ownBlock (i.2).ownBlock ∧ Ext w w') (fun i => 4 - i.1) ((0, v)) ⟨(congrArg (fun u => some (B u)) (rc_up2 (by omega))), rfl, rfl, rfl, rfl, rfl, trivial⟩ (⟨Nat.zero_le _, c3_0, by rw [kxk_zero]; exact hw, by rw [kU_0 (by omega)]; exact o51_7, fr_v, ap_b3_0_v, (Ap.symm ap_v_s51_7), e0⟩) ?_
      rintro ⟨k, v3⟩ w9 ⟨hk4, c3_0, hw2, ht8, fr_v3, ap_b3_0_v3, ap_s51_7_v3, e0⟩
      dsimp only at *
      have hkq := kxk_len key h32 n k (by omega)
      have hul := kU_len (kx key n) (n + 8)
      refine J.seq ?_
      refine J.seq ?_
      refine J.region ?_
      refine J.op (Yd.move rfl) rfl ?_
      refine J.op (Yd.lss rfl rfl) rfl ?_
      refine J.nil ?_
      refine J.n_then ?_
      refine J.cond_dec rfl (fun hc3 => ?_) (fun hc3 => ?_)
      · skip
        refine J.skip ?_
        refine J.n_then ?_
        refine J.seq ?_
        refine J.block ?_
        refine J.regionO [(0, true), (1, true), (2, true), (3, true), (4, true), (5, true), (6, true), (9, true), (10, true)] [(7, 1), (8, 1), (11, 1), (12, 1)] [(13, true), (14, false), (15, false), (16, true)] mix (by kernel_rfl) ?_
        refine J.s_op rfl (fun _ => Yd.move rfl) rfl ?_
        refine J.s_op rfl (fun _ => Yd.move rfl) rfl ?_
        refine J.s_op rfl (fun _ => Yd.move rfl) rfl ?_
        refine J.s_op rfl (fun _ => Yd.mul rfl rfl (by first | omega | exact idx_u8' _ | (simp only [Int.toNat_natCast]; omega) | (simp only [List.length_map, List.length_drop, List.length_take, List.length_append, List.length_replicate]; omega) | (simp <;> omega))) rfl ?_
        refine J.s_op rfl (fun _ => Yd.sub rfl rfl (by first | omega | exact idx_u8' _ | (simp only [Int.toNat_natCast]; omega) | (simp only [List.length_map, List.length_drop, List.length_take, List.length_append, List.length_replicate]; omega) | (simp <;> omega))) rfl ?_
        refine J.s_op rfl (fun _ => Yd.move rfl) rfl ?_
        refine J.s_op rfl (fun _ => Yd.add rfl rfl (by first | omega | exact idx_u8' _ | (simp only [Int.toNat_natCast]; omega) | (simp only [List.length_map, List.length_drop, List.length_take, List.length_append, List.length_replicate]; omega) | (simp <;> omega))) rfl ?_
        refine J.s_op rfl (fun _ => Yd.move rfl) rfl ?_
        refine J.s_op rfl (fun _ => Yd.move rfl) rfl ?_
        refine J.s_nil ?_
        refine J.o_op rfl (Yd.idx_b Try.underlying22 ti5 rfl rfl (Ow.rd hw2) (by first | omega | exact idx_u8' _ | (simp only [Int.toNat_natCast]; omega) | (simp only [List.length_map, List.length_drop, List.length_take, List.length_append, List.length_replicate]; omega) | (simp <;> omega))) rfl ?_
        refine J.o_op rfl (Yd.load pl5 rfl (Bs.cell (Ow.rd hw2) (by first | omega | exact idx_u8' _ | (simp only [Int.toNat_natCast]; omega) | (simp only [List.length_map, List.length_drop, List.length_take, List.length_append, List.length_replicate]; omega) | (simp <;> omega)))) rfl ?_
        refine J.o_op rfl (Yd.idx_b Try.underlying22 ti5 rfl rfl (Ow.rd ht8) (by first | omega | exact idx_u8' _ | (simp only [Int.toNat_natCast]; omega) | (simp only [List.length_map, List.length_drop, List.length_take, List.length_append, List.length_replicate]; omega) | (simp <;> omega))) rfl ?_
        refine J.o_op rfl (Yd.load pl5 rfl (Bs.cell (Ow.rd ht8) (by first | omega | exact idx_u8' _ | (simp only [Int.toNat_natCast]; omega) | (simp only [List.length_map, List.length_drop, List.length_take, List.length_append, List.length_replicate]; omega) | (simp <;> omega)))) rfl ?_
        refine J.o_nil ?_
        refine J.s_op rfl (fun _ => Yd.xor_u8 rfl rfl) rfl ?_
        refine J.s_eff rfl (Ye.lit1 (base := w9.heap.size) (f := (fun x : UInt8 => B x)) Try.underlying22 ti5 rfl rfl (fun _ => rfl) (Nat.le_refl _)) rfl ?_
        rintro s96_10 w10 ⟨o96_10, x1⟩
        have ap_b3_0_s96_10 : Ap (some b3_0) s96_10.ownBlock := Ap.mk (Cel.live c3_0) (Ow.fr o96_10)
        have ap_v3_s96_10 : Ap v3.ownBlock s96_10.ownBlock := Ap.mk (Ow.live hw2) (Ow.fr o96_10)
        have ap_s51_7_s96_10 : Ap s51_7.ownBlock s96_10.ownBlock := Ap.mk (Ow.live ht8) (Ow.fr o96_10)
        have fr_s96_10 : Fr w.heap.size s96_10.ownBlock := Fr.le (Ow.fr o96_10) e0.size
        replace o96_10 := Ow.base o96_10 e0.size
        have e0 := e0.trans x1
        have c3_0 := c3_0.ext x1
        have hw2 := hw2.ext x1
        have ht8 := ht8.ext x1
        clear x1
        refine J.s_eff rfl (Ye.appendS Try.underlying22 ti5 rfl rfl rfl rfl hw2 (Ow.rd o96_10) (fun _ => rfl) (by first | omega | exact idx_u8' _ | (simp only [Int.toNat_natCast]; omega) | (simp only [List.length_map, List.length_drop, List.length_take, List.length_append, List.length_replicate]; omega) | (simp <;> omega)) e0.size) rfl ?_
        rintro s97_11 w11 ⟨o97_11, hg, hsf⟩
        have ap_b3_0_s97_11 : Ap (some b3_0) s97_11.ownBlock := Ap.sf ap_b3_0_v3 (Cel.live c3_0) hsf
        have ap_s51_7_s97_11 : Ap s51_7.ownBlock s97_11.ownBlock := Ap.sf ap_s51_7_v3 (Ow.live ht8) hsf
        have ap_s96_10_s97_11 : Ap s96_10.ownBlock s97_11.ownBlock := Ap.sf (Ap.symm ap_v3_s96_10) (Ow.live o96_10) hsf
        have fr_s97_11 : Fr w.heap.size s97_11.ownBlock := Fr.sf fr_v3 hsf e0.size
        have c3_0 := Cel.gbk c3_0 hg ap_b3_0_v3
        have ht8 := Ow.gbk ht8 hg ap_s51_7_v3
        have o96_10 := Ow.gbk o96_10 hg (Ap.symm ap_v3_s96_10)
        have e0 := Ext.gbk e0 fr_v3 hg
        clear hg hsf
        refine J.s_op rfl (fun _ => Yd.assign rfl) rfl ?_
        refine J.s_nil ?_
        refine J.n_np ?_
        refine J.n_block ?_
        refine J.n_then ?_
        refine J.region ?_
        refine J.op (Yd.move rfl) rfl ?_
        refine J.op (Yd.add rfl rfl (by first | omega | exact idx_u8' _ | (simp only [Int.toNat_natCast]; omega) | (simp only [List.length_map, List.length_drop, List.length_take, List.length_append, List.length_replicate]; omega) | (simp <;> omega))) rfl ?_
        refine J.op (Yd.assign rfl) rfl ?_
        refine J.nil ?_
        refine J.n_then ?_
        exact J.round ((k + 1, s97_11)) ⟨rfl, rfl, rfl, rfl, rfl, rfl, trivial⟩ (⟨by show k + 1 ≤ 4; omega, c3_0, by show Ob _ _ _ _ (kxk key n (k + 1)); have h9 := o97_11; rw [show (4 * ((n : Int) + 8) - 32 + (k : Int)).toNat = 4 * (n + 8) - 32 + k by omega, Int.toNat_natCast, kxk_app key h32 n k (by omega)] at h9; exact h9, ht8, fr_s97_11, ap_b3_0_s97_11, ap_s51_7_s97_11, e0⟩) (by show 4 - (k + 1) < 4 - k; omega)
      · skip
        refine J.exit ?_
        refine J.x_then ?_
        refine J.x_then ?_
        refine J.x_block ?_
        refine J.n_block ?_
        refine J.n_then ?_
        refine J.region ?_
        refine J.op (Yd.move rfl) rfl ?_
        refine J.op (Yd.add rfl rfl (by first | omega | exact idx_u8' _ | (simp only [Int.toNat_natCast]; omega) | (simp only [List.length_map, List.length_drop, List.length_take, List.length_append, List.length_replicate]; omega) | (simp <;> omega))) rfl ?_
        refine J.op (Yd.assign rfl) rfl ?_
        refine J.nil ?_
        refine J.n_then ?_
        exact J.round ((n + 1, v3)) ⟨rfl, (someI (by show (n : Int) + 8 + 1 = ((n + 1 : Nat) : Int) + 8; omega)), rfl, rfl, trivial⟩ (⟨by show n + 1 ≤ 52; omega, c3_0, by show Ob _ _ _ _ (kx key (n + 1)); have h9 := hw2; rw [show k = 4 by omega, kxk_four] at h9; exact h9, fr_v3, ap_b3_0_v3, e0⟩) (by show 52 - (n + 1) < 52 - n; omega)
    · skip
      refine J.seq ?_
      refine J.region ?_
      refine J.op (Yd.move rfl) rfl ?_
      refine J.op (Yd.rem rfl rfl (by first | omega | exact idx_u8' _ | (simp only [Int.toNat_natCast]; omega) | (simp only [List.length_map, List.length_drop, List.length_take, List.length_append, List.length_replicate]; omega) | (simp <;> omega)) (by first | omega | exact idx_u8' _ | (simp only [Int.toNat_natCast]; omega) | (simp only [List.length_map, List.length_drop, List.length_take, List.length_append, List.length_replicate]; omega) | (simp <;> omega))) rfl ?_
      refine J.op (Yd.eql rfl rfl) rfl ?_
      refine J.nil ?_
      refine J.n_then ?_
      refine J.cond_dec rfl (fun hc2 => ?_) (fun hc2 => ?_)
      · skip
        refine J.regionO [(0, true), (5, true), (10, true), (15, true)] [(1, 1), (2, 1), (6, 1), (7, 1), (11, 1), (12, 1), (16, 1), (17, 1), (3, 1), (4, 1), (8, 1), (9, 1), (13, 1), (14, 1), (18, 1), (19, 1)] [(20, false), (21, true)] mix (by kernel_rfl) ?_
        refine J.s_op rfl (fun _ => Yd.move rfl) rfl ?_
        refine J.s_op rfl (fun _ => Yd.move rfl) rfl ?_
        refine J.s_op rfl (fun _ => Yd.move rfl) rfl ?_
        refine J.s_op rfl (fun _ => Yd.move rfl) rfl ?_
        refine J.s_nil ?_
        refine J.o_op rfl (Yd.idx_b Try.underlying22 ti5 rfl rfl (Ow.rd o25_6) (by first | omega | exact idx_u8' _ | (simp only [Int.toNat_natCast]; omega) | (simp only [List.length_map, List.length_drop, List.length_take, List.length_append, List.length_replicate]; omega) | (simp <;> omega))) rfl ?_
        refine J.o_op rfl (Yd.load pl5 rfl (Bs.cell (Ow.rd o25_6) (by first | omega | exact idx_u8' _ | (simp only [Int.toNat_natCast]; omega) | (simp only [List.length_map, List.length_drop, List.length_take, List.length_append, List.length_replicate]; omega) | (simp <;> omega)))) rfl ?_
        refine J.o_op rfl (Yd.idx_b Try.underlying22 ti5 rfl rfl (Ow.rd o25_6) (by first | omega | exact idx_u8' _ | (simp only [Int.toNat_natCast]; omega) | (simp only [List.length_map, List.length_drop, List.length_take, List.length_append, List.length_replicate]; omega) | (simp <;> omega))) rfl ?_
        refine J.o_op rfl (Yd.load pl5 rfl (Bs.cell (Ow.rd o25_6) (by first | omega | exact idx_u8' _ | (simp only [Int.toNat_natCast]; omega) | (simp only [List.length_map, List.length_drop, List.length_take, List.length_append, List.length_replicate]; omega) | (simp <;> omega)))) rfl ?_
        refine J.o_op rfl (Yd.idx_b Try.underlying22 ti5 rfl rfl (Ow.rd o25_6) (by first | omega | exact idx_u8' _ | (simp only [Int.toNat_natCast]; omega) | (simp only [List.length_map, List.length_drop, List.length_take, List.length_append, List.length_replicate]; omega) | (simp <;> omega))) rfl ?_
        refine J.o_op rfl (Yd.load pl5 rfl (Bs.cell (Ow.rd o25_6) (by first | omega | exact idx_u8' _ | (simp only [Int.toNat_natCast]; omega) | (simp only [List.length_map, List.length_drop, List.length_take, List.length_append, List.length_replicate]; omega) | (simp <;> omega)))) rfl ?_
        refine J.o_op rfl (Yd.idx_b Try.underlying22 ti5 rfl rfl (Ow.rd o25_6) (by first | omega | exact idx_u8' _ | (simp only [Int.toNat_natCast]; omega) | (simp only [List.length_map, List.length_drop, List.length_take, List.length_append, List.length_replicate]; omega) | (simp <;> omega))) rfl ?_
        refine J.o_op rfl (Yd.load pl5 rfl (Bs.cell (Ow.rd o25_6) (by first | omega | exact idx_u8' _ | (simp only [Int.toNat_natCast]; omega) | (simp only [List.length_map, List.length_drop, List.length_take, List.length_append, List.length_replicate]; omega) | (simp <;> omega)))) rfl ?_
        refine J.o_op rfl (Yd.idxA Try.underlying51 ti5 rfl rfl (idx_u8 _)) rfl ?_
        refine J.o_op rfl (Yd.load pl5 rfl (Cel.cellM c3_0 0 rfl 0 (by have hl_ := Cel.lenM c3_0 0 rfl; first | omega | (rw [hl_]; exact idx_u8' _) | (simp only [Int.toNat_natCast]; omega) | (simp at hl_ ⊢ <;> omega)))) rfl ?_
        refine J.o_op rfl (Yd.idxA Try.underlying51 ti5 rfl rfl (idx_u8 _)) rfl ?_
        refine J.o_op rfl (Yd.load pl5 rfl (Cel.cellM c3_0 0 rfl 0 (by have hl_ := Cel.lenM c3_0 0 rfl; first | omega | (rw [hl_]; exact idx_u8' _) | (simp only [Int.toNat_natCast]; omega) | (simp at hl_ ⊢ <;> omega)))) rfl ?_
        refine J.o_op rfl (Yd.idxA Try.underlying51 ti5 rfl rfl (idx_u8 _)) rfl ?_
        refine J.o_op rfl (Yd.load pl5 rfl (Cel.cellM c3_0 0 rfl 0 (by have hl_ := Cel.lenM c3_0 0 rfl; first | omega | (rw [hl_]; exact idx_u8' _) | (simp only [Int.toNat_natCast]; omega) | (simp at hl_ ⊢ <;> omega)))) rfl ?_
        refine J.o_op rfl (Yd.idxA Try.underlying51 ti5 rfl rfl (idx_u8 _)) rfl ?_
        refine J.o_op rfl (Yd.load pl5 rfl (Cel.cellM c3_0 0 rfl 0 (by have hl_ := Cel.lenM c3_0 0 rfl; first | omega | (rw [hl_]; exact idx_u8' _) | (simp only [Int.toNat_natCast]; omega) | (simp at hl_ ⊢ <;> omega)))) rfl ?_
        refine J.o_nil ?_
        refine J.s_eff rfl (Ye.litM (base := w6.heap.size) (f := fun x : UInt8 => B x) ([S8 (((((kx key n).drop (4 * (n + 8) - 4)))).getD 0 0), S8 (((((kx key n).drop (4 * (n + 8) - 4)))).getD 1 0), S8 (((((kx key n).drop (4 * (n + 8) - 4)))).getD 2 0), S8 (((((kx key n).drop (4 * (n + 8) - 4)))).getD 3 0)]) Try.underlying22 ti5 rfl rfl rfl rfl (fun _ => rfl) rfl (Nat.le_refl _)) rfl ?_
        rintro s77_12 w12 ⟨o77_12, x1⟩
        have ap_b3_0_s77_12 : Ap (some b3_0) s77_12.ownBlock := Ap.mk (Cel.live c3_0) (Ow.fr o77_12)
        have ap_v_s77_12 : Ap v.ownBlock s77_12.ownBlock := Ap.mk (Ow.live hw) (Ow.fr o77_12)
        have ap_s25_6_s77_12 : Ap s25_6.ownBlock s77_12.ownBlock := Ap.mk (Ow.live o25_6) (Ow.fr o77_12)
        have fr_s77_12 : Fr w.heap.size s77_12.ownBlock := Fr.le (Ow.fr o77_12) e0.size
        replace o77_12 := Ow.base o77_12 e0.size
        have e0 := e0.trans x1
        have c3_0 := c3_0.ext x1
        have hw := hw.ext x1
        have o25_6 := o25_6.ext x1
        clear x1
        refine J.s_op rfl (fun _ => Yd.assign rfl) rfl ?_
        refine J.s_nil ?_
        refine J.n_np ?_
        refine J.n_then ?_
        refine J.seq ?_
        refine J.region ?_
        refine J.op (Yd.assign rfl) rfl ?_
        refine J.nil ?_
        refine J.n_then ?_
        refine J.block ?_
        refine J.loop (ι := Nat × Value) (fun i => [(6, B (rc ((n + 1 + 7) / 8))), (7, I ((n : Int) + 8)), (9, I i.1), (3, .pointer (some ⟨b3_0, 0, none⟩)), (5, i.2), (8, s77_12)]) (fun i w' => i.1 ≤ 4 ∧ Cel w' b3_0 51 [(0, 256, boxT.map (fun x : UInt8 => B x))] ∧ Ob w.heap.size 5 w' i.2 (kxk key n i.1) ∧ Ob w.heap.size 5 w' s77_12 (kU (kx key n) (n + 8)) ∧ Fr w.heap.size (i.2).ownBlock ∧ Ap (some b3_0) (i.2).ownBlock ∧ Ap s77_12.ownBlock (i.2).ownBlock ∧ Ext w w') (fun i => 4 - i.1) ((0, v)) ⟨(congrArg (fun u => some (B u)) (rc_same (by omega))), rfl, rfl, rfl, rfl, rfl, trivial⟩ (⟨Nat.zero_le _, c3_0, by rw [kxk_zero]; exact hw, by rw [kU_4 (by omega)]; exact o77_12, fr_v, ap_b3_0_v, (Ap.symm ap_v_s77_12), e0⟩) ?_
        rintro ⟨k, v3⟩ w13 ⟨hk4, c3_0, hw2, ht8, fr_v3, ap_b3_0_v3, ap_s77_12_v3, e0⟩
        dsimp only at *
        have hkq := kxk_len key h32 n k (by omega)
        have hul := kU_len (kx key n) (n + 8)
        refine J.seq ?_
        refine J.seq ?_
        refine J.region ?_
        refine J.op (Yd.move rfl) rfl ?_
        refine J.op (Yd.lss rfl rfl) rfl ?_
        refine J.nil ?_
        refine J.n_then ?_
        refine J.cond_dec rfl (fun hc3 => ?_) (fun hc3 => ?_)
        · skip
          refine J.skip ?_
          refine J.n_then ?_
          refine J.seq ?_
          refine J.block ?_
          refine J.regionO [(0, true), (1, true), (2, true), (3, true), (4, true), (5, true), (6, true), (9, true), (10, true)] [(7, 1), (8, 1), (11, 1), (12, 1)] [(13, true), (14, false), (15, false), (16, true)] mix (by kernel_rfl) ?_
          refine J.s_op rfl (fun _ => Yd.move rfl) rfl ?_
          refine J.s_op rfl (fun _ => Yd.move rfl) rfl ?_
          refine J.s_op rfl (fun _ => Yd.move rfl) rfl ?_
          refine J.s_op rfl (fun _ => Yd.mul rfl rfl (by first | omega | exact idx_u8' _ | (simp only [Int.toNat_natCast]; omega) | (simp only [List.length_map, List.length_drop, List.length_take, List.length_append, List.length_replicate]; omega) | (simp <;> omega))) rfl ?_
          refine J.s_op rfl (fun _ => Yd.sub rfl rfl (by first | omega | exact idx_u8' _ | (simp only [Int.toNat_natCast]; omega) | (simp only [List.length_map, List.length_drop, List.length_take, List.length_append, List.length_replicate]; omega) | (simp <;> omega))) rfl ?_
          refine J.s_op rfl (fun _ => Yd.move rfl) rfl ?_
          refine J.s_op rfl (fun _ => Yd.add rfl rfl (by first | omega | exact idx_u8' _ | (simp only [Int.toNat_natCast]; omega) | (simp only [List.length_map, List.length_drop, List.length_take, List.length_append, List.length_replicate]; omega) | (simp <;> omega))) rfl ?_
          refine J.s_op rfl (fun _ => Yd.move rfl) rfl ?_
          refine J.s_op rfl (fun _ => Yd.move rfl) rfl ?_
          refine J.s_nil ?_
          refine J.o_op rfl (Yd.idx_b Try.underlying22 ti5 rfl rfl (Ow.rd hw2) (by first | omega | exact idx_u8' _ | (simp only [Int.toNat_natCast]; omega) | (simp only [List.length_map, List.length_drop, List.length_take, List.length_append, List.length_replicate]; omega) | (simp <;> omega))) rfl ?_
          refine J.o_op rfl (Yd.load pl5 rfl (Bs.cell (Ow.rd hw2) (by first | omega | exact idx_u8' _ | (simp only [Int.toNat_natCast]; omega) | (simp only [List.length_map, List.length_drop, List.length_take, List.length_append, List.length_replicate]; omega) | (simp <;> omega)))) rfl ?_
          refine J.o_op rfl (Yd.idx_b Try.underlying22 ti5 rfl rfl (Ow.rd ht8) (by first | omega | exact idx_u8' _ | (simp only [Int.toNat_natCast]; omega) | (simp only [List.length_map, List.length_drop, List.length_take, List.length_append, List.length_replicate]; omega) | (simp <;> omega))) rfl ?_
          refine J.o_op rfl (Yd.load pl5 rfl (Bs.cell (Ow.rd ht8) (by first | omega | exact idx_u8' _ | (simp only [Int.toNat_natCast]; omega) | (simp only [List.length_map, List.length_drop, List.length_take, List.length_append, List.length_replicate]; omega) | (simp <;> omega)))) rfl ?_
          refine J.o_nil ?_
          refine J.s_op rfl (fun _ => Yd.xor_u8 rfl rfl) rfl ?_
          refine J.s_eff rfl (Ye.lit1 (base := w13.heap.size) (f := (fun x : UInt8 => B x)) Try.underlying22 ti5 rfl rfl (fun _ => rfl) (Nat.le_refl _)) rfl ?_
          rintro s96_14 w14 ⟨o96_14, x1⟩
          have ap_b3_0_s96_14 : Ap (some b3_0) s96_14.ownBlock := Ap.mk (Cel.live c3_0) (Ow.fr o96_14)
          have ap_v3_s96_14 : Ap v3.ownBlock s96_14.ownBlock := Ap.mk (Ow.live hw2) (Ow.fr o96_14)
          have ap_s77_12_s96_14 : Ap s77_12.ownBlock s96_14.ownBlock := Ap.mk (Ow.live ht8) (Ow.fr o96_14)
          have fr_s96_14 : Fr w.heap.size s96_14.ownBlock := Fr.le (Ow.fr o96_14) e0.size
          replace o96_14 := Ow.base o96_14 e0.size
          have e0 := e0.trans x1
          have c3_0 := c3_0.ext x1
          have hw2 := hw2.ext x1
          have ht8 := ht8.ext x1
          clear x1
          refine J.s_eff rfl (Ye.appendS Try.underlying22 ti5 rfl rfl rfl rfl hw2 (Ow.rd o96_14) (fun _ => rfl) (by first | omega | exact idx_u8' _ | (simp only [Int.toNat_natCast]; omega) | (simp only [List.length_map, List.length_drop, List.length_take, List.length_append, List.length_replicate]; omega) | (simp <;> omega)) e0.size) rfl ?_
          rintro s97_15 w15 ⟨o97_15, hg, hsf⟩
          have ap_b3_0_s97_15 : Ap (some b3_0) s97_15.ownBlock := Ap.sf ap_b3_0_v3 (Cel.live c3_0) hsf
          have ap_s77_12_s97_15 : Ap s77_12.ownBlock s97_15.ownBlock := Ap.sf ap_s77_12_v3 (Ow.live ht8) hsf
          have ap_s96_14_s97_15 : Ap s96_14.ownBlock s97_15.ownBlock := Ap.sf (Ap.symm ap_v3_s96_14) (Ow.live o96_14) hsf
          have fr_s97_15 : Fr w.heap.size s97_15.ownBlock := Fr.sf fr_v3 hsf e0.size
          have c3_0 := Cel.gbk c3_0 hg ap_b3_0_v3
          have ht8 := Ow.gbk ht8 hg ap_s77_12_v3
          have o96_14 := Ow.gbk o96_14 hg (Ap.symm ap_v3_s96_14)
          have e0 := Ext.gbk e0 fr_v3 hg
          clear hg hsf
          refine J.s_op rfl (fun _ => Yd.assign rfl) rfl ?_
          refine J.s_nil ?_
          refine J.n_np ?_
          refine J.n_block ?_
          refine J.n_then ?_
          refine J.region ?_
          refine J.op (Yd.move rfl) rfl ?_
          refine J.op (Yd.add rfl rfl (by first | omega | exact idx_u8' _ | (simp only [Int.toNat_natCast]; omega) | (simp only [List.length_map, List.length_drop, List.length_take, List.length_append, List.length_replicate]; omega) | (simp <;> omega))) rfl ?_
          refine J.op (Yd.assign rfl) rfl ?_
          refine J.nil ?_
          refine J.n_then ?_
          exact J.round ((k + 1, s97_15)) ⟨rfl, rfl, rfl, rfl, rfl, rfl, trivial⟩ (⟨by show k + 1 ≤ 4; omega, c3_0, by show Ob _ _ _ _ (kxk key n (k + 1)); have h9 := o97_15; rw [show (4 * ((n : Int) + 8) - 32 + (k : Int)).toNat = 4 * (n + 8) - 32 + k by omega, Int.toNat_natCast, kxk_app key h32 n k (by omega)] at h9; exact h9, ht8, fr_s97_15, ap_b3_0_s97_15, ap_s77_12_s97_15, e0⟩) (by show 4 - (k + 1) < 4 - k; omega)
        · skip
          refine J.exit ?_
          refine J.x_then ?_
          refine J.x_then ?_
          refine J.x_block ?_
          refine J.n_block ?_
          refine J.n_then ?_
          refine J.region ?_
          refine J.op (Yd.move rfl) rfl ?_
          refine J.op (Yd.add rfl rfl (by first | omega | exact idx_u8' _ | (simp only [Int.toNat_natCast]; omega) | (simp only [List.length_map, List.length_drop, List.length_take, List.length_append, List.length_replicate]; omega) | (simp <;> omega))) rfl ?_
          refine J.op (Yd.assign rfl) rfl ?_
          refine J.nil ?_
          refine J.n_then ?_
          exact J.round ((n + 1, v3)) ⟨rfl, (someI (by show (n : Int) + 8 + 1 = ((n + 1 : Nat) : Int) + 8; omega)), rfl, rfl, trivial⟩ (⟨by show n + 1 ≤ 52; omega, c3_0, by show Ob _ _ _ _ (kx key (n + 1)); have h9 := hw2; rw [show k = 4 by omega, kxk_four] at h9; exact h9, fr_v3, ap_b3_0_v3, e0⟩) (by show 52 - (n + 1) < 52 - n; omega)
      · skip
        refine J.skip ?_
        refine J.n_then ?_
        refine J.seq ?_
        refine J.region ?_
        refine J.op (Yd.assign rfl) rfl ?_
        refine J.nil ?_
        refine J.n_then ?_
        refine J.block ?_
        refine J.loop (ι := Nat × Value) (fun i => [(6, B (rc ((n + 1 + 7) / 8))), (7, I ((n : Int) + 8)), (9, I i.1), (3, .pointer (some ⟨b3_0, 0, none⟩)), (5, i.2), (8, s25_6)]) (fun i w' => i.1 ≤ 4 ∧ Cel w' b3_0 51 [(0, 256, boxT.map (fun x : UInt8 => B x))] ∧ Ob w.heap.size 5 w' i.2 (kxk key n i.1) ∧ Ob w.heap.size 5 w' s25_6 (kU (kx key n) (n + 8)) ∧ Fr w.heap.size (i.2).ownBlock ∧ Ap (some b3_0) (i.2).ownBlock ∧ Ap s25_6.ownBlock (i.2).ownBlock ∧ Ext w w') (fun i => 4 - i.1) ((0, v)) ⟨(congrArg (fun u => some (B u)) (rc_same (by omega))), rfl, rfl, rfl, rfl, rfl, trivial⟩ (⟨Nat.zero_le _, c3_0, by rw [kxk_zero]; exact hw, by rw [kU_e (hkl n) (by omega) (by omega) (by omega)]; have h9 := o25_6; exact h9, fr_v, ap_b3_0_v, (Ap.symm ap_v_s25_6), e0⟩) ?_
        rintro ⟨k, v3⟩ w16 ⟨hk4, c3_0, hw2, ht8, fr_v3, ap_b3_0_v3, ap_s25_6_v3, e0⟩
        dsimp only at *
        have hkq := kxk_len key h32 n k (by omega)
        have hul := kU_len (kx key n) (n + 8)
        refine J.seq ?_
        refine J.seq ?_
        refine J.region ?_
        refine J.op (Yd.move rfl) rfl ?_
        refine J.op (Yd.lss rfl rfl) rfl ?_
        refine J.nil ?_
        refine J.n_then ?_
        refine J.cond_dec rfl (fun hc3 => ?_) (fun hc3 => ?_)
        · skip
          refine J.skip ?_
          refine J.n_then ?_
          refine J.seq ?_
          refine J.block ?_
          refine J.regionO [(0, true), (1, true), (2, true), (3, true), (4, true), (5, true), (6, true), (9, true), (10, true)] [(7, 1), (8, 1), (11, 1), (12, 1)] [(13, true), (14, false), (15, false), (16, true)] mix (by kernel_rfl) ?_
          refine J.s_op rfl (fun _ => Yd.move rfl) rfl ?_
          refine J.s_op rfl (fun _ => Yd.move rfl) rfl ?_
          refine J.s_op rfl (fun _ => Yd.move rfl) rfl ?_
          refine J.s_op rfl (fun _ => Yd.mul rfl rfl (by first | omega | exact idx_u8' _ | (simp only [Int.toNat_natCast]; omega) | (simp only [List.length_map, List.length_drop, List.length_take, List.length_append, List.length_replicate]; omega) | (simp <;> omega))) rfl ?_
          refine J.s_op rfl (fun _ => Yd.sub rfl rfl (by first | omega | exact idx_u8' _ | (simp only [Int.toNat_natCast]; omega) | (simp only [List.length_map, List.length_drop, List.length_take, List.length_append, List.length_replicate]; omega) | (simp <;> omega))) rfl ?_
          refine J.s_op rfl (fun _ => Yd.move rfl) rfl ?_
          refine J.s_op rfl (fun _ => Yd.add rfl rfl (by first | omega | exact idx_u8' _ | (simp only [Int.toNat_natCast]; omega) | (simp only [List.length_map, List.length_drop, List.length_take, List.length_append, List.length_replicate]; omega) | (simp <;> omega))) rfl ?_
          refine J.s_op rfl (fun _ => Yd.move rfl) rfl ?_
          refine J.s_op rfl (fun _ => Yd.move rfl) rfl ?_
          refine J.s_nil ?_
          refine J.o_op rfl (Yd.idx_b Try.underlying22 ti5 rfl rfl (Ow.rd hw2) (by first | omega | exact idx_u8' _ | (simp only [Int.toNat_natCast]; omega) | (simp only [List.length_map, List.length_drop, List.length_take, List.length_append, List.length_replicate]; omega) | (simp <;> omega))) rfl ?_
          refine J.o_op rfl (Yd.load pl5 rfl (Bs.cell (Ow.rd hw2) (by first | omega | exact idx_u8' _ | (simp only [Int.toNat_natCast]; omega) | (simp only [List.length_map, List.length_drop, List.length_take, List.length_append, List.length_replicate]; omega) | (simp <;> omega)))) rfl ?_
          refine J.o_op rfl (Yd.idx_b Try.underlying22 ti5 rfl rfl (Ow.rd ht8) (by first | omega | exact idx_u8' _ | (simp only [Int.toNat_natCast]; omega) | (simp only [List.length_map, List.length_drop, List.length_take, List.length_append, List.length_replicate]; omega) | (simp <;> omega))) rfl ?_
          refine J.o_op rfl (Yd.load pl5 rfl (Bs.cell (Ow.rd ht8) (by first | omega | exact idx_u8' _ | (simp only [Int.toNat_natCast]; omega) | (simp only [List.length_map, List.length_drop, List.length_take, List.length_append, List.length_replicate]; omega) | (simp <;> omega)))) rfl ?_
          refine J.o_nil ?_
          refine J.s_op rfl (fun _ => Yd.xor_u8 rfl rfl) rfl ?_
          refine J.s_eff rfl (Ye.lit1 (base := w16.heap.size) (f := (fun x : UInt8 => B x)) Try.underlying22 ti5 rfl rfl (fun _ => rfl) (Nat.le_refl _)) rfl ?_
          rintro s96_17 w17 ⟨o96_17, x1⟩
          have ap_b3_0_s96_17 : Ap (some b3_0) s96_17.ownBlock := Ap.mk (Cel.live c3_0) (Ow.fr o96_17)
          have ap_v3_s96_17 : Ap v3.ownBlock s96_17.ownBlock := Ap.mk (Ow.live hw2) (Ow.fr o96_17)
          have ap_s25_6_s96_17 : Ap s25_6.ownBlock s96_17.ownBlock := Ap.mk (Ow.live ht8) (Ow.fr o96_17)
          have fr_s96_17 : Fr w.heap.size s96_17.ownBlock := Fr.le (Ow.fr o96_17) e0.size
          replace o96_17 := Ow.base o96_17 e0.size
          have e0 := e0.trans x1
          have c3_0 := c3_0.ext x1
          have hw2 := hw2.ext x1
          have ht8 := ht8.ext x1
          clear x1
          refine J.s_eff rfl (Ye.appendS Try.underlying22 ti5 rfl rfl rfl rfl hw2 (Ow.rd o96_17) (fun _ => rfl) (by first | omega | exact idx_u8' _ | (simp only [Int.toNat_natCast]; omega) | (simp only [List.length_map, List.length_drop, List.length_take, List.length_append, List.length_replicate]; omega) | (simp <;> omega)) e0.size) rfl ?_
          rintro s97_18 w18 ⟨o97_18, hg, hsf⟩
          have ap_b3_0_s97_18 : Ap (some b3_0) s97_18.ownBlock := Ap.sf ap_b3_0_v3 (Cel.live c3_0) hsf
          have ap_s25_6_s97_18 : Ap s25_6.ownBlock s97_18.ownBlock := Ap.sf ap_s25_6_v3 (Ow.live ht8) hsf
          have ap_s96_17_s97_18 : Ap s96_17.ownBlock s97_18.ownBlock := Ap.sf (Ap.symm ap_v3_s96_17) (Ow.live o96_17) hsf
          have fr_s97_18 : Fr w.heap.size s97_18.ownBlock := Fr.sf fr_v3 hsf e0.size
          have c3_0 := Cel.gbk c3_0 hg ap_b3_0_v3
          have ht8 := Ow.gbk ht8 hg ap_s25_6_v3
          have o96_17 := Ow.gbk o96_17 hg (Ap.symm ap_v3_s96_17)
          have e0 := Ext.gbk e0 fr_v3 hg
          clear hg hsf
          refine J.s_op rfl (fun _ => Yd.assign rfl) rfl ?_
          refine J.s_nil ?_
          refine J.n_np ?_
          refine J.n_block ?_
          refine J.n_then ?_
          refine J.region ?_
          refine J.op (Yd.move rfl) rfl ?_
          refine J.op (Yd.add rfl rfl (by first | omega | exact idx_u8' _ | (simp only [Int.toNat_natCast]; omega) | (simp only [List.length_map, List.length_drop, List.length_take, List.length_append, List.length_replicate]; omega) | (simp <;> omega))) rfl ?_
          refine J.op (Yd.assign rfl) rfl ?_
          refine J.nil ?_
          refine J.n_then ?_
          exact J.round ((k + 1, s97_18)) ⟨rfl, rfl, rfl, rfl, rfl, rfl, trivial⟩ (⟨by show k + 1 ≤ 4; omega, c3_0, by show Ob _ _ _ _ (kxk key n (k + 1)); have h9 := o97_18; rw [show (4 * ((n : Int) + 8) - 32 + (k : Int)).toNat = 4 * (n + 8) - 32 + k by omega, Int.toNat_natCast, kxk_app key h32 n k (by omega)] at h9; exact h9, ht8, fr_s97_18, ap_b3_0_s97_18, ap_s25_6_s97_18, e0⟩) (by show 4 - (k + 1) < 4 - k; omega)
        · skip
          refine J.exit ?_
          refine J.x_then ?_
          refine J.x_then ?_
          refine J.x_block ?_
          refine J.n_block ?_
          refine J.n_then ?_
          refine J.region ?_
          refine J.op (Yd.move rfl) rfl ?_
          refine J.op (Yd.add rfl rfl (by first | omega | exact idx_u8' _ | (simp only [Int.toNat_natCast]; omega) | (simp only [List.length_map, List.length_drop, List.length_take, List.length_append, List.length_replicate]; omega) | (simp <;> omega))) rfl ?_
          refine J.op (Yd.assign rfl) rfl ?_
          refine J.nil ?_
          refine J.n_then ?_
          exact J.round ((n + 1, v3)) ⟨rfl, (someI (by show (n : Int) + 8 + 1 = ((n + 1 : Nat) : Int) + 8; omega)), rfl, rfl, trivial⟩ (⟨by show n + 1 ≤ 52; omega, c3_0, by show Ob _ _ _ _ (kx key (n + 1)); have h9 := hw2; rw [show k = 4 by omega, kxk_four] at h9; exact h9, fr_v3, ap_b3_0_v3, e0⟩) (by show 52 - (n + 1) < 52 - n; omega)
  · skip
    refine J.exit ?_
    refine J.x_then ?_
    refine J.x_then ?_
    refine J.x_block ?_
    refine J.n_then ?_
    refine J.seq ?_
    refine J.region ?_
    refine J.op (Yd.move rfl) rfl ?_
    refine J.op (Yd.assign rfl) rfl ?_
    refine J.nil ?_
    refine J.n_then ?_
    refine J.ret ?_
    exact J.ret1 rfl rfl (⟨_, rfl, by have h9 := hw; rw [show n = 52 by omega] at h9; exact h9, e0⟩)
end Ytpkpicnldpbomaa
end Go.Proofs
