import Derived.Test.YtpkpicnldpbomaaT
import Derived.Test.YtpkpicnldpbomaaA7
set_option linter.unusedVariables false
set_option linter.unusedSimpArgs false
set_option maxRecDepth 100000
set_option maxHeartbeats 4000000
namespace Go.Proofs
open Go.X Go.RowKit
namespace Ytpkpicnldpbomaa
theorem RBlock_ok {a v : Value} {W l : List UInt8} {w : World} (hW : Bs w a W) (hb : Bs w v l) (hl : l.length = 16) (hWl : W.length = 240) : C Try.prog 31 [a, Ag (fun x => B x) boxT, v] w (Ret fun v w' => Ob w.heap.size 5 w' v (encR W l 14) ∧ Ext w w') := by
  have hbl := boxT_len
  have e0 := Ext.refl w
  refine C.enter Try.func31 rfl Try.ntmps31 rfl ?_
  refine J.seq ?_
  refine J.region ?_
  refine J.eff (Ye.box rfl (Ag.all _ _ (n := 256) (by first | omega | exact idx_u8' _ | (simp only [Int.toNat_natCast]; omega) | (simp only [List.length_map, List.length_drop, List.length_take, List.length_append, List.length_replicate]; omega) | (simp <;> omega)))) rfl ?_
  rintro _ w1 ⟨b4_0, rfl, hb_, c4_0, x1⟩
  have fr_b4_0 : Fr w.heap.size (some b4_0) := Fr.le (Fr.blk hb_) e0.size
  have e0 := e0.trans x1
  clear x1 hb_
  refine J.op (Yd.assign rfl) rfl ?_
  refine J.nil ?_
  refine J.n_then ?_
  refine J.seq ?_
  refine J.region ?_
  refine J.eff (Ye.lit0 (base := w1.heap.size) (f := (fun x : UInt8 => B x)) Try.underlying22 ti5 rfl (Nat.le_refl _)) rfl ?_
  rintro s17_2 w2 ⟨o17_2, x1⟩
  have ap_b4_0_s17_2 : Ap (some b4_0) s17_2.ownBlock := Ap.mk (Cel.live c4_0) (Ow.fr o17_2)
  have fr_s17_2 : Fr w.heap.size s17_2.ownBlock := Fr.le (Ow.fr o17_2) e0.size
  replace o17_2 := Ow.base o17_2 e0.size
  have e0 := e0.trans x1
  have c4_0 := c4_0.ext x1
  clear x1
  refine J.op (Yd.move rfl) rfl ?_
  refine J.eff (Ye.appendS Try.underlying22 ti5 rfl rfl rfl rfl o17_2 (Rd.ext hb e0) (fun _ => rfl) (by first | omega | exact idx_u8' _ | (simp only [Int.toNat_natCast]; omega) | (simp only [List.length_map, List.length_drop, List.length_take, List.length_append, List.length_replicate]; omega) | (simp <;> omega)) e0.size) rfl ?_
  rintro s19_3 w3 ⟨o19_3, hg, hsf⟩
  have ap_b4_0_s19_3 : Ap (some b4_0) s19_3.ownBlock := Ap.sf ap_b4_0_s17_2 (Cel.live c4_0) hsf
  have fr_s19_3 : Fr w.heap.size s19_3.ownBlock := Fr.sf fr_s17_2 hsf e0.size
  have c4_0 := Cel.gbk c4_0 hg ap_b4_0_s17_2
  have e0 := Ext.gbk e0 fr_s17_2 hg
  clear hg hsf
  rw [List.nil_append] at o19_3
  refine J.op (Yd.assign rfl) rfl ?_
  refine J.nil ?_
  refine J.n_then ?_
  refine J.seq ?_
  refine J.seq ?_
  refine J.region ?_
  refine J.op (Yd.assign rfl) rfl ?_
  refine J.nil ?_
  refine J.n_then ?_
  refine J.block ?_
  refine J.loop (ι := Nat) (fun i => [(0, a), (8, I i), (4, .pointer (some ⟨b4_0, 0, none⟩)), (7, s19_3)]) (fun i w' => i ≤ 16 ∧ Cel w' b4_0 51 [(0, 256, boxT.map (fun x : UInt8 => B x))] ∧ Ob w.heap.size 5 w' s19_3 (fillU (xorF l W 0) l i) ∧ Ext w w') (fun i => 16 - i) (0) ⟨rfl, rfl, rfl, rfl, trivial⟩ (⟨by omega, c4_0, by rw [fillU_zero]; exact o19_3, e0⟩) ?_
  rintro k w4 ⟨hk, c4_0, hs7, e0⟩
  have hfl := fillU_len (xorF l W 0) l k
  refine J.seq ?_
  refine J.seq ?_
  refine J.region ?_
  refine J.op (Yd.move rfl) rfl ?_
  refine J.op (Yd.lss rfl rfl) rfl ?_
  refine J.nil ?_
  refine J.n_then ?_
  refine J.cond_dec rfl (fun hc0 => ?_) (fun hc0 => ?_)
  · skip
    refine J.skip ?_
    refine J.n_then ?_
    refine J.seq ?_
    refine J.block ?_
    refine J.regionO [(0, true), (1, true), (2, true), (3, true), (6, true), (7, true)] [(4, 1), (5, 1), (8, 1), (9, 1)] [(10, true), (11, false), (12, false)] mix (by kernel_rfl) ?_
    refine J.s_op rfl (fun _ => Yd.move rfl) rfl ?_
    refine J.s_op rfl (fun _ => Yd.move rfl) rfl ?_
    refine J.s_op rfl (fun _ => Yd.move rfl) rfl ?_
    refine J.s_op rfl (fun _ => Yd.move rfl) rfl ?_
    refine J.s_op rfl (fun _ => Yd.move rfl) rfl ?_
    refine J.s_op rfl (fun _ => Yd.move rfl) rfl ?_
    refine J.s_nil ?_
    refine J.o_op rfl (Yd.idx_b Try.underlying22 ti5 rfl rfl (Ow.rd hs7) (by first | omega | exact idx_u8' _ | (simp only [Int.toNat_natCast]; omega) | (simp only [List.length_map, List.length_drop, List.length_take, List.length_append, List.length_replicate]; omega) | (simp <;> omega))) rfl ?_
    refine J.o_op rfl (Yd.load pl5 rfl (Bs.cell (Ow.rd hs7) (by first | omega | exact idx_u8' _ | (simp only [Int.toNat_natCast]; omega) | (simp only [List.length_map, List.length_drop, List.length_take, List.length_append, List.length_replicate]; omega) | (simp <;> omega)))) rfl ?_
    refine J.o_op rfl (Yd.idx_b Try.underlying22 ti5 rfl rfl (Rd.ext hW e0) (by first | omega | exact idx_u8' _ | (simp only [Int.toNat_natCast]; omega) | (simp only [List.length_map, List.length_drop, List.length_take, List.length_append, List.length_replicate]; omega) | (simp <;> omega))) rfl ?_
    refine J.o_op rfl (Yd.load pl5 rfl (Bs.cell (Rd.ext hW e0) (by first | omega | exact idx_u8' _ | (simp only [Int.toNat_natCast]; omega) | (simp only [List.length_map, List.length_drop, List.length_take, List.length_append, List.length_replicate]; omega) | (simp <;> omega)))) rfl ?_
    refine J.o_nil ?_
    refine J.s_op rfl (fun _ => Yd.xor_u8 rfl rfl) rfl ?_
    refine J.s_one rfl (Yd.idx_b Try.underlying22 ti5 rfl rfl (Ow.rd hs7) (by first | omega | exact idx_u8' _ | (simp only [Int.toNat_natCast]; omega) | (simp only [List.length_map, List.length_drop, List.length_take, List.length_append, List.length_replicate]; omega) | (simp <;> omega))) rfl ?_
    refine J.s_eff0 rfl (Ye.storeOwM ti5 hs7 rfl rfl (by first | omega | exact idx_u8' _ | (simp only [Int.toNat_natCast]; omega) | (simp only [List.length_map, List.length_drop, List.length_take, List.length_append, List.length_replicate]; omega) | (simp <;> omega)) (fun _ => rfl) (fun _ => rfl)) ?_
    rintro _ w5 ⟨o', hg⟩
    have c4_0 := Cel.gbk c4_0 hg ap_b4_0_s19_3
    have e0 := Ext.gbk e0 fr_s19_3 hg
    replace hs7 := o'
    clear hg o'
    refine J.s_nil ?_
    refine J.n_np ?_
    refine J.n_block ?_
    refine J.n_then ?_
    refine J.region ?_
    refine J.op (Yd.move rfl) rfl ?_
    refine J.op (Yd.add rfl rfl (by first | omega | exact idx_u8' _ | (simp only [Int.toNat_natCast]; omega) | (simp only [List.length_map, List.length_drop, List.length_take, List.length_append, List.length_replicate]; omega) | (simp <;> omega))) rfl ?_
    refine J.op (Yd.assign rfl) rfl ?_
    refine J.nil ?_
    refine J.n_then ?_
    exact J.round (k + 1) ⟨rfl, rfl, rfl, rfl, trivial⟩ (⟨by omega, c4_0, by have h9 := hs7; rw [Int.toNat_natCast, fillU_get _ _ _ _ _ (Nat.le_refl _), show l.getD k 0 ^^^ W.getD k 0 = xorF l W 0 k by rw [xorF, Nat.zero_add], fillU_set] at h9; exact h9, e0⟩) (by omega)
  · skip
    refine J.exit ?_
    refine J.x_then ?_
    refine J.x_then ?_
    refine J.x_block ?_
    refine J.n_then ?_
    refine J.seq ?_
    refine J.seq ?_
    refine J.region ?_
    refine J.op (Yd.assign rfl) rfl ?_
    refine J.nil ?_
    refine J.n_then ?_
    refine J.block ?_
    refine J.loop (ι := Nat) (fun i => [(0, a), (9, I ((i : Int) + 1)), (4, .pointer (some ⟨b4_0, 0, none⟩)), (7, s19_3)]) (fun i w' => i ≤ 14 ∧ Cel w' b4_0 51 [(0, 256, boxT.map (fun x : UInt8 => B x))] ∧ Ob w.heap.size 5 w' s19_3 (encR W l i) ∧ Ext w w') (fun i => 14 - i) (0) ⟨rfl, rfl, rfl, rfl, trivial⟩ (⟨by omega, c4_0, by have h9 := hs7; rw [show k = 16 by omega, xor16_fill _ _ _ _ hl] at h9; exact h9, e0⟩) ?_
    rintro n w6 ⟨hn, c4_0, hs7, e0⟩
    have hel := encR_len W l n
    refine J.seq ?_
    refine J.seq ?_
    refine J.region ?_
    refine J.op (Yd.move rfl) rfl ?_
    refine J.op (Yd.leq rfl rfl) rfl ?_
    refine J.nil ?_
    refine J.n_then ?_
    refine J.cond_dec rfl (fun hc1 => ?_) (fun hc1 => ?_)
    · skip
      refine J.skip ?_
      refine J.n_then ?_
      refine J.seq ?_
      refine J.block ?_
      refine J.seq ?_
      refine J.region ?_
      refine J.eff (Ye.make (base := w6.heap.size) Try.underlying22 ti5 rfl rfl (by first | omega | exact idx_u8' _ | (simp only [Int.toNat_natCast]; omega) | (simp only [List.length_map, List.length_drop, List.length_take, List.length_append, List.length_replicate]; omega) | (simp <;> omega)) (by first | omega | exact idx_u8' _ | (simp only [Int.toNat_natCast]; omega) | (simp only [List.length_map, List.length_drop, List.length_take, List.length_append, List.length_replicate]; omega) | (simp <;> omega)) (by unfold maxLen; omega) rfl (Nat.le_refl _)) rfl ?_
      rintro s40_7 w7 ⟨o40_7, x1⟩
      have ap_b4_0_s40_7 : Ap (some b4_0) s40_7.ownBlock := Ap.mk (Cel.live c4_0) (Ow.fr o40_7)
      have ap_s19_3_s40_7 : Ap s19_3.ownBlock s40_7.ownBlock := Ap.mk (Ow.live hs7) (Ow.fr o40_7)
      have fr_s40_7 : Fr w.heap.size s40_7.ownBlock := Fr.le (Ow.fr o40_7) e0.size
      replace o40_7 := Ow.base o40_7 e0.size
      have e0 := e0.trans x1
      have c4_0 := c4_0.ext x1
      have hs7 := hs7.ext x1
      clear x1
      rw [rep_B] at o40_7
      refine J.op (Yd.assign rfl) rfl ?_
      refine J.nil ?_
      refine J.n_then ?_
      refine J.seq ?_
      refine J.seq ?_
      refine J.region ?_
      refine J.op (Yd.assign rfl) rfl ?_
      refine J.nil ?_
      refine J.n_then ?_
      refine J.block ?_
      refine J.loop (ι := Nat) (fun i => [(0, a), (9, I ((n : Int) + 1)), (11, I i), (4, .pointer (some ⟨b4_0, 0, none⟩)), (7, s19_3), (10, s40_7)]) (fun i w' => i ≤ 4 ∧ Cel w' b4_0 51 [(0, 256, boxT.map (fun x : UInt8 => B x))] ∧ Ob w.heap.size 5 w' s19_3 ((encR W l n)) ∧ Ob w.heap.size 5 w' s40_7 (fillU (subF (encR W l n)) (List.replicate 16 0) (4 * i)) ∧ Ext w w') (fun i => 4 - i) (0) ⟨rfl, rfl, rfl, rfl, rfl, rfl, trivial⟩ (⟨by omega, c4_0, hs7, by rw [Nat.mul_zero, fillU_zero]; exact o40_7, e0⟩) ?_
      rintro c w8 ⟨hc, c4_0, hs7, ht, e0⟩
      refine J.seq ?_
      refine J.seq ?_
      refine J.region ?_
      refine J.op (Yd.move rfl) rfl ?_
      refine J.op (Yd.lss rfl rfl) rfl ?_
      refine J.nil ?_
      refine J.n_then ?_
      refine J.cond_dec rfl (fun hc2 => ?_) (fun hc2 => ?_)
      · skip
        refine J.skip ?_
        refine J.n_then ?_
        refine J.seq ?_
        refine J.block ?_
        refine J.seq ?_
        refine J.region ?_
        refine J.op (Yd.assign rfl) rfl ?_
        refine J.nil ?_
        refine J.n_then ?_
        refine J.block ?_
        refine J.loop (ι := Nat) (fun i => [(0, a), (9, I ((n : Int) + 1)), (11, I c), (12, I i), (4, .pointer (some ⟨b4_0, 0, none⟩)), (7, s19_3), (10, s40_7)]) (fun i w' => i ≤ 4 ∧ Cel w' b4_0 51 [(0, 256, boxT.map (fun x : UInt8 => B x))] ∧ Ob w.heap.size 5 w' s19_3 ((encR W l n)) ∧ Ob w.heap.size 5 w' s40_7 (fillU (subF (encR W l n)) (List.replicate 16 0) (4 * c + i)) ∧ Ext w w') (fun i => 4 - i) (0) ⟨rfl, rfl, rfl, rfl, rfl, rfl, rfl, trivial⟩ (⟨by omega, c4_0, hs7, ht, e0⟩) ?_
        rintro r w9 ⟨hr, c4_0, hs7, ht, e0⟩
        have hfl := fillU_len (subF (encR W l n)) (List.replicate 16 0) (4 * c + r)
        rw [List.length_replicate] at hfl
        refine J.seq ?_
        refine J.seq ?_
        refine J.region ?_
        refine J.op (Yd.move rfl) rfl ?_
        refine J.op (Yd.lss rfl rfl) rfl ?_
        refine J.nil ?_
        refine J.n_then ?_
        refine J.cond_dec rfl (fun hc3 => ?_) (fun hc3 => ?_)
        · skip
          refine J.skip ?_
          refine J.n_then ?_
          refine J.seq ?_
          refine J.block ?_
          refine J.region ?_
          refine J.op (Yd.move rfl) rfl ?_
          refine J.op (Yd.move rfl) rfl ?_
          refine J.op (Yd.mul rfl rfl (by first | omega | exact idx_u8' _ | (simp only [Int.toNat_natCast]; omega) | (simp only [List.length_map, List.length_drop, List.length_take, List.length_append, List.length_replicate]; omega) | (simp <;> omega))) rfl ?_
          refine J.op (Yd.move rfl) rfl ?_
          refine J.op (Yd.add rfl rfl (by first | omega | exact idx_u8' _ | (simp only [Int.toNat_natCast]; omega) | (simp only [List.length_map, List.length_drop, List.length_take, List.length_append, List.length_replicate]; omega) | (simp <;> omega))) rfl ?_
          refine J.op (Yd.move rfl) rfl ?_
          refine J.op (Yd.move rfl) rfl ?_
          refine J.op (Yd.move rfl) rfl ?_
          refine J.op (Yd.add rfl rfl (by first | omega | exact idx_u8' _ | (simp only [Int.toNat_natCast]; omega) | (simp only [List.length_map, List.length_drop, List.length_take, List.length_append, List.length_replicate]; omega) | (simp <;> omega))) rfl ?_
          refine J.op (Yd.rem rfl rfl (by first | omega | exact idx_u8' _ | (simp only [Int.toNat_natCast]; omega) | (simp only [List.length_map, List.length_drop, List.length_take, List.length_append, List.length_replicate]; omega) | (simp <;> omega)) (by first | omega | exact idx_u8' _ | (simp only [Int.toNat_natCast]; omega) | (simp only [List.length_map, List.length_drop, List.length_take, List.length_append, List.length_replicate]; omega) | (simp <;> omega))) rfl ?_
          refine J.op (Yd.mul rfl rfl (by first | omega | exact idx_u8' _ | (simp only [Int.toNat_natCast]; omega) | (simp only [List.length_map, List.length_drop, List.length_take, List.length_append, List.length_replicate]; omega) | (simp <;> omega))) rfl ?_
          refine J.op (Yd.move rfl) rfl ?_
          refine J.op (Yd.add rfl rfl (by first | omega | exact idx_u8' _ | (simp only [Int.toNat_natCast]; omega) | (simp only [List.length_map, List.length_drop, List.length_take, List.length_append, List.length_replicate]; omega) | (simp <;> omega))) rfl ?_
          refine J.op (Yd.idx_b Try.underlying22 ti5 rfl rfl (Ow.rd hs7) (by first | omega | exact idx_u8' _ | (simp only [Int.toNat_natCast]; omega) | (simp only [List.length_map, List.length_drop, List.length_take, List.length_append, List.length_replicate]; omega) | (simp <;> omega))) rfl ?_
          refine J.op (Yd.load pl5 rfl (Bs.cell (Ow.rd hs7) (by first | omega | exact idx_u8' _ | (simp only [Int.toNat_natCast]; omega) | (simp only [List.length_map, List.length_drop, List.length_take, List.length_append, List.length_replicate]; omega) | (simp <;> omega)))) rfl ?_
          refine J.op (Yd.idxA Try.underlying51 ti5 rfl rfl (idx_u8 _)) rfl ?_
          refine J.op (Yd.load pl5 rfl (Cel.cellM c4_0 0 rfl 0 (by have hl_ := Cel.lenM c4_0 0 rfl; first | omega | (rw [hl_]; exact idx_u8' _) | (simp only [Int.toNat_natCast]; omega) | (simp at hl_ ⊢ <;> omega)))) rfl ?_
          refine J.op (Yd.idx_b Try.underlying22 ti5 rfl rfl (Ow.rd ht) (by first | omega | exact idx_u8' _ | (simp only [Int.toNat_natCast]; omega) | (simp only [List.length_map, List.length_drop, List.length_take, List.length_append, List.length_replicate]; omega) | (simp <;> omega))) rfl ?_
          refine J.eff0 (Ye.storeOwM ti5 ht rfl rfl (by first | omega | exact idx_u8' _ | (simp only [Int.toNat_natCast]; omega) | (simp only [List.length_map, List.length_drop, List.length_take, List.length_append, List.length_replicate]; omega) | (simp <;> omega)) (fun _ => rfl) (fun _ => rfl)) ?_
          rintro _ w10 ⟨o', hg⟩
          have c4_0 := Cel.gbk c4_0 hg ap_b4_0_s40_7
          have hs7 := Ow.gbk hs7 hg ap_s19_3_s40_7
          have e0 := Ext.gbk e0 fr_s40_7 hg
          replace ht := o'
          clear hg o'
          refine J.nil ?_
          refine J.n_block ?_
          refine J.n_then ?_
          refine J.region ?_
          refine J.op (Yd.move rfl) rfl ?_
          refine J.op (Yd.add rfl rfl (by first | omega | exact idx_u8' _ | (simp only [Int.toNat_natCast]; omega) | (simp only [List.length_map, List.length_drop, List.length_take, List.length_append, List.length_replicate]; omega) | (simp <;> omega))) rfl ?_
          refine J.op (Yd.assign rfl) rfl ?_
          refine J.nil ?_
          refine J.n_then ?_
          exact J.round (r + 1) ⟨rfl, rfl, rfl, rfl, rfl, rfl, rfl, trivial⟩ (⟨by omega, c4_0, hs7, by have h9 := ht; simp only [show (4 * (c : Int) + (r : Int)).toNat = 4 * c + r by omega, cr_law, Int.toNat_natCast] at h9; rw [show boxT.getD ((encR W l n).getD (4 * ((c + r) % 4) + r) 0).toNat 0 = subF (encR W l n) (4 * c + r) from subF_cr _ c r (by omega) (by omega), fillU_set] at h9; exact h9, e0⟩) (by omega)
        · skip
          refine J.exit ?_
          refine J.x_then ?_
          refine J.x_then ?_
          refine J.x_block ?_
          refine J.n_block ?_
          refine J.n_then ?_
          refine J.region ?_
          refine J.op (Yd.move rfl) rfl ?_
          refine J.op (Yd.add rfl rfl (by first | omega | exact idx_u8' _ | (simp only [Int.toNat_natCast]; omega) | (simp only [List.length_map, List.length_drop, List.length_take, List.length_append, List.length_replicate]; omega) | (simp <;> omega))) rfl ?_
          refine J.op (Yd.assign rfl) rfl ?_
          refine J.nil ?_
          refine J.n_then ?_
          exact J.round (c + 1) ⟨rfl, rfl, rfl, rfl, rfl, rfl, trivial⟩ (⟨by omega, c4_0, hs7, by have h9 := ht; rw [show r = 4 by omega] at h9; exact h9, e0⟩) (by omega)
      · skip
        refine J.exit ?_
        refine J.x_then ?_
        refine J.x_then ?_
        refine J.x_block ?_
        refine J.n_then ?_
        refine J.seq ?_
        refine J.seq ?_
        refine J.region ?_
        refine J.op (Yd.move rfl) rfl ?_
        refine J.op (Yd.lss rfl rfl) rfl ?_
        refine J.nil ?_
        refine J.n_then ?_
        refine J.cond_dec rfl (fun hc4 => ?_) (fun hc4 => ?_)
        · skip
          refine J.seq ?_
          refine J.region ?_
          refine J.op (Yd.assign rfl) rfl ?_
          refine J.nil ?_
          refine J.n_then ?_
          refine J.block ?_
          refine J.loop (ι := Nat) (fun i => [(0, a), (9, I ((n : Int) + 1)), (13, I i), (4, .pointer (some ⟨b4_0, 0, none⟩)), (7, s19_3), (10, s40_7)]) (fun i w' => i ≤ 4 ∧ Cel w' b4_0 51 [(0, 256, boxT.map (fun x : UInt8 => B x))] ∧ Ob w.heap.size 5 w' s19_3 ((encR W l n)) ∧ Ob w.heap.size 5 w' s40_7 (mixQ (sub16 (encR W l n)) (4 * i)) ∧ Ext w w') (fun i => 4 - i) (0) ⟨rfl, rfl, rfl, rfl, rfl, rfl, trivial⟩ (⟨by omega, c4_0, hs7, by have h9 := ht; rw [show 4 * c = 16 by omega, sub16_fill _ _ (by simp)] at h9; rw [Nat.mul_zero, mixQ_zero]; exact h9, e0⟩) ?_
          rintro c w11 ⟨hc, c4_0, hs7, ht, e0⟩
          have hml4 := mixQ_len (sub16 (encR W l n)) (sub16_len _) (4 * c) (by omega)
          refine J.seq ?_
          refine J.seq ?_
          refine J.region ?_
          refine J.op (Yd.move rfl) rfl ?_
          refine J.op (Yd.lss rfl rfl) rfl ?_
          refine J.nil ?_
          refine J.n_then ?_
          refine J.cond_dec rfl (fun hc5 => ?_) (fun hc5 => ?_)
          · skip
            refine J.skip ?_
            refine J.n_then ?_
            refine J.seq ?_
            refine J.block ?_
            refine J.seq ?_
            refine J.region ?_
            refine J.eff (Ye.lit0 (base := w11.heap.size) (f := (fun x : UInt8 => B x)) Try.underlying22 ti5 rfl (Nat.le_refl _)) rfl ?_
            rintro s73_12 w12 ⟨o73_12, x1⟩
            have ap_b4_0_s73_12 : Ap (some b4_0) s73_12.ownBlock := Ap.mk (Cel.live c4_0) (Ow.fr o73_12)
            have ap_s19_3_s73_12 : Ap s19_3.ownBlock s73_12.ownBlock := Ap.mk (Ow.live hs7) (Ow.fr o73_12)
            have ap_s40_7_s73_12 : Ap s40_7.ownBlock s73_12.ownBlock := Ap.mk (Ow.live ht) (Ow.fr o73_12)
            have fr_s73_12 : Fr w.heap.size s73_12.ownBlock := Fr.le (Ow.fr o73_12) e0.size
            replace o73_12 := Ow.base o73_12 e0.size
            have e0 := e0.trans x1
            have c4_0 := c4_0.ext x1
            have hs7 := hs7.ext x1
            have ht := ht.ext x1
            clear x1
            refine J.op (Yd.move rfl) rfl ?_
            refine J.op (Yd.move rfl) rfl ?_
            refine J.op (Yd.mul rfl rfl (by first | omega | exact idx_u8' _ | (simp only [Int.toNat_natCast]; omega) | (simp only [List.length_map, List.length_drop, List.length_take, List.length_append, List.length_replicate]; omega) | (simp <;> omega))) rfl ?_
            refine J.op (Yd.move rfl) rfl ?_
            refine J.op (Yd.mul rfl rfl (by first | omega | exact idx_u8' _ | (simp only [Int.toNat_natCast]; omega) | (simp only [List.length_map, List.length_drop, List.length_take, List.length_append, List.length_replicate]; omega) | (simp <;> omega))) rfl ?_
            refine J.op (Yd.add rfl rfl (by first | omega | exact idx_u8' _ | (simp only [Int.toNat_natCast]; omega) | (simp only [List.length_map, List.length_drop, List.length_take, List.length_append, List.length_replicate]; omega) | (simp <;> omega))) rfl ?_
            refine J.op (Yd.slcLH Try.underlying22 ti5 rfl (Ow.rd ht) rfl rfl (by first | omega | exact idx_u8' _ | (simp only [Int.toNat_natCast]; omega) | (simp only [List.length_map, List.length_drop, List.length_take, List.length_append, List.length_replicate]; omega) | (simp <;> omega))) rfl ?_
            refine J.eff (Ye.appendS Try.underlying22 ti5 rfl rfl rfl rfl o73_12 (Bs.slc (Ow.rd ht) (by first | omega | exact idx_u8' _ | (simp only [Int.toNat_natCast]; omega) | (simp only [List.length_map, List.length_drop, List.length_take, List.length_append, List.length_replicate]; omega) | (simp <;> omega)) (by first | omega | exact idx_u8' _ | (simp only [Int.toNat_natCast]; omega) | (simp only [List.length_map, List.length_drop, List.length_take, List.length_append, List.length_replicate]; omega) | (simp <;> omega))) (fun _ => rfl) (by first | omega | exact idx_u8' _ | (simp only [Int.toNat_natCast]; omega) | (simp only [List.length_map, List.length_drop, List.length_take, List.length_append, List.length_replicate]; omega) | (simp <;> omega)) e0.size) rfl ?_
            rintro s81_13 w13 ⟨o81_13, hg, hsf⟩
            have ap_b4_0_s81_13 : Ap (some b4_0) s81_13.ownBlock := Ap.sf ap_b4_0_s73_12 (Cel.live c4_0) hsf
            have ap_s19_3_s81_13 : Ap s19_3.ownBlock s81_13.ownBlock := Ap.sf ap_s19_3_s73_12 (Ow.live hs7) hsf
            have ap_s40_7_s81_13 : Ap s40_7.ownBlock s81_13.ownBlock := Ap.sf ap_s40_7_s73_12 (Ow.live ht) hsf
            have fr_s81_13 : Fr w.heap.size s81_13.ownBlock := Fr.sf fr_s73_12 hsf e0.size
            have c4_0 := Cel.gbk c4_0 hg ap_b4_0_s73_12
            have hs7 := Ow.gbk hs7 hg ap_s19_3_s73_12
            have ht := Ow.gbk ht hg ap_s40_7_s73_12
            have e0 := Ext.gbk e0 fr_s73_12 hg
            clear hg hsf
            rw [List.nil_append] at o81_13
            rw [show (4 * (c : Int)).toNat = 4 * c by omega, show (4 * (c : Int) + 4).toNat = 4 * c + 4 by omega] at o81_13
            refine J.op (Yd.assign rfl) rfl ?_
            refine J.nil ?_
            refine J.n_then ?_
            refine J.seq ?_
            refine J.region ?_
            refine J.op (Yd.assign rfl) rfl ?_
            refine J.nil ?_
            refine J.n_then ?_
            refine J.block ?_
            refine J.loop (ι := Nat) (fun i => [(0, a), (9, I ((n : Int) + 1)), (13, I c), (15, I i), (4, .pointer (some ⟨b4_0, 0, none⟩)), (7, s19_3), (10, s40_7), (14, s81_13)]) (fun i w' => i ≤ 4 ∧ Cel w' b4_0 51 [(0, 256, boxT.map (fun x : UInt8 => B x))] ∧ Ob w.heap.size 5 w' s19_3 ((encR W l n)) ∧ Ob w.heap.size 5 w' s40_7 (mixQ (sub16 (encR W l n)) (4 * c + i)) ∧ Ob w.heap.size 5 w' s81_13 (List.drop (4 * c) (List.take (4 * c + 4) (mixQ (sub16 (encR W l n)) (4 * c)))) ∧ Ext w w') (fun i => 4 - i) (0) ⟨rfl, rfl, rfl, rfl, rfl, rfl, rfl, rfl, trivial⟩ (⟨by omega, c4_0, hs7, ht, o81_13, e0⟩) ?_
            rintro r w14 ⟨hr, c4_0, hs7, ht, hx, e0⟩
            have hml := mixQ_len (sub16 (encR W l n)) (sub16_len _) (4 * c + r) (by omega)
            have hxl : (List.drop (4 * c) (List.take (4 * c + 4) (mixQ (sub16 (encR W l n)) (4 * c)))).length = 4 := by simp [mixQ_len, sub16_len]; omega
            refine J.seq ?_
            refine J.seq ?_
            refine J.region ?_
            refine J.op (Yd.move rfl) rfl ?_
            refine J.op (Yd.lss rfl rfl) rfl ?_
            refine J.nil ?_
            refine J.n_then ?_
            refine J.cond_dec rfl (fun hc6 => ?_) (fun hc6 => ?_)
            · skip
              refine J.skip ?_
              refine J.n_then ?_
              refine J.seq ?_
              refine J.block ?_
              refine J.regionO [(0, true), (1, true), (2, true), (3, true), (4, true), (5, true), (6, true), (10, true), (11, true), (12, true), (13, true), (18, true), (19, true), (20, true), (21, true), (25, true), (26, true), (27, true), (28, true)] [(7, 1), (8, 1), (14, 1), (15, 1), (22, 1), (23, 1), (29, 1), (30, 1), (9, 0), (16, 0), (17, 1), (24, 1)] [(31, true), (32, false), (33, false)] mix (by kernel_rfl) ?_
              refine J.s_op rfl (fun _ => Yd.move rfl) rfl ?_
              refine J.s_op rfl (fun _ => Yd.move rfl) rfl ?_
              refine J.s_op rfl (fun _ => Yd.mul rfl rfl (by first | omega | exact idx_u8' _ | (simp only [Int.toNat_natCast]; omega) | (simp only [List.length_map, List.length_drop, List.length_take, List.length_append, List.length_replicate]; omega) | (simp <;> omega))) rfl ?_
              refine J.s_op rfl (fun _ => Yd.move rfl) rfl ?_
              refine J.s_op rfl (fun _ => Yd.add rfl rfl (by first | omega | exact idx_u8' _ | (simp only [Int.toNat_natCast]; omega) | (simp only [List.length_map, List.length_drop, List.length_take, List.length_append, List.length_replicate]; omega) | (simp <;> omega))) rfl ?_
              refine J.s_op rfl (fun _ => Yd.move rfl) rfl ?_
              refine J.s_op rfl (fun _ => Yd.move rfl) rfl ?_
              refine J.s_op rfl (fun _ => Yd.move rfl) rfl ?_
              refine J.s_op rfl (fun _ => Yd.move rfl) rfl ?_
              refine J.s_op rfl (fun _ => Yd.add rfl rfl (by first | omega | exact idx_u8' _ | (simp only [Int.toNat_natCast]; omega) | (simp only [List.length_map, List.length_drop, List.length_take, List.length_append, List.length_replicate]; omega) | (simp <;> omega))) rfl ?_
              refine J.s_op rfl (fun _ => Yd.rem rfl rfl (by first | omega | exact idx_u8' _ | (simp only [Int.toNat_natCast]; omega) | (simp only [List.length_map, List.length_drop, List.length_take, List.length_append, List.length_replicate]; omega) | (simp <;> omega)) (by first | omega | exact idx_u8' _ | (simp only [Int.toNat_natCast]; omega) | (simp only [List.length_map, List.length_drop, List.length_take, List.length_append, List.length_replicate]; omega) | (simp <;> omega))) rfl ?_
              refine J.s_op rfl (fun _ => Yd.move rfl) rfl ?_
              refine J.s_op rfl (fun _ => Yd.move rfl) rfl ?_
              refine J.s_op rfl (fun _ => Yd.add rfl rfl (by first | omega | exact idx_u8' _ | (simp only [Int.toNat_natCast]; omega) | (simp only [List.length_map, List.length_drop, List.length_take, List.length_append, List.length_replicate]; omega) | (simp <;> omega))) rfl ?_
              refine J.s_op rfl (fun _ => Yd.rem rfl rfl (by first | omega | exact idx_u8' _ | (simp only [Int.toNat_natCast]; omega) | (simp only [List.length_map, List.length_drop, List.length_take, List.length_append, List.length_replicate]; omega) | (simp <;> omega)) (by first | omega | exact idx_u8' _ | (simp only [Int.toNat_natCast]; omega) | (simp only [List.length_map, List.length_drop, List.length_take, List.length_append, List.length_replicate]; omega) | (simp <;> omega))) rfl ?_
              refine J.s_op rfl (fun _ => Yd.move rfl) rfl ?_
              refine J.s_op rfl (fun _ => Yd.move rfl) rfl ?_
              refine J.s_op rfl (fun _ => Yd.add rfl rfl (by first | omega | exact idx_u8' _ | (simp only [Int.toNat_natCast]; omega) | (simp only [List.length_map, List.length_drop, List.length_take, List.length_append, List.length_replicate]; omega) | (simp <;> omega))) rfl ?_
              refine J.s_op rfl (fun _ => Yd.rem rfl rfl (by first | omega | exact idx_u8' _ | (simp only [Int.toNat_natCast]; omega) | (simp only [List.length_map, List.length_drop, List.length_take, List.length_append, List.length_replicate]; omega) | (simp <;> omega)) (by first | omega | exact idx_u8' _ | (simp only [Int.toNat_natCast]; omega) | (simp only [List.length_map, List.length_drop, List.length_take, List.length_append, List.length_replicate]; omega) | (simp <;> omega))) rfl ?_
              refine J.s_nil ?_
              refine J.o_op rfl (Yd.idx_b Try.underlying22 ti5 rfl rfl (Ow.rd hx) (by first | omega | exact idx_u8' _ | (simp only [Int.toNat_natCast]; omega) | (simp only [List.length_map, List.length_drop, List.length_take, List.length_append, List.length_replicate]; omega) | (simp <;> omega))) rfl ?_
              refine J.o_op rfl (Yd.load pl5 rfl (Bs.cell (Ow.rd hx) (by first | omega | exact idx_u8' _ | (simp only [Int.toNat_natCast]; omega) | (simp only [List.length_map, List.length_drop, List.length_take, List.length_append, List.length_replicate]; omega) | (simp <;> omega)))) rfl ?_
              refine J.o_op rfl (Yd.idx_b Try.underlying22 ti5 rfl rfl (Ow.rd hx) (by first | omega | exact idx_u8' _ | (simp only [Int.toNat_natCast]; omega) | (simp only [List.length_map, List.length_drop, List.length_take, List.length_append, List.length_replicate]; omega) | (simp <;> omega))) rfl ?_
              refine J.o_op rfl (Yd.load pl5 rfl (Bs.cell (Ow.rd hx) (by first | omega | exact idx_u8' _ | (simp only [Int.toNat_natCast]; omega) | (simp only [List.length_map, List.length_drop, List.length_take, List.length_append, List.length_replicate]; omega) | (simp <;> omega)))) rfl ?_
              refine J.o_op rfl (Yd.idx_b Try.underlying22 ti5 rfl rfl (Ow.rd hx) (by first | omega | exact idx_u8' _ | (simp only [Int.toNat_natCast]; omega) | (simp only [List.length_map, List.length_drop, List.length_take, List.length_append, List.length_replicate]; omega) | (simp <;> omega))) rfl ?_
              refine J.o_op rfl (Yd.load pl5 rfl (Bs.cell (Ow.rd hx) (by first | omega | exact idx_u8' _ | (simp only [Int.toNat_natCast]; omega) | (simp only [List.length_map, List.length_drop, List.length_take, List.length_append, List.length_replicate]; omega) | (simp <;> omega)))) rfl ?_
              refine J.o_op rfl (Yd.idx_b Try.underlying22 ti5 rfl rfl (Ow.rd hx) (by first | omega | exact idx_u8' _ | (simp only [Int.toNat_natCast]; omega) | (simp only [List.length_map, List.length_drop, List.length_take, List.length_append, List.length_replicate]; omega) | (simp <;> omega))) rfl ?_
              refine J.o_op rfl (Yd.load pl5 rfl (Bs.cell (Ow.rd hx) (by first | omega | exact idx_u8' _ | (simp only [Int.toNat_natCast]; omega) | (simp only [List.length_map, List.length_drop, List.length_take, List.length_append, List.length_replicate]; omega) | (simp <;> omega)))) rfl ?_
              refine J.o_eff rfl (Ye.call cl43 rfl (Gmul_ok (b := 2))) rfl (fun _ _ h => h.2) ?_
              rintro _ w15 ⟨rfl, x1⟩
              have e0 := e0.trans x1
              have c4_0 := c4_0.ext x1
              have hs7 := hs7.ext x1
              have ht := ht.ext x1
              have hx := hx.ext x1
              clear x1
              refine J.o_eff rfl (Ye.call cl43 rfl (Gmul_ok (b := 3))) rfl (fun _ _ h => h.2) ?_
              rintro _ w16 ⟨rfl, x1⟩
              have e0 := e0.trans x1
              have c4_0 := c4_0.ext x1
              have hs7 := hs7.ext x1
              have ht := ht.ext x1
              have hx := hx.ext x1
              clear x1
              refine J.o_op rfl (Yd.xor_u8 rfl rfl) rfl ?_
              refine J.o_op rfl (Yd.xor_u8 rfl rfl) rfl ?_
              refine J.o_nil ?_
              refine J.s_op rfl (fun _ => Yd.xor_u8 rfl rfl) rfl ?_
              refine J.s_one rfl (Yd.idx_b Try.underlying22 ti5 rfl rfl (Ow.rd ht) (by first | omega | exact idx_u8' _ | (simp only [Int.toNat_natCast]; omega) | (simp only [List.length_map, List.length_drop, List.length_take, List.length_append, List.length_replicate]; omega) | (simp <;> omega))) rfl ?_
              refine J.s_eff0 rfl (Ye.storeOwM ti5 ht rfl rfl (by first | omega | exact idx_u8' _ | (simp only [Int.toNat_natCast]; omega) | (simp only [List.length_map, List.length_drop, List.length_take, List.length_append, List.length_replicate]; omega) | (simp <;> omega)) (fun _ => rfl) (fun _ => rfl)) ?_
              rintro _ w17 ⟨o', hg⟩
              have c4_0 := Cel.gbk c4_0 hg ap_b4_0_s40_7
              have hs7 := Ow.gbk hs7 hg ap_s19_3_s40_7
              have hx := Ow.gbk hx hg (Ap.symm ap_s40_7_s81_13)
              have e0 := Ext.gbk e0 fr_s40_7 hg
              replace ht := o'
              clear hg o'
              refine J.s_nil ?_
              refine J.n_np ?_
              refine J.n_block ?_
              refine J.n_then ?_
              refine J.region ?_
              refine J.op (Yd.move rfl) rfl ?_
              refine J.op (Yd.add rfl rfl (by first | omega | exact idx_u8' _ | (simp only [Int.toNat_natCast]; omega) | (simp only [List.length_map, List.length_drop, List.length_take, List.length_append, List.length_replicate]; omega) | (simp <;> omega))) rfl ?_
              refine J.op (Yd.assign rfl) rfl ?_
              refine J.nil ?_
              refine J.n_then ?_
              exact J.round (r + 1) ⟨rfl, rfl, rfl, rfl, rfl, rfl, rfl, rfl, trivial⟩ (⟨by omega, c4_0, hs7, by have h9 := ht; rw [show (4 * (c : Int) + (r : Int)).toNat = 4 * c + r by omega, show ((r : Int)).toNat = r by omega, show (((r : Int) + 1) % 4).toNat = (r + 1) % 4 by omega, show (((r : Int) + 2) % 4).toNat = (r + 2) % 4 by omega, show (((r : Int) + 3) % 4).toNat = (r + 3) % 4 by omega, mixQ_cut (sub16 (encR W l n)) (sub16_len _) c r (by omega) (by omega), mixQ_cut (sub16 (encR W l n)) (sub16_len _) c ((r + 1) % 4) (by omega) (by omega), mixQ_cut (sub16 (encR W l n)) (sub16_len _) c ((r + 2) % 4) (by omega) (by omega), mixQ_cut (sub16 (encR W l n)) (sub16_len _) c ((r + 3) % 4) (by omega) (by omega), ← mix16_get (sub16 (encR W l n)) c r (by omega) (by omega), mixQ_set _ (sub16_len _) _ (by omega)] at h9; exact h9, hx, e0⟩) (by omega)
            · skip
              refine J.exit ?_
              refine J.x_then ?_
              refine J.x_then ?_
              refine J.x_block ?_
              refine J.n_block ?_
              refine J.n_then ?_
              refine J.region ?_
              refine J.op (Yd.move rfl) rfl ?_
              refine J.op (Yd.add rfl rfl (by first | omega | exact idx_u8' _ | (simp only [Int.toNat_natCast]; omega) | (simp only [List.length_map, List.length_drop, List.length_take, List.length_append, List.length_replicate]; omega) | (simp <;> omega))) rfl ?_
              refine J.op (Yd.assign rfl) rfl ?_
              refine J.nil ?_
              refine J.n_then ?_
              exact J.round (c + 1) ⟨rfl, rfl, rfl, rfl, rfl, rfl, trivial⟩ (⟨by omega, c4_0, hs7, by have h9 := ht; rw [show r = 4 by omega] at h9; exact h9, e0⟩) (by omega)
          · skip
            refine J.exit ?_
            refine J.x_then ?_
            refine J.x_then ?_
            refine J.x_block ?_
            refine J.n_then ?_
            refine J.seq ?_
            refine J.region ?_
            refine J.op (Yd.assign rfl) rfl ?_
            refine J.nil ?_
            refine J.n_then ?_
            refine J.block ?_
            refine J.loop (ι := Nat) (fun i => [(0, a), (9, I ((n : Int) + 1)), (16, I i), (4, .pointer (some ⟨b4_0, 0, none⟩)), (7, s19_3), (10, s40_7)]) (fun i w' => i ≤ 16 ∧ Cel w' b4_0 51 [(0, 256, boxT.map (fun x : UInt8 => B x))] ∧ Ob w.heap.size 5 w' s19_3 (fillU (xorF (if n + 1 < 14 then mix16 (sub16 (encR W l n)) else (sub16 (encR W l n))) W (16 * (n + 1))) (encR W l n) i) ∧ Ob w.heap.size 5 w' s40_7 ((if n + 1 < 14 then mix16 (sub16 (encR W l n)) else (sub16 (encR W l n)))) ∧ Ext w w') (fun i => 16 - i) (0) ⟨rfl, rfl, rfl, rfl, rfl, rfl, trivial⟩ (⟨by omega, c4_0, by rw [fillU_zero]; exact hs7, by have h9 := ht; rw [if_pos (by omega)]; rw [show 4 * c = 16 by omega, mixQ_all _ (sub16_len _)] at h9; exact h9, e0⟩) ?_
            rintro k w18 ⟨hk, c4_0, hs7, ht, e0⟩
            have hMl : (if n + 1 < 14 then mix16 (sub16 (encR W l n)) else (sub16 (encR W l n))).length = 16 := by split <;> simp [mix16_len, sub16_len]
            have hfl := fillU_len (xorF (if n + 1 < 14 then mix16 (sub16 (encR W l n)) else (sub16 (encR W l n))) W (16 * (n + 1))) (encR W l n) k
            refine J.seq ?_
            refine J.seq ?_
            refine J.region ?_
            refine J.op (Yd.move rfl) rfl ?_
            refine J.op (Yd.lss rfl rfl) rfl ?_
            refine J.nil ?_
            refine J.n_then ?_
            refine J.cond_dec rfl (fun hc7 => ?_) (fun hc7 => ?_)
            · skip
              refine J.skip ?_
              refine J.n_then ?_
              refine J.seq ?_
              refine J.block ?_
              refine J.regionO [(0, true), (1, true), (2, true), (3, true), (6, true), (7, true), (8, true), (9, true), (10, true)] [(4, 1), (5, 1), (11, 1), (12, 1)] [(13, true), (14, false), (15, false)] mix (by kernel_rfl) ?_
              refine J.s_op rfl (fun _ => Yd.move rfl) rfl ?_
              refine J.s_op rfl (fun _ => Yd.move rfl) rfl ?_
              refine J.s_op rfl (fun _ => Yd.move rfl) rfl ?_
              refine J.s_op rfl (fun _ => Yd.move rfl) rfl ?_
              refine J.s_op rfl (fun _ => Yd.move rfl) rfl ?_
              refine J.s_op rfl (fun _ => Yd.move rfl) rfl ?_
              refine J.s_op rfl (fun _ => Yd.mul rfl rfl (by first | omega | exact idx_u8' _ | (simp only [Int.toNat_natCast]; omega) | (simp only [List.length_map, List.length_drop, List.length_take, List.length_append, List.length_replicate]; omega) | (simp <;> omega))) rfl ?_
              refine J.s_op rfl (fun _ => Yd.move rfl) rfl ?_
              refine J.s_op rfl (fun _ => Yd.add rfl rfl (by first | omega | exact idx_u8' _ | (simp only [Int.toNat_natCast]; omega) | (simp only [List.length_map, List.length_drop, List.length_take, List.length_append, List.length_replicate]; omega) | (simp <;> omega))) rfl ?_
              refine J.s_nil ?_
              refine J.o_op rfl (Yd.idx_b Try.underlying22 ti5 rfl rfl (Ow.rd ht) (by first | omega | exact idx_u8' _ | (simp only [Int.toNat_natCast]; omega) | (simp only [List.length_map, List.length_drop, List.length_take, List.length_append, List.length_replicate]; omega) | (simp <;> omega))) rfl ?_
              refine J.o_op rfl (Yd.load pl5 rfl (Bs.cell (Ow.rd ht) (by first | omega | exact idx_u8' _ | (simp only [Int.toNat_natCast]; omega) | (simp only [List.length_map, List.length_drop, List.length_take, List.length_append, List.length_replicate]; omega) | (simp <;> omega)))) rfl ?_
              refine J.o_op rfl (Yd.idx_b Try.underlying22 ti5 rfl rfl (Rd.ext hW e0) (by first | omega | exact idx_u8' _ | (simp only [Int.toNat_natCast]; omega) | (simp only [List.length_map, List.length_drop, List.length_take, List.length_append, List.length_replicate]; omega) | (simp <;> omega))) rfl ?_
              refine J.o_op rfl (Yd.load pl5 rfl (Bs.cell (Rd.ext hW e0) (by first | omega | exact idx_u8' _ | (simp only [Int.toNat_natCast]; omega) | (simp only [List.length_map, List.length_drop, List.length_take, List.length_append, List.length_replicate]; omega) | (simp <;> omega)))) rfl ?_
              refine J.o_nil ?_
              refine J.s_op rfl (fun _ => Yd.xor_u8 rfl rfl) rfl ?_
              refine J.s_one rfl (Yd.idx_b Try.underlying22 ti5 rfl rfl (Ow.rd hs7) (by first | omega | exact idx_u8' _ | (simp only [Int.toNat_natCast]; omega) | (simp only [List.length_map, List.length_drop, List.length_take, List.length_append, List.length_replicate]; omega) | (simp <;> omega))) rfl ?_
              refine J.s_eff0 rfl (Ye.storeOwM ti5 hs7 rfl rfl (by first | omega | exact idx_u8' _ | (simp only [Int.toNat_natCast]; omega) | (simp only [List.length_map, List.length_drop, List.length_take, List.length_append, List.length_replicate]; omega) | (simp <;> omega)) (fun _ => rfl) (fun _ => rfl)) ?_
              rintro _ w19 ⟨o', hg⟩
              have c4_0 := Cel.gbk c4_0 hg ap_b4_0_s19_3
              have ht := Ow.gbk ht hg (Ap.symm ap_s19_3_s40_7)
              have e0 := Ext.gbk e0 fr_s19_3 hg
              replace hs7 := o'
              clear hg o'
              refine J.s_nil ?_
              refine J.n_np ?_
              refine J.n_block ?_
              refine J.n_then ?_
              refine J.region ?_
              refine J.op (Yd.move rfl) rfl ?_
              refine J.op (Yd.add rfl rfl (by first | omega | exact idx_u8' _ | (simp only [Int.toNat_natCast]; omega) | (simp only [List.length_map, List.length_drop, List.length_take, List.length_append, List.length_replicate]; omega) | (simp <;> omega))) rfl ?_
              refine J.op (Yd.assign rfl) rfl ?_
              refine J.nil ?_
              refine J.n_then ?_
              exact J.round (k + 1) ⟨rfl, rfl, rfl, rfl, rfl, rfl, trivial⟩ (⟨by omega, c4_0, by have h9 := hs7; rw [show (16 * ((n : Int) + 1) + (k : Int)).toNat = 16 * (n + 1) + k by omega, Int.toNat_natCast, show (if n + 1 < 14 then mix16 (sub16 (encR W l n)) else (sub16 (encR W l n))).getD k 0 ^^^ W.getD (16 * (n + 1) + k) 0 = xorF (if n + 1 < 14 then mix16 (sub16 (encR W l n)) else (sub16 (encR W l n))) W (16 * (n + 1)) k from rfl, fillU_set] at h9; exact h9, ht, e0⟩) (by omega)
            · skip
              refine J.exit ?_
              refine J.x_then ?_
              refine J.x_then ?_
              refine J.x_block ?_
              refine J.n_block ?_
              refine J.n_then ?_
              refine J.region ?_
              refine J.op (Yd.move rfl) rfl ?_
              refine J.op (Yd.add rfl rfl (by first | omega | exact idx_u8' _ | (simp only [Int.toNat_natCast]; omega) | (simp only [List.length_map, List.length_drop, List.length_take, List.length_append, List.length_replicate]; omega) | (simp <;> omega))) rfl ?_
              refine J.op (Yd.assign rfl) rfl ?_
              refine J.nil ?_
              refine J.n_then ?_
              exact J.round (n + 1) ⟨rfl, (someI (by omega)), rfl, rfl, trivial⟩ (⟨by omega, c4_0, by have h9 := hs7; rw [show k = 16 by omega, xor16_fill _ _ _ _ (encR_len _ _ _), ← encR_next] at h9; exact h9, e0⟩) (by omega)
        · skip
          refine J.skip ?_
          refine J.n_then ?_
          refine J.seq ?_
          refine J.region ?_
          refine J.op (Yd.assign rfl) rfl ?_
          refine J.nil ?_
          refine J.n_then ?_
          refine J.block ?_
          refine J.loop (ι := Nat) (fun i => [(0, a), (9, I ((n : Int) + 1)), (16, I i), (4, .pointer (some ⟨b4_0, 0, none⟩)), (7, s19_3), (10, s40_7)]) (fun i w' => i ≤ 16 ∧ Cel w' b4_0 51 [(0, 256, boxT.map (fun x : UInt8 => B x))] ∧ Ob w.heap.size 5 w' s19_3 (fillU (xorF (if n + 1 < 14 then mix16 (sub16 (encR W l n)) else (sub16 (encR W l n))) W (16 * (n + 1))) (encR W l n) i) ∧ Ob w.heap.size 5 w' s40_7 ((if n + 1 < 14 then mix16 (sub16 (encR W l n)) else (sub16 (encR W l n)))) ∧ Ext w w') (fun i => 16 - i) (0) ⟨rfl, rfl, rfl, rfl, rfl, rfl, trivial⟩ (⟨by omega, c4_0, by rw [fillU_zero]; exact hs7, by have h9 := ht; rw [if_neg (by omega)]; rw [show 4 * c = 16 by omega, sub16_fill _ _ (by simp)] at h9; exact h9, e0⟩) ?_
          rintro k w20 ⟨hk, c4_0, hs7, ht, e0⟩
          have hMl : (if n + 1 < 14 then mix16 (sub16 (encR W l n)) else (sub16 (encR W l n))).length = 16 := by split <;> simp [mix16_len, sub16_len]
          have hfl := fillU_len (xorF (if n + 1 < 14 then mix16 (sub16 (encR W l n)) else (sub16 (encR W l n))) W (16 * (n + 1))) (encR W l n) k
          refine J.seq ?_
          refine J.seq ?_
          refine J.region ?_
          refine J.op (Yd.move rfl) rfl ?_
          refine J.op (Yd.lss rfl rfl) rfl ?_
          refine J.nil ?_
          refine J.n_then ?_
          refine J.cond_dec rfl (fun hc7 => ?_) (fun hc7 => ?_)
          · skip
            refine J.skip ?_
            refine J.n_then ?_
            refine J.seq ?_
            refine J.block ?_
            refine J.regionO [(0, true), (1, true), (2, true), (3, true), (6, true), (7, true), (8, true), (9, true), (10, true)] [(4, 1), (5, 1), (11, 1), (12, 1)] [(13, true), (14, false), (15, false)] mix (by kernel_rfl) ?_
            refine J.s_op rfl (fun _ => Yd.move rfl) rfl ?_
            refine J.s_op rfl (fun _ => Yd.move rfl) rfl ?_
            refine J.s_op rfl (fun _ => Yd.move rfl) rfl ?_
            refine J.s_op rfl (fun _ => Yd.move rfl) rfl ?_
            refine J.s_op rfl (fun _ => Yd.move rfl) rfl ?_
            refine J.s_op rfl (fun _ => Yd.move rfl) rfl ?_
            refine J.s_op rfl (fun _ => Yd.mul rfl rfl (by first | omega | exact idx_u8' _ | (simp only [Int.toNat_natCast]; omega) | (simp only [List.length_map, List.length_drop, List.length_take, List.length_append, List.length_replicate]; omega) | (simp <;> omega))) rfl ?_
            refine J.s_op rfl (fun _ => Yd.move rfl) rfl ?_
            refine J.s_op rfl (fun _ => Yd.add rfl rfl (by first | omega | exact idx_u8' _ | (simp only [Int.toNat_natCast]; omega) | (simp only [List.length_map, List.length_drop, List.length_take, List.length_append, List.length_replicate]; omega) | (simp <;> omega))) rfl ?_
            refine J.s_nil ?_
            refine J.o_op rfl (Yd.idx_b Try.underlying22 ti5 rfl rfl (Ow.rd ht) (by first | omega | exact idx_u8' _ | (simp only [Int.toNat_natCast]; omega) | (simp only [List.length_map, List.length_drop, List.length_take, List.length_append, List.length_replicate]; omega) | (simp <;> omega))) rfl ?_
            refine J.o_op rfl (Yd.load pl5 rfl (Bs.cell (Ow.rd ht) (by first | omega | exact idx_u8' _ | (simp only [Int.toNat_natCast]; omega) | (simp only [List.length_map, List.length_drop, List.length_take, List.length_append, List.length_replicate]; omega) | (simp <;> omega)))) rfl ?_
            refine J.o_op rfl (Yd.idx_b Try.underlying22 ti5 rfl rfl (Rd.ext hW e0) (by first | omega | exact idx_u8' _ | (simp only [Int.toNat_natCast]; omega) | (simp only [List.length_map, List.length_drop, List.length_take, List.length_append, List.length_replicate]; omega) | (simp <;> omega))) rfl ?_
            refine J.o_op rfl (Yd.load pl5 rfl (Bs.cell (Rd.ext hW e0) (by first | omega | exact idx_u8' _ | (simp only [Int.toNat_natCast]; omega) | (simp only [List.length_map, List.length_drop, List.length_take, List.length_append, List.length_replicate]; omega) | (simp <;> omega)))) rfl ?_
            refine J.o_nil ?_
            refine J.s_op rfl (fun _ => Yd.xor_u8 rfl rfl) rfl ?_
            refine J.s_one rfl (Yd.idx_b Try.underlying22 ti5 rfl rfl (Ow.rd hs7) (by first | omega | exact idx_u8' _ | (simp only [Int.toNat_natCast]; omega) | (simp only [List.length_map, List.length_drop, List.length_take, List.length_append, List.length_replicate]; omega) | (simp <;> omega))) rfl ?_
            refine J.s_eff0 rfl (Ye.storeOwM ti5 hs7 rfl rfl (by first | omega | exact idx_u8' _ | (simp only [Int.toNat_natCast]; omega) | (simp only [List.length_map, List.length_drop, List.length_take, List.length_append, List.length_replicate]; omega) | (simp <;> omega)) (fun _ => rfl) (fun _ => rfl)) ?_
            rintro _ w21 ⟨o', hg⟩
            have c4_0 := Cel.gbk c4_0 hg ap_b4_0_s19_3
            have ht := Ow.gbk ht hg (Ap.symm ap_s19_3_s40_7)
            have e0 := Ext.gbk e0 fr_s19_3 hg
            replace hs7 := o'
            clear hg o'
            refine J.s_nil ?_
            refine J.n_np ?_
            refine J.n_block ?_
            refine J.n_then ?_
            refine J.region ?_
            refine J.op (Yd.move rfl) rfl ?_
            refine J.op (Yd.add rfl rfl (by first | omega | exact idx_u8' _ | (simp only [Int.toNat_natCast]; omega) | (simp only [List.length_map, List.length_drop, List.length_take, List.length_append, List.length_replicate]; omega) | (simp <;> omega))) rfl ?_
            refine J.op (Yd.assign rfl) rfl ?_
            refine J.nil ?_
            refine J.n_then ?_
            exact J.round (k + 1) ⟨rfl, rfl, rfl, rfl, rfl, rfl, trivial⟩ (⟨by omega, c4_0, by have h9 := hs7; rw [show (16 * ((n : Int) + 1) + (k : Int)).toNat = 16 * (n + 1) + k by omega, Int.toNat_natCast, show (if n + 1 < 14 then mix16 (sub16 (encR W l n)) else (sub16 (encR W l n))).getD k 0 ^^^ W.getD (16 * (n + 1) + k) 0 = xorF (if n + 1 < 14 then mix16 (sub16 (encR W l n)) else (sub16 (encR W l n))) W (16 * (n + 1)) k from rfl, fillU_set] at h9; exact h9, ht, e0⟩) (by omega)
          · skip
            refine J.exit ?_
            refine J.x_then ?_
            refine J.x_then ?_
            refine J.x_block ?_
            refine J.n_block ?_
            refine J.n_then ?_
            refine J.region ?_
            refine J.op (Yd.move rfl) rfl ?_
            refine J.op (Yd.add rfl rfl (by first | omega | exact idx_u8' _ | (simp only [Int.toNat_natCast]; omega) | (simp only [List.length_map, List.length_drop, List.length_take, List.length_append, List.length_replicate]; omega) | (simp <;> omega))) rfl ?_
            refine J.op (Yd.assign rfl) rfl ?_
            refine J.nil ?_
            refine J.n_then ?_
            exact J.round (n + 1) ⟨rfl, (someI (by omega)), rfl, rfl, trivial⟩ (⟨by omega, c4_0, by have h9 := hs7; rw [show k = 16 by omega, xor16_fill _ _ _ _ (encR_len _ _ _), ← encR_next] at h9; exact h9, e0⟩) (by omega)
    · skip
      refine J.exit ?_
      refine J.x_then ?_
      refine J.x_then ?_
      refine J.x_block ?_
      refine J.n_then ?_
      refine J.seq ?_
      refine J.region ?_
      refine J.op (Yd.move rfl) rfl ?_
      refine J.op (Yd.assign rfl) rfl ?_
      refine J.nil ?_
      refine J.n_then ?_
      refine J.ret ?_
      exact J.ret1 rfl rfl (⟨_, rfl, by have h9 := hs7; rw [show n = 14 by omega] at h9; exact h9, e0⟩)
end Ytpkpicnldpbomaa
end Go.Proofs
