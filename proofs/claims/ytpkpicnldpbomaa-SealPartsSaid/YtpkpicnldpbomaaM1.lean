import Derived.Test.YtpkpicnldpbomaaT
import Derived.Test.YtpkpicnldpbomaaPB
import Derived.Test.YtpkpicnldpbomaaXB
import Derived.Test.YtpkpicnldpbomaaS12
set_option linter.unusedVariables false
set_option linter.unusedSimpArgs false
set_option maxRecDepth 100000
set_option maxHeartbeats 4000000
namespace Go.Proofs
open Go.X Go.RowKit
namespace Ytpkpicnldpbomaa
theorem NewKey_ok {a : Value} {key : List UInt8} {w : World} (ha : Bs w a key) (hl : key.length ≤ 1000000) : C Try.prog 23 [a] w (Ret fun u w' => ∃ b, u = .pointer (some ⟨b, 0, none⟩) ∧ KeyP 64 62 5 w' b key ∧ Ext w w') := by
  have hk6 := key64_len key
  have e0 := Ext.refl w
  refine C.enter Try.func23 rfl Try.ntmps23 rfl ?_
  refine J.seq ?_
  refine J.region ?_
  refine J.op (Yd.assign rfl) rfl ?_
  refine J.nil ?_
  refine J.n_then ?_
  refine J.seq ?_
  refine J.seq ?_
  refine J.region ?_
  refine J.op (Yd.move rfl) rfl ?_
  refine J.op (Yd.len_b Try.underlying22 rfl ha) rfl ?_
  refine J.op (Yd.gtr rfl rfl) rfl ?_
  refine J.nil ?_
  refine J.n_then ?_
  refine J.cond_dec rfl (fun hc0 => ?_) (fun hc0 => ?_)
  · skip
    refine J.region ?_
    refine J.op (Yd.move rfl) rfl ?_
    refine J.eff (Ye.litS1 Try.underlying57 ti22 rfl rfl ha) rfl ?_
    rintro s11_1 w1 ⟨o11_1, x1⟩
    have e0 := e0.trans x1
    clear x1
    refine J.eff (Ye.call cl36 rfl (Sum256_ok o11_1 (by first | omega | (simp only [List.length_append, List.flatten_cons, List.flatten_nil, List.append_nil, padL_len, sha256L_len, macL_len, List.length_nil, List.length_cons, Int.toNat_natCast]; omega) | (simp <;> omega)))) rfl ?_
    rintro s12_2 w2 ⟨os12_2, x1⟩
    have fr_s12_2 : Fr w.heap.size s12_2.ownBlock := Fr.le (Ow.fr os12_2) e0.size
    replace os12_2 := Ow.base os12_2 e0.size
    have e0 := e0.trans x1
    have o11_1 := o11_1.ext x1
    clear x1
    refine J.op (Yd.assign rfl) rfl ?_
    refine J.nil ?_
    refine J.n_then ?_
    refine J.seq ?_
    refine J.region ?_
    refine J.op (Yd.buildS (pl := [(0, 8), (8, 1), (9, 1)]) Try.underlying62 (by kernel_rfl) ti62 rfl rfl) rfl ?_
    refine J.eff (Ye.box (S := [(0, 8, (List.replicate 8 0).map (fun x : UInt32 => W32 x)), (8, 1, [.slice none 0 0]), (9, 1, [.int .u64 0])]) rfl (by simp [SegAll, SegOK, Value.cells])) rfl ?_
    rintro _ w3 ⟨b14_2, rfl, hb_, c14_2, x1⟩
    have ap_s12_2_b14_2 : Ap s12_2.ownBlock (some b14_2) := Ap.mk (Ow.live os12_2) (Fr.blk hb_)
    have fr_b14_2 : Fr w.heap.size (some b14_2) := Fr.le (Fr.blk hb_) e0.size
    have e0 := e0.trans x1
    have o11_1 := o11_1.ext x1
    have os12_2 := os12_2.ext x1
    clear x1 hb_
    refine J.op (Yd.buildS (pl := [(0, 8), (8, 1), (9, 1)]) Try.underlying62 (by kernel_rfl) ti62 rfl rfl) rfl ?_
    refine J.eff (Ye.box (S := [(0, 8, (List.replicate 8 0).map (fun x : UInt32 => W32 x)), (8, 1, [.slice none 0 0]), (9, 1, [.int .u64 0])]) rfl (by simp [SegAll, SegOK, Value.cells])) rfl ?_
    rintro _ w4 ⟨b16_3, rfl, hb_, c16_3, x1⟩
    have ap_s12_2_b16_3 : Ap s12_2.ownBlock (some b16_3) := Ap.mk (Ow.live os12_2) (Fr.blk hb_)
    have ap_b14_2_b16_3 : Ap (some b14_2) (some b16_3) := Ap.mk (Cel.live c14_2) (Fr.blk hb_)
    have fr_b16_3 : Fr w.heap.size (some b16_3) := Fr.le (Fr.blk hb_) e0.size
    have e0 := e0.trans x1
    have o11_1 := o11_1.ext x1
    have os12_2 := os12_2.ext x1
    have c14_2 := c14_2.ext x1
    clear x1 hb_
    refine J.op (Yd.buildV (pl := [(0, 1), (1, 1)]) Try.underlying64 (by kernel_rfl) ti64 rfl rfl (by simp [OffOK, cells_ptr]) (by simp [catV, cells_ptr, cells_agg])) rfl ?_
    refine J.eff (Ye.box (S := [(0, 1, [.pointer (some ⟨b14_2, 0, none⟩)]), (1, 1, [.pointer (some ⟨b16_3, 0, none⟩)])]) rfl (by simp [SegAll, SegOK, catV, cells_ptr, cells_agg])) rfl ?_
    rintro _ w5 ⟨b18_4, rfl, hb_, c18_4, x1⟩
    have ap_s12_2_b18_4 : Ap s12_2.ownBlock (some b18_4) := Ap.mk (Ow.live os12_2) (Fr.blk hb_)
    have ap_b14_2_b18_4 : Ap (some b14_2) (some b18_4) := Ap.mk (Cel.live c14_2) (Fr.blk hb_)
    have ap_b16_3_b18_4 : Ap (some b16_3) (some b18_4) := Ap.mk (Cel.live c16_3) (Fr.blk hb_)
    have fr_b18_4 : Fr w.heap.size (some b18_4) := Fr.le (Fr.blk hb_) e0.size
    have e0 := e0.trans x1
    have o11_1 := o11_1.ext x1
    have os12_2 := os12_2.ext x1
    have c14_2 := c14_2.ext x1
    have c16_3 := c16_3.ext x1
    clear x1 hb_
    refine J.op (Yd.assign rfl) rfl ?_
    refine J.nil ?_
    refine J.n_then ?_
    refine J.seq ?_
    refine J.region ?_
    refine J.eff (Ye.alloc ti65 (S := [(0, 64, (List.replicate 64 0).map (fun x : UInt8 => B x))]) (by simp [SegAll, SegOK, Value.cells])) rfl ?_
    rintro _ w6 ⟨b4_5, rfl, hb_, c4_5, x1⟩
    have ap_s12_2_b4_5 : Ap s12_2.ownBlock (some b4_5) := Ap.mk (Ow.live os12_2) (Fr.blk hb_)
    have ap_b14_2_b4_5 : Ap (some b14_2) (some b4_5) := Ap.mk (Cel.live c14_2) (Fr.blk hb_)
    have ap_b16_3_b4_5 : Ap (some b16_3) (some b4_5) := Ap.mk (Cel.live c16_3) (Fr.blk hb_)
    have ap_b18_4_b4_5 : Ap (some b18_4) (some b4_5) := Ap.mk (Cel.live c18_4) (Fr.blk hb_)
    have fr_b4_5 : Fr w.heap.size (some b4_5) := Fr.le (Fr.blk hb_) e0.size
    have e0 := e0.trans x1
    have o11_1 := o11_1.ext x1
    have os12_2 := os12_2.ext x1
    have c14_2 := c14_2.ext x1
    have c16_3 := c16_3.ext x1
    have c18_4 := c18_4.ext x1
    clear x1 hb_
    refine J.eff (Ye.alloc ti65 (S := [(0, 64, (List.replicate 64 0).map (fun x : UInt8 => B x))]) (by simp [SegAll, SegOK, Value.cells])) rfl ?_
    rintro _ w7 ⟨b5_6, rfl, hb_, c5_6, x1⟩
    have ap_s12_2_b5_6 : Ap s12_2.ownBlock (some b5_6) := Ap.mk (Ow.live os12_2) (Fr.blk hb_)
    have ap_b14_2_b5_6 : Ap (some b14_2) (some b5_6) := Ap.mk (Cel.live c14_2) (Fr.blk hb_)
    have ap_b16_3_b5_6 : Ap (some b16_3) (some b5_6) := Ap.mk (Cel.live c16_3) (Fr.blk hb_)
    have ap_b18_4_b5_6 : Ap (some b18_4) (some b5_6) := Ap.mk (Cel.live c18_4) (Fr.blk hb_)
    have ap_b4_5_b5_6 : Ap (some b4_5) (some b5_6) := Ap.mk (Cel.live c4_5) (Fr.blk hb_)
    have fr_b5_6 : Fr w.heap.size (some b5_6) := Fr.le (Fr.blk hb_) e0.size
    have e0 := e0.trans x1
    have o11_1 := o11_1.ext x1
    have os12_2 := os12_2.ext x1
    have c14_2 := c14_2.ext x1
    have c16_3 := c16_3.ext x1
    have c18_4 := c18_4.ext x1
    have c4_5 := c4_5.ext x1
    clear x1 hb_
    refine J.nil ?_
    refine J.n_then ?_
    refine J.seq ?_
    refine J.region ?_
    refine J.op (Yd.sliceA Try.underlying65 ti5 rfl) rfl ?_
    refine J.op (Yd.move rfl) rfl ?_
    refine J.eff (Ye.copyA Try.underlying22 ti5 c4_5 0 rfl rfl (l := 0) rfl (by omega) (by omega) rfl (Ow.rd os12_2) (one_M _ (fun _ => rfl))) rfl ?_
    rintro _ w8 ⟨rfl, cX, hu⟩
    simp only [List.set_cons_zero, List.set_cons_succ] at cX
    have hg := hu.gb
    have os12_2 := Ow.gbk os12_2 hg ap_s12_2_b4_5
    have c14_2 := Cel.gbk c14_2 hg ap_b14_2_b4_5
    have c16_3 := Cel.gbk c16_3 hg ap_b16_3_b4_5
    have c18_4 := Cel.gbk c18_4 hg ap_b18_4_b4_5
    have c5_6 := Cel.gbk c5_6 hg (Ap.symm ap_b4_5_b5_6)
    have e0 := Ext.gbk e0 fr_b4_5 hg
    clear hg
    replace c4_5 := cX
    clear cX hu
    rw [copy64, show firstL (sha256L ([key] : List (List UInt8)).flatten) 64 = key64 key by rw [key64, key1_yes (by omega)]; simp] at c4_5
    refine J.nil ?_
    refine J.n_then ?_
    refine J.seq ?_
    refine J.seq ?_
    refine J.region ?_
    refine J.op (Yd.move rfl) rfl ?_
    refine J.nil ?_
    refine J.n_then ?_
    refine J.block ?_
    refine J.loop (ι := Nat) (fun i => [(22, I i), (3, .pointer (some ⟨b18_4, 0, none⟩)), (4, .pointer (some ⟨b4_5, 0, none⟩)), (5, .pointer (some ⟨b5_6, 0, none⟩))]) (fun i w' => i ≤ 64 ∧ Cel w' b18_4 64 [(0, 1, [.pointer (some ⟨b14_2, 0, none⟩)]), (1, 1, [.pointer (some ⟨b16_3, 0, none⟩)])] ∧ Cel w' b14_2 62 [(0, 8, (List.replicate 8 0).map (fun x : UInt32 => W32 x)), (8, 1, [.slice none 0 0]), (9, 1, [.int .u64 0])] ∧ Cel w' b16_3 62 [(0, 8, (List.replicate 8 0).map (fun x : UInt32 => W32 x)), (8, 1, [.slice none 0 0]), (9, 1, [.int .u64 0])] ∧ Cel w' b4_5 65 [(0, 64, (fillU (padF 54 (key64 key)) (key64 key) i).map (fun x : UInt8 => B x))] ∧ Cel w' b5_6 65 [(0, 64, (fillU (padF 92 (key64 key)) (List.replicate 64 0) i).map (fun x : UInt8 => B x))] ∧ Ext w w') (fun i => 64 - i) (0) ⟨rfl, rfl, rfl, rfl, trivial⟩ (⟨by omega, c18_4, c14_2, c16_3, Cel.eq c4_5 (by rw [fillU_zero]), Cel.eq c5_6 (by rw [fillU_zero]), e0⟩) ?_
    rintro k w9 ⟨hk, c18_4, c14_2, c16_3, c4_5, c5_6, e0⟩
    have hf1 := fillU_len (padF 54 (key64 key)) (key64 key) k
    have hf2 := fillU_len (padF 92 (key64 key)) (List.replicate 64 0) k
    rw [List.length_replicate] at hf2
    refine J.seq ?_
    refine J.region ?_
    refine J.op (Yd.lss rfl rfl) rfl ?_
    refine J.nil ?_
    refine J.n_then ?_
    refine J.seq ?_
    refine J.cond_dec rfl (fun hc1 => ?_) (fun hc1 => ?_)
    · skip
      refine J.skip ?_
      refine J.n_then ?_
      refine J.seq ?_
      refine J.block ?_
      refine J.seq ?_
      refine J.region ?_
      refine J.op (Yd.move rfl) rfl ?_
      refine J.op (Yd.assign rfl) rfl ?_
      refine J.nil ?_
      refine J.n_then ?_
      refine J.regionX [(0, true), (1, true), (2, true), (3, true), (6, true), (7, true)] [(4, 1), (8, 1), (5, 3), (9, 3), (10, 3), (11, 2)] [(12, true), (13, false)] mix (by kernel_rfl) ?_
      refine J.s_op rfl (fun _ => Yd.move rfl) rfl ?_
      refine J.s_op rfl (fun _ => Yd.move rfl) rfl ?_
      refine J.s_op rfl (fun _ => Yd.move rfl) rfl ?_
      refine J.s_op rfl (fun _ => Yd.idxA Try.underlying65 ti5 rfl rfl (by first | omega | exact idx_u8' _ | (simp only [Int.toNat_natCast]; omega) | (simp only [List.length_map, List.length_drop, List.length_take, List.length_append, List.length_replicate]; omega) | (simp <;> omega))) rfl ?_
      refine J.s_op rfl (fun _ => Yd.move rfl) rfl ?_
      refine J.s_op rfl (fun _ => Yd.idxA Try.underlying65 ti5 rfl rfl (by first | omega | exact idx_u8' _ | (simp only [Int.toNat_natCast]; omega) | (simp only [List.length_map, List.length_drop, List.length_take, List.length_append, List.length_replicate]; omega) | (simp <;> omega))) rfl ?_
      refine J.s_nil ?_
      refine J.x_op rfl (Yd.load pl5 rfl (Cel.cellM c4_5 0 rfl 0 (by have hl_ := Cel.lenM c4_5 0 rfl; first | omega | (rw [hl_]; exact idx_u8' _) | (simp only [Int.toNat_natCast]; omega) | (simp at hl_ ⊢ <;> omega)))) rfl ?_
      refine J.x_op rfl (Yd.load pl5 rfl (Cel.cellM c4_5 0 rfl 0 (by have hl_ := Cel.lenM c4_5 0 rfl; first | omega | (rw [hl_]; exact idx_u8' _) | (simp only [Int.toNat_natCast]; omega) | (simp at hl_ ⊢ <;> omega)))) rfl ?_
      refine J.x_plain rfl (fun _ => Yd.xor_u8 (n := 54) rfl rfl) rfl ?_
      refine J.x_plain rfl (fun _ => Yd.xor_u8 (n := 92) rfl rfl) rfl ?_
      refine J.x_plain rfl (fun _ => Yd.idxA Try.underlying65 ti5 rfl rfl (by first | omega | exact idx_u8' _ | (simp only [Int.toNat_natCast]; omega) | (simp only [List.length_map, List.length_drop, List.length_take, List.length_append, List.length_replicate]; omega) | (simp <;> omega))) rfl ?_
      refine J.x_store rfl (Ye.storeM ti5 c4_5 0 rfl rfl rfl rfl (by first | omega | exact idx_u8' _ | (simp only [Int.toNat_natCast]; omega) | (simp only [List.length_map, List.length_drop, List.length_take, List.length_append, List.length_replicate]; omega) | (simp <;> omega)) (fun _ => rfl) (fun _ => rfl)) ?_
      rintro _ w10 ⟨cX, hu⟩
      simp only [List.set_cons_zero, List.set_cons_succ] at cX
      have hg := hu.gb
      have c18_4 := Cel.gbk c18_4 hg ap_b18_4_b4_5
      have c14_2 := Cel.gbk c14_2 hg ap_b14_2_b4_5
      have c16_3 := Cel.gbk c16_3 hg ap_b16_3_b4_5
      have c5_6 := Cel.gbk c5_6 hg (Ap.symm ap_b4_5_b5_6)
      have e0 := Ext.gbk e0 fr_b4_5 hg
      clear hg
      replace c4_5 := cX
      clear cX hu
      refine J.x_nil ?_
      refine J.s_op rfl (fun _ => Yd.idxA Try.underlying65 ti5 rfl rfl (by first | omega | exact idx_u8' _ | (simp only [Int.toNat_natCast]; omega) | (simp only [List.length_map, List.length_drop, List.length_take, List.length_append, List.length_replicate]; omega) | (simp <;> omega))) rfl ?_
      refine J.s_eff0 rfl (Ye.storeM ti5 c5_6 0 rfl rfl rfl rfl (by first | omega | exact idx_u8' _ | (simp only [Int.toNat_natCast]; omega) | (simp only [List.length_map, List.length_drop, List.length_take, List.length_append, List.length_replicate]; omega) | (simp <;> omega)) (fun _ => rfl) (fun _ => rfl)) ?_
      rintro _ w11 ⟨cX, hu⟩
      simp only [List.set_cons_zero, List.set_cons_succ] at cX
      have hg := hu.gb
      have c18_4 := Cel.gbk c18_4 hg ap_b18_4_b5_6
      have c14_2 := Cel.gbk c14_2 hg ap_b14_2_b5_6
      have c16_3 := Cel.gbk c16_3 hg ap_b16_3_b5_6
      have c4_5 := Cel.gbk c4_5 hg ap_b4_5_b5_6
      have e0 := Ext.gbk e0 fr_b5_6 hg
      clear hg
      replace c5_6 := cX
      clear cX hu
      refine J.s_nil ?_
      refine J.n_np ?_
      refine J.n_block ?_
      refine J.n_then ?_
      refine J.region ?_
      refine J.op (Yd.add rfl rfl (by first | omega | exact idx_u8' _ | (simp only [Int.toNat_natCast]; omega) | (simp only [List.length_map, List.length_drop, List.length_take, List.length_append, List.length_replicate]; omega) | (simp <;> omega))) rfl ?_
      refine J.op (Yd.move rfl) rfl ?_
      refine J.nil ?_
      refine J.n_then ?_
      exact J.round (k + 1) ⟨rfl, rfl, rfl, rfl, trivial⟩ (⟨by omega, c18_4, c14_2, c16_3, Cel.eq c4_5 (by rw [Int.toNat_natCast, fillU_get _ _ _ _ _ (Nat.le_refl _)]; exact congrArg (fun l => [(0, 64, List.map (fun x : UInt8 => B x) l)]) (fillU_set (padF 54 (key64 key)) _ k)), Cel.eq c5_6 (by rw [Int.toNat_natCast, fillU_get _ _ _ _ _ (Nat.le_refl _)]; exact congrArg (fun l => [(0, 64, List.map (fun x : UInt8 => B x) l)]) (fillU_set (padF 92 (key64 key)) _ k)), e0⟩) (by omega)
    · skip
      refine J.exit ?_
      refine J.x_then ?_
      refine J.x_then ?_
      refine J.x_block ?_
      refine J.n_then ?_
      refine J.seq ?_
      refine J.regionO [(0, true), (1, true), (2, true), (4, true), (3, false), (5, false)] [] [] mix (by kernel_rfl) ?_
      refine J.s_op rfl (fun _ => Yd.move rfl) rfl ?_
      refine J.s_op rfl (fun _ => Yd.nilCheck rfl) rfl ?_
      refine J.s_op rfl (fun _ => Yd.cast (Yd.fieldA Try.underlying64 rfl ti58 rfl rfl) (show _ = Value.pointer (some ⟨b18_4, 0, none⟩) from rfl)) rfl ?_
      refine J.s_op rfl (fun _ => Yd.sliceA Try.underlying65 ti5 rfl) rfl ?_
      refine J.s_one rfl (Yd.load pl58 rfl (Cel.cell1 c18_4 0 rfl)) rfl ?_
      refine J.s_eff rfl (Ye.call cl37 rfl (Add_ok (Cel.eq c14_2 hseg_nil.symm) (show Ob 0 5 _ nilS (restL []) from Ow.nil _ _ _) Ap.nil_r (fun w' ht => Cel.bs (Cel.tnk c4_5 ht (ApL.one (Ap.symm ap_b14_2_b4_5))) 0 rfl (l := 0) (k := 64) (by omega) (by omega) (by decide)) (by first | omega | (simp only [List.length_append, List.flatten_cons, List.flatten_nil, List.append_nil, padL_len, sha256L_len, macL_len, List.length_nil, List.length_cons, Int.toNat_natCast]; omega) | (simp <;> omega)) (by first | omega | (simp only [List.length_append, List.flatten_cons, List.flatten_nil, List.append_nil, padL_len, sha256L_len, macL_len, List.length_nil, List.length_cons, Int.toNat_natCast]; omega) | (simp <;> omega)))) rfl ?_
      rintro _ w12 ⟨s43_12, rfl, cX2, os43_12, x1⟩
      have ap_b18_4_s43_12 : Ap (some b18_4) s43_12.ownBlock := Ap.mk (Cel.live c18_4) (Ow.fr os43_12)
      have ap_b14_2_s43_12 : Ap (some b14_2) s43_12.ownBlock := Ap.mk (Cel.live c14_2) (Ow.fr os43_12)
      have ap_b16_3_s43_12 : Ap (some b16_3) s43_12.ownBlock := Ap.mk (Cel.live c16_3) (Ow.fr os43_12)
      have ap_b4_5_s43_12 : Ap (some b4_5) s43_12.ownBlock := Ap.mk (Cel.live c4_5) (Ow.fr os43_12)
      have ap_b5_6_s43_12 : Ap (some b5_6) s43_12.ownBlock := Ap.mk (Cel.live c5_6) (Ow.fr os43_12)
      have fr_s43_12 : Fr w.heap.size s43_12.ownBlock := Fr.le (Ow.fr os43_12) e0.size
      replace os43_12 := Ow.base os43_12 e0.size
      have c18_4 := Cel.tnk c18_4 x1 (ApL.one (Ap.symm ap_b14_2_b18_4))
      have c16_3 := Cel.tnk c16_3 x1 (ApL.one (Ap.symm ap_b14_2_b16_3))
      have c4_5 := Cel.tnk c4_5 x1 (ApL.one (Ap.symm ap_b14_2_b4_5))
      have c5_6 := Cel.tnk c5_6 x1 (ApL.one (Ap.symm ap_b14_2_b5_6))
      have e0 := Ext.tnk e0 (fun q hq => by simp only [List.mem_singleton] at hq; subst hq; exact fr_b14_2) x1
      clear x1
      replace c14_2 := cX2
      clear cX2
      refine J.s_nil ?_
      refine J.o_nil ?_
      refine J.s_nil ?_
      refine J.n_np ?_
      refine J.n_then ?_
      refine J.seq ?_
      refine J.regionO [(0, true), (1, true), (2, true), (4, true), (3, false), (5, false)] [] [] mix (by kernel_rfl) ?_
      refine J.s_op rfl (fun _ => Yd.move rfl) rfl ?_
      refine J.s_op rfl (fun _ => Yd.nilCheck rfl) rfl ?_
      refine J.s_op rfl (fun _ => Yd.cast (Yd.fieldA Try.underlying64 rfl ti58 rfl rfl) (show _ = Value.pointer (some ⟨b18_4, 1, none⟩) from rfl)) rfl ?_
      refine J.s_op rfl (fun _ => Yd.sliceA Try.underlying65 ti5 rfl) rfl ?_
      refine J.s_one rfl (Yd.load pl58 rfl (Cel.cell1 c18_4 1 rfl)) rfl ?_
      refine J.s_eff rfl (Ye.call cl37 rfl (Add_ok (Cel.eq c16_3 hseg_nil.symm) (show Ob 0 5 _ nilS (restL []) from Ow.nil _ _ _) Ap.nil_r (fun w' ht => Cel.bs (Cel.tnk c5_6 ht (ApL.one (Ap.symm ap_b16_3_b5_6))) 0 rfl (l := 0) (k := 64) (by omega) (by omega) (by decide)) (by first | omega | (simp only [List.length_append, List.flatten_cons, List.flatten_nil, List.append_nil, padL_len, sha256L_len, macL_len, List.length_nil, List.length_cons, Int.toNat_natCast]; omega) | (simp <;> omega)) (by first | omega | (simp only [List.length_append, List.flatten_cons, List.flatten_nil, List.append_nil, padL_len, sha256L_len, macL_len, List.length_nil, List.length_cons, Int.toNat_natCast]; omega) | (simp <;> omega)))) rfl ?_
      rintro _ w13 ⟨s49_13, rfl, cX2, os49_13, x1⟩
      have ap_b18_4_s49_13 : Ap (some b18_4) s49_13.ownBlock := Ap.mk (Cel.live c18_4) (Ow.fr os49_13)
      have ap_b14_2_s49_13 : Ap (some b14_2) s49_13.ownBlock := Ap.mk (Cel.live c14_2) (Ow.fr os49_13)
      have ap_b16_3_s49_13 : Ap (some b16_3) s49_13.ownBlock := Ap.mk (Cel.live c16_3) (Ow.fr os49_13)
      have ap_b4_5_s49_13 : Ap (some b4_5) s49_13.ownBlock := Ap.mk (Cel.live c4_5) (Ow.fr os49_13)
      have ap_b5_6_s49_13 : Ap (some b5_6) s49_13.ownBlock := Ap.mk (Cel.live c5_6) (Ow.fr os49_13)
      have ap_s43_12_s49_13 : Ap s43_12.ownBlock s49_13.ownBlock := Ap.mk (Ow.live os43_12) (Ow.fr os49_13)
      have fr_s49_13 : Fr w.heap.size s49_13.ownBlock := Fr.le (Ow.fr os49_13) e0.size
      replace os49_13 := Ow.base os49_13 e0.size
      have c18_4 := Cel.tnk c18_4 x1 (ApL.one (Ap.symm ap_b16_3_b18_4))
      have c14_2 := Cel.tnk c14_2 x1 (ApL.one ap_b14_2_b16_3)
      have c4_5 := Cel.tnk c4_5 x1 (ApL.one (Ap.symm ap_b16_3_b4_5))
      have c5_6 := Cel.tnk c5_6 x1 (ApL.one (Ap.symm ap_b16_3_b5_6))
      have os43_12 := Ow.tnk os43_12 x1 (ApL.one (Ap.symm ap_b16_3_s43_12))
      have e0 := Ext.tnk e0 (fun q hq => by simp only [List.mem_singleton] at hq; subst hq; exact fr_b16_3) x1
      clear x1
      replace c16_3 := cX2
      clear cX2
      refine J.s_nil ?_
      refine J.o_nil ?_
      refine J.s_nil ?_
      refine J.n_np ?_
      refine J.n_then ?_
      refine J.seq ?_
      refine J.region ?_
      refine J.op (Yd.move rfl) rfl ?_
      refine J.op (Yd.assign rfl) rfl ?_
      refine J.nil ?_
      refine J.n_then ?_
      refine J.ret ?_
      exact J.ret1 rfl rfl (⟨_, rfl, b18_4, rfl, ⟨b14_2, s43_12, b16_3, s49_13, c18_4, (by have h9 := c14_2; rw [pad_in 54 key (key64 key) (key64_len key) k (by omega)] at h9; exact h9), (by have h9 := os43_12; rw [pad_in 54 key (key64 key) (key64_len key) k (by omega)] at h9; exact Ow.base h9 (Nat.zero_le _)), ap_b14_2_s43_12, (by have h9 := c16_3; rw [pad_in 92 key (List.replicate 64 0) (by simp) k (by omega)] at h9; exact h9), (by have h9 := os49_13; rw [pad_in 92 key (List.replicate 64 0) (by simp) k (by omega)] at h9; exact Ow.base h9 (Nat.zero_le _)), ap_b16_3_s49_13⟩, e0⟩)
  · skip
    refine J.skip ?_
    refine J.n_then ?_
    refine J.seq ?_
    refine J.region ?_
    refine J.op (Yd.buildS (pl := [(0, 8), (8, 1), (9, 1)]) Try.underlying62 (by kernel_rfl) ti62 rfl rfl) rfl ?_
    refine J.eff (Ye.box (S := [(0, 8, (List.replicate 8 0).map (fun x : UInt32 => W32 x)), (8, 1, [.slice none 0 0]), (9, 1, [.int .u64 0])]) rfl (by simp [SegAll, SegOK, Value.cells])) rfl ?_
    rintro _ w14 ⟨b14_13, rfl, hb_, c14_13, x1⟩
    have fr_b14_13 : Fr w.heap.size (some b14_13) := Fr.le (Fr.blk hb_) e0.size
    have e0 := e0.trans x1
    clear x1 hb_
    refine J.op (Yd.buildS (pl := [(0, 8), (8, 1), (9, 1)]) Try.underlying62 (by kernel_rfl) ti62 rfl rfl) rfl ?_
    refine J.eff (Ye.box (S := [(0, 8, (List.replicate 8 0).map (fun x : UInt32 => W32 x)), (8, 1, [.slice none 0 0]), (9, 1, [.int .u64 0])]) rfl (by simp [SegAll, SegOK, Value.cells])) rfl ?_
    rintro _ w15 ⟨b16_14, rfl, hb_, c16_14, x1⟩
    have ap_b14_13_b16_14 : Ap (some b14_13) (some b16_14) := Ap.mk (Cel.live c14_13) (Fr.blk hb_)
    have fr_b16_14 : Fr w.heap.size (some b16_14) := Fr.le (Fr.blk hb_) e0.size
    have e0 := e0.trans x1
    have c14_13 := c14_13.ext x1
    clear x1 hb_
    refine J.op (Yd.buildV (pl := [(0, 1), (1, 1)]) Try.underlying64 (by kernel_rfl) ti64 rfl rfl (by simp [OffOK, cells_ptr]) (by simp [catV, cells_ptr, cells_agg])) rfl ?_
    refine J.eff (Ye.box (S := [(0, 1, [.pointer (some ⟨b14_13, 0, none⟩)]), (1, 1, [.pointer (some ⟨b16_14, 0, none⟩)])]) rfl (by simp [SegAll, SegOK, catV, cells_ptr, cells_agg])) rfl ?_
    rintro _ w16 ⟨b18_15, rfl, hb_, c18_15, x1⟩
    have ap_b14_13_b18_15 : Ap (some b14_13) (some b18_15) := Ap.mk (Cel.live c14_13) (Fr.blk hb_)
    have ap_b16_14_b18_15 : Ap (some b16_14) (some b18_15) := Ap.mk (Cel.live c16_14) (Fr.blk hb_)
    have fr_b18_15 : Fr w.heap.size (some b18_15) := Fr.le (Fr.blk hb_) e0.size
    have e0 := e0.trans x1
    have c14_13 := c14_13.ext x1
    have c16_14 := c16_14.ext x1
    clear x1 hb_
    refine J.op (Yd.assign rfl) rfl ?_
    refine J.nil ?_
    refine J.n_then ?_
    refine J.seq ?_
    refine J.region ?_
    refine J.eff (Ye.alloc ti65 (S := [(0, 64, (List.replicate 64 0).map (fun x : UInt8 => B x))]) (by simp [SegAll, SegOK, Value.cells])) rfl ?_
    rintro _ w17 ⟨b4_16, rfl, hb_, c4_16, x1⟩
    have ap_b14_13_b4_16 : Ap (some b14_13) (some b4_16) := Ap.mk (Cel.live c14_13) (Fr.blk hb_)
    have ap_b16_14_b4_16 : Ap (some b16_14) (some b4_16) := Ap.mk (Cel.live c16_14) (Fr.blk hb_)
    have ap_b18_15_b4_16 : Ap (some b18_15) (some b4_16) := Ap.mk (Cel.live c18_15) (Fr.blk hb_)
    have fr_b4_16 : Fr w.heap.size (some b4_16) := Fr.le (Fr.blk hb_) e0.size
    have e0 := e0.trans x1
    have c14_13 := c14_13.ext x1
    have c16_14 := c16_14.ext x1
    have c18_15 := c18_15.ext x1
    clear x1 hb_
    refine J.eff (Ye.alloc ti65 (S := [(0, 64, (List.replicate 64 0).map (fun x : UInt8 => B x))]) (by simp [SegAll, SegOK, Value.cells])) rfl ?_
    rintro _ w18 ⟨b5_17, rfl, hb_, c5_17, x1⟩
    have ap_b14_13_b5_17 : Ap (some b14_13) (some b5_17) := Ap.mk (Cel.live c14_13) (Fr.blk hb_)
    have ap_b16_14_b5_17 : Ap (some b16_14) (some b5_17) := Ap.mk (Cel.live c16_14) (Fr.blk hb_)
    have ap_b18_15_b5_17 : Ap (some b18_15) (some b5_17) := Ap.mk (Cel.live c18_15) (Fr.blk hb_)
    have ap_b4_16_b5_17 : Ap (some b4_16) (some b5_17) := Ap.mk (Cel.live c4_16) (Fr.blk hb_)
    have fr_b5_17 : Fr w.heap.size (some b5_17) := Fr.le (Fr.blk hb_) e0.size
    have e0 := e0.trans x1
    have c14_13 := c14_13.ext x1
    have c16_14 := c16_14.ext x1
    have c18_15 := c18_15.ext x1
    have c4_16 := c4_16.ext x1
    clear x1 hb_
    refine J.nil ?_
    refine J.n_then ?_
    refine J.seq ?_
    refine J.region ?_
    refine J.op (Yd.sliceA Try.underlying65 ti5 rfl) rfl ?_
    refine J.op (Yd.move rfl) rfl ?_
    refine J.eff (Ye.copyA Try.underlying22 ti5 c4_16 0 rfl rfl (l := 0) rfl (by omega) (by omega) rfl (Rd.ext ha e0) (one_M _ (fun _ => rfl))) rfl ?_
    rintro _ w19 ⟨rfl, cX, hu⟩
    simp only [List.set_cons_zero, List.set_cons_succ] at cX
    have hg := hu.gb
    have c14_13 := Cel.gbk c14_13 hg ap_b14_13_b4_16
    have c16_14 := Cel.gbk c16_14 hg ap_b16_14_b4_16
    have c18_15 := Cel.gbk c18_15 hg ap_b18_15_b4_16
    have c5_17 := Cel.gbk c5_17 hg (Ap.symm ap_b4_16_b5_17)
    have e0 := Ext.gbk e0 fr_b4_16 hg
    clear hg
    replace c4_16 := cX
    clear cX hu
    rw [copy64, show firstL key 64 = key64 key by rw [key64, key1_no (by omega)]] at c4_16
    refine J.nil ?_
    refine J.n_then ?_
    refine J.seq ?_
    refine J.seq ?_
    refine J.region ?_
    refine J.op (Yd.move rfl) rfl ?_
    refine J.nil ?_
    refine J.n_then ?_
    refine J.block ?_
    refine J.loop (ι := Nat) (fun i => [(22, I i), (3, .pointer (some ⟨b18_15, 0, none⟩)), (4, .pointer (some ⟨b4_16, 0, none⟩)), (5, .pointer (some ⟨b5_17, 0, none⟩))]) (fun i w' => i ≤ 64 ∧ Cel w' b18_15 64 [(0, 1, [.pointer (some ⟨b14_13, 0, none⟩)]), (1, 1, [.pointer (some ⟨b16_14, 0, none⟩)])] ∧ Cel w' b14_13 62 [(0, 8, (List.replicate 8 0).map (fun x : UInt32 => W32 x)), (8, 1, [.slice none 0 0]), (9, 1, [.int .u64 0])] ∧ Cel w' b16_14 62 [(0, 8, (List.replicate 8 0).map (fun x : UInt32 => W32 x)), (8, 1, [.slice none 0 0]), (9, 1, [.int .u64 0])] ∧ Cel w' b4_16 65 [(0, 64, (fillU (padF 54 (key64 key)) (key64 key) i).map (fun x : UInt8 => B x))] ∧ Cel w' b5_17 65 [(0, 64, (fillU (padF 92 (key64 key)) (List.replicate 64 0) i).map (fun x : UInt8 => B x))] ∧ Ext w w') (fun i => 64 - i) (0) ⟨rfl, rfl, rfl, rfl, trivial⟩ (⟨by omega, c18_15, c14_13, c16_14, Cel.eq c4_16 (by rw [fillU_zero]), Cel.eq c5_17 (by rw [fillU_zero]), e0⟩) ?_
    rintro k w20 ⟨hk, c18_15, c14_13, c16_14, c4_16, c5_17, e0⟩
    have hf1 := fillU_len (padF 54 (key64 key)) (key64 key) k
    have hf2 := fillU_len (padF 92 (key64 key)) (List.replicate 64 0) k
    rw [List.length_replicate] at hf2
    refine J.seq ?_
    refine J.region ?_
    refine J.op (Yd.lss rfl rfl) rfl ?_
    refine J.nil ?_
    refine J.n_then ?_
    refine J.seq ?_
    refine J.cond_dec rfl (fun hc1 => ?_) (fun hc1 => ?_)
    · skip
      refine J.skip ?_
      refine J.n_then ?_
      refine J.seq ?_
      refine J.block ?_
      refine J.seq ?_
      refine J.region ?_
      refine J.op (Yd.move rfl) rfl ?_
      refine J.op (Yd.assign rfl) rfl ?_
      refine J.nil ?_
      refine J.n_then ?_
      refine J.regionX [(0, true), (1, true), (2, true), (3, true), (6, true), (7, true)] [(4, 1), (8, 1), (5, 3), (9, 3), (10, 3), (11, 2)] [(12, true), (13, false)] mix (by kernel_rfl) ?_
      refine J.s_op rfl (fun _ => Yd.move rfl) rfl ?_
      refine J.s_op rfl (fun _ => Yd.move rfl) rfl ?_
      refine J.s_op rfl (fun _ => Yd.move rfl) rfl ?_
      refine J.s_op rfl (fun _ => Yd.idxA Try.underlying65 ti5 rfl rfl (by first | omega | exact idx_u8' _ | (simp only [Int.toNat_natCast]; omega) | (simp only [List.length_map, List.length_drop, List.length_take, List.length_append, List.length_replicate]; omega) | (simp <;> omega))) rfl ?_
      refine J.s_op rfl (fun _ => Yd.move rfl) rfl ?_
      refine J.s_op rfl (fun _ => Yd.idxA Try.underlying65 ti5 rfl rfl (by first | omega | exact idx_u8' _ | (simp only [Int.toNat_natCast]; omega) | (simp only [List.length_map, List.length_drop, List.length_take, List.length_append, List.length_replicate]; omega) | (simp <;> omega))) rfl ?_
      refine J.s_nil ?_
      refine J.x_op rfl (Yd.load pl5 rfl (Cel.cellM c4_16 0 rfl 0 (by have hl_ := Cel.lenM c4_16 0 rfl; first | omega | (rw [hl_]; exact idx_u8' _) | (simp only [Int.toNat_natCast]; omega) | (simp at hl_ ⊢ <;> omega)))) rfl ?_
      refine J.x_op rfl (Yd.load pl5 rfl (Cel.cellM c4_16 0 rfl 0 (by have hl_ := Cel.lenM c4_16 0 rfl; first | omega | (rw [hl_]; exact idx_u8' _) | (simp only [Int.toNat_natCast]; omega) | (simp at hl_ ⊢ <;> omega)))) rfl ?_
      refine J.x_plain rfl (fun _ => Yd.xor_u8 (n := 54) rfl rfl) rfl ?_
      refine J.x_plain rfl (fun _ => Yd.xor_u8 (n := 92) rfl rfl) rfl ?_
      refine J.x_plain rfl (fun _ => Yd.idxA Try.underlying65 ti5 rfl rfl (by first | omega | exact idx_u8' _ | (simp only [Int.toNat_natCast]; omega) | (simp only [List.length_map, List.length_drop, List.length_take, List.length_append, List.length_replicate]; omega) | (simp <;> omega))) rfl ?_
      refine J.x_store rfl (Ye.storeM ti5 c4_16 0 rfl rfl rfl rfl (by first | omega | exact idx_u8' _ | (simp only [Int.toNat_natCast]; omega) | (simp only [List.length_map, List.length_drop, List.length_take, List.length_append, List.length_replicate]; omega) | (simp <;> omega)) (fun _ => rfl) (fun _ => rfl)) ?_
      rintro _ w21 ⟨cX, hu⟩
      simp only [List.set_cons_zero, List.set_cons_succ] at cX
      have hg := hu.gb
      have c18_15 := Cel.gbk c18_15 hg ap_b18_15_b4_16
      have c14_13 := Cel.gbk c14_13 hg ap_b14_13_b4_16
      have c16_14 := Cel.gbk c16_14 hg ap_b16_14_b4_16
      have c5_17 := Cel.gbk c5_17 hg (Ap.symm ap_b4_16_b5_17)
      have e0 := Ext.gbk e0 fr_b4_16 hg
      clear hg
      replace c4_16 := cX
      clear cX hu
      refine J.x_nil ?_
      refine J.s_op rfl (fun _ => Yd.idxA Try.underlying65 ti5 rfl rfl (by first | omega | exact idx_u8' _ | (simp only [Int.toNat_natCast]; omega) | (simp only [List.length_map, List.length_drop, List.length_take, List.length_append, List.length_replicate]; omega) | (simp <;> omega))) rfl ?_
      refine J.s_eff0 rfl (Ye.storeM ti5 c5_17 0 rfl rfl rfl rfl (by first | omega | exact idx_u8' _ | (simp only [Int.toNat_natCast]; omega) | (simp only [List.length_map, List.length_drop, List.length_take, List.length_append, List.length_replicate]; omega) | (simp <;> omega)) (fun _ => rfl) (fun _ => rfl)) ?_
      rintro _ w22 ⟨cX, hu⟩
      simp only [List.set_cons_zero, List.set_cons_succ] at cX
      have hg := hu.gb
      have c18_15 := Cel.gbk c18_15 hg ap_b18_15_b5_17
      have c14_13 := Cel.gbk c14_13 hg ap_b14_13_b5_17
      have c16_14 := Cel.gbk c16_14 hg ap_b16_14_b5_17
      have c4_16 := Cel.gbk c4_16 hg ap_b4_16_b5_17
      have e0 := Ext.gbk e0 fr_b5_17 hg
      clear hg
      replace c5_17 := cX
      clear cX hu
      refine J.s_nil ?_
      refine J.n_np ?_
      refine J.n_block ?_
      refine J.n_then ?_
      refine J.region ?_
      refine J.op (Yd.add rfl rfl (by first | omega | exact idx_u8' _ | (simp only [Int.toNat_natCast]; omega) | (simp only [List.length_map, List.length_drop, List.length_take, List.length_append, List.length_replicate]; omega) | (simp <;> omega))) rfl ?_
      refine J.op (Yd.move rfl) rfl ?_
      refine J.nil ?_
      refine J.n_then ?_
      exact J.round (k + 1) ⟨rfl, rfl, rfl, rfl, trivial⟩ (⟨by omega, c18_15, c14_13, c16_14, Cel.eq c4_16 (by rw [Int.toNat_natCast, fillU_get _ _ _ _ _ (Nat.le_refl _)]; exact congrArg (fun l => [(0, 64, List.map (fun x : UInt8 => B x) l)]) (fillU_set (padF 54 (key64 key)) _ k)), Cel.eq c5_17 (by rw [Int.toNat_natCast, fillU_get _ _ _ _ _ (Nat.le_refl _)]; exact congrArg (fun l => [(0, 64, List.map (fun x : UInt8 => B x) l)]) (fillU_set (padF 92 (key64 key)) _ k)), e0⟩) (by omega)
    · skip
      refine J.exit ?_
      refine J.x_then ?_
      refine J.x_then ?_
      refine J.x_block ?_
      refine J.n_then ?_
      refine J.seq ?_
      refine J.regionO [(0, true), (1, true), (2, true), (4, true), (3, false), (5, false)] [] [] mix (by kernel_rfl) ?_
      refine J.s_op rfl (fun _ => Yd.move rfl) rfl ?_
      refine J.s_op rfl (fun _ => Yd.nilCheck rfl) rfl ?_
      refine J.s_op rfl (fun _ => Yd.cast (Yd.fieldA Try.underlying64 rfl ti58 rfl rfl) (show _ = Value.pointer (some ⟨b18_15, 0, none⟩) from rfl)) rfl ?_
      refine J.s_op rfl (fun _ => Yd.sliceA Try.underlying65 ti5 rfl) rfl ?_
      refine J.s_one rfl (Yd.load pl58 rfl (Cel.cell1 c18_15 0 rfl)) rfl ?_
      refine J.s_eff rfl (Ye.call cl37 rfl (Add_ok (Cel.eq c14_13 hseg_nil.symm) (show Ob 0 5 _ nilS (restL []) from Ow.nil _ _ _) Ap.nil_r (fun w' ht => Cel.bs (Cel.tnk c4_16 ht (ApL.one (Ap.symm ap_b14_13_b4_16))) 0 rfl (l := 0) (k := 64) (by omega) (by omega) (by decide)) (by first | omega | (simp only [List.length_append, List.flatten_cons, List.flatten_nil, List.append_nil, padL_len, sha256L_len, macL_len, List.length_nil, List.length_cons, Int.toNat_natCast]; omega) | (simp <;> omega)) (by first | omega | (simp only [List.length_append, List.flatten_cons, List.flatten_nil, List.append_nil, padL_len, sha256L_len, macL_len, List.length_nil, List.length_cons, Int.toNat_natCast]; omega) | (simp <;> omega)))) rfl ?_
      rintro _ w23 ⟨s43_23, rfl, cX2, os43_23, x1⟩
      have ap_b18_15_s43_23 : Ap (some b18_15) s43_23.ownBlock := Ap.mk (Cel.live c18_15) (Ow.fr os43_23)
      have ap_b14_13_s43_23 : Ap (some b14_13) s43_23.ownBlock := Ap.mk (Cel.live c14_13) (Ow.fr os43_23)
      have ap_b16_14_s43_23 : Ap (some b16_14) s43_23.ownBlock := Ap.mk (Cel.live c16_14) (Ow.fr os43_23)
      have ap_b4_16_s43_23 : Ap (some b4_16) s43_23.ownBlock := Ap.mk (Cel.live c4_16) (Ow.fr os43_23)
      have ap_b5_17_s43_23 : Ap (some b5_17) s43_23.ownBlock := Ap.mk (Cel.live c5_17) (Ow.fr os43_23)
      have fr_s43_23 : Fr w.heap.size s43_23.ownBlock := Fr.le (Ow.fr os43_23) e0.size
      replace os43_23 := Ow.base os43_23 e0.size
      have c18_15 := Cel.tnk c18_15 x1 (ApL.one (Ap.symm ap_b14_13_b18_15))
      have c16_14 := Cel.tnk c16_14 x1 (ApL.one (Ap.symm ap_b14_13_b16_14))
      have c4_16 := Cel.tnk c4_16 x1 (ApL.one (Ap.symm ap_b14_13_b4_16))
      have c5_17 := Cel.tnk c5_17 x1 (ApL.one (Ap.symm ap_b14_13_b5_17))
      have e0 := Ext.tnk e0 (fun q hq => by simp only [List.mem_singleton] at hq; subst hq; exact fr_b14_13) x1
      clear x1
      replace c14_13 := cX2
      clear cX2
      refine J.s_nil ?_
      refine J.o_nil ?_
      refine J.s_nil ?_
      refine J.n_np ?_
      refine J.n_then ?_
      refine J.seq ?_
      refine J.regionO [(0, true), (1, true), (2, true), (4, true), (3, false), (5, false)] [] [] mix (by kernel_rfl) ?_
      refine J.s_op rfl (fun _ => Yd.move rfl) rfl ?_
      refine J.s_op rfl (fun _ => Yd.nilCheck rfl) rfl ?_
      refine J.s_op rfl (fun _ => Yd.cast (Yd.fieldA Try.underlying64 rfl ti58 rfl rfl) (show _ = Value.pointer (some ⟨b18_15, 1, none⟩) from rfl)) rfl ?_
      refine J.s_op rfl (fun _ => Yd.sliceA Try.underlying65 ti5 rfl) rfl ?_
      refine J.s_one rfl (Yd.load pl58 rfl (Cel.cell1 c18_15 1 rfl)) rfl ?_
      refine J.s_eff rfl (Ye.call cl37 rfl (Add_ok (Cel.eq c16_14 hseg_nil.symm) (show Ob 0 5 _ nilS (restL []) from Ow.nil _ _ _) Ap.nil_r (fun w' ht => Cel.bs (Cel.tnk c5_17 ht (ApL.one (Ap.symm ap_b16_14_b5_17))) 0 rfl (l := 0) (k := 64) (by omega) (by omega) (by decide)) (by first | omega | (simp only [List.length_append, List.flatten_cons, List.flatten_nil, List.append_nil, padL_len, sha256L_len, macL_len, List.length_nil, List.length_cons, Int.toNat_natCast]; omega) | (simp <;> omega)) (by first | omega | (simp only [List.length_append, List.flatten_cons, List.flatten_nil, List.append_nil, padL_len, sha256L_len, macL_len, List.length_nil, List.length_cons, Int.toNat_natCast]; omega) | (simp <;> omega)))) rfl ?_
      rintro _ w24 ⟨s49_24, rfl, cX2, os49_24, x1⟩
      have ap_b18_15_s49_24 : Ap (some b18_15) s49_24.ownBlock := Ap.mk (Cel.live c18_15) (Ow.fr os49_24)
      have ap_b14_13_s49_24 : Ap (some b14_13) s49_24.ownBlock := Ap.mk (Cel.live c14_13) (Ow.fr os49_24)
      have ap_b16_14_s49_24 : Ap (some b16_14) s49_24.ownBlock := Ap.mk (Cel.live c16_14) (Ow.fr os49_24)
      have ap_b4_16_s49_24 : Ap (some b4_16) s49_24.ownBlock := Ap.mk (Cel.live c4_16) (Ow.fr os49_24)
      have ap_b5_17_s49_24 : Ap (some b5_17) s49_24.ownBlock := Ap.mk (Cel.live c5_17) (Ow.fr os49_24)
      have ap_s43_23_s49_24 : Ap s43_23.ownBlock s49_24.ownBlock := Ap.mk (Ow.live os43_23) (Ow.fr os49_24)
      have fr_s49_24 : Fr w.heap.size s49_24.ownBlock := Fr.le (Ow.fr os49_24) e0.size
      replace os49_24 := Ow.base os49_24 e0.size
      have c18_15 := Cel.tnk c18_15 x1 (ApL.one (Ap.symm ap_b16_14_b18_15))
      have c14_13 := Cel.tnk c14_13 x1 (ApL.one ap_b14_13_b16_14)
      have c4_16 := Cel.tnk c4_16 x1 (ApL.one (Ap.symm ap_b16_14_b4_16))
      have c5_17 := Cel.tnk c5_17 x1 (ApL.one (Ap.symm ap_b16_14_b5_17))
      have os43_23 := Ow.tnk os43_23 x1 (ApL.one (Ap.symm ap_b16_14_s43_23))
      have e0 := Ext.tnk e0 (fun q hq => by simp only [List.mem_singleton] at hq; subst hq; exact fr_b16_14) x1
      clear x1
      replace c16_14 := cX2
      clear cX2
      refine J.s_nil ?_
      refine J.o_nil ?_
      refine J.s_nil ?_
      refine J.n_np ?_
      refine J.n_then ?_
      refine J.seq ?_
      refine J.region ?_
      refine J.op (Yd.move rfl) rfl ?_
      refine J.op (Yd.assign rfl) rfl ?_
      refine J.nil ?_
      refine J.n_then ?_
      refine J.ret ?_
      exact J.ret1 rfl rfl (⟨_, rfl, b18_15, rfl, ⟨b14_13, s43_23, b16_14, s49_24, c18_15, (by have h9 := c14_13; rw [pad_in 54 key (key64 key) (key64_len key) k (by omega)] at h9; exact h9), (by have h9 := os43_23; rw [pad_in 54 key (key64 key) (key64_len key) k (by omega)] at h9; exact Ow.base h9 (Nat.zero_le _)), ap_b14_13_s43_23, (by have h9 := c16_14; rw [pad_in 92 key (List.replicate 64 0) (by simp) k (by omega)] at h9; exact h9), (by have h9 := os49_24; rw [pad_in 92 key (List.replicate 64 0) (by simp) k (by omega)] at h9; exact Ow.base h9 (Nat.zero_le _)), ap_b16_14_s49_24⟩, e0⟩)
end Ytpkpicnldpbomaa
end Go.Proofs
