import Derived.Test.YtpkpicnldpbomaaT
import Derived.Test.YtpkpicnldpbomaaQc
import Derived.Test.YtpkpicnldpbomaaM5
import Derived.Test.YtpkpicnldpbomaaA9
set_option linter.unusedVariables false
set_option linter.unusedSimpArgs false
set_option maxRecDepth 100000
set_option maxHeartbeats 4000000
namespace Go.Proofs
open Go.X Go.RowKit
namespace Ytpkpicnldpbomaa
theorem CryptO_ok {a v u : Value} {key nonce l : List UInt8} {w : World} (hk : Bs w a key) (ho : Bs w v nonce) (hb : Bs w u l) : C Try.prog 25 [a, v, u] w (Ret fun z w' => ∃ s, z = .tuple #[s, I (cryE key nonce l)] ∧ Ob w.heap.size 5 w' s (cryL key nonce l) ∧ Ext w w') := by
  have e0 := Ext.refl w
  refine C.enter Try.func25 rfl Try.ntmps25 rfl ?_
  refine J.seq ?_
  refine J.region ?_
  refine J.op (Yd.assign rfl) rfl ?_
  refine J.op (Yd.assign rfl) rfl ?_
  refine J.nil ?_
  refine J.n_then ?_
  refine J.seq ?_
  refine J.region ?_
  refine J.op (Yd.move rfl) rfl ?_
  refine J.op (Yd.move rfl) rfl ?_
  refine J.op (Yd.move rfl) rfl ?_
  refine J.op (Yd.len_b Try.underlying22 rfl hb) rfl ?_
  refine J.eff (Ye.call cl38 rfl (Stream_ok hk ho)) rfl ?_
  rintro _ w1 ⟨s15_1, rfl, rs15_1, x1⟩
  have e0 := e0.trans x1
  clear x1
  refine J.op (Yd.move rfl) rfl ?_
  refine J.op (Yd.extract rfl rfl) rfl ?_
  refine J.op (Yd.extract rfl rfl) rfl ?_
  refine J.op (Yd.assign rfl) rfl ?_
  refine J.op (Yd.assign rfl) rfl ?_
  refine J.nil ?_
  refine J.n_then ?_
  refine J.seq ?_
  refine J.seq ?_
  refine J.region ?_
  refine J.op (Yd.move rfl) rfl ?_
  refine J.op (Yd.neq rfl rfl) rfl ?_
  refine J.nil ?_
  refine J.n_then ?_
  refine J.cond_dec rfl (fun hc0 => ?_) (fun hc0 => ?_)
  · skip
    refine J.seq ?_
    refine J.region ?_
    refine J.op (Yd.move rfl) rfl ?_
    refine J.op (Yd.assign rfl) rfl ?_
    refine J.op (Yd.assign rfl) rfl ?_
    refine J.nil ?_
    refine J.n_then ?_
    refine J.ret ?_
    refine J.r_then ?_
    exact J.ret2 rfl rfl rfl (⟨_, rfl, nilS, rfl, by rw [cry_no hc0]; exact Ow.nil _ _ _, e0⟩)
  · skip
    have hsz := strE_zero (Classical.not_not.1 hc0)
    refine J.skip ?_
    refine J.n_then ?_
    refine J.seq ?_
    refine J.region ?_
    refine J.op (Yd.move rfl) rfl ?_
    refine J.op (Yd.move rfl) rfl ?_
    refine J.eff (Ye.call cl39 rfl (Xor_ok (Rd.ext hb e0) rs15_1 (by first | omega | (simp [xorL_len] <;> omega)))) rfl ?_
    rintro s23_2 w2 ⟨os23_2, x1⟩
    have fr_s23_2 : Fr w.heap.size s23_2.ownBlock := Fr.le (Ow.fr os23_2) e0.size
    replace os23_2 := Ow.base os23_2 e0.size
    have e0 := e0.trans x1
    have rs15_1 := rs15_1.ext x1
    clear x1
    refine J.op (Yd.assign rfl) rfl ?_
    refine J.op (Yd.assign rfl) rfl ?_
    refine J.nil ?_
    refine J.n_then ?_
    refine J.ret ?_
    exact J.ret2 rfl rfl rfl (⟨_, rfl, _, by rw [cryE, Classical.not_not.1 hc0]; try rfl, by have h9 := os23_2; rw [cry_fin (Classical.not_not.1 hc0)] at h9; exact h9, e0⟩)

theorem NewBox_yes {a : Value} {key : List UInt8} {w : World} (hk : Bs w a key) (hl : key.length = 32) : C Try.prog 12 [a] w (Ret fun z w' => ∃ b, z = .tuple #[.pointer (some ⟨b, 0, none⟩), I 0] ∧ BoxP 46 64 62 5 w' b key ∧ Ext w w') := by
  have hsq : (exQ (macL [] key) [115, 101, 97, 108] 64).length = 64 := skQ_len key
  have e0 := Ext.refl w
  refine C.enter Try.func12 rfl Try.ntmps12 rfl ?_
  refine J.seq ?_
  refine J.region ?_
  refine J.op (Yd.assign rfl) rfl ?_
  refine J.op (Yd.assign rfl) rfl ?_
  refine J.nil ?_
  refine J.n_then ?_
  refine J.seq ?_
  refine J.seq ?_
  refine J.region ?_
  refine J.op (Yd.move rfl) rfl ?_
  refine J.op (Yd.len_b Try.underlying22 rfl hk) rfl ?_
  refine J.op (Yd.neq rfl rfl) rfl ?_
  refine J.nil ?_
  refine J.n_then ?_
  refine J.know (t := 7) (v' := .bool false) rfl (ff (by omega)) ?_
  refine J.cond_false rfl ?_
  refine J.skip ?_
  refine J.n_then ?_
  refine J.seq ?_
  refine J.region ?_
  refine J.op (Yd.move rfl) rfl ?_
  refine J.eff (Ye.litM (base := w.heap.size) (f := fun x : UInt8 => B x) ([115, 101, 97, 108] : List UInt8) Try.underlying22 ti5 rfl rfl rfl rfl (fun _ => rfl) rfl (Nat.le_refl _)) rfl ?_
  rintro s9_1 w1 ⟨o9_1, x1⟩
  have fr_s9_1 : Fr w.heap.size s9_1.ownBlock := Fr.le (Ow.fr o9_1) e0.size
  replace o9_1 := Ow.base o9_1 e0.size
  have e0 := e0.trans x1
  clear x1
  refine J.eff (Ye.mark Try.underlying22 Try.underlying22 (by decide) Try.underlying5 rfl o9_1 (by decide)) rfl ?_
  rintro u_ w2 ⟨hu_, r10_2, hg⟩
  rw [hu_]; clear hu_
  have e0 := Ext.gbk e0 fr_s9_1 hg
  clear hg
  refine J.eff (Ye.call cl22 rfl (Derive_ok (Rd.nilM (fun x : UInt8 => B x) _) (Rd.ext hk e0) r10_2.rd (by first | omega | (simp only [List.length_append, List.flatten_cons, List.flatten_nil, List.append_nil, padL_len, sha256L_len, macL_len, List.length_nil, List.length_cons, Int.toNat_natCast]; omega) | (simp <;> omega)) (by first | omega | (simp only [List.length_append, List.flatten_cons, List.flatten_nil, List.append_nil, padL_len, sha256L_len, macL_len, List.length_nil, List.length_cons, Int.toNat_natCast]; omega) | (simp <;> omega)) (by first | omega | (simp only [List.length_append, List.flatten_cons, List.flatten_nil, List.append_nil, padL_len, sha256L_len, macL_len, List.length_nil, List.length_cons, Int.toNat_natCast]; omega) | (simp <;> omega)))) rfl ?_
  rintro s11_3 w3 ⟨rs11_3, x1⟩
  have e0 := e0.trans x1
  have r10_2 := r10_2.ext x1
  clear x1
  refine J.op (Yd.assign rfl) rfl ?_
  refine J.nil ?_
  refine J.n_then ?_
  refine J.seq ?_
  refine J.regionO [(0, true), (2, true)] [(1, 1), (3, 1), (4, 0)] [(5, false), (6, false), (7, true), (8, true)] mix (by kernel_rfl) ?_
  refine J.s_op rfl (fun _ => Yd.move rfl) rfl ?_
  refine J.s_op rfl (fun _ => Yd.move rfl) rfl ?_
  refine J.s_nil ?_
  refine J.o_op rfl (Yd.slcH Try.underlying22 ti5 rfl rs11_3 rfl (by first | omega | assumption | (simp only [List.length_append, List.length_map, List.flatten_cons, List.flatten_nil, List.append_nil, List.length_drop, List.length_take, List.length_replicate, beN_len, macL_len, tagL_len, skQ_len, hsq, Int.toNat_natCast, List.length_nil, List.length_cons] <;> omega) | (simp [skQ_len] <;> omega))) rfl ?_
  refine J.o_op rfl (Yd.slcL Try.underlying22 ti5 rfl rs11_3 rfl (by first | omega | assumption | (simp only [List.length_append, List.length_map, List.flatten_cons, List.flatten_nil, List.append_nil, List.length_drop, List.length_take, List.length_replicate, beN_len, macL_len, tagL_len, skQ_len, hsq, Int.toNat_natCast, List.length_nil, List.length_cons] <;> omega) | (simp [skQ_len] <;> omega))) rfl ?_
  refine J.o_eff rfl (Ye.call cl23 rfl (NewKey_ok (Bs.slc rs11_3 (by first | omega | assumption | (simp only [List.length_append, List.length_map, List.flatten_cons, List.flatten_nil, List.append_nil, List.length_drop, List.length_take, List.length_replicate, beN_len, macL_len, tagL_len, skQ_len, hsq, Int.toNat_natCast, List.length_nil, List.length_cons] <;> omega) | (simp [skQ_len] <;> omega)) (by first | omega | assumption | (simp only [List.length_append, List.length_map, List.flatten_cons, List.flatten_nil, List.append_nil, List.length_drop, List.length_take, List.length_replicate, beN_len, macL_len, tagL_len, skQ_len, hsq, Int.toNat_natCast, List.length_nil, List.length_cons] <;> omega) | (simp [skQ_len] <;> omega))) (by simp only [List.length_drop, List.length_take, List.length_map, hsq] <;> omega))) rfl (fun _ _ ⟨_, _, _, h⟩ => h) ?_
  rintro _ w4 ⟨b16_4, rfl, kb16_4, x1⟩
  have e0 := e0.trans x1
  have r10_2 := r10_2.ext x1
  have rs11_3 := rs11_3.ext x1
  clear x1
  refine J.o_nil ?_
  have hcS : (slc s11_3 0 (32 : Int).toNat).cells = #[(slc s11_3 0 (32 : Int).toNat)] := Rd.cells (Bs.slc rs11_3 (by first | omega | assumption | (simp only [List.length_append, List.length_map, List.flatten_cons, List.flatten_nil, List.append_nil, List.length_drop, List.length_take, List.length_replicate, beN_len, macL_len, tagL_len, skQ_len, hsq, Int.toNat_natCast, List.length_nil, List.length_cons] <;> omega) | (simp [skQ_len] <;> omega)) (by first | omega | assumption | (simp only [List.length_append, List.length_map, List.flatten_cons, List.flatten_nil, List.append_nil, List.length_drop, List.length_take, List.length_replicate, beN_len, macL_len, tagL_len, skQ_len, hsq, Int.toNat_natCast, List.length_nil, List.length_cons] <;> omega) | (simp [skQ_len] <;> omega)))
  have hcT : (slc s11_3 0 32).cells = #[(slc s11_3 0 32)] := hcS
  refine J.s_one rfl (Yd.buildV (pl := [(0, 1), (1, 1)]) Try.underlying46 (by kernel_rfl) ti46 rfl rfl (by simp [OffOK, cells_agg, cells_ptr, hcS, hcT]) (by simp [catV, cells_agg, cells_ptr, hcS, hcT])) rfl ?_
  refine J.s_eff rfl (Ye.box (S := [(0, 1, [slc s11_3 0 (32 : Int).toNat]), (1, 1, [.pointer (some ⟨b16_4, 0, none⟩)])]) rfl (by simp [SegAll, SegOK, catV, cells_agg, cells_ptr, hcS, hcT])) rfl ?_
  rintro _ w5 ⟨b18_4, rfl, hb_, c18_4, x1⟩
  have ap_s9_1_b18_4 : Ap s9_1.ownBlock (some b18_4) := Ap.mk r10_2.live (Fr.blk hb_)
  have fr_b18_4 : Fr w.heap.size (some b18_4) := Fr.le (Fr.blk hb_) e0.size
  have e0 := e0.trans x1
  have r10_2 := r10_2.ext x1
  have rs11_3 := rs11_3.ext x1
  have kb16_4 := kb16_4.ext x1
  clear x1 hb_
  refine J.s_op rfl (fun _ => Yd.assign rfl) rfl ?_
  refine J.s_op rfl (fun _ => Yd.assign rfl) rfl ?_
  refine J.s_nil ?_
  refine J.n_np ?_
  refine J.n_then ?_
  refine J.ret ?_
  exact J.ret2 rfl rfl rfl (⟨_, rfl, b18_4, rfl, ⟨_, b16_4, c18_4, (by have h9 : Bs _ (slc s11_3 0 (32 : Int).toNat) _ := (Bs.slc rs11_3 (by first | omega | assumption | (simp only [List.length_append, List.length_map, List.flatten_cons, List.flatten_nil, List.append_nil, List.length_drop, List.length_take, List.length_replicate, beN_len, macL_len, tagL_len, skQ_len, hsq, Int.toNat_natCast, List.length_nil, List.length_cons] <;> omega) | (simp [skQ_len] <;> omega)) (by first | omega | assumption | (simp only [List.length_append, List.length_map, List.flatten_cons, List.flatten_nil, List.append_nil, List.length_drop, List.length_take, List.length_replicate, beN_len, macL_len, tagL_len, skQ_len, hsq, Int.toNat_natCast, List.length_nil, List.length_cons] <;> omega) | (simp [skQ_len] <;> omega))); rw [List.drop_zero] at h9; exact h9), (by have h9 := kb16_4; rw [List.take_of_length_le (by rw [List.length_map]; omega)] at h9; exact h9)⟩, e0⟩)

theorem NewBox_no {a : Value} {key : List UInt8} {w : World} (hk : Bs w a key) (hl : key.length ≠ 32) : C Try.prog 12 [a] w (Ret fun v w' => v = .tuple #[.pointer none, I 1] ∧ Ext w w') := by
  have e0 := Ext.refl w
  refine C.enter Try.func12 rfl Try.ntmps12 rfl ?_
  refine J.seq ?_
  refine J.region ?_
  refine J.op (Yd.assign rfl) rfl ?_
  refine J.op (Yd.assign rfl) rfl ?_
  refine J.nil ?_
  refine J.n_then ?_
  refine J.seq ?_
  refine J.seq ?_
  refine J.region ?_
  refine J.op (Yd.move rfl) rfl ?_
  refine J.op (Yd.len_b Try.underlying22 rfl hk) rfl ?_
  refine J.op (Yd.neq rfl rfl) rfl ?_
  refine J.nil ?_
  refine J.n_then ?_
  refine J.know (t := 7) (v' := .bool true) rfl (tt (by omega)) ?_
  refine J.cond_true rfl ?_
  refine J.seq ?_
  refine J.region ?_
  refine J.op (Yd.assign rfl) rfl ?_
  refine J.op (Yd.assign rfl) rfl ?_
  refine J.nil ?_
  refine J.n_then ?_
  refine J.ret ?_
  refine J.r_then ?_
  exact J.ret2 rfl rfl rfl (⟨_, rfl, rfl, e0⟩)
end Ytpkpicnldpbomaa
end Go.Proofs
