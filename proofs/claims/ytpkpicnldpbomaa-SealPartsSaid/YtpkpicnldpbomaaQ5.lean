import Derived.Test.YtpkpicnldpbomaaT
import Derived.Test.YtpkpicnldpbomaaQ4
set_option linter.unusedVariables false
set_option linter.unusedSimpArgs false
set_option maxRecDepth 100000
set_option maxHeartbeats 4000000
namespace Go.Proofs
open Go.X Go.RowKit
namespace Ytpkpicnldpbomaa
theorem RSeal_ok {a u v z : Value} {key nonce data text : List UInt8} {w : World} (hk : Bs w a key) (ho : Bs w u nonce) (hd : Bs w v data) (ht : Bs w z text) (hx1 : key.length ≤ 1000000) (hx2 : nonce.length ≤ 1000000) : C Try.prog 9 [a, u, v, z] w (Ret fun x w' => ∃ s, x = .tuple #[s, I (sealE key nonce data text)] ∧ Bs w' s (sealL key nonce data text) ∧ Ext w w') := by
  have hsq : (exQ (macL [] key) [115, 101, 97, 108] 64).length = 64 := skQ_len key
  have hLQ : List.take (List.map (fun x : UInt8 => B x) (skQ key)).length (skQ key) = skQ key := List.take_of_length_le (by rw [List.length_map]; exact Nat.le_refl _)
  have e0 := Ext.refl w
  refine C.enter Try.func9 rfl Try.ntmps9 rfl ?_
  refine J.seq ?_
  refine J.region ?_
  refine J.op (Yd.assign rfl) rfl ?_
  refine J.op (Yd.assign rfl) rfl ?_
  refine J.nil ?_
  refine J.n_then ?_
  refine J.seq ?_
  refine J.seq ?_
  refine J.region ?_
  refine J.op (Yd.move rfl) rfl ?_
  refine J.op (Yd.len_b Try.underlying22 rfl hk) rfl ?_
  refine J.op (Yd.neq rfl rfl) rfl ?_
  refine J.op (Yd.move rfl) rfl ?_
  refine J.split_dec (t := 17) rfl (fun h1 => ?_) (fun h1 => ?_)
  · skip
    refine J.not_g rfl rfl rfl rfl rfl ?_
    refine J.not_g rfl rfl rfl rfl rfl ?_
    refine J.not_g rfl rfl rfl rfl rfl ?_
    refine J.op (Yd.pick_t rfl rfl) rfl ?_
    refine J.nil ?_
    refine J.n_then ?_
    refine J.cond_true rfl ?_
    refine J.seq ?_
    refine J.region ?_
    refine J.op (Yd.assign rfl) rfl ?_
    refine J.op (Yd.assign rfl) rfl ?_
    refine J.nil ?_
    refine J.n_then ?_
    refine J.ret ?_
    refine J.r_then ?_
    exact J.ret2 rfl rfl rfl (⟨_, rfl, nilS, (by first | (rw [sealE_arg (by omega)]; done) | (rw [sealE_arg (by omega)]; rfl) | (rw [sealE_big (by omega) (by omega) (by omega)]; done) | (rw [sealE_big (by omega) (by omega) (by omega)]; rfl)), (by rw [sealL_no (by first | (rw [sealE_arg (by omega)]; decide) | (rw [sealE_big (by omega) (by omega) (by omega)]; decide))]; exact Rd.nilM _ _), e0⟩)
  · skip
    refine J.op_g rfl rfl rfl (Yd.move rfl) rfl ?_
    refine J.op_g rfl rfl rfl (Yd.len_b Try.underlying22 rfl ho) rfl ?_
    refine J.op_g rfl rfl rfl (Yd.neq rfl rfl) rfl ?_
    refine J.op (Yd.pick_f rfl rfl) rfl ?_
    refine J.nil ?_
    refine J.n_then ?_
    refine J.cond_dec rfl (fun hc0 => ?_) (fun hc0 => ?_)
    · skip
      refine J.seq ?_
      refine J.region ?_
      refine J.op (Yd.assign rfl) rfl ?_
      refine J.op (Yd.assign rfl) rfl ?_
      refine J.nil ?_
      refine J.n_then ?_
      refine J.ret ?_
      refine J.r_then ?_
      exact J.ret2 rfl rfl rfl (⟨_, rfl, nilS, (by first | (rw [sealE_arg (by omega)]; done) | (rw [sealE_arg (by omega)]; rfl) | (rw [sealE_big (by omega) (by omega) (by omega)]; done) | (rw [sealE_big (by omega) (by omega) (by omega)]; rfl)), (by rw [sealL_no (by first | (rw [sealE_arg (by omega)]; decide) | (rw [sealE_big (by omega) (by omega) (by omega)]; decide))]; exact Rd.nilM _ _), e0⟩)
    · skip
      refine J.skip ?_
      refine J.n_then ?_
      refine J.seq ?_
      refine J.seq ?_
      refine J.region ?_
      refine J.op (Yd.move rfl) rfl ?_
      refine J.op (Yd.len_b Try.underlying22 rfl ht) rfl ?_
      refine J.op (Yd.gtr rfl rfl) rfl ?_
      refine J.op (Yd.move rfl) rfl ?_
      refine J.split_dec (t := 25) rfl (fun h2 => ?_) (fun h2 => ?_)
      · skip
        refine J.not_g rfl rfl rfl rfl rfl ?_
        refine J.not_g rfl rfl rfl rfl rfl ?_
        refine J.not_g rfl rfl rfl rfl rfl ?_
        refine J.op (Yd.pick_t rfl rfl) rfl ?_
        refine J.nil ?_
        refine J.n_then ?_
        refine J.cond_true rfl ?_
        refine J.seq ?_
        refine J.region ?_
        refine J.op (Yd.assign rfl) rfl ?_
        refine J.op (Yd.assign rfl) rfl ?_
        refine J.nil ?_
        refine J.n_then ?_
        refine J.ret ?_
        refine J.r_then ?_
        exact J.ret2 rfl rfl rfl (⟨_, rfl, nilS, (by first | (rw [sealE_arg (by omega)]; done) | (rw [sealE_arg (by omega)]; rfl) | (rw [sealE_big (by omega) (by omega) (by omega)]; done) | (rw [sealE_big (by omega) (by omega) (by omega)]; rfl)), (by rw [sealL_no (by first | (rw [sealE_arg (by omega)]; decide) | (rw [sealE_big (by omega) (by omega) (by omega)]; decide))]; exact Rd.nilM _ _), e0⟩)
      · skip
        refine J.op_g rfl rfl rfl (Yd.move rfl) rfl ?_
        refine J.op_g rfl rfl rfl (Yd.len_b Try.underlying22 rfl hd) rfl ?_
        refine J.op_g rfl rfl rfl (Yd.gtr rfl rfl) rfl ?_
        refine J.op (Yd.pick_f rfl rfl) rfl ?_
        refine J.nil ?_
        refine J.n_then ?_
        refine J.cond_dec rfl (fun hc1 => ?_) (fun hc1 => ?_)
        · skip
          refine J.seq ?_
          refine J.region ?_
          refine J.op (Yd.assign rfl) rfl ?_
          refine J.op (Yd.assign rfl) rfl ?_
          refine J.nil ?_
          refine J.n_then ?_
          refine J.ret ?_
          refine J.r_then ?_
          exact J.ret2 rfl rfl rfl (⟨_, rfl, nilS, (by first | (rw [sealE_arg (by omega)]; done) | (rw [sealE_arg (by omega)]; rfl) | (rw [sealE_big (by omega) (by omega) (by omega)]; done) | (rw [sealE_big (by omega) (by omega) (by omega)]; rfl)), (by rw [sealL_no (by first | (rw [sealE_arg (by omega)]; decide) | (rw [sealE_big (by omega) (by omega) (by omega)]; decide))]; exact Rd.nilM _ _), e0⟩)
        · skip
          refine J.skip ?_
          refine J.n_then ?_
          refine J.seq ?_
          refine J.region ?_
          refine J.op (Yd.move rfl) rfl ?_
          refine J.eff (Ye.litM (base := w.heap.size) (f := fun x : UInt8 => B x) ([115, 101, 97, 108] : List UInt8) Try.underlying22 ti5 rfl rfl rfl rfl (fun _ => rfl) rfl (Nat.le_refl _)) rfl ?_
          rintro s31_1 w1 ⟨o31_1, x1⟩
          have fr_s31_1 : Fr w.heap.size s31_1.ownBlock := Fr.le (Ow.fr o31_1) e0.size
          replace o31_1 := Ow.base o31_1 e0.size
          have e0 := e0.trans x1
          clear x1
          refine J.eff (Ye.mark Try.underlying22 Try.underlying22 (by decide) Try.underlying5 rfl o31_1 (by decide)) rfl ?_
          rintro u_ w2 ⟨hu_, r32_2, hg⟩
          rw [hu_]; clear hu_
          have e0 := Ext.gbk e0 fr_s31_1 hg
          clear hg
          refine J.eff (Ye.call cl16 rfl (RDerive_ok (Rd.nilM (fun x : UInt8 => B x) _) (Rd.ext hk e0) r32_2.rd (by first | omega | (simp only [List.length_append, List.flatten_cons, List.flatten_nil, List.append_nil, padL_len, sha256L_len, macL_len, List.length_nil, List.length_cons, Int.toNat_natCast]; omega) | (simp <;> omega)) (by first | omega | (simp only [List.length_append, List.flatten_cons, List.flatten_nil, List.append_nil, padL_len, sha256L_len, macL_len, List.length_nil, List.length_cons, Int.toNat_natCast]; omega) | (simp <;> omega)) (by first | omega | (simp only [List.length_append, List.flatten_cons, List.flatten_nil, List.append_nil, padL_len, sha256L_len, macL_len, List.length_nil, List.length_cons, Int.toNat_natCast]; omega) | (simp <;> omega)))) rfl ?_
          rintro s33_3 w3 ⟨rs33_3, x1⟩
          have e0 := e0.trans x1
          have r32_2 := r32_2.ext x1
          clear x1
          refine J.op (Yd.assign rfl) rfl ?_
          refine J.nil ?_
          refine J.n_then ?_
          refine J.seq ?_
          refine J.region ?_
          refine J.op (Yd.move rfl) rfl ?_
          refine J.op (Yd.slcH Try.underlying22 ti5 rfl rs33_3 rfl (by first | omega | assumption | (simp only [List.length_append, List.length_map, List.flatten_cons, List.flatten_nil, List.append_nil, List.length_drop, List.length_take, List.length_replicate, beN_len, macL_len, tagL_len, skQ_len, hsq, xorL_len, Int.toNat_natCast, List.length_nil, List.length_cons] <;> omega) | (simp [skQ_len] <;> omega))) rfl ?_
          refine J.op (Yd.move rfl) rfl ?_
          refine J.op (Yd.move rfl) rfl ?_
          refine J.op (Yd.len_b Try.underlying22 rfl (Rd.ext ht e0)) rfl ?_
          refine J.eff (Ye.call cl17 rfl (RStream_ok (Bs.slc rs33_3 (by first | omega | assumption | (simp only [List.length_append, List.length_map, List.flatten_cons, List.flatten_nil, List.append_nil, List.length_drop, List.length_take, List.length_replicate, beN_len, macL_len, tagL_len, skQ_len, hsq, xorL_len, Int.toNat_natCast, List.length_nil, List.length_cons] <;> omega) | (simp [skQ_len] <;> omega)) (by first | omega | assumption | (simp only [List.length_append, List.length_map, List.flatten_cons, List.flatten_nil, List.append_nil, List.length_drop, List.length_take, List.length_replicate, beN_len, macL_len, tagL_len, skQ_len, hsq, xorL_len, Int.toNat_natCast, List.length_nil, List.length_cons] <;> omega) | (simp [skQ_len] <;> omega))) (Rd.ext ho e0))) rfl ?_
          rintro _ w4 ⟨s40_4, rfl, rs40_4, x1⟩
          have e0 := e0.trans x1
          have r32_2 := r32_2.ext x1
          have rs33_3 := rs33_3.ext x1
          clear x1
          refine J.op (Yd.move rfl) rfl ?_
          refine J.op (Yd.extract rfl rfl) rfl ?_
          refine J.op (Yd.extract rfl rfl) rfl ?_
          refine J.op (Yd.assign rfl) rfl ?_
          refine J.op (Yd.assign rfl) rfl ?_
          refine J.nil ?_
          refine J.n_then ?_
          refine J.seq ?_
          refine J.region ?_
          refine J.op (Yd.move rfl) rfl ?_
          refine J.op (Yd.move rfl) rfl ?_
          refine J.eff (Ye.call cl18 rfl (RXor_ok (Rd.ext ht e0) rs40_4 (by first | omega | assumption | (simp only [List.length_append, List.length_map, List.flatten_cons, List.flatten_nil, List.append_nil, List.length_drop, List.length_take, List.length_replicate, beN_len, macL_len, tagL_len, skQ_len, Int.toNat_natCast, List.length_nil, List.length_cons] <;> omega) | (simp [skQ_len] <;> omega)))) rfl ?_
          rintro s45_5 w5 ⟨os45_5, x1⟩
          have ap_s31_1_s45_5 : Ap s31_1.ownBlock s45_5.ownBlock := Ap.mk r32_2.live (Ow.fr os45_5)
          have fr_s45_5 : Fr w.heap.size s45_5.ownBlock := Fr.le (Ow.fr os45_5) e0.size
          replace os45_5 := Ow.base os45_5 e0.size
          have e0 := e0.trans x1
          have r32_2 := r32_2.ext x1
          have rs33_3 := rs33_3.ext x1
          have rs40_4 := rs40_4.ext x1
          clear x1
          refine J.op (Yd.assign rfl) rfl ?_
          refine J.nil ?_
          refine J.n_then ?_
          refine J.seq ?_
          refine J.regionO [(0, true), (1, true), (3, true), (4, true), (8, true), (9, true)] [(2, 1), (5, 1), (6, 1), (7, 0), (10, 0), (11, 0)] [(12, false), (13, false), (14, false), (15, true), (16, true)] mix (by kernel_rfl) ?_
          refine J.s_op rfl (fun _ => Yd.move rfl) rfl ?_
          refine J.s_op rfl (fun _ => Yd.move rfl) rfl ?_
          refine J.s_op rfl (fun _ => Yd.move rfl) rfl ?_
          refine J.s_op rfl (fun _ => Yd.move rfl) rfl ?_
          refine J.s_op rfl (fun _ => Yd.move rfl) rfl ?_
          refine J.s_op rfl (fun _ => Yd.move rfl) rfl ?_
          refine J.s_nil ?_
          refine J.o_op rfl (Yd.slcL Try.underlying22 ti5 rfl rs33_3 rfl (by first | omega | assumption | (simp only [List.length_append, List.length_map, List.flatten_cons, List.flatten_nil, List.append_nil, List.length_drop, List.length_take, List.length_replicate, beN_len, macL_len, tagL_len, skQ_len, hsq, xorL_len, Int.toNat_natCast, List.length_nil, List.length_cons] <;> omega) | (simp [skQ_len] <;> omega))) rfl ?_
          refine J.o_op rfl (Yd.len_b Try.underlying22 rfl (Rd.ext hd e0)) rfl ?_
          refine J.o_op rfl (Yd.cv_i_64 Try.underlying3 Try.underlying42 rfl (by omega)) rfl ?_
          refine J.o_eff rfl (Ye.call cl21 rfl (RBig_ok (n := 8) (by omega))) rfl (fun _ _ h => h.2) ?_
          rintro s53_6 w6 ⟨os53_6, x1⟩
          have ap_s31_1_s53_6 : Ap s31_1.ownBlock s53_6.ownBlock := Ap.mk r32_2.live (Ow.fr os53_6)
          have ap_s45_5_s53_6 : Ap s45_5.ownBlock s53_6.ownBlock := Ap.mk (Ow.live os45_5) (Ow.fr os53_6)
          have fr_s53_6 : Fr w.heap.size s53_6.ownBlock := Fr.le (Ow.fr os53_6) e0.size
          replace os53_6 := Ow.base os53_6 e0.size
          have e0 := e0.trans x1
          have r32_2 := r32_2.ext x1
          have rs33_3 := rs33_3.ext x1
          have rs40_4 := rs40_4.ext x1
          have os45_5 := os45_5.ext x1
          clear x1
          refine J.o_eff rfl (Ye.litS4 Try.underlying57 ti22 rfl rfl rfl rfl rfl (Rd.ext ho e0) (Ow.rd os53_6) (Rd.ext hd e0) (Ow.rd os45_5)) rfl (fun _ _ h => h.2) ?_
          rintro s56_7 w7 ⟨o56_7, x1⟩
          have e0 := e0.trans x1
          have r32_2 := r32_2.ext x1
          have rs33_3 := rs33_3.ext x1
          have rs40_4 := rs40_4.ext x1
          have os45_5 := os45_5.ext x1
          have os53_6 := os53_6.ext x1
          clear x1
          refine J.o_eff rfl (Ye.call cl20 rfl (RCat_ok o56_7 (by first | omega | assumption | (simp only [List.length_append, List.length_map, List.flatten_cons, List.flatten_nil, List.append_nil, List.length_drop, List.length_take, List.length_replicate, beN_len, macL_len, tagL_len, skQ_len, hsq, xorL_len, Int.toNat_natCast, List.length_nil, List.length_cons] <;> omega) | (simp [skQ_len] <;> omega)))) rfl (fun _ _ h => h.2) ?_
          rintro s57_8 w8 ⟨os57_8, x1⟩
          have ap_s31_1_s57_8 : Ap s31_1.ownBlock s57_8.ownBlock := Ap.mk r32_2.live (Ow.fr os57_8)
          have ap_s45_5_s57_8 : Ap s45_5.ownBlock s57_8.ownBlock := Ap.mk (Ow.live os45_5) (Ow.fr os57_8)
          have ap_s53_6_s57_8 : Ap s53_6.ownBlock s57_8.ownBlock := Ap.mk (Ow.live os53_6) (Ow.fr os57_8)
          have fr_s57_8 : Fr w.heap.size s57_8.ownBlock := Fr.le (Ow.fr os57_8) e0.size
          replace os57_8 := Ow.base os57_8 e0.size
          have e0 := e0.trans x1
          have r32_2 := r32_2.ext x1
          have rs33_3 := rs33_3.ext x1
          have rs40_4 := rs40_4.ext x1
          have os45_5 := os45_5.ext x1
          have os53_6 := os53_6.ext x1
          have o56_7 := o56_7.ext x1
          clear x1
          refine J.o_nil ?_
          refine J.s_eff rfl (Ye.call cl19 rfl (RMac_ok (Bs.slc rs33_3 (by first | omega | assumption | (simp only [List.length_append, List.length_map, List.flatten_cons, List.flatten_nil, List.append_nil, List.length_drop, List.length_take, List.length_replicate, beN_len, macL_len, tagL_len, skQ_len, hsq, xorL_len, Int.toNat_natCast, List.length_nil, List.length_cons] <;> omega) | (simp [skQ_len] <;> omega)) (by first | omega | assumption | (simp only [List.length_append, List.length_map, List.flatten_cons, List.flatten_nil, List.append_nil, List.length_drop, List.length_take, List.length_replicate, beN_len, macL_len, tagL_len, skQ_len, hsq, xorL_len, Int.toNat_natCast, List.length_nil, List.length_cons] <;> omega) | (simp [skQ_len] <;> omega))) (Ow.rd os57_8) (by first | omega | assumption | (simp only [List.length_append, List.length_map, List.flatten_cons, List.flatten_nil, List.append_nil, List.length_drop, List.length_take, List.length_replicate, beN_len, macL_len, tagL_len, skQ_len, hsq, xorL_len, Int.toNat_natCast, List.length_nil, List.length_cons] <;> omega) | (simp [skQ_len] <;> omega)) (by first | omega | assumption | (simp only [List.length_append, List.length_map, List.flatten_cons, List.flatten_nil, List.append_nil, List.length_drop, List.length_take, List.length_replicate, beN_len, macL_len, tagL_len, skQ_len, hsq, xorL_len, Int.toNat_natCast, List.length_nil, List.length_cons] <;> omega) | (simp [skQ_len] <;> omega)))) rfl ?_
          rintro s58_9 w9 ⟨os58_9, x1⟩
          have ap_s31_1_s58_9 : Ap s31_1.ownBlock s58_9.ownBlock := Ap.mk r32_2.live (Ow.fr os58_9)
          have ap_s45_5_s58_9 : Ap s45_5.ownBlock s58_9.ownBlock := Ap.mk (Ow.live os45_5) (Ow.fr os58_9)
          have ap_s53_6_s58_9 : Ap s53_6.ownBlock s58_9.ownBlock := Ap.mk (Ow.live os53_6) (Ow.fr os58_9)
          have ap_s57_8_s58_9 : Ap s57_8.ownBlock s58_9.ownBlock := Ap.mk (Ow.live os57_8) (Ow.fr os58_9)
          have fr_s58_9 : Fr w.heap.size s58_9.ownBlock := Fr.le (Ow.fr os58_9) e0.size
          replace os58_9 := Ow.base os58_9 e0.size
          have e0 := e0.trans x1
          have r32_2 := r32_2.ext x1
          have rs33_3 := rs33_3.ext x1
          have rs40_4 := rs40_4.ext x1
          have os45_5 := os45_5.ext x1
          have os53_6 := os53_6.ext x1
          have o56_7 := o56_7.ext x1
          have os57_8 := os57_8.ext x1
          clear x1
          refine J.s_eff rfl (Ye.litS2 Try.underlying57 ti22 rfl rfl rfl (Ow.rd os45_5) (Ow.rd os58_9)) rfl ?_
          rintro s59_10 w10 ⟨o59_10, x1⟩
          have e0 := e0.trans x1
          have r32_2 := r32_2.ext x1
          have rs33_3 := rs33_3.ext x1
          have rs40_4 := rs40_4.ext x1
          have os45_5 := os45_5.ext x1
          have os53_6 := os53_6.ext x1
          have o56_7 := o56_7.ext x1
          have os57_8 := os57_8.ext x1
          have os58_9 := os58_9.ext x1
          clear x1
          refine J.s_eff rfl (Ye.call cl20 rfl (RCat_ok o59_10 (by first | omega | assumption | (simp only [List.length_append, List.length_map, List.flatten_cons, List.flatten_nil, List.append_nil, List.length_drop, List.length_take, List.length_replicate, beN_len, macL_len, tagL_len, skQ_len, hsq, xorL_len, Int.toNat_natCast, List.length_nil, List.length_cons] <;> omega) | (simp [skQ_len] <;> omega)))) rfl ?_
          rintro s60_11 w11 ⟨os60_11, x1⟩
          have ap_s31_1_s60_11 : Ap s31_1.ownBlock s60_11.ownBlock := Ap.mk r32_2.live (Ow.fr os60_11)
          have ap_s45_5_s60_11 : Ap s45_5.ownBlock s60_11.ownBlock := Ap.mk (Ow.live os45_5) (Ow.fr os60_11)
          have ap_s53_6_s60_11 : Ap s53_6.ownBlock s60_11.ownBlock := Ap.mk (Ow.live os53_6) (Ow.fr os60_11)
          have ap_s57_8_s60_11 : Ap s57_8.ownBlock s60_11.ownBlock := Ap.mk (Ow.live os57_8) (Ow.fr os60_11)
          have ap_s58_9_s60_11 : Ap s58_9.ownBlock s60_11.ownBlock := Ap.mk (Ow.live os58_9) (Ow.fr os60_11)
          have fr_s60_11 : Fr w.heap.size s60_11.ownBlock := Fr.le (Ow.fr os60_11) e0.size
          replace os60_11 := Ow.base os60_11 e0.size
          have e0 := e0.trans x1
          have r32_2 := r32_2.ext x1
          have rs33_3 := rs33_3.ext x1
          have rs40_4 := rs40_4.ext x1
          have os45_5 := os45_5.ext x1
          have os53_6 := os53_6.ext x1
          have o56_7 := o56_7.ext x1
          have os57_8 := os57_8.ext x1
          have os58_9 := os58_9.ext x1
          have o59_10 := o59_10.ext x1
          clear x1
          refine J.s_op rfl (fun _ => Yd.assign rfl) rfl ?_
          refine J.s_op rfl (fun _ => Yd.assign rfl) rfl ?_
          refine J.s_nil ?_
          refine J.n_np ?_
          refine J.n_then ?_
          refine J.ret ?_
          exact J.ret2 rfl rfl rfl (⟨_, rfl, s60_11, (by rw [sealE_ok (by omega) (by omega) (by omega)]; try rfl), (by rw [sealL_ok (by omega) (by omega) (by omega)]; have h9 := Ow.rd os60_11; simp only [List.flatten_cons, List.flatten_nil, List.append_nil] at h9; rw [show (exQ (macL [] key) [115, 101, 97, 108] 64) = skQ key from rfl, hLQ, show (32 : Int).toNat = 32 from rfl, seC_ref, Int.toNat_natCast] at h9; rw [tagL]; simpa only [List.append_assoc] using h9), e0⟩)

theorem ROpen_ok {a u v z : Value} {key nonce data text : List UInt8} {w : World} (hk : Bs w a key) (ho : Bs w u nonce) (hd : Bs w v data) (ht : Bs w z text) (hx1 : key.length ≤ 1000000) (hx2 : nonce.length ≤ 1000000) : C Try.prog 11 [a, u, v, z] w (Ret fun x w' => ∃ s, x = .tuple #[s, I (openE key nonce data text)] ∧ Bs w' s (openL key nonce data text) ∧ Ext w w') := by
  have hsq : (exQ (macL [] key) [115, 101, 97, 108] 64).length = 64 := skQ_len key
  have hLQ : List.take (List.map (fun x : UInt8 => B x) (skQ key)).length (skQ key) = skQ key := List.take_of_length_le (by rw [List.length_map]; exact Nat.le_refl _)
  have hLM : List.take (List.map (fun x : UInt8 => B x) text).length text = text := List.take_of_length_le (by rw [List.length_map]; exact Nat.le_refl _)
  have e0 := Ext.refl w
  refine C.enter Try.func11 rfl Try.ntmps11 rfl ?_
  refine J.seq ?_
  refine J.region ?_
  refine J.op (Yd.assign rfl) rfl ?_
  refine J.op (Yd.assign rfl) rfl ?_
  refine J.nil ?_
  refine J.n_then ?_
  refine J.seq ?_
  refine J.seq ?_
  refine J.region ?_
  refine J.op (Yd.move rfl) rfl ?_
  refine J.op (Yd.len_b Try.underlying22 rfl hk) rfl ?_
  refine J.op (Yd.neq rfl rfl) rfl ?_
  refine J.op (Yd.move rfl) rfl ?_
  refine J.split_dec (t := 17) rfl (fun h1 => ?_) (fun h1 => ?_)
  · skip
    refine J.not_g rfl rfl rfl rfl rfl ?_
    refine J.not_g rfl rfl rfl rfl rfl ?_
    refine J.not_g rfl rfl rfl rfl rfl ?_
    refine J.op (Yd.pick_t rfl rfl) rfl ?_
    refine J.nil ?_
    refine J.n_then ?_
    refine J.cond_true rfl ?_
    refine J.seq ?_
    refine J.region ?_
    refine J.op (Yd.assign rfl) rfl ?_
    refine J.op (Yd.assign rfl) rfl ?_
    refine J.nil ?_
    refine J.n_then ?_
    refine J.ret ?_
    refine J.r_then ?_
    exact J.ret2 rfl rfl rfl (⟨_, rfl, nilS, (by first | (rw [openE_arg (by omega)]; done) | (rw [openE_arg (by omega)]; rfl) | (rw [openE_big (by omega) (by omega) (by omega)]; done) | (rw [openE_big (by omega) (by omega) (by omega)]; rfl) | (rw [openE_bad (by omega) (by omega) (by omega) hbad]; done) | (rw [openE_bad (by omega) (by omega) (by omega) hbad]; rfl)), (by rw [openL_no (by first | (rw [openE_arg (by omega)]; decide) | (rw [openE_big (by omega) (by omega) (by omega)]; decide) | (rw [openE_bad (by omega) (by omega) (by omega) hbad]; decide))]; exact Rd.nilM _ _), e0⟩)
  · skip
    refine J.op_g rfl rfl rfl (Yd.move rfl) rfl ?_
    refine J.op_g rfl rfl rfl (Yd.len_b Try.underlying22 rfl ho) rfl ?_
    refine J.op_g rfl rfl rfl (Yd.neq rfl rfl) rfl ?_
    refine J.op (Yd.pick_f rfl rfl) rfl ?_
    refine J.nil ?_
    refine J.n_then ?_
    refine J.cond_dec rfl (fun hc0 => ?_) (fun hc0 => ?_)
    · skip
      refine J.seq ?_
      refine J.region ?_
      refine J.op (Yd.assign rfl) rfl ?_
      refine J.op (Yd.assign rfl) rfl ?_
      refine J.nil ?_
      refine J.n_then ?_
      refine J.ret ?_
      refine J.r_then ?_
      exact J.ret2 rfl rfl rfl (⟨_, rfl, nilS, (by first | (rw [openE_arg (by omega)]; done) | (rw [openE_arg (by omega)]; rfl) | (rw [openE_big (by omega) (by omega) (by omega)]; done) | (rw [openE_big (by omega) (by omega) (by omega)]; rfl) | (rw [openE_bad (by omega) (by omega) (by omega) hbad]; done) | (rw [openE_bad (by omega) (by omega) (by omega) hbad]; rfl)), (by rw [openL_no (by first | (rw [openE_arg (by omega)]; decide) | (rw [openE_big (by omega) (by omega) (by omega)]; decide) | (rw [openE_bad (by omega) (by omega) (by omega) hbad]; decide))]; exact Rd.nilM _ _), e0⟩)
    · skip
      refine J.skip ?_
      refine J.n_then ?_
      refine J.seq ?_
      refine J.seq ?_
      refine J.region ?_
      refine J.op (Yd.move rfl) rfl ?_
      refine J.op (Yd.len_b Try.underlying22 rfl ht) rfl ?_
      refine J.op (Yd.gtr rfl rfl) rfl ?_
      refine J.op (Yd.move rfl) rfl ?_
      refine J.split_dec (t := 25) rfl (fun h2 => ?_) (fun h2 => ?_)
      · skip
        refine J.not_g rfl rfl rfl rfl rfl ?_
        refine J.not_g rfl rfl rfl rfl rfl ?_
        refine J.not_g rfl rfl rfl rfl rfl ?_
        refine J.op (Yd.pick_t rfl rfl) rfl ?_
        refine J.nil ?_
        refine J.n_then ?_
        refine J.cond_true rfl ?_
        refine J.seq ?_
        refine J.region ?_
        refine J.op (Yd.assign rfl) rfl ?_
        refine J.op (Yd.assign rfl) rfl ?_
        refine J.nil ?_
        refine J.n_then ?_
        refine J.ret ?_
        refine J.r_then ?_
        exact J.ret2 rfl rfl rfl (⟨_, rfl, nilS, (by first | (rw [openE_arg (by omega)]; done) | (rw [openE_arg (by omega)]; rfl) | (rw [openE_big (by omega) (by omega) (by omega)]; done) | (rw [openE_big (by omega) (by omega) (by omega)]; rfl) | (rw [openE_bad (by omega) (by omega) (by omega) hbad]; done) | (rw [openE_bad (by omega) (by omega) (by omega) hbad]; rfl)), (by rw [openL_no (by first | (rw [openE_arg (by omega)]; decide) | (rw [openE_big (by omega) (by omega) (by omega)]; decide) | (rw [openE_bad (by omega) (by omega) (by omega) hbad]; decide))]; exact Rd.nilM _ _), e0⟩)
      · skip
        refine J.op_g rfl rfl rfl (Yd.move rfl) rfl ?_
        refine J.op_g rfl rfl rfl (Yd.len_b Try.underlying22 rfl hd) rfl ?_
        refine J.op_g rfl rfl rfl (Yd.gtr rfl rfl) rfl ?_
        refine J.op (Yd.pick_f rfl rfl) rfl ?_
        refine J.nil ?_
        refine J.n_then ?_
        refine J.cond_dec rfl (fun hc1 => ?_) (fun hc1 => ?_)
        · skip
          refine J.seq ?_
          refine J.region ?_
          refine J.op (Yd.assign rfl) rfl ?_
          refine J.op (Yd.assign rfl) rfl ?_
          refine J.nil ?_
          refine J.n_then ?_
          refine J.ret ?_
          refine J.r_then ?_
          exact J.ret2 rfl rfl rfl (⟨_, rfl, nilS, (by first | (rw [openE_arg (by omega)]; done) | (rw [openE_arg (by omega)]; rfl) | (rw [openE_big (by omega) (by omega) (by omega)]; done) | (rw [openE_big (by omega) (by omega) (by omega)]; rfl) | (rw [openE_bad (by omega) (by omega) (by omega) hbad]; done) | (rw [openE_bad (by omega) (by omega) (by omega) hbad]; rfl)), (by rw [openL_no (by first | (rw [openE_arg (by omega)]; decide) | (rw [openE_big (by omega) (by omega) (by omega)]; decide) | (rw [openE_bad (by omega) (by omega) (by omega) hbad]; decide))]; exact Rd.nilM _ _), e0⟩)
        · skip
          refine J.skip ?_
          refine J.n_then ?_
          refine J.seq ?_
          refine J.seq ?_
          refine J.region ?_
          refine J.op (Yd.move rfl) rfl ?_
          refine J.op (Yd.len_b Try.underlying22 rfl ht) rfl ?_
          refine J.op (Yd.lss rfl rfl) rfl ?_
          refine J.nil ?_
          refine J.n_then ?_
          refine J.cond_dec rfl (fun hc2 => ?_) (fun hc2 => ?_)
          · skip
            have hbad : badB key nonce data text := .inl (by omega)
            refine J.seq ?_
            refine J.region ?_
            refine J.op (Yd.assign rfl) rfl ?_
            refine J.op (Yd.assign rfl) rfl ?_
            refine J.nil ?_
            refine J.n_then ?_
            refine J.ret ?_
            refine J.r_then ?_
            exact J.ret2 rfl rfl rfl (⟨_, rfl, nilS, (by first | (rw [openE_arg (by omega)]; done) | (rw [openE_arg (by omega)]; rfl) | (rw [openE_big (by omega) (by omega) (by omega)]; done) | (rw [openE_big (by omega) (by omega) (by omega)]; rfl) | (rw [openE_bad (by omega) (by omega) (by omega) hbad]; done) | (rw [openE_bad (by omega) (by omega) (by omega) hbad]; rfl)), (by rw [openL_no (by first | (rw [openE_arg (by omega)]; decide) | (rw [openE_big (by omega) (by omega) (by omega)]; decide) | (rw [openE_bad (by omega) (by omega) (by omega) hbad]; decide))]; exact Rd.nilM _ _), e0⟩)
          · skip
            have hM : ((text.length : Int) - 32).toNat = text.length - 32 := by omega
            refine J.skip ?_
            refine J.n_then ?_
            refine J.seq ?_
            refine J.region ?_
            refine J.op (Yd.move rfl) rfl ?_
            refine J.op (Yd.move rfl) rfl ?_
            refine J.op (Yd.len_b Try.underlying22 rfl ht) rfl ?_
            refine J.op (Yd.sub rfl rfl (by first | omega | assumption | (simp only [List.length_append, List.length_map, List.flatten_cons, List.flatten_nil, List.append_nil, List.length_drop, List.length_take, List.length_replicate, beN_len, macL_len, tagL_len, skQ_len, hsq, xorL_len, Int.toNat_natCast, List.length_nil, List.length_cons] <;> omega) | (simp [skQ_len] <;> omega))) rfl ?_
            refine J.op (Yd.slcH Try.underlying22 ti5 rfl ht rfl (by first | omega | assumption | (simp only [List.length_append, List.length_map, List.flatten_cons, List.flatten_nil, List.append_nil, List.length_drop, List.length_take, List.length_replicate, beN_len, macL_len, tagL_len, skQ_len, hsq, xorL_len, Int.toNat_natCast, List.length_nil, List.length_cons] <;> omega) | (simp [skQ_len] <;> omega))) rfl ?_
            refine J.op (Yd.assign rfl) rfl ?_
            refine J.nil ?_
            refine J.n_then ?_
            refine J.seq ?_
            refine J.region ?_
            refine J.op (Yd.move rfl) rfl ?_
            refine J.eff (Ye.litM (base := w.heap.size) (f := fun x : UInt8 => B x) ([115, 101, 97, 108] : List UInt8) Try.underlying22 ti5 rfl rfl rfl rfl (fun _ => rfl) rfl (Nat.le_refl _)) rfl ?_
            rintro s39_1 w1 ⟨o39_1, x1⟩
            have fr_s39_1 : Fr w.heap.size s39_1.ownBlock := Fr.le (Ow.fr o39_1) e0.size
            replace o39_1 := Ow.base o39_1 e0.size
            have e0 := e0.trans x1
            clear x1
            refine J.eff (Ye.mark Try.underlying22 Try.underlying22 (by decide) Try.underlying5 rfl o39_1 (by decide)) rfl ?_
            rintro u_ w2 ⟨hu_, r40_2, hg⟩
            rw [hu_]; clear hu_
            have e0 := Ext.gbk e0 fr_s39_1 hg
            clear hg
            refine J.eff (Ye.call cl16 rfl (RDerive_ok (Rd.nilM (fun x : UInt8 => B x) _) (Rd.ext hk e0) r40_2.rd (by first | omega | (simp only [List.length_append, List.flatten_cons, List.flatten_nil, List.append_nil, padL_len, sha256L_len, macL_len, List.length_nil, List.length_cons, Int.toNat_natCast]; omega) | (simp <;> omega)) (by first | omega | (simp only [List.length_append, List.flatten_cons, List.flatten_nil, List.append_nil, padL_len, sha256L_len, macL_len, List.length_nil, List.length_cons, Int.toNat_natCast]; omega) | (simp <;> omega)) (by first | omega | (simp only [List.length_append, List.flatten_cons, List.flatten_nil, List.append_nil, padL_len, sha256L_len, macL_len, List.length_nil, List.length_cons, Int.toNat_natCast]; omega) | (simp <;> omega)))) rfl ?_
            rintro s41_3 w3 ⟨rs41_3, x1⟩
            have e0 := e0.trans x1
            have r40_2 := r40_2.ext x1
            clear x1
            refine J.op (Yd.assign rfl) rfl ?_
            refine J.nil ?_
            refine J.n_then ?_
            refine J.seq ?_
            refine J.seq ?_
            refine J.regionO [(0, true), (2, true), (3, true), (7, true), (8, true), (13, true), (14, true)] [(1, 1), (4, 1), (15, 1), (5, 1), (16, 1), (17, 1), (18, 1), (6, 0), (9, 0), (10, 0), (11, 0), (12, 1)] [(19, true)] mix (by kernel_rfl) ?_
            refine J.s_op rfl (fun _ => Yd.move rfl) rfl ?_
            refine J.s_op rfl (fun _ => Yd.move rfl) rfl ?_
            refine J.s_op rfl (fun _ => Yd.move rfl) rfl ?_
            refine J.s_op rfl (fun _ => Yd.move rfl) rfl ?_
            refine J.s_op rfl (fun _ => Yd.move rfl) rfl ?_
            refine J.s_op rfl (fun _ => Yd.move rfl) rfl ?_
            refine J.s_op rfl (fun _ => Yd.move rfl) rfl ?_
            refine J.s_nil ?_
            refine J.o_op rfl (Yd.slcL Try.underlying22 ti5 rfl rs41_3 rfl (by first | omega | assumption | (simp only [List.length_append, List.length_map, List.flatten_cons, List.flatten_nil, List.append_nil, List.length_drop, List.length_take, List.length_replicate, beN_len, macL_len, tagL_len, skQ_len, hsq, xorL_len, Int.toNat_natCast, List.length_nil, List.length_cons] <;> omega) | (simp [skQ_len] <;> omega))) rfl ?_
            refine J.o_op rfl (Yd.len_b Try.underlying22 rfl (Rd.ext hd e0)) rfl ?_
            refine J.o_op rfl (Yd.len_b Try.underlying22 rfl (Rd.ext ht e0)) rfl ?_
            refine J.o_op rfl (Yd.cv_i_64 Try.underlying3 Try.underlying42 rfl (by omega)) rfl ?_
            refine J.o_op rfl (Yd.sub rfl rfl (by first | omega | assumption | (simp only [List.length_append, List.length_map, List.flatten_cons, List.flatten_nil, List.append_nil, List.length_drop, List.length_take, List.length_replicate, beN_len, macL_len, tagL_len, skQ_len, hsq, xorL_len, Int.toNat_natCast, List.length_nil, List.length_cons] <;> omega) | (simp [skQ_len] <;> omega))) rfl ?_
            refine J.o_op rfl (Yd.slcL Try.underlying22 ti5 rfl (Rd.ext ht e0) rfl (by first | omega | assumption | (simp only [List.length_append, List.length_map, List.flatten_cons, List.flatten_nil, List.append_nil, List.length_drop, List.length_take, List.length_replicate, beN_len, macL_len, tagL_len, skQ_len, hsq, xorL_len, Int.toNat_natCast, List.length_nil, List.length_cons] <;> omega) | (simp [skQ_len] <;> omega))) rfl ?_
            refine J.o_op rfl (Yd.bstr Try.underlying22 Try.underlying5 Try.underlying9 rfl (Bs.slc (Rd.ext ht e0) (by first | omega | assumption | (simp only [List.length_append, List.length_map, List.flatten_cons, List.flatten_nil, List.append_nil, List.length_drop, List.length_take, List.length_replicate, beN_len, macL_len, tagL_len, skQ_len, hsq, xorL_len, Int.toNat_natCast, List.length_nil, List.length_cons] <;> omega) | (simp [skQ_len] <;> omega)) (by first | omega | assumption | (simp only [List.length_append, List.length_map, List.flatten_cons, List.flatten_nil, List.append_nil, List.length_drop, List.length_take, List.length_replicate, beN_len, macL_len, tagL_len, skQ_len, hsq, xorL_len, Int.toNat_natCast, List.length_nil, List.length_cons] <;> omega) | (simp [skQ_len] <;> omega)))) rfl ?_
            refine J.o_eff rfl (Ye.call cl21 rfl (RBig_ok (n := 8) (by omega))) rfl (fun _ _ h => h.2) ?_
            rintro s48_4 w4 ⟨os48_4, x1⟩
            have ap_s39_1_s48_4 : Ap s39_1.ownBlock s48_4.ownBlock := Ap.mk r40_2.live (Ow.fr os48_4)
            have fr_s48_4 : Fr w.heap.size s48_4.ownBlock := Fr.le (Ow.fr os48_4) e0.size
            replace os48_4 := Ow.base os48_4 e0.size
            have e0 := e0.trans x1
            have r40_2 := r40_2.ext x1
            have rs41_3 := rs41_3.ext x1
            clear x1
            refine J.o_eff rfl (Ye.litS4 Try.underlying57 ti22 rfl rfl rfl rfl rfl (Rd.ext ho e0) (Ow.rd os48_4) (Rd.ext hd e0) (Bs.slc (Rd.ext ht e0) (by first | omega | assumption | (simp only [List.length_append, List.length_map, List.flatten_cons, List.flatten_nil, List.append_nil, List.length_drop, List.length_take, List.length_replicate, beN_len, macL_len, tagL_len, skQ_len, hsq, xorL_len, Int.toNat_natCast, List.length_nil, List.length_cons] <;> omega) | (simp [skQ_len] <;> omega)) (by first | omega | assumption | (simp only [List.length_append, List.length_map, List.flatten_cons, List.flatten_nil, List.append_nil, List.length_drop, List.length_take, List.length_replicate, beN_len, macL_len, tagL_len, skQ_len, hsq, xorL_len, Int.toNat_natCast, List.length_nil, List.length_cons] <;> omega) | (simp [skQ_len] <;> omega)))) rfl (fun _ _ h => h.2) ?_
            rintro s51_5 w5 ⟨o51_5, x1⟩
            have e0 := e0.trans x1
            have r40_2 := r40_2.ext x1
            have rs41_3 := rs41_3.ext x1
            have os48_4 := os48_4.ext x1
            clear x1
            refine J.o_eff rfl (Ye.call cl20 rfl (RCat_ok o51_5 (by first | omega | assumption | (simp only [List.length_append, List.length_map, List.flatten_cons, List.flatten_nil, List.append_nil, List.length_drop, List.length_take, List.length_replicate, beN_len, macL_len, tagL_len, skQ_len, hsq, xorL_len, Int.toNat_natCast, List.length_nil, List.length_cons] <;> omega) | (simp [skQ_len] <;> omega)))) rfl (fun _ _ h => h.2) ?_
            rintro s52_6 w6 ⟨os52_6, x1⟩
            have ap_s39_1_s52_6 : Ap s39_1.ownBlock s52_6.ownBlock := Ap.mk r40_2.live (Ow.fr os52_6)
            have ap_s48_4_s52_6 : Ap s48_4.ownBlock s52_6.ownBlock := Ap.mk (Ow.live os48_4) (Ow.fr os52_6)
            have fr_s52_6 : Fr w.heap.size s52_6.ownBlock := Fr.le (Ow.fr os52_6) e0.size
            replace os52_6 := Ow.base os52_6 e0.size
            have e0 := e0.trans x1
            have r40_2 := r40_2.ext x1
            have rs41_3 := rs41_3.ext x1
            have os48_4 := os48_4.ext x1
            have o51_5 := o51_5.ext x1
            clear x1
            refine J.o_eff rfl (Ye.call cl19 rfl (RMac_ok (Bs.slc rs41_3 (by first | omega | assumption | (simp only [List.length_append, List.length_map, List.flatten_cons, List.flatten_nil, List.append_nil, List.length_drop, List.length_take, List.length_replicate, beN_len, macL_len, tagL_len, skQ_len, hsq, xorL_len, Int.toNat_natCast, List.length_nil, List.length_cons] <;> omega) | (simp [skQ_len] <;> omega)) (by first | omega | assumption | (simp only [List.length_append, List.length_map, List.flatten_cons, List.flatten_nil, List.append_nil, List.length_drop, List.length_take, List.length_replicate, beN_len, macL_len, tagL_len, skQ_len, hsq, xorL_len, Int.toNat_natCast, List.length_nil, List.length_cons] <;> omega) | (simp [skQ_len] <;> omega))) (Ow.rd os52_6) (by first | omega | assumption | (simp only [List.length_append, List.length_map, List.flatten_cons, List.flatten_nil, List.append_nil, List.length_drop, List.length_take, List.length_replicate, beN_len, macL_len, tagL_len, skQ_len, hsq, xorL_len, Int.toNat_natCast, List.length_nil, List.length_cons] <;> omega) | (simp [skQ_len] <;> omega)) (by first | omega | assumption | (simp only [List.length_append, List.length_map, List.flatten_cons, List.flatten_nil, List.append_nil, List.length_drop, List.length_take, List.length_replicate, beN_len, macL_len, tagL_len, skQ_len, hsq, xorL_len, Int.toNat_natCast, List.length_nil, List.length_cons] <;> omega) | (simp [skQ_len] <;> omega)))) rfl (fun _ _ h => h.2) ?_
            rintro s53_7 w7 ⟨os53_7, x1⟩
            have ap_s39_1_s53_7 : Ap s39_1.ownBlock s53_7.ownBlock := Ap.mk r40_2.live (Ow.fr os53_7)
            have ap_s48_4_s53_7 : Ap s48_4.ownBlock s53_7.ownBlock := Ap.mk (Ow.live os48_4) (Ow.fr os53_7)
            have ap_s52_6_s53_7 : Ap s52_6.ownBlock s53_7.ownBlock := Ap.mk (Ow.live os52_6) (Ow.fr os53_7)
            have fr_s53_7 : Fr w.heap.size s53_7.ownBlock := Fr.le (Ow.fr os53_7) e0.size
            replace os53_7 := Ow.base os53_7 e0.size
            have e0 := e0.trans x1
            have r40_2 := r40_2.ext x1
            have rs41_3 := rs41_3.ext x1
            have os48_4 := os48_4.ext x1
            have o51_5 := o51_5.ext x1
            have os52_6 := os52_6.ext x1
            clear x1
            refine J.o_op rfl (Yd.bstr Try.underlying22 Try.underlying5 Try.underlying9 rfl (Ow.rd os53_7)) rfl ?_
            refine J.o_nil ?_
            refine J.s_op rfl (fun _ => Yd.sne rfl rfl) rfl ?_
            refine J.s_nil ?_
            refine J.n_np ?_
            refine J.n_then ?_
            refine J.cond_dec rfl (fun hc3 => ?_) (fun hc3 => ?_)
            · skip
              simp only [List.flatten_cons, List.flatten_nil, List.append_nil] at hc3; rw [show (exQ (macL [] key) [115, 101, 97, 108] 64) = skQ key from rfl, hLQ, show (32 : Int).toNat = 32 from rfl, Int.toNat_natCast, List.drop_zero, hLM, hM] at hc3
              have ht_ : tagL key nonce data (text.take (text.length - 32)) = macL (List.drop 32 (skQ key)) (nonce ++ (beN (UInt64.ofNat data.length) 8 ++ (data ++ text.take (text.length - 32)))) := by rw [tagL]; simp only [List.append_assoc]
              have hbad : badB key nonce data text := .inr (by rw [ht_]; exact hc3)
              refine J.seq ?_
              refine J.region ?_
              refine J.op (Yd.assign rfl) rfl ?_
              refine J.op (Yd.assign rfl) rfl ?_
              refine J.nil ?_
              refine J.n_then ?_
              refine J.ret ?_
              refine J.r_then ?_
              exact J.ret2 rfl rfl rfl (⟨_, rfl, nilS, (by first | (rw [openE_arg (by omega)]; done) | (rw [openE_arg (by omega)]; rfl) | (rw [openE_big (by omega) (by omega) (by omega)]; done) | (rw [openE_big (by omega) (by omega) (by omega)]; rfl) | (rw [openE_bad (by omega) (by omega) (by omega) hbad]; done) | (rw [openE_bad (by omega) (by omega) (by omega) hbad]; rfl)), (by rw [openL_no (by first | (rw [openE_arg (by omega)]; decide) | (rw [openE_big (by omega) (by omega) (by omega)]; decide) | (rw [openE_bad (by omega) (by omega) (by omega) hbad]; decide))]; exact Rd.nilM _ _), e0⟩)
            · skip
              simp only [List.flatten_cons, List.flatten_nil, List.append_nil] at hc3; rw [show (exQ (macL [] key) [115, 101, 97, 108] 64) = skQ key from rfl, hLQ, show (32 : Int).toNat = 32 from rfl, Int.toNat_natCast, List.drop_zero, hLM, hM] at hc3
              have ht_ : tagL key nonce data (text.take (text.length - 32)) = macL (List.drop 32 (skQ key)) (nonce ++ (beN (UInt64.ofNat data.length) 8 ++ (data ++ text.take (text.length - 32)))) := by rw [tagL]; simp only [List.append_assoc]
              have hgood : ¬ badB key nonce data text := fun h => by rcases h with h | h; omega; rw [ht_] at h; exact hc3 h
              refine J.skip ?_
              refine J.n_then ?_
              refine J.seq ?_
              refine J.region ?_
              refine J.op (Yd.move rfl) rfl ?_
              refine J.op (Yd.slcH Try.underlying22 ti5 rfl rs41_3 rfl (by first | omega | assumption | (simp only [List.length_append, List.length_map, List.flatten_cons, List.flatten_nil, List.append_nil, List.length_drop, List.length_take, List.length_replicate, beN_len, macL_len, tagL_len, skQ_len, hsq, xorL_len, Int.toNat_natCast, List.length_nil, List.length_cons] <;> omega) | (simp [skQ_len] <;> omega))) rfl ?_
              refine J.op (Yd.move rfl) rfl ?_
              refine J.op (Yd.move rfl) rfl ?_
              refine J.op (Yd.len_b Try.underlying22 rfl (Bs.slc (Rd.ext ht e0) (by first | omega | assumption | (simp only [List.length_append, List.length_map, List.flatten_cons, List.flatten_nil, List.append_nil, List.length_drop, List.length_take, List.length_replicate, beN_len, macL_len, tagL_len, skQ_len, hsq, xorL_len, Int.toNat_natCast, List.length_nil, List.length_cons] <;> omega) | (simp [skQ_len] <;> omega)) (by first | omega | assumption | (simp only [List.length_append, List.length_map, List.flatten_cons, List.flatten_nil, List.append_nil, List.length_drop, List.length_take, List.length_replicate, beN_len, macL_len, tagL_len, skQ_len, hsq, xorL_len, Int.toNat_natCast, List.length_nil, List.length_cons] <;> omega) | (simp [skQ_len] <;> omega)))) rfl ?_
              refine J.eff (Ye.call cl17 rfl (RStream_ok (Bs.slc rs41_3 (by first | omega | assumption | (simp only [List.length_append, List.length_map, List.flatten_cons, List.flatten_nil, List.append_nil, List.length_drop, List.length_take, List.length_replicate, beN_len, macL_len, tagL_len, skQ_len, hsq, xorL_len, Int.toNat_natCast, List.length_nil, List.length_cons] <;> omega) | (simp [skQ_len] <;> omega)) (by first | omega | assumption | (simp only [List.length_append, List.length_map, List.flatten_cons, List.flatten_nil, List.append_nil, List.length_drop, List.length_take, List.length_replicate, beN_len, macL_len, tagL_len, skQ_len, hsq, xorL_len, Int.toNat_natCast, List.length_nil, List.length_cons] <;> omega) | (simp [skQ_len] <;> omega))) (Rd.ext ho e0))) rfl ?_
              rintro _ w8 ⟨s68_8, rfl, rs68_8, x1⟩
              have e0 := e0.trans x1
              have r40_2 := r40_2.ext x1
              have rs41_3 := rs41_3.ext x1
              have os48_4 := os48_4.ext x1
              have o51_5 := o51_5.ext x1
              have os52_6 := os52_6.ext x1
              have os53_7 := os53_7.ext x1
              clear x1
              refine J.op (Yd.move rfl) rfl ?_
              refine J.op (Yd.extract rfl rfl) rfl ?_
              refine J.op (Yd.extract rfl rfl) rfl ?_
              refine J.op (Yd.assign rfl) rfl ?_
              refine J.op (Yd.assign rfl) rfl ?_
              refine J.nil ?_
              refine J.n_then ?_
              refine J.seq ?_
              refine J.region ?_
              refine J.op (Yd.move rfl) rfl ?_
              refine J.op (Yd.move rfl) rfl ?_
              refine J.eff (Ye.call cl18 rfl (RXor_ok (Bs.slc (Rd.ext ht e0) (by first | omega | assumption | (simp only [List.length_append, List.length_map, List.flatten_cons, List.flatten_nil, List.append_nil, List.length_drop, List.length_take, List.length_replicate, beN_len, macL_len, tagL_len, skQ_len, hsq, xorL_len, Int.toNat_natCast, List.length_nil, List.length_cons] <;> omega) | (simp [skQ_len] <;> omega)) (by first | omega | assumption | (simp only [List.length_append, List.length_map, List.flatten_cons, List.flatten_nil, List.append_nil, List.length_drop, List.length_take, List.length_replicate, beN_len, macL_len, tagL_len, skQ_len, hsq, xorL_len, Int.toNat_natCast, List.length_nil, List.length_cons] <;> omega) | (simp [skQ_len] <;> omega))) rs68_8 (by first | omega | assumption | (simp only [List.length_append, List.length_map, List.flatten_cons, List.flatten_nil, List.append_nil, List.length_drop, List.length_take, List.length_replicate, beN_len, macL_len, tagL_len, skQ_len, Int.toNat_natCast, List.length_nil, List.length_cons] <;> omega) | (simp [skQ_len] <;> omega)))) rfl ?_
              rintro s73_9 w9 ⟨os73_9, x1⟩
              have ap_s39_1_s73_9 : Ap s39_1.ownBlock s73_9.ownBlock := Ap.mk r40_2.live (Ow.fr os73_9)
              have ap_s48_4_s73_9 : Ap s48_4.ownBlock s73_9.ownBlock := Ap.mk (Ow.live os48_4) (Ow.fr os73_9)
              have ap_s52_6_s73_9 : Ap s52_6.ownBlock s73_9.ownBlock := Ap.mk (Ow.live os52_6) (Ow.fr os73_9)
              have ap_s53_7_s73_9 : Ap s53_7.ownBlock s73_9.ownBlock := Ap.mk (Ow.live os53_7) (Ow.fr os73_9)
              have fr_s73_9 : Fr w.heap.size s73_9.ownBlock := Fr.le (Ow.fr os73_9) e0.size
              replace os73_9 := Ow.base os73_9 e0.size
              have e0 := e0.trans x1
              have r40_2 := r40_2.ext x1
              have rs41_3 := rs41_3.ext x1
              have os48_4 := os48_4.ext x1
              have o51_5 := o51_5.ext x1
              have os52_6 := os52_6.ext x1
              have os53_7 := os53_7.ext x1
              have rs68_8 := rs68_8.ext x1
              clear x1
              refine J.op (Yd.assign rfl) rfl ?_
              refine J.op (Yd.assign rfl) rfl ?_
              refine J.nil ?_
              refine J.n_then ?_
              refine J.ret ?_
              exact J.ret2 rfl rfl rfl (⟨_, rfl, s73_9, (by rw [openE_ok (by omega) (by omega) (by omega) hgood]; try rfl), (by rw [openL_ok (by omega) (openE_ok (by omega) (by omega) (by omega) hgood)]; have h9 := Ow.rd os73_9; rw [show (exQ (macL [] key) [115, 101, 97, 108] 64) = skQ key from rfl, show (32 : Int).toNat = 32 from rfl, seC_ref, List.drop_zero, hM] at h9; exact h9), e0⟩)
end Ytpkpicnldpbomaa
end Go.Proofs
