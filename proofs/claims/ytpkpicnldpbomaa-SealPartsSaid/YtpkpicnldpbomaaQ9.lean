import Derived.Test.YtpkpicnldpbomaaT
import Derived.Test.YtpkpicnldpbomaaQ6
set_option linter.unusedVariables false
set_option linter.unusedSimpArgs false
set_option maxRecDepth 100000
set_option maxHeartbeats 4000000
namespace Go.Proofs
open Go.X Go.RowKit
namespace Ytpkpicnldpbomaa
theorem SealParts_ok {a u v z : Value} {key nonce data text : List UInt8} {w : World} (hk : Bs w a key) (ho : Bs w u nonce) (hd : Bs w v data) (ht : Bs w z text) : C Try.prog 6 [a, u, v, z] w (Ret fun v w' => v = .bool true ∧ Ext w w') := by
  have hsq : (exQ (macL [] key) [115, 101, 97, 108] 64).length = 64 := skQ_len key
  have hLQ : List.take (List.map (fun x : UInt8 => B x) (skQ key)).length (skQ key) = skQ key := List.take_of_length_le (by rw [List.length_map]; exact Nat.le_refl _)
  have e0 := Ext.refl w
  refine C.enter Try.func6 rfl Try.ntmps6 rfl ?_
  refine J.seq ?_
  refine J.region ?_
  refine J.op (Yd.assign rfl) rfl ?_
  refine J.nil ?_
  refine J.n_then ?_
  refine J.seq ?_
  refine J.seq ?_
  refine J.region ?_
  refine J.op (Yd.move rfl) rfl ?_
  refine J.op (Yd.len_b Try.underlying22 rfl hk) rfl ?_
  refine J.op (Yd.neq rfl rfl) rfl ?_
  refine J.op (Yd.move rfl) rfl ?_
  refine J.split_dec (t := 17) rfl (fun h1 => ?_) (fun h1 => ?_)
  · skip
    refine J.not_g rfl rfl rfl rfl rfl ?_
    refine J.not_g rfl rfl rfl rfl rfl ?_
    refine J.not_g rfl rfl rfl rfl rfl ?_
    refine J.op (Yd.pick_t rfl rfl) rfl ?_
    refine J.op (Yd.move rfl) rfl ?_
    refine J.not_g rfl rfl rfl rfl rfl ?_
    refine J.not_g rfl rfl rfl rfl rfl ?_
    refine J.not_g rfl rfl rfl rfl rfl ?_
    refine J.op (Yd.pick_t rfl rfl) rfl ?_
    refine J.op (Yd.move rfl) rfl ?_
    refine J.not_g rfl rfl rfl rfl rfl ?_
    refine J.not_g rfl rfl rfl rfl rfl ?_
    refine J.not_g rfl rfl rfl rfl rfl ?_
    refine J.op (Yd.pick_t rfl rfl) rfl ?_
    refine J.nil ?_
    refine J.n_then ?_
    refine J.cond_true rfl ?_
    refine J.seq ?_
    refine J.region ?_
    refine J.eff (Ye.call cl7 rfl (awake_ok)) rfl ?_
    rintro _ w1 ⟨rfl, x1⟩
    have e0 := e0.trans x1
    clear x1
    refine J.op (Yd.assign rfl) rfl ?_
    refine J.nil ?_
    refine J.n_then ?_
    refine J.ret ?_
    refine J.r_then ?_
    exact J.ret1 rfl rfl (⟨_, rfl, rfl, e0⟩)
  · skip
    refine J.op_g rfl rfl rfl (Yd.move rfl) rfl ?_
    refine J.op_g rfl rfl rfl (Yd.len_b Try.underlying22 rfl ho) rfl ?_
    refine J.op_g rfl rfl rfl (Yd.neq rfl rfl) rfl ?_
    refine J.op (Yd.pick_f rfl rfl) rfl ?_
    refine J.op (Yd.move rfl) rfl ?_
    refine J.split_dec (t := 22) rfl (fun h2 => ?_) (fun h2 => ?_)
    · skip
      refine J.not_g rfl rfl rfl rfl rfl ?_
      refine J.not_g rfl rfl rfl rfl rfl ?_
      refine J.not_g rfl rfl rfl rfl rfl ?_
      refine J.op (Yd.pick_t rfl rfl) rfl ?_
      refine J.op (Yd.move rfl) rfl ?_
      refine J.not_g rfl rfl rfl rfl rfl ?_
      refine J.not_g rfl rfl rfl rfl rfl ?_
      refine J.not_g rfl rfl rfl rfl rfl ?_
      refine J.op (Yd.pick_t rfl rfl) rfl ?_
      refine J.nil ?_
      refine J.n_then ?_
      refine J.cond_true rfl ?_
      refine J.seq ?_
      refine J.region ?_
      refine J.eff (Ye.call cl7 rfl (awake_ok)) rfl ?_
      rintro _ w2 ⟨rfl, x1⟩
      have e0 := e0.trans x1
      clear x1
      refine J.op (Yd.assign rfl) rfl ?_
      refine J.nil ?_
      refine J.n_then ?_
      refine J.ret ?_
      refine J.r_then ?_
      exact J.ret1 rfl rfl (⟨_, rfl, rfl, e0⟩)
    · skip
      refine J.op_g rfl rfl rfl (Yd.move rfl) rfl ?_
      refine J.op_g rfl rfl rfl (Yd.len_b Try.underlying22 rfl hd) rfl ?_
      refine J.op_g rfl rfl rfl (Yd.gtr rfl rfl) rfl ?_
      refine J.op (Yd.pick_f rfl rfl) rfl ?_
      refine J.op (Yd.move rfl) rfl ?_
      refine J.split_dec (t := 27) rfl (fun h3 => ?_) (fun h3 => ?_)
      · skip
        refine J.not_g rfl rfl rfl rfl rfl ?_
        refine J.not_g rfl rfl rfl rfl rfl ?_
        refine J.not_g rfl rfl rfl rfl rfl ?_
        refine J.op (Yd.pick_t rfl rfl) rfl ?_
        refine J.nil ?_
        refine J.n_then ?_
        refine J.cond_true rfl ?_
        refine J.seq ?_
        refine J.region ?_
        refine J.eff (Ye.call cl7 rfl (awake_ok)) rfl ?_
        rintro _ w3 ⟨rfl, x1⟩
        have e0 := e0.trans x1
        clear x1
        refine J.op (Yd.assign rfl) rfl ?_
        refine J.nil ?_
        refine J.n_then ?_
        refine J.ret ?_
        refine J.r_then ?_
        exact J.ret1 rfl rfl (⟨_, rfl, rfl, e0⟩)
      · skip
        refine J.op_g rfl rfl rfl (Yd.move rfl) rfl ?_
        refine J.op_g rfl rfl rfl (Yd.len_b Try.underlying22 rfl ht) rfl ?_
        refine J.op_g rfl rfl rfl (Yd.gtr rfl rfl) rfl ?_
        refine J.op (Yd.pick_f rfl rfl) rfl ?_
        refine J.nil ?_
        refine J.n_then ?_
        refine J.cond_dec rfl (fun hc0 => ?_) (fun hc0 => ?_)
        · skip
          refine J.seq ?_
          refine J.region ?_
          refine J.eff (Ye.call cl7 rfl (awake_ok)) rfl ?_
          rintro _ w4 ⟨rfl, x1⟩
          have e0 := e0.trans x1
          clear x1
          refine J.op (Yd.assign rfl) rfl ?_
          refine J.nil ?_
          refine J.n_then ?_
          refine J.ret ?_
          refine J.r_then ?_
          exact J.ret1 rfl rfl (⟨_, rfl, rfl, e0⟩)
        · skip
          have he0 : sealE key nonce data text = 0 := sealE_ok (by omega) (by omega) (by omega)
          have hsl := sealL_len he0
          have hcl := seC_len (key := key) (nonce := nonce) (text := text) (by omega) (by omega)
          have hLS : List.take (List.map (fun x : UInt8 => B x) (sealL key nonce data text)).length (sealL key nonce data text) = sealL key nonce data text := List.take_of_length_le (by rw [List.length_map]; exact Nat.le_refl _)
          refine J.skip ?_
          refine J.n_then ?_
          refine J.seq ?_
          refine J.region ?_
          refine J.op (Yd.move rfl) rfl ?_
          refine J.op (Yd.move rfl) rfl ?_
          refine J.op (Yd.move rfl) rfl ?_
          refine J.op (Yd.move rfl) rfl ?_
          refine J.eff (Ye.call cl8 rfl (Seal_ok hk ho hd ht)) rfl ?_
          rintro _ w5 ⟨s38_5, rfl, rs38_5, x1⟩
          have e0 := e0.trans x1
          clear x1
          refine J.op (Yd.move rfl) rfl ?_
          refine J.op (Yd.extract rfl rfl) rfl ?_
          refine J.op (Yd.extract rfl rfl) rfl ?_
          refine J.op (Yd.assign rfl) rfl ?_
          refine J.op (Yd.assign rfl) rfl ?_
          refine J.nil ?_
          refine J.n_then ?_
          refine J.seq ?_
          refine J.region ?_
          refine J.op (Yd.move rfl) rfl ?_
          refine J.eff (Ye.litM (base := w5.heap.size) (f := fun x : UInt8 => B x) ([115, 101, 97, 108] : List UInt8) Try.underlying22 ti5 rfl rfl rfl rfl (fun _ => rfl) rfl (Nat.le_refl _)) rfl ?_
          rintro s42_6 w6 ⟨o42_6, x1⟩
          have ap_s38_5_s42_6 : Ap s38_5.ownBlock s42_6.ownBlock := Ap.mk (Bs.live rs38_5 (by rw [hsl]; omega)) (Ow.fr o42_6)
          have fr_s42_6 : Fr w.heap.size s42_6.ownBlock := Fr.le (Ow.fr o42_6) e0.size
          replace o42_6 := Ow.base o42_6 e0.size
          have e0 := e0.trans x1
          have rs38_5 := rs38_5.ext x1
          clear x1
          refine J.eff (Ye.mark Try.underlying22 Try.underlying22 (by decide) Try.underlying5 rfl o42_6 (by decide)) rfl ?_
          rintro u_ w7 ⟨hu_, r43_7, hg⟩
          rw [hu_]; clear hu_
          have rs38_5 := Rd.gbk rs38_5 hg ap_s38_5_s42_6
          have e0 := Ext.gbk e0 fr_s42_6 hg
          clear hg
          refine J.eff (Ye.call cl16 rfl (RDerive_ok (Rd.nilM (fun x : UInt8 => B x) _) (Rd.ext hk e0) r43_7.rd (by first | omega | (simp only [List.length_append, List.flatten_cons, List.flatten_nil, List.append_nil, padL_len, sha256L_len, macL_len, List.length_nil, List.length_cons, Int.toNat_natCast]; omega) | (simp <;> omega)) (by first | omega | (simp only [List.length_append, List.flatten_cons, List.flatten_nil, List.append_nil, padL_len, sha256L_len, macL_len, List.length_nil, List.length_cons, Int.toNat_natCast]; omega) | (simp <;> omega)) (by first | omega | (simp only [List.length_append, List.flatten_cons, List.flatten_nil, List.append_nil, padL_len, sha256L_len, macL_len, List.length_nil, List.length_cons, Int.toNat_natCast]; omega) | (simp <;> omega)))) rfl ?_
          rintro s44_8 w8 ⟨rs44_8, x1⟩
          have e0 := e0.trans x1
          have rs38_5 := rs38_5.ext x1
          have r43_7 := r43_7.ext x1
          clear x1
          refine J.op (Yd.assign rfl) rfl ?_
          refine J.nil ?_
          refine J.n_then ?_
          refine J.seq ?_
          refine J.region ?_
          refine J.op (Yd.move rfl) rfl ?_
          refine J.op (Yd.slcH Try.underlying22 ti5 rfl rs44_8 rfl (by first | omega | assumption | (simp only [List.length_append, List.length_map, List.flatten_cons, List.flatten_nil, List.append_nil, List.length_drop, List.length_take, List.length_replicate, beN_len, macL_len, tagL_len, skQ_len, hsq, hsl, xorL_len, Int.toNat_natCast, List.length_nil, List.length_cons] <;> omega) | (simp [skQ_len] <;> omega))) rfl ?_
          refine J.op (Yd.move rfl) rfl ?_
          refine J.op (Yd.move rfl) rfl ?_
          refine J.op (Yd.len_b Try.underlying22 rfl (Rd.ext ht e0)) rfl ?_
          refine J.eff (Ye.call cl17 rfl (RStream_ok (Bs.slc rs44_8 (by first | omega | assumption | (simp only [List.length_append, List.length_map, List.flatten_cons, List.flatten_nil, List.append_nil, List.length_drop, List.length_take, List.length_replicate, beN_len, macL_len, tagL_len, skQ_len, hsq, hsl, xorL_len, Int.toNat_natCast, List.length_nil, List.length_cons] <;> omega) | (simp [skQ_len] <;> omega)) (by first | omega | assumption | (simp only [List.length_append, List.length_map, List.flatten_cons, List.flatten_nil, List.append_nil, List.length_drop, List.length_take, List.length_replicate, beN_len, macL_len, tagL_len, skQ_len, hsq, hsl, xorL_len, Int.toNat_natCast, List.length_nil, List.length_cons] <;> omega) | (simp [skQ_len] <;> omega))) (Rd.ext ho e0))) rfl ?_
          rintro _ w9 ⟨s51_9, rfl, rs51_9, x1⟩
          have e0 := e0.trans x1
          have rs38_5 := rs38_5.ext x1
          have r43_7 := r43_7.ext x1
          have rs44_8 := rs44_8.ext x1
          clear x1
          refine J.op (Yd.move rfl) rfl ?_
          refine J.op (Yd.extract rfl rfl) rfl ?_
          refine J.op (Yd.extract rfl rfl) rfl ?_
          refine J.op (Yd.assign rfl) rfl ?_
          refine J.op (Yd.assign rfl) rfl ?_
          refine J.nil ?_
          refine J.n_then ?_
          refine J.seq ?_
          refine J.seq ?_
          refine J.regionO [(0, true), (1, true), (2, true), (3, true), (5, true)] [(4, 1), (6, 1), (7, 1), (8, 1), (9, 1), (10, 1), (11, 1), (12, 1), (13, 1), (14, 1), (15, 1), (16, 1), (17, 1), (18, 0), (19, 1)] [(20, true), (21, true)] mix (by kernel_rfl) ?_
          refine J.s_op rfl (fun _ => Yd.move rfl) rfl ?_
          refine J.s_op rfl (fun _ => Yd.neq rfl rfl) rfl ?_
          refine J.s_op rfl (fun _ => Yd.move rfl) rfl ?_
          refine J.know (t := 56) (v' := .bool false) rfl (ff (by exact fun e => e he0)) ?_
          refine J.s_op_g rfl rfl rfl rfl (fun _ => Yd.move rfl) rfl ?_
          refine J.s_op_g rfl rfl rfl rfl (fun _ => Yd.move rfl) rfl ?_
          refine J.s_nil ?_
          refine J.o_op_g rfl rfl rfl rfl (Yd.len_b Try.underlying22 rfl rs38_5) rfl ?_
          refine J.o_op_g rfl rfl rfl rfl (Yd.len_b Try.underlying22 rfl (Rd.ext ht e0)) rfl ?_
          refine J.o_op_g rfl rfl rfl rfl (Yd.add rfl rfl (by first | omega | assumption | (simp only [List.length_append, List.length_map, List.flatten_cons, List.flatten_nil, List.append_nil, List.length_drop, List.length_take, List.length_replicate, beN_len, macL_len, tagL_len, skQ_len, hsq, hsl, xorL_len, Int.toNat_natCast, List.length_nil, List.length_cons] <;> omega) | (simp [skQ_len] <;> omega))) rfl ?_
          refine J.o_op_g rfl rfl rfl rfl (Yd.neq rfl rfl) rfl ?_
          refine J.o_op rfl (Yd.pick_f rfl rfl) rfl ?_
          refine J.o_op rfl (Yd.move rfl) rfl ?_
          refine J.know (t := 64) (v' := .bool false) rfl (ff (by rw [hsl]; omega)) ?_
          refine J.o_op_g rfl rfl rfl rfl (Yd.move rfl) rfl ?_
          refine J.o_op_g rfl rfl rfl rfl (Yd.move rfl) rfl ?_
          refine J.o_op_g rfl rfl rfl rfl (Yd.len_b Try.underlying22 rfl (Rd.ext ht e0)) rfl ?_
          refine J.o_op_g rfl rfl rfl rfl (Yd.slcH Try.underlying22 ti5 rfl rs38_5 rfl (by first | omega | assumption | (simp only [List.length_append, List.length_map, List.flatten_cons, List.flatten_nil, List.append_nil, List.length_drop, List.length_take, List.length_replicate, beN_len, macL_len, tagL_len, skQ_len, hsq, hsl, xorL_len, Int.toNat_natCast, List.length_nil, List.length_cons] <;> omega) | (simp [skQ_len] <;> omega))) rfl ?_
          refine J.o_op_g rfl rfl rfl rfl (Yd.bstr Try.underlying22 Try.underlying5 Try.underlying9 rfl (Bs.slc rs38_5 (by first | omega | assumption | (simp only [List.length_append, List.length_map, List.flatten_cons, List.flatten_nil, List.append_nil, List.length_drop, List.length_take, List.length_replicate, beN_len, macL_len, tagL_len, skQ_len, hsq, hsl, xorL_len, Int.toNat_natCast, List.length_nil, List.length_cons] <;> omega) | (simp [skQ_len] <;> omega)) (by first | omega | assumption | (simp only [List.length_append, List.length_map, List.flatten_cons, List.flatten_nil, List.append_nil, List.length_drop, List.length_take, List.length_replicate, beN_len, macL_len, tagL_len, skQ_len, hsq, hsl, xorL_len, Int.toNat_natCast, List.length_nil, List.length_cons] <;> omega) | (simp [skQ_len] <;> omega)))) rfl ?_
          refine J.o_op_g rfl rfl rfl rfl (Yd.move rfl) rfl ?_
          refine J.o_op_g rfl rfl rfl rfl (Yd.move rfl) rfl ?_
          refine J.o_eff_g rfl rfl rfl rfl (Ye.call cl18 rfl (RXor_ok (Rd.ext ht e0) rs51_9 (by first | omega | assumption | (simp only [List.length_append, List.length_map, List.flatten_cons, List.flatten_nil, List.append_nil, List.length_drop, List.length_take, List.length_replicate, beN_len, macL_len, tagL_len, skQ_len, Int.toNat_natCast, List.length_nil, List.length_cons] <;> omega) | (simp [skQ_len] <;> omega)))) rfl (fun _ _ h => h.2) ?_
          rintro s72_10 w10 ⟨os72_10, x1⟩
          have ap_s38_5_s72_10 : Ap s38_5.ownBlock s72_10.ownBlock := Ap.mk (Bs.live rs38_5 (by rw [hsl]; omega)) (Ow.fr os72_10)
          have ap_s42_6_s72_10 : Ap s42_6.ownBlock s72_10.ownBlock := Ap.mk r43_7.live (Ow.fr os72_10)
          have fr_s72_10 : Fr w.heap.size s72_10.ownBlock := Fr.le (Ow.fr os72_10) e0.size
          replace os72_10 := Ow.base os72_10 e0.size
          have e0 := e0.trans x1
          have rs38_5 := rs38_5.ext x1
          have r43_7 := r43_7.ext x1
          have rs44_8 := rs44_8.ext x1
          have rs51_9 := rs51_9.ext x1
          clear x1
          refine J.o_op_g rfl rfl rfl rfl (Yd.bstr Try.underlying22 Try.underlying5 Try.underlying9 rfl (Ow.rd os72_10)) rfl ?_
          refine J.o_nil ?_
          refine J.s_op_g rfl rfl rfl rfl (fun _ => Yd.sne rfl rfl) rfl ?_
          refine J.s_op rfl (fun _ => Yd.pick_f rfl rfl) rfl ?_
          refine J.s_nil ?_
          refine J.n_np ?_
          refine J.n_then ?_
          refine J.know (t := 75) (v' := .bool false) rfl (ff (by rw [Int.toNat_natCast, sealL_ok (by omega) (by omega) (by omega), List.take_left' hcl, List.drop_zero, show (exQ (macL [] key) [115, 101, 97, 108] 64) = skQ key from rfl, show (32 : Int).toNat = 32 from rfl, seC_ref]; exact fun e => e rfl)) ?_
          refine J.cond_false rfl ?_
          refine J.skip ?_
          refine J.n_then ?_
          refine J.seq ?_
          refine J.regionO [(0, true), (1, true), (5, true), (7, true), (8, true), (12, true), (13, true), (14, true)] [(2, 1), (3, 1), (4, 1), (6, 1), (9, 1), (15, 1), (16, 1), (10, 1), (11, 0), (17, 0), (18, 0), (19, 0), (20, 1)] [(21, true), (22, true), (23, false), (24, true), (25, true)] mix (by kernel_rfl) ?_
          refine J.s_op rfl (fun _ => Yd.move rfl) rfl ?_
          refine J.s_op rfl (fun _ => Yd.move rfl) rfl ?_
          refine J.s_op rfl (fun _ => Yd.move rfl) rfl ?_
          refine J.s_op rfl (fun _ => Yd.move rfl) rfl ?_
          refine J.s_op rfl (fun _ => Yd.move rfl) rfl ?_
          refine J.s_op rfl (fun _ => Yd.move rfl) rfl ?_
          refine J.s_op rfl (fun _ => Yd.move rfl) rfl ?_
          refine J.s_op rfl (fun _ => Yd.move rfl) rfl ?_
          refine J.s_nil ?_
          refine J.o_op rfl (Yd.len_b Try.underlying22 rfl (Rd.ext ht e0)) rfl ?_
          refine J.o_op rfl (Yd.slcL Try.underlying22 ti5 rfl rs38_5 rfl (by first | omega | assumption | (simp only [List.length_append, List.length_map, List.flatten_cons, List.flatten_nil, List.append_nil, List.length_drop, List.length_take, List.length_replicate, beN_len, macL_len, tagL_len, skQ_len, hsq, hsl, xorL_len, Int.toNat_natCast, List.length_nil, List.length_cons] <;> omega) | (simp [skQ_len] <;> omega))) rfl ?_
          refine J.o_op rfl (Yd.bstr Try.underlying22 Try.underlying5 Try.underlying9 rfl (Bs.slc rs38_5 (by first | omega | assumption | (simp only [List.length_append, List.length_map, List.flatten_cons, List.flatten_nil, List.append_nil, List.length_drop, List.length_take, List.length_replicate, beN_len, macL_len, tagL_len, skQ_len, hsq, hsl, xorL_len, Int.toNat_natCast, List.length_nil, List.length_cons] <;> omega) | (simp [skQ_len] <;> omega)) (by first | omega | assumption | (simp only [List.length_append, List.length_map, List.flatten_cons, List.flatten_nil, List.append_nil, List.length_drop, List.length_take, List.length_replicate, beN_len, macL_len, tagL_len, skQ_len, hsq, hsl, xorL_len, Int.toNat_natCast, List.length_nil, List.length_cons] <;> omega) | (simp [skQ_len] <;> omega)))) rfl ?_
          refine J.o_op rfl (Yd.slcL Try.underlying22 ti5 rfl rs44_8 rfl (by first | omega | assumption | (simp only [List.length_append, List.length_map, List.flatten_cons, List.flatten_nil, List.append_nil, List.length_drop, List.length_take, List.length_replicate, beN_len, macL_len, tagL_len, skQ_len, hsq, hsl, xorL_len, Int.toNat_natCast, List.length_nil, List.length_cons] <;> omega) | (simp [skQ_len] <;> omega))) rfl ?_
          refine J.o_op rfl (Yd.len_b Try.underlying22 rfl (Rd.ext hd e0)) rfl ?_
          refine J.o_op rfl (Yd.len_b Try.underlying22 rfl (Rd.ext ht e0)) rfl ?_
          refine J.o_op rfl (Yd.slcH Try.underlying22 ti5 rfl rs38_5 rfl (by first | omega | assumption | (simp only [List.length_append, List.length_map, List.flatten_cons, List.flatten_nil, List.append_nil, List.length_drop, List.length_take, List.length_replicate, beN_len, macL_len, tagL_len, skQ_len, hsq, hsl, xorL_len, Int.toNat_natCast, List.length_nil, List.length_cons] <;> omega) | (simp [skQ_len] <;> omega))) rfl ?_
          refine J.o_op rfl (Yd.cv_i_64 Try.underlying3 Try.underlying42 rfl (by omega)) rfl ?_
          refine J.o_eff rfl (Ye.call cl21 rfl (RBig_ok (n := 8) (by omega))) rfl (fun _ _ h => h.2) ?_
          rintro s87_11 w11 ⟨os87_11, x1⟩
          have ap_s38_5_s87_11 : Ap s38_5.ownBlock s87_11.ownBlock := Ap.mk (Bs.live rs38_5 (by rw [hsl]; omega)) (Ow.fr os87_11)
          have ap_s42_6_s87_11 : Ap s42_6.ownBlock s87_11.ownBlock := Ap.mk r43_7.live (Ow.fr os87_11)
          have ap_s72_10_s87_11 : Ap s72_10.ownBlock s87_11.ownBlock := Ap.mk (Ow.live os72_10) (Ow.fr os87_11)
          have fr_s87_11 : Fr w.heap.size s87_11.ownBlock := Fr.le (Ow.fr os87_11) e0.size
          replace os87_11 := Ow.base os87_11 e0.size
          have e0 := e0.trans x1
          have rs38_5 := rs38_5.ext x1
          have r43_7 := r43_7.ext x1
          have rs44_8 := rs44_8.ext x1
          have rs51_9 := rs51_9.ext x1
          have os72_10 := os72_10.ext x1
          clear x1
          refine J.o_eff rfl (Ye.litS4 Try.underlying57 ti22 rfl rfl rfl rfl rfl (Rd.ext ho e0) (Ow.rd os87_11) (Rd.ext hd e0) (Bs.slc rs38_5 (by first | omega | assumption | (simp only [List.length_append, List.length_map, List.flatten_cons, List.flatten_nil, List.append_nil, List.length_drop, List.length_take, List.length_replicate, beN_len, macL_len, tagL_len, skQ_len, hsq, hsl, xorL_len, Int.toNat_natCast, List.length_nil, List.length_cons] <;> omega) | (simp [skQ_len] <;> omega)) (by first | omega | assumption | (simp only [List.length_append, List.length_map, List.flatten_cons, List.flatten_nil, List.append_nil, List.length_drop, List.length_take, List.length_replicate, beN_len, macL_len, tagL_len, skQ_len, hsq, hsl, xorL_len, Int.toNat_natCast, List.length_nil, List.length_cons] <;> omega) | (simp [skQ_len] <;> omega)))) rfl (fun _ _ h => h.2) ?_
          rintro s93_12 w12 ⟨o93_12, x1⟩
          have e0 := e0.trans x1
          have rs38_5 := rs38_5.ext x1
          have r43_7 := r43_7.ext x1
          have rs44_8 := rs44_8.ext x1
          have rs51_9 := rs51_9.ext x1
          have os72_10 := os72_10.ext x1
          have os87_11 := os87_11.ext x1
          clear x1
          refine J.o_eff rfl (Ye.call cl20 rfl (RCat_ok o93_12 (by first | omega | assumption | (simp only [List.length_append, List.length_map, List.flatten_cons, List.flatten_nil, List.append_nil, List.length_drop, List.length_take, List.length_replicate, beN_len, macL_len, tagL_len, skQ_len, hsq, xorL_len, Int.toNat_natCast, List.length_nil, List.length_cons] <;> omega) | (simp [skQ_len] <;> omega)))) rfl (fun _ _ h => h.2) ?_
          rintro s94_13 w13 ⟨os94_13, x1⟩
          have ap_s38_5_s94_13 : Ap s38_5.ownBlock s94_13.ownBlock := Ap.mk (Bs.live rs38_5 (by rw [hsl]; omega)) (Ow.fr os94_13)
          have ap_s42_6_s94_13 : Ap s42_6.ownBlock s94_13.ownBlock := Ap.mk r43_7.live (Ow.fr os94_13)
          have ap_s72_10_s94_13 : Ap s72_10.ownBlock s94_13.ownBlock := Ap.mk (Ow.live os72_10) (Ow.fr os94_13)
          have ap_s87_11_s94_13 : Ap s87_11.ownBlock s94_13.ownBlock := Ap.mk (Ow.live os87_11) (Ow.fr os94_13)
          have fr_s94_13 : Fr w.heap.size s94_13.ownBlock := Fr.le (Ow.fr os94_13) e0.size
          replace os94_13 := Ow.base os94_13 e0.size
          have e0 := e0.trans x1
          have rs38_5 := rs38_5.ext x1
          have r43_7 := r43_7.ext x1
          have rs44_8 := rs44_8.ext x1
          have rs51_9 := rs51_9.ext x1
          have os72_10 := os72_10.ext x1
          have os87_11 := os87_11.ext x1
          have o93_12 := o93_12.ext x1
          clear x1
          refine J.o_eff rfl (Ye.call cl19 rfl (RMac_ok (Bs.slc rs44_8 (by first | omega | assumption | (simp only [List.length_append, List.length_map, List.flatten_cons, List.flatten_nil, List.append_nil, List.length_drop, List.length_take, List.length_replicate, beN_len, macL_len, tagL_len, skQ_len, hsq, hsl, xorL_len, Int.toNat_natCast, List.length_nil, List.length_cons] <;> omega) | (simp [skQ_len] <;> omega)) (by first | omega | assumption | (simp only [List.length_append, List.length_map, List.flatten_cons, List.flatten_nil, List.append_nil, List.length_drop, List.length_take, List.length_replicate, beN_len, macL_len, tagL_len, skQ_len, hsq, hsl, xorL_len, Int.toNat_natCast, List.length_nil, List.length_cons] <;> omega) | (simp [skQ_len] <;> omega))) (Ow.rd os94_13) (by first | omega | assumption | (simp only [List.length_append, List.length_map, List.flatten_cons, List.flatten_nil, List.append_nil, List.length_drop, List.length_take, List.length_replicate, beN_len, macL_len, tagL_len, skQ_len, hsq, xorL_len, Int.toNat_natCast, List.length_nil, List.length_cons] <;> omega) | (simp [skQ_len] <;> omega)) (by first | omega | assumption | (simp only [List.length_append, List.length_map, List.flatten_cons, List.flatten_nil, List.append_nil, List.length_drop, List.length_take, List.length_replicate, beN_len, macL_len, tagL_len, skQ_len, hsq, xorL_len, Int.toNat_natCast, List.length_nil, List.length_cons] <;> omega) | (simp [skQ_len] <;> omega)))) rfl (fun _ _ h => h.2) ?_
          rintro s95_14 w14 ⟨os95_14, x1⟩
          have ap_s38_5_s95_14 : Ap s38_5.ownBlock s95_14.ownBlock := Ap.mk (Bs.live rs38_5 (by rw [hsl]; omega)) (Ow.fr os95_14)
          have ap_s42_6_s95_14 : Ap s42_6.ownBlock s95_14.ownBlock := Ap.mk r43_7.live (Ow.fr os95_14)
          have ap_s72_10_s95_14 : Ap s72_10.ownBlock s95_14.ownBlock := Ap.mk (Ow.live os72_10) (Ow.fr os95_14)
          have ap_s87_11_s95_14 : Ap s87_11.ownBlock s95_14.ownBlock := Ap.mk (Ow.live os87_11) (Ow.fr os95_14)
          have ap_s94_13_s95_14 : Ap s94_13.ownBlock s95_14.ownBlock := Ap.mk (Ow.live os94_13) (Ow.fr os95_14)
          have fr_s95_14 : Fr w.heap.size s95_14.ownBlock := Fr.le (Ow.fr os95_14) e0.size
          replace os95_14 := Ow.base os95_14 e0.size
          have e0 := e0.trans x1
          have rs38_5 := rs38_5.ext x1
          have r43_7 := r43_7.ext x1
          have rs44_8 := rs44_8.ext x1
          have rs51_9 := rs51_9.ext x1
          have os72_10 := os72_10.ext x1
          have os87_11 := os87_11.ext x1
          have o93_12 := o93_12.ext x1
          have os94_13 := os94_13.ext x1
          clear x1
          refine J.o_op rfl (Yd.bstr Try.underlying22 Try.underlying5 Try.underlying9 rfl (Ow.rd os95_14)) rfl ?_
          refine J.o_nil ?_
          refine J.s_op rfl (fun _ => Yd.seq rfl rfl) rfl ?_
          refine J.s_op rfl (fun _ => Yd.move rfl) rfl ?_
          refine J.know (t := 98) (v' := .bool true) rfl (tt (by rw [Int.toNat_natCast, Int.toNat_natCast, hLS, sealL_ok (by omega) (by omega) (by omega), List.drop_left' hcl, List.take_left' hcl, List.drop_zero, show (exQ (macL [] key) [115, 101, 97, 108] 64) = skQ key from rfl, hLQ, show (32 : Int).toNat = 32 from rfl, tagL]; simp only [List.flatten_cons, List.flatten_nil, List.append_nil, List.append_assoc])) ?_
          refine J.s_eff_g rfl rfl rfl rfl (Ye.call cl7 rfl (awake_ok)) rfl ?_
          rintro _ w15 ⟨rfl, x1⟩
          have e0 := e0.trans x1
          have rs38_5 := rs38_5.ext x1
          have r43_7 := r43_7.ext x1
          have rs44_8 := rs44_8.ext x1
          have rs51_9 := rs51_9.ext x1
          have os72_10 := os72_10.ext x1
          have os87_11 := os87_11.ext x1
          have o93_12 := o93_12.ext x1
          have os94_13 := os94_13.ext x1
          have os95_14 := os95_14.ext x1
          clear x1
          refine J.s_op rfl (fun _ => Yd.pick_t rfl rfl) rfl ?_
          refine J.s_op rfl (fun _ => Yd.assign rfl) rfl ?_
          refine J.s_nil ?_
          refine J.n_np ?_
          refine J.n_then ?_
          refine J.ret ?_
          exact J.ret1 rfl rfl (⟨_, rfl, rfl, e0⟩)
end Ytpkpicnldpbomaa
end Go.Proofs
