import Derived.Test.YtpkpicnldpbomaaT
import Derived.Test.YtpkpicnldpbomaaQ1
set_option linter.unusedVariables false
set_option linter.unusedSimpArgs false
set_option maxRecDepth 100000
set_option maxHeartbeats 4000000
namespace Go.Proofs
open Go.X Go.RowKit
namespace Ytpkpicnldpbomaa
theorem May_ok {b : Nat} {u v z : Value} {key nonce data text : List UInt8} {w : World} (hB : BoxP 46 64 62 5 w b key) (ho : Bs w u nonce) (hd : Bs w v data) (ht : Bs w z text) {lim : Nat} : C Try.prog 24 [.pointer (some ⟨b, 0, none⟩), u, v, z, I (lim : Int)] w (Ret fun v w' => v = I (mayE nonce data text lim) ∧ Ext w w') := by
  have hB0 := hB
  obtain ⟨s, bk, hc, hs, hK⟩ := hB
  have e0 := Ext.refl w
  refine C.enter Try.func24 rfl Try.ntmps24 rfl ?_
  refine J.seq ?_
  refine J.region ?_
  refine J.op (Yd.assign rfl) rfl ?_
  refine J.nil ?_
  refine J.n_then ?_
  refine J.seq ?_
  refine J.block ?_
  refine J.seq ?_
  refine J.region ?_
  refine J.op (Yd.move rfl) rfl ?_
  refine J.op (Yd.cast (Yd.eqPn Try.underlying30 rfl rfl) (show _ = Value.bool false from rfl)) rfl ?_
  refine J.op (Yd.move rfl) rfl ?_
  refine J.op_g rfl rfl rfl (Yd.move rfl) rfl ?_
  refine J.op_g rfl rfl rfl (Yd.nilCheck rfl) rfl ?_
  refine J.op_g rfl rfl rfl (Yd.cast (Yd.fieldA Try.underlying46 rfl ti43 rfl rfl) (show _ = Value.pointer (some ⟨b, 1, none⟩) from rfl)) rfl ?_
  refine J.op_g rfl rfl rfl (Yd.load pl43 rfl (Cel.cell1 (Cel.ext hc e0) 1 rfl)) rfl ?_
  refine J.op_g rfl rfl rfl (Yd.cast (Yd.eqPn Try.underlying43 rfl rfl) (show _ = Value.bool false from rfl)) rfl ?_
  refine J.op (Yd.pick_f rfl rfl) rfl ?_
  refine J.op (Yd.move rfl) rfl ?_
  refine J.op_g rfl rfl rfl (Yd.move rfl) rfl ?_
  refine J.op_g rfl rfl rfl (Yd.len_b Try.underlying22 rfl ho) rfl ?_
  refine J.op_g rfl rfl rfl (Yd.neq rfl rfl) rfl ?_
  refine J.op (Yd.pick_f rfl rfl) rfl ?_
  refine J.op (Yd.assign rfl) rfl ?_
  refine J.nil ?_
  refine J.n_then ?_
  refine J.cond_dec rfl (fun hc0 => ?_) (fun hc0 => ?_)
  · skip
    refine J.seq ?_
    refine J.region ?_
    refine J.op (Yd.assign rfl) rfl ?_
    refine J.nil ?_
    refine J.n_then ?_
    refine J.ret ?_
    refine J.r_block ?_
    refine J.r_then ?_
    exact J.ret1 rfl rfl (⟨_, rfl, congrArg (fun x => I x) (by first | exact (mayE_arg (by omega)).symm | exact (mayE_big (by omega) (by omega)).symm | exact (mayE_ok (by omega) (by omega)).symm), e0⟩)
  · skip
    refine J.seq ?_
    refine J.region ?_
    refine J.op (Yd.move rfl) rfl ?_
    refine J.op (Yd.len_b Try.underlying22 rfl ht) rfl ?_
    refine J.op (Yd.move rfl) rfl ?_
    refine J.op (Yd.gtr rfl rfl) rfl ?_
    refine J.op (Yd.move rfl) rfl ?_
    refine J.split_dec (t := 31) rfl (fun h2 => ?_) (fun h2 => ?_)
    · skip
      refine J.not_g rfl rfl rfl rfl rfl ?_
      refine J.not_g rfl rfl rfl rfl rfl ?_
      refine J.not_g rfl rfl rfl rfl rfl ?_
      refine J.op (Yd.pick_t rfl rfl) rfl ?_
      refine J.op (Yd.assign rfl) rfl ?_
      refine J.nil ?_
      refine J.n_then ?_
      refine J.cond_true rfl ?_
      refine J.seq ?_
      refine J.region ?_
      refine J.op (Yd.assign rfl) rfl ?_
      refine J.nil ?_
      refine J.n_then ?_
      refine J.ret ?_
      refine J.r_block ?_
      refine J.r_then ?_
      exact J.ret1 rfl rfl (⟨_, rfl, congrArg (fun x => I x) (by first | exact (mayE_arg (by omega)).symm | exact (mayE_big (by omega) (by omega)).symm | exact (mayE_ok (by omega) (by omega)).symm), e0⟩)
    · skip
      refine J.op_g rfl rfl rfl (Yd.move rfl) rfl ?_
      refine J.op_g rfl rfl rfl (Yd.len_b Try.underlying22 rfl hd) rfl ?_
      refine J.op_g rfl rfl rfl (Yd.gtr rfl rfl) rfl ?_
      refine J.op (Yd.pick_f rfl rfl) rfl ?_
      refine J.op (Yd.assign rfl) rfl ?_
      refine J.nil ?_
      refine J.n_then ?_
      refine J.cond_dec rfl (fun hc1 => ?_) (fun hc1 => ?_)
      · skip
        refine J.seq ?_
        refine J.region ?_
        refine J.op (Yd.assign rfl) rfl ?_
        refine J.nil ?_
        refine J.n_then ?_
        refine J.ret ?_
        refine J.r_block ?_
        refine J.r_then ?_
        exact J.ret1 rfl rfl (⟨_, rfl, congrArg (fun x => I x) (by first | exact (mayE_arg (by omega)).symm | exact (mayE_big (by omega) (by omega)).symm | exact (mayE_ok (by omega) (by omega)).symm), e0⟩)
      · skip
        refine J.skip ?_
        refine J.n_block ?_
        refine J.n_then ?_
        refine J.seq ?_
        refine J.region ?_
        refine J.op (Yd.assign rfl) rfl ?_
        refine J.nil ?_
        refine J.n_then ?_
        refine J.ret ?_
        exact J.ret1 rfl rfl (⟨_, rfl, congrArg (fun x => I x) (by first | exact (mayE_arg (by omega)).symm | exact (mayE_big (by omega) (by omega)).symm | exact (mayE_ok (by omega) (by omega)).symm), e0⟩)

theorem MayNil_ok {u v z : Value} {x : Int} {w : World} : C Try.prog 24 [.pointer none, u, v, z, I x] w (Ret fun v w' => v = I 1 ∧ Ext w w') := by
  have e0 := Ext.refl w
  refine C.enter Try.func24 rfl Try.ntmps24 rfl ?_
  refine J.seq ?_
  refine J.region ?_
  refine J.op (Yd.assign rfl) rfl ?_
  refine J.nil ?_
  refine J.n_then ?_
  refine J.seq ?_
  refine J.block ?_
  refine J.seq ?_
  refine J.region ?_
  refine J.op (Yd.move rfl) rfl ?_
  refine J.op (Yd.cast (Yd.eqPn Try.underlying30 rfl rfl) (show _ = Value.bool true from rfl)) rfl ?_
  refine J.op (Yd.move rfl) rfl ?_
  refine J.not_g rfl rfl rfl rfl rfl ?_
  refine J.not_g rfl rfl rfl rfl rfl ?_
  refine J.not_g rfl rfl rfl rfl rfl ?_
  refine J.not_g rfl rfl rfl rfl rfl ?_
  refine J.not_g rfl rfl rfl rfl rfl ?_
  refine J.op (Yd.pick_t rfl rfl) rfl ?_
  refine J.op (Yd.move rfl) rfl ?_
  refine J.not_g rfl rfl rfl rfl rfl ?_
  refine J.not_g rfl rfl rfl rfl rfl ?_
  refine J.not_g rfl rfl rfl rfl rfl ?_
  refine J.op (Yd.pick_t rfl rfl) rfl ?_
  refine J.op (Yd.assign rfl) rfl ?_
  refine J.nil ?_
  refine J.n_then ?_
  refine J.cond_true rfl ?_
  refine J.seq ?_
  refine J.region ?_
  refine J.op (Yd.assign rfl) rfl ?_
  refine J.nil ?_
  refine J.n_then ?_
  refine J.ret ?_
  refine J.r_block ?_
  refine J.r_then ?_
  exact J.ret1 rfl rfl (⟨_, rfl, rfl, e0⟩)

theorem Tag_ok {b : Nat} {u v z : Value} {key nonce data text : List UInt8} {w : World} (hB : BoxP 46 64 62 5 w b key) (ho : Bs w u nonce) (hd : Bs w v data) (ht : Bs w z text) (hl : nonce.length ≤ 1000000) (hl2 : data.length ≤ 1000000) (hl3 : text.length ≤ 1000000) : C Try.prog 26 [.pointer (some ⟨b, 0, none⟩), u, v, z] w (Ret fun x w' => Ob w.heap.size 5 w' x (tagL key nonce data text) ∧ Ext w w') := by
  have hB0 := hB
  obtain ⟨s, bk, hc, hs, hK⟩ := hB
  have e0 := Ext.refl w
  refine C.enter Try.func26 rfl Try.ntmps26 rfl ?_
  refine J.seq ?_
  refine J.region ?_
  refine J.op (Yd.assign rfl) rfl ?_
  refine J.nil ?_
  refine J.n_then ?_
  refine J.seq ?_
  refine J.regionO [(0, true), (1, true), (2, true), (4, true), (5, true), (9, true), (10, true)] [(3, 1), (6, 1), (7, 1), (8, 0), (11, 0)] [(12, false), (13, true)] mix (by kernel_rfl) ?_
  refine J.s_op rfl (fun _ => Yd.move rfl) rfl ?_
  refine J.s_op rfl (fun _ => Yd.nilCheck rfl) rfl ?_
  refine J.s_op rfl (fun _ => Yd.cast (Yd.fieldA Try.underlying46 rfl ti43 rfl rfl) (show _ = Value.pointer (some ⟨b, 1, none⟩) from rfl)) rfl ?_
  refine J.s_op rfl (fun _ => Yd.move rfl) rfl ?_
  refine J.s_op rfl (fun _ => Yd.move rfl) rfl ?_
  refine J.s_op rfl (fun _ => Yd.move rfl) rfl ?_
  refine J.s_op rfl (fun _ => Yd.move rfl) rfl ?_
  refine J.s_nil ?_
  refine J.o_op rfl (Yd.load pl43 rfl (Cel.cell1 (Cel.ext hc e0) 1 rfl)) rfl ?_
  refine J.o_op rfl (Yd.len_b Try.underlying22 rfl hd) rfl ?_
  refine J.o_op rfl (Yd.cv_i_64 Try.underlying3 Try.underlying42 rfl (by omega)) rfl ?_
  refine J.o_eff rfl (Ye.call cl41 rfl (Put64_ok)) rfl (fun _ _ h => h.2) ?_
  rintro s17_1 w1 ⟨os17_1, x1⟩
  have fr_s17_1 : Fr w.heap.size s17_1.ownBlock := Fr.le (Ow.fr os17_1) e0.size
  replace os17_1 := Ow.base os17_1 e0.size
  have e0 := e0.trans x1
  clear x1
  refine J.o_eff rfl (Ye.litS4 Try.underlying57 ti22 rfl rfl rfl rfl rfl (Rd.ext ho e0) (Ow.rd os17_1) (Rd.ext hd e0) (Rd.ext ht e0)) rfl (fun _ _ h => h.2) ?_
  rintro s20_2 w2 ⟨o20_2, x1⟩
  have e0 := e0.trans x1
  have os17_1 := os17_1.ext x1
  clear x1
  refine J.o_nil ?_
  refine J.s_eff rfl (Ye.call cl40 rfl (KMac_ok (KeyP.ext hK e0) o20_2 (by first | omega | assumption | (simp only [List.length_append, List.length_map, List.flatten_cons, List.flatten_nil, List.append_nil, List.length_drop, List.length_take, List.length_replicate, beN_len, macL_len, tagL_len, skQ_len, Int.toNat_natCast, List.length_nil, List.length_cons] <;> omega) | (simp [skQ_len] <;> omega)))) rfl ?_
  rintro s21_3 w3 ⟨os21_3, x1⟩
  have ap_s17_1_s21_3 : Ap s17_1.ownBlock s21_3.ownBlock := Ap.mk (Ow.live os17_1) (Ow.fr os21_3)
  have fr_s21_3 : Fr w.heap.size s21_3.ownBlock := Fr.le (Ow.fr os21_3) e0.size
  replace os21_3 := Ow.base os21_3 e0.size
  have e0 := e0.trans x1
  have os17_1 := os17_1.ext x1
  have o20_2 := o20_2.ext x1
  clear x1
  refine J.s_op rfl (fun _ => Yd.assign rfl) rfl ?_
  refine J.s_nil ?_
  refine J.n_np ?_
  refine J.n_then ?_
  refine J.ret ?_
  exact J.ret1 rfl rfl (⟨_, rfl, (by have h9 := os21_3; rw [show ([nonce, beN (UInt64.ofNat (data.length : Int).toNat) 8, data, text] : List (List UInt8)).flatten = nonce ++ beN (UInt64.ofNat data.length) 8 ++ data ++ text by simp] at h9; exact h9), e0⟩)
end Ytpkpicnldpbomaa
end Go.Proofs
