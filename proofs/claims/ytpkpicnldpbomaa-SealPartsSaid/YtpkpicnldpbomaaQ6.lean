import Derived.Test.YtpkpicnldpbomaaT
import Derived.Test.YtpkpicnldpbomaaQ5
set_option linter.unusedVariables false
set_option linter.unusedSimpArgs false
set_option maxRecDepth 100000
set_option maxHeartbeats 4000000
namespace Go.Proofs
open Go.X Go.RowKit
namespace Ytpkpicnldpbomaa
theorem awake_ok {w : World} : C Try.prog 7 [] w (Ret fun v w' => v = .bool true ∧ Ext w w') := by
  have e0 := Ext.refl w
  refine C.enter Try.func7 rfl Try.ntmps7 rfl ?_
  refine J.seq ?_
  refine J.region ?_
  refine J.op (Yd.assign rfl) rfl ?_
  refine J.nil ?_
  refine J.n_then ?_
  refine J.seq ?_
  refine J.regionA [] [(0, Asr.own 6 w.heap.size 5 (((List.replicate 32 (0 : UInt8)).map fun x => B x))), (1, Asr.own 7 w.heap.size 5 (((List.replicate 12 (0 : UInt8)).map fun x => B x)))] [0, 1] [6, 7] [[], []] [(2, false), (3, true), (4, true), (5, true), (6, true), (7, true)] rfl rfl mix (by kernel_rfl) ?_
  refine J.s_nil ?_
  refine J.a_in [0, 1] rfl (by rfl) ⟨?_, ?_, trivial⟩ ?_
  · skip
    intro w1 x1
    have xs1 := x1.size
    have e0 := e0.trans x1
    clear x1
    refine PremP.nil ?_
    exact OpYe.mk rfl ((Ye.make (base := w1.heap.size) Try.underlying22 ti5 rfl rfl (by first | omega | assumption | (simp only [List.length_append, List.length_map, List.flatten_cons, List.flatten_nil, List.append_nil, List.length_drop, List.length_take, List.length_replicate, beN_len, macL_len, tagL_len, skQ_len, Int.toNat_natCast, List.length_nil, List.length_cons] <;> omega) | (simp [skQ_len] <;> omega)) (by first | omega | assumption | (simp only [List.length_append, List.length_map, List.flatten_cons, List.flatten_nil, List.append_nil, List.length_drop, List.length_take, List.length_replicate, beN_len, macL_len, tagL_len, skQ_len, Int.toNat_natCast, List.length_nil, List.length_cons] <;> omega) | (simp [skQ_len] <;> omega)) (by unfold maxLen; omega) rfl (Nat.le_refl _)).mono fun v w2 h => ⟨⟨v, rfl, by have h9 := Ow.base h.1 xs1; rw [rep_B] at h9; skip; exact h9⟩, h.2⟩)
  · skip
    intro w2 x1
    have xs1 := x1.size
    have e0 := e0.trans x1
    clear x1
    refine PremP.nil ?_
    exact OpYe.mk rfl ((Ye.make (base := w2.heap.size) Try.underlying22 ti5 rfl rfl (by first | omega | assumption | (simp only [List.length_append, List.length_map, List.flatten_cons, List.flatten_nil, List.append_nil, List.length_drop, List.length_take, List.length_replicate, beN_len, macL_len, tagL_len, skQ_len, Int.toNat_natCast, List.length_nil, List.length_cons] <;> omega) | (simp [skQ_len] <;> omega)) (by first | omega | assumption | (simp only [List.length_append, List.length_map, List.flatten_cons, List.flatten_nil, List.append_nil, List.length_drop, List.length_take, List.length_replicate, beN_len, macL_len, tagL_len, skQ_len, Int.toNat_natCast, List.length_nil, List.length_cons] <;> omega) | (simp [skQ_len] <;> omega)) (by unfold maxLen; omega) rfl (Nat.le_refl _)).mono fun v w2 h => ⟨⟨v, rfl, by have h9 := Ow.base h.1 xs1; rw [rep_B] at h9; skip; exact h9⟩, h.2⟩)
  intro w3 x1
  refine PremP.own rfl fun s6_3 o6_3 => ?_
  have o6_3b := o6_3
  have fr_s6_3 : Fr w.heap.size s6_3.ownBlock := Fr.le (Ow.fr o6_3) e0.size
  replace o6_3 := Ow.base o6_3 e0.size
  refine PremP.own rfl fun s7_3 o7_3 => ?_
  have o7_3b := o7_3
  have fr_s7_3 : Fr w.heap.size s7_3.ownBlock := Fr.le (Ow.fr o7_3) e0.size
  replace o7_3 := Ow.base o7_3 e0.size
  have xs1 := x1.size
  have e0 := e0.trans x1
  clear x1
  refine PremP.nil ?_
  refine J.s_eff rfl (Ye.call cl8 rfl (Seal_ok (Ow.rd o6_3) (Ow.rd o7_3) (Rd.nilM (fun x : UInt8 => B x) _) (Rd.nilM (fun x : UInt8 => B x) _))) rfl ?_
  rintro _ w4 ⟨s8_4, rfl, rs8_4, x1⟩
  have e0 := e0.trans x1
  have o6_3 := o6_3.ext x1
  have o7_3 := o7_3.ext x1
  clear x1
  refine J.s_op rfl (fun _ => Yd.move rfl) rfl ?_
  refine J.s_op rfl (fun _ => Yd.extract rfl rfl) rfl ?_
  refine J.s_op rfl (fun _ => Yd.extract rfl rfl) rfl ?_
  refine J.s_op rfl (fun _ => Yd.assign rfl) rfl ?_
  refine J.s_op rfl (fun _ => Yd.assign rfl) rfl ?_
  refine J.s_nil ?_
  refine J.n_np ?_
  refine J.n_then ?_
  refine J.seq ?_
  refine J.regionA [] [(0, Asr.own 12 w4.heap.size 5 (((List.replicate 32 (0 : UInt8)).map fun x => B x))), (1, Asr.own 13 w4.heap.size 5 (((List.replicate 12 (0 : UInt8)).map fun x => B x)))] [0, 1] [12, 13] [[], []] [(2, false), (3, true), (4, true), (5, true), (6, true), (7, true)] rfl rfl mix (by kernel_rfl) ?_
  refine J.s_nil ?_
  refine J.a_in [0, 1] rfl (by rfl) ⟨?_, ?_, trivial⟩ ?_
  · skip
    intro w5 x1
    have xs1 := x1.size
    have e0 := e0.trans x1
    have o6_3 := o6_3.ext x1
    have o7_3 := o7_3.ext x1
    have rs8_4 := rs8_4.ext x1
    clear x1
    refine PremP.nil ?_
    exact OpYe.mk rfl ((Ye.make (base := w5.heap.size) Try.underlying22 ti5 rfl rfl (by first | omega | assumption | (simp only [List.length_append, List.length_map, List.flatten_cons, List.flatten_nil, List.append_nil, List.length_drop, List.length_take, List.length_replicate, beN_len, macL_len, tagL_len, skQ_len, Int.toNat_natCast, List.length_nil, List.length_cons] <;> omega) | (simp [skQ_len] <;> omega)) (by first | omega | assumption | (simp only [List.length_append, List.length_map, List.flatten_cons, List.flatten_nil, List.append_nil, List.length_drop, List.length_take, List.length_replicate, beN_len, macL_len, tagL_len, skQ_len, Int.toNat_natCast, List.length_nil, List.length_cons] <;> omega) | (simp [skQ_len] <;> omega)) (by unfold maxLen; omega) rfl (Nat.le_refl _)).mono fun v w2 h => ⟨⟨v, rfl, by have h9 := Ow.base h.1 xs1; rw [rep_B] at h9; skip; exact h9⟩, h.2⟩)
  · skip
    intro w6 x1
    have xs1 := x1.size
    have e0 := e0.trans x1
    have o6_3 := o6_3.ext x1
    have o7_3 := o7_3.ext x1
    have rs8_4 := rs8_4.ext x1
    clear x1
    refine PremP.nil ?_
    exact OpYe.mk rfl ((Ye.make (base := w6.heap.size) Try.underlying22 ti5 rfl rfl (by first | omega | assumption | (simp only [List.length_append, List.length_map, List.flatten_cons, List.flatten_nil, List.append_nil, List.length_drop, List.length_take, List.length_replicate, beN_len, macL_len, tagL_len, skQ_len, Int.toNat_natCast, List.length_nil, List.length_cons] <;> omega) | (simp [skQ_len] <;> omega)) (by first | omega | assumption | (simp only [List.length_append, List.length_map, List.flatten_cons, List.flatten_nil, List.append_nil, List.length_drop, List.length_take, List.length_replicate, beN_len, macL_len, tagL_len, skQ_len, Int.toNat_natCast, List.length_nil, List.length_cons] <;> omega) | (simp [skQ_len] <;> omega)) (by unfold maxLen; omega) rfl (Nat.le_refl _)).mono fun v w2 h => ⟨⟨v, rfl, by have h9 := Ow.base h.1 xs1; rw [rep_B] at h9; skip; exact h9⟩, h.2⟩)
  intro w7 x1
  refine PremP.own rfl fun s12_7 o12_7 => ?_
  have o12_7b := o12_7
  have ap_s6_3_s12_7 : Ap s6_3.ownBlock s12_7.ownBlock := Ap.mk (Ow.live o6_3) (Ow.fr o12_7)
  have ap_s7_3_s12_7 : Ap s7_3.ownBlock s12_7.ownBlock := Ap.mk (Ow.live o7_3) (Ow.fr o12_7)
  have fr_s12_7 : Fr w.heap.size s12_7.ownBlock := Fr.le (Ow.fr o12_7) e0.size
  replace o12_7 := Ow.base o12_7 e0.size
  refine PremP.own rfl fun s13_7 o13_7 => ?_
  have o13_7b := o13_7
  have ap_s6_3_s13_7 : Ap s6_3.ownBlock s13_7.ownBlock := Ap.mk (Ow.live o6_3) (Ow.fr o13_7)
  have ap_s7_3_s13_7 : Ap s7_3.ownBlock s13_7.ownBlock := Ap.mk (Ow.live o7_3) (Ow.fr o13_7)
  have fr_s13_7 : Fr w.heap.size s13_7.ownBlock := Fr.le (Ow.fr o13_7) e0.size
  replace o13_7 := Ow.base o13_7 e0.size
  have xs1 := x1.size
  have e0 := e0.trans x1
  have o6_3 := o6_3.ext x1
  have o7_3 := o7_3.ext x1
  have rs8_4 := rs8_4.ext x1
  clear x1
  refine PremP.nil ?_
  refine J.s_eff rfl (Ye.call cl10 rfl (Open_ok (Ow.rd o12_7) (Ow.rd o13_7) (Rd.nilM (fun x : UInt8 => B x) _) (Rd.nilM (fun x : UInt8 => B x) _))) rfl ?_
  rintro _ w8 ⟨s14_8, rfl, rs14_8, x1⟩
  have e0 := e0.trans x1
  have o6_3 := o6_3.ext x1
  have o7_3 := o7_3.ext x1
  have rs8_4 := rs8_4.ext x1
  have o12_7 := o12_7.ext x1
  have o13_7 := o13_7.ext x1
  clear x1
  refine J.s_op rfl (fun _ => Yd.move rfl) rfl ?_
  refine J.s_op rfl (fun _ => Yd.extract rfl rfl) rfl ?_
  refine J.s_op rfl (fun _ => Yd.extract rfl rfl) rfl ?_
  refine J.s_op rfl (fun _ => Yd.assign rfl) rfl ?_
  refine J.s_op rfl (fun _ => Yd.assign rfl) rfl ?_
  refine J.s_nil ?_
  refine J.n_np ?_
  refine J.n_then ?_
  refine J.seq ?_
  refine J.region ?_
  refine J.op (Yd.move rfl) rfl ?_
  refine J.op (Yd.eql rfl rfl) rfl ?_
  refine J.op (Yd.move rfl) rfl ?_
  refine J.know (t := 19) (v' := .bool true) rfl (tt (by exact sealE_ok (by simp) (by simp) (by simp))) ?_
  refine J.op_g rfl rfl rfl (Yd.move rfl) rfl ?_
  refine J.op_g rfl rfl rfl (Yd.len_b Try.underlying22 rfl rs8_4) rfl ?_
  refine J.op_g rfl rfl rfl (Yd.eql rfl rfl) rfl ?_
  refine J.op (Yd.pick_t rfl rfl) rfl ?_
  refine J.op (Yd.move rfl) rfl ?_
  refine J.know (t := 24) (v' := .bool true) rfl (tt (by rw [sealL_len (sealE_ok (by simp) (by simp) (by simp))]; rfl)) ?_
  refine J.op_g rfl rfl rfl (Yd.move rfl) rfl ?_
  refine J.op_g rfl rfl rfl (Yd.eql rfl rfl) rfl ?_
  refine J.op (Yd.pick_t rfl rfl) rfl ?_
  refine J.op (Yd.assign rfl) rfl ?_
  refine J.nil ?_
  refine J.n_then ?_
  refine J.ret ?_
  exact J.ret1 rfl rfl (⟨_, rfl, congrArg Value.bool (decide_eq_true (by exact openE_bad (by simp) (by simp) (by simp) (.inl (by decide)))), e0⟩)

theorem SealAsks_ok {a u v z y : Value} {key nonce data text box : List UInt8} {w : World} (hk : Bs w a key) (ho : Bs w u nonce) (hd : Bs w v data) (ht : Bs w z text) (hb : Bs w y box) : C Try.prog 3 [a, u, v, z, y] w (Ret fun v w' => v = .bool true ∧ Ext w w') := by
  have e0 := Ext.refl w
  refine C.enter Try.func3 rfl Try.ntmps3 rfl ?_
  refine J.seq ?_
  refine J.region ?_
  refine J.op (Yd.assign rfl) rfl ?_
  refine J.nil ?_
  refine J.n_then ?_
  refine J.seq ?_
  refine J.seq ?_
  refine J.region ?_
  refine J.op (Yd.move rfl) rfl ?_
  refine J.op (Yd.len_b Try.underlying22 rfl hk) rfl ?_
  refine J.op (Yd.gtr rfl rfl) rfl ?_
  refine J.op (Yd.move rfl) rfl ?_
  refine J.split_dec (t := 22) rfl (fun h1 => ?_) (fun h1 => ?_)
  · skip
    refine J.not_g rfl rfl rfl rfl rfl ?_
    refine J.not_g rfl rfl rfl rfl rfl ?_
    refine J.not_g rfl rfl rfl rfl rfl ?_
    refine J.op (Yd.pick_t rfl rfl) rfl ?_
    refine J.op (Yd.move rfl) rfl ?_
    refine J.not_g rfl rfl rfl rfl rfl ?_
    refine J.not_g rfl rfl rfl rfl rfl ?_
    refine J.not_g rfl rfl rfl rfl rfl ?_
    refine J.op (Yd.pick_t rfl rfl) rfl ?_
    refine J.op (Yd.move rfl) rfl ?_
    refine J.not_g rfl rfl rfl rfl rfl ?_
    refine J.not_g rfl rfl rfl rfl rfl ?_
    refine J.not_g rfl rfl rfl rfl rfl ?_
    refine J.op (Yd.pick_t rfl rfl) rfl ?_
    refine J.op (Yd.move rfl) rfl ?_
    refine J.not_g rfl rfl rfl rfl rfl ?_
    refine J.not_g rfl rfl rfl rfl rfl ?_
    refine J.not_g rfl rfl rfl rfl rfl ?_
    refine J.op (Yd.pick_t rfl rfl) rfl ?_
    refine J.nil ?_
    refine J.n_then ?_
    refine J.cond_true rfl ?_
    refine J.seq ?_
    refine J.region ?_
    refine J.eff (Ye.call cl7 rfl (awake_ok)) rfl ?_
    rintro _ w1 ⟨rfl, x1⟩
    have e0 := e0.trans x1
    clear x1
    refine J.op (Yd.assign rfl) rfl ?_
    refine J.nil ?_
    refine J.n_then ?_
    refine J.ret ?_
    refine J.r_then ?_
    exact J.ret1 rfl rfl (⟨_, rfl, rfl, e0⟩)
  · skip
    refine J.op_g rfl rfl rfl (Yd.move rfl) rfl ?_
    refine J.op_g rfl rfl rfl (Yd.len_b Try.underlying22 rfl ho) rfl ?_
    refine J.op_g rfl rfl rfl (Yd.gtr rfl rfl) rfl ?_
    refine J.op (Yd.pick_f rfl rfl) rfl ?_
    refine J.op (Yd.move rfl) rfl ?_
    refine J.split_dec (t := 27) rfl (fun h2 => ?_) (fun h2 => ?_)
    · skip
      refine J.not_g rfl rfl rfl rfl rfl ?_
      refine J.not_g rfl rfl rfl rfl rfl ?_
      refine J.not_g rfl rfl rfl rfl rfl ?_
      refine J.op (Yd.pick_t rfl rfl) rfl ?_
      refine J.op (Yd.move rfl) rfl ?_
      refine J.not_g rfl rfl rfl rfl rfl ?_
      refine J.not_g rfl rfl rfl rfl rfl ?_
      refine J.not_g rfl rfl rfl rfl rfl ?_
      refine J.op (Yd.pick_t rfl rfl) rfl ?_
      refine J.op (Yd.move rfl) rfl ?_
      refine J.not_g rfl rfl rfl rfl rfl ?_
      refine J.not_g rfl rfl rfl rfl rfl ?_
      refine J.not_g rfl rfl rfl rfl rfl ?_
      refine J.op (Yd.pick_t rfl rfl) rfl ?_
      refine J.nil ?_
      refine J.n_then ?_
      refine J.cond_true rfl ?_
      refine J.seq ?_
      refine J.region ?_
      refine J.eff (Ye.call cl7 rfl (awake_ok)) rfl ?_
      rintro _ w2 ⟨rfl, x1⟩
      have e0 := e0.trans x1
      clear x1
      refine J.op (Yd.assign rfl) rfl ?_
      refine J.nil ?_
      refine J.n_then ?_
      refine J.ret ?_
      refine J.r_then ?_
      exact J.ret1 rfl rfl (⟨_, rfl, rfl, e0⟩)
    · skip
      refine J.op_g rfl rfl rfl (Yd.move rfl) rfl ?_
      refine J.op_g rfl rfl rfl (Yd.len_b Try.underlying22 rfl hd) rfl ?_
      refine J.op_g rfl rfl rfl (Yd.gtr rfl rfl) rfl ?_
      refine J.op (Yd.pick_f rfl rfl) rfl ?_
      refine J.op (Yd.move rfl) rfl ?_
      refine J.split_dec (t := 32) rfl (fun h3 => ?_) (fun h3 => ?_)
      · skip
        refine J.not_g rfl rfl rfl rfl rfl ?_
        refine J.not_g rfl rfl rfl rfl rfl ?_
        refine J.not_g rfl rfl rfl rfl rfl ?_
        refine J.op (Yd.pick_t rfl rfl) rfl ?_
        refine J.op (Yd.move rfl) rfl ?_
        refine J.not_g rfl rfl rfl rfl rfl ?_
        refine J.not_g rfl rfl rfl rfl rfl ?_
        refine J.not_g rfl rfl rfl rfl rfl ?_
        refine J.op (Yd.pick_t rfl rfl) rfl ?_
        refine J.nil ?_
        refine J.n_then ?_
        refine J.cond_true rfl ?_
        refine J.seq ?_
        refine J.region ?_
        refine J.eff (Ye.call cl7 rfl (awake_ok)) rfl ?_
        rintro _ w3 ⟨rfl, x1⟩
        have e0 := e0.trans x1
        clear x1
        refine J.op (Yd.assign rfl) rfl ?_
        refine J.nil ?_
        refine J.n_then ?_
        refine J.ret ?_
        refine J.r_then ?_
        exact J.ret1 rfl rfl (⟨_, rfl, rfl, e0⟩)
      · skip
        refine J.op_g rfl rfl rfl (Yd.move rfl) rfl ?_
        refine J.op_g rfl rfl rfl (Yd.len_b Try.underlying22 rfl ht) rfl ?_
        refine J.op_g rfl rfl rfl (Yd.gtr rfl rfl) rfl ?_
        refine J.op (Yd.pick_f rfl rfl) rfl ?_
        refine J.op (Yd.move rfl) rfl ?_
        refine J.split_dec (t := 37) rfl (fun h4 => ?_) (fun h4 => ?_)
        · skip
          refine J.not_g rfl rfl rfl rfl rfl ?_
          refine J.not_g rfl rfl rfl rfl rfl ?_
          refine J.not_g rfl rfl rfl rfl rfl ?_
          refine J.op (Yd.pick_t rfl rfl) rfl ?_
          refine J.nil ?_
          refine J.n_then ?_
          refine J.cond_true rfl ?_
          refine J.seq ?_
          refine J.region ?_
          refine J.eff (Ye.call cl7 rfl (awake_ok)) rfl ?_
          rintro _ w4 ⟨rfl, x1⟩
          have e0 := e0.trans x1
          clear x1
          refine J.op (Yd.assign rfl) rfl ?_
          refine J.nil ?_
          refine J.n_then ?_
          refine J.ret ?_
          refine J.r_then ?_
          exact J.ret1 rfl rfl (⟨_, rfl, rfl, e0⟩)
        · skip
          refine J.op_g rfl rfl rfl (Yd.move rfl) rfl ?_
          refine J.op_g rfl rfl rfl (Yd.len_b Try.underlying22 rfl hb) rfl ?_
          refine J.op_g rfl rfl rfl (Yd.gtr rfl rfl) rfl ?_
          refine J.op (Yd.pick_f rfl rfl) rfl ?_
          refine J.nil ?_
          refine J.n_then ?_
          refine J.cond_dec rfl (fun hc0 => ?_) (fun hc0 => ?_)
          · skip
            refine J.seq ?_
            refine J.region ?_
            refine J.eff (Ye.call cl7 rfl (awake_ok)) rfl ?_
            rintro _ w5 ⟨rfl, x1⟩
            have e0 := e0.trans x1
            clear x1
            refine J.op (Yd.assign rfl) rfl ?_
            refine J.nil ?_
            refine J.n_then ?_
            refine J.ret ?_
            refine J.r_then ?_
            exact J.ret1 rfl rfl (⟨_, rfl, rfl, e0⟩)
          · skip
            refine J.skip ?_
            refine J.n_then ?_
            refine J.seq ?_
            refine J.region ?_
            refine J.op (Yd.move rfl) rfl ?_
            refine J.op (Yd.move rfl) rfl ?_
            refine J.op (Yd.move rfl) rfl ?_
            refine J.op (Yd.move rfl) rfl ?_
            refine J.eff (Ye.call cl8 rfl (Seal_ok hk ho hd ht)) rfl ?_
            rintro _ w6 ⟨s48_6, rfl, rs48_6, x1⟩
            have e0 := e0.trans x1
            clear x1
            refine J.op (Yd.move rfl) rfl ?_
            refine J.op (Yd.extract rfl rfl) rfl ?_
            refine J.op (Yd.extract rfl rfl) rfl ?_
            refine J.op (Yd.assign rfl) rfl ?_
            refine J.op (Yd.assign rfl) rfl ?_
            refine J.nil ?_
            refine J.n_then ?_
            refine J.seq ?_
            refine J.region ?_
            refine J.op (Yd.move rfl) rfl ?_
            refine J.op (Yd.move rfl) rfl ?_
            refine J.op (Yd.move rfl) rfl ?_
            refine J.op (Yd.move rfl) rfl ?_
            refine J.eff (Ye.call cl9 rfl (RSeal_ok (Rd.ext hk e0) (Rd.ext ho e0) (Rd.ext hd e0) (Rd.ext ht e0) (by omega) (by omega))) rfl ?_
            rintro _ w7 ⟨s56_7, rfl, rs56_7, x1⟩
            have e0 := e0.trans x1
            have rs48_6 := rs48_6.ext x1
            clear x1
            refine J.op (Yd.move rfl) rfl ?_
            refine J.op (Yd.extract rfl rfl) rfl ?_
            refine J.op (Yd.extract rfl rfl) rfl ?_
            refine J.op (Yd.assign rfl) rfl ?_
            refine J.op (Yd.assign rfl) rfl ?_
            refine J.nil ?_
            refine J.n_then ?_
            refine J.seq ?_
            refine J.region ?_
            refine J.op (Yd.move rfl) rfl ?_
            refine J.op (Yd.move rfl) rfl ?_
            refine J.op (Yd.move rfl) rfl ?_
            refine J.op (Yd.move rfl) rfl ?_
            refine J.eff (Ye.call cl10 rfl (Open_ok (Rd.ext hk e0) (Rd.ext ho e0) (Rd.ext hd e0) (Rd.ext hb e0))) rfl ?_
            rintro _ w8 ⟨s64_8, rfl, rs64_8, x1⟩
            have e0 := e0.trans x1
            have rs48_6 := rs48_6.ext x1
            have rs56_7 := rs56_7.ext x1
            clear x1
            refine J.op (Yd.move rfl) rfl ?_
            refine J.op (Yd.extract rfl rfl) rfl ?_
            refine J.op (Yd.extract rfl rfl) rfl ?_
            refine J.op (Yd.assign rfl) rfl ?_
            refine J.op (Yd.assign rfl) rfl ?_
            refine J.nil ?_
            refine J.n_then ?_
            refine J.seq ?_
            refine J.region ?_
            refine J.op (Yd.move rfl) rfl ?_
            refine J.op (Yd.move rfl) rfl ?_
            refine J.op (Yd.move rfl) rfl ?_
            refine J.op (Yd.move rfl) rfl ?_
            refine J.eff (Ye.call cl11 rfl (ROpen_ok (Rd.ext hk e0) (Rd.ext ho e0) (Rd.ext hd e0) (Rd.ext hb e0) (by omega) (by omega))) rfl ?_
            rintro _ w9 ⟨s72_9, rfl, rs72_9, x1⟩
            have e0 := e0.trans x1
            have rs48_6 := rs48_6.ext x1
            have rs56_7 := rs56_7.ext x1
            have rs64_8 := rs64_8.ext x1
            clear x1
            refine J.op (Yd.move rfl) rfl ?_
            refine J.op (Yd.extract rfl rfl) rfl ?_
            refine J.op (Yd.extract rfl rfl) rfl ?_
            refine J.op (Yd.assign rfl) rfl ?_
            refine J.op (Yd.assign rfl) rfl ?_
            refine J.nil ?_
            refine J.n_then ?_
            refine J.seq ?_
            refine J.region ?_
            refine J.op (Yd.move rfl) rfl ?_
            refine J.op (Yd.bstr Try.underlying22 Try.underlying5 Try.underlying9 rfl rs48_6) rfl ?_
            refine J.op (Yd.move rfl) rfl ?_
            refine J.op (Yd.bstr Try.underlying22 Try.underlying5 Try.underlying9 rfl rs56_7) rfl ?_
            refine J.op (Yd.seq rfl rfl) rfl ?_
            refine J.op (Yd.move rfl) rfl ?_
            refine J.know (t := 80) (v' := .bool true) rfl (tt (by rfl)) ?_
            refine J.op_g rfl rfl rfl (Yd.move rfl) rfl ?_
            refine J.op_g rfl rfl rfl (Yd.move rfl) rfl ?_
            refine J.op_g rfl rfl rfl (Yd.eql rfl rfl) rfl ?_
            refine J.op (Yd.pick_t rfl rfl) rfl ?_
            refine J.op (Yd.move rfl) rfl ?_
            refine J.know (t := 85) (v' := .bool true) rfl (tt (by rfl)) ?_
            refine J.op_g rfl rfl rfl (Yd.move rfl) rfl ?_
            refine J.op_g rfl rfl rfl (Yd.bstr Try.underlying22 Try.underlying5 Try.underlying9 rfl rs64_8) rfl ?_
            refine J.op_g rfl rfl rfl (Yd.move rfl) rfl ?_
            refine J.op_g rfl rfl rfl (Yd.bstr Try.underlying22 Try.underlying5 Try.underlying9 rfl rs72_9) rfl ?_
            refine J.op_g rfl rfl rfl (Yd.seq rfl rfl) rfl ?_
            refine J.op (Yd.pick_t rfl rfl) rfl ?_
            refine J.op (Yd.move rfl) rfl ?_
            refine J.know (t := 92) (v' := .bool true) rfl (tt (by rfl)) ?_
            refine J.op_g rfl rfl rfl (Yd.move rfl) rfl ?_
            refine J.op_g rfl rfl rfl (Yd.move rfl) rfl ?_
            refine J.op_g rfl rfl rfl (Yd.eql rfl rfl) rfl ?_
            refine J.op (Yd.pick_t rfl rfl) rfl ?_
            refine J.op (Yd.move rfl) rfl ?_
            refine J.know (t := 97) (v' := .bool true) rfl (tt (by rfl)) ?_
            refine J.eff_g rfl rfl rfl (Ye.call cl7 rfl (awake_ok)) rfl ?_
            rintro _ w10 ⟨rfl, x1⟩
            have e0 := e0.trans x1
            have rs48_6 := rs48_6.ext x1
            have rs56_7 := rs56_7.ext x1
            have rs64_8 := rs64_8.ext x1
            have rs72_9 := rs72_9.ext x1
            clear x1
            refine J.op (Yd.pick_t rfl rfl) rfl ?_
            refine J.op (Yd.assign rfl) rfl ?_
            refine J.nil ?_
            refine J.n_then ?_
            refine J.ret ?_
            exact J.ret1 rfl rfl (⟨_, rfl, rfl, e0⟩)
end Ytpkpicnldpbomaa
end Go.Proofs
