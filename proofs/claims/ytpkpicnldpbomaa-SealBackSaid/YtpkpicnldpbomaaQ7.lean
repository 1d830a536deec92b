import Derived.Test.YtpkpicnldpbomaaT
import Derived.Test.YtpkpicnldpbomaaQ6
set_option linter.unusedVariables false
set_option linter.unusedSimpArgs false
set_option maxRecDepth 100000
set_option maxHeartbeats 4000000
namespace Go.Proofs
open Go.X Go.RowKit
namespace Ytpkpicnldpbomaa
theorem SealBack_ok {a u v z : Value} {key nonce data text : List UInt8} {w : World} (hk : Bs w a key) (ho : Bs w u nonce) (hd : Bs w v data) (ht : Bs w z text) : C Try.prog 4 [a, u, v, z] w (Ret fun v w' => v = .bool true ∧ Ext w w') := by
  have e0 := Ext.refl w
  refine C.enter Try.func4 rfl Try.ntmps4 rfl ?_
  refine J.seq ?_
  refine J.region ?_
  refine J.op (Yd.assign rfl) rfl ?_
  refine J.nil ?_
  refine J.n_then ?_
  refine J.seq ?_
  refine J.seq ?_
  refine J.region ?_
  refine J.op (Yd.move rfl) rfl ?_
  refine J.op (Yd.len_b Try.underlying22 rfl hk) rfl ?_
  refine J.op (Yd.neq rfl rfl) rfl ?_
  refine J.op (Yd.move rfl) rfl ?_
  refine J.split_dec (t := 31) rfl (fun h1 => ?_) (fun h1 => ?_)
  · skip
    refine J.not_g rfl rfl rfl rfl rfl ?_
    refine J.not_g rfl rfl rfl rfl rfl ?_
    refine J.not_g rfl rfl rfl rfl rfl ?_
    refine J.op (Yd.pick_t rfl rfl) rfl ?_
    refine J.op (Yd.move rfl) rfl ?_
    refine J.not_g rfl rfl rfl rfl rfl ?_
    refine J.not_g rfl rfl rfl rfl rfl ?_
    refine J.not_g rfl rfl rfl rfl rfl ?_
    refine J.op (Yd.pick_t rfl rfl) rfl ?_
    refine J.op (Yd.move rfl) rfl ?_
    refine J.not_g rfl rfl rfl rfl rfl ?_
    refine J.not_g rfl rfl rfl rfl rfl ?_
    refine J.not_g rfl rfl rfl rfl rfl ?_
    refine J.op (Yd.pick_t rfl rfl) rfl ?_
    refine J.nil ?_
    refine J.n_then ?_
    refine J.cond_true rfl ?_
    refine J.seq ?_
    refine J.region ?_
    refine J.eff (Ye.call cl7 rfl (awake_ok)) rfl ?_
    rintro _ w1 ⟨rfl, x1⟩
    have e0 := e0.trans x1
    clear x1
    refine J.op (Yd.assign rfl) rfl ?_
    refine J.nil ?_
    refine J.n_then ?_
    refine J.ret ?_
    refine J.r_then ?_
    exact J.ret1 rfl rfl (⟨_, rfl, rfl, e0⟩)
  · skip
    refine J.op_g rfl rfl rfl (Yd.move rfl) rfl ?_
    refine J.op_g rfl rfl rfl (Yd.len_b Try.underlying22 rfl ho) rfl ?_
    refine J.op_g rfl rfl rfl (Yd.neq rfl rfl) rfl ?_
    refine J.op (Yd.pick_f rfl rfl) rfl ?_
    refine J.op (Yd.move rfl) rfl ?_
    refine J.split_dec (t := 36) rfl (fun h2 => ?_) (fun h2 => ?_)
    · skip
      refine J.not_g rfl rfl rfl rfl rfl ?_
      refine J.not_g rfl rfl rfl rfl rfl ?_
      refine J.not_g rfl rfl rfl rfl rfl ?_
      refine J.op (Yd.pick_t rfl rfl) rfl ?_
      refine J.op (Yd.move rfl) rfl ?_
      refine J.not_g rfl rfl rfl rfl rfl ?_
      refine J.not_g rfl rfl rfl rfl rfl ?_
      refine J.not_g rfl rfl rfl rfl rfl ?_
      refine J.op (Yd.pick_t rfl rfl) rfl ?_
      refine J.nil ?_
      refine J.n_then ?_
      refine J.cond_true rfl ?_
      refine J.seq ?_
      refine J.region ?_
      refine J.eff (Ye.call cl7 rfl (awake_ok)) rfl ?_
      rintro _ w2 ⟨rfl, x1⟩
      have e0 := e0.trans x1
      clear x1
      refine J.op (Yd.assign rfl) rfl ?_
      refine J.nil ?_
      refine J.n_then ?_
      refine J.ret ?_
      refine J.r_then ?_
      exact J.ret1 rfl rfl (⟨_, rfl, rfl, e0⟩)
    · skip
      refine J.op_g rfl rfl rfl (Yd.move rfl) rfl ?_
      refine J.op_g rfl rfl rfl (Yd.len_b Try.underlying22 rfl hd) rfl ?_
      refine J.op_g rfl rfl rfl (Yd.gtr rfl rfl) rfl ?_
      refine J.op (Yd.pick_f rfl rfl) rfl ?_
      refine J.op (Yd.move rfl) rfl ?_
      refine J.split_dec (t := 41) rfl (fun h3 => ?_) (fun h3 => ?_)
      · skip
        refine J.not_g rfl rfl rfl rfl rfl ?_
        refine J.not_g rfl rfl rfl rfl rfl ?_
        refine J.not_g rfl rfl rfl rfl rfl ?_
        refine J.op (Yd.pick_t rfl rfl) rfl ?_
        refine J.nil ?_
        refine J.n_then ?_
        refine J.cond_true rfl ?_
        refine J.seq ?_
        refine J.region ?_
        refine J.eff (Ye.call cl7 rfl (awake_ok)) rfl ?_
        rintro _ w3 ⟨rfl, x1⟩
        have e0 := e0.trans x1
        clear x1
        refine J.op (Yd.assign rfl) rfl ?_
        refine J.nil ?_
        refine J.n_then ?_
        refine J.ret ?_
        refine J.r_then ?_
        exact J.ret1 rfl rfl (⟨_, rfl, rfl, e0⟩)
      · skip
        refine J.op_g rfl rfl rfl (Yd.move rfl) rfl ?_
        refine J.op_g rfl rfl rfl (Yd.len_b Try.underlying22 rfl ht) rfl ?_
        refine J.op_g rfl rfl rfl (Yd.gtr rfl rfl) rfl ?_
        refine J.op (Yd.pick_f rfl rfl) rfl ?_
        refine J.nil ?_
        refine J.n_then ?_
        refine J.cond_dec rfl (fun hc0 => ?_) (fun hc0 => ?_)
        · skip
          refine J.seq ?_
          refine J.region ?_
          refine J.eff (Ye.call cl7 rfl (awake_ok)) rfl ?_
          rintro _ w4 ⟨rfl, x1⟩
          have e0 := e0.trans x1
          clear x1
          refine J.op (Yd.assign rfl) rfl ?_
          refine J.nil ?_
          refine J.n_then ?_
          refine J.ret ?_
          refine J.r_then ?_
          exact J.ret1 rfl rfl (⟨_, rfl, rfl, e0⟩)
        · skip
          have hm0 : mayE nonce data text 65536 = 0 := mayE_ok (by omega) (by omega)
          have hs0 : sealL key nonce data text = seQ key nonce data text := if_pos (by omega)
          have he0 : sealE key nonce data text = 0 := sealE_ok (by omega) (by omega) (by omega)
          have hop := op_se (key := key) hm0
          have hop2 : openE key nonce data (seQ key nonce data text) = 0 := by rw [openE, if_pos (by omega)]; exact hop.1
          have hop3 : openL key nonce data (seQ key nonce data text) = text := by rw [openL, if_pos (by omega)]; exact hop.2
          refine J.skip ?_
          refine J.n_then ?_
          refine J.seq ?_
          refine J.region ?_
          refine J.op (Yd.move rfl) rfl ?_
          refine J.op (Yd.move rfl) rfl ?_
          refine J.op (Yd.move rfl) rfl ?_
          refine J.op (Yd.move rfl) rfl ?_
          refine J.eff (Ye.call cl8 rfl (Seal_ok hk ho hd ht)) rfl ?_
          rintro _ w5 ⟨s52_5, rfl, rs52_5, x1⟩
          have e0 := e0.trans x1
          clear x1
          refine J.op (Yd.move rfl) rfl ?_
          refine J.op (Yd.extract rfl rfl) rfl ?_
          refine J.op (Yd.extract rfl rfl) rfl ?_
          refine J.op (Yd.assign rfl) rfl ?_
          refine J.op (Yd.assign rfl) rfl ?_
          refine J.nil ?_
          refine J.n_then ?_
          refine J.seq ?_
          refine J.region ?_
          refine J.op (Yd.move rfl) rfl ?_
          refine J.eff (Ye.call cl12 rfl (NewBox_yes (Rd.ext hk e0) (by omega))) rfl ?_
          rintro _ w6 ⟨b57_6, rfl, kb57_6, x1⟩
          have e0 := e0.trans x1
          have rs52_5 := rs52_5.ext x1
          clear x1
          refine J.op (Yd.move rfl) rfl ?_
          refine J.op (Yd.extract rfl rfl) rfl ?_
          refine J.op (Yd.extract rfl rfl) rfl ?_
          refine J.op (Yd.assign rfl) rfl ?_
          refine J.op (Yd.assign rfl) rfl ?_
          refine J.nil ?_
          refine J.n_then ?_
          refine J.seq ?_
          refine J.seq ?_
          refine J.region ?_
          refine J.op (Yd.move rfl) rfl ?_
          refine J.op (Yd.neq rfl rfl) rfl ?_
          refine J.op (Yd.move rfl) rfl ?_
          refine J.know (t := 62) (v' := .bool false) rfl (ff (by exact fun e => e he0)) ?_
          refine J.op_g rfl rfl rfl (Yd.move rfl) rfl ?_
          refine J.op_g rfl rfl rfl (Yd.neq rfl rfl) rfl ?_
          refine J.op (Yd.pick_f rfl rfl) rfl ?_
          refine J.op (Yd.move rfl) rfl ?_
          refine J.know (t := 66) (v' := .bool false) rfl (ff (by decide)) ?_
          refine J.op_g rfl rfl rfl (Yd.move rfl) rfl ?_
          refine J.op_g rfl rfl rfl (Yd.cast (Yd.eqPn Try.underlying30 rfl rfl) (show _ = Value.bool false from rfl)) rfl ?_
          refine J.op (Yd.pick_f rfl rfl) rfl ?_
          refine J.op (Yd.move rfl) rfl ?_
          refine J.op_g rfl rfl rfl (Yd.move rfl) rfl ?_
          refine J.op_g rfl rfl rfl (Yd.len_b Try.underlying22 rfl rs52_5) rfl ?_
          refine J.op_g rfl rfl rfl (Yd.move rfl) rfl ?_
          refine J.op_g rfl rfl rfl (Yd.len_b Try.underlying22 rfl (Rd.ext ht e0)) rfl ?_
          refine J.op_g rfl rfl rfl (Yd.add rfl rfl (by first | omega | assumption | (simp only [List.length_append, List.length_map, List.flatten_cons, List.flatten_nil, List.append_nil, List.length_drop, List.length_take, List.length_replicate, beN_len, macL_len, tagL_len, skQ_len, Int.toNat_natCast, List.length_nil, List.length_cons] <;> omega) | (simp [skQ_len] <;> omega))) rfl ?_
          refine J.op_g rfl rfl rfl (Yd.neq rfl rfl) rfl ?_
          refine J.op (Yd.pick_f rfl rfl) rfl ?_
          refine J.nil ?_
          refine J.n_then ?_
          refine J.know (t := 77) (v' := .bool false) rfl (ff (by rw [sealL_len he0]; omega)) ?_
          refine J.cond_false rfl ?_
          refine J.skip ?_
          refine J.n_then ?_
          refine J.seq ?_
          refine J.region ?_
          refine J.op (Yd.move rfl) rfl ?_
          refine J.op (Yd.mkFunc rfl) rfl ?_
          refine J.op (Yd.move rfl) rfl ?_
          refine J.op (Yd.mkFunc rfl) rfl ?_
          refine J.op (Yd.assign rfl) rfl ?_
          refine J.op (Yd.assign rfl) rfl ?_
          refine J.nil ?_
          refine J.n_then ?_
          refine J.seq ?_
          refine J.region ?_
          refine J.op (Yd.move rfl) rfl ?_
          refine J.op (Yd.move rfl) rfl ?_
          refine J.op (Yd.move rfl) rfl ?_
          refine J.op (Yd.move rfl) rfl ?_
          refine J.eff (Ye.callv cl13 rfl rfl (BSeal_ok kb57_6 (Rd.ext ho e0) (Rd.ext hd e0) (Rd.ext ht e0))) rfl ?_
          rintro _ w7 ⟨s87_7, rfl, os87_7, x1⟩
          have fr_s87_7 : Fr w.heap.size s87_7.ownBlock := Fr.le (Ow.fr os87_7) e0.size
          replace os87_7 := Ow.base os87_7 e0.size
          have e0 := e0.trans x1
          have rs52_5 := rs52_5.ext x1
          have kb57_6 := kb57_6.ext x1
          clear x1
          refine J.op (Yd.move rfl) rfl ?_
          refine J.op (Yd.extract rfl rfl) rfl ?_
          refine J.op (Yd.extract rfl rfl) rfl ?_
          refine J.op (Yd.assign rfl) rfl ?_
          refine J.op (Yd.assign rfl) rfl ?_
          refine J.nil ?_
          refine J.n_then ?_
          refine J.seq ?_
          refine J.region ?_
          refine J.op (Yd.move rfl) rfl ?_
          refine J.op (Yd.move rfl) rfl ?_
          refine J.op (Yd.move rfl) rfl ?_
          refine J.op (Yd.move rfl) rfl ?_
          refine J.eff (Ye.callv cl14 rfl rfl (BOpen_ok kb57_6 (Rd.ext ho e0) (Rd.ext hd e0) rs52_5)) rfl ?_
          rintro _ w8 ⟨s95_8, rfl, rs95_8, x1⟩
          have e0 := e0.trans x1
          have rs52_5 := rs52_5.ext x1
          have kb57_6 := kb57_6.ext x1
          have os87_7 := os87_7.ext x1
          clear x1
          refine J.op (Yd.move rfl) rfl ?_
          refine J.op (Yd.extract rfl rfl) rfl ?_
          refine J.op (Yd.extract rfl rfl) rfl ?_
          refine J.op (Yd.assign rfl) rfl ?_
          refine J.op (Yd.assign rfl) rfl ?_
          refine J.nil ?_
          refine J.n_then ?_
          refine J.seq ?_
          refine J.region ?_
          refine J.op (Yd.move rfl) rfl ?_
          refine J.op (Yd.move rfl) rfl ?_
          refine J.op (Yd.move rfl) rfl ?_
          refine J.op (Yd.move rfl) rfl ?_
          refine J.eff (Ye.call cl10 rfl (Open_ok (Rd.ext hk e0) (Rd.ext ho e0) (Rd.ext hd e0) (Ow.rd os87_7))) rfl ?_
          rintro _ w9 ⟨s103_9, rfl, rs103_9, x1⟩
          have e0 := e0.trans x1
          have rs52_5 := rs52_5.ext x1
          have kb57_6 := kb57_6.ext x1
          have os87_7 := os87_7.ext x1
          have rs95_8 := rs95_8.ext x1
          clear x1
          refine J.op (Yd.move rfl) rfl ?_
          refine J.op (Yd.extract rfl rfl) rfl ?_
          refine J.op (Yd.extract rfl rfl) rfl ?_
          refine J.op (Yd.assign rfl) rfl ?_
          refine J.op (Yd.assign rfl) rfl ?_
          refine J.nil ?_
          refine J.n_then ?_
          refine J.seq ?_
          refine J.region ?_
          refine J.op (Yd.assign rfl) rfl ?_
          refine J.nil ?_
          refine J.n_then ?_
          refine J.seq ?_
          refine J.region ?_
          refine J.op (Yd.move rfl) rfl ?_
          refine J.op (Yd.move rfl) rfl ?_
          refine J.op (Yd.move rfl) rfl ?_
          refine J.op (Yd.move rfl) rfl ?_
          refine J.eff (Ye.call cl13 rfl (BSealNil_ok)) rfl ?_
          rintro _ w10 ⟨rfl, x1⟩
          have e0 := e0.trans x1
          have rs52_5 := rs52_5.ext x1
          have kb57_6 := kb57_6.ext x1
          have os87_7 := os87_7.ext x1
          have rs95_8 := rs95_8.ext x1
          have rs103_9 := rs103_9.ext x1
          clear x1
          refine J.op (Yd.move rfl) rfl ?_
          refine J.op (Yd.extract rfl rfl) rfl ?_
          refine J.op (Yd.extract rfl rfl) rfl ?_
          refine J.op (Yd.assign rfl) rfl ?_
          refine J.op (Yd.assign rfl) rfl ?_
          refine J.nil ?_
          refine J.n_then ?_
          refine J.seq ?_
          refine J.region ?_
          refine J.op (Yd.move rfl) rfl ?_
          refine J.op (Yd.move rfl) rfl ?_
          refine J.op (Yd.move rfl) rfl ?_
          refine J.op (Yd.move rfl) rfl ?_
          refine J.eff (Ye.call cl14 rfl (BOpenNil_ok)) rfl ?_
          rintro _ w11 ⟨rfl, x1⟩
          have e0 := e0.trans x1
          have rs52_5 := rs52_5.ext x1
          have kb57_6 := kb57_6.ext x1
          have os87_7 := os87_7.ext x1
          have rs95_8 := rs95_8.ext x1
          have rs103_9 := rs103_9.ext x1
          clear x1
          refine J.op (Yd.move rfl) rfl ?_
          refine J.op (Yd.extract rfl rfl) rfl ?_
          refine J.op (Yd.extract rfl rfl) rfl ?_
          refine J.op (Yd.assign rfl) rfl ?_
          refine J.op (Yd.assign rfl) rfl ?_
          refine J.nil ?_
          refine J.n_then ?_
          refine J.seq ?_
          refine J.region ?_
          refine J.op (Yd.move rfl) rfl ?_
          refine J.op (Yd.slcH Try.underlying22 ti5 rfl (Rd.ext hk e0) rfl (by first | omega | assumption | (simp only [List.length_append, List.length_map, List.flatten_cons, List.flatten_nil, List.append_nil, List.length_drop, List.length_take, List.length_replicate, beN_len, macL_len, tagL_len, skQ_len, Int.toNat_natCast, List.length_nil, List.length_cons] <;> omega) | (simp [skQ_len] <;> omega))) rfl ?_
          refine J.eff (Ye.call cl12 rfl (NewBox_no (Bs.slc (Rd.ext hk e0) (by first | omega | assumption | (simp only [List.length_append, List.length_map, List.flatten_cons, List.flatten_nil, List.append_nil, List.length_drop, List.length_take, List.length_replicate, beN_len, macL_len, tagL_len, skQ_len, Int.toNat_natCast, List.length_nil, List.length_cons] <;> omega) | (simp [skQ_len] <;> omega)) (by first | omega | assumption | (simp only [List.length_append, List.length_map, List.flatten_cons, List.flatten_nil, List.append_nil, List.length_drop, List.length_take, List.length_replicate, beN_len, macL_len, tagL_len, skQ_len, Int.toNat_natCast, List.length_nil, List.length_cons] <;> omega) | (simp [skQ_len] <;> omega))) (by simp only [List.length_drop, List.length_take]; omega))) rfl ?_
          rintro _ w12 ⟨rfl, x1⟩
          have e0 := e0.trans x1
          have rs52_5 := rs52_5.ext x1
          have kb57_6 := kb57_6.ext x1
          have os87_7 := os87_7.ext x1
          have rs95_8 := rs95_8.ext x1
          have rs103_9 := rs103_9.ext x1
          clear x1
          refine J.op (Yd.move rfl) rfl ?_
          refine J.op (Yd.extract rfl rfl) rfl ?_
          refine J.op (Yd.extract rfl rfl) rfl ?_
          refine J.op (Yd.assign rfl) rfl ?_
          refine J.op (Yd.assign rfl) rfl ?_
          refine J.nil ?_
          refine J.n_then ?_
          refine J.seq ?_
          refine J.region ?_
          refine J.op (Yd.move rfl) rfl ?_
          refine J.op (Yd.eql rfl rfl) rfl ?_
          refine J.op (Yd.move rfl) rfl ?_
          refine J.know (t := 130) (v' := .bool true) rfl (tt (by exact hm0)) ?_
          refine J.op_g rfl rfl rfl (Yd.move rfl) rfl ?_
          refine J.op_g rfl rfl rfl (Yd.eql rfl rfl) rfl ?_
          refine J.op (Yd.pick_t rfl rfl) rfl ?_
          refine J.op (Yd.move rfl) rfl ?_
          refine J.know (t := 134) (v' := .bool true) rfl (tt (by rw [hs0]; exact hop.1)) ?_
          refine J.op_g rfl rfl rfl (Yd.move rfl) rfl ?_
          refine J.op_g rfl rfl rfl (Yd.eql rfl rfl) rfl ?_
          refine J.op (Yd.pick_t rfl rfl) rfl ?_
          refine J.op (Yd.move rfl) rfl ?_
          refine J.know (t := 138) (v' := .bool true) rfl (tt (by exact hop2)) ?_
          refine J.op_g rfl rfl rfl (Yd.move rfl) rfl ?_
          refine J.op_g rfl rfl rfl (Yd.bstr Try.underlying22 Try.underlying5 Try.underlying9 rfl (Ow.rd os87_7)) rfl ?_
          refine J.op_g rfl rfl rfl (Yd.move rfl) rfl ?_
          refine J.op_g rfl rfl rfl (Yd.bstr Try.underlying22 Try.underlying5 Try.underlying9 rfl rs52_5) rfl ?_
          refine J.op_g rfl rfl rfl (Yd.seq rfl rfl) rfl ?_
          refine J.op (Yd.pick_t rfl rfl) rfl ?_
          refine J.op (Yd.move rfl) rfl ?_
          refine J.know (t := 145) (v' := .bool true) rfl (tt (by exact hs0.symm)) ?_
          refine J.op_g rfl rfl rfl (Yd.move rfl) rfl ?_
          refine J.op_g rfl rfl rfl (Yd.bstr Try.underlying22 Try.underlying5 Try.underlying9 rfl rs95_8) rfl ?_
          refine J.op_g rfl rfl rfl (Yd.move rfl) rfl ?_
          refine J.op_g rfl rfl rfl (Yd.bstr Try.underlying22 Try.underlying5 Try.underlying9 rfl (Rd.ext ht e0)) rfl ?_
          refine J.op_g rfl rfl rfl (Yd.seq rfl rfl) rfl ?_
          refine J.op (Yd.pick_t rfl rfl) rfl ?_
          refine J.op (Yd.move rfl) rfl ?_
          refine J.know (t := 152) (v' := .bool true) rfl (tt (by rw [hs0]; exact hop.2)) ?_
          refine J.op_g rfl rfl rfl (Yd.move rfl) rfl ?_
          refine J.op_g rfl rfl rfl (Yd.bstr Try.underlying22 Try.underlying5 Try.underlying9 rfl rs103_9) rfl ?_
          refine J.op_g rfl rfl rfl (Yd.move rfl) rfl ?_
          refine J.op_g rfl rfl rfl (Yd.bstr Try.underlying22 Try.underlying5 Try.underlying9 rfl (Rd.ext ht e0)) rfl ?_
          refine J.op_g rfl rfl rfl (Yd.seq rfl rfl) rfl ?_
          refine J.op (Yd.pick_t rfl rfl) rfl ?_
          refine J.op (Yd.move rfl) rfl ?_
          refine J.know (t := 159) (v' := .bool true) rfl (tt (by exact hop3)) ?_
          refine J.op_g rfl rfl rfl (Yd.move rfl) rfl ?_
          refine J.op_g rfl rfl rfl (Yd.eql rfl rfl) rfl ?_
          refine J.op (Yd.pick_t rfl rfl) rfl ?_
          refine J.op (Yd.move rfl) rfl ?_
          refine J.know (t := 163) (v' := .bool true) rfl (tt (by rfl)) ?_
          refine J.op_g rfl rfl rfl (Yd.move rfl) rfl ?_
          refine J.op_g rfl rfl rfl (Yd.eql rfl rfl) rfl ?_
          refine J.op (Yd.pick_t rfl rfl) rfl ?_
          refine J.op (Yd.move rfl) rfl ?_
          refine J.know (t := 167) (v' := .bool true) rfl (tt (by rfl)) ?_
          refine J.op_g rfl rfl rfl (Yd.move rfl) rfl ?_
          refine J.op_g rfl rfl rfl (Yd.eql rfl rfl) rfl ?_
          refine J.op (Yd.pick_t rfl rfl) rfl ?_
          refine J.op (Yd.move rfl) rfl ?_
          refine J.know (t := 171) (v' := .bool true) rfl (tt (by rfl)) ?_
          refine J.eff_g rfl rfl rfl (Ye.call cl7 rfl (awake_ok)) rfl ?_
          rintro _ w13 ⟨rfl, x1⟩
          have e0 := e0.trans x1
          have rs52_5 := rs52_5.ext x1
          have kb57_6 := kb57_6.ext x1
          have os87_7 := os87_7.ext x1
          have rs95_8 := rs95_8.ext x1
          have rs103_9 := rs103_9.ext x1
          clear x1
          refine J.op (Yd.pick_t rfl rfl) rfl ?_
          refine J.op (Yd.assign rfl) rfl ?_
          refine J.nil ?_
          refine J.n_then ?_
          refine J.ret ?_
          exact J.ret1 rfl rfl (⟨_, rfl, rfl, e0⟩)
end Ytpkpicnldpbomaa
end Go.Proofs
