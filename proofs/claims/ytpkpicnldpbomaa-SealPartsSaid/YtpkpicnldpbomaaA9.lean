import Derived.Test.YtpkpicnldpbomaaT
import Derived.Test.YtpkpicnldpbomaaA8
set_option linter.unusedVariables false
set_option linter.unusedSimpArgs false
set_option maxRecDepth 100000
set_option maxHeartbeats 4000000
namespace Go.Proofs
open Go.X Go.RowKit
namespace Ytpkpicnldpbomaa
theorem RStream_ok {a v : Value} {key nonce : List UInt8} {n : Int} {w : World} (hk : Bs w a key) (ho : Bs w v nonce) : C Try.prog 17 [a, v, I n] w (Ret fun u w' => ∃ s, u = .tuple #[s, I (strE key nonce n)] ∧ Bs w' s (strQ key nonce n) ∧ Ext w w') := by
  have e0 := Ext.refl w
  refine C.enter Try.func17 rfl Try.ntmps17 rfl ?_
  refine J.seq ?_
  refine J.region ?_
  refine J.op (Yd.assign rfl) rfl ?_
  refine J.op (Yd.assign rfl) rfl ?_
  refine J.nil ?_
  refine J.n_then ?_
  refine J.seq ?_
  refine J.seq ?_
  refine J.region ?_
  refine J.op (Yd.move rfl) rfl ?_
  refine J.op (Yd.len_b Try.underlying22 rfl hk) rfl ?_
  refine J.op (Yd.neq rfl rfl) rfl ?_
  refine J.op (Yd.move rfl) rfl ?_
  refine J.split_dec (t := 15) rfl (fun h1 => ?_) (fun h1 => ?_)
  · skip
    refine J.not_g rfl rfl rfl rfl rfl ?_
    refine J.not_g rfl rfl rfl rfl rfl ?_
    refine J.not_g rfl rfl rfl rfl rfl ?_
    refine J.op (Yd.pick_t rfl rfl) rfl ?_
    refine J.op (Yd.move rfl) rfl ?_
    refine J.not_g rfl rfl rfl rfl rfl ?_
    refine J.not_g rfl rfl rfl rfl rfl ?_
    refine J.op (Yd.pick_t rfl rfl) rfl ?_
    refine J.op (Yd.move rfl) rfl ?_
    refine J.not_g rfl rfl rfl rfl rfl ?_
    refine J.not_g rfl rfl rfl rfl rfl ?_
    refine J.op (Yd.pick_t rfl rfl) rfl ?_
    refine J.nil ?_
    refine J.n_then ?_
    refine J.cond_true rfl ?_
    refine J.seq ?_
    refine J.region ?_
    refine J.op (Yd.assign rfl) rfl ?_
    refine J.op (Yd.assign rfl) rfl ?_
    refine J.nil ?_
    refine J.n_then ?_
    refine J.ret ?_
    refine J.r_then ?_
    exact J.ret2 rfl rfl rfl (⟨_, rfl, nilS, by rw [strE_no (by omega)]; try rfl, by rw [strQ_no (by omega)]; exact Rd.nilM _ _, e0⟩)
  · skip
    refine J.op_g rfl rfl rfl (Yd.move rfl) rfl ?_
    refine J.op_g rfl rfl rfl (Yd.len_b Try.underlying22 rfl ho) rfl ?_
    refine J.op_g rfl rfl rfl (Yd.neq rfl rfl) rfl ?_
    refine J.op (Yd.pick_f rfl rfl) rfl ?_
    refine J.op (Yd.move rfl) rfl ?_
    refine J.split_dec (t := 20) rfl (fun h2 => ?_) (fun h2 => ?_)
    · skip
      refine J.not_g rfl rfl rfl rfl rfl ?_
      refine J.not_g rfl rfl rfl rfl rfl ?_
      refine J.op (Yd.pick_t rfl rfl) rfl ?_
      refine J.op (Yd.move rfl) rfl ?_
      refine J.not_g rfl rfl rfl rfl rfl ?_
      refine J.not_g rfl rfl rfl rfl rfl ?_
      refine J.op (Yd.pick_t rfl rfl) rfl ?_
      refine J.nil ?_
      refine J.n_then ?_
      refine J.cond_true rfl ?_
      refine J.seq ?_
      refine J.region ?_
      refine J.op (Yd.assign rfl) rfl ?_
      refine J.op (Yd.assign rfl) rfl ?_
      refine J.nil ?_
      refine J.n_then ?_
      refine J.ret ?_
      refine J.r_then ?_
      exact J.ret2 rfl rfl rfl (⟨_, rfl, nilS, by rw [strE_no (by omega)]; try rfl, by rw [strQ_no (by omega)]; exact Rd.nilM _ _, e0⟩)
    · skip
      refine J.op_g rfl rfl rfl (Yd.move rfl) rfl ?_
      refine J.op_g rfl rfl rfl (Yd.lss rfl rfl) rfl ?_
      refine J.op (Yd.pick_f rfl rfl) rfl ?_
      refine J.op (Yd.move rfl) rfl ?_
      refine J.split_dec (t := 24) rfl (fun h3 => ?_) (fun h3 => ?_)
      · skip
        refine J.not_g rfl rfl rfl rfl rfl ?_
        refine J.not_g rfl rfl rfl rfl rfl ?_
        refine J.op (Yd.pick_t rfl rfl) rfl ?_
        refine J.nil ?_
        refine J.n_then ?_
        refine J.cond_true rfl ?_
        refine J.seq ?_
        refine J.region ?_
        refine J.op (Yd.assign rfl) rfl ?_
        refine J.op (Yd.assign rfl) rfl ?_
        refine J.nil ?_
        refine J.n_then ?_
        refine J.ret ?_
        refine J.r_then ?_
        exact J.ret2 rfl rfl rfl (⟨_, rfl, nilS, by rw [strE_no (by omega)]; try rfl, by rw [strQ_no (by omega)]; exact Rd.nilM _ _, e0⟩)
      · skip
        refine J.op_g rfl rfl rfl (Yd.move rfl) rfl ?_
        refine J.op_g rfl rfl rfl (Yd.gtr rfl rfl) rfl ?_
        refine J.op (Yd.pick_f rfl rfl) rfl ?_
        refine J.nil ?_
        refine J.n_then ?_
        refine J.cond_dec rfl (fun hc0 => ?_) (fun hc0 => ?_)
        · skip
          refine J.seq ?_
          refine J.region ?_
          refine J.op (Yd.assign rfl) rfl ?_
          refine J.op (Yd.assign rfl) rfl ?_
          refine J.nil ?_
          refine J.n_then ?_
          refine J.ret ?_
          refine J.r_then ?_
          exact J.ret2 rfl rfl rfl (⟨_, rfl, nilS, by rw [strE_no (by omega)]; try rfl, by rw [strQ_no (by omega)]; exact Rd.nilM _ _, e0⟩)
        · skip
          have hn0 : 0 ≤ n ∧ n ≤ 1048576 := by omega
          obtain ⟨N, rfl⟩ := Int.eq_ofNat_of_zero_le hn0.1
          refine J.skip ?_
          refine J.n_then ?_
          refine J.seq ?_
          refine J.region ?_
          refine J.eff (Ye.call cl29 rfl (Boxes_ok)) rfl ?_
          rintro _ w1 ⟨rfl, x1⟩
          have e0 := e0.trans x1
          clear x1
          refine J.eff (Ye.alloc ti51 (S := [(0, 256, (List.replicate 256 0).map (fun x : UInt8 => B x))]) (by simp [SegAll, SegOK, Value.cells])) rfl ?_
          rintro _ w2 ⟨b8_1, rfl, hb_, c8_1, x1⟩
          have fr_b8_1 : Fr w.heap.size (some b8_1) := Fr.le (Fr.blk hb_) e0.size
          have e0 := e0.trans x1
          clear x1 hb_
          refine J.eff0 (Ye.storeA (ys := List.map (fun x : UInt8 => B x) _) ti51 c8_1 0 rfl rfl rfl rfl (by first | (rw [List.length_map]; omega) | (simp; done) | rfl | (simp <;> omega)) (one_M _ (fun _ => rfl))) ?_
          rintro _ w3 ⟨cX, hu⟩
          simp only [List.set_cons_zero, List.set_cons_succ] at cX
          have hg := hu.gb
          have e0 := Ext.gbk e0 fr_b8_1 hg
          clear hg
          replace c8_1 := cX
          clear cX hu
          refine J.nil ?_
          refine J.n_then ?_
          refine J.seq ?_
          refine J.region ?_
          refine J.op (Yd.move rfl) rfl ?_
          refine J.op (Yd.loadA ag51 ti51 rfl c8_1 0 rfl) rfl ?_
          refine J.eff (Ye.call cl30 rfl (Sched_ok (Rd.ext hk e0) (by omega))) rfl ?_
          rintro s31_4 w4 ⟨os31_4, x1⟩
          have ap_b8_1_s31_4 : Ap (some b8_1) s31_4.ownBlock := Ap.mk (Cel.live c8_1) (Ow.fr os31_4)
          have fr_s31_4 : Fr w.heap.size s31_4.ownBlock := Fr.le (Ow.fr os31_4) e0.size
          replace os31_4 := Ow.base os31_4 e0.size
          have e0 := e0.trans x1
          have c8_1 := c8_1.ext x1
          clear x1
          refine J.op (Yd.assign rfl) rfl ?_
          refine J.nil ?_
          refine J.n_then ?_
          refine J.seq ?_
          refine J.region ?_
          refine J.op (Yd.assign rfl) rfl ?_
          refine J.nil ?_
          refine J.n_then ?_
          refine J.seq ?_
          refine J.seq ?_
          refine J.region ?_
          refine J.op (Yd.assign rfl) rfl ?_
          refine J.nil ?_
          refine J.n_then ?_
          refine J.block ?_
          refine J.loop (ι := Nat × Value) (fun i => [(1, v), (2, I (N : Int)), (11, I i.1), (8, .pointer (some ⟨b8_1, 0, none⟩)), (10, i.2), (9, s31_4)]) (fun i w' => 16 * i.1 ≤ N + 15 ∧ Cel w' b8_1 51 [(0, 256, boxT.map (fun x : UInt8 => B x))] ∧ Ob w.heap.size 5 w' i.2 (strB key nonce i.1) ∧ Ob w.heap.size 5 w' s31_4 (kx key 52) ∧ Fr w.heap.size (i.2).ownBlock ∧ Ap (some b8_1) (i.2).ownBlock ∧ Ap s31_4.ownBlock (i.2).ownBlock ∧ Ext w w') (fun i => (N + 15) - 16 * i.1) ((0, nilS)) ⟨rfl, rfl, rfl, rfl, rfl, rfl, trivial⟩ (⟨by show 16 * 0 ≤ N + 15; omega, c8_1, Ow.nil _ _ _, os31_4, Fr.nil, Ap.nil_r, Ap.nil_r, e0⟩) ?_
          rintro ⟨k, v2⟩ w5 ⟨hk2, c8_1, hout, hws, fr_v2, ap_b8_1_v2, ap_s31_4_v2, e0⟩
          dsimp only at *
          have hsl := strB_len key nonce k
          refine J.seq ?_
          refine J.seq ?_
          refine J.region ?_
          refine J.op (Yd.move rfl) rfl ?_
          refine J.op (Yd.len_b Try.underlying22 rfl (Ow.rd hout)) rfl ?_
          refine J.op (Yd.move rfl) rfl ?_
          refine J.op (Yd.lss rfl rfl) rfl ?_
          refine J.nil ?_
          refine J.n_then ?_
          refine J.cond_dec rfl (fun hc1 => ?_) (fun hc1 => ?_)
          · skip
            refine J.skip ?_
            refine J.n_then ?_
            refine J.seq ?_
            refine J.block ?_
            refine J.regionO [(0, true), (1, true), (3, true), (4, true), (5, true)] [(2, 1), (6, 0), (7, 0), (8, 0)] [(9, false), (10, false), (11, true)] mix (by kernel_rfl) ?_
            refine J.s_op rfl (fun _ => Yd.move rfl) rfl ?_
            refine J.s_op rfl (fun _ => Yd.move rfl) rfl ?_
            refine J.s_op rfl (fun _ => Yd.move rfl) rfl ?_
            refine J.s_op rfl (fun _ => Yd.move rfl) rfl ?_
            refine J.s_op rfl (fun _ => Yd.cv_i_64 Try.underlying3 Try.underlying42 rfl (by omega)) rfl ?_
            refine J.s_nil ?_
            refine J.o_op rfl (Yd.loadA ag51 ti51 rfl c8_1 0 rfl) rfl ?_
            refine J.o_eff rfl (Ye.call cl21 rfl (RBig_ok (n := 4) (by omega))) rfl (fun _ _ h => h.2) ?_
            rintro s44_6 w6 ⟨os44_6, x1⟩
            have ap_b8_1_s44_6 : Ap (some b8_1) s44_6.ownBlock := Ap.mk (Cel.live c8_1) (Ow.fr os44_6)
            have ap_v2_s44_6 : Ap v2.ownBlock s44_6.ownBlock := Ap.mk (Ow.live hout) (Ow.fr os44_6)
            have ap_s31_4_s44_6 : Ap s31_4.ownBlock s44_6.ownBlock := Ap.mk (Ow.live hws) (Ow.fr os44_6)
            have fr_s44_6 : Fr w.heap.size s44_6.ownBlock := Fr.le (Ow.fr os44_6) e0.size
            replace os44_6 := Ow.base os44_6 e0.size
            have e0 := e0.trans x1
            have c8_1 := c8_1.ext x1
            have hout := hout.ext x1
            have hws := hws.ext x1
            clear x1
            refine J.o_eff rfl (Ye.litS2 Try.underlying57 ti22 rfl rfl rfl (Rd.ext ho e0) (Ow.rd os44_6)) rfl (fun _ _ h => h.2) ?_
            rintro s45_7 w7 ⟨o45_7, x1⟩
            have e0 := e0.trans x1
            have c8_1 := c8_1.ext x1
            have hout := hout.ext x1
            have hws := hws.ext x1
            have os44_6 := os44_6.ext x1
            clear x1
            refine J.o_eff rfl (Ye.call cl20 rfl (RCat_ok o45_7 (by first | omega | assumption | (simp only [List.length_append, List.flatten_cons, List.flatten_nil, List.append_nil, List.length_drop, List.length_take, beN_len, padL_len, sha256L_len, macL_len, List.length_nil, List.length_cons, Int.toNat_natCast]; omega) | (simp [beN_len] <;> omega)))) rfl (fun _ _ h => h.2) ?_
            rintro s46_8 w8 ⟨os46_8, x1⟩
            have ap_b8_1_s46_8 : Ap (some b8_1) s46_8.ownBlock := Ap.mk (Cel.live c8_1) (Ow.fr os46_8)
            have ap_v2_s46_8 : Ap v2.ownBlock s46_8.ownBlock := Ap.mk (Ow.live hout) (Ow.fr os46_8)
            have ap_s31_4_s46_8 : Ap s31_4.ownBlock s46_8.ownBlock := Ap.mk (Ow.live hws) (Ow.fr os46_8)
            have ap_s44_6_s46_8 : Ap s44_6.ownBlock s46_8.ownBlock := Ap.mk (Ow.live os44_6) (Ow.fr os46_8)
            have fr_s46_8 : Fr w.heap.size s46_8.ownBlock := Fr.le (Ow.fr os46_8) e0.size
            replace os46_8 := Ow.base os46_8 e0.size
            have e0 := e0.trans x1
            have c8_1 := c8_1.ext x1
            have hout := hout.ext x1
            have hws := hws.ext x1
            have os44_6 := os44_6.ext x1
            have o45_7 := o45_7.ext x1
            clear x1
            refine J.o_nil ?_
            refine J.s_eff rfl (Ye.call cl31 rfl (RBlock_ok (Ow.rd hws) (Ow.rd os46_8) (by simp [beN_len]; omega) (by rw [kx_len _ (by omega)]))) rfl ?_
            rintro s47_9 w9 ⟨os47_9, x1⟩
            have ap_b8_1_s47_9 : Ap (some b8_1) s47_9.ownBlock := Ap.mk (Cel.live c8_1) (Ow.fr os47_9)
            have ap_v2_s47_9 : Ap v2.ownBlock s47_9.ownBlock := Ap.mk (Ow.live hout) (Ow.fr os47_9)
            have ap_s31_4_s47_9 : Ap s31_4.ownBlock s47_9.ownBlock := Ap.mk (Ow.live hws) (Ow.fr os47_9)
            have ap_s44_6_s47_9 : Ap s44_6.ownBlock s47_9.ownBlock := Ap.mk (Ow.live os44_6) (Ow.fr os47_9)
            have ap_s46_8_s47_9 : Ap s46_8.ownBlock s47_9.ownBlock := Ap.mk (Ow.live os46_8) (Ow.fr os47_9)
            have fr_s47_9 : Fr w.heap.size s47_9.ownBlock := Fr.le (Ow.fr os47_9) e0.size
            replace os47_9 := Ow.base os47_9 e0.size
            have e0 := e0.trans x1
            have c8_1 := c8_1.ext x1
            have hout := hout.ext x1
            have hws := hws.ext x1
            have os44_6 := os44_6.ext x1
            have o45_7 := o45_7.ext x1
            have os46_8 := os46_8.ext x1
            clear x1
            refine J.s_eff rfl (Ye.appendS Try.underlying22 ti5 rfl rfl rfl rfl hout (Ow.rd os47_9) (fun _ => rfl) (by rw [strB_len, encR_len]; omega) e0.size) rfl ?_
            rintro s48_10 w10 ⟨o48_10, hg, hsf⟩
            have ap_b8_1_s48_10 : Ap (some b8_1) s48_10.ownBlock := Ap.sf ap_b8_1_v2 (Cel.live c8_1) hsf
            have ap_s31_4_s48_10 : Ap s31_4.ownBlock s48_10.ownBlock := Ap.sf ap_s31_4_v2 (Ow.live hws) hsf
            have ap_s44_6_s48_10 : Ap s44_6.ownBlock s48_10.ownBlock := Ap.sf (Ap.symm ap_v2_s44_6) (Ow.live os44_6) hsf
            have ap_s46_8_s48_10 : Ap s46_8.ownBlock s48_10.ownBlock := Ap.sf (Ap.symm ap_v2_s46_8) (Ow.live os46_8) hsf
            have ap_s47_9_s48_10 : Ap s47_9.ownBlock s48_10.ownBlock := Ap.sf (Ap.symm ap_v2_s47_9) (Ow.live os47_9) hsf
            have fr_s48_10 : Fr w.heap.size s48_10.ownBlock := Fr.sf fr_v2 hsf e0.size
            have c8_1 := Cel.gbk c8_1 hg ap_b8_1_v2
            have hws := Ow.gbk hws hg ap_s31_4_v2
            have os44_6 := Ow.gbk os44_6 hg (Ap.symm ap_v2_s44_6)
            have os46_8 := Ow.gbk os46_8 hg (Ap.symm ap_v2_s46_8)
            have os47_9 := Ow.gbk os47_9 hg (Ap.symm ap_v2_s47_9)
            have e0 := Ext.gbk e0 fr_v2 hg
            clear hg hsf
            refine J.s_op rfl (fun _ => Yd.assign rfl) rfl ?_
            refine J.s_nil ?_
            refine J.n_np ?_
            refine J.n_block ?_
            refine J.n_then ?_
            refine J.region ?_
            refine J.op (Yd.move rfl) rfl ?_
            refine J.op (Yd.add rfl rfl (by first | omega | (simp only [Int.toNat_natCast]; omega) | (simp only [List.length_map, List.length_drop, List.length_take, List.length_append, List.length_replicate]; omega) | (simp [beN_len] <;> omega))) rfl ?_
            refine J.op (Yd.assign rfl) rfl ?_
            refine J.nil ?_
            refine J.n_then ?_
            exact J.round ((k + 1, s48_10)) ⟨rfl, rfl, rfl, rfl, rfl, rfl, trivial⟩ (⟨by show 16 * (k + 1) ≤ N + 15; omega, c8_1, by show Ob _ _ _ _ (strB key nonce (k + 1)); rw [← rstr_next key nonce k (by omega)]; have h9 := o48_10; rw [Int.toNat_natCast] at h9; exact h9, hws, fr_s48_10, ap_b8_1_s48_10, ap_s31_4_s48_10, e0⟩) (by show (N + 15) - 16 * (k + 1) < (N + 15) - 16 * k; omega)
          · skip
            have hsl := strB_len key nonce k
            refine J.exit ?_
            refine J.x_then ?_
            refine J.x_then ?_
            refine J.x_block ?_
            refine J.n_then ?_
            refine J.seq ?_
            refine J.region ?_
            refine J.op (Yd.move rfl) rfl ?_
            refine J.op (Yd.move rfl) rfl ?_
            refine J.op (Yd.slcH Try.underlying22 ti5 rfl (Ow.rd hout) rfl (by first | omega | (simp only [Int.toNat_natCast]; omega) | (simp only [List.length_map, List.length_drop, List.length_take, List.length_append, List.length_replicate]; omega) | (simp [beN_len] <;> omega))) rfl ?_
            refine J.op (Yd.assign rfl) rfl ?_
            refine J.op (Yd.assign rfl) rfl ?_
            refine J.nil ?_
            refine J.n_then ?_
            refine J.ret ?_
            exact J.ret2 rfl rfl rfl (⟨_, rfl, _, by rw [strE_yes (by omega)]; try rfl, by have h9 : Bs _ (slc _ 0 (N : Int).toNat) _ := (Bs.slc (Ow.rd hout) (by first | omega | (simp only [Int.toNat_natCast]; omega) | (simp only [List.length_map, List.length_drop, List.length_take, List.length_append, List.length_replicate]; omega) | (simp [beN_len] <;> omega)) (by first | omega | (simp only [Int.toNat_natCast]; omega) | (simp only [List.length_map, List.length_drop, List.length_take, List.length_append, List.length_replicate]; omega) | (simp [beN_len] <;> omega))); rw [List.drop_zero, Int.toNat_natCast, strL_of _ _ (by omega)] at h9; rw [strQ_yes (by omega)]; exact h9, e0⟩)
end Ytpkpicnldpbomaa
end Go.Proofs
