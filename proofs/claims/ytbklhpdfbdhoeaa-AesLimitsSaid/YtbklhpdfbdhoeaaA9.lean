import Derived.Test.YtbklhpdfbdhoeaaT
import Derived.Test.YtbklhpdfbdhoeaaA8
set_option linter.unusedVariables false
set_option linter.unusedSimpArgs false
set_option maxRecDepth 100000
set_option maxHeartbeats 4000000
namespace Go.Proofs
open Go.X Go.RowKit
namespace Ytbklhpdfbdhoeaa
theorem RBlk_ok {a v : Value} {key l : List UInt8} {w : World} (hk : Bs w a key) (hb : Bs w v l) : C Try.prog 11 [a, v] w (Ret fun u w' => ∃ s, u = .tuple #[s, I (blkE key l)] ∧ Bs w' s (blkL key l) ∧ Ext w w') := by
  have e0 := Ext.refl w
  refine C.enter Try.func11 rfl Try.ntmps11 rfl ?_
  refine J.seq ?_
  refine J.region ?_
  refine J.op (Yd.assign rfl) rfl ?_
  refine J.op (Yd.assign rfl) rfl ?_
  refine J.nil ?_
  refine J.n_then ?_
  refine J.seq ?_
  refine J.seq ?_
  refine J.region ?_
  refine J.op (Yd.move rfl) rfl ?_
  refine J.op (Yd.len_b Try.underlying22 rfl hk) rfl ?_
  refine J.op (Yd.neq rfl rfl) rfl ?_
  refine J.op (Yd.move rfl) rfl ?_
  refine J.split_dec (t := 10) rfl (fun h1 => ?_) (fun h1 => ?_)
  · skip
    refine J.not_g rfl rfl rfl rfl rfl ?_
    refine J.not_g rfl rfl rfl rfl rfl ?_
    refine J.not_g rfl rfl rfl rfl rfl ?_
    refine J.op (Yd.pick_t rfl rfl) rfl ?_
    refine J.nil ?_
    refine J.n_then ?_
    refine J.cond_true rfl ?_
    refine J.seq ?_
    refine J.region ?_
    refine J.op (Yd.assign rfl) rfl ?_
    refine J.op (Yd.assign rfl) rfl ?_
    refine J.nil ?_
    refine J.n_then ?_
    refine J.ret ?_
    refine J.r_then ?_
    exact J.ret2 rfl rfl rfl (⟨_, rfl, nilS, by rw [blkE_no (by omega)]; rfl, by rw [blkL_no (by omega)]; exact Rd.nilM _ _, e0⟩)
  · skip
    refine J.op_g rfl rfl rfl (Yd.move rfl) rfl ?_
    refine J.op_g rfl rfl rfl (Yd.len_b Try.underlying22 rfl hb) rfl ?_
    refine J.op_g rfl rfl rfl (Yd.neq rfl rfl) rfl ?_
    refine J.op (Yd.pick_f rfl rfl) rfl ?_
    refine J.nil ?_
    refine J.n_then ?_
    refine J.cond_dec rfl (fun hc0 => ?_) (fun hc0 => ?_)
    · skip
      refine J.seq ?_
      refine J.region ?_
      refine J.op (Yd.assign rfl) rfl ?_
      refine J.op (Yd.assign rfl) rfl ?_
      refine J.nil ?_
      refine J.n_then ?_
      refine J.ret ?_
      refine J.r_then ?_
      exact J.ret2 rfl rfl rfl (⟨_, rfl, nilS, by rw [blkE_no (by omega)]; rfl, by rw [blkL_no (by omega)]; exact Rd.nilM _ _, e0⟩)
    · skip
      refine J.skip ?_
      refine J.n_then ?_
      refine J.seq ?_
      refine J.region ?_
      refine J.eff (Ye.call cl24 rfl (Boxes_ok)) rfl ?_
      rintro _ w1 ⟨rfl, x1⟩
      have e0 := e0.trans x1
      clear x1
      refine J.eff (Ye.alloc ti49 (S := [(0, 256, (List.replicate 256 0).map (fun x : UInt8 => B x))]) (by simp [SegAll, SegOK, Value.cells])) rfl ?_
      rintro _ w2 ⟨b6_1, rfl, hb_, c6_1, x1⟩
      have fr_b6_1 : Fr w.heap.size (some b6_1) := Fr.le (Fr.blk hb_) e0.size
      have e0 := e0.trans x1
      clear x1 hb_
      refine J.eff0 (Ye.storeA (ys := List.map (fun x : UInt8 => B x) _) ti49 c6_1 0 rfl rfl rfl rfl (by first | (rw [List.length_map]; omega) | (simp; done) | rfl | (simp <;> omega)) (one_M _ (fun _ => rfl))) ?_
      rintro _ w3 ⟨cX, hu⟩
      simp only [List.set_cons_zero, List.set_cons_succ] at cX
      have hg := hu.gb
      have e0 := Ext.gbk e0 fr_b6_1 hg
      clear hg
      replace c6_1 := cX
      clear cX hu
      refine J.nil ?_
      refine J.n_then ?_
      refine J.seq ?_
      refine J.regionO [(0, true), (4, true)] [(1, 1), (3, 1), (2, 0)] [(5, false), (6, true), (7, true)] mix (by kernel_rfl) ?_
      refine J.s_op rfl (fun _ => Yd.move rfl) rfl ?_
      refine J.s_op rfl (fun _ => Yd.move rfl) rfl ?_
      refine J.s_nil ?_
      refine J.o_op rfl (Yd.loadA ag49 ti49 rfl c6_1 0 rfl) rfl ?_
      refine J.o_op rfl (Yd.loadA ag49 ti49 rfl c6_1 0 rfl) rfl ?_
      refine J.o_eff rfl (Ye.call cl26 rfl (Sched_ok (Rd.ext hk e0) (by omega))) rfl (fun _ _ h => h.2) ?_
      rintro s18_4 w4 ⟨os18_4, x1⟩
      have ap_b6_1_s18_4 : Ap (some b6_1) s18_4.ownBlock := Ap.mk (Cel.live c6_1) (Ow.fr os18_4)
      have fr_s18_4 : Fr w.heap.size s18_4.ownBlock := Fr.le (Ow.fr os18_4) e0.size
      replace os18_4 := Ow.base os18_4 e0.size
      have e0 := e0.trans x1
      have c6_1 := c6_1.ext x1
      clear x1
      refine J.o_nil ?_
      refine J.s_eff rfl (Ye.call cl25 rfl (RBlock_ok (Ow.rd os18_4) (Rd.ext hb e0) (by omega) (by rw [kx_len _ (by omega)]))) rfl ?_
      rintro s21_5 w5 ⟨os21_5, x1⟩
      have ap_b6_1_s21_5 : Ap (some b6_1) s21_5.ownBlock := Ap.mk (Cel.live c6_1) (Ow.fr os21_5)
      have ap_s18_4_s21_5 : Ap s18_4.ownBlock s21_5.ownBlock := Ap.mk (Ow.live os18_4) (Ow.fr os21_5)
      have fr_s21_5 : Fr w.heap.size s21_5.ownBlock := Fr.le (Ow.fr os21_5) e0.size
      replace os21_5 := Ow.base os21_5 e0.size
      have e0 := e0.trans x1
      have c6_1 := c6_1.ext x1
      have os18_4 := os18_4.ext x1
      clear x1
      refine J.s_op rfl (fun _ => Yd.assign rfl) rfl ?_
      refine J.s_op rfl (fun _ => Yd.assign rfl) rfl ?_
      refine J.s_nil ?_
      refine J.n_np ?_
      refine J.n_then ?_
      refine J.ret ?_
      exact J.ret2 rfl rfl rfl (⟨_, rfl, _, by rw [blkE_yes (by omega)]; try rfl, by have h9 := (Ow.rd os21_5); rw [blkL_yes (by omega)]; exact h9, e0⟩)

theorem RStream_ok {a v : Value} {key nonce : List UInt8} {n : Int} {w : World} (hk : Bs w a key) (ho : Bs w v nonce) : C Try.prog 16 [a, v, I n] w (Ret fun u w' => ∃ s, u = .tuple #[s, I (strE key nonce n)] ∧ Bs w' s (strQ key nonce n) ∧ Ext w w') := by
  have e0 := Ext.refl w
  refine C.enter Try.func16 rfl Try.ntmps16 rfl ?_
  refine J.seq ?_
  refine J.region ?_
  refine J.op (Yd.assign rfl) rfl ?_
  refine J.op (Yd.assign rfl) rfl ?_
  refine J.nil ?_
  refine J.n_then ?_
  refine J.seq ?_
  refine J.seq ?_
  refine J.region ?_
  refine J.op (Yd.move rfl) rfl ?_
  refine J.op (Yd.len_b Try.underlying22 rfl hk) rfl ?_
  refine J.op (Yd.neq rfl rfl) rfl ?_
  refine J.op (Yd.move rfl) rfl ?_
  refine J.split_dec (t := 15) rfl (fun h1 => ?_) (fun h1 => ?_)
  · skip
    refine J.not_g rfl rfl rfl rfl rfl ?_
    refine J.not_g rfl rfl rfl rfl rfl ?_
    refine J.not_g rfl rfl rfl rfl rfl ?_
    refine J.op (Yd.pick_t rfl rfl) rfl ?_
    refine J.op (Yd.move rfl) rfl ?_
    refine J.not_g rfl rfl rfl rfl rfl ?_
    refine J.not_g rfl rfl rfl rfl rfl ?_
    refine J.op (Yd.pick_t rfl rfl) rfl ?_
    refine J.op (Yd.move rfl) rfl ?_
    refine J.not_g rfl rfl rfl rfl rfl ?_
    refine J.not_g rfl rfl rfl rfl rfl ?_
    refine J.op (Yd.pick_t rfl rfl) rfl ?_
    refine J.nil ?_
    refine J.n_then ?_
    refine J.cond_true rfl ?_
    refine J.seq ?_
    refine J.region ?_
    refine J.op (Yd.assign rfl) rfl ?_
    refine J.op (Yd.assign rfl) rfl ?_
    refine J.nil ?_
    refine J.n_then ?_
    refine J.ret ?_
    refine J.r_then ?_
    exact J.ret2 rfl rfl rfl (⟨_, rfl, nilS, by rw [strE_no (by omega)]; try rfl, by rw [strQ_no (by omega)]; exact Rd.nilM _ _, e0⟩)
  · skip
    refine J.op_g rfl rfl rfl (Yd.move rfl) rfl ?_
    refine J.op_g rfl rfl rfl (Yd.len_b Try.underlying22 rfl ho) rfl ?_
    refine J.op_g rfl rfl rfl (Yd.neq rfl rfl) rfl ?_
    refine J.op (Yd.pick_f rfl rfl) rfl ?_
    refine J.op (Yd.move rfl) rfl ?_
    refine J.split_dec (t := 20) rfl (fun h2 => ?_) (fun h2 => ?_)
    · skip
      refine J.not_g rfl rfl rfl rfl rfl ?_
      refine J.not_g rfl rfl rfl rfl rfl ?_
      refine J.op (Yd.pick_t rfl rfl) rfl ?_
      refine J.op (Yd.move rfl) rfl ?_
      refine J.not_g rfl rfl rfl rfl rfl ?_
      refine J.not_g rfl rfl rfl rfl rfl ?_
      refine J.op (Yd.pick_t rfl rfl) rfl ?_
      refine J.nil ?_
      refine J.n_then ?_
      refine J.cond_true rfl ?_
      refine J.seq ?_
      refine J.region ?_
      refine J.op (Yd.assign rfl) rfl ?_
      refine J.op (Yd.assign rfl) rfl ?_
      refine J.nil ?_
      refine J.n_then ?_
      refine J.ret ?_
      refine J.r_then ?_
      exact J.ret2 rfl rfl rfl (⟨_, rfl, nilS, by rw [strE_no (by omega)]; try rfl, by rw [strQ_no (by omega)]; exact Rd.nilM _ _, e0⟩)
    · skip
      refine J.op_g rfl rfl rfl (Yd.move rfl) rfl ?_
      refine J.op_g rfl rfl rfl (Yd.lss rfl rfl) rfl ?_
      refine J.op (Yd.pick_f rfl rfl) rfl ?_
      refine J.op (Yd.move rfl) rfl ?_
      refine J.split_dec (t := 24) rfl (fun h3 => ?_) (fun h3 => ?_)
      · skip
        refine J.not_g rfl rfl rfl rfl rfl ?_
        refine J.not_g rfl rfl rfl rfl rfl ?_
        refine J.op (Yd.pick_t rfl rfl) rfl ?_
        refine J.nil ?_
        refine J.n_then ?_
        refine J.cond_true rfl ?_
        refine J.seq ?_
        refine J.region ?_
        refine J.op (Yd.assign rfl) rfl ?_
        refine J.op (Yd.assign rfl) rfl ?_
        refine J.nil ?_
        refine J.n_then ?_
        refine J.ret ?_
        refine J.r_then ?_
        exact J.ret2 rfl rfl rfl (⟨_, rfl, nilS, by rw [strE_no (by omega)]; try rfl, by rw [strQ_no (by omega)]; exact Rd.nilM _ _, e0⟩)
      · skip
        refine J.op_g rfl rfl rfl (Yd.move rfl) rfl ?_
        refine J.op_g rfl rfl rfl (Yd.gtr rfl rfl) rfl ?_
        refine J.op (Yd.pick_f rfl rfl) rfl ?_
        refine J.nil ?_
        refine J.n_then ?_
        refine J.cond_dec rfl (fun hc0 => ?_) (fun hc0 => ?_)
        · skip
          refine J.seq ?_
          refine J.region ?_
          refine J.op (Yd.assign rfl) rfl ?_
          refine J.op (Yd.assign rfl) rfl ?_
          refine J.nil ?_
          refine J.n_then ?_
          refine J.ret ?_
          refine J.r_then ?_
          exact J.ret2 rfl rfl rfl (⟨_, rfl, nilS, by rw [strE_no (by omega)]; try rfl, by rw [strQ_no (by omega)]; exact Rd.nilM _ _, e0⟩)
        · skip
          have hn0 : 0 ≤ n ∧ n ≤ 1048576 := by omega
          obtain ⟨N, rfl⟩ := Int.eq_ofNat_of_zero_le hn0.1
          refine J.skip ?_
          refine J.n_then ?_
          refine J.seq ?_
          refine J.region ?_
          refine J.eff (Ye.call cl24 rfl (Boxes_ok)) rfl ?_
          rintro _ w1 ⟨rfl, x1⟩
          have e0 := e0.trans x1
          clear x1
          refine J.eff (Ye.alloc ti49 (S := [(0, 256, (List.replicate 256 0).map (fun x : UInt8 => B x))]) (by simp [SegAll, SegOK, Value.cells])) rfl ?_
          rintro _ w2 ⟨b8_1, rfl, hb_, c8_1, x1⟩
          have fr_b8_1 : Fr w.heap.size (some b8_1) := Fr.le (Fr.blk hb_) e0.size
          have e0 := e0.trans x1
          clear x1 hb_
          refine J.eff0 (Ye.storeA (ys := List.map (fun x : UInt8 => B x) _) ti49 c8_1 0 rfl rfl rfl rfl (by first | (rw [List.length_map]; omega) | (simp; done) | rfl | (simp <;> omega)) (one_M _ (fun _ => rfl))) ?_
          rintro _ w3 ⟨cX, hu⟩
          simp only [List.set_cons_zero, List.set_cons_succ] at cX
          have hg := hu.gb
          have e0 := Ext.gbk e0 fr_b8_1 hg
          clear hg
          replace c8_1 := cX
          clear cX hu
          refine J.nil ?_
          refine J.n_then ?_
          refine J.seq ?_
          refine J.region ?_
          refine J.op (Yd.move rfl) rfl ?_
          refine J.op (Yd.loadA ag49 ti49 rfl c8_1 0 rfl) rfl ?_
          refine J.eff (Ye.call cl26 rfl (Sched_ok (Rd.ext hk e0) (by omega))) rfl ?_
          rintro s31_4 w4 ⟨os31_4, x1⟩
          have ap_b8_1_s31_4 : Ap (some b8_1) s31_4.ownBlock := Ap.mk (Cel.live c8_1) (Ow.fr os31_4)
          have fr_s31_4 : Fr w.heap.size s31_4.ownBlock := Fr.le (Ow.fr os31_4) e0.size
          replace os31_4 := Ow.base os31_4 e0.size
          have e0 := e0.trans x1
          have c8_1 := c8_1.ext x1
          clear x1
          refine J.op (Yd.assign rfl) rfl ?_
          refine J.nil ?_
          refine J.n_then ?_
          refine J.seq ?_
          refine J.region ?_
          refine J.op (Yd.assign rfl) rfl ?_
          refine J.nil ?_
          refine J.n_then ?_
          refine J.seq ?_
          refine J.seq ?_
          refine J.region ?_
          refine J.op (Yd.assign rfl) rfl ?_
          refine J.nil ?_
          refine J.n_then ?_
          refine J.block ?_
          refine J.loop (ι := Nat × Value) (fun i => [(1, v), (2, I (N : Int)), (11, I i.1), (8, .pointer (some ⟨b8_1, 0, none⟩)), (10, i.2), (9, s31_4)]) (fun i w' => 16 * i.1 ≤ N + 15 ∧ Cel w' b8_1 49 [(0, 256, boxT.map (fun x : UInt8 => B x))] ∧ Ob w.heap.size 5 w' i.2 (strB key nonce i.1) ∧ Ob w.heap.size 5 w' s31_4 (kx key 52) ∧ Fr w.heap.size (i.2).ownBlock ∧ Ap (some b8_1) (i.2).ownBlock ∧ Ap s31_4.ownBlock (i.2).ownBlock ∧ Ext w w') (fun i => (N + 15) - 16 * i.1) ((0, nilS)) ⟨rfl, rfl, rfl, rfl, rfl, rfl, trivial⟩ (⟨by show 16 * 0 ≤ N + 15; omega, c8_1, Ow.nil _ _ _, os31_4, Fr.nil, Ap.nil_r, Ap.nil_r, e0⟩) ?_
          rintro ⟨k, v2⟩ w5 ⟨hk2, c8_1, hout, hws, fr_v2, ap_b8_1_v2, ap_s31_4_v2, e0⟩
          dsimp only at *
          have hsl := strB_len key nonce k
          refine J.seq ?_
          refine J.seq ?_
          refine J.region ?_
          refine J.op (Yd.move rfl) rfl ?_
          refine J.op (Yd.len_b Try.underlying22 rfl (Ow.rd hout)) rfl ?_
          refine J.op (Yd.move rfl) rfl ?_
          refine J.op (Yd.lss rfl rfl) rfl ?_
          refine J.nil ?_
          refine J.n_then ?_
          refine J.cond_dec rfl (fun hc1 => ?_) (fun hc1 => ?_)
          · skip
            refine J.skip ?_
            refine J.n_then ?_
            refine J.seq ?_
            refine J.block ?_
            refine J.regionO [(0, true), (1, true), (3, true), (4, true), (5, true)] [(2, 1), (6, 0), (7, 0), (8, 0)] [(9, false), (10, false), (11, true)] mix (by kernel_rfl) ?_
            refine J.s_op rfl (fun _ => Yd.move rfl) rfl ?_
            refine J.s_op rfl (fun _ => Yd.move rfl) rfl ?_
            refine J.s_op rfl (fun _ => Yd.move rfl) rfl ?_
            refine J.s_op rfl (fun _ => Yd.move rfl) rfl ?_
            refine J.s_op rfl (fun _ => Yd.cv_i_64 Try.underlying3 Try.underlying42 rfl (by omega)) rfl ?_
            refine J.s_nil ?_
            refine J.o_op rfl (Yd.loadA ag49 ti49 rfl c8_1 0 rfl) rfl ?_
            refine J.o_eff rfl (Ye.call cl21 rfl (RBig_ok (n := 4) (by omega))) rfl (fun _ _ h => h.2) ?_
            rintro s44_6 w6 ⟨os44_6, x1⟩
            have ap_b8_1_s44_6 : Ap (some b8_1) s44_6.ownBlock := Ap.mk (Cel.live c8_1) (Ow.fr os44_6)
            have ap_v2_s44_6 : Ap v2.ownBlock s44_6.ownBlock := Ap.mk (Ow.live hout) (Ow.fr os44_6)
            have ap_s31_4_s44_6 : Ap s31_4.ownBlock s44_6.ownBlock := Ap.mk (Ow.live hws) (Ow.fr os44_6)
            have fr_s44_6 : Fr w.heap.size s44_6.ownBlock := Fr.le (Ow.fr os44_6) e0.size
            replace os44_6 := Ow.base os44_6 e0.size
            have e0 := e0.trans x1
            have c8_1 := c8_1.ext x1
            have hout := hout.ext x1
            have hws := hws.ext x1
            clear x1
            refine J.o_eff rfl (Ye.litS2 Try.underlying58 ti22 rfl rfl rfl (Rd.ext ho e0) (Ow.rd os44_6)) rfl (fun _ _ h => h.2) ?_
            rintro s45_7 w7 ⟨o45_7, x1⟩
            have e0 := e0.trans x1
            have c8_1 := c8_1.ext x1
            have hout := hout.ext x1
            have hws := hws.ext x1
            have os44_6 := os44_6.ext x1
            clear x1
            refine J.o_eff rfl (Ye.call cl20 rfl (RCat_ok o45_7 (by first | omega | (simp [beN_len, leN_len, flipL_len, xorL_len] <;> omega)))) rfl (fun _ _ h => h.2) ?_
            rintro s46_8 w8 ⟨os46_8, x1⟩
            have ap_b8_1_s46_8 : Ap (some b8_1) s46_8.ownBlock := Ap.mk (Cel.live c8_1) (Ow.fr os46_8)
            have ap_v2_s46_8 : Ap v2.ownBlock s46_8.ownBlock := Ap.mk (Ow.live hout) (Ow.fr os46_8)
            have ap_s31_4_s46_8 : Ap s31_4.ownBlock s46_8.ownBlock := Ap.mk (Ow.live hws) (Ow.fr os46_8)
            have ap_s44_6_s46_8 : Ap s44_6.ownBlock s46_8.ownBlock := Ap.mk (Ow.live os44_6) (Ow.fr os46_8)
            have fr_s46_8 : Fr w.heap.size s46_8.ownBlock := Fr.le (Ow.fr os46_8) e0.size
            replace os46_8 := Ow.base os46_8 e0.size
            have e0 := e0.trans x1
            have c8_1 := c8_1.ext x1
            have hout := hout.ext x1
            have hws := hws.ext x1
            have os44_6 := os44_6.ext x1
            have o45_7 := o45_7.ext x1
            clear x1
            refine J.o_nil ?_
            refine J.s_eff rfl (Ye.call cl25 rfl (RBlock_ok (Ow.rd hws) (Ow.rd os46_8) (by simp [beN_len]; omega) (by rw [kx_len _ (by omega)]))) rfl ?_
            rintro s47_9 w9 ⟨os47_9, x1⟩
            have ap_b8_1_s47_9 : Ap (some b8_1) s47_9.ownBlock := Ap.mk (Cel.live c8_1) (Ow.fr os47_9)
            have ap_v2_s47_9 : Ap v2.ownBlock s47_9.ownBlock := Ap.mk (Ow.live hout) (Ow.fr os47_9)
            have ap_s31_4_s47_9 : Ap s31_4.ownBlock s47_9.ownBlock := Ap.mk (Ow.live hws) (Ow.fr os47_9)
            have ap_s44_6_s47_9 : Ap s44_6.ownBlock s47_9.ownBlock := Ap.mk (Ow.live os44_6) (Ow.fr os47_9)
            have ap_s46_8_s47_9 : Ap s46_8.ownBlock s47_9.ownBlock := Ap.mk (Ow.live os46_8) (Ow.fr os47_9)
            have fr_s47_9 : Fr w.heap.size s47_9.ownBlock := Fr.le (Ow.fr os47_9) e0.size
            replace os47_9 := Ow.base os47_9 e0.size
            have e0 := e0.trans x1
            have c8_1 := c8_1.ext x1
            have hout := hout.ext x1
            have hws := hws.ext x1
            have os44_6 := os44_6.ext x1
            have o45_7 := o45_7.ext x1
            have os46_8 := os46_8.ext x1
            clear x1
            refine J.s_eff rfl (Ye.appendS Try.underlying22 ti5 rfl rfl rfl rfl hout (Ow.rd os47_9) (fun _ => rfl) (by rw [strB_len, encR_len]; omega) e0.size) rfl ?_
            rintro s48_10 w10 ⟨o48_10, hg, hsf⟩
            have ap_b8_1_s48_10 : Ap (some b8_1) s48_10.ownBlock := Ap.sf ap_b8_1_v2 (Cel.live c8_1) hsf
            have ap_s31_4_s48_10 : Ap s31_4.ownBlock s48_10.ownBlock := Ap.sf ap_s31_4_v2 (Ow.live hws) hsf
            have ap_s44_6_s48_10 : Ap s44_6.ownBlock s48_10.ownBlock := Ap.sf (Ap.symm ap_v2_s44_6) (Ow.live os44_6) hsf
            have ap_s46_8_s48_10 : Ap s46_8.ownBlock s48_10.ownBlock := Ap.sf (Ap.symm ap_v2_s46_8) (Ow.live os46_8) hsf
            have ap_s47_9_s48_10 : Ap s47_9.ownBlock s48_10.ownBlock := Ap.sf (Ap.symm ap_v2_s47_9) (Ow.live os47_9) hsf
            have fr_s48_10 : Fr w.heap.size s48_10.ownBlock := Fr.sf fr_v2 hsf e0.size
            have c8_1 := Cel.gbk c8_1 hg ap_b8_1_v2
            have hws := Ow.gbk hws hg ap_s31_4_v2
            have os44_6 := Ow.gbk os44_6 hg (Ap.symm ap_v2_s44_6)
            have os46_8 := Ow.gbk os46_8 hg (Ap.symm ap_v2_s46_8)
            have os47_9 := Ow.gbk os47_9 hg (Ap.symm ap_v2_s47_9)
            have e0 := Ext.gbk e0 fr_v2 hg
            clear hg hsf
            refine J.s_op rfl (fun _ => Yd.assign rfl) rfl ?_
            refine J.s_nil ?_
            refine J.n_np ?_
            refine J.n_block ?_
            refine J.n_then ?_
            refine J.region ?_
            refine J.op (Yd.move rfl) rfl ?_
            refine J.op (Yd.add rfl rfl (by first | omega | (simp only [Int.toNat_natCast]; omega) | (simp only [List.length_map, List.length_drop, List.length_take, List.length_append, List.length_replicate]; omega) | (simp [beN_len] <;> omega))) rfl ?_
            refine J.op (Yd.assign rfl) rfl ?_
            refine J.nil ?_
            refine J.n_then ?_
            exact J.round ((k + 1, s48_10)) ⟨rfl, rfl, rfl, rfl, rfl, rfl, trivial⟩ (⟨by show 16 * (k + 1) ≤ N + 15; omega, c8_1, by show Ob _ _ _ _ (strB key nonce (k + 1)); rw [← rstr_next key nonce k (by omega)]; have h9 := o48_10; rw [Int.toNat_natCast] at h9; exact h9, hws, fr_s48_10, ap_b8_1_s48_10, ap_s31_4_s48_10, e0⟩) (by show (N + 15) - 16 * (k + 1) < (N + 15) - 16 * k; omega)
          · skip
            have hsl := strB_len key nonce k
            refine J.exit ?_
            refine J.x_then ?_
            refine J.x_then ?_
            refine J.x_block ?_
            refine J.n_then ?_
            refine J.seq ?_
            refine J.region ?_
            refine J.op (Yd.move rfl) rfl ?_
            refine J.op (Yd.move rfl) rfl ?_
            refine J.op (Yd.slcH Try.underlying22 ti5 rfl (Ow.rd hout) rfl (by first | omega | (simp only [Int.toNat_natCast]; omega) | (simp only [List.length_map, List.length_drop, List.length_take, List.length_append, List.length_replicate]; omega) | (simp [beN_len] <;> omega))) rfl ?_
            refine J.op (Yd.assign rfl) rfl ?_
            refine J.op (Yd.assign rfl) rfl ?_
            refine J.nil ?_
            refine J.n_then ?_
            refine J.ret ?_
            exact J.ret2 rfl rfl rfl (⟨_, rfl, _, by rw [strE_yes (by omega)]; try rfl, by have h9 : Bs _ (slc _ 0 (N : Int).toNat) _ := (Bs.slc (Ow.rd hout) (by first | omega | (simp only [Int.toNat_natCast]; omega) | (simp only [List.length_map, List.length_drop, List.length_take, List.length_append, List.length_replicate]; omega) | (simp [beN_len] <;> omega)) (by first | omega | (simp only [Int.toNat_natCast]; omega) | (simp only [List.length_map, List.length_drop, List.length_take, List.length_append, List.length_replicate]; omega) | (simp [beN_len] <;> omega))); rw [List.drop_zero, Int.toNat_natCast, strL_of _ _ (by omega)] at h9; rw [strQ_yes (by omega)]; exact h9, e0⟩)

theorem awake_ok {w : World} : C Try.prog 9 [] w (Ret fun v w' => v = .bool true ∧ Ext w w') := by
  have hka := kA_len
  have hba := bA_len
  have hbl := fun k => blkL_len (b := fillU (fun i => UInt8.ofNat (17 * i)) (List.replicate 16 0) k) ⟨kA_len, by rw [fillU_len]; simp⟩
  have e0 := Ext.refl w
  refine C.enter Try.func9 rfl Try.ntmps9 rfl ?_
  refine J.seq ?_
  refine J.region ?_
  refine J.op (Yd.assign rfl) rfl ?_
  refine J.nil ?_
  refine J.n_then ?_
  refine J.seq ?_
  refine J.region ?_
  refine J.eff (Ye.make (base := w.heap.size) Try.underlying22 ti5 rfl rfl (by first | omega | exact idx_u8' _ | (simp only [Int.toNat_natCast]; omega) | (simp only [List.length_map, List.length_drop, List.length_take, List.length_append, List.length_replicate]; omega) | (simp <;> omega)) (by first | omega | exact idx_u8' _ | (simp only [Int.toNat_natCast]; omega) | (simp only [List.length_map, List.length_drop, List.length_take, List.length_append, List.length_replicate]; omega) | (simp <;> omega)) (by unfold maxLen; omega) rfl (Nat.le_refl _)) rfl ?_
  rintro s7_1 w1 ⟨o7_1, x1⟩
  have fr_s7_1 : Fr w.heap.size s7_1.ownBlock := Fr.le (Ow.fr o7_1) e0.size
  replace o7_1 := Ow.base o7_1 e0.size
  have e0 := e0.trans x1
  clear x1
  rw [rep_B] at o7_1
  refine J.op (Yd.assign rfl) rfl ?_
  refine J.nil ?_
  refine J.n_then ?_
  refine J.seq ?_
  refine J.region ?_
  refine J.eff (Ye.make (base := w1.heap.size) Try.underlying22 ti5 rfl rfl (by first | omega | exact idx_u8' _ | (simp only [Int.toNat_natCast]; omega) | (simp only [List.length_map, List.length_drop, List.length_take, List.length_append, List.length_replicate]; omega) | (simp <;> omega)) (by first | omega | exact idx_u8' _ | (simp only [Int.toNat_natCast]; omega) | (simp only [List.length_map, List.length_drop, List.length_take, List.length_append, List.length_replicate]; omega) | (simp <;> omega)) (by unfold maxLen; omega) rfl (Nat.le_refl _)) rfl ?_
  rintro s8_2 w2 ⟨o8_2, x1⟩
  have ap_s7_1_s8_2 : Ap s7_1.ownBlock s8_2.ownBlock := Ap.mk (Ow.live o7_1) (Ow.fr o8_2)
  have fr_s8_2 : Fr w.heap.size s8_2.ownBlock := Fr.le (Ow.fr o8_2) e0.size
  replace o8_2 := Ow.base o8_2 e0.size
  have e0 := e0.trans x1
  have o7_1 := o7_1.ext x1
  clear x1
  rw [rep_B] at o8_2
  refine J.op (Yd.assign rfl) rfl ?_
  refine J.nil ?_
  refine J.n_then ?_
  refine J.seq ?_
  refine J.seq ?_
  refine J.region ?_
  refine J.op (Yd.assign rfl) rfl ?_
  refine J.nil ?_
  refine J.n_then ?_
  refine J.block ?_
  refine J.loop (ι := Nat) (fun i => [(3, I i), (1, s7_1), (2, s8_2)]) (fun i w' => i ≤ 32 ∧ Ob w.heap.size 5 w' s7_1 (fillU (fun i => UInt8.ofNat i) (List.replicate 32 0) i) ∧ Ob w.heap.size 5 w' s8_2 (List.replicate 16 0) ∧ Ext w w') (fun i => 32 - i) (0) ⟨rfl, rfl, rfl, trivial⟩ (⟨by omega, by have h9 := o7_1; rw [fillU_zero]; exact h9, o8_2, e0⟩) ?_
  rintro k w3 ⟨hk, hs1, hs2, e0⟩
  have hfl := fillU_len (fun i => UInt8.ofNat i) (List.replicate 32 0) k
  rw [List.length_replicate] at hfl
  refine J.seq ?_
  refine J.seq ?_
  refine J.region ?_
  refine J.op (Yd.move rfl) rfl ?_
  refine J.op (Yd.lss rfl rfl) rfl ?_
  refine J.nil ?_
  refine J.n_then ?_
  refine J.cond_dec rfl (fun hc0 => ?_) (fun hc0 => ?_)
  · skip
    refine J.skip ?_
    refine J.n_then ?_
    refine J.seq ?_
    refine J.block ?_
    refine J.region ?_
    refine J.op (Yd.move rfl) rfl ?_
    refine J.op (Yd.move rfl) rfl ?_
    refine J.op (Yd.move rfl) rfl ?_
    refine J.op (Yd.cv_i_8 Try.underlying3 Try.underlying5 rfl (by first | omega | exact idx_u8' _ | (simp only [Int.toNat_natCast]; omega) | (simp only [List.length_map, List.length_drop, List.length_take, List.length_append, List.length_replicate]; omega) | (simp <;> omega))) rfl ?_
    refine J.op (Yd.idx_b Try.underlying22 ti5 rfl rfl (Ow.rd hs1) (by first | omega | exact idx_u8' _ | (simp only [Int.toNat_natCast]; omega) | (simp only [List.length_map, List.length_drop, List.length_take, List.length_append, List.length_replicate]; omega) | (simp <;> omega))) rfl ?_
    refine J.eff0 (Ye.storeOwM ti5 hs1 rfl rfl (by first | omega | exact idx_u8' _ | (simp only [Int.toNat_natCast]; omega) | (simp only [List.length_map, List.length_drop, List.length_take, List.length_append, List.length_replicate]; omega) | (simp <;> omega)) (fun _ => rfl) (fun _ => rfl)) ?_
    rintro _ w4 ⟨o', hg⟩
    have hs2 := Ow.gbk hs2 hg (Ap.symm ap_s7_1_s8_2)
    have e0 := Ext.gbk e0 fr_s7_1 hg
    replace hs1 := o'
    clear hg o'
    refine J.nil ?_
    refine J.n_block ?_
    refine J.n_then ?_
    refine J.region ?_
    refine J.op (Yd.move rfl) rfl ?_
    refine J.op (Yd.add rfl rfl (by first | omega | exact idx_u8' _ | (simp only [Int.toNat_natCast]; omega) | (simp only [List.length_map, List.length_drop, List.length_take, List.length_append, List.length_replicate]; omega) | (simp <;> omega))) rfl ?_
    refine J.op (Yd.assign rfl) rfl ?_
    refine J.nil ?_
    refine J.n_then ?_
    exact J.round (k + 1) ⟨rfl, rfl, rfl, trivial⟩ (⟨by omega, by have h9 := hs1; rw [Int.toNat_natCast] at h9; rw [← fillU_set (fun i => UInt8.ofNat i)]; exact h9, hs2, e0⟩) (by omega)
  · skip
    refine J.exit ?_
    refine J.x_then ?_
    refine J.x_then ?_
    refine J.x_block ?_
    refine J.n_then ?_
    refine J.seq ?_
    refine J.seq ?_
    refine J.region ?_
    refine J.op (Yd.assign rfl) rfl ?_
    refine J.nil ?_
    refine J.n_then ?_
    refine J.block ?_
    refine J.loop (ι := Nat) (fun i => [(4, I i), (1, s7_1), (2, s8_2)]) (fun i w' => i ≤ 16 ∧ Ob w.heap.size 5 w' s7_1 (kA) ∧ Ob w.heap.size 5 w' s8_2 (fillU (fun i => UInt8.ofNat (17 * i)) (List.replicate 16 0) i) ∧ Ext w w') (fun i => 16 - i) (0) ⟨rfl, rfl, rfl, trivial⟩ (⟨by omega, by have h9 := hs1; rw [show k = 32 by omega] at h9; exact h9, by have h9 := hs2; rw [fillU_zero]; exact h9, e0⟩) ?_
    rintro k w5 ⟨hk, hs1, hs2, e0⟩
    have hfl := fillU_len (fun i => UInt8.ofNat (17 * i)) (List.replicate 16 0) k
    rw [List.length_replicate] at hfl
    refine J.seq ?_
    refine J.seq ?_
    refine J.region ?_
    refine J.op (Yd.move rfl) rfl ?_
    refine J.op (Yd.lss rfl rfl) rfl ?_
    refine J.nil ?_
    refine J.n_then ?_
    refine J.cond_dec rfl (fun hc1 => ?_) (fun hc1 => ?_)
    · skip
      refine J.skip ?_
      refine J.n_then ?_
      refine J.seq ?_
      refine J.block ?_
      refine J.region ?_
      refine J.op (Yd.move rfl) rfl ?_
      refine J.op (Yd.move rfl) rfl ?_
      refine J.op (Yd.move rfl) rfl ?_
      refine J.op (Yd.mul rfl rfl (by first | omega | exact idx_u8' _ | (simp only [Int.toNat_natCast]; omega) | (simp only [List.length_map, List.length_drop, List.length_take, List.length_append, List.length_replicate]; omega) | (simp <;> omega))) rfl ?_
      refine J.op (Yd.cv_i_8 Try.underlying3 Try.underlying5 rfl (by first | omega | exact idx_u8' _ | (simp only [Int.toNat_natCast]; omega) | (simp only [List.length_map, List.length_drop, List.length_take, List.length_append, List.length_replicate]; omega) | (simp <;> omega))) rfl ?_
      refine J.op (Yd.idx_b Try.underlying22 ti5 rfl rfl (Ow.rd hs2) (by first | omega | exact idx_u8' _ | (simp only [Int.toNat_natCast]; omega) | (simp only [List.length_map, List.length_drop, List.length_take, List.length_append, List.length_replicate]; omega) | (simp <;> omega))) rfl ?_
      refine J.eff0 (Ye.storeOwM ti5 hs2 rfl rfl (by first | omega | exact idx_u8' _ | (simp only [Int.toNat_natCast]; omega) | (simp only [List.length_map, List.length_drop, List.length_take, List.length_append, List.length_replicate]; omega) | (simp <;> omega)) (fun _ => rfl) (fun _ => rfl)) ?_
      rintro _ w6 ⟨o', hg⟩
      have hs1 := Ow.gbk hs1 hg ap_s7_1_s8_2
      have e0 := Ext.gbk e0 fr_s8_2 hg
      replace hs2 := o'
      clear hg o'
      refine J.nil ?_
      refine J.n_block ?_
      refine J.n_then ?_
      refine J.region ?_
      refine J.op (Yd.move rfl) rfl ?_
      refine J.op (Yd.add rfl rfl (by first | omega | exact idx_u8' _ | (simp only [Int.toNat_natCast]; omega) | (simp only [List.length_map, List.length_drop, List.length_take, List.length_append, List.length_replicate]; omega) | (simp <;> omega))) rfl ?_
      refine J.op (Yd.assign rfl) rfl ?_
      refine J.nil ?_
      refine J.n_then ?_
      exact J.round (k + 1) ⟨rfl, rfl, rfl, trivial⟩ (⟨by omega, hs1, by have h9 := hs2; rw [Int.toNat_natCast, show (17 * (k : Int)).toNat = 17 * k by omega] at h9; rw [← fillU_set (fun i => UInt8.ofNat (17 * i))]; exact h9, e0⟩) (by omega)
    · skip
      have hblk := hbl k
      refine J.exit ?_
      refine J.x_then ?_
      refine J.x_then ?_
      refine J.x_block ?_
      refine J.n_then ?_
      refine J.seq ?_
      refine J.region ?_
      refine J.op (Yd.move rfl) rfl ?_
      refine J.op (Yd.move rfl) rfl ?_
      refine J.eff (Ye.call cl10 rfl (Block_ok (Ow.rd hs1) (Ow.rd hs2))) rfl ?_
      rintro _ w7 ⟨s31_7, rfl, rs31_7, x1⟩
      have e0 := e0.trans x1
      have hs1 := hs1.ext x1
      have hs2 := hs2.ext x1
      clear x1
      refine J.op (Yd.move rfl) rfl ?_
      refine J.op (Yd.extract rfl rfl) rfl ?_
      refine J.op (Yd.extract rfl rfl) rfl ?_
      refine J.op (Yd.assign rfl) rfl ?_
      refine J.op (Yd.assign rfl) rfl ?_
      refine J.nil ?_
      refine J.n_then ?_
      refine J.seq ?_
      refine J.region ?_
      refine J.eff (Ye.call cl12 rfl (Box_ok (b := 0))) rfl ?_
      rintro _ w8 ⟨rfl, x1⟩
      have e0 := e0.trans x1
      have hs1 := hs1.ext x1
      have hs2 := hs2.ext x1
      have rs31_7 := rs31_7.ext x1
      clear x1
      refine J.op (Yd.eql rfl rfl) rfl ?_
      refine J.op (Yd.move rfl) rfl ?_
      refine J.know (t := 36) (v' := .bool true) rfl (tt (by decide +kernel)) ?_
      refine J.op_g rfl rfl rfl (Yd.move rfl) rfl ?_
      refine J.op_g rfl rfl rfl (Yd.eql rfl rfl) rfl ?_
      refine J.op (Yd.pick_t rfl rfl) rfl ?_
      refine J.op (Yd.move rfl) rfl ?_
      refine J.know (t := 40) (v' := .bool true) rfl (tt (by exact blkE_yes ⟨kA_len, by rw [fillU_len]; simp⟩)) ?_
      refine J.op_g rfl rfl rfl (Yd.move rfl) rfl ?_
      refine J.op_g rfl rfl rfl (Yd.len_b Try.underlying22 rfl rs31_7) rfl ?_
      refine J.op_g rfl rfl rfl (Yd.eql rfl rfl) rfl ?_
      refine J.op (Yd.pick_t rfl rfl) rfl ?_
      refine J.op (Yd.move rfl) rfl ?_
      refine J.know (t := 45) (v' := .bool true) rfl (tt (by rw [blkL_len ⟨kA_len, by rw [fillU_len]; simp⟩]; rfl)) ?_
      refine J.op_g rfl rfl rfl (Yd.move rfl) rfl ?_
      refine J.op_g rfl rfl rfl (Yd.slcH Try.underlying22 ti5 rfl rs31_7 rfl (by first | omega | exact idx_u8' _ | (simp only [Int.toNat_natCast]; omega) | (simp only [List.length_map, List.length_drop, List.length_take, List.length_append, List.length_replicate]; omega) | (simp <;> omega))) rfl ?_
      refine J.op_g rfl rfl rfl (Yd.bstr Try.underlying22 Try.underlying5 Try.underlying9 rfl (Bs.slc rs31_7 (by first | omega | exact idx_u8' _ | (simp only [Int.toNat_natCast]; omega) | (simp only [List.length_map, List.length_drop, List.length_take, List.length_append, List.length_replicate]; omega) | (simp <;> omega)) (by first | omega | exact idx_u8' _ | (simp only [Int.toNat_natCast]; omega) | (simp only [List.length_map, List.length_drop, List.length_take, List.length_append, List.length_replicate]; omega) | (simp <;> omega)))) rfl ?_
      refine J.op_g rfl rfl rfl (Yd.seq rfl rfl) rfl ?_
      refine J.op (Yd.pick_t rfl rfl) rfl ?_
      refine J.op (Yd.assign rfl) rfl ?_
      refine J.nil ?_
      refine J.n_then ?_
      refine J.ret ?_
      exact J.ret1 rfl rfl (⟨_, rfl, congrArg Value.bool (decide_eq_true (by rw [show k = 16 by omega]; exact aes_awake)), e0⟩)
end Ytbklhpdfbdhoeaa
end Go.Proofs
