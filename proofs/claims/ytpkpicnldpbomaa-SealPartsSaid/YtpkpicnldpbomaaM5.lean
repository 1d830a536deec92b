import Derived.Test.YtpkpicnldpbomaaT
import Derived.Test.YtpkpicnldpbomaaM4
set_option linter.unusedVariables false
set_option linter.unusedSimpArgs false
set_option maxRecDepth 100000
set_option maxHeartbeats 4000000
namespace Go.Proofs
open Go.X Go.RowKit
namespace Ytpkpicnldpbomaa
theorem RExpand_ok {a v : Value} {prk inf : List UInt8} {n : Int} {w : World} (ha : Bs w a prk) (hi : Bs w v inf) (hkl : prk.length ≤ 1000000) (hil : inf.length ≤ 1000000) : C Try.prog 28 [a, v, I n] w (Ret fun v w' => Bs w' v (exQ prk inf n) ∧ Ext w w') := by
  have e0 := Ext.refl w
  refine C.enter Try.func28 rfl Try.ntmps28 rfl ?_
  refine J.seq ?_
  refine J.region ?_
  refine J.op (Yd.assign rfl) rfl ?_
  refine J.nil ?_
  refine J.n_then ?_
  refine J.seq ?_
  refine J.seq ?_
  refine J.region ?_
  refine J.op (Yd.move rfl) rfl ?_
  refine J.op (Yd.lss rfl rfl) rfl ?_
  refine J.op (Yd.move rfl) rfl ?_
  refine J.split_dec (t := 12) rfl (fun h1 => ?_) (fun h1 => ?_)
  · skip
    refine J.not_g rfl rfl rfl rfl rfl ?_
    refine J.not_g rfl rfl rfl rfl rfl ?_
    refine J.op (Yd.pick_t rfl rfl) rfl ?_
    refine J.nil ?_
    refine J.n_then ?_
    refine J.cond_true rfl ?_
    refine J.seq ?_
    refine J.region ?_
    refine J.op (Yd.assign rfl) rfl ?_
    refine J.nil ?_
    refine J.n_then ?_
    refine J.ret ?_
    refine J.r_then ?_
    exact J.ret1 rfl rfl (⟨_, rfl, by rw [exQ_no (by omega)]; exact Rd.nilM _ _, e0⟩)
  · skip
    refine J.op_g rfl rfl rfl (Yd.move rfl) rfl ?_
    refine J.op_g rfl rfl rfl (Yd.gtr rfl rfl) rfl ?_
    refine J.op (Yd.pick_f rfl rfl) rfl ?_
    refine J.nil ?_
    refine J.n_then ?_
    refine J.cond_dec rfl (fun hc0 => ?_) (fun hc0 => ?_)
    · skip
      refine J.seq ?_
      refine J.region ?_
      refine J.op (Yd.assign rfl) rfl ?_
      refine J.nil ?_
      refine J.n_then ?_
      refine J.ret ?_
      refine J.r_then ?_
      exact J.ret1 rfl rfl (⟨_, rfl, by rw [exQ_no (by omega)]; exact Rd.nilM _ _, e0⟩)
    · skip
      obtain ⟨N, rfl⟩ := Int.eq_ofNat_of_zero_le (show 0 ≤ n by omega)
      refine J.skip ?_
      refine J.n_then ?_
      refine J.seq ?_
      refine J.region ?_
      refine J.op (Yd.assign rfl) rfl ?_
      refine J.op (Yd.assign rfl) rfl ?_
      refine J.nil ?_
      refine J.n_then ?_
      refine J.seq ?_
      refine J.seq ?_
      refine J.region ?_
      refine J.op (Yd.assign rfl) rfl ?_
      refine J.nil ?_
      refine J.n_then ?_
      refine J.block ?_
      refine J.loop (ι := Nat × Value × Value) (fun i => [(0, a), (1, v), (2, I (N : Int)), (9, I ((i.1 : Int) + 1)), (7, i.2.1), (8, i.2.2)]) (fun i w' => 32 * i.1 ≤ N + 31 ∧ Ob w.heap.size 5 w' i.2.1 (exO prk inf i.1) ∧ Ob w.heap.size 5 w' i.2.2 (exT prk inf i.1) ∧ Fr w.heap.size (i.2.1).ownBlock ∧ Fr w.heap.size (i.2.2).ownBlock ∧ Ap (i.2.1).ownBlock (i.2.2).ownBlock ∧ Ext w w') (fun i => (N + 31) - 32 * i.1) ((0, nilS, nilS)) ⟨rfl, rfl, rfl, rfl, rfl, rfl, trivial⟩ (⟨by show 32 * 0 ≤ N + 31; omega, Ow.nil _ _ _, Ow.nil _ _ _, Fr.nil, Fr.nil, Ap.nil_l, e0⟩) ?_
      rintro ⟨k, v8, v9⟩ w1 ⟨hk2, ho8, ho9, fr_v8, fr_v9, ap_v8_v9, e0⟩
      dsimp only at *
      have hol := exO_len prk inf k
      have htl := exT_le prk inf k
      refine J.seq ?_
      refine J.seq ?_
      refine J.region ?_
      refine J.op (Yd.move rfl) rfl ?_
      refine J.op (Yd.len_b Try.underlying22 rfl (Ow.rd ho8)) rfl ?_
      refine J.op (Yd.move rfl) rfl ?_
      refine J.op (Yd.lss rfl rfl) rfl ?_
      refine J.nil ?_
      refine J.n_then ?_
      refine J.cond_dec rfl (fun hc1 => ?_) (fun hc1 => ?_)
      · skip
        refine J.skip ?_
        refine J.n_then ?_
        refine J.seq ?_
        refine J.block ?_
        refine J.seq ?_
        refine J.region ?_
        refine J.op (Yd.move rfl) rfl ?_
        refine J.op (Yd.move rfl) rfl ?_
        refine J.op (Yd.move rfl) rfl ?_
        refine J.op (Yd.move rfl) rfl ?_
        refine J.op (Yd.cv_i_8 Try.underlying3 Try.underlying5 rfl (by first | omega | (simp only [Int.toNat_natCast]; omega) | (simp only [List.length_map, List.length_drop, List.length_take, List.length_append, List.length_replicate, macL_len, exO_len, Int.toNat_natCast]; omega) | (simp <;> omega))) rfl ?_
        refine J.eff (Ye.lit1 (base := w1.heap.size) (f := (fun x : UInt8 => B x)) Try.underlying22 ti5 rfl rfl (fun _ => rfl) (Nat.le_refl _)) rfl ?_
        rintro s27_2 w2 ⟨o27_2, x1⟩
        have ap_v8_s27_2 : Ap v8.ownBlock s27_2.ownBlock := Ap.mk (Ow.live ho8) (Ow.fr o27_2)
        have ap_v9_s27_2 : Ap v9.ownBlock s27_2.ownBlock := Ap.mk (Ow.live ho9) (Ow.fr o27_2)
        have fr_s27_2 : Fr w.heap.size s27_2.ownBlock := Fr.le (Ow.fr o27_2) e0.size
        replace o27_2 := Ow.base o27_2 e0.size
        have e0 := e0.trans x1
        have ho8 := ho8.ext x1
        have ho9 := ho9.ext x1
        clear x1
        refine J.eff (Ye.litS3 Try.underlying57 ti22 rfl rfl rfl rfl (Ow.rd ho9) (Rd.ext hi e0) (Ow.rd o27_2)) rfl ?_
        rintro s28_3 w3 ⟨o28_3, x1⟩
        have e0 := e0.trans x1
        have ho8 := ho8.ext x1
        have ho9 := ho9.ext x1
        have o27_2 := o27_2.ext x1
        clear x1
        refine J.eff (Ye.call cl20 rfl (RCat_ok o28_3 (by first | omega | (simp only [List.length_append, List.flatten_cons, List.flatten_nil, List.append_nil, fillU_len, List.length_replicate, padL_len, sha256L_len, macL_len, List.length_nil, List.length_cons, Int.toNat_natCast]; omega) | (simp [fillU_len, sha256L_len] <;> omega)))) rfl ?_
        rintro s29_4 w4 ⟨os29_4, x1⟩
        have ap_v8_s29_4 : Ap v8.ownBlock s29_4.ownBlock := Ap.mk (Ow.live ho8) (Ow.fr os29_4)
        have ap_v9_s29_4 : Ap v9.ownBlock s29_4.ownBlock := Ap.mk (Ow.live ho9) (Ow.fr os29_4)
        have ap_s27_2_s29_4 : Ap s27_2.ownBlock s29_4.ownBlock := Ap.mk (Ow.live o27_2) (Ow.fr os29_4)
        have fr_s29_4 : Fr w.heap.size s29_4.ownBlock := Fr.le (Ow.fr os29_4) e0.size
        replace os29_4 := Ow.base os29_4 e0.size
        have e0 := e0.trans x1
        have ho8 := ho8.ext x1
        have ho9 := ho9.ext x1
        have o27_2 := o27_2.ext x1
        have o28_3 := o28_3.ext x1
        clear x1
        refine J.eff (Ye.call cl19 rfl (RMac_ok (Rd.ext ha e0) (Ow.rd os29_4) (by first | omega | (simp only [List.length_append, List.flatten_cons, List.flatten_nil, List.append_nil, padL_len, sha256L_len, macL_len, List.length_nil, List.length_cons, Int.toNat_natCast]; omega) | (simp <;> omega)) (by first | omega | (simp only [List.length_append, List.flatten_cons, List.flatten_nil, List.append_nil, padL_len, sha256L_len, macL_len, List.length_nil, List.length_cons, Int.toNat_natCast]; omega) | (simp <;> omega)))) rfl ?_
        rintro s30_5 w5 ⟨os30_5, x1⟩
        have ap_v8_s30_5 : Ap v8.ownBlock s30_5.ownBlock := Ap.mk (Ow.live ho8) (Ow.fr os30_5)
        have ap_v9_s30_5 : Ap v9.ownBlock s30_5.ownBlock := Ap.mk (Ow.live ho9) (Ow.fr os30_5)
        have ap_s27_2_s30_5 : Ap s27_2.ownBlock s30_5.ownBlock := Ap.mk (Ow.live o27_2) (Ow.fr os30_5)
        have ap_s29_4_s30_5 : Ap s29_4.ownBlock s30_5.ownBlock := Ap.mk (Ow.live os29_4) (Ow.fr os30_5)
        have fr_s30_5 : Fr w.heap.size s30_5.ownBlock := Fr.le (Ow.fr os30_5) e0.size
        replace os30_5 := Ow.base os30_5 e0.size
        have e0 := e0.trans x1
        have ho8 := ho8.ext x1
        have ho9 := ho9.ext x1
        have o27_2 := o27_2.ext x1
        have o28_3 := o28_3.ext x1
        have os29_4 := os29_4.ext x1
        clear x1
        refine J.op (Yd.assign rfl) rfl ?_
        refine J.nil ?_
        refine J.n_then ?_
        refine J.region ?_
        refine J.op (Yd.move rfl) rfl ?_
        refine J.op (Yd.move rfl) rfl ?_
        refine J.eff (Ye.appendS Try.underlying22 ti5 rfl rfl rfl rfl ho8 (Ow.rd os30_5) (fun _ => rfl) (by first | omega | (simp only [Int.toNat_natCast]; omega) | (simp only [List.length_map, List.length_drop, List.length_take, List.length_append, List.length_replicate, macL_len, exO_len, Int.toNat_natCast]; omega) | (simp <;> omega)) e0.size) rfl ?_
        rintro s33_6 w6 ⟨o33_6, hg, hsf⟩
        have ap_v9_s33_6 : Ap v9.ownBlock s33_6.ownBlock := Ap.sf (Ap.symm ap_v8_v9) (Ow.live ho9) hsf
        have ap_s27_2_s33_6 : Ap s27_2.ownBlock s33_6.ownBlock := Ap.sf (Ap.symm ap_v8_s27_2) (Ow.live o27_2) hsf
        have ap_s29_4_s33_6 : Ap s29_4.ownBlock s33_6.ownBlock := Ap.sf (Ap.symm ap_v8_s29_4) (Ow.live os29_4) hsf
        have ap_s30_5_s33_6 : Ap s30_5.ownBlock s33_6.ownBlock := Ap.sf (Ap.symm ap_v8_s30_5) (Ow.live os30_5) hsf
        have fr_s33_6 : Fr w.heap.size s33_6.ownBlock := Fr.sf fr_v8 hsf e0.size
        have ho9 := Ow.gbk ho9 hg (Ap.symm ap_v8_v9)
        have o27_2 := Ow.gbk o27_2 hg (Ap.symm ap_v8_s27_2)
        have os29_4 := Ow.gbk os29_4 hg (Ap.symm ap_v8_s29_4)
        have os30_5 := Ow.gbk os30_5 hg (Ap.symm ap_v8_s30_5)
        have e0 := Ext.gbk e0 fr_v8 hg
        clear hg hsf
        refine J.op (Yd.assign rfl) rfl ?_
        refine J.nil ?_
        refine J.n_block ?_
        refine J.n_then ?_
        refine J.region ?_
        refine J.op (Yd.move rfl) rfl ?_
        refine J.op (Yd.add rfl rfl (by first | omega | (simp only [Int.toNat_natCast]; omega) | (simp only [List.length_map, List.length_drop, List.length_take, List.length_append, List.length_replicate, macL_len, exO_len, Int.toNat_natCast]; omega) | (simp <;> omega))) rfl ?_
        refine J.op (Yd.assign rfl) rfl ?_
        refine J.nil ?_
        refine J.n_then ?_
        exact J.round ((k + 1, s33_6, s30_5)) ⟨rfl, rfl, rfl, rfl, rfl, rfl, trivial⟩ (⟨by show 32 * (k + 1) ≤ N + 31; omega, by show Ob _ _ _ _ (exO prk inf (k + 1)); have h9 := o33_6; rw [show ((k : Int) + 1).toNat = k + 1 by omega, show ([exT prk inf k, inf, [UInt8.ofNat (k + 1)]] : List (List UInt8)).flatten = exT prk inf k ++ inf ++ [UInt8.ofNat (k + 1)] by simp] at h9; exact h9, by show Ob _ _ _ _ (exT prk inf (k + 1)); have h9 := os30_5; rw [show ((k : Int) + 1).toNat = k + 1 by omega, show ([exT prk inf k, inf, [UInt8.ofNat (k + 1)]] : List (List UInt8)).flatten = exT prk inf k ++ inf ++ [UInt8.ofNat (k + 1)] by simp] at h9; exact h9, fr_s33_6, fr_s30_5, (Ap.symm ap_s30_5_s33_6), e0⟩) (by show (N + 31) - 32 * (k + 1) < (N + 31) - 32 * k; omega)
      · skip
        have hol := exO_len prk inf k
        refine J.exit ?_
        refine J.x_then ?_
        refine J.x_then ?_
        refine J.x_block ?_
        refine J.n_then ?_
        refine J.seq ?_
        refine J.region ?_
        refine J.op (Yd.move rfl) rfl ?_
        refine J.op (Yd.move rfl) rfl ?_
        refine J.op (Yd.slcH Try.underlying22 ti5 rfl (Ow.rd ho8) rfl (by first | omega | (simp only [Int.toNat_natCast]; omega) | (simp only [List.length_map, List.length_drop, List.length_take, List.length_append, List.length_replicate, macL_len, exO_len, Int.toNat_natCast]; omega) | (simp <;> omega))) rfl ?_
        refine J.op (Yd.assign rfl) rfl ?_
        refine J.nil ?_
        refine J.n_then ?_
        refine J.ret ?_
        exact J.ret1 rfl rfl (⟨_, rfl, by have h9 : Bs _ _ (((exO prk inf k).take ((N : Int)).toNat).drop 0) := (Bs.slc (Ow.rd ho8) (by first | omega | (simp only [Int.toNat_natCast]; omega) | (simp only [List.length_map, List.length_drop, List.length_take, List.length_append, List.length_replicate, macL_len, exO_len, Int.toNat_natCast]; omega) | (simp <;> omega)) (by first | omega | (simp only [Int.toNat_natCast]; omega) | (simp only [List.length_map, List.length_drop, List.length_take, List.length_append, List.length_replicate, macL_len, exO_len, Int.toNat_natCast]; omega) | (simp <;> omega))); rw [List.drop_zero, Int.toNat_natCast, exL_of _ _ (by omega)] at h9; rw [exQ_yes (by omega), Int.toNat_natCast]; exact h9, e0⟩)

theorem RDerive_ok {a u v : Value} {salt ikm inf : List UInt8} {n : Int} {w : World} (ha : Bs w a salt) (hb : Bs w u ikm) (hi : Bs w v inf) (hkl : salt.length ≤ 1000000) (hbl : ikm.length ≤ 1000000) (hil : inf.length ≤ 1000000) : C Try.prog 16 [a, u, v, I n] w (Ret fun v w' => Bs w' v (exQ (macL salt ikm) inf n) ∧ Ext w w') := by
  have e0 := Ext.refl w
  refine C.enter Try.func16 rfl Try.ntmps16 rfl ?_
  refine J.seq ?_
  refine J.region ?_
  refine J.op (Yd.assign rfl) rfl ?_
  refine J.nil ?_
  refine J.n_then ?_
  refine J.seq ?_
  refine J.region ?_
  refine J.op (Yd.move rfl) rfl ?_
  refine J.op (Yd.move rfl) rfl ?_
  refine J.eff (Ye.call cl19 rfl (RMac_ok ha hb (by first | omega | (simp only [List.length_append, List.flatten_cons, List.flatten_nil, List.append_nil, padL_len, sha256L_len, macL_len, List.length_nil, List.length_cons, Int.toNat_natCast]; omega) | (simp <;> omega)) (by first | omega | (simp only [List.length_append, List.flatten_cons, List.flatten_nil, List.append_nil, padL_len, sha256L_len, macL_len, List.length_nil, List.length_cons, Int.toNat_natCast]; omega) | (simp <;> omega)))) rfl ?_
  rintro s11_1 w1 ⟨os11_1, x1⟩
  have fr_s11_1 : Fr w.heap.size s11_1.ownBlock := Fr.le (Ow.fr os11_1) e0.size
  replace os11_1 := Ow.base os11_1 e0.size
  have e0 := e0.trans x1
  clear x1
  refine J.op (Yd.move rfl) rfl ?_
  refine J.op (Yd.move rfl) rfl ?_
  refine J.eff (Ye.call cl28 rfl (RExpand_ok (Ow.rd os11_1) (Rd.ext hi e0) (by first | omega | (simp only [List.length_append, List.flatten_cons, List.flatten_nil, List.append_nil, padL_len, sha256L_len, macL_len, List.length_nil, List.length_cons, Int.toNat_natCast]; omega) | (simp <;> omega)) (by first | omega | (simp only [List.length_append, List.flatten_cons, List.flatten_nil, List.append_nil, padL_len, sha256L_len, macL_len, List.length_nil, List.length_cons, Int.toNat_natCast]; omega) | (simp <;> omega)))) rfl ?_
  rintro s14_2 w2 ⟨rs14_2, x1⟩
  have e0 := e0.trans x1
  have os11_1 := os11_1.ext x1
  clear x1
  refine J.op (Yd.assign rfl) rfl ?_
  refine J.nil ?_
  refine J.n_then ?_
  refine J.ret ?_
  exact J.ret1 rfl rfl (⟨_, rfl, rs14_2, e0⟩)
end Ytpkpicnldpbomaa
end Go.Proofs
