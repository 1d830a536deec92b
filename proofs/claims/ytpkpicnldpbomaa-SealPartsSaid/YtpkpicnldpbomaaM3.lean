import Derived.Test.YtpkpicnldpbomaaT
import Derived.Test.YtpkpicnldpbomaaM2
set_option linter.unusedVariables false
set_option linter.unusedSimpArgs false
set_option maxRecDepth 100000
set_option maxHeartbeats 4000000
namespace Go.Proofs
open Go.X Go.RowKit
namespace Ytpkpicnldpbomaa
theorem Expand_ok {a v : Value} {prk inf : List UInt8} {n : Int} {w : World} (ha : Bs w a prk) (hi : Bs w v inf) (hkl : prk.length ≤ 1000000) (hil : inf.length ≤ 1000000) : C Try.prog 34 [a, v, I n] w (Ret fun v w' => Bs w' v (exQ prk inf n) ∧ Ext w w') := by
  have e0 := Ext.refl w
  refine C.enter Try.func34 rfl Try.ntmps34 rfl ?_
  refine J.seq ?_
  refine J.region ?_
  refine J.op (Yd.assign rfl) rfl ?_
  refine J.nil ?_
  refine J.n_then ?_
  refine J.seq ?_
  refine J.seq ?_
  refine J.region ?_
  refine J.op (Yd.move rfl) rfl ?_
  refine J.op (Yd.lss rfl rfl) rfl ?_
  refine J.op (Yd.move rfl) rfl ?_
  refine J.split_dec (t := 13) rfl (fun h1 => ?_) (fun h1 => ?_)
  · skip
    refine J.not_g rfl rfl rfl rfl rfl ?_
    refine J.not_g rfl rfl rfl rfl rfl ?_
    refine J.op (Yd.pick_t rfl rfl) rfl ?_
    refine J.nil ?_
    refine J.n_then ?_
    refine J.cond_true rfl ?_
    refine J.seq ?_
    refine J.region ?_
    refine J.op (Yd.assign rfl) rfl ?_
    refine J.nil ?_
    refine J.n_then ?_
    refine J.ret ?_
    refine J.r_then ?_
    exact J.ret1 rfl rfl (⟨_, rfl, by rw [exQ_no (by omega)]; exact Rd.nilM _ _, e0⟩)
  · skip
    refine J.op_g rfl rfl rfl (Yd.move rfl) rfl ?_
    refine J.op_g rfl rfl rfl (Yd.gtr rfl rfl) rfl ?_
    refine J.op (Yd.pick_f rfl rfl) rfl ?_
    refine J.nil ?_
    refine J.n_then ?_
    refine J.cond_dec rfl (fun hc0 => ?_) (fun hc0 => ?_)
    · skip
      refine J.seq ?_
      refine J.region ?_
      refine J.op (Yd.assign rfl) rfl ?_
      refine J.nil ?_
      refine J.n_then ?_
      refine J.ret ?_
      refine J.r_then ?_
      exact J.ret1 rfl rfl (⟨_, rfl, by rw [exQ_no (by omega)]; exact Rd.nilM _ _, e0⟩)
    · skip
      obtain ⟨N, rfl⟩ := Int.eq_ofNat_of_zero_le (show 0 ≤ n by omega)
      refine J.skip ?_
      refine J.n_then ?_
      refine J.seq ?_
      refine J.region ?_
      refine J.op (Yd.move rfl) rfl ?_
      refine J.eff (Ye.call cl23 rfl (NewKey_ok ha (by first | omega | (simp only [List.length_append, List.flatten_cons, List.flatten_nil, List.append_nil, padL_len, sha256L_len, macL_len, List.length_nil, List.length_cons, Int.toNat_natCast]; omega) | (simp <;> omega)))) rfl ?_
      rintro _ w1 ⟨b18_1, rfl, kb18_1, x1⟩
      have e0 := e0.trans x1
      clear x1
      refine J.op (Yd.mkFunc rfl) rfl ?_
      refine J.op (Yd.assign rfl) rfl ?_
      refine J.nil ?_
      refine J.n_then ?_
      refine J.seq ?_
      refine J.region ?_
      refine J.op (Yd.assign rfl) rfl ?_
      refine J.op (Yd.assign rfl) rfl ?_
      refine J.nil ?_
      refine J.n_then ?_
      refine J.seq ?_
      refine J.seq ?_
      refine J.region ?_
      refine J.op (Yd.assign rfl) rfl ?_
      refine J.nil ?_
      refine J.n_then ?_
      refine J.block ?_
      have eW := e0
      replace ha := Rd.ext ha e0
      replace hi := Rd.ext hi e0
      rename World => w
      replace e0 := Ext.refl w
      refine J.loop (ι := Nat × Value × Value) (fun i => [(1, v), (2, I (N : Int)), (7, .func (.func 40) #[.pointer (some ⟨b18_1, 0, none⟩)] #[]), (10, B (UInt8.ofNat (i.1 + 1))), (8, i.2.1), (9, i.2.2)]) (fun i w' => 32 * i.1 ≤ N + 31 ∧ Ob w.heap.size 5 w' i.2.1 (exO prk inf i.1) ∧ Ob w.heap.size 5 w' i.2.2 (exT prk inf i.1) ∧ Fr w.heap.size (i.2.1).ownBlock ∧ Fr w.heap.size (i.2.2).ownBlock ∧ Ap (i.2.1).ownBlock (i.2.2).ownBlock ∧ Ext w w') (fun i => (N + 31) - 32 * i.1) ((0, nilS, nilS)) ⟨rfl, rfl, rfl, rfl, rfl, rfl, trivial⟩ (⟨by show 32 * 0 ≤ N + 31; omega, Ow.nil _ _ _, Ow.nil _ _ _, Fr.nil, Fr.nil, Ap.nil_l, e0⟩) ?_
      rintro ⟨k, v8, v9⟩ w2 ⟨hk2, ho8, ho9, fr_v8, fr_v9, ap_v8_v9, e0⟩
      dsimp only at *
      have hol := exO_len prk inf k
      have htl := exT_le prk inf k
      refine J.seq ?_
      refine J.seq ?_
      refine J.region ?_
      refine J.op (Yd.move rfl) rfl ?_
      refine J.op (Yd.len_b Try.underlying22 rfl (Ow.rd ho8)) rfl ?_
      refine J.op (Yd.move rfl) rfl ?_
      refine J.op (Yd.lss rfl rfl) rfl ?_
      refine J.nil ?_
      refine J.n_then ?_
      refine J.cond_dec rfl (fun hc1 => ?_) (fun hc1 => ?_)
      · skip
        refine J.skip ?_
        refine J.n_then ?_
        refine J.seq ?_
        refine J.block ?_
        refine J.seq ?_
        refine J.region ?_
        refine J.op (Yd.move rfl) rfl ?_
        refine J.op (Yd.move rfl) rfl ?_
        refine J.op (Yd.move rfl) rfl ?_
        refine J.op (Yd.move rfl) rfl ?_
        refine J.eff (Ye.lit1 (base := w2.heap.size) (f := (fun x : UInt8 => B x)) Try.underlying22 ti5 rfl rfl (fun _ => rfl) (Nat.le_refl _)) rfl ?_
        rintro s30_3 w3 ⟨o30_3, x1⟩
        have ap_v8_s30_3 : Ap v8.ownBlock s30_3.ownBlock := Ap.mk (Ow.live ho8) (Ow.fr o30_3)
        have ap_v9_s30_3 : Ap v9.ownBlock s30_3.ownBlock := Ap.mk (Ow.live ho9) (Ow.fr o30_3)
        have fr_s30_3 : Fr w.heap.size s30_3.ownBlock := Fr.le (Ow.fr o30_3) e0.size
        replace o30_3 := Ow.base o30_3 e0.size
        have e0 := e0.trans x1
        have ho8 := ho8.ext x1
        have ho9 := ho9.ext x1
        clear x1
        refine J.eff (Ye.litS3 Try.underlying57 ti22 rfl rfl rfl rfl (Ow.rd ho9) (Rd.ext hi e0) (Ow.rd o30_3)) rfl ?_
        rintro s31_4 w4 ⟨o31_4, x1⟩
        have e0 := e0.trans x1
        have ho8 := ho8.ext x1
        have ho9 := ho9.ext x1
        have o30_3 := o30_3.ext x1
        clear x1
        refine J.eff (Ye.callv cl40 rfl rfl (KMac_ok (KeyP.ext kb18_1 e0) o31_4 (by first | omega | (simp only [List.length_append, List.flatten_cons, List.flatten_nil, List.append_nil, padL_len, sha256L_len, macL_len, List.length_nil, List.length_cons, Int.toNat_natCast]; omega) | (simp <;> omega)))) rfl ?_
        rintro s32_5 w5 ⟨os32_5, x1⟩
        have ap_v8_s32_5 : Ap v8.ownBlock s32_5.ownBlock := Ap.mk (Ow.live ho8) (Ow.fr os32_5)
        have ap_v9_s32_5 : Ap v9.ownBlock s32_5.ownBlock := Ap.mk (Ow.live ho9) (Ow.fr os32_5)
        have ap_s30_3_s32_5 : Ap s30_3.ownBlock s32_5.ownBlock := Ap.mk (Ow.live o30_3) (Ow.fr os32_5)
        have fr_s32_5 : Fr w.heap.size s32_5.ownBlock := Fr.le (Ow.fr os32_5) e0.size
        replace os32_5 := Ow.base os32_5 e0.size
        have e0 := e0.trans x1
        have ho8 := ho8.ext x1
        have ho9 := ho9.ext x1
        have o30_3 := o30_3.ext x1
        have o31_4 := o31_4.ext x1
        clear x1
        refine J.op (Yd.assign rfl) rfl ?_
        refine J.nil ?_
        refine J.n_then ?_
        refine J.region ?_
        refine J.op (Yd.move rfl) rfl ?_
        refine J.op (Yd.move rfl) rfl ?_
        refine J.eff (Ye.appendS Try.underlying22 ti5 rfl rfl rfl rfl ho8 (Ow.rd os32_5) (fun _ => rfl) (by first | omega | (simp only [Int.toNat_natCast]; omega) | (simp only [List.length_map, List.length_drop, List.length_take, List.length_append, List.length_replicate, macL_len, exO_len, Int.toNat_natCast]; omega) | (simp <;> omega)) e0.size) rfl ?_
        rintro s35_6 w6 ⟨o35_6, hg, hsf⟩
        have ap_v9_s35_6 : Ap v9.ownBlock s35_6.ownBlock := Ap.sf (Ap.symm ap_v8_v9) (Ow.live ho9) hsf
        have ap_s30_3_s35_6 : Ap s30_3.ownBlock s35_6.ownBlock := Ap.sf (Ap.symm ap_v8_s30_3) (Ow.live o30_3) hsf
        have ap_s32_5_s35_6 : Ap s32_5.ownBlock s35_6.ownBlock := Ap.sf (Ap.symm ap_v8_s32_5) (Ow.live os32_5) hsf
        have fr_s35_6 : Fr w.heap.size s35_6.ownBlock := Fr.sf fr_v8 hsf e0.size
        have ho9 := Ow.gbk ho9 hg (Ap.symm ap_v8_v9)
        have o30_3 := Ow.gbk o30_3 hg (Ap.symm ap_v8_s30_3)
        have os32_5 := Ow.gbk os32_5 hg (Ap.symm ap_v8_s32_5)
        have e0 := Ext.gbk e0 fr_v8 hg
        clear hg hsf
        refine J.op (Yd.assign rfl) rfl ?_
        refine J.nil ?_
        refine J.n_block ?_
        refine J.n_then ?_
        refine J.region ?_
        refine J.op (Yd.move rfl) rfl ?_
        refine J.op (Yd.add_u8 (n := 1) rfl rfl) rfl ?_
        refine J.op (Yd.assign rfl) rfl ?_
        refine J.nil ?_
        refine J.n_then ?_
        exact J.round ((k + 1, s35_6, s32_5)) ⟨rfl, rfl, rfl, (congrArg (fun z => some (B z)) (u8_succ _)), rfl, rfl, trivial⟩ (⟨by show 32 * (k + 1) ≤ N + 31; omega, by show Ob _ _ _ _ (exO prk inf (k + 1)); have h9 := o35_6; rw [show ([exT prk inf k, inf, [UInt8.ofNat (k + 1)]] : List (List UInt8)).flatten = exT prk inf k ++ inf ++ [UInt8.ofNat (k + 1)] by simp] at h9; exact h9, by show Ob _ _ _ _ (exT prk inf (k + 1)); have h9 := os32_5; rw [show ([exT prk inf k, inf, [UInt8.ofNat (k + 1)]] : List (List UInt8)).flatten = exT prk inf k ++ inf ++ [UInt8.ofNat (k + 1)] by simp] at h9; exact h9, fr_s35_6, fr_s32_5, (Ap.symm ap_s32_5_s35_6), e0⟩) (by show (N + 31) - 32 * (k + 1) < (N + 31) - 32 * k; omega)
      · skip
        have hol := exO_len prk inf k
        refine J.exit ?_
        refine J.x_then ?_
        refine J.x_then ?_
        refine J.x_block ?_
        refine J.n_then ?_
        refine J.seq ?_
        refine J.region ?_
        refine J.op (Yd.move rfl) rfl ?_
        refine J.op (Yd.move rfl) rfl ?_
        refine J.op (Yd.slcH Try.underlying22 ti5 rfl (Ow.rd ho8) rfl (by first | omega | (simp only [Int.toNat_natCast]; omega) | (simp only [List.length_map, List.length_drop, List.length_take, List.length_append, List.length_replicate, macL_len, exO_len, Int.toNat_natCast]; omega) | (simp <;> omega))) rfl ?_
        refine J.eff (Ye.appendS Try.underlying22 ti5 rfl rfl rfl rfl (Ow.nilM (fun x : UInt8 => B x) (w.heap.size) 5 _) (Bs.slc (Ow.rd ho8) (by first | omega | (simp only [Int.toNat_natCast]; omega) | (simp only [List.length_map, List.length_drop, List.length_take, List.length_append, List.length_replicate, macL_len, exO_len, Int.toNat_natCast]; omega) | (simp <;> omega)) (by first | omega | (simp only [Int.toNat_natCast]; omega) | (simp only [List.length_map, List.length_drop, List.length_take, List.length_append, List.length_replicate, macL_len, exO_len, Int.toNat_natCast]; omega) | (simp <;> omega))) (fun _ => rfl) (by first | omega | (simp only [Int.toNat_natCast]; omega) | (simp only [List.length_map, List.length_drop, List.length_take, List.length_append, List.length_replicate, macL_len, exO_len, Int.toNat_natCast]; omega) | (simp <;> omega)) e0.size) rfl ?_
        rintro s39_7 w7 ⟨o39_7, hg, hsf⟩
        have ap_v8_s39_7 : Ap v8.ownBlock s39_7.ownBlock := Ap.sf Ap.nil_r (Ow.live ho8) hsf
        have ap_v9_s39_7 : Ap v9.ownBlock s39_7.ownBlock := Ap.sf Ap.nil_r (Ow.live ho9) hsf
        have fr_s39_7 : Fr w.heap.size s39_7.ownBlock := Fr.sf Fr.nil hsf e0.size
        replace hg := ext_grown hg
        have e0 := e0.trans hg
        have ho8 := ho8.ext hg
        have ho9 := ho9.ext hg
        clear hg hsf
        rw [List.nil_append] at o39_7
        refine J.op (Yd.assign rfl) rfl ?_
        refine J.nil ?_
        refine J.n_then ?_
        refine J.ret ?_
        exact J.ret1 rfl rfl (⟨_, rfl, by have h9 := Ow.rd o39_7; rw [List.drop_zero, Int.toNat_natCast, exL_of _ _ (by omega)] at h9; rw [exQ_yes (by omega), Int.toNat_natCast]; exact h9, eW.trans e0⟩)

theorem Derive_ok {a u v : Value} {salt ikm inf : List UInt8} {n : Int} {w : World} (ha : Bs w a salt) (hb : Bs w u ikm) (hi : Bs w v inf) (hkl : salt.length ≤ 1000000) (hbl : ikm.length ≤ 1000000) (hil : inf.length ≤ 1000000) : C Try.prog 22 [a, u, v, I n] w (Ret fun v w' => Bs w' v (exQ (macL salt ikm) inf n) ∧ Ext w w') := by
  have e0 := Ext.refl w
  refine C.enter Try.func22 rfl Try.ntmps22 rfl ?_
  refine J.seq ?_
  refine J.region ?_
  refine J.op (Yd.assign rfl) rfl ?_
  refine J.nil ?_
  refine J.n_then ?_
  refine J.seq ?_
  refine J.region ?_
  refine J.op (Yd.move rfl) rfl ?_
  refine J.op (Yd.move rfl) rfl ?_
  refine J.eff (Ye.call cl35 rfl (Extract_ok ha hb (by first | omega | (simp only [List.length_append, List.flatten_cons, List.flatten_nil, List.append_nil, padL_len, sha256L_len, macL_len, List.length_nil, List.length_cons, Int.toNat_natCast]; omega) | (simp <;> omega)) (by first | omega | (simp only [List.length_append, List.flatten_cons, List.flatten_nil, List.append_nil, padL_len, sha256L_len, macL_len, List.length_nil, List.length_cons, Int.toNat_natCast]; omega) | (simp <;> omega)))) rfl ?_
  rintro s11_1 w1 ⟨os11_1, x1⟩
  have fr_s11_1 : Fr w.heap.size s11_1.ownBlock := Fr.le (Ow.fr os11_1) e0.size
  replace os11_1 := Ow.base os11_1 e0.size
  have e0 := e0.trans x1
  clear x1
  refine J.op (Yd.move rfl) rfl ?_
  refine J.op (Yd.move rfl) rfl ?_
  refine J.eff (Ye.call cl34 rfl (Expand_ok (Ow.rd os11_1) (Rd.ext hi e0) (by first | omega | (simp only [List.length_append, List.flatten_cons, List.flatten_nil, List.append_nil, padL_len, sha256L_len, macL_len, List.length_nil, List.length_cons, Int.toNat_natCast]; omega) | (simp <;> omega)) (by first | omega | (simp only [List.length_append, List.flatten_cons, List.flatten_nil, List.append_nil, padL_len, sha256L_len, macL_len, List.length_nil, List.length_cons, Int.toNat_natCast]; omega) | (simp <;> omega)))) rfl ?_
  rintro s14_2 w2 ⟨rs14_2, x1⟩
  have e0 := e0.trans x1
  have os11_1 := os11_1.ext x1
  clear x1
  refine J.op (Yd.assign rfl) rfl ?_
  refine J.nil ?_
  refine J.n_then ?_
  refine J.ret ?_
  exact J.ret1 rfl rfl (⟨_, rfl, rs14_2, e0⟩)
end Ytpkpicnldpbomaa
end Go.Proofs
