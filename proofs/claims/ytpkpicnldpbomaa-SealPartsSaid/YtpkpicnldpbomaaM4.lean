import Derived.Test.YtpkpicnldpbomaaT
import Derived.Test.YtpkpicnldpbomaaM3
set_option linter.unusedVariables false
set_option linter.unusedSimpArgs false
set_option maxRecDepth 100000
set_option maxHeartbeats 4000000
namespace Go.Proofs
open Go.X Go.RowKit
namespace Ytpkpicnldpbomaa
theorem RFill_ok {a : Value} {l : List UInt8} {n : Nat} {w : World} (ha : Bs w a l) (hn : n ≤ 1000000000) : C Try.prog 33 [a, I n] w (Ret fun v w' => Ob w.heap.size 5 w' v (firstL l n) ∧ Ext w w') := by
  have e0 := Ext.refl w
  refine C.enter Try.func33 rfl Try.ntmps33 rfl ?_
  refine J.seq ?_
  refine J.region ?_
  refine J.op (Yd.assign rfl) rfl ?_
  refine J.nil ?_
  refine J.n_then ?_
  refine J.seq ?_
  refine J.region ?_
  refine J.op (Yd.move rfl) rfl ?_
  refine J.eff (Ye.make (n := (n : Int)) (w.heap.size) Try.underlying22 ti5 rfl rfl (by omega) (by omega) (by unfold maxLen; omega) rfl e0.size) rfl ?_
  rintro s7_1 w1 ⟨o7_1, x1⟩
  have fr_s7_1 : Fr w.heap.size s7_1.ownBlock := Fr.le (Ow.fr o7_1) e0.size
  replace o7_1 := Ow.base o7_1 e0.size
  have e0 := e0.trans x1
  clear x1
  rw [rep_B] at o7_1
  refine J.op (Yd.assign rfl) rfl ?_
  refine J.nil ?_
  refine J.n_then ?_
  refine J.seq ?_
  refine J.region ?_
  refine J.op (Yd.move rfl) rfl ?_
  refine J.op (Yd.move rfl) rfl ?_
  refine J.eff (Ye.copyO Try.underlying22 ti5 rfl rfl o7_1 (Rd.ext ha e0) (one_M _ (fun _ => rfl))) rfl ?_
  rintro _ w2 ⟨rfl, o', hg⟩
  have e0 := Ext.gbk e0 fr_s7_1 hg
  replace o7_1 := o'
  clear hg o'
  simp only [List.length_map, ← List.map_take, ← List.map_drop, ← List.map_append] at o7_1; rw [first_law] at o7_1
  refine J.nil ?_
  refine J.n_then ?_
  refine J.seq ?_
  refine J.region ?_
  refine J.op (Yd.move rfl) rfl ?_
  refine J.op (Yd.assign rfl) rfl ?_
  refine J.nil ?_
  refine J.n_then ?_
  refine J.ret ?_
  exact J.ret1 rfl rfl (⟨_, rfl, o7_1, e0⟩)

theorem RMac_ok {a v : Value} {key l : List UInt8} {w : World} (ha : Bs w a key) (hb : Bs w v l) (hkl : key.length ≤ 1000000) (ht : l.length ≤ 10000000) : C Try.prog 19 [a, v] w (Ret fun v w' => Ob w.heap.size 5 w' v (macL key l) ∧ Ext w w') := by
  have hk6 := key64_len key
  have e0 := Ext.refl w
  refine C.enter Try.func19 rfl Try.ntmps19 rfl ?_
  refine J.seq ?_
  refine J.region ?_
  refine J.op (Yd.assign rfl) rfl ?_
  refine J.nil ?_
  refine J.n_then ?_
  refine J.seq ?_
  refine J.seq ?_
  refine J.region ?_
  refine J.op (Yd.move rfl) rfl ?_
  refine J.op (Yd.len_b Try.underlying22 rfl ha) rfl ?_
  refine J.op (Yd.gtr rfl rfl) rfl ?_
  refine J.nil ?_
  refine J.n_then ?_
  refine J.cond_dec rfl (fun hc0 => ?_) (fun hc0 => ?_)
  · skip
    refine J.region ?_
    refine J.op (Yd.move rfl) rfl ?_
    refine J.eff (Ye.call cl32 rfl (RSum256_ok ha (by first | omega | (simp only [List.length_append, List.flatten_cons, List.flatten_nil, List.append_nil, fillU_len, List.length_replicate, padL_len, sha256L_len, macL_len, List.length_nil, List.length_cons, Int.toNat_natCast]; omega) | (simp [fillU_len, sha256L_len] <;> omega)))) rfl ?_
    rintro s13_1 w1 ⟨os13_1, x1⟩
    have fr_s13_1 : Fr w.heap.size s13_1.ownBlock := Fr.le (Ow.fr os13_1) e0.size
    replace os13_1 := Ow.base os13_1 e0.size
    have e0 := e0.trans x1
    clear x1
    refine J.op (Yd.assign rfl) rfl ?_
    refine J.nil ?_
    refine J.n_then ?_
    refine J.seq ?_
    refine J.region ?_
    refine J.op (Yd.move rfl) rfl ?_
    refine J.eff (Ye.call cl33 rfl (RFill_ok (n := 64) (Ow.rd os13_1) (by omega))) rfl ?_
    rintro s15_2 w2 ⟨os15_2, x1⟩
    have ap_s13_1_s15_2 : Ap s13_1.ownBlock s15_2.ownBlock := Ap.mk (Ow.live os13_1) (Ow.fr os15_2)
    have fr_s15_2 : Fr w.heap.size s15_2.ownBlock := Fr.le (Ow.fr os15_2) e0.size
    replace os15_2 := Ow.base os15_2 e0.size
    have e0 := e0.trans x1
    have os13_1 := os13_1.ext x1
    clear x1
    refine J.op (Yd.assign rfl) rfl ?_
    refine J.nil ?_
    refine J.n_then ?_
    refine J.seq ?_
    refine J.region ?_
    refine J.eff (Ye.make (base := w2.heap.size) Try.underlying22 ti5 rfl rfl (by first | omega | (simp only [List.length_append, List.flatten_cons, List.flatten_nil, List.append_nil, fillU_len, List.length_replicate, padL_len, sha256L_len, macL_len, List.length_nil, List.length_cons, Int.toNat_natCast]; omega) | (simp [fillU_len, sha256L_len] <;> omega)) (by first | omega | (simp only [List.length_append, List.flatten_cons, List.flatten_nil, List.append_nil, fillU_len, List.length_replicate, padL_len, sha256L_len, macL_len, List.length_nil, List.length_cons, Int.toNat_natCast]; omega) | (simp [fillU_len, sha256L_len] <;> omega)) (by unfold maxLen; omega) rfl (Nat.le_refl _)) rfl ?_
    rintro s16_3 w3 ⟨o16_3, x1⟩
    have ap_s13_1_s16_3 : Ap s13_1.ownBlock s16_3.ownBlock := Ap.mk (Ow.live os13_1) (Ow.fr o16_3)
    have ap_s15_2_s16_3 : Ap s15_2.ownBlock s16_3.ownBlock := Ap.mk (Ow.live os15_2) (Ow.fr o16_3)
    have fr_s16_3 : Fr w.heap.size s16_3.ownBlock := Fr.le (Ow.fr o16_3) e0.size
    replace o16_3 := Ow.base o16_3 e0.size
    have e0 := e0.trans x1
    have os13_1 := os13_1.ext x1
    have os15_2 := os15_2.ext x1
    clear x1
    rw [rep_B] at o16_3
    refine J.op (Yd.assign rfl) rfl ?_
    refine J.nil ?_
    refine J.n_then ?_
    refine J.seq ?_
    refine J.region ?_
    refine J.eff (Ye.make (base := w3.heap.size) Try.underlying22 ti5 rfl rfl (by first | omega | (simp only [List.length_append, List.flatten_cons, List.flatten_nil, List.append_nil, fillU_len, List.length_replicate, padL_len, sha256L_len, macL_len, List.length_nil, List.length_cons, Int.toNat_natCast]; omega) | (simp [fillU_len, sha256L_len] <;> omega)) (by first | omega | (simp only [List.length_append, List.flatten_cons, List.flatten_nil, List.append_nil, fillU_len, List.length_replicate, padL_len, sha256L_len, macL_len, List.length_nil, List.length_cons, Int.toNat_natCast]; omega) | (simp [fillU_len, sha256L_len] <;> omega)) (by unfold maxLen; omega) rfl (Nat.le_refl _)) rfl ?_
    rintro s17_4 w4 ⟨o17_4, x1⟩
    have ap_s13_1_s17_4 : Ap s13_1.ownBlock s17_4.ownBlock := Ap.mk (Ow.live os13_1) (Ow.fr o17_4)
    have ap_s15_2_s17_4 : Ap s15_2.ownBlock s17_4.ownBlock := Ap.mk (Ow.live os15_2) (Ow.fr o17_4)
    have ap_s16_3_s17_4 : Ap s16_3.ownBlock s17_4.ownBlock := Ap.mk (Ow.live o16_3) (Ow.fr o17_4)
    have fr_s17_4 : Fr w.heap.size s17_4.ownBlock := Fr.le (Ow.fr o17_4) e0.size
    replace o17_4 := Ow.base o17_4 e0.size
    have e0 := e0.trans x1
    have os13_1 := os13_1.ext x1
    have os15_2 := os15_2.ext x1
    have o16_3 := o16_3.ext x1
    clear x1
    rw [rep_B] at o17_4
    refine J.op (Yd.assign rfl) rfl ?_
    refine J.nil ?_
    refine J.n_then ?_
    refine J.seq ?_
    refine J.seq ?_
    refine J.region ?_
    refine J.op (Yd.assign rfl) rfl ?_
    refine J.nil ?_
    refine J.n_then ?_
    refine J.block ?_
    refine J.loop (ι := Nat) (fun i => [(1, v), (8, I i), (5, s15_2), (6, s16_3), (7, s17_4)]) (fun i w' => i ≤ 64 ∧ Ob w.heap.size 5 w' s15_2 (key64 key) ∧ Ob w.heap.size 5 w' s16_3 (fillU (padF 54 (key64 key)) (List.replicate 64 0) i) ∧ Ob w.heap.size 5 w' s17_4 (fillU (padF 92 (key64 key)) (List.replicate 64 0) i) ∧ Ext w w') (fun i => 64 - i) (0) ⟨rfl, rfl, rfl, rfl, rfl, trivial⟩ (⟨by omega, by rw [key64, key1_yes (by omega)]; exact os15_2, by rw [fillU_zero]; exact o16_3, by rw [fillU_zero]; exact o17_4, e0⟩) ?_
    rintro k w5 ⟨hk, ho5, ho6, ho7, e0⟩
    refine J.seq ?_
    refine J.seq ?_
    refine J.region ?_
    refine J.op (Yd.move rfl) rfl ?_
    refine J.op (Yd.lss rfl rfl) rfl ?_
    refine J.nil ?_
    refine J.n_then ?_
    refine J.cond_dec rfl (fun hc1 => ?_) (fun hc1 => ?_)
    · skip
      refine J.skip ?_
      refine J.n_then ?_
      refine J.seq ?_
      refine J.block ?_
      refine J.seq ?_
      refine J.region ?_
      refine J.op (Yd.move rfl) rfl ?_
      refine J.op (Yd.move rfl) rfl ?_
      refine J.op (Yd.move rfl) rfl ?_
      refine J.op (Yd.move rfl) rfl ?_
      refine J.op (Yd.idx_b Try.underlying22 ti5 rfl rfl (Ow.rd ho5) (by first | omega | (simp only [List.length_append, List.flatten_cons, List.flatten_nil, List.append_nil, fillU_len, List.length_replicate, padL_len, sha256L_len, macL_len, List.length_nil, List.length_cons, Int.toNat_natCast]; omega) | (simp [fillU_len, sha256L_len] <;> omega))) rfl ?_
      refine J.op (Yd.load pl5 rfl (Bs.cell (Ow.rd ho5) (by first | omega | (simp only [List.length_append, List.flatten_cons, List.flatten_nil, List.append_nil, fillU_len, List.length_replicate, padL_len, sha256L_len, macL_len, List.length_nil, List.length_cons, Int.toNat_natCast]; omega) | (simp [fillU_len, sha256L_len] <;> omega)))) rfl ?_
      refine J.op (Yd.xor_u8 (n := 54) rfl rfl) rfl ?_
      refine J.op (Yd.idx_b Try.underlying22 ti5 rfl rfl (Ow.rd ho6) (by first | omega | (simp only [List.length_append, List.flatten_cons, List.flatten_nil, List.append_nil, fillU_len, List.length_replicate, padL_len, sha256L_len, macL_len, List.length_nil, List.length_cons, Int.toNat_natCast]; omega) | (simp [fillU_len, sha256L_len] <;> omega))) rfl ?_
      refine J.eff0 (Ye.storeOwM ti5 ho6 rfl rfl (by first | omega | (simp only [List.length_append, List.flatten_cons, List.flatten_nil, List.append_nil, fillU_len, List.length_replicate, padL_len, sha256L_len, macL_len, List.length_nil, List.length_cons, Int.toNat_natCast]; omega) | (simp [fillU_len, sha256L_len] <;> omega)) (fun _ => rfl) (fun _ => rfl)) ?_
      rintro _ w6 ⟨o', hg⟩
      have ho5 := Ow.gbk ho5 hg ap_s15_2_s16_3
      have ho7 := Ow.gbk ho7 hg (Ap.symm ap_s16_3_s17_4)
      have e0 := Ext.gbk e0 fr_s16_3 hg
      replace ho6 := o'
      clear hg o'
      refine J.nil ?_
      refine J.n_then ?_
      refine J.region ?_
      refine J.op (Yd.move rfl) rfl ?_
      refine J.op (Yd.move rfl) rfl ?_
      refine J.op (Yd.move rfl) rfl ?_
      refine J.op (Yd.move rfl) rfl ?_
      refine J.op (Yd.idx_b Try.underlying22 ti5 rfl rfl (Ow.rd ho5) (by first | omega | (simp only [List.length_append, List.flatten_cons, List.flatten_nil, List.append_nil, fillU_len, List.length_replicate, padL_len, sha256L_len, macL_len, List.length_nil, List.length_cons, Int.toNat_natCast]; omega) | (simp [fillU_len, sha256L_len] <;> omega))) rfl ?_
      refine J.op (Yd.load pl5 rfl (Bs.cell (Ow.rd ho5) (by first | omega | (simp only [List.length_append, List.flatten_cons, List.flatten_nil, List.append_nil, fillU_len, List.length_replicate, padL_len, sha256L_len, macL_len, List.length_nil, List.length_cons, Int.toNat_natCast]; omega) | (simp [fillU_len, sha256L_len] <;> omega)))) rfl ?_
      refine J.op (Yd.xor_u8 (n := 92) rfl rfl) rfl ?_
      refine J.op (Yd.idx_b Try.underlying22 ti5 rfl rfl (Ow.rd ho7) (by first | omega | (simp only [List.length_append, List.flatten_cons, List.flatten_nil, List.append_nil, fillU_len, List.length_replicate, padL_len, sha256L_len, macL_len, List.length_nil, List.length_cons, Int.toNat_natCast]; omega) | (simp [fillU_len, sha256L_len] <;> omega))) rfl ?_
      refine J.eff0 (Ye.storeOwM ti5 ho7 rfl rfl (by first | omega | (simp only [List.length_append, List.flatten_cons, List.flatten_nil, List.append_nil, fillU_len, List.length_replicate, padL_len, sha256L_len, macL_len, List.length_nil, List.length_cons, Int.toNat_natCast]; omega) | (simp [fillU_len, sha256L_len] <;> omega)) (fun _ => rfl) (fun _ => rfl)) ?_
      rintro _ w7 ⟨o', hg⟩
      have ho5 := Ow.gbk ho5 hg ap_s15_2_s17_4
      have ho6 := Ow.gbk ho6 hg ap_s16_3_s17_4
      have e0 := Ext.gbk e0 fr_s17_4 hg
      replace ho7 := o'
      clear hg o'
      refine J.nil ?_
      refine J.n_block ?_
      refine J.n_then ?_
      refine J.region ?_
      refine J.op (Yd.move rfl) rfl ?_
      refine J.op (Yd.add rfl rfl (by first | omega | (simp only [List.length_append, List.flatten_cons, List.flatten_nil, List.append_nil, fillU_len, List.length_replicate, padL_len, sha256L_len, macL_len, List.length_nil, List.length_cons, Int.toNat_natCast]; omega) | (simp [fillU_len, sha256L_len] <;> omega))) rfl ?_
      refine J.op (Yd.assign rfl) rfl ?_
      refine J.nil ?_
      refine J.n_then ?_
      exact J.round (k + 1) ⟨rfl, rfl, rfl, rfl, rfl, trivial⟩ (⟨by omega, ho5, by have h9 := ho6; rw [Int.toNat_natCast] at h9; show Ob _ _ _ _ (fillU (padF 54 (key64 key)) (List.replicate 64 0) (k + 1)); rw [← fillU_set]; exact h9, by have h9 := ho7; rw [Int.toNat_natCast] at h9; show Ob _ _ _ _ (fillU (padF 92 (key64 key)) (List.replicate 64 0) (k + 1)); rw [← fillU_set]; exact h9, e0⟩) (by omega)
    · skip
      refine J.exit ?_
      refine J.x_then ?_
      refine J.x_then ?_
      refine J.x_block ?_
      refine J.n_then ?_
      refine J.seq ?_
      refine J.region ?_
      refine J.op (Yd.move rfl) rfl ?_
      refine J.op (Yd.move rfl) rfl ?_
      refine J.op (Yd.move rfl) rfl ?_
      refine J.eff (Ye.litS2 Try.underlying57 ti22 rfl rfl rfl (Ow.rd ho6) (Rd.ext hb e0)) rfl ?_
      rintro s41_8 w8 ⟨o41_8, x1⟩
      have e0 := e0.trans x1
      have ho5 := ho5.ext x1
      have ho6 := ho6.ext x1
      have ho7 := ho7.ext x1
      clear x1
      refine J.eff (Ye.call cl20 rfl (RCat_ok o41_8 (by first | omega | (simp only [List.length_append, List.flatten_cons, List.flatten_nil, List.append_nil, fillU_len, List.length_replicate, padL_len, sha256L_len, macL_len, List.length_nil, List.length_cons, Int.toNat_natCast]; omega) | (simp [fillU_len, sha256L_len] <;> omega)))) rfl ?_
      rintro s42_9 w9 ⟨os42_9, x1⟩
      have ap_s15_2_s42_9 : Ap s15_2.ownBlock s42_9.ownBlock := Ap.mk (Ow.live ho5) (Ow.fr os42_9)
      have ap_s16_3_s42_9 : Ap s16_3.ownBlock s42_9.ownBlock := Ap.mk (Ow.live ho6) (Ow.fr os42_9)
      have ap_s17_4_s42_9 : Ap s17_4.ownBlock s42_9.ownBlock := Ap.mk (Ow.live ho7) (Ow.fr os42_9)
      have fr_s42_9 : Fr w.heap.size s42_9.ownBlock := Fr.le (Ow.fr os42_9) e0.size
      replace os42_9 := Ow.base os42_9 e0.size
      have e0 := e0.trans x1
      have ho5 := ho5.ext x1
      have ho6 := ho6.ext x1
      have ho7 := ho7.ext x1
      have o41_8 := o41_8.ext x1
      clear x1
      refine J.eff (Ye.call cl32 rfl (RSum256_ok (Ow.rd os42_9) (by first | omega | (simp only [List.length_append, List.flatten_cons, List.flatten_nil, List.append_nil, fillU_len, List.length_replicate, padL_len, sha256L_len, macL_len, List.length_nil, List.length_cons, Int.toNat_natCast]; omega) | (simp [fillU_len, sha256L_len] <;> omega)))) rfl ?_
      rintro s43_10 w10 ⟨os43_10, x1⟩
      have ap_s15_2_s43_10 : Ap s15_2.ownBlock s43_10.ownBlock := Ap.mk (Ow.live ho5) (Ow.fr os43_10)
      have ap_s16_3_s43_10 : Ap s16_3.ownBlock s43_10.ownBlock := Ap.mk (Ow.live ho6) (Ow.fr os43_10)
      have ap_s17_4_s43_10 : Ap s17_4.ownBlock s43_10.ownBlock := Ap.mk (Ow.live ho7) (Ow.fr os43_10)
      have ap_s42_9_s43_10 : Ap s42_9.ownBlock s43_10.ownBlock := Ap.mk (Ow.live os42_9) (Ow.fr os43_10)
      have fr_s43_10 : Fr w.heap.size s43_10.ownBlock := Fr.le (Ow.fr os43_10) e0.size
      replace os43_10 := Ow.base os43_10 e0.size
      have e0 := e0.trans x1
      have ho5 := ho5.ext x1
      have ho6 := ho6.ext x1
      have ho7 := ho7.ext x1
      have o41_8 := o41_8.ext x1
      have os42_9 := os42_9.ext x1
      clear x1
      refine J.eff (Ye.litS2 Try.underlying57 ti22 rfl rfl rfl (Ow.rd ho7) (Ow.rd os43_10)) rfl ?_
      rintro s44_11 w11 ⟨o44_11, x1⟩
      have e0 := e0.trans x1
      have ho5 := ho5.ext x1
      have ho6 := ho6.ext x1
      have ho7 := ho7.ext x1
      have o41_8 := o41_8.ext x1
      have os42_9 := os42_9.ext x1
      have os43_10 := os43_10.ext x1
      clear x1
      refine J.eff (Ye.call cl20 rfl (RCat_ok o44_11 (by first | omega | (simp only [List.length_append, List.flatten_cons, List.flatten_nil, List.append_nil, fillU_len, List.length_replicate, padL_len, sha256L_len, macL_len, List.length_nil, List.length_cons, Int.toNat_natCast]; omega) | (simp [fillU_len, sha256L_len] <;> omega)))) rfl ?_
      rintro s45_12 w12 ⟨os45_12, x1⟩
      have ap_s15_2_s45_12 : Ap s15_2.ownBlock s45_12.ownBlock := Ap.mk (Ow.live ho5) (Ow.fr os45_12)
      have ap_s16_3_s45_12 : Ap s16_3.ownBlock s45_12.ownBlock := Ap.mk (Ow.live ho6) (Ow.fr os45_12)
      have ap_s17_4_s45_12 : Ap s17_4.ownBlock s45_12.ownBlock := Ap.mk (Ow.live ho7) (Ow.fr os45_12)
      have ap_s42_9_s45_12 : Ap s42_9.ownBlock s45_12.ownBlock := Ap.mk (Ow.live os42_9) (Ow.fr os45_12)
      have ap_s43_10_s45_12 : Ap s43_10.ownBlock s45_12.ownBlock := Ap.mk (Ow.live os43_10) (Ow.fr os45_12)
      have fr_s45_12 : Fr w.heap.size s45_12.ownBlock := Fr.le (Ow.fr os45_12) e0.size
      replace os45_12 := Ow.base os45_12 e0.size
      have e0 := e0.trans x1
      have ho5 := ho5.ext x1
      have ho6 := ho6.ext x1
      have ho7 := ho7.ext x1
      have o41_8 := o41_8.ext x1
      have os42_9 := os42_9.ext x1
      have os43_10 := os43_10.ext x1
      have o44_11 := o44_11.ext x1
      clear x1
      refine J.eff (Ye.call cl32 rfl (RSum256_ok (Ow.rd os45_12) (by first | omega | (simp only [List.length_append, List.flatten_cons, List.flatten_nil, List.append_nil, fillU_len, List.length_replicate, padL_len, sha256L_len, macL_len, List.length_nil, List.length_cons, Int.toNat_natCast]; omega) | (simp [fillU_len, sha256L_len] <;> omega)))) rfl ?_
      rintro s46_13 w13 ⟨os46_13, x1⟩
      have ap_s15_2_s46_13 : Ap s15_2.ownBlock s46_13.ownBlock := Ap.mk (Ow.live ho5) (Ow.fr os46_13)
      have ap_s16_3_s46_13 : Ap s16_3.ownBlock s46_13.ownBlock := Ap.mk (Ow.live ho6) (Ow.fr os46_13)
      have ap_s17_4_s46_13 : Ap s17_4.ownBlock s46_13.ownBlock := Ap.mk (Ow.live ho7) (Ow.fr os46_13)
      have ap_s42_9_s46_13 : Ap s42_9.ownBlock s46_13.ownBlock := Ap.mk (Ow.live os42_9) (Ow.fr os46_13)
      have ap_s43_10_s46_13 : Ap s43_10.ownBlock s46_13.ownBlock := Ap.mk (Ow.live os43_10) (Ow.fr os46_13)
      have ap_s45_12_s46_13 : Ap s45_12.ownBlock s46_13.ownBlock := Ap.mk (Ow.live os45_12) (Ow.fr os46_13)
      have fr_s46_13 : Fr w.heap.size s46_13.ownBlock := Fr.le (Ow.fr os46_13) e0.size
      replace os46_13 := Ow.base os46_13 e0.size
      have e0 := e0.trans x1
      have ho5 := ho5.ext x1
      have ho6 := ho6.ext x1
      have ho7 := ho7.ext x1
      have o41_8 := o41_8.ext x1
      have os42_9 := os42_9.ext x1
      have os43_10 := os43_10.ext x1
      have o44_11 := o44_11.ext x1
      have os45_12 := os45_12.ext x1
      clear x1
      refine J.op (Yd.assign rfl) rfl ?_
      refine J.nil ?_
      refine J.n_then ?_
      refine J.ret ?_
      exact J.ret1 rfl rfl (⟨_, rfl, by have h9 := os46_13; rw [show k = 64 by omega, pad_fill 54 key _ (by simp), pad_fill 92 key _ (by simp)] at h9; rw [macL]; simpa using h9, e0⟩)
  · skip
    refine J.skip ?_
    refine J.n_then ?_
    refine J.seq ?_
    refine J.region ?_
    refine J.op (Yd.move rfl) rfl ?_
    refine J.eff (Ye.call cl33 rfl (RFill_ok (n := 64) ha (by omega))) rfl ?_
    rintro s15_14 w14 ⟨os15_14, x1⟩
    have fr_s15_14 : Fr w.heap.size s15_14.ownBlock := Fr.le (Ow.fr os15_14) e0.size
    replace os15_14 := Ow.base os15_14 e0.size
    have e0 := e0.trans x1
    clear x1
    refine J.op (Yd.assign rfl) rfl ?_
    refine J.nil ?_
    refine J.n_then ?_
    refine J.seq ?_
    refine J.region ?_
    refine J.eff (Ye.make (base := w14.heap.size) Try.underlying22 ti5 rfl rfl (by first | omega | (simp only [List.length_append, List.flatten_cons, List.flatten_nil, List.append_nil, fillU_len, List.length_replicate, padL_len, sha256L_len, macL_len, List.length_nil, List.length_cons, Int.toNat_natCast]; omega) | (simp [fillU_len, sha256L_len] <;> omega)) (by first | omega | (simp only [List.length_append, List.flatten_cons, List.flatten_nil, List.append_nil, fillU_len, List.length_replicate, padL_len, sha256L_len, macL_len, List.length_nil, List.length_cons, Int.toNat_natCast]; omega) | (simp [fillU_len, sha256L_len] <;> omega)) (by unfold maxLen; omega) rfl (Nat.le_refl _)) rfl ?_
    rintro s16_15 w15 ⟨o16_15, x1⟩
    have ap_s15_14_s16_15 : Ap s15_14.ownBlock s16_15.ownBlock := Ap.mk (Ow.live os15_14) (Ow.fr o16_15)
    have fr_s16_15 : Fr w.heap.size s16_15.ownBlock := Fr.le (Ow.fr o16_15) e0.size
    replace o16_15 := Ow.base o16_15 e0.size
    have e0 := e0.trans x1
    have os15_14 := os15_14.ext x1
    clear x1
    rw [rep_B] at o16_15
    refine J.op (Yd.assign rfl) rfl ?_
    refine J.nil ?_
    refine J.n_then ?_
    refine J.seq ?_
    refine J.region ?_
    refine J.eff (Ye.make (base := w15.heap.size) Try.underlying22 ti5 rfl rfl (by first | omega | (simp only [List.length_append, List.flatten_cons, List.flatten_nil, List.append_nil, fillU_len, List.length_replicate, padL_len, sha256L_len, macL_len, List.length_nil, List.length_cons, Int.toNat_natCast]; omega) | (simp [fillU_len, sha256L_len] <;> omega)) (by first | omega | (simp only [List.length_append, List.flatten_cons, List.flatten_nil, List.append_nil, fillU_len, List.length_replicate, padL_len, sha256L_len, macL_len, List.length_nil, List.length_cons, Int.toNat_natCast]; omega) | (simp [fillU_len, sha256L_len] <;> omega)) (by unfold maxLen; omega) rfl (Nat.le_refl _)) rfl ?_
    rintro s17_16 w16 ⟨o17_16, x1⟩
    have ap_s15_14_s17_16 : Ap s15_14.ownBlock s17_16.ownBlock := Ap.mk (Ow.live os15_14) (Ow.fr o17_16)
    have ap_s16_15_s17_16 : Ap s16_15.ownBlock s17_16.ownBlock := Ap.mk (Ow.live o16_15) (Ow.fr o17_16)
    have fr_s17_16 : Fr w.heap.size s17_16.ownBlock := Fr.le (Ow.fr o17_16) e0.size
    replace o17_16 := Ow.base o17_16 e0.size
    have e0 := e0.trans x1
    have os15_14 := os15_14.ext x1
    have o16_15 := o16_15.ext x1
    clear x1
    rw [rep_B] at o17_16
    refine J.op (Yd.assign rfl) rfl ?_
    refine J.nil ?_
    refine J.n_then ?_
    refine J.seq ?_
    refine J.seq ?_
    refine J.region ?_
    refine J.op (Yd.assign rfl) rfl ?_
    refine J.nil ?_
    refine J.n_then ?_
    refine J.block ?_
    refine J.loop (ι := Nat) (fun i => [(1, v), (8, I i), (5, s15_14), (6, s16_15), (7, s17_16)]) (fun i w' => i ≤ 64 ∧ Ob w.heap.size 5 w' s15_14 (key64 key) ∧ Ob w.heap.size 5 w' s16_15 (fillU (padF 54 (key64 key)) (List.replicate 64 0) i) ∧ Ob w.heap.size 5 w' s17_16 (fillU (padF 92 (key64 key)) (List.replicate 64 0) i) ∧ Ext w w') (fun i => 64 - i) (0) ⟨rfl, rfl, rfl, rfl, rfl, trivial⟩ (⟨by omega, by rw [key64, key1_no (by omega)]; exact os15_14, by rw [fillU_zero]; exact o16_15, by rw [fillU_zero]; exact o17_16, e0⟩) ?_
    rintro k w17 ⟨hk, ho5, ho6, ho7, e0⟩
    refine J.seq ?_
    refine J.seq ?_
    refine J.region ?_
    refine J.op (Yd.move rfl) rfl ?_
    refine J.op (Yd.lss rfl rfl) rfl ?_
    refine J.nil ?_
    refine J.n_then ?_
    refine J.cond_dec rfl (fun hc1 => ?_) (fun hc1 => ?_)
    · skip
      refine J.skip ?_
      refine J.n_then ?_
      refine J.seq ?_
      refine J.block ?_
      refine J.seq ?_
      refine J.region ?_
      refine J.op (Yd.move rfl) rfl ?_
      refine J.op (Yd.move rfl) rfl ?_
      refine J.op (Yd.move rfl) rfl ?_
      refine J.op (Yd.move rfl) rfl ?_
      refine J.op (Yd.idx_b Try.underlying22 ti5 rfl rfl (Ow.rd ho5) (by first | omega | (simp only [List.length_append, List.flatten_cons, List.flatten_nil, List.append_nil, fillU_len, List.length_replicate, padL_len, sha256L_len, macL_len, List.length_nil, List.length_cons, Int.toNat_natCast]; omega) | (simp [fillU_len, sha256L_len] <;> omega))) rfl ?_
      refine J.op (Yd.load pl5 rfl (Bs.cell (Ow.rd ho5) (by first | omega | (simp only [List.length_append, List.flatten_cons, List.flatten_nil, List.append_nil, fillU_len, List.length_replicate, padL_len, sha256L_len, macL_len, List.length_nil, List.length_cons, Int.toNat_natCast]; omega) | (simp [fillU_len, sha256L_len] <;> omega)))) rfl ?_
      refine J.op (Yd.xor_u8 (n := 54) rfl rfl) rfl ?_
      refine J.op (Yd.idx_b Try.underlying22 ti5 rfl rfl (Ow.rd ho6) (by first | omega | (simp only [List.length_append, List.flatten_cons, List.flatten_nil, List.append_nil, fillU_len, List.length_replicate, padL_len, sha256L_len, macL_len, List.length_nil, List.length_cons, Int.toNat_natCast]; omega) | (simp [fillU_len, sha256L_len] <;> omega))) rfl ?_
      refine J.eff0 (Ye.storeOwM ti5 ho6 rfl rfl (by first | omega | (simp only [List.length_append, List.flatten_cons, List.flatten_nil, List.append_nil, fillU_len, List.length_replicate, padL_len, sha256L_len, macL_len, List.length_nil, List.length_cons, Int.toNat_natCast]; omega) | (simp [fillU_len, sha256L_len] <;> omega)) (fun _ => rfl) (fun _ => rfl)) ?_
      rintro _ w18 ⟨o', hg⟩
      have ho5 := Ow.gbk ho5 hg ap_s15_14_s16_15
      have ho7 := Ow.gbk ho7 hg (Ap.symm ap_s16_15_s17_16)
      have e0 := Ext.gbk e0 fr_s16_15 hg
      replace ho6 := o'
      clear hg o'
      refine J.nil ?_
      refine J.n_then ?_
      refine J.region ?_
      refine J.op (Yd.move rfl) rfl ?_
      refine J.op (Yd.move rfl) rfl ?_
      refine J.op (Yd.move rfl) rfl ?_
      refine J.op (Yd.move rfl) rfl ?_
      refine J.op (Yd.idx_b Try.underlying22 ti5 rfl rfl (Ow.rd ho5) (by first | omega | (simp only [List.length_append, List.flatten_cons, List.flatten_nil, List.append_nil, fillU_len, List.length_replicate, padL_len, sha256L_len, macL_len, List.length_nil, List.length_cons, Int.toNat_natCast]; omega) | (simp [fillU_len, sha256L_len] <;> omega))) rfl ?_
      refine J.op (Yd.load pl5 rfl (Bs.cell (Ow.rd ho5) (by first | omega | (simp only [List.length_append, List.flatten_cons, List.flatten_nil, List.append_nil, fillU_len, List.length_replicate, padL_len, sha256L_len, macL_len, List.length_nil, List.length_cons, Int.toNat_natCast]; omega) | (simp [fillU_len, sha256L_len] <;> omega)))) rfl ?_
      refine J.op (Yd.xor_u8 (n := 92) rfl rfl) rfl ?_
      refine J.op (Yd.idx_b Try.underlying22 ti5 rfl rfl (Ow.rd ho7) (by first | omega | (simp only [List.length_append, List.flatten_cons, List.flatten_nil, List.append_nil, fillU_len, List.length_replicate, padL_len, sha256L_len, macL_len, List.length_nil, List.length_cons, Int.toNat_natCast]; omega) | (simp [fillU_len, sha256L_len] <;> omega))) rfl ?_
      refine J.eff0 (Ye.storeOwM ti5 ho7 rfl rfl (by first | omega | (simp only [List.length_append, List.flatten_cons, List.flatten_nil, List.append_nil, fillU_len, List.length_replicate, padL_len, sha256L_len, macL_len, List.length_nil, List.length_cons, Int.toNat_natCast]; omega) | (simp [fillU_len, sha256L_len] <;> omega)) (fun _ => rfl) (fun _ => rfl)) ?_
      rintro _ w19 ⟨o', hg⟩
      have ho5 := Ow.gbk ho5 hg ap_s15_14_s17_16
      have ho6 := Ow.gbk ho6 hg ap_s16_15_s17_16
      have e0 := Ext.gbk e0 fr_s17_16 hg
      replace ho7 := o'
      clear hg o'
      refine J.nil ?_
      refine J.n_block ?_
      refine J.n_then ?_
      refine J.region ?_
      refine J.op (Yd.move rfl) rfl ?_
      refine J.op (Yd.add rfl rfl (by first | omega | (simp only [List.length_append, List.flatten_cons, List.flatten_nil, List.append_nil, fillU_len, List.length_replicate, padL_len, sha256L_len, macL_len, List.length_nil, List.length_cons, Int.toNat_natCast]; omega) | (simp [fillU_len, sha256L_len] <;> omega))) rfl ?_
      refine J.op (Yd.assign rfl) rfl ?_
      refine J.nil ?_
      refine J.n_then ?_
      exact J.round (k + 1) ⟨rfl, rfl, rfl, rfl, rfl, trivial⟩ (⟨by omega, ho5, by have h9 := ho6; rw [Int.toNat_natCast] at h9; show Ob _ _ _ _ (fillU (padF 54 (key64 key)) (List.replicate 64 0) (k + 1)); rw [← fillU_set]; exact h9, by have h9 := ho7; rw [Int.toNat_natCast] at h9; show Ob _ _ _ _ (fillU (padF 92 (key64 key)) (List.replicate 64 0) (k + 1)); rw [← fillU_set]; exact h9, e0⟩) (by omega)
    · skip
      refine J.exit ?_
      refine J.x_then ?_
      refine J.x_then ?_
      refine J.x_block ?_
      refine J.n_then ?_
      refine J.seq ?_
      refine J.region ?_
      refine J.op (Yd.move rfl) rfl ?_
      refine J.op (Yd.move rfl) rfl ?_
      refine J.op (Yd.move rfl) rfl ?_
      refine J.eff (Ye.litS2 Try.underlying57 ti22 rfl rfl rfl (Ow.rd ho6) (Rd.ext hb e0)) rfl ?_
      rintro s41_20 w20 ⟨o41_20, x1⟩
      have e0 := e0.trans x1
      have ho5 := ho5.ext x1
      have ho6 := ho6.ext x1
      have ho7 := ho7.ext x1
      clear x1
      refine J.eff (Ye.call cl20 rfl (RCat_ok o41_20 (by first | omega | (simp only [List.length_append, List.flatten_cons, List.flatten_nil, List.append_nil, fillU_len, List.length_replicate, padL_len, sha256L_len, macL_len, List.length_nil, List.length_cons, Int.toNat_natCast]; omega) | (simp [fillU_len, sha256L_len] <;> omega)))) rfl ?_
      rintro s42_21 w21 ⟨os42_21, x1⟩
      have ap_s15_14_s42_21 : Ap s15_14.ownBlock s42_21.ownBlock := Ap.mk (Ow.live ho5) (Ow.fr os42_21)
      have ap_s16_15_s42_21 : Ap s16_15.ownBlock s42_21.ownBlock := Ap.mk (Ow.live ho6) (Ow.fr os42_21)
      have ap_s17_16_s42_21 : Ap s17_16.ownBlock s42_21.ownBlock := Ap.mk (Ow.live ho7) (Ow.fr os42_21)
      have fr_s42_21 : Fr w.heap.size s42_21.ownBlock := Fr.le (Ow.fr os42_21) e0.size
      replace os42_21 := Ow.base os42_21 e0.size
      have e0 := e0.trans x1
      have ho5 := ho5.ext x1
      have ho6 := ho6.ext x1
      have ho7 := ho7.ext x1
      have o41_20 := o41_20.ext x1
      clear x1
      refine J.eff (Ye.call cl32 rfl (RSum256_ok (Ow.rd os42_21) (by first | omega | (simp only [List.length_append, List.flatten_cons, List.flatten_nil, List.append_nil, fillU_len, List.length_replicate, padL_len, sha256L_len, macL_len, List.length_nil, List.length_cons, Int.toNat_natCast]; omega) | (simp [fillU_len, sha256L_len] <;> omega)))) rfl ?_
      rintro s43_22 w22 ⟨os43_22, x1⟩
      have ap_s15_14_s43_22 : Ap s15_14.ownBlock s43_22.ownBlock := Ap.mk (Ow.live ho5) (Ow.fr os43_22)
      have ap_s16_15_s43_22 : Ap s16_15.ownBlock s43_22.ownBlock := Ap.mk (Ow.live ho6) (Ow.fr os43_22)
      have ap_s17_16_s43_22 : Ap s17_16.ownBlock s43_22.ownBlock := Ap.mk (Ow.live ho7) (Ow.fr os43_22)
      have ap_s42_21_s43_22 : Ap s42_21.ownBlock s43_22.ownBlock := Ap.mk (Ow.live os42_21) (Ow.fr os43_22)
      have fr_s43_22 : Fr w.heap.size s43_22.ownBlock := Fr.le (Ow.fr os43_22) e0.size
      replace os43_22 := Ow.base os43_22 e0.size
      have e0 := e0.trans x1
      have ho5 := ho5.ext x1
      have ho6 := ho6.ext x1
      have ho7 := ho7.ext x1
      have o41_20 := o41_20.ext x1
      have os42_21 := os42_21.ext x1
      clear x1
      refine J.eff (Ye.litS2 Try.underlying57 ti22 rfl rfl rfl (Ow.rd ho7) (Ow.rd os43_22)) rfl ?_
      rintro s44_23 w23 ⟨o44_23, x1⟩
      have e0 := e0.trans x1
      have ho5 := ho5.ext x1
      have ho6 := ho6.ext x1
      have ho7 := ho7.ext x1
      have o41_20 := o41_20.ext x1
      have os42_21 := os42_21.ext x1
      have os43_22 := os43_22.ext x1
      clear x1
      refine J.eff (Ye.call cl20 rfl (RCat_ok o44_23 (by first | omega | (simp only [List.length_append, List.flatten_cons, List.flatten_nil, List.append_nil, fillU_len, List.length_replicate, padL_len, sha256L_len, macL_len, List.length_nil, List.length_cons, Int.toNat_natCast]; omega) | (simp [fillU_len, sha256L_len] <;> omega)))) rfl ?_
      rintro s45_24 w24 ⟨os45_24, x1⟩
      have ap_s15_14_s45_24 : Ap s15_14.ownBlock s45_24.ownBlock := Ap.mk (Ow.live ho5) (Ow.fr os45_24)
      have ap_s16_15_s45_24 : Ap s16_15.ownBlock s45_24.ownBlock := Ap.mk (Ow.live ho6) (Ow.fr os45_24)
      have ap_s17_16_s45_24 : Ap s17_16.ownBlock s45_24.ownBlock := Ap.mk (Ow.live ho7) (Ow.fr os45_24)
      have ap_s42_21_s45_24 : Ap s42_21.ownBlock s45_24.ownBlock := Ap.mk (Ow.live os42_21) (Ow.fr os45_24)
      have ap_s43_22_s45_24 : Ap s43_22.ownBlock s45_24.ownBlock := Ap.mk (Ow.live os43_22) (Ow.fr os45_24)
      have fr_s45_24 : Fr w.heap.size s45_24.ownBlock := Fr.le (Ow.fr os45_24) e0.size
      replace os45_24 := Ow.base os45_24 e0.size
      have e0 := e0.trans x1
      have ho5 := ho5.ext x1
      have ho6 := ho6.ext x1
      have ho7 := ho7.ext x1
      have o41_20 := o41_20.ext x1
      have os42_21 := os42_21.ext x1
      have os43_22 := os43_22.ext x1
      have o44_23 := o44_23.ext x1
      clear x1
      refine J.eff (Ye.call cl32 rfl (RSum256_ok (Ow.rd os45_24) (by first | omega | (simp only [List.length_append, List.flatten_cons, List.flatten_nil, List.append_nil, fillU_len, List.length_replicate, padL_len, sha256L_len, macL_len, List.length_nil, List.length_cons, Int.toNat_natCast]; omega) | (simp [fillU_len, sha256L_len] <;> omega)))) rfl ?_
      rintro s46_25 w25 ⟨os46_25, x1⟩
      have ap_s15_14_s46_25 : Ap s15_14.ownBlock s46_25.ownBlock := Ap.mk (Ow.live ho5) (Ow.fr os46_25)
      have ap_s16_15_s46_25 : Ap s16_15.ownBlock s46_25.ownBlock := Ap.mk (Ow.live ho6) (Ow.fr os46_25)
      have ap_s17_16_s46_25 : Ap s17_16.ownBlock s46_25.ownBlock := Ap.mk (Ow.live ho7) (Ow.fr os46_25)
      have ap_s42_21_s46_25 : Ap s42_21.ownBlock s46_25.ownBlock := Ap.mk (Ow.live os42_21) (Ow.fr os46_25)
      have ap_s43_22_s46_25 : Ap s43_22.ownBlock s46_25.ownBlock := Ap.mk (Ow.live os43_22) (Ow.fr os46_25)
      have ap_s45_24_s46_25 : Ap s45_24.ownBlock s46_25.ownBlock := Ap.mk (Ow.live os45_24) (Ow.fr os46_25)
      have fr_s46_25 : Fr w.heap.size s46_25.ownBlock := Fr.le (Ow.fr os46_25) e0.size
      replace os46_25 := Ow.base os46_25 e0.size
      have e0 := e0.trans x1
      have ho5 := ho5.ext x1
      have ho6 := ho6.ext x1
      have ho7 := ho7.ext x1
      have o41_20 := o41_20.ext x1
      have os42_21 := os42_21.ext x1
      have os43_22 := os43_22.ext x1
      have o44_23 := o44_23.ext x1
      have os45_24 := os45_24.ext x1
      clear x1
      refine J.op (Yd.assign rfl) rfl ?_
      refine J.nil ?_
      refine J.n_then ?_
      refine J.ret ?_
      exact J.ret1 rfl rfl (⟨_, rfl, by have h9 := os46_25; rw [show k = 64 by omega, pad_fill 54 key _ (by simp), pad_fill 92 key _ (by simp)] at h9; rw [macL]; simpa using h9, e0⟩)
end Ytpkpicnldpbomaa
end Go.Proofs
