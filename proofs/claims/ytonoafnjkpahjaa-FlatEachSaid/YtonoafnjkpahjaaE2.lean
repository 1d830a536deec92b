import Derived.Test.YtonoafnjkpahjaaT
import Derived.Test.YtonoafnjkpahjaaE1
set_option linter.unusedVariables false
set_option linter.unusedSimpArgs false
set_option maxRecDepth 100000
set_option maxHeartbeats 4000000
namespace Go.Proofs
open Go.X Go.RowKit
namespace Ytonoafnjkpahjaa
theorem Clos_ok {base b1 b2 : Nat} {v : Value} {m : UInt8} {l : List UInt8} {w : World} (h1 : Cel w b1 40 [(0, 1, [.func (.func 18) #[] #[]])]) (h2 : Cel w b2 37 [(0, 1, [B m])]) (hv : Ob base 5 w v l) : C Try.prog 20 [v, .pointer (some ⟨b1, 0, none⟩), .pointer (some ⟨b2, 0, none⟩)] w (Ret fun u w' => u = v ∧ Ob base 5 w' v (turnL m l) ∧ Tn [v.ownBlock] w w') := by
  have e0 := Tn.refl [v.ownBlock] w
  refine C.enter Try.func20 rfl Try.ntmps20 rfl ?_
  refine J.seq ?_
  refine J.region ?_
  refine J.op (Yd.assign rfl) rfl ?_
  refine J.nil ?_
  refine J.n_then ?_
  refine J.seq ?_
  refine J.region ?_
  refine J.op (Yd.load pl40 rfl (Cel.cell1 h1 0 rfl)) rfl ?_
  refine J.op (Yd.loadA ag37 ti37 rfl h2 0 rfl) rfl ?_
  refine J.op (Yd.move rfl) rfl ?_
  refine J.eff (Ye.callv cl18 rfl rfl (Over_ok (m := m) hv)) rfl ?_
  rintro u_ w1 ⟨hu_, oN, x1⟩
  rw [hu_]; clear hu_
  have e0 := Tn.tnk e0 (fun q hq => by simp only [List.mem_singleton] at hq; subst hq; exact .inl (by simp)) x1
  replace hv := oN
  clear oN
  clear x1
  refine J.op (Yd.assign rfl) rfl ?_
  refine J.nil ?_
  refine J.n_then ?_
  refine J.ret ?_
  exact J.ret1 rfl rfl (⟨_, rfl, rfl, hv, e0⟩)

theorem EachNil_ok {w : World} {sl : Value} {vs : List Value} {ll : List (List UInt8)} (hl : Rl w sl vs ll) (ht : ll.flatten.length + ll.length ≤ 1000000) : C Try.prog 21 [sl, .nilFunc] w (Ret fun u w' => ∃ us, Rw w.heap.size 22 5 w' u us (ll.map (fun l => l)) ∧ Ext w w') := by
  have hlm := Rd.max hl.rd
  rw [hl.len] at hlm
  have e0 := Ext.refl w
  refine C.enter Try.func21 rfl Try.ntmps21 rfl ?_
  refine J.seq ?_
  refine J.region ?_
  refine J.op (Yd.assign rfl) rfl ?_
  refine J.nil ?_
  refine J.n_then ?_
  refine J.seq ?_
  refine J.seq ?_
  refine J.region ?_
  refine J.op (Yd.move rfl) rfl ?_
  refine J.op (Yd.eqFn0 Try.underlying38 rfl rfl) rfl ?_
  refine J.nil ?_
  refine J.n_then ?_
  refine J.cond_true rfl ?_
  refine J.region ?_
  refine J.op (Yd.assign rfl) rfl ?_
  refine J.nil ?_
  refine J.n_then ?_
  refine J.seq ?_
  refine J.seq ?_
  refine J.region ?_
  refine J.op (Yd.move rfl) rfl ?_
  refine J.op (Yd.len_l Try.underlying33 rfl hl) rfl ?_
  refine J.op (Yd.move rfl) rfl ?_
  refine J.nil ?_
  refine J.n_then ?_
  refine J.block ?_
  refine J.loop (ι := Nat × Value × List Value) (fun i => [(1, .func (.func 37) #[] #[]), (9, sl), (10, I (ll.length : Int)), (11, I (i.1 : Int)), (4, i.2.1)]) (fun i w' => i.1 ≤ ll.length ∧ Rw w.heap.size 22 5 w' i.2.1 i.2.2 ((ll.take i.1).map (fun l => l)) ∧ Fr w.heap.size (i.2.1).ownBlock ∧ Ext w w') (fun i => ll.length - i.1) ((0, nilS, [])) ⟨rfl, rfl, rfl, rfl, rfl, trivial⟩ (⟨Nat.zero_le _, Rw.nil _ _ _ _, Fr.nil, e0⟩) ?_
  rintro ⟨k, v4, vs4⟩ w1 ⟨hk, ho4, fr_v4, e0⟩
  dsimp only at *
  have hvl : vs4.length ≤ ll.length := by have h9 := ho4.len; rw [List.length_map, List.length_take] at h9; omega
  refine J.seq ?_
  refine J.region ?_
  refine J.op (Yd.lss rfl rfl) rfl ?_
  refine J.nil ?_
  refine J.n_then ?_
  refine J.seq ?_
  refine J.cond_dec rfl (fun hc1 => ?_) (fun hc1 => ?_)
  · skip
    have hgl := flat_get (ll := ll) (k := k) (by omega)
    refine J.skip ?_
    refine J.n_then ?_
    refine J.seq ?_
    refine J.block ?_
    refine J.seq ?_
    refine J.region ?_
    refine J.op (Yd.idx_l Try.underlying33 ti22 rfl rfl (Rl.ext hl e0) (by first | omega | exact idx_u8' _ | (simp only [Int.toNat_natCast]; omega) | (simp only [List.length_map, List.length_drop, List.length_take, List.length_append, List.length_replicate]; omega) | (simp <;> omega))) rfl ?_
    refine J.op (Yd.load pl22 rfl (Rl.cell (Rl.ext hl e0) (by first | omega | exact idx_u8' _ | (simp only [Int.toNat_natCast]; omega) | (simp only [List.length_map, List.length_drop, List.length_take, List.length_append, List.length_replicate]; omega) | (simp <;> omega)))) rfl ?_
    refine J.op (Yd.assign rfl) rfl ?_
    refine J.nil ?_
    refine J.n_then ?_
    refine J.region ?_
    refine J.op (Yd.move rfl) rfl ?_
    refine J.op (Yd.move rfl) rfl ?_
    refine J.op (Yd.move rfl) rfl ?_
    refine J.eff (Ye.call cl37 rfl (Clone_ok (Rl.at' (Rl.ext hl e0) (by first | omega | exact idx_u8' _ | (simp only [Int.toNat_natCast]; omega) | (simp only [List.length_map, List.length_drop, List.length_take, List.length_append, List.length_replicate]; omega) | (simp <;> omega))) (by rw [Int.toNat_natCast]; omega))) rfl ?_
    rintro s18_2 w2 ⟨os18_2, x1⟩
    have hE1 := x1
    have hF1 := Ow.fr os18_2
    have hR0 := ho4
    have ap_v4_s18_2 : Ap v4.ownBlock s18_2.ownBlock := Ap.mk (Rw.live ho4) (Ow.fr os18_2)
    have fr_s18_2 : Fr w.heap.size s18_2.ownBlock := Fr.le (Ow.fr os18_2) e0.size
    replace os18_2 := Ow.base os18_2 e0.size
    have e0 := e0.trans x1
    have ho4 := ho4.ext x1
    clear x1
    refine J.eff (Ye.callv cl37 rfl rfl (Clone_ok (Ow.rd os18_2) (by rw [Int.toNat_natCast]; omega))) rfl ?_
    rintro s19_3 w3 ⟨os19_3, x1⟩
    have hE1 := x1
    have hF1 := Ow.fr os19_3
    have hR0 := ho4
    have ap_v4_s19_3 : Ap v4.ownBlock s19_3.ownBlock := Ap.mk (Rw.live ho4) (Ow.fr os19_3)
    have ap_s18_2_s19_3 : Ap s18_2.ownBlock s19_3.ownBlock := Ap.mk (Ow.live os18_2) (Ow.fr os19_3)
    have fr_s19_3 : Fr w.heap.size s19_3.ownBlock := Fr.le (Ow.fr os19_3) e0.size
    replace os19_3 := Ow.base os19_3 e0.size
    have e0 := e0.trans x1
    have ho4 := ho4.ext x1
    have os18_2 := os18_2.ext x1
    clear x1
    refine J.eff (Ye.litS1 Try.underlying33 ti22 rfl rfl (Ow.rd os19_3)) rfl ?_
    rintro s20_4 w4 ⟨o20_4, x1⟩
    have e0 := e0.trans x1
    have ho4 := ho4.ext x1
    have os18_2 := os18_2.ext x1
    have os19_3 := os19_3.ext x1
    clear x1
    refine J.eff (Ye.appendR Try.underlying33 ti22 rfl rfl rfl rfl (Rw.row ho4) (Rl.rd o20_4) (by intro v_ hv_; simp only [List.mem_singleton] at hv_; subst hv_; exact Rd.one (Ow.rd os19_3)) (by first | omega | exact idx_u8' _ | (simp only [Int.toNat_natCast]; omega) | (simp only [List.length_map, List.length_drop, List.length_take, List.length_append, List.length_replicate]; omega) | (simp <;> omega)) e0.size) rfl ?_
    rintro s21_5 w5 ⟨o21_5, hg, hsf⟩
    have o21_5 := Rw.push ho4 os19_3 (Ap.symm ap_v4_s19_3) hg hsf o21_5
    have ap_s18_2_s21_5 : Ap s18_2.ownBlock s21_5.ownBlock := Ap.sf (Ap.symm ap_v4_s18_2) (Ow.live os18_2) hsf
    have ap_s19_3_s21_5 : Ap s19_3.ownBlock s21_5.ownBlock := Ap.sf (Ap.symm ap_v4_s19_3) (Ow.live os19_3) hsf
    have fr_s21_5 : Fr w.heap.size s21_5.ownBlock := Fr.sf fr_v4 hsf e0.size
    have os18_2 := Ow.gbk os18_2 hg (Ap.symm ap_v4_s18_2)
    have e0 := Ext.gbk e0 fr_v4 hg
    clear hg hsf
    refine J.op (Yd.assign rfl) rfl ?_
    refine J.nil ?_
    refine J.n_block ?_
    refine J.n_then ?_
    refine J.region ?_
    refine J.op (Yd.add rfl rfl (by first | omega | exact idx_u8' _ | (simp only [Int.toNat_natCast]; omega) | (simp only [List.length_map, List.length_drop, List.length_take, List.length_append, List.length_replicate]; omega) | (simp <;> omega))) rfl ?_
    refine J.op (Yd.move rfl) rfl ?_
    refine J.nil ?_
    refine J.n_then ?_
    exact J.round ((k + 1, s21_5, _)) ⟨rfl, rfl, rfl, rfl, rfl, trivial⟩ (⟨by show k + 1 ≤ ll.length; omega, (show Rw _ _ _ _ _ _ ((ll.take (k + 1)).map (fun l => l)) from by rw [takeMap_succ _ (by omega)]; exact o21_5), fr_s21_5, e0⟩) (by show ll.length - (k + 1) < ll.length - k; omega)
  · skip
    refine J.exit ?_
    refine J.x_then ?_
    refine J.x_then ?_
    refine J.x_block ?_
    refine J.n_then ?_
    refine J.seq ?_
    refine J.region ?_
    refine J.op (Yd.move rfl) rfl ?_
    refine J.op (Yd.assign rfl) rfl ?_
    refine J.nil ?_
    refine J.n_then ?_
    refine J.ret ?_
    exact J.ret1 rfl rfl (⟨_, rfl, vs4, (by have h9 := ho4; rw [List.take_of_length_le (by omega)] at h9; exact h9), e0⟩)

theorem EachM_ok {m : UInt8} {w : World} {sl : Value} {vs : List Value} {ll : List (List UInt8)} (hl : Rl w sl vs ll) (ht : ll.flatten.length + ll.length ≤ 1000000) : C Try.prog 21 [sl, .func (.func 18) #[.agg #[B m]] #[]] w (Ret fun u w' => ∃ us, Rw w.heap.size 22 5 w' u us (ll.map (turnL m)) ∧ Ext w w') := by
  have hlm := Rd.max hl.rd
  rw [hl.len] at hlm
  have e0 := Ext.refl w
  refine C.enter Try.func21 rfl Try.ntmps21 rfl ?_
  refine J.seq ?_
  refine J.region ?_
  refine J.op (Yd.assign rfl) rfl ?_
  refine J.nil ?_
  refine J.n_then ?_
  refine J.seq ?_
  refine J.seq ?_
  refine J.region ?_
  refine J.op (Yd.move rfl) rfl ?_
  refine J.op (Yd.eqFn Try.underlying38 rfl rfl) rfl ?_
  refine J.nil ?_
  refine J.n_then ?_
  refine J.cond_false rfl ?_
  refine J.skip ?_
  refine J.n_then ?_
  refine J.seq ?_
  refine J.seq ?_
  refine J.region ?_
  refine J.op (Yd.move rfl) rfl ?_
  refine J.op (Yd.len_l Try.underlying33 rfl hl) rfl ?_
  refine J.op (Yd.move rfl) rfl ?_
  refine J.nil ?_
  refine J.n_then ?_
  refine J.block ?_
  refine J.loop (ι := Nat × Value × List Value) (fun i => [(1, .func (.func 18) #[.agg #[B m]] #[]), (9, sl), (10, I (ll.length : Int)), (11, I (i.1 : Int)), (4, i.2.1)]) (fun i w' => i.1 ≤ ll.length ∧ Rw w.heap.size 22 5 w' i.2.1 i.2.2 ((ll.take i.1).map (turnL m)) ∧ Fr w.heap.size (i.2.1).ownBlock ∧ Ext w w') (fun i => ll.length - i.1) ((0, nilS, [])) ⟨rfl, rfl, rfl, rfl, rfl, trivial⟩ (⟨Nat.zero_le _, Rw.nil _ _ _ _, Fr.nil, e0⟩) ?_
  rintro ⟨k, v4, vs4⟩ w1 ⟨hk, ho4, fr_v4, e0⟩
  dsimp only at *
  have hvl : vs4.length ≤ ll.length := by have h9 := ho4.len; rw [List.length_map, List.length_take] at h9; omega
  refine J.seq ?_
  refine J.region ?_
  refine J.op (Yd.lss rfl rfl) rfl ?_
  refine J.nil ?_
  refine J.n_then ?_
  refine J.seq ?_
  refine J.cond_dec rfl (fun hc1 => ?_) (fun hc1 => ?_)
  · skip
    have hgl := flat_get (ll := ll) (k := k) (by omega)
    refine J.skip ?_
    refine J.n_then ?_
    refine J.seq ?_
    refine J.block ?_
    refine J.seq ?_
    refine J.region ?_
    refine J.op (Yd.idx_l Try.underlying33 ti22 rfl rfl (Rl.ext hl e0) (by first | omega | exact idx_u8' _ | (simp only [Int.toNat_natCast]; omega) | (simp only [List.length_map, List.length_drop, List.length_take, List.length_append, List.length_replicate]; omega) | (simp <;> omega))) rfl ?_
    refine J.op (Yd.load pl22 rfl (Rl.cell (Rl.ext hl e0) (by first | omega | exact idx_u8' _ | (simp only [Int.toNat_natCast]; omega) | (simp only [List.length_map, List.length_drop, List.length_take, List.length_append, List.length_replicate]; omega) | (simp <;> omega)))) rfl ?_
    refine J.op (Yd.assign rfl) rfl ?_
    refine J.nil ?_
    refine J.n_then ?_
    refine J.region ?_
    refine J.op (Yd.move rfl) rfl ?_
    refine J.op (Yd.move rfl) rfl ?_
    refine J.op (Yd.move rfl) rfl ?_
    refine J.eff (Ye.call cl37 rfl (Clone_ok (Rl.at' (Rl.ext hl e0) (by first | omega | exact idx_u8' _ | (simp only [Int.toNat_natCast]; omega) | (simp only [List.length_map, List.length_drop, List.length_take, List.length_append, List.length_replicate]; omega) | (simp <;> omega))) (by rw [Int.toNat_natCast]; omega))) rfl ?_
    rintro s18_2 w2 ⟨os18_2, x1⟩
    have hE1 := x1
    have hF1 := Ow.fr os18_2
    have hR0 := ho4
    have ap_v4_s18_2 : Ap v4.ownBlock s18_2.ownBlock := Ap.mk (Rw.live ho4) (Ow.fr os18_2)
    have fr_s18_2 : Fr w.heap.size s18_2.ownBlock := Fr.le (Ow.fr os18_2) e0.size
    replace os18_2 := Ow.base os18_2 e0.size
    have e0 := e0.trans x1
    have ho4 := ho4.ext x1
    clear x1
    refine J.eff (Ye.callv cl18 rfl rfl (Over_ok (m := m) os18_2)) rfl ?_
    rintro u_ w3 ⟨hu_, oN, x1⟩
    rw [hu_]; clear hu_
    have e0 := Ext.tnk e0 (fun q hq => by simp only [List.mem_singleton] at hq; subst hq; exact fr_s18_2) x1
    replace os18_2 := oN
    clear oN
    have ho4 := Rw.ext hR0 (Ext.tnk hE1 (fun q hq => by simp only [List.mem_singleton] at hq; subst hq; exact hF1) x1)
    clear x1
    refine J.eff (Ye.litS1 Try.underlying33 ti22 rfl rfl (Ow.rd os18_2)) rfl ?_
    rintro s20_4 w4 ⟨o20_4, x1⟩
    have e0 := e0.trans x1
    have ho4 := ho4.ext x1
    have os18_2 := os18_2.ext x1
    clear x1
    refine J.eff (Ye.appendR Try.underlying33 ti22 rfl rfl rfl rfl (Rw.row ho4) (Rl.rd o20_4) (by intro v_ hv_; simp only [List.mem_singleton] at hv_; subst hv_; exact Rd.one (Ow.rd os18_2)) (by first | omega | exact idx_u8' _ | (simp only [Int.toNat_natCast]; omega) | (simp only [List.length_map, List.length_drop, List.length_take, List.length_append, List.length_replicate]; omega) | (simp <;> omega)) e0.size) rfl ?_
    rintro s21_5 w5 ⟨o21_5, hg, hsf⟩
    have o21_5 := Rw.push ho4 os18_2 (Ap.symm ap_v4_s18_2) hg hsf o21_5
    have ap_s18_2_s21_5 : Ap s18_2.ownBlock s21_5.ownBlock := Ap.sf (Ap.symm ap_v4_s18_2) (Ow.live os18_2) hsf
    have fr_s21_5 : Fr w.heap.size s21_5.ownBlock := Fr.sf fr_v4 hsf e0.size
    have e0 := Ext.gbk e0 fr_v4 hg
    clear hg hsf
    refine J.op (Yd.assign rfl) rfl ?_
    refine J.nil ?_
    refine J.n_block ?_
    refine J.n_then ?_
    refine J.region ?_
    refine J.op (Yd.add rfl rfl (by first | omega | exact idx_u8' _ | (simp only [Int.toNat_natCast]; omega) | (simp only [List.length_map, List.length_drop, List.length_take, List.length_append, List.length_replicate]; omega) | (simp <;> omega))) rfl ?_
    refine J.op (Yd.move rfl) rfl ?_
    refine J.nil ?_
    refine J.n_then ?_
    exact J.round ((k + 1, s21_5, _)) ⟨rfl, rfl, rfl, rfl, rfl, trivial⟩ (⟨by show k + 1 ≤ ll.length; omega, (show Rw _ _ _ _ _ _ ((ll.take (k + 1)).map (turnL m)) from by rw [takeMap_succ _ (by omega)]; exact o21_5), fr_s21_5, e0⟩) (by show ll.length - (k + 1) < ll.length - k; omega)
  · skip
    refine J.exit ?_
    refine J.x_then ?_
    refine J.x_then ?_
    refine J.x_block ?_
    refine J.n_then ?_
    refine J.seq ?_
    refine J.region ?_
    refine J.op (Yd.move rfl) rfl ?_
    refine J.op (Yd.assign rfl) rfl ?_
    refine J.nil ?_
    refine J.n_then ?_
    refine J.ret ?_
    exact J.ret1 rfl rfl (⟨_, rfl, vs4, (by have h9 := ho4; rw [List.take_of_length_le (by omega)] at h9; exact h9), e0⟩)

theorem EachC_ok {b1 b2 : Nat} {m : UInt8} {w : World} (h1 : Cel w b1 40 [(0, 1, [.func (.func 18) #[] #[]])]) (h2 : Cel w b2 37 [(0, 1, [B m])]) {sl : Value} {vs : List Value} {ll : List (List UInt8)} (hl : Rl w sl vs ll) (ht : ll.flatten.length + ll.length ≤ 1000000) : C Try.prog 21 [sl, .func (.func 20) #[] #[.pointer (some ⟨b1, 0, none⟩), .pointer (some ⟨b2, 0, none⟩)]] w (Ret fun u w' => ∃ us, Rw w.heap.size 22 5 w' u us (ll.map (turnL m)) ∧ Ext w w') := by
  have hlm := Rd.max hl.rd
  rw [hl.len] at hlm
  have e0 := Ext.refl w
  refine C.enter Try.func21 rfl Try.ntmps21 rfl ?_
  refine J.seq ?_
  refine J.region ?_
  refine J.op (Yd.assign rfl) rfl ?_
  refine J.nil ?_
  refine J.n_then ?_
  refine J.seq ?_
  refine J.seq ?_
  refine J.region ?_
  refine J.op (Yd.move rfl) rfl ?_
  refine J.op (Yd.eqFn Try.underlying38 rfl rfl) rfl ?_
  refine J.nil ?_
  refine J.n_then ?_
  refine J.cond_false rfl ?_
  refine J.skip ?_
  refine J.n_then ?_
  refine J.seq ?_
  refine J.seq ?_
  refine J.region ?_
  refine J.op (Yd.move rfl) rfl ?_
  refine J.op (Yd.len_l Try.underlying33 rfl hl) rfl ?_
  refine J.op (Yd.move rfl) rfl ?_
  refine J.nil ?_
  refine J.n_then ?_
  refine J.block ?_
  refine J.loop (ι := Nat × Value × List Value) (fun i => [(1, .func (.func 20) #[] #[.pointer (some ⟨b1, 0, none⟩), .pointer (some ⟨b2, 0, none⟩)]), (9, sl), (10, I (ll.length : Int)), (11, I (i.1 : Int)), (4, i.2.1)]) (fun i w' => i.1 ≤ ll.length ∧ Rw w.heap.size 22 5 w' i.2.1 i.2.2 ((ll.take i.1).map (turnL m)) ∧ Fr w.heap.size (i.2.1).ownBlock ∧ Ext w w') (fun i => ll.length - i.1) ((0, nilS, [])) ⟨rfl, rfl, rfl, rfl, rfl, trivial⟩ (⟨Nat.zero_le _, Rw.nil _ _ _ _, Fr.nil, e0⟩) ?_
  rintro ⟨k, v4, vs4⟩ w1 ⟨hk, ho4, fr_v4, e0⟩
  dsimp only at *
  have hvl : vs4.length ≤ ll.length := by have h9 := ho4.len; rw [List.length_map, List.length_take] at h9; omega
  refine J.seq ?_
  refine J.region ?_
  refine J.op (Yd.lss rfl rfl) rfl ?_
  refine J.nil ?_
  refine J.n_then ?_
  refine J.seq ?_
  refine J.cond_dec rfl (fun hc1 => ?_) (fun hc1 => ?_)
  · skip
    have hgl := flat_get (ll := ll) (k := k) (by omega)
    refine J.skip ?_
    refine J.n_then ?_
    refine J.seq ?_
    refine J.block ?_
    refine J.seq ?_
    refine J.region ?_
    refine J.op (Yd.idx_l Try.underlying33 ti22 rfl rfl (Rl.ext hl e0) (by first | omega | exact idx_u8' _ | (simp only [Int.toNat_natCast]; omega) | (simp only [List.length_map, List.length_drop, List.length_take, List.length_append, List.length_replicate]; omega) | (simp <;> omega))) rfl ?_
    refine J.op (Yd.load pl22 rfl (Rl.cell (Rl.ext hl e0) (by first | omega | exact idx_u8' _ | (simp only [Int.toNat_natCast]; omega) | (simp only [List.length_map, List.length_drop, List.length_take, List.length_append, List.length_replicate]; omega) | (simp <;> omega)))) rfl ?_
    refine J.op (Yd.assign rfl) rfl ?_
    refine J.nil ?_
    refine J.n_then ?_
    refine J.region ?_
    refine J.op (Yd.move rfl) rfl ?_
    refine J.op (Yd.move rfl) rfl ?_
    refine J.op (Yd.move rfl) rfl ?_
    refine J.eff (Ye.call cl37 rfl (Clone_ok (Rl.at' (Rl.ext hl e0) (by first | omega | exact idx_u8' _ | (simp only [Int.toNat_natCast]; omega) | (simp only [List.length_map, List.length_drop, List.length_take, List.length_append, List.length_replicate]; omega) | (simp <;> omega))) (by rw [Int.toNat_natCast]; omega))) rfl ?_
    rintro s18_2 w2 ⟨os18_2, x1⟩
    have hE1 := x1
    have hF1 := Ow.fr os18_2
    have hR0 := ho4
    have ap_v4_s18_2 : Ap v4.ownBlock s18_2.ownBlock := Ap.mk (Rw.live ho4) (Ow.fr os18_2)
    have fr_s18_2 : Fr w.heap.size s18_2.ownBlock := Fr.le (Ow.fr os18_2) e0.size
    replace os18_2 := Ow.base os18_2 e0.size
    have e0 := e0.trans x1
    have ho4 := ho4.ext x1
    clear x1
    refine J.eff (Ye.callv cl20 rfl rfl (Clos_ok (m := m) (Cel.ext h1 e0) (Cel.ext h2 e0) os18_2)) rfl ?_
    rintro u_ w3 ⟨hu_, oN, x1⟩
    rw [hu_]; clear hu_
    have e0 := Ext.tnk e0 (fun q hq => by simp only [List.mem_singleton] at hq; subst hq; exact fr_s18_2) x1
    replace os18_2 := oN
    clear oN
    have ho4 := Rw.ext hR0 (Ext.tnk hE1 (fun q hq => by simp only [List.mem_singleton] at hq; subst hq; exact hF1) x1)
    clear x1
    refine J.eff (Ye.litS1 Try.underlying33 ti22 rfl rfl (Ow.rd os18_2)) rfl ?_
    rintro s20_4 w4 ⟨o20_4, x1⟩
    have e0 := e0.trans x1
    have ho4 := ho4.ext x1
    have os18_2 := os18_2.ext x1
    clear x1
    refine J.eff (Ye.appendR Try.underlying33 ti22 rfl rfl rfl rfl (Rw.row ho4) (Rl.rd o20_4) (by intro v_ hv_; simp only [List.mem_singleton] at hv_; subst hv_; exact Rd.one (Ow.rd os18_2)) (by first | omega | exact idx_u8' _ | (simp only [Int.toNat_natCast]; omega) | (simp only [List.length_map, List.length_drop, List.length_take, List.length_append, List.length_replicate]; omega) | (simp <;> omega)) e0.size) rfl ?_
    rintro s21_5 w5 ⟨o21_5, hg, hsf⟩
    have o21_5 := Rw.push ho4 os18_2 (Ap.symm ap_v4_s18_2) hg hsf o21_5
    have ap_s18_2_s21_5 : Ap s18_2.ownBlock s21_5.ownBlock := Ap.sf (Ap.symm ap_v4_s18_2) (Ow.live os18_2) hsf
    have fr_s21_5 : Fr w.heap.size s21_5.ownBlock := Fr.sf fr_v4 hsf e0.size
    have e0 := Ext.gbk e0 fr_v4 hg
    clear hg hsf
    refine J.op (Yd.assign rfl) rfl ?_
    refine J.nil ?_
    refine J.n_block ?_
    refine J.n_then ?_
    refine J.region ?_
    refine J.op (Yd.add rfl rfl (by first | omega | exact idx_u8' _ | (simp only [Int.toNat_natCast]; omega) | (simp only [List.length_map, List.length_drop, List.length_take, List.length_append, List.length_replicate]; omega) | (simp <;> omega))) rfl ?_
    refine J.op (Yd.move rfl) rfl ?_
    refine J.nil ?_
    refine J.n_then ?_
    exact J.round ((k + 1, s21_5, _)) ⟨rfl, rfl, rfl, rfl, rfl, trivial⟩ (⟨by show k + 1 ≤ ll.length; omega, (show Rw _ _ _ _ _ _ ((ll.take (k + 1)).map (turnL m)) from by rw [takeMap_succ _ (by omega)]; exact o21_5), fr_s21_5, e0⟩) (by show ll.length - (k + 1) < ll.length - k; omega)
  · skip
    refine J.exit ?_
    refine J.x_then ?_
    refine J.x_then ?_
    refine J.x_block ?_
    refine J.n_then ?_
    refine J.seq ?_
    refine J.region ?_
    refine J.op (Yd.move rfl) rfl ?_
    refine J.op (Yd.assign rfl) rfl ?_
    refine J.nil ?_
    refine J.n_then ?_
    refine J.ret ?_
    exact J.ret1 rfl rfl (⟨_, rfl, vs4, (by have h9 := ho4; rw [List.take_of_length_le (by omega)] at h9; exact h9), e0⟩)
end Ytonoafnjkpahjaa
end Go.Proofs
