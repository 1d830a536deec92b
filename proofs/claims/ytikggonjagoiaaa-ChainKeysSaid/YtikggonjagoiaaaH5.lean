import Derived.Test.YtikggonjagoiaaaT
import Derived.Test.YtikggonjagoiaaaH3
set_option linter.unusedVariables false
set_option linter.unusedSimpArgs false
set_option maxRecDepth 100000
set_option maxHeartbeats 4000000
namespace Go.Proofs
open Go.X Go.RowKit
namespace Ytikggonjagoiaaa
theorem Step_ok {a : Value} {key : List UInt8} {w : World} (ha : Bs w a key) (hk : key.length = 32) : C Try.prog 31 [a] w (Ret fun z w' => ∃ x y, z = .tuple #[x, y] ∧ Ob w.heap.size 5 w' x (macL key [1]) ∧ Ob w.heap.size 5 w' y (macL key [2]) ∧ Ext w w') := by
  have e0 := Ext.refl w
  refine C.enter Try.func31 rfl Try.ntmps31 rfl ?_
  refine J.seq ?_
  refine J.region ?_
  refine J.op (Yd.assign rfl) rfl ?_
  refine J.op (Yd.assign rfl) rfl ?_
  refine J.nil ?_
  refine J.n_then ?_
  refine J.seq ?_
  refine J.region ?_
  refine J.op (Yd.move rfl) rfl ?_
  refine J.eff (Ye.litM (base := w.heap.size) (f := fun x : UInt8 => B x) ([1] : List UInt8) Try.underlying22 ti5 rfl rfl rfl rfl (fun _ => rfl) rfl (Nat.le_refl _)) rfl ?_
  rintro s5_1 w1 ⟨o5_1, x1⟩
  have fr_s5_1 : Fr w.heap.size s5_1.ownBlock := Fr.le (Ow.fr o5_1) e0.size
  replace o5_1 := Ow.base o5_1 e0.size
  have e0 := e0.trans x1
  clear x1
  refine J.eff (Ye.call cl22 rfl (RMac_ok (Rd.ext ha e0) (Ow.rd o5_1) (by first | omega | (simp only [List.length_append, List.flatten_cons, List.flatten_nil, List.append_nil, padL_len, sha256L_len, macL_len, List.length_nil, List.length_cons, Int.toNat_natCast]; omega) | (simp <;> omega)) (by first | omega | (simp only [List.length_append, List.flatten_cons, List.flatten_nil, List.append_nil, padL_len, sha256L_len, macL_len, List.length_nil, List.length_cons, Int.toNat_natCast]; omega) | (simp <;> omega)))) rfl ?_
  rintro s6_2 w2 ⟨os6_2, x1⟩
  have ap_s5_1_s6_2 : Ap s5_1.ownBlock s6_2.ownBlock := Ap.mk (Ow.live o5_1) (Ow.fr os6_2)
  have fr_s6_2 : Fr w.heap.size s6_2.ownBlock := Fr.le (Ow.fr os6_2) e0.size
  replace os6_2 := Ow.base os6_2 e0.size
  have e0 := e0.trans x1
  have o5_1 := o5_1.ext x1
  clear x1
  refine J.op (Yd.move rfl) rfl ?_
  refine J.eff (Ye.litM (base := w2.heap.size) (f := fun x : UInt8 => B x) ([2] : List UInt8) Try.underlying22 ti5 rfl rfl rfl rfl (fun _ => rfl) rfl (Nat.le_refl _)) rfl ?_
  rintro s8_3 w3 ⟨o8_3, x1⟩
  have ap_s5_1_s8_3 : Ap s5_1.ownBlock s8_3.ownBlock := Ap.mk (Ow.live o5_1) (Ow.fr o8_3)
  have ap_s6_2_s8_3 : Ap s6_2.ownBlock s8_3.ownBlock := Ap.mk (Ow.live os6_2) (Ow.fr o8_3)
  have fr_s8_3 : Fr w.heap.size s8_3.ownBlock := Fr.le (Ow.fr o8_3) e0.size
  replace o8_3 := Ow.base o8_3 e0.size
  have e0 := e0.trans x1
  have o5_1 := o5_1.ext x1
  have os6_2 := os6_2.ext x1
  clear x1
  refine J.eff (Ye.call cl22 rfl (RMac_ok (Rd.ext ha e0) (Ow.rd o8_3) (by first | omega | (simp only [List.length_append, List.flatten_cons, List.flatten_nil, List.append_nil, padL_len, sha256L_len, macL_len, List.length_nil, List.length_cons, Int.toNat_natCast]; omega) | (simp <;> omega)) (by first | omega | (simp only [List.length_append, List.flatten_cons, List.flatten_nil, List.append_nil, padL_len, sha256L_len, macL_len, List.length_nil, List.length_cons, Int.toNat_natCast]; omega) | (simp <;> omega)))) rfl ?_
  rintro s9_4 w4 ⟨os9_4, x1⟩
  have ap_s5_1_s9_4 : Ap s5_1.ownBlock s9_4.ownBlock := Ap.mk (Ow.live o5_1) (Ow.fr os9_4)
  have ap_s6_2_s9_4 : Ap s6_2.ownBlock s9_4.ownBlock := Ap.mk (Ow.live os6_2) (Ow.fr os9_4)
  have ap_s8_3_s9_4 : Ap s8_3.ownBlock s9_4.ownBlock := Ap.mk (Ow.live o8_3) (Ow.fr os9_4)
  have fr_s9_4 : Fr w.heap.size s9_4.ownBlock := Fr.le (Ow.fr os9_4) e0.size
  replace os9_4 := Ow.base os9_4 e0.size
  have e0 := e0.trans x1
  have o5_1 := o5_1.ext x1
  have os6_2 := os6_2.ext x1
  have o8_3 := o8_3.ext x1
  clear x1
  refine J.op (Yd.assign rfl) rfl ?_
  refine J.op (Yd.assign rfl) rfl ?_
  refine J.nil ?_
  refine J.n_then ?_
  refine J.ret ?_
  exact J.ret2 rfl rfl rfl (⟨_, rfl, _, _, rfl, os6_2, os9_4, e0⟩)

theorem RNext_ok {b n : Nat} {s : Value} {key : List UInt8} {w : World} (hc : Cel w b 42 (chS s n)) (hs : Bs w s key) (hk : key.length = 32) (hn : Ap (some b) s.ownBlock) (hn1 : n ≤ 1000000) : C Try.prog 16 [.pointer (some ⟨b, 0, none⟩)] w (Ret fun v w' => ∃ s', Ob w.heap.size 5 w' v (macL key [1]) ∧ Cel w' b 42 (chS s' (n + 1)) ∧ Ob w.heap.size 5 w' s' (macL key [2]) ∧ Tn [some b] w w') := by
  unfold chS at hc
  have e0 := Tn.refl [(some b)] w
  refine C.enter Try.func16 rfl Try.ntmps16 rfl ?_
  refine J.seq ?_
  refine J.region ?_
  refine J.op (Yd.assign rfl) rfl ?_
  refine J.nil ?_
  refine J.n_then ?_
  refine J.seq ?_
  refine J.region ?_
  refine J.op (Yd.move rfl) rfl ?_
  refine J.op (Yd.nilCheck rfl) rfl ?_
  refine J.op (Yd.cast (Yd.fieldA Try.underlying42 rfl ti22 rfl rfl) (show _ = Value.pointer (some ⟨b, 0, none⟩) from rfl)) rfl ?_
  refine J.op (Yd.load pl22 rfl (Cel.cell1 hc 0 rfl)) rfl ?_
  refine J.eff (Ye.call cl31 rfl (Step_ok hs (by first | assumption | exact macL_len _ _ | exact chK_len _ (by first | assumption | omega | exact chK_len _ (by assumption) _) _ | omega | (simp; done)))) rfl ?_
  rintro _ w1 ⟨x10_1, y10_1, rfl, ox10_1, oy10_1, x1⟩
  have ap_b_x10_1 : Ap (some b) x10_1.ownBlock := Ap.mk (Cel.live hc) (Ow.fr ox10_1)
  have fr_x10_1 : Fr w.heap.size x10_1.ownBlock := Fr.le (Ow.fr ox10_1) e0.size
  have ap_b_y10_1 : Ap (some b) y10_1.ownBlock := Ap.mk (Cel.live hc) (Ow.fr oy10_1)
  have fr_y10_1 : Fr w.heap.size y10_1.ownBlock := Fr.le (Ow.fr oy10_1) e0.size
  replace ox10_1 := Ow.base ox10_1 e0.size
  replace oy10_1 := Ow.base oy10_1 e0.size
  have e0 := Tn.ext e0 x1
  have hs := hs.ext x1
  have hc := hc.ext x1
  clear x1
  refine J.op (Yd.move rfl) rfl ?_
  refine J.op (Yd.extract rfl rfl) rfl ?_
  refine J.op (Yd.extract rfl rfl) rfl ?_
  refine J.op (Yd.assign rfl) rfl ?_
  refine J.op (Yd.assign rfl) rfl ?_
  refine J.nil ?_
  refine J.n_then ?_
  refine J.seq ?_
  refine J.region ?_
  refine J.op (Yd.move rfl) rfl ?_
  refine J.op (Yd.move rfl) rfl ?_
  refine J.op (Yd.nilCheck rfl) rfl ?_
  refine J.op (Yd.cast (Yd.fieldA Try.underlying42 rfl ti22 rfl rfl) (show _ = Value.pointer (some ⟨b, 0, none⟩) from rfl)) rfl ?_
  refine J.eff0 (Ye.store1 ti22 hc 0 rfl rfl rfl rfl (Rd.cells (Ow.rd oy10_1)) (Rd.one (Ow.rd oy10_1))) ?_
  rintro _ w2 ⟨cX, hu⟩
  simp only [List.set_cons_zero, List.set_cons_succ] at cX
  have hg := hu.gb
  have hs := Rd.gbk hs hg (Ap.symm hn)
  have ox10_1 := Ow.gbk ox10_1 hg (Ap.symm ap_b_x10_1)
  have oy10_1 := Ow.gbk oy10_1 hg (Ap.symm ap_b_y10_1)
  have e0 := Tn.gbk e0 (.inl (by simp)) hg
  clear hg
  replace hc := cX
  clear cX hu
  refine J.nil ?_
  refine J.n_then ?_
  refine J.seq ?_
  refine J.region ?_
  refine J.op (Yd.move rfl) rfl ?_
  refine J.op (Yd.nilCheck rfl) rfl ?_
  refine J.op (Yd.cast (Yd.fieldA Try.underlying42 rfl ti3 rfl rfl) (show _ = Value.pointer (some ⟨b, 1, none⟩) from rfl)) rfl ?_
  refine J.op (Yd.load pl3 rfl (Cel.cell1 hc 1 rfl)) rfl ?_
  refine J.op (Yd.add rfl rfl (by first | omega | exact idx_u8' _ | (simp only [Int.toNat_natCast]; omega) | (simp only [List.length_map, List.length_drop, List.length_take, List.length_append, List.length_replicate]; omega) | (simp <;> omega))) rfl ?_
  refine J.op (Yd.nilCheck rfl) rfl ?_
  refine J.op (Yd.cast (Yd.fieldA Try.underlying42 rfl ti3 rfl rfl) (show _ = Value.pointer (some ⟨b, 1, none⟩) from rfl)) rfl ?_
  refine J.eff0 (Ye.store1 ti3 hc 1 rfl rfl rfl rfl rfl rfl) ?_
  rintro _ w3 ⟨cX, hu⟩
  simp only [List.set_cons_zero, List.set_cons_succ] at cX
  have hg := hu.gb
  have hs := Rd.gbk hs hg (Ap.symm hn)
  have ox10_1 := Ow.gbk ox10_1 hg (Ap.symm ap_b_x10_1)
  have oy10_1 := Ow.gbk oy10_1 hg (Ap.symm ap_b_y10_1)
  have e0 := Tn.gbk e0 (.inl (by simp)) hg
  clear hg
  replace hc := cX
  clear cX hu
  refine J.nil ?_
  refine J.n_then ?_
  refine J.seq ?_
  refine J.region ?_
  refine J.op (Yd.move rfl) rfl ?_
  refine J.op (Yd.assign rfl) rfl ?_
  refine J.nil ?_
  refine J.n_then ?_
  refine J.ret ?_
  exact J.ret1 rfl rfl (⟨_, rfl, y10_1, ox10_1, (show Cel _ _ 42 (chS y10_1 (n + 1)) from hc), oy10_1, e0⟩)

theorem Far_ok {b n : Nat} {s : Value} {k : Int} {w : World} (hc : Cel w b 42 (chS s n)) (hn1 : n ≤ 1000000) : C Try.prog 32 [.pointer (some ⟨b, 0, none⟩), I k] w (Ret fun v w' => v = I (mayK n k) ∧ Ext w w') := by
  unfold chS at hc
  have e0 := Ext.refl w
  refine C.enter Try.func32 rfl Try.ntmps32 rfl ?_
  refine J.seq ?_
  refine J.region ?_
  refine J.op (Yd.assign rfl) rfl ?_
  refine J.nil ?_
  refine J.n_then ?_
  refine J.seq ?_
  refine J.block ?_
  refine J.seq ?_
  refine J.region ?_
  refine J.op (Yd.move rfl) rfl ?_
  refine J.op (Yd.move rfl) rfl ?_
  refine J.op (Yd.nilCheck rfl) rfl ?_
  refine J.op (Yd.cast (Yd.fieldA Try.underlying42 rfl ti3 rfl rfl) (show _ = Value.pointer (some ⟨b, 1, none⟩) from rfl)) rfl ?_
  refine J.op (Yd.load pl3 rfl (Cel.cell1 (Cel.ext hc e0) 1 rfl)) rfl ?_
  refine J.op (Yd.lss rfl rfl) rfl ?_
  refine J.op (Yd.assign rfl) rfl ?_
  refine J.nil ?_
  refine J.n_then ?_
  refine J.cond_dec rfl (fun hc1 => ?_) (fun hc1 => ?_)
  · skip
    refine J.seq ?_
    refine J.region ?_
    refine J.op (Yd.assign rfl) rfl ?_
    refine J.nil ?_
    refine J.n_then ?_
    refine J.ret ?_
    refine J.r_block ?_
    refine J.r_then ?_
    exact J.ret1 rfl rfl (⟨_, rfl, congrArg (fun x => I x) (by first | exact (mayK_old (by assumption)).symm | exact (mayK_far (by assumption) (by assumption)).symm | exact (mayK_ok (by assumption) (by assumption)).symm), e0⟩)
  · skip
    refine J.seq ?_
    refine J.region ?_
    refine J.op (Yd.move rfl) rfl ?_
    refine J.op (Yd.move rfl) rfl ?_
    refine J.op (Yd.nilCheck rfl) rfl ?_
    refine J.op (Yd.cast (Yd.fieldA Try.underlying42 rfl ti3 rfl rfl) (show _ = Value.pointer (some ⟨b, 1, none⟩) from rfl)) rfl ?_
    refine J.op (Yd.load pl3 rfl (Cel.cell1 (Cel.ext hc e0) 1 rfl)) rfl ?_
    refine J.op (Yd.add rfl rfl (by first | omega | exact idx_u8' _ | (simp only [Int.toNat_natCast]; omega) | (simp only [List.length_map, List.length_drop, List.length_take, List.length_append, List.length_replicate]; omega) | (simp <;> omega))) rfl ?_
    refine J.op (Yd.gtr rfl rfl) rfl ?_
    refine J.op (Yd.assign rfl) rfl ?_
    refine J.nil ?_
    refine J.n_then ?_
    refine J.cond_dec rfl (fun hc2 => ?_) (fun hc2 => ?_)
    · skip
      refine J.seq ?_
      refine J.region ?_
      refine J.op (Yd.assign rfl) rfl ?_
      refine J.nil ?_
      refine J.n_then ?_
      refine J.ret ?_
      refine J.r_block ?_
      refine J.r_then ?_
      exact J.ret1 rfl rfl (⟨_, rfl, congrArg (fun x => I x) (by first | exact (mayK_old (by assumption)).symm | exact (mayK_far (by assumption) (by assumption)).symm | exact (mayK_ok (by assumption) (by assumption)).symm), e0⟩)
    · skip
      refine J.skip ?_
      refine J.n_block ?_
      refine J.n_then ?_
      refine J.seq ?_
      refine J.region ?_
      refine J.op (Yd.assign rfl) rfl ?_
      refine J.nil ?_
      refine J.n_then ?_
      refine J.ret ?_
      exact J.ret1 rfl rfl (⟨_, rfl, congrArg (fun x => I x) (by first | exact (mayK_old (by assumption)).symm | exact (mayK_far (by assumption) (by assumption)).symm | exact (mayK_ok (by assumption) (by assumption)).symm), e0⟩)

theorem RSkip_nat {b n : Nat} {s : Value} {key : List UInt8} {w : World} (hc : Cel w b 42 (chS s n)) (hs : Bs w s key) (hk : key.length = 32) {q : Nat} (hn : Ap (some b) s.ownBlock) (hn1 : n ≤ 900000) (hq : n ≤ q) (hq2 : q ≤ n + 40) : C Try.prog 19 [.pointer (some ⟨b, 0, none⟩), I (q : Int)] w (Ret fun u w' => ∃ out vs s', u = .tuple #[out, I 0] ∧ Rw w.heap.size 22 5 w' out vs (chR key 0 (q - n)) ∧ Cel w' b 42 (chS s' q) ∧ Bs w' s' (chK key (q - n)) ∧ SF w s.ownBlock s'.ownBlock ∧ Tn [some b] w w') := by
  unfold chS at hc
  have lo_b : Lo w.heap.size (some b) := Cel.live (show Cel w b _ [(0, 1, [s]), (1, 1, [I (n : Int)])] from hc)
  have hm0 : mayK (n : Int) (q : Int) = 0 := mayK_ok (by omega) (by omega)
  have e0 := Tn.refl [(some b)] w
  refine C.enter Try.func19 rfl Try.ntmps19 rfl ?_
  refine J.seq ?_
  refine J.region ?_
  refine J.op (Yd.assign rfl) rfl ?_
  refine J.op (Yd.assign rfl) rfl ?_
  refine J.nil ?_
  refine J.n_then ?_
  refine J.seq ?_
  refine J.region ?_
  refine J.op (Yd.move rfl) rfl ?_
  refine J.op (Yd.move rfl) rfl ?_
  refine J.eff (Ye.call cl32 rfl (Far_ok (show Cel _ _ _ (chS _ _) from hc) (by omega))) rfl ?_
  rintro _ w1 ⟨rfl, x1⟩
  have e0 := Tn.ext e0 x1
  have hs := hs.ext x1
  have hc := hc.ext x1
  clear x1
  refine J.op (Yd.assign rfl) rfl ?_
  refine J.nil ?_
  refine J.n_then ?_
  refine J.seq ?_
  refine J.seq ?_
  refine J.region ?_
  refine J.op (Yd.move rfl) rfl ?_
  refine J.op (Yd.neq rfl rfl) rfl ?_
  refine J.nil ?_
  refine J.n_then ?_
  refine J.know (t := 12) (v' := .bool false) rfl (ff (by exact fun e => e hm0)) ?_
  refine J.cond_false rfl ?_
  refine J.skip ?_
  refine J.n_then ?_
  refine J.seq ?_
  refine J.region ?_
  refine J.op (Yd.assign rfl) rfl ?_
  refine J.nil ?_
  refine J.n_then ?_
  refine J.seq ?_
  refine J.block ?_
  refine J.loop (ι := Nat × Value × List Value × Value) (fun i => [(1, I (q : Int)), (0, .pointer (some ⟨b, 0, none⟩)), (7, i.2.1)]) (fun i w' => i.1 ≤ q - n ∧ SF w s.ownBlock i.2.2.2.ownBlock ∧ Cel w' b 42 (chS i.2.2.2 (n + i.1)) ∧ Bs w' i.2.2.2 (chK key i.1) ∧ Rw w.heap.size 22 5 w' i.2.1 i.2.2.1 (chR key 0 i.1) ∧ Ap (some b) (i.2.2.2).ownBlock ∧ Fr w.heap.size (i.2.1).ownBlock ∧ Ap (some b) (i.2.1).ownBlock ∧ Ap (i.2.2.2).ownBlock (i.2.1).ownBlock ∧ Tn [(some b)] w w') (fun i => (q - n) - i.1) ((0, nilS, [], s)) ⟨rfl, rfl, rfl, trivial⟩ (⟨Nat.zero_le _, fun k h => .inl h, (show Cel _ _ _ (chS _ _) from hc), hs, Rw.nil _ _ _ _, hn, Fr.nil, Ap.nil_r, Ap.nil_r, e0⟩) ?_
  rintro ⟨k, v4, vs, s1⟩ w2 ⟨hk2, hsf, hc, hs1, ho4, ap_b_s1, fr_v4, ap_b_v4, ap_s1_v4, e0⟩
  dsimp only at *
  have hvl := ho4.len
  rw [chR_len] at hvl
  unfold chS at hc
  refine J.seq ?_
  refine J.seq ?_
  refine J.region ?_
  refine J.op (Yd.move rfl) rfl ?_
  refine J.op (Yd.nilCheck rfl) rfl ?_
  refine J.op (Yd.cast (Yd.fieldA Try.underlying42 rfl ti3 rfl rfl) (show _ = Value.pointer (some ⟨b, 1, none⟩) from rfl)) rfl ?_
  refine J.op (Yd.load pl3 rfl (Cel.cell1 hc 1 rfl)) rfl ?_
  refine J.op (Yd.move rfl) rfl ?_
  refine J.op (Yd.lss rfl rfl) rfl ?_
  refine J.nil ?_
  refine J.n_then ?_
  refine J.cond_dec rfl (fun hc1 => ?_) (fun hc1 => ?_)
  · skip
    refine J.skip ?_
    refine J.n_then ?_
    refine J.block ?_
    refine J.region ?_
    refine J.op (Yd.move rfl) rfl ?_
    refine J.op (Yd.move rfl) rfl ?_
    refine J.eff (Ye.call cl16 rfl (RNext_ok (show Cel _ _ _ (chS _ _) from hc) hs1 (by first | assumption | exact macL_len _ _ | exact chK_len _ (by first | assumption | omega | exact chK_len _ (by assumption) _) _ | omega | (simp; done)) ap_b_s1 (by first | omega | (simp only [Int.toNat_natCast]; omega)))) rfl ?_
    rintro v22_3 w3 ⟨s22_3, ov22_3, cX2, os22_3, x1⟩
    have ap_b_v22_3 : Ap (some b) v22_3.ownBlock := Ap.mk (Cel.live hc) (Ow.fr ov22_3)
    have ap_v4_v22_3 : Ap v4.ownBlock v22_3.ownBlock := Ap.mk (Rw.live ho4) (Ow.fr ov22_3)
    have fr_v22_3 : Fr w.heap.size v22_3.ownBlock := Fr.le (Ow.fr ov22_3) e0.size
    have ap_b_s22_3 : Ap (some b) s22_3.ownBlock := Ap.mk (Cel.live hc) (Ow.fr os22_3)
    have ap_v4_s22_3 : Ap v4.ownBlock s22_3.ownBlock := Ap.mk (Rw.live ho4) (Ow.fr os22_3)
    have fr_s22_3 : Fr w.heap.size s22_3.ownBlock := Fr.le (Ow.fr os22_3) e0.size
    replace ov22_3 := Ow.base ov22_3 e0.size
    replace os22_3 := Ow.base os22_3 e0.size
    have hs1 := Rd.tnk hs1 x1 (ApL.one (Ap.symm ap_b_s1))
    have ho4 := Rw.tnk ho4 x1 (LoL.one lo_b)
    have e0 := Tn.tnk e0 (fun q hq => by simp only [List.mem_singleton] at hq; subst hq; exact .inl (by simp)) x1
    clear x1
    replace hc := cX2
    clear cX2
    refine J.eff (Ye.litS1 Try.underlying30 ti22 rfl rfl (Ow.rd ov22_3)) rfl ?_
    rintro s23_4 w4 ⟨o23_4, x1⟩
    have e0 := Tn.ext e0 x1
    have hc := hc.ext x1
    have hs1 := hs1.ext x1
    have ho4 := ho4.ext x1
    have ov22_3 := ov22_3.ext x1
    have os22_3 := os22_3.ext x1
    clear x1
    refine J.eff (Ye.appendR Try.underlying30 ti22 rfl rfl rfl rfl (Rw.row ho4) (Rl.rd o23_4) (by intro v_ hv_; simp only [List.mem_singleton] at hv_; subst hv_; exact Rd.one (Ow.rd ov22_3)) (by simp only [List.length_cons, List.length_nil]; omega) e0.size) rfl ?_
    rintro s24_5 w5 ⟨o24_5, hg, hsf⟩
    have o24_5 := Rw.push ho4 ov22_3 (Ap.symm ap_v4_v22_3) hg hsf o24_5
    have ap_b_s24_5 : Ap (some b) s24_5.ownBlock := Ap.sf ap_b_v4 (Cel.live hc) hsf
    have ap_v22_3_s24_5 : Ap v22_3.ownBlock s24_5.ownBlock := Ap.sf (Ap.symm ap_v4_v22_3) (Ow.live ov22_3) hsf
    have ap_s22_3_s24_5 : Ap s22_3.ownBlock s24_5.ownBlock := Ap.sf (Ap.symm ap_v4_s22_3) (Ow.live os22_3) hsf
    have fr_s24_5 : Fr w.heap.size s24_5.ownBlock := Fr.sf fr_v4 hsf e0.size
    have hc := Cel.gbk hc hg ap_b_v4
    have hs1 := Rd.gbk hs1 hg ap_s1_v4
    have os22_3 := Ow.gbk os22_3 hg (Ap.symm ap_v4_s22_3)
    have e0 := Tn.gbk e0 (.inr fr_v4) hg
    clear hg hsf
    refine J.op (Yd.assign rfl) rfl ?_
    refine J.nil ?_
    refine J.n_block ?_
    refine J.n_then ?_
    exact J.round ((k + 1, s24_5, vs ++ [v22_3], s22_3)) ⟨rfl, rfl, rfl, trivial⟩ (⟨by show k + 1 ≤ q - n; omega, fun k h => .inr (fr_s22_3 k h), (show Cel _ _ _ (chS _ (n + (k + 1))) from hc), (Ow.rd os22_3), (show Rw _ _ _ _ _ (vs ++ [_]) (chR key 0 (k + 1)) from by rw [chR_succ, Nat.zero_add]; exact o24_5), ap_b_s22_3, fr_s24_5, ap_b_s24_5, ap_s22_3_s24_5, e0⟩) (by show (q - n) - (k + 1) < (q - n) - k; omega)
  · skip
    refine J.exit ?_
    refine J.x_then ?_
    refine J.x_then ?_
    refine J.x_block ?_
    refine J.n_then ?_
    refine J.seq ?_
    refine J.region ?_
    refine J.op (Yd.move rfl) rfl ?_
    refine J.op (Yd.assign rfl) rfl ?_
    refine J.op (Yd.assign rfl) rfl ?_
    refine J.nil ?_
    refine J.n_then ?_
    refine J.ret ?_
    exact J.ret2 rfl rfl rfl (⟨_, rfl, _, _, _, rfl, (show Rw _ _ _ _ _ _ (chR key 0 (q - n)) from by rw [show q - n = k by omega]; exact ho4), (show Cel _ _ _ (chS s1 q) from by rw [show q = n + k by omega]; exact hc), (show Bs _ _ (chK key (q - n)) from by rw [show q - n = k by omega]; exact hs1), hsf, e0⟩)

theorem RSkip_yes {b n : Nat} {s : Value} {key : List UInt8} {k : Int} {w : World} (hc : Cel w b 42 (chS s n)) (hs : Bs w s key) (hk : key.length = 32) (hn : Ap (some b) s.ownBlock) (hn1 : n ≤ 900000) (hm : mayK n k = 0) : C Try.prog 19 [.pointer (some ⟨b, 0, none⟩), I k] w (Ret fun u w' => ∃ out vs s', u = .tuple #[out, I 0] ∧ Rw w.heap.size 22 5 w' out vs (chR key 0 (k.toNat - n)) ∧ Cel w' b 42 (chS s' k.toNat) ∧ Bs w' s' (chK key (k.toNat - n)) ∧ SF w s.ownBlock s'.ownBlock ∧ Tn [some b] w w') := by
  obtain ⟨h1, h2⟩ := mayK_zero hm
  obtain ⟨q, rfl⟩ := Int.eq_ofNat_of_zero_le (show 0 ≤ k by omega)
  exact RSkip_nat hc hs hk hn hn1 (by omega) (by omega)

theorem RSkip_no {b n : Nat} {s : Value} {k : Int} {w : World} (hc : Cel w b 42 (chS s n)) (hn1 : n ≤ 900000) (hm : mayK n k ≠ 0) : C Try.prog 19 [.pointer (some ⟨b, 0, none⟩), I k] w (Ret fun v w' => v = .tuple #[nilS, I (mayK n k)] ∧ Ext w w') := by
  unfold chS at hc
  have e0 := Ext.refl w
  refine C.enter Try.func19 rfl Try.ntmps19 rfl ?_
  refine J.seq ?_
  refine J.region ?_
  refine J.op (Yd.assign rfl) rfl ?_
  refine J.op (Yd.assign rfl) rfl ?_
  refine J.nil ?_
  refine J.n_then ?_
  refine J.seq ?_
  refine J.region ?_
  refine J.op (Yd.move rfl) rfl ?_
  refine J.op (Yd.move rfl) rfl ?_
  refine J.eff (Ye.call cl32 rfl (Far_ok (show Cel _ _ _ (chS _ _) from (Cel.ext hc e0)) (by omega))) rfl ?_
  rintro _ w1 ⟨rfl, x1⟩
  have e0 := e0.trans x1
  clear x1
  refine J.op (Yd.assign rfl) rfl ?_
  refine J.nil ?_
  refine J.n_then ?_
  refine J.seq ?_
  refine J.seq ?_
  refine J.region ?_
  refine J.op (Yd.move rfl) rfl ?_
  refine J.op (Yd.neq rfl rfl) rfl ?_
  refine J.nil ?_
  refine J.n_then ?_
  refine J.know (t := 12) (v' := .bool true) rfl (tt (by exact hm)) ?_
  refine J.cond_true rfl ?_
  refine J.seq ?_
  refine J.region ?_
  refine J.op (Yd.move rfl) rfl ?_
  refine J.op (Yd.assign rfl) rfl ?_
  refine J.op (Yd.assign rfl) rfl ?_
  refine J.nil ?_
  refine J.n_then ?_
  refine J.ret ?_
  refine J.r_then ?_
  exact J.ret2 rfl rfl rfl (⟨_, rfl, rfl, e0⟩)

theorem RAt_nat {b n : Nat} {s : Value} {key : List UInt8} {w : World} (hc : Cel w b 42 (chS s n)) (hs : Bs w s key) (hk : key.length = 32) {q : Nat} (hn1 : n ≤ 900000) (hq : n ≤ q) (hq2 : q ≤ n + 40) : C Try.prog 18 [.pointer (some ⟨b, 0, none⟩), I (q : Int)] w (Ret fun u w' => ∃ v, u = .tuple #[v, I 0] ∧ Ob w.heap.size 5 w' v (chM key (q - n)) ∧ Ext w w') := by
  unfold chS at hc
  have hm0 : mayK (n : Int) (q : Int) = 0 := mayK_ok (by omega) (by omega)
  have e0 := Ext.refl w
  refine C.enter Try.func18 rfl Try.ntmps18 rfl ?_
  refine J.seq ?_
  refine J.region ?_
  refine J.op (Yd.assign rfl) rfl ?_
  refine J.op (Yd.assign rfl) rfl ?_
  refine J.nil ?_
  refine J.n_then ?_
  refine J.seq ?_
  refine J.region ?_
  refine J.op (Yd.move rfl) rfl ?_
  refine J.op (Yd.move rfl) rfl ?_
  refine J.eff (Ye.call cl32 rfl (Far_ok (show Cel _ _ _ (chS _ _) from (Cel.ext hc e0)) (by omega))) rfl ?_
  rintro _ w1 ⟨rfl, x1⟩
  have e0 := e0.trans x1
  clear x1
  refine J.op (Yd.assign rfl) rfl ?_
  refine J.nil ?_
  refine J.n_then ?_
  refine J.seq ?_
  refine J.seq ?_
  refine J.region ?_
  refine J.op (Yd.move rfl) rfl ?_
  refine J.op (Yd.neq rfl rfl) rfl ?_
  refine J.nil ?_
  refine J.n_then ?_
  refine J.know (t := 15) (v' := .bool false) rfl (ff (by exact fun e => e hm0)) ?_
  refine J.cond_false rfl ?_
  refine J.skip ?_
  refine J.n_then ?_
  refine J.seq ?_
  refine J.region ?_
  refine J.op (Yd.move rfl) rfl ?_
  refine J.op (Yd.nilCheck rfl) rfl ?_
  refine J.op (Yd.cast (Yd.fieldA Try.underlying42 rfl ti22 rfl rfl) (show _ = Value.pointer (some ⟨b, 0, none⟩) from rfl)) rfl ?_
  refine J.op (Yd.load pl22 rfl (Cel.cell1 (Cel.ext hc e0) 0 rfl)) rfl ?_
  refine J.op (Yd.assign rfl) rfl ?_
  refine J.nil ?_
  refine J.n_then ?_
  refine J.seq ?_
  refine J.seq ?_
  refine J.region ?_
  refine J.op (Yd.move rfl) rfl ?_
  refine J.op (Yd.nilCheck rfl) rfl ?_
  refine J.op (Yd.cast (Yd.fieldA Try.underlying42 rfl ti3 rfl rfl) (show _ = Value.pointer (some ⟨b, 1, none⟩) from rfl)) rfl ?_
  refine J.op (Yd.load pl3 rfl (Cel.cell1 (Cel.ext hc e0) 1 rfl)) rfl ?_
  refine J.op (Yd.assign rfl) rfl ?_
  refine J.nil ?_
  refine J.n_then ?_
  refine J.block ?_
  refine J.loop (ι := Nat × Value) (fun i => [(1, I (q : Int)), (8, I ((n + i.1 : Nat) : Int)), (7, i.2)]) (fun i w' => i.1 ≤ q - n ∧ Bs w' i.2 (chK key i.1) ∧ Ext w w') (fun i => (q - n) - i.1) ((0, s)) ⟨rfl, rfl, rfl, trivial⟩ (⟨Nat.zero_le _, (Rd.ext hs e0), e0⟩) ?_
  rintro ⟨k, v7⟩ w2 ⟨hk2, hs7, e0⟩
  dsimp only at *
  refine J.seq ?_
  refine J.seq ?_
  refine J.region ?_
  refine J.op (Yd.move rfl) rfl ?_
  refine J.op (Yd.move rfl) rfl ?_
  refine J.op (Yd.lss rfl rfl) rfl ?_
  refine J.nil ?_
  refine J.n_then ?_
  refine J.cond_dec rfl (fun hc1 => ?_) (fun hc1 => ?_)
  · skip
    refine J.skip ?_
    refine J.n_then ?_
    refine J.seq ?_
    refine J.block ?_
    refine J.region ?_
    refine J.op (Yd.move rfl) rfl ?_
    refine J.eff (Ye.call cl31 rfl (Step_ok hs7 (by first | assumption | exact macL_len _ _ | exact chK_len _ (by first | assumption | omega | exact chK_len _ (by assumption) _) _ | omega | (simp; done)))) rfl ?_
    rintro _ w3 ⟨x32_3, y32_3, rfl, ox32_3, oy32_3, x1⟩
    have fr_x32_3 : Fr w.heap.size x32_3.ownBlock := Fr.le (Ow.fr ox32_3) e0.size
    have fr_y32_3 : Fr w.heap.size y32_3.ownBlock := Fr.le (Ow.fr oy32_3) e0.size
    replace ox32_3 := Ow.base ox32_3 e0.size
    replace oy32_3 := Ow.base oy32_3 e0.size
    have e0 := e0.trans x1
    have hs7 := hs7.ext x1
    clear x1
    refine J.op (Yd.move rfl) rfl ?_
    refine J.op (Yd.extract rfl rfl) rfl ?_
    refine J.op (Yd.extract rfl rfl) rfl ?_
    refine J.op (Yd.assign rfl) rfl ?_
    refine J.nil ?_
    refine J.n_block ?_
    refine J.n_then ?_
    refine J.region ?_
    refine J.op (Yd.move rfl) rfl ?_
    refine J.op (Yd.add rfl rfl (by first | omega | exact idx_u8' _ | (simp only [Int.toNat_natCast]; omega) | (simp only [List.length_map, List.length_drop, List.length_take, List.length_append, List.length_replicate]; omega) | (simp <;> omega))) rfl ?_
    refine J.op (Yd.assign rfl) rfl ?_
    refine J.nil ?_
    refine J.n_then ?_
    exact J.round ((k + 1, y32_3)) ⟨rfl, rfl, rfl, trivial⟩ (⟨by show k + 1 ≤ q - n; omega, (Ow.rd oy32_3), e0⟩) (by show (q - n) - (k + 1) < (q - n) - k; omega)
  · skip
    refine J.exit ?_
    refine J.x_then ?_
    refine J.x_then ?_
    refine J.x_block ?_
    refine J.n_then ?_
    refine J.seq ?_
    refine J.region ?_
    refine J.op (Yd.move rfl) rfl ?_
    refine J.eff (Ye.call cl31 rfl (Step_ok hs7 (by first | assumption | exact macL_len _ _ | exact chK_len _ (by first | assumption | omega | exact chK_len _ (by assumption) _) _ | omega | (simp; done)))) rfl ?_
    rintro _ w4 ⟨x37_4, y37_4, rfl, ox37_4, oy37_4, x1⟩
    have fr_x37_4 : Fr w.heap.size x37_4.ownBlock := Fr.le (Ow.fr ox37_4) e0.size
    have fr_y37_4 : Fr w.heap.size y37_4.ownBlock := Fr.le (Ow.fr oy37_4) e0.size
    replace ox37_4 := Ow.base ox37_4 e0.size
    replace oy37_4 := Ow.base oy37_4 e0.size
    have e0 := e0.trans x1
    have hs7 := hs7.ext x1
    clear x1
    refine J.op (Yd.move rfl) rfl ?_
    refine J.op (Yd.extract rfl rfl) rfl ?_
    refine J.op (Yd.extract rfl rfl) rfl ?_
    refine J.op (Yd.assign rfl) rfl ?_
    refine J.op (Yd.assign rfl) rfl ?_
    refine J.nil ?_
    refine J.n_then ?_
    refine J.seq ?_
    refine J.region ?_
    refine J.op (Yd.move rfl) rfl ?_
    refine J.op (Yd.assign rfl) rfl ?_
    refine J.op (Yd.assign rfl) rfl ?_
    refine J.nil ?_
    refine J.n_then ?_
    refine J.ret ?_
    exact J.ret2 rfl rfl rfl (⟨_, rfl, _, rfl, (show Ob _ _ _ _ (chM key (q - n)) from by rw [show q - n = k by omega]; exact ox37_4), e0⟩)

theorem RAt_yes {b n : Nat} {s : Value} {key : List UInt8} {k : Int} {w : World} (hc : Cel w b 42 (chS s n)) (hs : Bs w s key) (hk : key.length = 32) (hn1 : n ≤ 900000) (hm : mayK n k = 0) : C Try.prog 18 [.pointer (some ⟨b, 0, none⟩), I k] w (Ret fun u w' => ∃ v, u = .tuple #[v, I 0] ∧ Ob w.heap.size 5 w' v (chM key (k.toNat - n)) ∧ Ext w w') := by
  obtain ⟨h1, h2⟩ := mayK_zero hm
  obtain ⟨q, rfl⟩ := Int.eq_ofNat_of_zero_le (show 0 ≤ k by omega)
  exact RAt_nat hc hs hk hn1 (by omega) (by omega)

theorem RAt_no {b n : Nat} {s : Value} {key : List UInt8} {w : World} (hc : Cel w b 42 (chS s n)) (hs : Bs w s key) (hk : key.length = 32) {k : Int} (hn1 : n ≤ 900000) (hm : mayK n k ≠ 0) : C Try.prog 18 [.pointer (some ⟨b, 0, none⟩), I k] w (Ret fun v w' => v = .tuple #[nilS, I (mayK n k)] ∧ Ext w w') := by
  unfold chS at hc
  have e0 := Ext.refl w
  refine C.enter Try.func18 rfl Try.ntmps18 rfl ?_
  refine J.seq ?_
  refine J.region ?_
  refine J.op (Yd.assign rfl) rfl ?_
  refine J.op (Yd.assign rfl) rfl ?_
  refine J.nil ?_
  refine J.n_then ?_
  refine J.seq ?_
  refine J.region ?_
  refine J.op (Yd.move rfl) rfl ?_
  refine J.op (Yd.move rfl) rfl ?_
  refine J.eff (Ye.call cl32 rfl (Far_ok (show Cel _ _ _ (chS _ _) from (Cel.ext hc e0)) (by omega))) rfl ?_
  rintro _ w1 ⟨rfl, x1⟩
  have e0 := e0.trans x1
  clear x1
  refine J.op (Yd.assign rfl) rfl ?_
  refine J.nil ?_
  refine J.n_then ?_
  refine J.seq ?_
  refine J.seq ?_
  refine J.region ?_
  refine J.op (Yd.move rfl) rfl ?_
  refine J.op (Yd.neq rfl rfl) rfl ?_
  refine J.nil ?_
  refine J.n_then ?_
  refine J.know (t := 15) (v' := .bool true) rfl (tt (by exact hm)) ?_
  refine J.cond_true rfl ?_
  refine J.seq ?_
  refine J.region ?_
  refine J.op (Yd.move rfl) rfl ?_
  refine J.op (Yd.assign rfl) rfl ?_
  refine J.op (Yd.assign rfl) rfl ?_
  refine J.nil ?_
  refine J.n_then ?_
  refine J.ret ?_
  refine J.r_then ?_
  exact J.ret2 rfl rfl rfl (⟨_, rfl, rfl, e0⟩)
end Ytikggonjagoiaaa
end Go.Proofs
