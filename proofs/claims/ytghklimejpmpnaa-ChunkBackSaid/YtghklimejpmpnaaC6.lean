import Derived.Test.YtghklimejpmpnaaT
import Derived.Test.YtghklimejpmpnaaQo
import Derived.Test.YtghklimejpmpnaaC5
set_option linter.unusedVariables false
set_option linter.unusedSimpArgs false
set_option maxRecDepth 100000
set_option maxHeartbeats 4000000
namespace Go.Proofs
open Go.X Go.RowKit
namespace Ytghklimejpmpnaa
theorem Miss1_ok {b : Nat} {s : Value} {vs : List Value} {ll : List (List UInt8)} {id size len : Int} {rs : List (Option Nat)} {w : World} (hB : BxN id size len ll.length) (hc : Cel w b 72 [(0, 1, [I id]), (1, 1, [I size]), (2, 1, [I len]), (3, 1, [s])]) (he : Els rs w vs ll) (hr : Rd w s vs) : C Try.prog 13 [.pointer (some ⟨b, 0, none⟩)] w (Ret fun u w' => Ow w.heap.size 3 w' u ((missL ll).map fun x => I x) ∧ Ext w w') := by
  have hrl := he.rl hr
  have hn1 := hB.n1
  have hvl := he.len
  have e0 := Ext.refl w
  refine C.enter Try.func13 rfl Try.ntmps13 rfl ?_
  refine J.seq ?_
  refine J.region ?_
  refine J.op (Yd.assign rfl) rfl ?_
  refine J.nil ?_
  refine J.n_then ?_
  refine J.seq ?_
  refine J.seq ?_
  refine J.region ?_
  refine J.op (Yd.move rfl) rfl ?_
  refine J.op (Yd.cast (Yd.eqPn Try.underlying32 rfl rfl) (show _ = Value.bool false from rfl)) rfl ?_
  refine J.nil ?_
  refine J.n_then ?_
  refine J.cond_false rfl ?_
  refine J.skip ?_
  refine J.n_then ?_
  refine J.seq ?_
  refine J.seq ?_
  refine J.region ?_
  refine J.op (Yd.move rfl) rfl ?_
  refine J.op (Yd.nilCheck rfl) rfl ?_
  refine J.op (Yd.cast (Yd.fieldA Try.underlying72 rfl ti70 rfl rfl) (show _ = Value.pointer (some ⟨b, 3, none⟩) from rfl)) rfl ?_
  refine J.op (Yd.load pl70 rfl (Cel.cell1 (Cel.ext hc e0) 3 rfl)) rfl ?_
  refine J.op (Yd.len_l Try.underlying70 rfl hrl) rfl ?_
  refine J.op (Yd.move rfl) rfl ?_
  refine J.nil ?_
  refine J.n_then ?_
  refine J.block ?_
  refine J.loop (ι := Nat × Value) (fun i => [(10, s), (11, I (ll.length : Int)), (12, I (i.1 : Int)), (2, i.2)]) (fun i w' => i.1 ≤ ll.length ∧ Ow w.heap.size 3 w' i.2 ((missK ll i.1).map fun x => I x) ∧ Fr w.heap.size (i.2).ownBlock ∧ Ext w w') (fun i => ll.length - i.1) ((0, nilS)) ⟨rfl, rfl, rfl, rfl, trivial⟩ (⟨Nat.zero_le _, (Ow.nilM _ _ _ _), Fr.nil, e0⟩) ?_
  rintro ⟨i, vo⟩ w1 ⟨hk, ho, fr_vo, e0⟩
  dsimp only at *
  have hmk := missK_len ll i
  refine J.seq ?_
  refine J.region ?_
  refine J.op (Yd.lss rfl rfl) rfl ?_
  refine J.nil ?_
  refine J.n_then ?_
  refine J.seq ?_
  refine J.cond_dec rfl (fun hc1 => ?_) (fun hc1 => ?_)
  · skip
    refine J.skip ?_
    refine J.n_then ?_
    refine J.seq ?_
    refine J.block ?_
    refine J.seq ?_
    refine J.region ?_
    refine J.op (Yd.move rfl) rfl ?_
    refine J.op (Yd.idx_l Try.underlying70 ti22 rfl rfl (Rl.ext hrl e0) (by first | omega | exact idx_u8' _ | (simp only [Int.toNat_natCast]; omega) | (simp only [List.length_map, List.length_drop, List.length_take, List.length_append, List.length_replicate]; omega) | (simp <;> omega))) rfl ?_
    refine J.op (Yd.load pl22 rfl (Rl.cell (Rl.ext hrl e0) (by first | omega | exact idx_u8' _ | (simp only [Int.toNat_natCast]; omega) | (simp only [List.length_map, List.length_drop, List.length_take, List.length_append, List.length_replicate]; omega) | (simp <;> omega)))) rfl ?_
    refine J.op (Yd.assign rfl) rfl ?_
    refine J.op (Yd.assign rfl) rfl ?_
    refine J.nil ?_
    refine J.n_then ?_
    refine J.seq ?_
    refine J.region ?_
    refine J.op (Yd.move rfl) rfl ?_
    refine J.op (Yd.eqNil Try.underlying22 rfl rfl (Rl.at' (Rl.ext hrl e0) (by first | omega | exact idx_u8' _ | (simp only [Int.toNat_natCast]; omega) | (simp only [List.length_map, List.length_drop, List.length_take, List.length_append, List.length_replicate]; omega) | (simp <;> omega)))) rfl ?_
    refine J.nil ?_
    refine J.n_then ?_
    refine J.cond rfl (fun hc2 => ?_) (fun hc2 => ?_)
    · skip
      refine J.region ?_
      refine J.op (Yd.move rfl) rfl ?_
      refine J.op (Yd.move rfl) rfl ?_
      refine J.eff (Ye.lit1 (base := w1.heap.size) (f := (fun x : Int => I x)) Try.underlying37 ti3 rfl rfl (fun _ => rfl) (Nat.le_refl _)) rfl ?_
      rintro s21_2 w2 ⟨o21_2, x1⟩
      have ap_vo_s21_2 : Ap vo.ownBlock s21_2.ownBlock := Ap.mk (Ow.live ho) (Ow.fr o21_2)
      have fr_s21_2 : Fr w.heap.size s21_2.ownBlock := Fr.le (Ow.fr o21_2) e0.size
      replace o21_2 := Ow.base o21_2 e0.size
      have e0 := e0.trans x1
      have ho := ho.ext x1
      clear x1
      refine J.eff (Ye.appendS Try.underlying37 ti3 rfl rfl rfl rfl ho (Ow.rd o21_2) (fun _ => rfl) (by first | omega | exact idx_u8' _ | (simp only [Int.toNat_natCast]; omega) | (simp only [List.length_map, List.length_drop, List.length_take, List.length_append, List.length_replicate]; omega) | (simp <;> omega)) e0.size) rfl ?_
      rintro s22_3 w3 ⟨o22_3, hg, hsf⟩
      have ap_s21_2_s22_3 : Ap s21_2.ownBlock s22_3.ownBlock := Ap.sf (Ap.symm ap_vo_s21_2) (Ow.live o21_2) hsf
      have fr_s22_3 : Fr w.heap.size s22_3.ownBlock := Fr.sf fr_vo hsf e0.size
      have o21_2 := Ow.gbk o21_2 hg (Ap.symm ap_vo_s21_2)
      have e0 := Ext.gbk e0 fr_vo hg
      clear hg hsf
      refine J.op (Yd.assign rfl) rfl ?_
      refine J.nil ?_
      refine J.n_block ?_
      refine J.n_then ?_
      refine J.region ?_
      refine J.op (Yd.add rfl rfl (by first | omega | exact idx_u8' _ | (simp only [Int.toNat_natCast]; omega) | (simp only [List.length_map, List.length_drop, List.length_take, List.length_append, List.length_replicate]; omega) | (simp <;> omega))) rfl ?_
      refine J.op (Yd.move rfl) rfl ?_
      refine J.nil ?_
      refine J.n_then ?_
      exact J.round ((i + 1, s22_3)) ⟨rfl, rfl, rfl, rfl, trivial⟩ (⟨by show i + 1 ≤ ll.length; omega, (by rw [Int.toNat_natCast, he.nil (by omega)] at hc2; rw [missK_succ, if_pos (of_decide_eq_true hc2)]; exact o22_3), fr_s22_3, e0⟩) (by show ll.length - (i + 1) < ll.length - i; omega)
    · skip
      refine J.skip ?_
      refine J.n_block ?_
      refine J.n_then ?_
      refine J.region ?_
      refine J.op (Yd.add rfl rfl (by first | omega | exact idx_u8' _ | (simp only [Int.toNat_natCast]; omega) | (simp only [List.length_map, List.length_drop, List.length_take, List.length_append, List.length_replicate]; omega) | (simp <;> omega))) rfl ?_
      refine J.op (Yd.move rfl) rfl ?_
      refine J.nil ?_
      refine J.n_then ?_
      exact J.round ((i + 1, vo)) ⟨rfl, rfl, rfl, rfl, trivial⟩ (⟨by show i + 1 ≤ ll.length; omega, (by rw [Int.toNat_natCast, he.nil (by omega)] at hc2; rw [missK_succ, if_neg (by simpa using hc2), List.append_nil]; exact ho), fr_vo, e0⟩) (by show ll.length - (i + 1) < ll.length - i; omega)
  · skip
    refine J.exit ?_
    refine J.x_then ?_
    refine J.x_then ?_
    refine J.x_block ?_
    refine J.n_then ?_
    refine J.seq ?_
    refine J.region ?_
    refine J.op (Yd.move rfl) rfl ?_
    refine J.op (Yd.assign rfl) rfl ?_
    refine J.nil ?_
    refine J.n_then ?_
    refine J.ret ?_
    exact J.ret1 rfl rfl (⟨_, rfl, (by rw [show i = ll.length by omega] at ho; exact ho), e0⟩)

theorem Miss2_ok {b : Nat} {s : Value} {vs : List Value} {ll : List (List UInt8)} {id size len : Int} {rs : List (Option Nat)} {w : World} (hB : BxN id size len ll.length) (hc : Cel w b 76 [(0, 1, [I id]), (1, 1, [I size]), (2, 1, [I len]), (3, 1, [s])]) (he : Els rs w vs ll) (hr : Rd w s vs) : C Try.prog 18 [.pointer (some ⟨b, 0, none⟩)] w (Ret fun u w' => Ow w.heap.size 3 w' u ((missL ll).map fun x => I x) ∧ Ext w w') := by
  have hrl := he.rl hr
  have hn1 := hB.n1
  have hvl := he.len
  have e0 := Ext.refl w
  refine C.enter Try.func18 rfl Try.ntmps18 rfl ?_
  refine J.seq ?_
  refine J.region ?_
  refine J.op (Yd.assign rfl) rfl ?_
  refine J.nil ?_
  refine J.n_then ?_
  refine J.seq ?_
  refine J.region ?_
  refine J.op (Yd.assign rfl) rfl ?_
  refine J.nil ?_
  refine J.n_then ?_
  refine J.seq ?_
  refine J.seq ?_
  refine J.region ?_
  refine J.op (Yd.assign rfl) rfl ?_
  refine J.nil ?_
  refine J.n_then ?_
  refine J.block ?_
  refine J.loop (ι := Nat × Value) (fun i => [(4, I (i.1 : Int)), (0, .pointer (some ⟨b, 0, none⟩)), (3, i.2)]) (fun i w' => i.1 ≤ ll.length ∧ Ow w.heap.size 3 w' i.2 ((missK ll i.1).map fun x => I x) ∧ Fr w.heap.size (i.2).ownBlock ∧ Ext w w') (fun i => ll.length - i.1) ((0, nilS)) ⟨rfl, rfl, rfl, trivial⟩ (⟨Nat.zero_le _, (Ow.nilM _ _ _ _), Fr.nil, e0⟩) ?_
  rintro ⟨i, vo⟩ w1 ⟨hk, ho, fr_vo, e0⟩
  dsimp only at *
  have hmk := missK_len ll i
  refine J.seq ?_
  refine J.seq ?_
  refine J.region ?_
  refine J.op (Yd.move rfl) rfl ?_
  refine J.op (Yd.move rfl) rfl ?_
  refine J.op (Yd.nilCheck rfl) rfl ?_
  refine J.op (Yd.cast (Yd.fieldA Try.underlying76 rfl ti70 rfl rfl) (show _ = Value.pointer (some ⟨b, 3, none⟩) from rfl)) rfl ?_
  refine J.op (Yd.load pl70 rfl (Cel.cell1 (Cel.ext hc e0) 3 rfl)) rfl ?_
  refine J.op (Yd.len_l Try.underlying70 rfl (Rl.ext hrl e0)) rfl ?_
  refine J.op (Yd.lss rfl rfl) rfl ?_
  refine J.nil ?_
  refine J.n_then ?_
  refine J.cond_dec rfl (fun hc1 => ?_) (fun hc1 => ?_)
  · skip
    refine J.skip ?_
    refine J.n_then ?_
    refine J.seq ?_
    refine J.block ?_
    refine J.seq ?_
    refine J.region ?_
    refine J.op (Yd.move rfl) rfl ?_
    refine J.op (Yd.nilCheck rfl) rfl ?_
    refine J.op (Yd.cast (Yd.fieldA Try.underlying76 rfl ti70 rfl rfl) (show _ = Value.pointer (some ⟨b, 3, none⟩) from rfl)) rfl ?_
    refine J.op (Yd.load pl70 rfl (Cel.cell1 (Cel.ext hc e0) 3 rfl)) rfl ?_
    refine J.op (Yd.move rfl) rfl ?_
    refine J.op (Yd.idx_l Try.underlying70 ti22 rfl rfl (Rl.ext hrl e0) (by first | omega | exact idx_u8' _ | (simp only [Int.toNat_natCast]; omega) | (simp only [List.length_map, List.length_drop, List.length_take, List.length_append, List.length_replicate]; omega) | (simp <;> omega))) rfl ?_
    refine J.op (Yd.load pl22 rfl (Rl.cell (Rl.ext hrl e0) (by first | omega | exact idx_u8' _ | (simp only [Int.toNat_natCast]; omega) | (simp only [List.length_map, List.length_drop, List.length_take, List.length_append, List.length_replicate]; omega) | (simp <;> omega)))) rfl ?_
    refine J.op (Yd.eqNil Try.underlying22 rfl rfl (Rl.at' (Rl.ext hrl e0) (by first | omega | exact idx_u8' _ | (simp only [Int.toNat_natCast]; omega) | (simp only [List.length_map, List.length_drop, List.length_take, List.length_append, List.length_replicate]; omega) | (simp <;> omega)))) rfl ?_
    refine J.nil ?_
    refine J.n_then ?_
    refine J.cond rfl (fun hc2 => ?_) (fun hc2 => ?_)
    · skip
      refine J.region ?_
      refine J.op (Yd.move rfl) rfl ?_
      refine J.op (Yd.move rfl) rfl ?_
      refine J.eff (Ye.lit1 (base := w1.heap.size) (f := (fun x : Int => I x)) Try.underlying37 ti3 rfl rfl (fun _ => rfl) (Nat.le_refl _)) rfl ?_
      rintro s24_2 w2 ⟨o24_2, x1⟩
      have ap_vo_s24_2 : Ap vo.ownBlock s24_2.ownBlock := Ap.mk (Ow.live ho) (Ow.fr o24_2)
      have fr_s24_2 : Fr w.heap.size s24_2.ownBlock := Fr.le (Ow.fr o24_2) e0.size
      replace o24_2 := Ow.base o24_2 e0.size
      have e0 := e0.trans x1
      have ho := ho.ext x1
      clear x1
      refine J.eff (Ye.appendS Try.underlying37 ti3 rfl rfl rfl rfl ho (Ow.rd o24_2) (fun _ => rfl) (by first | omega | exact idx_u8' _ | (simp only [Int.toNat_natCast]; omega) | (simp only [List.length_map, List.length_drop, List.length_take, List.length_append, List.length_replicate]; omega) | (simp <;> omega)) e0.size) rfl ?_
      rintro s25_3 w3 ⟨o25_3, hg, hsf⟩
      have ap_s24_2_s25_3 : Ap s24_2.ownBlock s25_3.ownBlock := Ap.sf (Ap.symm ap_vo_s24_2) (Ow.live o24_2) hsf
      have fr_s25_3 : Fr w.heap.size s25_3.ownBlock := Fr.sf fr_vo hsf e0.size
      have o24_2 := Ow.gbk o24_2 hg (Ap.symm ap_vo_s24_2)
      have e0 := Ext.gbk e0 fr_vo hg
      clear hg hsf
      refine J.op (Yd.assign rfl) rfl ?_
      refine J.nil ?_
      refine J.n_block ?_
      refine J.n_then ?_
      refine J.region ?_
      refine J.op (Yd.move rfl) rfl ?_
      refine J.op (Yd.add rfl rfl (by first | omega | exact idx_u8' _ | (simp only [Int.toNat_natCast]; omega) | (simp only [List.length_map, List.length_drop, List.length_take, List.length_append, List.length_replicate]; omega) | (simp <;> omega))) rfl ?_
      refine J.op (Yd.assign rfl) rfl ?_
      refine J.nil ?_
      refine J.n_then ?_
      exact J.round ((i + 1, s25_3)) ⟨rfl, rfl, rfl, trivial⟩ (⟨by show i + 1 ≤ ll.length; omega, (by rw [Int.toNat_natCast, he.nil (by omega)] at hc2; rw [missK_succ, if_pos (of_decide_eq_true hc2)]; exact o25_3), fr_s25_3, e0⟩) (by show ll.length - (i + 1) < ll.length - i; omega)
    · skip
      refine J.skip ?_
      refine J.n_block ?_
      refine J.n_then ?_
      refine J.region ?_
      refine J.op (Yd.move rfl) rfl ?_
      refine J.op (Yd.add rfl rfl (by first | omega | exact idx_u8' _ | (simp only [Int.toNat_natCast]; omega) | (simp only [List.length_map, List.length_drop, List.length_take, List.length_append, List.length_replicate]; omega) | (simp <;> omega))) rfl ?_
      refine J.op (Yd.assign rfl) rfl ?_
      refine J.nil ?_
      refine J.n_then ?_
      exact J.round ((i + 1, vo)) ⟨rfl, rfl, rfl, trivial⟩ (⟨by show i + 1 ≤ ll.length; omega, (by rw [Int.toNat_natCast, he.nil (by omega)] at hc2; rw [missK_succ, if_neg (by simpa using hc2), List.append_nil]; exact ho), fr_vo, e0⟩) (by show ll.length - (i + 1) < ll.length - i; omega)
  · skip
    refine J.exit ?_
    refine J.x_then ?_
    refine J.x_then ?_
    refine J.x_block ?_
    refine J.n_then ?_
    refine J.seq ?_
    refine J.region ?_
    refine J.op (Yd.move rfl) rfl ?_
    refine J.op (Yd.assign rfl) rfl ?_
    refine J.nil ?_
    refine J.n_then ?_
    refine J.ret ?_
    exact J.ret1 rfl rfl (⟨_, rfl, (by rw [show i = ll.length by omega] at ho; exact ho), e0⟩)

theorem Done_yes {b : Nat} {s : Value} {vs : List Value} {ll : List (List UInt8)} {id size len : Int} {rs : List (Option Nat)} {w : World} (hB : BxN id size len ll.length) (hc : Cel w b 72 [(0, 1, [I id]), (1, 1, [I size]), (2, 1, [I len]), (3, 1, [s])]) (he : Els rs w vs ll) (hr : Rd w s vs) (hml : missL ll = []) (hfl : ll.flatten.length ≤ 100000) : C Try.prog 10 [.pointer (some ⟨b, 0, none⟩)] w (Ret fun u w' => ∃ v, u = .tuple #[v, .bool true] ∧ Ob w.heap.size 5 w' v ll.flatten ∧ Ext w w') := by
  have hrl := he.rl hr
  have hn1 := hB.n1
  have hvl := he.len
  have e0 := Ext.refl w
  refine C.enter Try.func10 rfl Try.ntmps10 rfl ?_
  refine J.seq ?_
  refine J.region ?_
  refine J.op (Yd.assign rfl) rfl ?_
  refine J.op (Yd.assign rfl) rfl ?_
  refine J.nil ?_
  refine J.n_then ?_
  refine J.seq ?_
  refine J.seq ?_
  refine J.region ?_
  refine J.op (Yd.move rfl) rfl ?_
  refine J.op (Yd.cast (Yd.eqPn Try.underlying32 rfl rfl) (show _ = Value.bool false from rfl)) rfl ?_
  refine J.op (Yd.move rfl) rfl ?_
  refine J.op_g rfl rfl rfl (Yd.move rfl) rfl ?_
  refine J.op_g rfl rfl rfl (Yd.nilCheck rfl) rfl ?_
  refine J.op_g rfl rfl rfl (Yd.cast (Yd.fieldA Try.underlying72 rfl ti70 rfl rfl) (show _ = Value.pointer (some ⟨b, 3, none⟩) from rfl)) rfl ?_
  refine J.op_g rfl rfl rfl (Yd.load pl70 rfl (Cel.cell1 (Cel.ext hc e0) 3 rfl)) rfl ?_
  refine J.op_g rfl rfl rfl (Yd.len_l Try.underlying70 rfl hrl) rfl ?_
  refine J.op_g rfl rfl rfl (Yd.eql rfl rfl) rfl ?_
  refine J.op (Yd.pick_f rfl rfl) rfl ?_
  refine J.op (Yd.move rfl) rfl ?_
  refine J.know (t := 14) (v' := .bool false) rfl (ff (by omega)) ?_
  refine J.op_g rfl rfl rfl (Yd.move rfl) rfl ?_
  refine J.eff_g rfl rfl rfl (Ye.call cl13 rfl (Miss1_ok hB (hc.ext e0) (he.ext e0) (hr.ext e0))) rfl ?_
  rintro v16_1 w1 ⟨ov16_1, x1⟩
  have fr_v16_1 : Fr w.heap.size v16_1.ownBlock := Fr.le (Ow.fr ov16_1) e0.size
  replace ov16_1 := Ow.base ov16_1 e0.size
  have e0 := e0.trans x1
  clear x1
  refine J.op_g rfl rfl rfl (Yd.len_m Try.underlying37 rfl (Ow.rd ov16_1)) rfl ?_
  refine J.op_g rfl rfl rfl (Yd.gtr rfl rfl) rfl ?_
  refine J.op (Yd.pick_f rfl rfl) rfl ?_
  refine J.nil ?_
  refine J.n_then ?_
  refine J.know (t := 19) (v' := .bool false) rfl (ff (by rw [hml]; decide)) ?_
  refine J.cond_false rfl ?_
  refine J.skip ?_
  refine J.n_then ?_
  refine J.seq ?_
  refine J.region ?_
  refine J.op (Yd.move rfl) rfl ?_
  refine J.op (Yd.nilCheck rfl) rfl ?_
  refine J.op (Yd.cast (Yd.fieldA Try.underlying72 rfl ti70 rfl rfl) (show _ = Value.pointer (some ⟨b, 3, none⟩) from rfl)) rfl ?_
  refine J.op (Yd.load pl70 rfl (Cel.cell1 (Cel.ext hc e0) 3 rfl)) rfl ?_
  refine J.eff (Ye.call cl30 rfl (Cat_ok (hrl.ext e0) (by omega))) rfl ?_
  rintro s24_2 w2 ⟨os24_2, x1⟩
  have ap_v16_1_s24_2 : Ap v16_1.ownBlock s24_2.ownBlock := Ap.mk (Ow.live ov16_1) (Ow.fr os24_2)
  have fr_s24_2 : Fr w.heap.size s24_2.ownBlock := Fr.le (Ow.fr os24_2) e0.size
  replace os24_2 := Ow.base os24_2 e0.size
  have e0 := e0.trans x1
  have ov16_1 := ov16_1.ext x1
  clear x1
  refine J.op (Yd.assign rfl) rfl ?_
  refine J.op (Yd.assign rfl) rfl ?_
  refine J.nil ?_
  refine J.n_then ?_
  refine J.ret ?_
  exact J.ret2 rfl rfl rfl (⟨_, rfl, s24_2, rfl, os24_2, e0⟩)

theorem Done_no {b : Nat} {s : Value} {vs : List Value} {ll : List (List UInt8)} {id size len : Int} {rs : List (Option Nat)} {w : World} (hB : BxN id size len ll.length) (hc : Cel w b 72 [(0, 1, [I id]), (1, 1, [I size]), (2, 1, [I len]), (3, 1, [s])]) (he : Els rs w vs ll) (hr : Rd w s vs) (hml : missL ll ≠ []) : C Try.prog 10 [.pointer (some ⟨b, 0, none⟩)] w (Ret fun v w' => v = .tuple #[nilS, .bool false] ∧ Ext w w') := by
  have hrl := he.rl hr
  have hn1 := hB.n1
  have hvl := he.len
  have e0 := Ext.refl w
  refine C.enter Try.func10 rfl Try.ntmps10 rfl ?_
  refine J.seq ?_
  refine J.region ?_
  refine J.op (Yd.assign rfl) rfl ?_
  refine J.op (Yd.assign rfl) rfl ?_
  refine J.nil ?_
  refine J.n_then ?_
  refine J.seq ?_
  refine J.seq ?_
  refine J.region ?_
  refine J.op (Yd.move rfl) rfl ?_
  refine J.op (Yd.cast (Yd.eqPn Try.underlying32 rfl rfl) (show _ = Value.bool false from rfl)) rfl ?_
  refine J.op (Yd.move rfl) rfl ?_
  refine J.op_g rfl rfl rfl (Yd.move rfl) rfl ?_
  refine J.op_g rfl rfl rfl (Yd.nilCheck rfl) rfl ?_
  refine J.op_g rfl rfl rfl (Yd.cast (Yd.fieldA Try.underlying72 rfl ti70 rfl rfl) (show _ = Value.pointer (some ⟨b, 3, none⟩) from rfl)) rfl ?_
  refine J.op_g rfl rfl rfl (Yd.load pl70 rfl (Cel.cell1 (Cel.ext hc e0) 3 rfl)) rfl ?_
  refine J.op_g rfl rfl rfl (Yd.len_l Try.underlying70 rfl hrl) rfl ?_
  refine J.op_g rfl rfl rfl (Yd.eql rfl rfl) rfl ?_
  refine J.op (Yd.pick_f rfl rfl) rfl ?_
  refine J.op (Yd.move rfl) rfl ?_
  refine J.know (t := 14) (v' := .bool false) rfl (ff (by omega)) ?_
  refine J.op_g rfl rfl rfl (Yd.move rfl) rfl ?_
  refine J.eff_g rfl rfl rfl (Ye.call cl13 rfl (Miss1_ok hB (hc.ext e0) (he.ext e0) (hr.ext e0))) rfl ?_
  rintro v16_1 w1 ⟨ov16_1, x1⟩
  have fr_v16_1 : Fr w.heap.size v16_1.ownBlock := Fr.le (Ow.fr ov16_1) e0.size
  replace ov16_1 := Ow.base ov16_1 e0.size
  have e0 := e0.trans x1
  clear x1
  refine J.op_g rfl rfl rfl (Yd.len_m Try.underlying37 rfl (Ow.rd ov16_1)) rfl ?_
  refine J.op_g rfl rfl rfl (Yd.gtr rfl rfl) rfl ?_
  refine J.op (Yd.pick_f rfl rfl) rfl ?_
  refine J.nil ?_
  refine J.n_then ?_
  refine J.know (t := 19) (v' := .bool true) rfl (tt (by have := List.length_pos_iff.2 hml; omega)) ?_
  refine J.cond_true rfl ?_
  refine J.seq ?_
  refine J.region ?_
  refine J.op (Yd.assign rfl) rfl ?_
  refine J.op (Yd.assign rfl) rfl ?_
  refine J.nil ?_
  refine J.n_then ?_
  refine J.ret ?_
  refine J.r_then ?_
  exact J.ret2 rfl rfl rfl (⟨_, rfl, rfl, e0⟩)

theorem All_bx {b : Nat} {s : Value} {vs : List Value} {ll : List (List UInt8)} {id size len : Int} {rs : List (Option Nat)} {w : World} (hB : BxN id size len ll.length) (hc : Cel w b 76 [(0, 1, [I id]), (1, 1, [I size]), (2, 1, [I len]), (3, 1, [s])]) (he : Els rs w vs ll) (hr : Rd w s vs) (hfl : ll.flatten.length ≤ 100000) : C Try.prog 19 [.pointer (some ⟨b, 0, none⟩)] w (Ret fun v w' => Ob w.heap.size 5 w' v ll.flatten ∧ Ext w w') := by
  have hrl := he.rl hr
  have hn1 := hB.n1
  have hvl := he.len
  have e0 := Ext.refl w
  refine C.enter Try.func19 rfl Try.ntmps19 rfl ?_
  refine J.seq ?_
  refine J.region ?_
  refine J.op (Yd.assign rfl) rfl ?_
  refine J.nil ?_
  refine J.n_then ?_
  refine J.seq ?_
  refine J.region ?_
  refine J.op (Yd.assign rfl) rfl ?_
  refine J.nil ?_
  refine J.n_then ?_
  refine J.seq ?_
  refine J.seq ?_
  refine J.region ?_
  refine J.op (Yd.assign rfl) rfl ?_
  refine J.nil ?_
  refine J.n_then ?_
  refine J.block ?_
  refine J.loop (ι := Nat × Value) (fun i => [(4, I (i.1 : Int)), (0, .pointer (some ⟨b, 0, none⟩)), (3, i.2)]) (fun i w' => i.1 ≤ ll.length ∧ Ob w.heap.size 5 w' i.2 ((ll.take i.1).flatten) ∧ Fr w.heap.size (i.2).ownBlock ∧ Ext w w') (fun i => ll.length - i.1) ((0, nilS)) ⟨rfl, rfl, rfl, trivial⟩ (⟨Nat.zero_le _, (Ow.nil _ _ _), Fr.nil, e0⟩) ?_
  rintro ⟨i, vo⟩ w1 ⟨hk, ho, fr_vo, e0⟩
  dsimp only at *
  have hfx := flat_le ll i
  refine J.seq ?_
  refine J.seq ?_
  refine J.region ?_
  refine J.op (Yd.move rfl) rfl ?_
  refine J.op (Yd.move rfl) rfl ?_
  refine J.op (Yd.nilCheck rfl) rfl ?_
  refine J.op (Yd.cast (Yd.fieldA Try.underlying76 rfl ti70 rfl rfl) (show _ = Value.pointer (some ⟨b, 3, none⟩) from rfl)) rfl ?_
  refine J.op (Yd.load pl70 rfl (Cel.cell1 (Cel.ext hc e0) 3 rfl)) rfl ?_
  refine J.op (Yd.len_l Try.underlying70 rfl (Rl.ext hrl e0)) rfl ?_
  refine J.op (Yd.lss rfl rfl) rfl ?_
  refine J.nil ?_
  refine J.n_then ?_
  refine J.cond_dec rfl (fun hc1 => ?_) (fun hc1 => ?_)
  · skip
    have hft := flat_step ll i (by omega)
    have hfx2 := flat_le ll (i + 1)
    refine J.skip ?_
    refine J.n_then ?_
    refine J.seq ?_
    refine J.block ?_
    refine J.region ?_
    refine J.op (Yd.move rfl) rfl ?_
    refine J.op (Yd.move rfl) rfl ?_
    refine J.op (Yd.nilCheck rfl) rfl ?_
    refine J.op (Yd.cast (Yd.fieldA Try.underlying76 rfl ti70 rfl rfl) (show _ = Value.pointer (some ⟨b, 3, none⟩) from rfl)) rfl ?_
    refine J.op (Yd.load pl70 rfl (Cel.cell1 (Cel.ext hc e0) 3 rfl)) rfl ?_
    refine J.op (Yd.move rfl) rfl ?_
    refine J.op (Yd.idx_l Try.underlying70 ti22 rfl rfl (Rl.ext hrl e0) (by first | omega | exact idx_u8' _ | (simp only [Int.toNat_natCast]; omega) | (simp only [List.length_map, List.length_drop, List.length_take, List.length_append, List.length_replicate]; omega) | (simp <;> omega))) rfl ?_
    refine J.op (Yd.load pl22 rfl (Rl.cell (Rl.ext hrl e0) (by first | omega | exact idx_u8' _ | (simp only [Int.toNat_natCast]; omega) | (simp only [List.length_map, List.length_drop, List.length_take, List.length_append, List.length_replicate]; omega) | (simp <;> omega)))) rfl ?_
    refine J.eff (Ye.appendS Try.underlying22 ti5 rfl rfl rfl rfl ho (Rl.at' (Rl.ext hrl e0) (by first | omega | exact idx_u8' _ | (simp only [Int.toNat_natCast]; omega) | (simp only [List.length_map, List.length_drop, List.length_take, List.length_append, List.length_replicate]; omega) | (simp <;> omega))) (fun _ => rfl) (by rw [Int.toNat_natCast]; omega) e0.size) rfl ?_
    rintro s22_2 w2 ⟨o22_2, hg, hsf⟩
    have fr_s22_2 : Fr w.heap.size s22_2.ownBlock := Fr.sf fr_vo hsf e0.size
    have e0 := Ext.gbk e0 fr_vo hg
    clear hg hsf
    refine J.op (Yd.assign rfl) rfl ?_
    refine J.nil ?_
    refine J.n_block ?_
    refine J.n_then ?_
    refine J.region ?_
    refine J.op (Yd.move rfl) rfl ?_
    refine J.op (Yd.add rfl rfl (by first | omega | exact idx_u8' _ | (simp only [Int.toNat_natCast]; omega) | (simp only [List.length_map, List.length_drop, List.length_take, List.length_append, List.length_replicate]; omega) | (simp <;> omega))) rfl ?_
    refine J.op (Yd.assign rfl) rfl ?_
    refine J.nil ?_
    refine J.n_then ?_
    exact J.round ((i + 1, s22_2)) ⟨rfl, rfl, rfl, trivial⟩ (⟨by show i + 1 ≤ ll.length; omega, (by have h9 := o22_2; rw [Int.toNat_natCast, List.getD_eq_getElem?_getD, List.getElem?_eq_getElem (show i < ll.length by omega)] at h9; rw [List.take_succ_eq_append_getElem (show i < ll.length by omega), List.flatten_append, List.flatten_singleton]; exact h9), fr_s22_2, e0⟩) (by show ll.length - (i + 1) < ll.length - i; omega)
  · skip
    refine J.exit ?_
    refine J.x_then ?_
    refine J.x_then ?_
    refine J.x_block ?_
    refine J.n_then ?_
    refine J.seq ?_
    refine J.region ?_
    refine J.op (Yd.move rfl) rfl ?_
    refine J.op (Yd.assign rfl) rfl ?_
    refine J.nil ?_
    refine J.n_then ?_
    refine J.ret ?_
    exact J.ret1 rfl rfl (⟨_, rfl, (by rw [show i = ll.length by omega, List.take_length] at ho; exact ho), e0⟩)
end Ytghklimejpmpnaa
end Go.Proofs
