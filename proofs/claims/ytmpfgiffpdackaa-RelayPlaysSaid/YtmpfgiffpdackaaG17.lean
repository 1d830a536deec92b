import Derived.Test.YtmpfgiffpdackaaT
import Derived.Test.YtmpfgiffpdackaaG11
import Derived.Test.YtmpfgiffpdackaaQ4
set_option linter.unusedVariables false
set_option linter.unusedSimpArgs false
set_option maxRecDepth 100000
set_option maxHeartbeats 4000000
namespace Go.Proofs
open Go.X Go.RowKit
namespace Ytmpfgiffpdackaa
theorem NewR_ok {t : Int} {w : World} : C Try.prog 17 [I t] w (Ret fun u w' => ∃ b, u = .pointer (some ⟨b, 0, none⟩) ∧ w.heap.size ≤ b ∧ Cel w' b 52 [(0, 1, [I (exI t)]), (1, 1, [I 0]), (2, 1, [I 0]), (3, 1, [nilS])] ∧ Ext w w') := by
  have e0 := Ext.refl w
  refine C.enter Try.func17 rfl Try.ntmps17 rfl ?_
  refine J.seq ?_
  refine J.region ?_
  refine J.op (Yd.assign rfl) rfl ?_
  refine J.nil ?_
  refine J.n_then ?_
  refine J.seq ?_
  refine J.region ?_
  refine J.op (Yd.move rfl) rfl ?_
  refine J.op (Yd.maxi rfl rfl) rfl ?_
  refine J.op (Yd.cast (Yd.mini rfl rfl) (show _ = I (exI t) from rfl)) rfl ?_
  refine J.op (Yd.cast (Yd.buildS (cells := #[I (exI t), I 0, I 0, nilS]) (pl := [(0, 1), (1, 1), (2, 1), (3, 1)]) Try.underlying52 (by kernel_rfl) ti52 rfl (by rfl)) (show _ = Value.agg #[I (exI t), I 0, I 0, nilS] from rfl)) rfl ?_
  refine J.eff (Ye.box (S := [(0, 1, [I (exI t)]), (1, 1, [I 0]), (2, 1, [I 0]), (3, 1, [nilS])]) rfl (by simp [SegAll, SegOK, Value.cells, nilS])) rfl ?_
  rintro _ w1 ⟨b7_0, rfl, hb_, c7_0, x1⟩
  have fr_b7_0 : Fr w.heap.size (some b7_0) := Fr.le (Fr.blk hb_) e0.size
  have e0 := e0.trans x1
  clear x1 hb_
  refine J.op (Yd.assign rfl) rfl ?_
  refine J.nil ?_
  refine J.n_then ?_
  refine J.ret ?_
  exact J.ret1 rfl rfl (⟨_, rfl, b7_0, rfl, fr_b7_0 _ rfl, c7_0, e0⟩)

theorem in_no {ids : List Int} {x : Int} (h : ∀ j, j < ids.length → ids.getD j 0 ≠ x) : false = decide (x ∈ ids) := (decide_eq_false fun hx => by
  obtain ⟨j, hj, e⟩ := List.getElem_of_mem hx
  exact h j hj (by rw [List.getD_eq_getElem?_getD, List.getElem?_eq_getElem hj]; exact e)).symm
theorem in_yes {ids : List Int} {x : Int} {k : Nat} (hk : k < ids.length) (h : ids.getD k 0 = x) : true = decide (x ∈ ids) := (decide_eq_true (by
  rw [List.getD_eq_getElem?_getD, List.getElem?_eq_getElem hk] at h
  rw [← h]; exact List.getElem_mem hk)).symm

theorem RIn_ok {s : Value} {ids : List Int} {x : Int} {w : World} (hi : Rd w s (ids.map fun x => I x)) : C Try.prog 33 [s, I x] w (Ret fun v w' => v = .bool (decide (x ∈ ids)) ∧ Ext w w') := by
  have hmi := Rd.max hi
  rw [List.length_map] at hmi
  have e0 := Ext.refl w
  refine C.enter Try.func33 rfl Try.ntmps33 rfl ?_
  refine J.seq ?_
  refine J.region ?_
  refine J.op (Yd.assign rfl) rfl ?_
  refine J.nil ?_
  refine J.n_then ?_
  refine J.seq ?_
  refine J.seq ?_
  refine J.region ?_
  refine J.op (Yd.assign rfl) rfl ?_
  refine J.nil ?_
  refine J.n_then ?_
  refine J.block ?_
  refine J.loop (ι := Nat) (fun i => [(0, s), (1, I x), (5, I (i : Int))]) (fun i w' => i ≤ ids.length ∧ (∀ j, j < i → ids.getD j 0 ≠ x) ∧ Ext w w') (fun i => ids.length - i) (0) ⟨rfl, rfl, rfl, trivial⟩ (⟨Nat.zero_le _, (fun j hj => absurd hj (Nat.not_lt_zero _)), e0⟩) ?_
  rintro k w1 ⟨hk, hno, e0⟩
  refine J.seq ?_
  refine J.seq ?_
  refine J.region ?_
  refine J.op (Yd.move rfl) rfl ?_
  refine J.op (Yd.move rfl) rfl ?_
  refine J.op (Yd.len_m Try.underlying22 rfl (Rd.ext hi e0)) rfl ?_
  refine J.op (Yd.lss rfl rfl) rfl ?_
  refine J.nil ?_
  refine J.n_then ?_
  refine J.cond_dec rfl (fun hc0 => ?_) (fun hc0 => ?_)
  · skip
    refine J.skip ?_
    refine J.n_then ?_
    refine J.seq ?_
    refine J.block ?_
    refine J.seq ?_
    refine J.region ?_
    refine J.op (Yd.move rfl) rfl ?_
    refine J.op (Yd.move rfl) rfl ?_
    refine J.op (Yd.idx_m Try.underlying22 ti3 rfl rfl (Rd.ext hi e0) (by first | omega | exact idx_u8' _ | (simp only [Int.toNat_natCast]; omega) | (simp only [List.length_map, List.length_drop, List.length_take, List.length_append, List.length_replicate]; omega) | (simp <;> omega))) rfl ?_
    refine J.op (Yd.load pl3 rfl (Rd.cellI (Rd.ext hi e0) (by first | omega | exact idx_u8' _ | (simp only [Int.toNat_natCast]; omega) | (simp only [List.length_map, List.length_drop, List.length_take, List.length_append, List.length_replicate]; omega) | (simp <;> omega)))) rfl ?_
    refine J.op (Yd.move rfl) rfl ?_
    refine J.op (Yd.eql rfl rfl) rfl ?_
    refine J.nil ?_
    refine J.n_then ?_
    refine J.cond_dec rfl (fun hc1 => ?_) (fun hc1 => ?_)
    · skip
      refine J.seq ?_
      refine J.region ?_
      refine J.op (Yd.assign rfl) rfl ?_
      refine J.nil ?_
      refine J.n_then ?_
      refine J.ret ?_
      refine J.r_block ?_
      refine J.r_then ?_
      refine J.r_then ?_
      refine J.r_block ?_
      refine J.r_then ?_
      exact J.ret1 rfl rfl (⟨_, rfl, (by first | exact congrArg Value.bool (in_no (fun j hj => hno j (by omega))) | (rw [Int.toNat_natCast] at hc1; exact congrArg Value.bool (in_yes (by omega) hc1))), e0⟩)
    · skip
      refine J.skip ?_
      refine J.n_block ?_
      refine J.n_then ?_
      refine J.region ?_
      refine J.op (Yd.move rfl) rfl ?_
      refine J.op (Yd.add rfl rfl (by first | omega | exact idx_u8' _ | (simp only [Int.toNat_natCast]; omega) | (simp only [List.length_map, List.length_drop, List.length_take, List.length_append, List.length_replicate]; omega) | (simp <;> omega))) rfl ?_
      refine J.op (Yd.assign rfl) rfl ?_
      refine J.nil ?_
      refine J.n_then ?_
      exact J.round (k + 1) ⟨rfl, rfl, rfl, trivial⟩ (⟨by omega, (fun j hj => by rcases (show j < k ∨ j = k by omega) with h | rfl; exact hno j h; rw [Int.toNat_natCast] at hc1; exact hc1), e0⟩) (by omega)
  · skip
    refine J.exit ?_
    refine J.x_then ?_
    refine J.x_then ?_
    refine J.x_block ?_
    refine J.n_then ?_
    refine J.seq ?_
    refine J.region ?_
    refine J.op (Yd.assign rfl) rfl ?_
    refine J.nil ?_
    refine J.n_then ?_
    refine J.ret ?_
    exact J.ret1 rfl rfl (⟨_, rfl, (by first | exact congrArg Value.bool (in_no (fun j hj => hno j (by omega))) | (rw [Int.toNat_natCast] at hc1; exact congrArg Value.bool (in_yes (by omega) hc1))), e0⟩)

theorem RList_ok {b : Nat} {ex now last : Int} {s : Value} {es : List Ri} {w : World} {to : Key} (hc : Cel w b 52 [(0, 1, [I ex]), (1, 1, [I now]), (2, 1, [I last]), (3, 1, [s])]) (hr : Er riS w s es) (h1 : ∀ x ∈ es, x.2.2.2.2.oneCell' = true) (hn2 : es.length ≤ 1000) : C Try.prog 22 [.pointer (some ⟨b, 0, none⟩), Str to] w (Ret fun u w' => Es riS w.heap.size 57 w' u (es.filter (toR to)) ∧ Ext w w') := by
  have hmx := Er.max hr
  have e0 := Ext.refl w
  refine C.enter Try.func22 rfl Try.ntmps22 rfl ?_
  refine J.seq ?_
  refine J.region ?_
  refine J.op (Yd.assign rfl) rfl ?_
  refine J.nil ?_
  refine J.n_then ?_
  refine J.seq ?_
  refine J.region ?_
  refine J.op (Yd.assign rfl) rfl ?_
  refine J.nil ?_
  refine J.n_then ?_
  refine J.seq ?_
  refine J.seq ?_
  refine J.region ?_
  refine J.op (Yd.assign rfl) rfl ?_
  refine J.nil ?_
  refine J.n_then ?_
  refine J.block ?_
  refine J.loop (ι := Nat × Value) (fun i => [(1, Str to), (6, I (i.1 : Int)), (0, .pointer (some ⟨b, 0, none⟩)), (5, i.2)]) (fun i w' => i.1 ≤ es.length ∧ Es riS w.heap.size 57 w' i.2 ((es.take i.1).filter (toR to)) ∧ Fr w.heap.size (i.2).ownBlock ∧ Ext w w') (fun i => es.length - i.1) ((0, nilS)) ⟨rfl, rfl, rfl, rfl, trivial⟩ (⟨Nat.zero_le _, (Es.nil _ _ _ _), Fr.nil, e0⟩) ?_
  rintro ⟨i, v5⟩ w1 ⟨hk, ho5, fr_v5, e0⟩
  dsimp only at *
  have hl9 := List.length_filter_le (toR to) (es.take i)
  rw [List.length_take] at hl9
  refine J.seq ?_
  refine J.seq ?_
  refine J.region ?_
  refine J.op (Yd.move rfl) rfl ?_
  refine J.op (Yd.move rfl) rfl ?_
  refine J.op (Yd.nilCheck rfl) rfl ?_
  refine J.op (Yd.cast (Yd.fieldA Try.underlying52 rfl ti49 rfl rfl) (show _ = Value.pointer (some ⟨b, 3, none⟩) from rfl)) rfl ?_
  refine J.op (Yd.load pl49 rfl (Cel.cell1 (Cel.ext hc e0) 3 rfl)) rfl ?_
  refine J.op (Yd.lenE (K := riS) Try.underlying49 rfl (Er.ext hr e0)) rfl ?_
  refine J.op (Yd.lss rfl rfl) rfl ?_
  refine J.nil ?_
  refine J.n_then ?_
  refine J.cond_dec rfl (fun hc0 => ?_) (fun hc0 => ?_)
  · skip
    refine J.skip ?_
    refine J.n_then ?_
    refine J.seq ?_
    refine J.block ?_
    refine J.seq ?_
    refine J.region ?_
    refine J.op (Yd.move rfl) rfl ?_
    refine J.op (Yd.nilCheck rfl) rfl ?_
    refine J.op (Yd.cast (Yd.fieldA Try.underlying52 rfl ti49 rfl rfl) (show _ = Value.pointer (some ⟨b, 3, none⟩) from rfl)) rfl ?_
    refine J.op (Yd.load pl49 rfl (Cel.cell1 (Cel.ext hc e0) 3 rfl)) rfl ?_
    refine J.op (Yd.move rfl) rfl ?_
    refine J.op (Yd.idxE (K := riS) Try.underlying49 ti57 rfl rfl (Er.ext hr e0) (by first | omega | exact idx_u8' _ | (simp only [Int.toNat_natCast]; omega) | (simp only [List.length_map, List.length_drop, List.length_take, List.length_append, List.length_replicate]; omega) | (simp <;> omega))) rfl ?_
    refine J.op (Yd.fieldE (K := riS) (Er.ext hr e0) (by omega) Try.underlying57 rfl ti9 rfl rfl) rfl ?_
    refine J.op (Yd.cast (Yd.loadFd (K := riS) riD pl9 rfl (Er.ext hr e0) (by first | omega | exact idx_u8' _ | (simp only [Int.toNat_natCast]; omega) | (simp only [List.length_map, List.length_drop, List.length_take, List.length_append, List.length_replicate]; omega) | (simp <;> omega)) rfl) (show _ = Str (es.getD (i : Int).toNat riD).2.2.1 from rfl)) rfl ?_
    refine J.op (Yd.move rfl) rfl ?_
    refine J.op (Yd.seq rfl rfl) rfl ?_
    refine J.nil ?_
    refine J.n_then ?_
    refine J.cond_dec rfl (fun hc1 => ?_) (fun hc1 => ?_)
    · skip
      rw [Int.toNat_natCast] at hc1
      refine J.region ?_
      refine J.op (Yd.move rfl) rfl ?_
      refine J.op (Yd.move rfl) rfl ?_
      refine J.op (Yd.nilCheck rfl) rfl ?_
      refine J.op (Yd.cast (Yd.fieldA Try.underlying52 rfl ti49 rfl rfl) (show _ = Value.pointer (some ⟨b, 3, none⟩) from rfl)) rfl ?_
      refine J.op (Yd.load pl49 rfl (Cel.cell1 (Cel.ext hc e0) 3 rfl)) rfl ?_
      refine J.op (Yd.move rfl) rfl ?_
      refine J.op (Yd.idxE (K := riS) Try.underlying49 ti57 rfl rfl (Er.ext hr e0) (by first | omega | exact idx_u8' _ | (simp only [Int.toNat_natCast]; omega) | (simp only [List.length_map, List.length_drop, List.length_take, List.length_append, List.length_replicate]; omega) | (simp <;> omega))) rfl ?_
      refine J.op (Yd.cast (Yd.loadEd (K := riS) riD ag57 ti57 rfl (Er.ext hr e0) (by first | omega | exact idx_u8' _ | (simp only [Int.toNat_natCast]; omega) | (simp only [List.length_map, List.length_drop, List.length_take, List.length_append, List.length_replicate]; omega) | (simp <;> omega))) (show _ = Value.agg (riS.c (es.getD i riD)).toArray by rw [Int.toNat_natCast])) rfl ?_
      refine J.eff (Ye.litE1 (K := riS) (u := (es.getD i riD)) (base := w1.heap.size) Try.underlying49 ti57 rfl rfl rfl (Nat.le_refl _)) rfl ?_
      rintro sl w2 ⟨hsl, x1⟩
      have ap_v5_sl : Ap v5.ownBlock sl.ownBlock := Ap.mk (Es.live ho5) (Es.fr hsl)
      have fr_sl : Fr w.heap.size sl.ownBlock := Fr.le (Es.fr hsl) e0.size
      replace hsl := Es.base hsl (Nat.zero_le _)
      have e0 := e0.trans x1
      have ho5 := ho5.ext x1
      clear x1
      refine J.eff (Ye.appendE (K := riS) Try.underlying49 ti57 rfl rfl rfl rfl ho5 (Es.rd hsl) (ri_one (fun x hx => by rw [List.mem_singleton] at hx; subst hx; exact h1 _ (getD_memE riD (by omega)))) (by simp only [List.length_singleton]; omega) e0.size) rfl ?_
      rintro sB w3 ⟨hsB, hg, hsf⟩
      have ap_sl_sB : Ap sl.ownBlock sB.ownBlock := Ap.sf (Ap.symm ap_v5_sl) (Es.live hsl) hsf
      have fr_sB : Fr w.heap.size sB.ownBlock := Fr.sf fr_v5 hsf e0.size
      have e0 := Ext.gbk e0 fr_v5 hg
      clear hg hsf
      refine J.op (Yd.assign rfl) rfl ?_
      refine J.nil ?_
      refine J.n_block ?_
      refine J.n_then ?_
      refine J.region ?_
      refine J.op (Yd.move rfl) rfl ?_
      refine J.op (Yd.add rfl rfl (by first | omega | exact idx_u8' _ | (simp only [Int.toNat_natCast]; omega) | (simp only [List.length_map, List.length_drop, List.length_take, List.length_append, List.length_replicate]; omega) | (simp <;> omega))) rfl ?_
      refine J.op (Yd.assign rfl) rfl ?_
      refine J.nil ?_
      refine J.n_then ?_
      exact J.round ((i + 1, sB)) ⟨rfl, rfl, rfl, rfl, trivial⟩ (⟨by show i + 1 ≤ es.length; omega, (by rw [flt_takeG riD (by omega), if_pos (by unfold toR; exact decide_eq_true hc1)]; exact hsB), fr_sB, e0⟩) (by show es.length - (i + 1) < es.length - i; omega)
    · skip
      rw [Int.toNat_natCast] at hc1
      refine J.skip ?_
      refine J.n_block ?_
      refine J.n_then ?_
      refine J.region ?_
      refine J.op (Yd.move rfl) rfl ?_
      refine J.op (Yd.add rfl rfl (by first | omega | exact idx_u8' _ | (simp only [Int.toNat_natCast]; omega) | (simp only [List.length_map, List.length_drop, List.length_take, List.length_append, List.length_replicate]; omega) | (simp <;> omega))) rfl ?_
      refine J.op (Yd.assign rfl) rfl ?_
      refine J.nil ?_
      refine J.n_then ?_
      exact J.round ((i + 1, v5)) ⟨rfl, rfl, rfl, rfl, trivial⟩ (⟨by show i + 1 ≤ es.length; omega, (by rw [flt_takeG riD (by omega), if_neg (by unfold toR; rw [decide_eq_false hc1]; decide), List.append_nil]; exact ho5), fr_v5, e0⟩) (by show es.length - (i + 1) < es.length - i; omega)
  · skip
    refine J.exit ?_
    refine J.x_then ?_
    refine J.x_then ?_
    refine J.x_block ?_
    refine J.n_then ?_
    refine J.seq ?_
    refine J.region ?_
    refine J.op (Yd.move rfl) rfl ?_
    refine J.op (Yd.assign rfl) rfl ?_
    refine J.nil ?_
    refine J.n_then ?_
    refine J.ret ?_
    exact J.ret1 rfl rfl (⟨_, rfl, (by have h9 := ho5; rw [List.take_of_length_le (by omega)] at h9; exact h9), e0⟩)
end Ytmpfgiffpdackaa
end Go.Proofs
