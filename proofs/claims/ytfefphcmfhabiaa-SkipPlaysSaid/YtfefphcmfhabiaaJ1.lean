import Derived.Test.YtfefphcmfhabiaaT
import Derived.Test.YtfefphcmfhabiaaQk
set_option linter.unusedVariables false
set_option linter.unusedSimpArgs false
set_option maxRecDepth 100000
set_option maxHeartbeats 4000000
namespace Go.Proofs
open Go.X Go.RowKit
namespace Ytfefphcmfhabiaa
theorem AtC_ok {b1 b2 : Nat} {m1 m2 : Int} {x : Ent} {w : World} (h1 : Cel w b1 3 [(0, 1, [I m1])]) (h2 : Cel w b2 3 [(0, 1, [I m2])]) : C Try.prog 47 [.agg (entS.c x).toArray, .pointer (some ⟨b1, 0, none⟩), .pointer (some ⟨b2, 0, none⟩)] w (Ret fun v w' => v = .bool (eqE m1 m2 x) ∧ Ext w w') := by
  have e0 := Ext.refl w
  refine C.enter Try.func47 rfl Try.ntmps47 rfl ?_
  refine J.seq ?_
  refine J.region ?_
  refine J.eff (Ye.box (S := [(0, 1, [I x.1]), (1, 1, [I x.2.1]), (2, 1, [x.2.2])]) rfl (by simp [SegAll, SegOK, Value.cells, entS])) rfl ?_
  rintro _ w1 ⟨b3_0, rfl, hb_, c3_0, x1⟩
  have fr_b3_0 : Fr w.heap.size (some b3_0) := Fr.le (Fr.blk hb_) e0.size
  have e0 := e0.trans x1
  clear x1 hb_
  refine J.op (Yd.assign rfl) rfl ?_
  refine J.nil ?_
  refine J.n_then ?_
  refine J.seq ?_
  refine J.region ?_
  refine J.op (Yd.cast (Yd.fieldA Try.underlying60 rfl ti3 rfl rfl) (show _ = Value.pointer (some ⟨b3_0, 0, none⟩) from rfl)) rfl ?_
  refine J.op (Yd.load pl3 rfl (Cel.cell1 c3_0 0 rfl)) rfl ?_
  refine J.op (Yd.load pl3 rfl (Cel.cell1 (Cel.ext h1 e0) 0 rfl)) rfl ?_
  refine J.op (Yd.eql rfl rfl) rfl ?_
  refine J.op (Yd.move rfl) rfl ?_
  refine J.split_dec (t := 9) rfl (fun hg => ?_) (fun hg => ?_)
  · skip
    refine J.op_g rfl rfl rfl (Yd.cast (Yd.fieldA Try.underlying60 rfl ti3 rfl rfl) (show _ = Value.pointer (some ⟨b3_0, 1, none⟩) from rfl)) rfl ?_
    refine J.op_g rfl rfl rfl (Yd.load pl3 rfl (Cel.cell1 c3_0 1 rfl)) rfl ?_
    refine J.op_g rfl rfl rfl (Yd.load pl3 rfl (Cel.cell1 (Cel.ext h2 e0) 0 rfl)) rfl ?_
    refine J.op_g rfl rfl rfl (Yd.eql rfl rfl) rfl ?_
    refine J.op (Yd.pick_t rfl rfl) rfl ?_
    refine J.op (Yd.assign rfl) rfl ?_
    refine J.nil ?_
    refine J.n_then ?_
    refine J.ret ?_
    exact J.ret1 rfl rfl (⟨_, rfl, (by first | exact congrArg Value.bool (eqE_yes hg) | exact congrArg Value.bool (eqE_no hg)), e0⟩)
  · skip
    refine J.not_g rfl rfl rfl rfl rfl ?_
    refine J.not_g rfl rfl rfl rfl rfl ?_
    refine J.not_g rfl rfl rfl rfl rfl ?_
    refine J.not_g rfl rfl rfl rfl rfl ?_
    refine J.op (Yd.pick_f rfl rfl) rfl ?_
    refine J.op (Yd.assign rfl) rfl ?_
    refine J.nil ?_
    refine J.n_then ?_
    refine J.ret ?_
    exact J.ret1 rfl rfl (⟨_, rfl, (by first | exact congrArg Value.bool (eqE_yes hg) | exact congrArg Value.bool (eqE_no hg)), e0⟩)

theorem IdxAt_ok {b1 b2 : Nat} {m1 m2 : Int} {s : Value} {es : List Ent} {w : World} (hr : Er entS w s es) (h1 : Cel w b1 3 [(0, 1, [I m1])]) (h2 : Cel w b2 3 [(0, 1, [I m2])]) : C Try.prog 46 [s, .func (.func 47) #[] #[.pointer (some ⟨b1, 0, none⟩), .pointer (some ⟨b2, 0, none⟩)]] w (Ret fun v w' => v = I (idxI ((eqE m1 m2)) es) ∧ Ext w w') := by
  have hmx := Er.max hr
  have e0 := Ext.refl w
  refine C.enter Try.func46 rfl Try.ntmps46 rfl ?_
  refine J.seq ?_
  refine J.region ?_
  refine J.op (Yd.assign rfl) rfl ?_
  refine J.nil ?_
  refine J.n_then ?_
  refine J.seq ?_
  refine J.seq ?_
  refine J.region ?_
  refine J.op (Yd.move rfl) rfl ?_
  refine J.op (Yd.lenE (K := entS) Try.underlying54 rfl (Er.ext hr e0)) rfl ?_
  refine J.op (Yd.move rfl) rfl ?_
  refine J.nil ?_
  refine J.n_then ?_
  refine J.block ?_
  refine J.loop (ι := Nat) (fun i => [(0, s), (1, .func (.func 47) #[] #[.pointer (some ⟨b1, 0, none⟩), .pointer (some ⟨b2, 0, none⟩)]), (7, I (es.length : Int)), (8, I (i : Int))]) (fun i w' => i ≤ es.length ∧ (∀ q, q < i → (eqE m1 m2) (es.getD q entD) = false) ∧ Ext w w') (fun i => es.length - i) (0) ⟨rfl, rfl, rfl, rfl, trivial⟩ (⟨Nat.zero_le _, (fun q hq => absurd hq (Nat.not_lt_zero _)), e0⟩) ?_
  rintro k w1 ⟨hk, hno, e0⟩
  refine J.seq ?_
  refine J.region ?_
  refine J.op (Yd.lss rfl rfl) rfl ?_
  refine J.nil ?_
  refine J.n_then ?_
  refine J.seq ?_
  refine J.cond_dec rfl (fun hc0 => ?_) (fun hc0 => ?_)
  · skip
    refine J.skip ?_
    refine J.n_then ?_
    refine J.seq ?_
    refine J.block ?_
    refine J.seq ?_
    refine J.region ?_
    refine J.op (Yd.move rfl) rfl ?_
    refine J.op (Yd.assign rfl) rfl ?_
    refine J.nil ?_
    refine J.n_then ?_
    refine J.seq ?_
    refine J.region ?_
    refine J.op (Yd.move rfl) rfl ?_
    refine J.op (Yd.move rfl) rfl ?_
    refine J.op (Yd.move rfl) rfl ?_
    refine J.op (Yd.idxE (K := entS) Try.underlying54 ti60 rfl rfl (Er.ext hr e0) (by first | omega | exact idx_u8' _ | (simp only [Int.toNat_natCast]; omega) | (simp only [List.length_map, List.length_drop, List.length_take, List.length_append, List.length_replicate]; omega) | (simp <;> omega))) rfl ?_
    refine J.op (Yd.loadEd (K := entS) entD ag60 ti60 rfl (Er.ext hr e0) (by first | omega | exact idx_u8' _ | (simp only [Int.toNat_natCast]; omega) | (simp only [List.length_map, List.length_drop, List.length_take, List.length_append, List.length_replicate]; omega) | (simp <;> omega))) rfl ?_
    refine J.eff (Ye.callv cl47 rfl rfl (AtC_ok (Cel.ext h1 e0) (Cel.ext h2 e0))) rfl ?_
    rintro _ w2 ⟨rfl, x1⟩
    have e0 := e0.trans x1
    clear x1
    refine J.nil ?_
    refine J.n_then ?_
    refine J.cond rfl (fun hc1 => ?_) (fun hc1 => ?_)
    · skip
      refine J.seq ?_
      refine J.region ?_
      refine J.op (Yd.move rfl) rfl ?_
      refine J.op (Yd.assign rfl) rfl ?_
      refine J.nil ?_
      refine J.n_then ?_
      refine J.ret ?_
      refine J.r_block ?_
      refine J.r_then ?_
      refine J.r_then ?_
      refine J.r_block ?_
      refine J.r_then ?_
      exact J.ret1 rfl rfl (⟨_, rfl, (by first | exact congrArg (fun z => I z) (idxI_none entD (fun q hq => hno q (by omega))).symm | exact congrArg (fun z => I z) (idxI_at entD (k := k) (by omega) (by simpa using hc1) hno).symm), e0⟩)
    · skip
      refine J.skip ?_
      refine J.n_block ?_
      refine J.n_then ?_
      refine J.region ?_
      refine J.op (Yd.add rfl rfl (by first | omega | exact idx_u8' _ | (simp only [Int.toNat_natCast]; omega) | (simp only [List.length_map, List.length_drop, List.length_take, List.length_append, List.length_replicate]; omega) | (simp <;> omega))) rfl ?_
      refine J.op (Yd.move rfl) rfl ?_
      refine J.nil ?_
      refine J.n_then ?_
      exact J.round (k + 1) ⟨rfl, rfl, rfl, rfl, trivial⟩ (⟨by omega, (fun q hq => by rcases (show q < k ∨ q = k by omega) with h | rfl; exact hno q h; simpa using hc1), e0⟩) (by omega)
  · skip
    refine J.exit ?_
    refine J.x_then ?_
    refine J.x_then ?_
    refine J.x_block ?_
    refine J.n_then ?_
    refine J.seq ?_
    refine J.region ?_
    refine J.op (Yd.assign rfl) rfl ?_
    refine J.nil ?_
    refine J.n_then ?_
    refine J.ret ?_
    exact J.ret1 rfl rfl (⟨_, rfl, (by first | exact congrArg (fun z => I z) (idxI_none entD (fun q hq => hno q (by omega))).symm | exact congrArg (fun z => I z) (idxI_at entD (k := k) (by omega) (by simpa using hc1) hno).symm), e0⟩)
end Ytfefphcmfhabiaa
end Go.Proofs
