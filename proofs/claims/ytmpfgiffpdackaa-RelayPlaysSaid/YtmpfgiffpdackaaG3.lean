import Derived.Test.YtmpfgiffpdackaaT
import Derived.Test.YtmpfgiffpdackaaG2
set_option linter.unusedVariables false
set_option linter.unusedSimpArgs false
set_option maxRecDepth 100000
set_option maxHeartbeats 4000000
namespace Go.Proofs
open Go.X Go.RowKit
namespace Ytmpfgiffpdackaa
theorem TkC_ok {b1 b mb : Nat} {ex now last : Int} {x : Itm} {w : World} (h1b : Cel w b1 24 [(0, 1, [.pointer (some ⟨b, 0, none⟩)])]) (hcb : Cel w b 65 [(0, 1, [I ex]), (1, 1, [I now]), (2, 1, [I last]), (3, 1, [.map (some mb)])]) (hex : 1 ≤ ex) (hnow : 0 ≤ now ∧ now ≤ 1099511627776) (hbd : 0 ≤ x.2.2.1 ∧ x.2.2.1 ≤ 1099511627776) : C Try.prog 29 [.agg (itmS.c x).toArray, .pointer (some ⟨b1, 0, none⟩)] w (Ret fun v w' => v = .bool (agI now ex x) ∧ Ext w w') := by
  have e0 := Ext.refl w
  refine C.enter Try.func29 rfl Try.ntmps29 rfl ?_
  refine J.seq ?_
  refine J.region ?_
  refine J.eff (Ye.box (S := [(0, 1, [I x.1]), (1, 1, [Str x.2.1]), (2, 1, [I x.2.2.1]), (3, 1, [x.2.2.2])]) rfl (by simp [SegAll, SegOK, Value.cells, itmS])) rfl ?_
  rintro _ w1 ⟨b2_0, rfl, hb_, c2_0, x1⟩
  have fr_b2_0 : Fr w.heap.size (some b2_0) := Fr.le (Fr.blk hb_) e0.size
  have e0 := e0.trans x1
  clear x1 hb_
  refine J.op (Yd.assign rfl) rfl ?_
  refine J.nil ?_
  refine J.n_then ?_
  refine J.seq ?_
  refine J.regionO [(4, true)] [(0, 1), (5, 1), (7, 1), (1, 1), (2, 1), (3, 1), (6, 1), (8, 1), (9, 1), (10, 1), (11, 1)] [(12, true), (13, true)] mix (by kernel_rfl) ?_
  refine J.s_op rfl (fun _ => Yd.cast (Yd.fieldA Try.underlying36 rfl ti3 rfl rfl) (show _ = Value.pointer (some ⟨b2_0, 2, none⟩) from rfl)) rfl ?_
  refine J.s_nil ?_
  refine J.o_op rfl (Yd.load pl24 rfl (Cel.cell1 (Cel.ext h1b e0) 0 rfl)) rfl ?_
  refine J.o_op rfl (Yd.load pl3 rfl (Cel.cell1 c2_0 2 rfl)) rfl ?_
  refine J.o_op rfl (Yd.load pl24 rfl (Cel.cell1 (Cel.ext h1b e0) 0 rfl)) rfl ?_
  refine J.o_op rfl (Yd.nilCheck rfl) rfl ?_
  refine J.o_op rfl (Yd.cast (Yd.fieldA Try.underlying65 rfl ti3 rfl rfl) (show _ = Value.pointer (some ⟨b, 1, none⟩) from rfl)) rfl ?_
  refine J.o_op rfl (Yd.load pl3 rfl (Cel.cell1 (Cel.ext hcb e0) 1 rfl)) rfl ?_
  refine J.o_op rfl (Yd.sub rfl rfl (by first | omega | exact idx_u8' _ | (simp only [Int.toNat_natCast]; omega) | (simp only [List.length_map, List.length_drop, List.length_take, List.length_append, List.length_replicate]; omega) | (simp <;> omega))) rfl ?_
  refine J.o_op rfl (Yd.nilCheck rfl) rfl ?_
  refine J.o_op rfl (Yd.cast (Yd.fieldA Try.underlying65 rfl ti3 rfl rfl) (show _ = Value.pointer (some ⟨b, 0, none⟩) from rfl)) rfl ?_
  refine J.o_op rfl (Yd.load pl3 rfl (Cel.cell1 (Cel.ext hcb e0) 0 rfl)) rfl ?_
  refine J.o_op rfl (Yd.maxi rfl rfl) rfl ?_
  refine J.o_nil ?_
  refine J.s_op rfl (fun _ => Yd.geq rfl rfl) rfl ?_
  refine J.s_op rfl (fun _ => Yd.assign rfl) rfl ?_
  refine J.s_nil ?_
  refine J.n_np ?_
  refine J.n_then ?_
  refine J.ret ?_
  exact J.ret1 rfl rfl (⟨_, rfl, congrArg Value.bool (agI_is hex), e0⟩)

theorem IdxTk_ok {b1 b mb : Nat} {ex now last : Int} {s : Value} {es : List Itm} {w : World} (hr : Er itmS w s es) (h1b : Cel w b1 24 [(0, 1, [.pointer (some ⟨b, 0, none⟩)])]) (hcb : Cel w b 65 [(0, 1, [I ex]), (1, 1, [I now]), (2, 1, [I last]), (3, 1, [.map (some mb)])]) (hex : 1 ≤ ex) (hnow : 0 ≤ now ∧ now ≤ 1099511627776) (hbd : ∀ x ∈ es, 0 ≤ x.2.2.1 ∧ x.2.2.1 ≤ 1099511627776) : C Try.prog 34 [s, .func (.func 29) #[] #[.pointer (some ⟨b1, 0, none⟩)]] w (Ret fun v w' => v = I (idxI (agI now ex) es) ∧ Ext w w') := by
  have hmx := Er.max hr
  have e0 := Ext.refl w
  refine C.enter Try.func34 rfl Try.ntmps34 rfl ?_
  refine J.seq ?_
  refine J.region ?_
  refine J.op (Yd.assign rfl) rfl ?_
  refine J.nil ?_
  refine J.n_then ?_
  refine J.seq ?_
  refine J.seq ?_
  refine J.region ?_
  refine J.op (Yd.move rfl) rfl ?_
  refine J.op (Yd.lenE (K := itmS) Try.underlying31 rfl (Er.ext hr e0)) rfl ?_
  refine J.op (Yd.move rfl) rfl ?_
  refine J.nil ?_
  refine J.n_then ?_
  refine J.block ?_
  refine J.loop (ι := Nat) (fun i => [(0, s), (1, .func (.func 29) #[] #[.pointer (some ⟨b1, 0, none⟩)]), (7, I (es.length : Int)), (8, I (i : Int))]) (fun i w' => i ≤ es.length ∧ (∀ q, q < i → (agI now ex) (es.getD q itmD) = false) ∧ Ext w w') (fun i => es.length - i) (0) ⟨rfl, rfl, rfl, rfl, trivial⟩ (⟨Nat.zero_le _, (fun q hq => absurd hq (Nat.not_lt_zero _)), e0⟩) ?_
  rintro k w1 ⟨hk, hno, e0⟩
  refine J.seq ?_
  refine J.region ?_
  refine J.op (Yd.lss rfl rfl) rfl ?_
  refine J.nil ?_
  refine J.n_then ?_
  refine J.seq ?_
  refine J.cond_dec rfl (fun hc0 => ?_) (fun hc0 => ?_)
  · skip
    refine J.skip ?_
    refine J.n_then ?_
    refine J.seq ?_
    refine J.block ?_
    refine J.seq ?_
    refine J.region ?_
    refine J.op (Yd.move rfl) rfl ?_
    refine J.op (Yd.assign rfl) rfl ?_
    refine J.nil ?_
    refine J.n_then ?_
    refine J.seq ?_
    refine J.region ?_
    refine J.op (Yd.move rfl) rfl ?_
    refine J.op (Yd.move rfl) rfl ?_
    refine J.op (Yd.move rfl) rfl ?_
    refine J.op (Yd.idxE (K := itmS) Try.underlying31 ti36 rfl rfl (Er.ext hr e0) (by first | omega | exact idx_u8' _ | (simp only [Int.toNat_natCast]; omega) | (simp only [List.length_map, List.length_drop, List.length_take, List.length_append, List.length_replicate]; omega) | (simp <;> omega))) rfl ?_
    refine J.op (Yd.loadEd (K := itmS) itmD ag36 ti36 rfl (Er.ext hr e0) (by first | omega | exact idx_u8' _ | (simp only [Int.toNat_natCast]; omega) | (simp only [List.length_map, List.length_drop, List.length_take, List.length_append, List.length_replicate]; omega) | (simp <;> omega))) rfl ?_
    refine J.eff (Ye.callv cl29 rfl rfl (TkC_ok (Cel.ext h1b e0) (Cel.ext hcb e0) hex hnow (hbd _ (getD_memE itmD (by omega))))) rfl ?_
    rintro _ w2 ⟨rfl, x1⟩
    have e0 := e0.trans x1
    clear x1
    refine J.nil ?_
    refine J.n_then ?_
    refine J.cond rfl (fun hc1 => ?_) (fun hc1 => ?_)
    · skip
      refine J.seq ?_
      refine J.region ?_
      refine J.op (Yd.move rfl) rfl ?_
      refine J.op (Yd.assign rfl) rfl ?_
      refine J.nil ?_
      refine J.n_then ?_
      refine J.ret ?_
      refine J.r_block ?_
      refine J.r_then ?_
      refine J.r_then ?_
      refine J.r_block ?_
      refine J.r_then ?_
      exact J.ret1 rfl rfl (⟨_, rfl, (by first | exact congrArg (fun z => I z) (idxI_none itmD (fun q hq => hno q (by omega))).symm | exact congrArg (fun z => I z) (idxI_at itmD (k := k) (by omega) (by simpa using hc1) hno).symm), e0⟩)
    · skip
      refine J.skip ?_
      refine J.n_block ?_
      refine J.n_then ?_
      refine J.region ?_
      refine J.op (Yd.add rfl rfl (by first | omega | exact idx_u8' _ | (simp only [Int.toNat_natCast]; omega) | (simp only [List.length_map, List.length_drop, List.length_take, List.length_append, List.length_replicate]; omega) | (simp <;> omega))) rfl ?_
      refine J.op (Yd.move rfl) rfl ?_
      refine J.nil ?_
      refine J.n_then ?_
      exact J.round (k + 1) ⟨rfl, rfl, rfl, rfl, trivial⟩ (⟨by omega, (fun q hq => by rcases (show q < k ∨ q = k by omega) with h | rfl; exact hno q h; simpa using hc1), e0⟩) (by omega)
  · skip
    refine J.exit ?_
    refine J.x_then ?_
    refine J.x_then ?_
    refine J.x_block ?_
    refine J.n_then ?_
    refine J.seq ?_
    refine J.region ?_
    refine J.op (Yd.assign rfl) rfl ?_
    refine J.nil ?_
    refine J.n_then ?_
    refine J.ret ?_
    exact J.ret1 rfl rfl (⟨_, rfl, (by first | exact congrArg (fun z => I z) (idxI_none itmD (fun q hq => hno q (by omega))).symm | exact congrArg (fun z => I z) (idxI_at itmD (k := k) (by omega) (by simpa using hc1) hno).symm), e0⟩)

theorem idxI_is {fn : FuncId} {vs : List Value} {w : World} {a q : Int} (h : C Try.prog fn vs w (Ret fun v w' => v = I a ∧ Ext w w')) (hq : a = q) : C Try.prog fn vs w (Ret fun v w' => v = I q ∧ Ext w w') := hq ▸ h

theorem DelF_yes {base g c k : Nat} {b1 b mb : Nat} {ex now last : Int} {es : List Itm} {w : World} (h1b : Cel w b1 24 [(0, 1, [.pointer (some ⟨b, 0, none⟩)])]) (hcb : Cel w b 65 [(0, 1, [I ex]), (1, 1, [I now]), (2, 1, [I last]), (3, 1, [.map (some mb)])]) (hex : 1 ≤ ex) (hnow : 0 ≤ now ∧ now ≤ 1099511627776) (hap : Ap (some b1) (some g)) (hapb : Ap (some b) (some g)) (h1 : ∀ x ∈ es, x.2.2.2.oneCell' = true) (hbd : ∀ x ∈ es, 0 ≤ x.2.2.1 ∧ x.2.2.1 ≤ 1099511627776) (ho : Es itmS base 36 w (.slice (some ⟨g, 0, none⟩) es.length c) es) (hk : k < es.length) (hp1 : (agI now ex) (es.getD k itmD) = true) (hp0 : ∀ j, j < k → (agI now ex) (es.getD j itmD) = false) : C Try.prog 28 [.slice (some ⟨g, 0, none⟩) es.length c, .func (.func 29) #[] #[.pointer (some ⟨b1, 0, none⟩)]] w (Ret fun u w' => u = .slice (some ⟨g, 0, none⟩) (es.filter fun x => !(agI now ex) x).length c ∧ Es itmS base 36 w' (.slice (some ⟨g, 0, none⟩) (es.filter fun x => !(agI now ex) x).length c) (es.filter fun x => !(agI now ex) x) ∧ Tn [some g] w w') := by
  have hrm := Es.room ho
  have hq := idxI_at itmD hk hp1 hp0
  have e0 := Tn.refl [(some g)] w
  refine C.enter Try.func28 rfl Try.ntmps28 rfl ?_
  refine J.seq ?_
  refine J.region ?_
  refine J.op (Yd.assign rfl) rfl ?_
  refine J.nil ?_
  refine J.n_then ?_
  refine J.seq ?_
  refine J.region ?_
  refine J.op (Yd.move rfl) rfl ?_
  refine J.op (Yd.move rfl) rfl ?_
  refine J.eff (Ye.call cl34 rfl ((idxI_is (IdxTk_ok (Es.rd ho) h1b hcb hex hnow hbd) hq))) rfl ?_
  rintro _ w1 ⟨rfl, x1⟩
  have e0 := Tn.ext e0 x1
  have ho := ho.ext x1
  have h1b := h1b.ext x1
  have hcb := hcb.ext x1
  clear x1
  refine J.op (Yd.assign rfl) rfl ?_
  refine J.nil ?_
  refine J.n_then ?_
  refine J.seq ?_
  refine J.seq ?_
  refine J.region ?_
  refine J.op (Yd.move rfl) rfl ?_
  refine J.op (Yd.eql rfl rfl) rfl ?_
  refine J.nil ?_
  refine J.n_then ?_
  refine J.know (t := 12) (v' := .bool false) rfl (ff (by omega)) ?_
  refine J.cond_false rfl ?_
  refine J.skip ?_
  refine J.n_then ?_
  refine J.seq ?_
  refine J.seq ?_
  refine J.region ?_
  refine J.op (Yd.move rfl) rfl ?_
  refine J.op (Yd.add rfl rfl (by first | omega | exact idx_u8' _ | (simp only [Int.toNat_natCast]; omega) | (simp only [List.length_map, List.length_drop, List.length_take, List.length_append, List.length_replicate]; omega) | (simp <;> omega))) rfl ?_
  refine J.op (Yd.assign rfl) rfl ?_
  refine J.nil ?_
  refine J.n_then ?_
  refine J.block ?_
  refine J.loop (ι := Nat × Nat × List Itm) (fun i => [(1, .func (.func 29) #[] #[.pointer (some ⟨b1, 0, none⟩)]), (5, I (i.1 : Int)), (6, I (i.2.1 : Int)), (0, .slice (some ⟨g, 0, none⟩) es.length c)]) (fun i w' => Mv (agI now ex) es i.2.2 i.1 i.2.1 ∧ (∀ x ∈ i.2.2, (x.2.2.2.oneCell' = true ∧ 0 ≤ x.2.2.1 ∧ x.2.2.1 ≤ 1099511627776)) ∧ Cel w' b1 24 [(0, 1, [.pointer (some ⟨b, 0, none⟩)])] ∧ Cel w' b 65 [(0, 1, [I ex]), (1, 1, [I now]), (2, 1, [I last]), (3, 1, [.map (some mb)])] ∧ Es itmS base 36 w' (.slice (some ⟨g, 0, none⟩) es.length c) i.2.2 ∧ Tn [(some g)] w w') (fun i => es.length - i.2.1) ((k, k + 1, es)) ⟨rfl, rfl, rfl, rfl, trivial⟩ (⟨Mv.start itmD hk hp1 hp0, (fun x hx => ⟨h1 x hx, hbd x hx⟩), h1b, hcb, ho, e0⟩) ?_
  rintro ⟨i, j, cur⟩ w2 ⟨hmv, h1c, h1b, hcb, ho, e0⟩
  dsimp only at *
  have hij := hmv.ij
  have hjl := hmv.jl
  have hcl := hmv.len
  refine J.seq ?_
  refine J.seq ?_
  refine J.region ?_
  refine J.op (Yd.move rfl) rfl ?_
  refine J.op (Yd.move rfl) rfl ?_
  refine J.op (Yd.lenE (K := itmS) Try.underlying31 rfl (Es.rd ho)) rfl ?_
  refine J.op (Yd.lss rfl rfl) rfl ?_
  refine J.nil ?_
  refine J.n_then ?_
  refine J.cond_dec rfl (fun hc1 => ?_) (fun hc1 => ?_)
  · skip
    refine J.skip ?_
    refine J.n_then ?_
    refine J.seq ?_
    refine J.block ?_
    refine J.seq ?_
    refine J.region ?_
    refine J.op (Yd.move rfl) rfl ?_
    refine J.op (Yd.move rfl) rfl ?_
    refine J.op (Yd.idxE (K := itmS) Try.underlying31 ti36 rfl rfl (Es.rd ho) (by first | omega | exact idx_u8' _ | (simp only [Int.toNat_natCast]; omega) | (simp only [List.length_map, List.length_drop, List.length_take, List.length_append, List.length_replicate]; omega) | (simp <;> omega))) rfl ?_
    refine J.op (Yd.loadEd (K := itmS) itmD ag36 ti36 rfl (Es.rd ho) (by first | omega | exact idx_u8' _ | (simp only [Int.toNat_natCast]; omega) | (simp only [List.length_map, List.length_drop, List.length_take, List.length_append, List.length_replicate]; omega) | (simp <;> omega))) rfl ?_
    refine J.eff (Ye.alloc ti36 (S := [(0, 4, [I 0, Str [], I 0, nilS])]) (by simp [SegAll, SegOK, Value.cells, nilS])) rfl ?_
    rintro _ w3 ⟨b7_2, rfl, hb_, c7_2, x1⟩
    have ap_b1_b7_2 : Ap (some b1) (some b7_2) := Ap.mk (Cel.live h1b) (Fr.blk hb_)
    have ap_b_b7_2 : Ap (some b) (some b7_2) := Ap.mk (Cel.live hcb) (Fr.blk hb_)
    have ap_g_b7_2 : Ap (some g) (some b7_2) := Ap.mk (Es.live ho) (Fr.blk hb_)
    have fr_b7_2 : Fr w.heap.size (some b7_2) := Fr.le (Fr.blk hb_) e0.size
    have e0 := Tn.ext e0 x1
    have h1b := h1b.ext x1
    have hcb := hcb.ext x1
    have ho := ho.ext x1
    clear x1 hb_
    refine J.eff0 (Ye.storeA (ys := itmS.c (cur.getD (j : Int).toNat itmD)) ti36 c7_2 0 rfl rfl rfl rfl (by rfl) (itm_one (fun x hx => (h1c x hx).1) _ (getD_memE itmD (by rw [Int.toNat_natCast]; omega)))) ?_
    rintro _ w4 ⟨cX, hu⟩
    simp only [List.set_cons_zero, List.set_cons_succ] at cX
    have hg := hu.gb
    have h1b := Cel.gbk h1b hg ap_b1_b7_2
    have hcb := Cel.gbk hcb hg ap_b_b7_2
    have ho := Es.gbk ho hg ap_g_b7_2
    have e0 := Tn.gbk e0 (.inr fr_b7_2) hg
    clear hg
    replace c7_2 := cX
    clear cX hu
    refine J.nil ?_
    refine J.n_then ?_
    refine J.seq ?_
    refine J.region ?_
    refine J.op (Yd.move rfl) rfl ?_
    refine J.op (Yd.loadA ag36 ti36 rfl c7_2 0 rfl) rfl ?_
    refine J.eff (Ye.callv cl29 rfl rfl (TkC_ok h1b hcb hex hnow (h1c _ (getD_memE itmD (by rw [Int.toNat_natCast]; omega))).2)) rfl ?_
    rintro _ w5 ⟨rfl, x1⟩
    have e0 := Tn.ext e0 x1
    have h1b := h1b.ext x1
    have hcb := hcb.ext x1
    have ho := ho.ext x1
    have c7_2 := c7_2.ext x1
    clear x1
    refine J.op (Yd.not rfl) rfl ?_
    refine J.nil ?_
    refine J.n_then ?_
    refine J.cond rfl (fun hcp => ?_) (fun hcp => ?_)
    · skip
      refine J.seq ?_
      refine J.region ?_
      refine J.op (Yd.move rfl) rfl ?_
      refine J.op (Yd.move rfl) rfl ?_
      refine J.op (Yd.loadA ag36 ti36 rfl c7_2 0 rfl) rfl ?_
      refine J.op (Yd.idxE (K := itmS) Try.underlying31 ti36 rfl rfl (Es.rd ho) (by first | omega | exact idx_u8' _ | (simp only [Int.toNat_natCast]; omega) | (simp only [List.length_map, List.length_drop, List.length_take, List.length_append, List.length_replicate]; omega) | (simp <;> omega))) rfl ?_
      refine J.eff0 (Ye.storeE (K := itmS) (u := (cur.getD (j : Int).toNat itmD)) ti36 ho rfl rfl (by rw [Int.toNat_natCast]; omega) (itm_one (fun x hx => (h1c x hx).1) _ (getD_memE itmD (by rw [Int.toNat_natCast]; omega)))) ?_
      rintro _ w6 ⟨hoC, hg⟩
      have hg := (show World.grownBy _ _ (some g) from hg)
      have h1b := Cel.gbk h1b hg hap
      have hcb := Cel.gbk hcb hg hapb
      have c7_2 := Cel.gbk c7_2 hg (Ap.symm ap_g_b7_2)
      have e0 := Tn.gbk e0 (.inl (by simp)) hg
      clear hg
      replace ho := hoC
      clear hoC
      refine J.nil ?_
      refine J.n_then ?_
      refine J.region ?_
      refine J.op (Yd.move rfl) rfl ?_
      refine J.op (Yd.add rfl rfl (by first | omega | exact idx_u8' _ | (simp only [Int.toNat_natCast]; omega) | (simp only [List.length_map, List.length_drop, List.length_take, List.length_append, List.length_replicate]; omega) | (simp <;> omega))) rfl ?_
      refine J.op (Yd.assign rfl) rfl ?_
      refine J.nil ?_
      refine J.n_block ?_
      refine J.n_then ?_
      refine J.region ?_
      refine J.op (Yd.move rfl) rfl ?_
      refine J.op (Yd.add rfl rfl (by first | omega | exact idx_u8' _ | (simp only [Int.toNat_natCast]; omega) | (simp only [List.length_map, List.length_drop, List.length_take, List.length_append, List.length_replicate]; omega) | (simp <;> omega))) rfl ?_
      refine J.op (Yd.assign rfl) rfl ?_
      refine J.nil ?_
      refine J.n_then ?_
      exact J.round ((i + 1, j + 1, cur.set i (cur.getD j itmD))) ⟨rfl, rfl, rfl, rfl, trivial⟩ (⟨hmv.keep itmD (by omega) (by simpa using hcp), memset h1c (by omega), h1b, hcb, ho, e0⟩) (by show es.length - (j + 1) < es.length - j; omega)
    · skip
      refine J.skip ?_
      refine J.n_block ?_
      refine J.n_then ?_
      refine J.region ?_
      refine J.op (Yd.move rfl) rfl ?_
      refine J.op (Yd.add rfl rfl (by first | omega | exact idx_u8' _ | (simp only [Int.toNat_natCast]; omega) | (simp only [List.length_map, List.length_drop, List.length_take, List.length_append, List.length_replicate]; omega) | (simp <;> omega))) rfl ?_
      refine J.op (Yd.assign rfl) rfl ?_
      refine J.nil ?_
      refine J.n_then ?_
      exact J.round ((i, j + 1, cur)) ⟨rfl, rfl, rfl, rfl, trivial⟩ (⟨hmv.skip itmD (by omega) (by simpa using hcp), h1c, h1b, hcb, ho, e0⟩) (by show es.length - (j + 1) < es.length - j; omega)
  · skip
    refine J.exit ?_
    refine J.x_then ?_
    refine J.x_then ?_
    refine J.x_block ?_
    refine J.n_then ?_
    refine J.seq ?_
    refine J.region ?_
    refine J.op (Yd.move rfl) rfl ?_
    refine J.op (Yd.move rfl) rfl ?_
    refine J.op (Yd.cast (Yd.slE_l (K := itmS) Try.underlying31 ti36 rfl rfl (by omega)) ((slX_l (by omega)).trans (show _ = Value.slice (some ⟨g, (cur.take i).length * itmS.sz, none⟩) (es.length - i) (c - i) by rw [show (cur.take i).length = i by simp only [List.length_take]; omega]))) rfl ?_
    refine J.eff0 (Ye.clearX (K := itmS) Try.underlying31 ti36 rfl (by intro v hv; change v ∈ [I 0, Str [], I 0, nilS] at hv; simp only [List.mem_cons, List.mem_nil_iff, or_false] at hv; rcases hv with rfl | rfl | rfl | rfl <;> rfl) (Es.pre (es := cur) (i := i) (by rw [hcl]; exact ho) (by omega)) rfl (by simp only [List.length_take]; omega)) ?_
    rintro _ w7 ⟨ho2, hg⟩
    have e0 := Tn.gbk e0 (.inl (by simp)) hg
    clear hg
    refine J.nil ?_
    refine J.n_then ?_
    refine J.seq ?_
    refine J.region ?_
    refine J.op (Yd.move rfl) rfl ?_
    refine J.op (Yd.move rfl) rfl ?_
    refine J.op (Yd.cast (Yd.slE_h (K := itmS) Try.underlying31 ti36 rfl rfl (by omega)) (slX_h (es := cur) (by omega))) rfl ?_
    refine J.op (Yd.assign rfl) rfl ?_
    refine J.nil ?_
    refine J.n_then ?_
    refine J.ret ?_
    have hfl := Mv.done (show Mv (agI now ex) es cur i es.length from (show j = es.length by omega) ▸ hmv)
    exact J.ret1 rfl rfl (⟨_, rfl, by rw [← hfl], by rw [← hfl]; exact ho2, e0⟩)

theorem DelF_no {b1 b mb : Nat} {ex now last : Int} {s : Value} {es : List Itm} {w : World} (h1b : Cel w b1 24 [(0, 1, [.pointer (some ⟨b, 0, none⟩)])]) (hcb : Cel w b 65 [(0, 1, [I ex]), (1, 1, [I now]), (2, 1, [I last]), (3, 1, [.map (some mb)])]) (hex : 1 ≤ ex) (hnow : 0 ≤ now ∧ now ≤ 1099511627776) (hbd : ∀ x ∈ es, 0 ≤ x.2.2.1 ∧ x.2.2.1 ≤ 1099511627776) (hr : Er itmS w s es) (hq : idxI (agI now ex) es = -1) : C Try.prog 28 [s, .func (.func 29) #[] #[.pointer (some ⟨b1, 0, none⟩)]] w (Ret fun v w' => v = s ∧ Ext w w') := by
  have e0 := Ext.refl w
  refine C.enter Try.func28 rfl Try.ntmps28 rfl ?_
  refine J.seq ?_
  refine J.region ?_
  refine J.op (Yd.assign rfl) rfl ?_
  refine J.nil ?_
  refine J.n_then ?_
  refine J.seq ?_
  refine J.region ?_
  refine J.op (Yd.move rfl) rfl ?_
  refine J.op (Yd.move rfl) rfl ?_
  refine J.eff (Ye.call cl34 rfl ((idxI_is (IdxTk_ok hr h1b hcb hex hnow hbd) hq))) rfl ?_
  rintro _ w1 ⟨rfl, x1⟩
  have e0 := e0.trans x1
  clear x1
  refine J.op (Yd.assign rfl) rfl ?_
  refine J.nil ?_
  refine J.n_then ?_
  refine J.seq ?_
  refine J.seq ?_
  refine J.region ?_
  refine J.op (Yd.move rfl) rfl ?_
  refine J.op (Yd.eql rfl rfl) rfl ?_
  refine J.nil ?_
  refine J.n_then ?_
  refine J.know (t := 12) (v' := .bool true) rfl (tt (by decide)) ?_
  refine J.cond_true rfl ?_
  refine J.seq ?_
  refine J.region ?_
  refine J.op (Yd.move rfl) rfl ?_
  refine J.op (Yd.assign rfl) rfl ?_
  refine J.nil ?_
  refine J.n_then ?_
  refine J.ret ?_
  refine J.r_then ?_
  exact J.ret1 rfl rfl (⟨_, rfl, rfl, e0⟩)

theorem DelF_any {base : Nat} {b1 b mb : Nat} {ex now last : Int} {s : Value} {es : List Itm} {w : World} (h1b : Cel w b1 24 [(0, 1, [.pointer (some ⟨b, 0, none⟩)])]) (hcb : Cel w b 65 [(0, 1, [I ex]), (1, 1, [I now]), (2, 1, [I last]), (3, 1, [.map (some mb)])]) (hex : 1 ≤ ex) (hnow : 0 ≤ now ∧ now ≤ 1099511627776) (hap : Ap (some b1) s.ownBlock) (hapb : Ap (some b) s.ownBlock) (h1 : ∀ x ∈ es, x.2.2.2.oneCell' = true) (hbd : ∀ x ∈ es, 0 ≤ x.2.2.1 ∧ x.2.2.1 ≤ 1099511627776) (ho : Es itmS base 36 w s es) : C Try.prog 28 [s, .func (.func 29) #[] #[.pointer (some ⟨b1, 0, none⟩)]] w (Ret fun u w' => Es itmS base 36 w' u (es.filter fun x => !(agI now ex) x) ∧ (∀ k, u.ownBlock = some k → s.ownBlock = some k) ∧ Tn [s.ownBlock] w w') := by
  by_cases hx : ∃ k, k < es.length ∧ (agI now ex) (es.getD k itmD) = true ∧ ∀ j, j < k → (agI now ex) (es.getD j itmD) = false
  · obtain ⟨k, hk, hp1, hp0⟩ := hx
    obtain ⟨g, c, rfl, hgc⟩ := Es.expl ho (by omega)
    exact (DelF_yes h1b hcb hex hnow hap hapb h1 hbd ho hk hp1 hp0).ret fun u w' h => by obtain ⟨rfl, h2, h3⟩ := h; exact ⟨h2, fun k hk => hk, h3⟩
  · have hn := flt_none itmD hx
    exact (DelF_no h1b hcb hex hnow hbd (Es.rd ho) (idxI_no hn)).ret fun u w' h => by
      obtain ⟨rfl, h2⟩ := h
      rw [show (es.filter fun x => !(agI now ex) x) = es from List.filter_eq_self.2 fun x hm => by simp [hn x hm]]
      exact ⟨ho.ext h2, fun k hk => hk, h2.tn _⟩
end Ytmpfgiffpdackaa
end Go.Proofs
