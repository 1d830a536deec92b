import Derived.Test.YtfefphcmfhabiaaT
import Derived.Test.YtfefphcmfhabiaaJ7
set_option linter.unusedVariables false
set_option linter.unusedSimpArgs false
set_option maxRecDepth 100000
set_option maxHeartbeats 4000000
namespace Go.Proofs
open Go.X Go.RowKit
namespace Ytfefphcmfhabiaa
theorem idxI_is {fn : FuncId} {vs : List Value} {w : World} {a q : Int} (h : C Try.prog fn vs w (Ret fun v w' => v = I a ∧ Ext w w')) (hq : a = q) : C Try.prog fn vs w (Ret fun v w' => v = I q ∧ Ext w w') := hq ▸ h

theorem DelF_yes {base g c k b1 : Nat} {m1 : Int} {es : List Ent} {w : World} (h1b : Cel w b1 3 [(0, 1, [I m1])]) (hap : Ap (some b1) (some g)) (h1 : ∀ x ∈ es, x.2.2.oneCell' = true) (ho : Es entS base 60 w (.slice (some ⟨g, 0, none⟩) es.length c) es) (hk : k < es.length) (hp1 : ltE m1 (es.getD k entD) = true) (hp0 : ∀ j, j < k → ltE m1 (es.getD j entD) = false) : C Try.prog 27 [.slice (some ⟨g, 0, none⟩) es.length c, .func (.func 28) #[] #[.pointer (some ⟨b1, 0, none⟩)]] w (Ret fun u w' => u = .slice (some ⟨g, 0, none⟩) (es.filter fun x => !ltE m1 x).length c ∧ Es entS base 60 w' (.slice (some ⟨g, 0, none⟩) (es.filter fun x => !ltE m1 x).length c) (es.filter fun x => !ltE m1 x) ∧ Tn [some g] w w') := by
  have hrm := Es.room ho
  have hq := idxI_at entD hk hp1 hp0
  have e0 := Tn.refl [(some g)] w
  refine C.enter Try.func27 rfl Try.ntmps27 rfl ?_
  refine J.seq ?_
  refine J.region ?_
  refine J.op (Yd.assign rfl) rfl ?_
  refine J.nil ?_
  refine J.n_then ?_
  refine J.seq ?_
  refine J.region ?_
  refine J.op (Yd.move rfl) rfl ?_
  refine J.op (Yd.move rfl) rfl ?_
  refine J.eff (Ye.call cl46 rfl ((idxI_is (IdxFg_ok (Es.rd ho) h1b) hq))) rfl ?_
  rintro _ w1 ⟨rfl, x1⟩
  have e0 := Tn.ext e0 x1
  have ho := ho.ext x1
  have h1b := h1b.ext x1
  clear x1
  refine J.op (Yd.assign rfl) rfl ?_
  refine J.nil ?_
  refine J.n_then ?_
  refine J.seq ?_
  refine J.seq ?_
  refine J.region ?_
  refine J.op (Yd.move rfl) rfl ?_
  refine J.op (Yd.eql rfl rfl) rfl ?_
  refine J.nil ?_
  refine J.n_then ?_
  refine J.know (t := 12) (v' := .bool false) rfl (ff (by omega)) ?_
  refine J.cond_false rfl ?_
  refine J.skip ?_
  refine J.n_then ?_
  refine J.seq ?_
  refine J.seq ?_
  refine J.region ?_
  refine J.op (Yd.move rfl) rfl ?_
  refine J.op (Yd.add rfl rfl (by first | omega | exact idx_u8' _ | (simp only [Int.toNat_natCast]; omega) | (simp only [List.length_map, List.length_drop, List.length_take, List.length_append, List.length_replicate]; omega) | (simp <;> omega))) rfl ?_
  refine J.op (Yd.assign rfl) rfl ?_
  refine J.nil ?_
  refine J.n_then ?_
  refine J.block ?_
  refine J.loop (ι := Nat × Nat × List Ent) (fun i => [(1, .func (.func 28) #[] #[.pointer (some ⟨b1, 0, none⟩)]), (5, I (i.1 : Int)), (6, I (i.2.1 : Int)), (0, .slice (some ⟨g, 0, none⟩) es.length c)]) (fun i w' => Mv (ltE m1) es i.2.2 i.1 i.2.1 ∧ (∀ x ∈ i.2.2, x.2.2.oneCell' = true) ∧ Cel w' b1 3 [(0, 1, [I m1])] ∧ Es entS base 60 w' (.slice (some ⟨g, 0, none⟩) es.length c) i.2.2 ∧ Tn [(some g)] w w') (fun i => es.length - i.2.1) ((k, k + 1, es)) ⟨rfl, rfl, rfl, rfl, trivial⟩ (⟨Mv.start entD hk hp1 hp0, h1, h1b, ho, e0⟩) ?_
  rintro ⟨i, j, cur⟩ w2 ⟨hmv, h1c, h1b, ho, e0⟩
  dsimp only at *
  have hij := hmv.ij
  have hjl := hmv.jl
  have hcl := hmv.len
  refine J.seq ?_
  refine J.seq ?_
  refine J.region ?_
  refine J.op (Yd.move rfl) rfl ?_
  refine J.op (Yd.move rfl) rfl ?_
  refine J.op (Yd.lenE (K := entS) Try.underlying54 rfl (Es.rd ho)) rfl ?_
  refine J.op (Yd.lss rfl rfl) rfl ?_
  refine J.nil ?_
  refine J.n_then ?_
  refine J.cond_dec rfl (fun hc1 => ?_) (fun hc1 => ?_)
  · skip
    refine J.skip ?_
    refine J.n_then ?_
    refine J.seq ?_
    refine J.block ?_
    refine J.seq ?_
    refine J.region ?_
    refine J.op (Yd.move rfl) rfl ?_
    refine J.op (Yd.move rfl) rfl ?_
    refine J.op (Yd.idxE (K := entS) Try.underlying54 ti60 rfl rfl (Es.rd ho) (by first | omega | exact idx_u8' _ | (simp only [Int.toNat_natCast]; omega) | (simp only [List.length_map, List.length_drop, List.length_take, List.length_append, List.length_replicate]; omega) | (simp <;> omega))) rfl ?_
    refine J.op (Yd.loadEd (K := entS) entD ag60 ti60 rfl (Es.rd ho) (by first | omega | exact idx_u8' _ | (simp only [Int.toNat_natCast]; omega) | (simp only [List.length_map, List.length_drop, List.length_take, List.length_append, List.length_replicate]; omega) | (simp <;> omega))) rfl ?_
    refine J.eff (Ye.alloc ti60 (S := [(0, 3, [I 0, I 0, nilS])]) (by simp [SegAll, SegOK, Value.cells, nilS])) rfl ?_
    rintro _ w3 ⟨b7_2, rfl, hb_, c7_2, x1⟩
    have ap_b1_b7_2 : Ap (some b1) (some b7_2) := Ap.mk (Cel.live h1b) (Fr.blk hb_)
    have ap_g_b7_2 : Ap (some g) (some b7_2) := Ap.mk (Es.live ho) (Fr.blk hb_)
    have fr_b7_2 : Fr w.heap.size (some b7_2) := Fr.le (Fr.blk hb_) e0.size
    have e0 := Tn.ext e0 x1
    have h1b := h1b.ext x1
    have ho := ho.ext x1
    clear x1 hb_
    refine J.eff0 (Ye.storeA (ys := entS.c (cur.getD (j : Int).toNat entD)) ti60 c7_2 0 rfl rfl rfl rfl (by rfl) (ent_one h1c _ (getD_memE entD (by rw [Int.toNat_natCast]; omega)))) ?_
    rintro _ w4 ⟨cX, hu⟩
    simp only [List.set_cons_zero, List.set_cons_succ] at cX
    have hg := hu.gb
    have h1b := Cel.gbk h1b hg ap_b1_b7_2
    have ho := Es.gbk ho hg ap_g_b7_2
    have e0 := Tn.gbk e0 (.inr fr_b7_2) hg
    clear hg
    replace c7_2 := cX
    clear cX hu
    refine J.nil ?_
    refine J.n_then ?_
    refine J.seq ?_
    refine J.region ?_
    refine J.op (Yd.move rfl) rfl ?_
    refine J.op (Yd.loadA ag60 ti60 rfl c7_2 0 rfl) rfl ?_
    refine J.eff (Ye.callv cl28 rfl rfl (FgC_ok h1b)) rfl ?_
    rintro _ w5 ⟨rfl, x1⟩
    have e0 := Tn.ext e0 x1
    have h1b := h1b.ext x1
    have ho := ho.ext x1
    have c7_2 := c7_2.ext x1
    clear x1
    refine J.op (Yd.not rfl) rfl ?_
    refine J.nil ?_
    refine J.n_then ?_
    refine J.cond rfl (fun hcp => ?_) (fun hcp => ?_)
    · skip
      refine J.seq ?_
      refine J.region ?_
      refine J.op (Yd.move rfl) rfl ?_
      refine J.op (Yd.move rfl) rfl ?_
      refine J.op (Yd.loadA ag60 ti60 rfl c7_2 0 rfl) rfl ?_
      refine J.op (Yd.idxE (K := entS) Try.underlying54 ti60 rfl rfl (Es.rd ho) (by first | omega | exact idx_u8' _ | (simp only [Int.toNat_natCast]; omega) | (simp only [List.length_map, List.length_drop, List.length_take, List.length_append, List.length_replicate]; omega) | (simp <;> omega))) rfl ?_
      refine J.eff0 (Ye.storeE (K := entS) (u := (cur.getD (j : Int).toNat entD)) ti60 ho rfl rfl (by rw [Int.toNat_natCast]; omega) (ent_one h1c _ (getD_memE entD (by rw [Int.toNat_natCast]; omega)))) ?_
      rintro _ w6 ⟨hoC, hg⟩
      have hg := (show World.grownBy _ _ (some g) from hg)
      have h1b := Cel.gbk h1b hg hap
      have c7_2 := Cel.gbk c7_2 hg (Ap.symm ap_g_b7_2)
      have e0 := Tn.gbk e0 (.inl (by simp)) hg
      clear hg
      replace ho := hoC
      clear hoC
      refine J.nil ?_
      refine J.n_then ?_
      refine J.region ?_
      refine J.op (Yd.move rfl) rfl ?_
      refine J.op (Yd.add rfl rfl (by first | omega | exact idx_u8' _ | (simp only [Int.toNat_natCast]; omega) | (simp only [List.length_map, List.length_drop, List.length_take, List.length_append, List.length_replicate]; omega) | (simp <;> omega))) rfl ?_
      refine J.op (Yd.assign rfl) rfl ?_
      refine J.nil ?_
      refine J.n_block ?_
      refine J.n_then ?_
      refine J.region ?_
      refine J.op (Yd.move rfl) rfl ?_
      refine J.op (Yd.add rfl rfl (by first | omega | exact idx_u8' _ | (simp only [Int.toNat_natCast]; omega) | (simp only [List.length_map, List.length_drop, List.length_take, List.length_append, List.length_replicate]; omega) | (simp <;> omega))) rfl ?_
      refine J.op (Yd.assign rfl) rfl ?_
      refine J.nil ?_
      refine J.n_then ?_
      exact J.round ((i + 1, j + 1, cur.set i (cur.getD j entD))) ⟨rfl, rfl, rfl, rfl, trivial⟩ (⟨hmv.keep entD (by omega) (by simpa using hcp), one_set h1c (by omega), h1b, ho, e0⟩) (by show es.length - (j + 1) < es.length - j; omega)
    · skip
      refine J.skip ?_
      refine J.n_block ?_
      refine J.n_then ?_
      refine J.region ?_
      refine J.op (Yd.move rfl) rfl ?_
      refine J.op (Yd.add rfl rfl (by first | omega | exact idx_u8' _ | (simp only [Int.toNat_natCast]; omega) | (simp only [List.length_map, List.length_drop, List.length_take, List.length_append, List.length_replicate]; omega) | (simp <;> omega))) rfl ?_
      refine J.op (Yd.assign rfl) rfl ?_
      refine J.nil ?_
      refine J.n_then ?_
      exact J.round ((i, j + 1, cur)) ⟨rfl, rfl, rfl, rfl, trivial⟩ (⟨hmv.skip entD (by omega) (by simpa using hcp), h1c, h1b, ho, e0⟩) (by show es.length - (j + 1) < es.length - j; omega)
  · skip
    refine J.exit ?_
    refine J.x_then ?_
    refine J.x_then ?_
    refine J.x_block ?_
    refine J.n_then ?_
    refine J.seq ?_
    refine J.region ?_
    refine J.op (Yd.move rfl) rfl ?_
    refine J.op (Yd.move rfl) rfl ?_
    refine J.op (Yd.cast (Yd.slE_l (K := entS) Try.underlying54 ti60 rfl rfl (by omega)) ((slX_l (by omega)).trans (show _ = Value.slice (some ⟨g, (cur.take i).length * entS.sz, none⟩) (es.length - i) (c - i) by rw [show (cur.take i).length = i by simp only [List.length_take]; omega]))) rfl ?_
    refine J.eff0 (Ye.clearX (K := entS) Try.underlying54 ti60 rfl (by intro v hv; change v ∈ [I 0, I 0, nilS] at hv; simp only [List.mem_cons, List.mem_nil_iff, or_false] at hv; rcases hv with rfl | rfl | rfl <;> rfl) (Es.pre (es := cur) (i := i) (by rw [hcl]; exact ho) (by omega)) rfl (by simp only [List.length_take]; omega)) ?_
    rintro _ w7 ⟨ho2, hg⟩
    have e0 := Tn.gbk e0 (.inl (by simp)) hg
    clear hg
    refine J.nil ?_
    refine J.n_then ?_
    refine J.seq ?_
    refine J.region ?_
    refine J.op (Yd.move rfl) rfl ?_
    refine J.op (Yd.move rfl) rfl ?_
    refine J.op (Yd.cast (Yd.slE_h (K := entS) Try.underlying54 ti60 rfl rfl (by omega)) (slX_h (es := cur) (by omega))) rfl ?_
    refine J.op (Yd.assign rfl) rfl ?_
    refine J.nil ?_
    refine J.n_then ?_
    refine J.ret ?_
    have hfl := Mv.done (show Mv (ltE m1) es cur i es.length from (show j = es.length by omega) ▸ hmv)
    exact J.ret1 rfl rfl (⟨_, rfl, by rw [← hfl], by rw [← hfl]; exact ho2, e0⟩)

theorem DelF_no {b1 : Nat} {m1 : Int} {s : Value} {es : List Ent} {w : World} (h1b : Cel w b1 3 [(0, 1, [I m1])]) (hr : Er entS w s es) (hq : idxI (ltE m1) es = -1) : C Try.prog 27 [s, .func (.func 28) #[] #[.pointer (some ⟨b1, 0, none⟩)]] w (Ret fun v w' => v = s ∧ Ext w w') := by
  have e0 := Ext.refl w
  refine C.enter Try.func27 rfl Try.ntmps27 rfl ?_
  refine J.seq ?_
  refine J.region ?_
  refine J.op (Yd.assign rfl) rfl ?_
  refine J.nil ?_
  refine J.n_then ?_
  refine J.seq ?_
  refine J.region ?_
  refine J.op (Yd.move rfl) rfl ?_
  refine J.op (Yd.move rfl) rfl ?_
  refine J.eff (Ye.call cl46 rfl ((idxI_is (IdxFg_ok hr h1b) hq))) rfl ?_
  rintro _ w1 ⟨rfl, x1⟩
  have e0 := e0.trans x1
  clear x1
  refine J.op (Yd.assign rfl) rfl ?_
  refine J.nil ?_
  refine J.n_then ?_
  refine J.seq ?_
  refine J.seq ?_
  refine J.region ?_
  refine J.op (Yd.move rfl) rfl ?_
  refine J.op (Yd.eql rfl rfl) rfl ?_
  refine J.nil ?_
  refine J.n_then ?_
  refine J.know (t := 12) (v' := .bool true) rfl (tt (by decide)) ?_
  refine J.cond_true rfl ?_
  refine J.seq ?_
  refine J.region ?_
  refine J.op (Yd.move rfl) rfl ?_
  refine J.op (Yd.assign rfl) rfl ?_
  refine J.nil ?_
  refine J.n_then ?_
  refine J.ret ?_
  refine J.r_then ?_
  exact J.ret1 rfl rfl (⟨_, rfl, rfl, e0⟩)
end Ytfefphcmfhabiaa
end Go.Proofs
