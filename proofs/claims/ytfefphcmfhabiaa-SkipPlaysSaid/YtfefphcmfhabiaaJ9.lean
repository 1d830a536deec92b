import Derived.Test.YtfefphcmfhabiaaT
import Derived.Test.YtfefphcmfhabiaaJ8
set_option linter.unusedVariables false
set_option linter.unusedSimpArgs false
set_option maxRecDepth 100000
set_option maxHeartbeats 4000000
namespace Go.Proofs
open Go.X Go.RowKit
namespace Ytfefphcmfhabiaa
theorem DelF_any {base b1 : Nat} {m1 : Int} {s : Value} {es : List Ent} {w : World} (h1b : Cel w b1 3 [(0, 1, [I m1])]) (hap : Ap (some b1) s.ownBlock) (h1 : ∀ x ∈ es, x.2.2.oneCell' = true) (ho : Es entS base 60 w s es) : C Try.prog 27 [s, .func (.func 28) #[] #[.pointer (some ⟨b1, 0, none⟩)]] w (Ret fun u w' => Es entS base 60 w' u (es.filter fun x => !ltE m1 x) ∧ SF w s.ownBlock u.ownBlock ∧ Tn [s.ownBlock] w w') := by
  by_cases hx : ∃ k, k < es.length ∧ ltE m1 (es.getD k entD) = true ∧ ∀ j, j < k → ltE m1 (es.getD j entD) = false
  · obtain ⟨k, hk, hp1, hp0⟩ := hx
    obtain ⟨g, c, rfl, hgc⟩ := Es.expl ho (by omega)
    exact (DelF_yes h1b hap h1 ho hk hp1 hp0).ret fun u w' h => by obtain ⟨rfl, h2, h3⟩ := h; exact ⟨h2, fun k hk => .inl hk, h3⟩
  · have hn := flt_none entD hx
    exact (DelF_no h1b (Es.rd ho) (idxI_no hn)).ret fun u w' h => by
      obtain ⟨rfl, h2⟩ := h
      rw [show (es.filter fun x => !ltE m1 x) = es from List.filter_eq_self.2 fun x hm => by simp [hn x hm]]
      exact ⟨ho.ext h2, fun k hk => .inl hk, h2.tn _⟩

theorem Forget_ok {b : Nat} {n : Int} {s : Value} {es : List Ent} {m1 : Int} {w : World} (hc : Cel w b 56 [(0, 1, [I n]), (1, 1, [s])]) (ho : Es entS 0 60 w s es) (hap : Ap (some b) s.ownBlock) (h1 : ∀ x ∈ es, x.2.2.oneCell' = true) : C Try.prog 15 [.pointer (some ⟨b, 0, none⟩), I m1] w (Ret fun u w' => ∃ s', u = I ((es.length : Int) - ((es.filter fun x => !ltE m1 x).length : Int)) ∧ Cel w' b 56 [(0, 1, [I n]), (1, 1, [s'])] ∧ Es entS 0 60 w' s' (es.filter fun x => !ltE m1 x) ∧ SF w s.ownBlock s'.ownBlock ∧ Ap (some b) s'.ownBlock ∧ Tn [some b, s.ownBlock] w w') := by
  have hmx := Er.max (Es.rd ho)
  have hfl := List.length_filter_le (fun x => !ltE m1 x) es
  have e0 := Tn.refl [(some b), s.ownBlock] w
  refine C.enter Try.func15 rfl Try.ntmps15 rfl ?_
  refine J.seq ?_
  refine J.region ?_
  refine J.eff (Ye.box (S := [(0, 1, [I m1])]) rfl (by simp [SegAll, SegOK, Value.cells])) rfl ?_
  rintro _ w1 ⟨b3_0, rfl, hb_, c3_0, x1⟩
  have ap_s_b3_0 : Ap s.ownBlock (some b3_0) := Ap.mk (Es.live ho) (Fr.blk hb_)
  have ap_b_b3_0 : Ap (some b) (some b3_0) := Ap.mk (Cel.live hc) (Fr.blk hb_)
  have fr_b3_0 : Fr w.heap.size (some b3_0) := Fr.le (Fr.blk hb_) e0.size
  have e0 := Tn.ext e0 x1
  have ho := ho.ext x1
  have hc := hc.ext x1
  clear x1 hb_
  refine J.op (Yd.assign rfl) rfl ?_
  refine J.nil ?_
  refine J.n_then ?_
  refine J.seq ?_
  refine J.region ?_
  refine J.op (Yd.move rfl) rfl ?_
  refine J.eff (Ye.call cl13 rfl (Len_ok hc (Es.rd ho))) rfl ?_
  rintro _ w2 ⟨rfl, x1⟩
  have e0 := Tn.ext e0 x1
  have ho := ho.ext x1
  have hc := hc.ext x1
  have c3_0 := c3_0.ext x1
  clear x1
  refine J.op (Yd.assign rfl) rfl ?_
  refine J.nil ?_
  refine J.n_then ?_
  refine J.seq ?_
  refine J.seq ?_
  refine J.region ?_
  refine J.op (Yd.move rfl) rfl ?_
  refine J.op (Yd.cast (Yd.nePn Try.underlying23 rfl rfl) (show _ = Value.bool true from rfl)) rfl ?_
  refine J.nil ?_
  refine J.n_then ?_
  refine J.cond_true rfl ?_
  refine J.region ?_
  refine J.op (Yd.move rfl) rfl ?_
  refine J.op (Yd.move rfl) rfl ?_
  refine J.op (Yd.nilCheck rfl) rfl ?_
  refine J.op (Yd.cast (Yd.fieldA Try.underlying56 rfl ti54 rfl rfl) (show _ = Value.pointer (some ⟨b, 1, none⟩) from rfl)) rfl ?_
  refine J.op (Yd.load pl54 rfl (Cel.cell1 hc 1 rfl)) rfl ?_
  refine J.op (Yd.mkFuncC rfl rfl) rfl ?_
  refine J.eff (Ye.call cl27 rfl (DelF_any c3_0 (Ap.symm ap_s_b3_0) h1 ho)) rfl ?_
  rintro s16_3 w3 ⟨os16_3, hsf, x1⟩
  have hsf_s16_3 : SF w s.ownBlock s16_3.ownBlock := SF.le hsf e0.size
  have ap_b_s16_3 : Ap (some b) s16_3.ownBlock := Ap.sf hap (Cel.live hc) hsf
  have ap_b3_0_s16_3 : Ap (some b3_0) s16_3.ownBlock := Ap.sf (Ap.symm ap_s_b3_0) (Cel.live c3_0) hsf
  have hc := Cel.tnk hc x1 (ApL.one hap)
  have c3_0 := Cel.tnk c3_0 x1 (ApL.one (Ap.symm ap_s_b3_0))
  have e0 := Tn.tnk e0 (fun q hq => by simp only [List.mem_singleton] at hq; subst hq; exact .inl (by simp)) x1
  clear x1
  clear hsf
  refine J.op (Yd.nilCheck rfl) rfl ?_
  refine J.op (Yd.cast (Yd.fieldA Try.underlying56 rfl ti54 rfl rfl) (show _ = Value.pointer (some ⟨b, 1, none⟩) from rfl)) rfl ?_
  refine J.eff0 (Ye.store1 ti54 hc 1 rfl rfl rfl rfl (Er.cells (Es.rd os16_3)) (Er.one (Es.rd os16_3))) ?_
  rintro _ w4 ⟨cX, hu⟩
  simp only [List.set_cons_zero, List.set_cons_succ] at cX
  have hg := hu.gb
  have c3_0 := Cel.gbk c3_0 hg (Ap.symm ap_b_b3_0)
  have os16_3 := Es.gbk os16_3 hg (Ap.symm ap_b_s16_3)
  have e0 := Tn.gbk e0 (.inl (by simp)) hg
  clear hg
  replace hc := cX
  clear cX hu
  refine J.nil ?_
  refine J.n_then ?_
  refine J.seq ?_
  refine J.region ?_
  refine J.op (Yd.move rfl) rfl ?_
  refine J.op (Yd.move rfl) rfl ?_
  refine J.eff (Ye.call cl13 rfl (Len_ok hc (Es.rd os16_3))) rfl ?_
  rintro _ w5 ⟨rfl, x1⟩
  have e0 := Tn.ext e0 x1
  have hc := hc.ext x1
  have c3_0 := c3_0.ext x1
  have os16_3 := os16_3.ext x1
  clear x1
  refine J.op (Yd.sub rfl rfl (by first | omega | exact idx_u8' _ | (simp only [Int.toNat_natCast]; omega) | (simp only [List.length_map, List.length_drop, List.length_take, List.length_append, List.length_replicate]; omega) | (simp <;> omega))) rfl ?_
  refine J.op (Yd.assign rfl) rfl ?_
  refine J.nil ?_
  refine J.n_then ?_
  refine J.ret ?_
  exact J.ret1 rfl rfl (⟨_, rfl, s16_3, rfl, hc, os16_3, hsf_s16_3, ap_b_s16_3, e0⟩)

theorem ForgetNil_ok {m1 : Int} {w : World} : C Try.prog 15 [.pointer none, I m1] w (Ret fun v w' => v = I 0 ∧ Ext w w') := by
  have e0 := Ext.refl w
  refine C.enter Try.func15 rfl Try.ntmps15 rfl ?_
  refine J.seq ?_
  refine J.region ?_
  refine J.eff (Ye.box (S := [(0, 1, [I m1])]) rfl (by simp [SegAll, SegOK, Value.cells])) rfl ?_
  rintro _ w1 ⟨b3_0, rfl, hb_, c3_0, x1⟩
  have fr_b3_0 : Fr w.heap.size (some b3_0) := Fr.le (Fr.blk hb_) e0.size
  have e0 := e0.trans x1
  clear x1 hb_
  refine J.op (Yd.assign rfl) rfl ?_
  refine J.nil ?_
  refine J.n_then ?_
  refine J.seq ?_
  refine J.region ?_
  refine J.op (Yd.move rfl) rfl ?_
  refine J.eff (Ye.call cl13 rfl (LenNil_ok)) rfl ?_
  rintro _ w2 ⟨rfl, x1⟩
  have e0 := e0.trans x1
  have c3_0 := c3_0.ext x1
  clear x1
  refine J.op (Yd.assign rfl) rfl ?_
  refine J.nil ?_
  refine J.n_then ?_
  refine J.seq ?_
  refine J.seq ?_
  refine J.region ?_
  refine J.op (Yd.move rfl) rfl ?_
  refine J.op (Yd.cast (Yd.nePn Try.underlying23 rfl rfl) (show _ = Value.bool false from rfl)) rfl ?_
  refine J.nil ?_
  refine J.n_then ?_
  refine J.cond_false rfl ?_
  refine J.skip ?_
  refine J.n_then ?_
  refine J.seq ?_
  refine J.region ?_
  refine J.op (Yd.move rfl) rfl ?_
  refine J.op (Yd.move rfl) rfl ?_
  refine J.eff (Ye.call cl13 rfl (LenNil_ok)) rfl ?_
  rintro _ w3 ⟨rfl, x1⟩
  have e0 := e0.trans x1
  have c3_0 := c3_0.ext x1
  clear x1
  refine J.op (Yd.sub rfl rfl (by first | omega | exact idx_u8' _ | (simp only [Int.toNat_natCast]; omega) | (simp only [List.length_map, List.length_drop, List.length_take, List.length_append, List.length_replicate]; omega) | (simp <;> omega))) rfl ?_
  refine J.op (Yd.assign rfl) rfl ?_
  refine J.nil ?_
  refine J.n_then ?_
  refine J.ret ?_
  exact J.ret1 rfl rfl (⟨_, rfl, rfl, e0⟩)
end Ytfefphcmfhabiaa
end Go.Proofs
