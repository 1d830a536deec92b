import Derived.Test.YtfefphcmfhabiaaT
import Derived.Test.YtfefphcmfhabiaaJ3
set_option linter.unusedVariables false
set_option linter.unusedSimpArgs false
set_option maxRecDepth 100000
set_option maxHeartbeats 4000000
namespace Go.Proofs
open Go.X Go.RowKit
namespace Ytfefphcmfhabiaa
theorem Delete_any {base i j : Nat} {s : Value} {es : List Ent} {w : World} (h1 : ∀ x ∈ es, x.2.2.oneCell' = true) (ho : Es entS base 60 w s es) (hij : i < j) (hj : j ≤ es.length) : C Try.prog 25 [s, I (i : Int), I (j : Int)] w (Ret fun u w' => Es entS base 60 w' u ((es.take i) ++ (es.drop j)) ∧ SF w s.ownBlock u.ownBlock ∧ Tn [s.ownBlock] w w') := by
  obtain ⟨g, c, rfl, hgc⟩ := Es.expl ho (by omega)
  exact (Delete_ok (ent_one h1) ho hij hj).ret fun u w' h => by obtain ⟨rfl, h2, h3⟩ := h; exact ⟨h2, fun k hk => .inl hk, h3⟩
theorem At_is {b : Nat} {n : Int} {s : Value} {es : List Ent} {m1 m2 q : Int} {w : World} (hc : Cel w b 56 [(0, 1, [I n]), (1, 1, [s])]) (hr : Er entS w s es) (hq : idxI (eqE m1 m2) es = q) : C Try.prog 26 [.pointer (some ⟨b, 0, none⟩), I m1, I m2] w (Ret fun v w' => v = I q ∧ Ext w w') := hq ▸ At_ok hc hr
theorem Has_is {b : Nat} {n : Int} {s : Value} {es : List Ent} {m1 m2 : Int} {t : Bool} {w : World} (hc : Cel w b 56 [(0, 1, [I n]), (1, 1, [s])]) (hr : Er entS w s es) (hq : decide (idxI (eqE m1 m2) es ≥ 0) = t) : C Try.prog 16 [.pointer (some ⟨b, 0, none⟩), I m1, I m2] w (Ret fun v w' => v = .bool t ∧ Ext w w') := hq ▸ Has_ok hc hr

theorem Take_yes {b : Nat} {n : Int} {s : Value} {es : List Ent} {m1 m2 : Int} {k : Nat} {w : World} (hc : Cel w b 56 [(0, 1, [I n]), (1, 1, [s])]) (ho : Es entS 0 60 w s es) (hap : Ap (some b) s.ownBlock) (h1 : ∀ x ∈ es, x.2.2.oneCell' = true) (hk : k < es.length) (hq : idxI (eqE m1 m2) es = (k : Int)) : C Try.prog 12 [.pointer (some ⟨b, 0, none⟩), I m1, I m2] w (Ret fun u w' => ∃ s', u = .tuple #[(es.getD k entD).2.2, I 0] ∧ Cel w' b 56 [(0, 1, [I n]), (1, 1, [s'])] ∧ Es entS 0 60 w' s' (es.take k ++ es.drop (k + 1)) ∧ SF w s.ownBlock s'.ownBlock ∧ Ap (some b) s'.ownBlock ∧ Tn [some b, s.ownBlock] w w') := by
  have hmx := Er.max (Es.rd ho)
  have e0 := Tn.refl [(some b), s.ownBlock] w
  refine C.enter Try.func12 rfl Try.ntmps12 rfl ?_
  refine J.seq ?_
  refine J.region ?_
  refine J.op (Yd.assign rfl) rfl ?_
  refine J.op (Yd.assign rfl) rfl ?_
  refine J.nil ?_
  refine J.n_then ?_
  refine J.seq ?_
  refine J.region ?_
  refine J.op (Yd.move rfl) rfl ?_
  refine J.op (Yd.move rfl) rfl ?_
  refine J.op (Yd.move rfl) rfl ?_
  refine J.eff (Ye.call cl26 rfl (At_is hc (Es.rd ho) hq)) rfl ?_
  rintro _ w1 ⟨rfl, x1⟩
  have e0 := Tn.ext e0 x1
  have ho := ho.ext x1
  have hc := hc.ext x1
  clear x1
  refine J.op (Yd.assign rfl) rfl ?_
  refine J.nil ?_
  refine J.n_then ?_
  refine J.seq ?_
  refine J.seq ?_
  refine J.region ?_
  refine J.op (Yd.move rfl) rfl ?_
  refine J.op (Yd.lss rfl rfl) rfl ?_
  refine J.nil ?_
  refine J.n_then ?_
  refine J.know (t := 15) (v' := .bool false) rfl (ff (by omega)) ?_
  refine J.cond_false rfl ?_
  refine J.skip ?_
  refine J.n_then ?_
  refine J.seq ?_
  refine J.region ?_
  refine J.op (Yd.move rfl) rfl ?_
  refine J.op (Yd.nilCheck rfl) rfl ?_
  refine J.op (Yd.cast (Yd.fieldA Try.underlying56 rfl ti54 rfl rfl) (show _ = Value.pointer (some ⟨b, 1, none⟩) from rfl)) rfl ?_
  refine J.op (Yd.load pl54 rfl (Cel.cell1 hc 1 rfl)) rfl ?_
  refine J.op (Yd.move rfl) rfl ?_
  refine J.op (Yd.idxE (K := entS) Try.underlying54 ti60 rfl rfl (Es.rd ho) (by first | omega | exact idx_u8' _ | (simp only [Int.toNat_natCast]; omega) | (simp only [List.length_map, List.length_drop, List.length_take, List.length_append, List.length_replicate]; omega) | (simp <;> omega))) rfl ?_
  refine J.op (Yd.fieldE (K := entS) (Es.rd ho) (by omega) Try.underlying60 rfl ti29 rfl rfl) rfl ?_
  refine J.op (Yd.loadFd (K := entS) entD pl29 rfl (Es.rd ho) (by first | omega | exact idx_u8' _ | (simp only [Int.toNat_natCast]; omega) | (simp only [List.length_map, List.length_drop, List.length_take, List.length_append, List.length_replicate]; omega) | (simp <;> omega)) rfl) rfl ?_
  refine J.op (Yd.assign rfl) rfl ?_
  refine J.nil ?_
  refine J.n_then ?_
  refine J.seq ?_
  refine J.region ?_
  refine J.op (Yd.move rfl) rfl ?_
  refine J.op (Yd.move rfl) rfl ?_
  refine J.op (Yd.nilCheck rfl) rfl ?_
  refine J.op (Yd.cast (Yd.fieldA Try.underlying56 rfl ti54 rfl rfl) (show _ = Value.pointer (some ⟨b, 1, none⟩) from rfl)) rfl ?_
  refine J.op (Yd.load pl54 rfl (Cel.cell1 hc 1 rfl)) rfl ?_
  refine J.op (Yd.move rfl) rfl ?_
  refine J.op (Yd.move rfl) rfl ?_
  refine J.op (Yd.add rfl rfl (by first | omega | exact idx_u8' _ | (simp only [Int.toNat_natCast]; omega) | (simp only [List.length_map, List.length_drop, List.length_take, List.length_append, List.length_replicate]; omega) | (simp <;> omega))) rfl ?_
  refine J.eff (Ye.call cl25 rfl (Delete_any (i := k) (j := k + 1) h1 ho (by omega) (by omega))) rfl ?_
  rintro s32_2 w2 ⟨os32_2, hsf, x1⟩
  have hsf_s32_2 : SF w s.ownBlock s32_2.ownBlock := SF.le hsf e0.size
  have ap_b_s32_2 : Ap (some b) s32_2.ownBlock := Ap.sf hap (Cel.live hc) hsf
  have hc := Cel.tnk hc x1 (ApL.one hap)
  have e0 := Tn.tnk e0 (fun q hq => by simp only [List.mem_singleton] at hq; subst hq; exact .inl (by simp)) x1
  clear x1
  clear hsf
  refine J.op (Yd.nilCheck rfl) rfl ?_
  refine J.op (Yd.cast (Yd.fieldA Try.underlying56 rfl ti54 rfl rfl) (show _ = Value.pointer (some ⟨b, 1, none⟩) from rfl)) rfl ?_
  refine J.eff0 (Ye.store1 ti54 hc 1 rfl rfl rfl rfl (Er.cells (Es.rd os32_2)) (Er.one (Es.rd os32_2))) ?_
  rintro _ w3 ⟨cX, hu⟩
  simp only [List.set_cons_zero, List.set_cons_succ] at cX
  have hg := hu.gb
  have os32_2 := Es.gbk os32_2 hg (Ap.symm ap_b_s32_2)
  have e0 := Tn.gbk e0 (.inl (by simp)) hg
  clear hg
  replace hc := cX
  clear cX hu
  refine J.nil ?_
  refine J.n_then ?_
  refine J.seq ?_
  refine J.region ?_
  refine J.op (Yd.move rfl) rfl ?_
  refine J.op (Yd.assign rfl) rfl ?_
  refine J.op (Yd.assign rfl) rfl ?_
  refine J.nil ?_
  refine J.n_then ?_
  refine J.ret ?_
  exact J.ret2 rfl rfl rfl (⟨_, rfl, s32_2, rfl, hc, os32_2, hsf_s32_2, ap_b_s32_2, e0⟩)

theorem Take_no {b : Nat} {n : Int} {s : Value} {es : List Ent} {m1 m2 : Int} {w : World} (hc : Cel w b 56 [(0, 1, [I n]), (1, 1, [s])]) (hr : Er entS w s es) (hq : idxI (eqE m1 m2) es = -1) : C Try.prog 12 [.pointer (some ⟨b, 0, none⟩), I m1, I m2] w (Ret fun v w' => v = .tuple #[nilS, I 7] ∧ Ext w w') := by
  have e0 := Ext.refl w
  refine C.enter Try.func12 rfl Try.ntmps12 rfl ?_
  refine J.seq ?_
  refine J.region ?_
  refine J.op (Yd.assign rfl) rfl ?_
  refine J.op (Yd.assign rfl) rfl ?_
  refine J.nil ?_
  refine J.n_then ?_
  refine J.seq ?_
  refine J.region ?_
  refine J.op (Yd.move rfl) rfl ?_
  refine J.op (Yd.move rfl) rfl ?_
  refine J.op (Yd.move rfl) rfl ?_
  refine J.eff (Ye.call cl26 rfl (At_is hc hr hq)) rfl ?_
  rintro _ w1 ⟨rfl, x1⟩
  have e0 := e0.trans x1
  clear x1
  refine J.op (Yd.assign rfl) rfl ?_
  refine J.nil ?_
  refine J.n_then ?_
  refine J.seq ?_
  refine J.seq ?_
  refine J.region ?_
  refine J.op (Yd.move rfl) rfl ?_
  refine J.op (Yd.lss rfl rfl) rfl ?_
  refine J.nil ?_
  refine J.n_then ?_
  refine J.know (t := 15) (v' := .bool true) rfl (tt (by decide)) ?_
  refine J.cond_true rfl ?_
  refine J.seq ?_
  refine J.region ?_
  refine J.op (Yd.assign rfl) rfl ?_
  refine J.op (Yd.assign rfl) rfl ?_
  refine J.nil ?_
  refine J.n_then ?_
  refine J.ret ?_
  refine J.r_then ?_
  exact J.ret2 rfl rfl rfl (⟨_, rfl, rfl, e0⟩)

theorem TakeNil_ok {m1 m2 : Int} {w : World} : C Try.prog 12 [.pointer none, I m1, I m2] w (Ret fun v w' => v = .tuple #[nilS, I 7] ∧ Ext w w') := by
  have e0 := Ext.refl w
  refine C.enter Try.func12 rfl Try.ntmps12 rfl ?_
  refine J.seq ?_
  refine J.region ?_
  refine J.op (Yd.assign rfl) rfl ?_
  refine J.op (Yd.assign rfl) rfl ?_
  refine J.nil ?_
  refine J.n_then ?_
  refine J.seq ?_
  refine J.region ?_
  refine J.op (Yd.move rfl) rfl ?_
  refine J.op (Yd.move rfl) rfl ?_
  refine J.op (Yd.move rfl) rfl ?_
  refine J.eff (Ye.call cl26 rfl (AtNil_ok)) rfl ?_
  rintro _ w1 ⟨rfl, x1⟩
  have e0 := e0.trans x1
  clear x1
  refine J.op (Yd.assign rfl) rfl ?_
  refine J.nil ?_
  refine J.n_then ?_
  refine J.seq ?_
  refine J.seq ?_
  refine J.region ?_
  refine J.op (Yd.move rfl) rfl ?_
  refine J.op (Yd.lss rfl rfl) rfl ?_
  refine J.nil ?_
  refine J.n_then ?_
  refine J.know (t := 15) (v' := .bool true) rfl (tt (by decide)) ?_
  refine J.cond_true rfl ?_
  refine J.seq ?_
  refine J.region ?_
  refine J.op (Yd.assign rfl) rfl ?_
  refine J.op (Yd.assign rfl) rfl ?_
  refine J.nil ?_
  refine J.n_then ?_
  refine J.ret ?_
  refine J.r_then ?_
  exact J.ret2 rfl rfl rfl (⟨_, rfl, rfl, e0⟩)
end Ytfefphcmfhabiaa
end Go.Proofs
