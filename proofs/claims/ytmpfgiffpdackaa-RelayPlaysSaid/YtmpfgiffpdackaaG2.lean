import Derived.Test.YtmpfgiffpdackaaT
import Derived.Test.YtmpfgiffpdackaaG1
set_option linter.unusedVariables false
set_option linter.unusedSimpArgs false
set_option maxRecDepth 100000
set_option maxHeartbeats 4000000
namespace Go.Proofs
open Go.X Go.RowKit
namespace Ytmpfgiffpdackaa
theorem Delete_ok {base g c i j : Nat} {es : List Itm} {w : World} (h1 : ∀ x ∈ es, ∀ v ∈ itmS.c x, v.oneCell' = true) (ho : Es itmS base 36 w (.slice (some ⟨g, 0, none⟩) es.length c) es) (hij : i < j) (hj : j ≤ es.length) : C Try.prog 32 [.slice (some ⟨g, 0, none⟩) es.length c, I (i : Int), I (j : Int)] w (Ret fun u w' => u = .slice (some ⟨g, 0, none⟩) ((es.take i) ++ (es.drop j)).length c ∧ Es itmS base 36 w' (.slice (some ⟨g, 0, none⟩) ((es.take i) ++ (es.drop j)).length c) ((es.take i) ++ (es.drop j)) ∧ Tn [some g] w w') := by
  have hrm := Es.room ho
  have e0 := Tn.refl [(some g)] w
  refine C.enter Try.func32 rfl Try.ntmps32 rfl ?_
  refine J.seq ?_
  refine J.region ?_
  refine J.op (Yd.assign rfl) rfl ?_
  refine J.nil ?_
  refine J.n_then ?_
  refine J.seq ?_
  refine J.region ?_
  refine J.op (Yd.move rfl) rfl ?_
  refine J.op (Yd.move rfl) rfl ?_
  refine J.op (Yd.move rfl) rfl ?_
  refine J.op (Yd.move rfl) rfl ?_
  refine J.op (Yd.lenE (K := itmS) Try.underlying31 rfl (Es.rd ho)) rfl ?_
  refine J.op (Yd.slE_lhm (K := itmS) Try.underlying31 ti36 rfl rfl rfl rfl (by omega)) rfl ?_
  refine J.nil ?_
  refine J.n_then ?_
  refine J.seq ?_
  refine J.seq ?_
  refine J.region ?_
  refine J.op (Yd.move rfl) rfl ?_
  refine J.op (Yd.move rfl) rfl ?_
  refine J.op (Yd.eql rfl rfl) rfl ?_
  refine J.nil ?_
  refine J.n_then ?_
  refine J.know (t := 16) (v' := .bool false) rfl (ff (by omega)) ?_
  refine J.cond_false rfl ?_
  refine J.skip ?_
  refine J.n_then ?_
  refine J.seq ?_
  refine J.region ?_
  refine J.op (Yd.move rfl) rfl ?_
  refine J.op (Yd.lenE (K := itmS) Try.underlying31 rfl (Es.rd ho)) rfl ?_
  refine J.op (Yd.assign rfl) rfl ?_
  refine J.nil ?_
  refine J.n_then ?_
  refine J.seq ?_
  refine J.regionA [(0, true), (1, true), (3, true), (4, true)] [(2, Asr.v 22 (.slice (some ⟨g, 0, none⟩) (es.take i).length c)), (5, Asr.v 25 (slE itmS (.slice (some ⟨g, 0, none⟩) es.length c) j es.length))] [2, 5] [22, 25] [[], []] [(6, false), (7, true)] rfl rfl mix (by kernel_rfl) ?_
  refine J.s_op rfl (fun _ => Yd.move rfl) rfl ?_
  refine J.s_op rfl (fun _ => Yd.move rfl) rfl ?_
  refine J.s_op rfl (fun _ => Yd.move rfl) rfl ?_
  refine J.s_op rfl (fun _ => Yd.move rfl) rfl ?_
  refine J.s_nil ?_
  refine J.a_in [0, 1] rfl (by rfl) ⟨?_, ?_, trivial⟩ ?_
  · skip
    intro w1 x1
    have xs1 := x1.size
    have e0 := Tn.ext e0 x1
    have ho := ho.ext x1
    clear x1
    refine PremP.nil ?_
    exact OpYe.val rfl (Yd.cast (Yd.slE_h (K := itmS) Try.underlying31 ti36 rfl rfl (by omega)) (slX_h (by omega)))
  · skip
    intro w2 x1
    have xs1 := x1.size
    have e0 := Tn.ext e0 x1
    have ho := ho.ext x1
    clear x1
    refine PremP.nil ?_
    exact OpYe.val rfl (Yd.cast (Yd.slE_l (K := itmS) Try.underlying31 ti36 rfl rfl (by omega)) (by rw [Int.toNat_natCast]))
  intro w3 x1
  refine PremP.v rfl ?_
  refine PremP.v rfl ?_
  have xs1 := x1.size
  have e0 := Tn.ext e0 x1
  have ho := ho.ext x1
  clear x1
  refine PremP.nil ?_
  refine J.s_eff rfl (Ye.appendIn (K := itmS) (es := (es.take i)) (fs := (es.drop j)) Try.underlying31 ti36 rfl rfl (Es.pre ho (by omega)) (by have h9 := Er.slc (Es.rd ho) (l := j) (h := es.length) (by omega) (Nat.le_refl _); rw [List.take_length] at h9; exact h9) slE_some (fun x hx => h1 x (List.mem_of_mem_drop hx)) (by have h8 := Es.room ho; simp only [List.length_take, List.length_drop]; omega)) rfl ?_
  rintro _ w4 ⟨rfl, ho2, hg⟩
  have e0 := Tn.gbk e0 (.inl (by simp)) hg
  clear hg
  refine J.s_op rfl (fun _ => Yd.assign rfl) rfl ?_
  refine J.s_nil ?_
  refine J.n_np ?_
  refine J.n_then ?_
  refine J.seq ?_
  refine J.region ?_
  refine J.op (Yd.move rfl) rfl ?_
  refine J.op (Yd.move rfl) rfl ?_
  refine J.op (Yd.lenE (K := itmS) Try.underlying31 rfl (Es.rd ho2)) rfl ?_
  refine J.op (Yd.move rfl) rfl ?_
  refine J.op (Yd.cast (Yd.slE_lh (K := itmS) Try.underlying31 ti36 rfl rfl rfl (by simp only [List.length_append, List.length_take, List.length_drop]; omega)) (slX_lh (by simp only [List.length_append, List.length_take, List.length_drop]; omega))) rfl ?_
  refine J.eff0 (Ye.clearX (K := itmS) Try.underlying31 ti36 rfl (by intro v hv; change v ∈ [I 0, Str [], I 0, nilS] at hv; simp only [List.mem_cons, List.mem_nil_iff, or_false] at hv; rcases hv with rfl | rfl | rfl | rfl <;> rfl) ho2 rfl (by have h8 := Es.room ho2; simp only [List.length_append, List.length_take, List.length_drop] at h8 ⊢; omega)) ?_
  rintro _ w5 ⟨ho2, hg⟩
  have e0 := Tn.gbk e0 (.inl (by simp)) hg
  clear hg
  refine J.nil ?_
  refine J.n_then ?_
  refine J.seq ?_
  refine J.region ?_
  refine J.op (Yd.move rfl) rfl ?_
  refine J.op (Yd.assign rfl) rfl ?_
  refine J.nil ?_
  refine J.n_then ?_
  refine J.ret ?_
  exact J.ret1 rfl rfl (⟨_, rfl, rfl, ho2, e0⟩)

theorem Delete_any {base i j : Nat} {s : Value} {es : List Itm} {w : World} (h1 : ∀ x ∈ es, x.2.2.2.oneCell' = true) (ho : Es itmS base 36 w s es) (hij : i < j) (hj : j ≤ es.length) : C Try.prog 32 [s, I (i : Int), I (j : Int)] w (Ret fun u w' => Es itmS base 36 w' u ((es.take i) ++ (es.drop j)) ∧ SF w s.ownBlock u.ownBlock ∧ Tn [s.ownBlock] w w') := by
  obtain ⟨g, c, rfl, hgc⟩ := Es.expl ho (by omega)
  exact (Delete_ok (itm_one h1) ho hij hj).ret fun u w' h => by obtain ⟨rfl, h2, h3⟩ := h; exact ⟨h2, fun k hk => .inl hk, h3⟩
end Ytmpfgiffpdackaa
end Go.Proofs
