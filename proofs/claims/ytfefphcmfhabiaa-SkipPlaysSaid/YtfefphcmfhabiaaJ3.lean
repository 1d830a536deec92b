import Derived.Test.YtfefphcmfhabiaaT
import Derived.Test.YtfefphcmfhabiaaJ2
set_option linter.unusedVariables false
set_option linter.unusedSimpArgs false
set_option maxRecDepth 100000
set_option maxHeartbeats 4000000
namespace Go.Proofs
open Go.X Go.RowKit
namespace Ytfefphcmfhabiaa
theorem Clone_ok {a : Value} {l : List UInt8} {w : World} (ha : Bs w a l) (hl : l.length ≤ 70368744177664) : C Try.prog 24 [a] w (Ret fun v w' => Ob w.heap.size 5 w' v l ∧ Ext w w') := by
  have e0 := Ext.refl w
  refine C.enter Try.func24 rfl Try.ntmps24 rfl ?_
  refine J.seq ?_
  refine J.region ?_
  refine J.op (Yd.assign rfl) rfl ?_
  refine J.nil ?_
  refine J.n_then ?_
  refine J.seq ?_
  refine J.seq ?_
  refine J.region ?_
  refine J.op (Yd.move rfl) rfl ?_
  refine J.op (Yd.eqNil Try.underlying29 rfl rfl ha) rfl ?_
  refine J.nil ?_
  refine J.n_then ?_
  refine J.cond rfl (fun hc0 => ?_) (fun hc0 => ?_)
  · skip
    refine J.seq ?_
    refine J.region ?_
    refine J.op (Yd.assign rfl) rfl ?_
    refine J.nil ?_
    refine J.n_then ?_
    refine J.ret ?_
    refine J.r_then ?_
    exact J.ret1 rfl rfl (⟨_, rfl, by have h9 := isNilS_nil ha hc0; simp at h9; subst h9; exact Ow.nil _ _ _, e0⟩)
  · skip
    refine J.skip ?_
    refine J.n_then ?_
    refine J.seq ?_
    refine J.region ?_
    refine J.eff (Ye.lit0 (base := w.heap.size) (f := (fun x : UInt8 => B x)) Try.underlying29 ti5 rfl (Nat.le_refl _)) rfl ?_
    rintro s5_1 w1 ⟨o5_1, x1⟩
    have fr_s5_1 : Fr w.heap.size s5_1.ownBlock := Fr.le (Ow.fr o5_1) e0.size
    replace o5_1 := Ow.base o5_1 e0.size
    have e0 := e0.trans x1
    clear x1
    refine J.op (Yd.move rfl) rfl ?_
    refine J.eff (Ye.appendS Try.underlying29 ti5 rfl rfl rfl rfl o5_1 (Rd.ext ha e0) (fun _ => rfl) (by first | omega | exact idx_u8' _ | (simp only [Int.toNat_natCast]; omega) | (simp only [List.length_map, List.length_drop, List.length_take, List.length_append, List.length_replicate]; omega) | (simp <;> omega)) e0.size) rfl ?_
    rintro s7_2 w2 ⟨o7_2, hg, hsf⟩
    have fr_s7_2 : Fr w.heap.size s7_2.ownBlock := Fr.sf fr_s5_1 hsf e0.size
    have e0 := Ext.gbk e0 fr_s5_1 hg
    clear hg hsf
    rw [List.nil_append] at o7_2
    refine J.op (Yd.assign rfl) rfl ?_
    refine J.nil ?_
    refine J.n_then ?_
    refine J.ret ?_
    exact J.ret1 rfl rfl (⟨_, rfl, o7_2, e0⟩)

theorem New_yes {n : Int} {w : World} (hn : 1 ≤ n ∧ n ≤ 1000) : C Try.prog 9 [I n] w (Ret fun u w' => ∃ b, u = .tuple #[.pointer (some ⟨b, 0, none⟩), I 0] ∧ w.heap.size ≤ b ∧ Cel w' b 56 [(0, 1, [I n]), (1, 1, [nilS])] ∧ Ext w w') := by
  have e0 := Ext.refl w
  refine C.enter Try.func9 rfl Try.ntmps9 rfl ?_
  refine J.seq ?_
  refine J.region ?_
  refine J.op (Yd.assign rfl) rfl ?_
  refine J.op (Yd.assign rfl) rfl ?_
  refine J.nil ?_
  refine J.n_then ?_
  refine J.seq ?_
  refine J.seq ?_
  refine J.region ?_
  refine J.op (Yd.move rfl) rfl ?_
  refine J.op (Yd.lss rfl rfl) rfl ?_
  refine J.op (Yd.move rfl) rfl ?_
  refine J.know (t := 6) (v' := .bool false) rfl (ff (by omega)) ?_
  refine J.op_g rfl rfl rfl (Yd.move rfl) rfl ?_
  refine J.op_g rfl rfl rfl (Yd.gtr rfl rfl) rfl ?_
  refine J.op (Yd.pick_f rfl rfl) rfl ?_
  refine J.nil ?_
  refine J.n_then ?_
  refine J.know (t := 9) (v' := .bool false) rfl (ff (by omega)) ?_
  refine J.cond_false rfl ?_
  refine J.skip ?_
  refine J.n_then ?_
  refine J.seq ?_
  refine J.region ?_
  refine J.op (Yd.move rfl) rfl ?_
  refine J.op (Yd.buildS (cells := #[I n, nilS]) (pl := [(0, 1), (1, 1)]) Try.underlying56 (by kernel_rfl) ti56 rfl (by kernel_rfl)) rfl ?_
  refine J.eff (Ye.box (S := [(0, 1, [I n]), (1, 1, [nilS])]) rfl (by simp [SegAll, SegOK, Value.cells])) rfl ?_
  rintro _ w1 ⟨b12_0, rfl, hb_, c12_0, x1⟩
  have fr_b12_0 : Fr w.heap.size (some b12_0) := Fr.le (Fr.blk hb_) e0.size
  have e0 := e0.trans x1
  clear x1 hb_
  refine J.op (Yd.assign rfl) rfl ?_
  refine J.op (Yd.assign rfl) rfl ?_
  refine J.nil ?_
  refine J.n_then ?_
  refine J.ret ?_
  exact J.ret2 rfl rfl rfl (⟨_, rfl, b12_0, rfl, fr_b12_0 _ rfl, c12_0, e0⟩)

theorem New_no {n : Int} {w : World} (hn : n < 1) : C Try.prog 9 [I n] w (Ret fun v w' => v = .tuple #[.pointer none, I 1] ∧ Ext w w') := by
  have e0 := Ext.refl w
  refine C.enter Try.func9 rfl Try.ntmps9 rfl ?_
  refine J.seq ?_
  refine J.region ?_
  refine J.op (Yd.assign rfl) rfl ?_
  refine J.op (Yd.assign rfl) rfl ?_
  refine J.nil ?_
  refine J.n_then ?_
  refine J.seq ?_
  refine J.seq ?_
  refine J.region ?_
  refine J.op (Yd.move rfl) rfl ?_
  refine J.op (Yd.lss rfl rfl) rfl ?_
  refine J.op (Yd.move rfl) rfl ?_
  refine J.know (t := 6) (v' := .bool true) rfl (tt (by omega)) ?_
  refine J.not_g rfl rfl rfl rfl rfl ?_
  refine J.not_g rfl rfl rfl rfl rfl ?_
  refine J.op (Yd.pick_t rfl rfl) rfl ?_
  refine J.nil ?_
  refine J.n_then ?_
  refine J.cond_true rfl ?_
  refine J.seq ?_
  refine J.region ?_
  refine J.op (Yd.assign rfl) rfl ?_
  refine J.op (Yd.assign rfl) rfl ?_
  refine J.nil ?_
  refine J.n_then ?_
  refine J.ret ?_
  refine J.r_then ?_
  exact J.ret2 rfl rfl rfl (⟨_, rfl, rfl, e0⟩)

theorem Delete_ok {base g c i j : Nat} {es : List Ent} {w : World} (h1 : ∀ x ∈ es, ∀ v ∈ entS.c x, v.oneCell' = true) (ho : Es entS base 60 w (.slice (some ⟨g, 0, none⟩) es.length c) es) (hij : i < j) (hj : j ≤ es.length) : C Try.prog 25 [.slice (some ⟨g, 0, none⟩) es.length c, I (i : Int), I (j : Int)] w (Ret fun u w' => u = .slice (some ⟨g, 0, none⟩) ((es.take i) ++ (es.drop j)).length c ∧ Es entS base 60 w' (.slice (some ⟨g, 0, none⟩) ((es.take i) ++ (es.drop j)).length c) ((es.take i) ++ (es.drop j)) ∧ Tn [some g] w w') := by
  have hrm := Es.room ho
  have e0 := Tn.refl [(some g)] w
  refine C.enter Try.func25 rfl Try.ntmps25 rfl ?_
  refine J.seq ?_
  refine J.region ?_
  refine J.op (Yd.assign rfl) rfl ?_
  refine J.nil ?_
  refine J.n_then ?_
  refine J.seq ?_
  refine J.region ?_
  refine J.op (Yd.move rfl) rfl ?_
  refine J.op (Yd.move rfl) rfl ?_
  refine J.op (Yd.move rfl) rfl ?_
  refine J.op (Yd.move rfl) rfl ?_
  refine J.op (Yd.lenE (K := entS) Try.underlying54 rfl (Es.rd ho)) rfl ?_
  refine J.op (Yd.slE_lhm (K := entS) Try.underlying54 ti60 rfl rfl rfl rfl (by omega)) rfl ?_
  refine J.nil ?_
  refine J.n_then ?_
  refine J.seq ?_
  refine J.seq ?_
  refine J.region ?_
  refine J.op (Yd.move rfl) rfl ?_
  refine J.op (Yd.move rfl) rfl ?_
  refine J.op (Yd.eql rfl rfl) rfl ?_
  refine J.nil ?_
  refine J.n_then ?_
  refine J.know (t := 16) (v' := .bool false) rfl (ff (by omega)) ?_
  refine J.cond_false rfl ?_
  refine J.skip ?_
  refine J.n_then ?_
  refine J.seq ?_
  refine J.region ?_
  refine J.op (Yd.move rfl) rfl ?_
  refine J.op (Yd.lenE (K := entS) Try.underlying54 rfl (Es.rd ho)) rfl ?_
  refine J.op (Yd.assign rfl) rfl ?_
  refine J.nil ?_
  refine J.n_then ?_
  refine J.seq ?_
  refine J.regionA [(0, true), (1, true), (3, true), (4, true)] [(2, Asr.v 22 (.slice (some ⟨g, 0, none⟩) (es.take i).length c)), (5, Asr.v 25 (slE entS (.slice (some ⟨g, 0, none⟩) es.length c) j es.length))] [2, 5] [22, 25] [[], []] [(6, false), (7, true)] rfl rfl mix (by kernel_rfl) ?_
  refine J.s_op rfl (fun _ => Yd.move rfl) rfl ?_
  refine J.s_op rfl (fun _ => Yd.move rfl) rfl ?_
  refine J.s_op rfl (fun _ => Yd.move rfl) rfl ?_
  refine J.s_op rfl (fun _ => Yd.move rfl) rfl ?_
  refine J.s_nil ?_
  refine J.a_in [0, 1] rfl (by rfl) ⟨?_, ?_, trivial⟩ ?_
  · skip
    intro w1 x1
    have xs1 := x1.size
    have e0 := Tn.ext e0 x1
    have ho := ho.ext x1
    clear x1
    refine PremP.nil ?_
    exact OpYe.val rfl (Yd.cast (Yd.slE_h (K := entS) Try.underlying54 ti60 rfl rfl (by omega)) (slX_h (by omega)))
  · skip
    intro w2 x1
    have xs1 := x1.size
    have e0 := Tn.ext e0 x1
    have ho := ho.ext x1
    clear x1
    refine PremP.nil ?_
    exact OpYe.val rfl (Yd.cast (Yd.slE_l (K := entS) Try.underlying54 ti60 rfl rfl (by omega)) (by rw [Int.toNat_natCast]))
  intro w3 x1
  refine PremP.v rfl ?_
  refine PremP.v rfl ?_
  have xs1 := x1.size
  have e0 := Tn.ext e0 x1
  have ho := ho.ext x1
  clear x1
  refine PremP.nil ?_
  refine J.s_eff rfl (Ye.appendIn (K := entS) (es := (es.take i)) (fs := (es.drop j)) Try.underlying54 ti60 rfl rfl (Es.pre ho (by omega)) (by have h9 := Er.slc (Es.rd ho) (l := j) (h := es.length) (by omega) (Nat.le_refl _); rw [List.take_length] at h9; exact h9) slE_some (fun x hx => h1 x (List.mem_of_mem_drop hx)) (by have h8 := Es.room ho; simp only [List.length_take, List.length_drop]; omega)) rfl ?_
  rintro _ w4 ⟨rfl, ho2, hg⟩
  have e0 := Tn.gbk e0 (.inl (by simp)) hg
  clear hg
  refine J.s_op rfl (fun _ => Yd.assign rfl) rfl ?_
  refine J.s_nil ?_
  refine J.n_np ?_
  refine J.n_then ?_
  refine J.seq ?_
  refine J.region ?_
  refine J.op (Yd.move rfl) rfl ?_
  refine J.op (Yd.move rfl) rfl ?_
  refine J.op (Yd.lenE (K := entS) Try.underlying54 rfl (Es.rd ho2)) rfl ?_
  refine J.op (Yd.move rfl) rfl ?_
  refine J.op (Yd.cast (Yd.slE_lh (K := entS) Try.underlying54 ti60 rfl rfl rfl (by simp only [List.length_append, List.length_take, List.length_drop]; omega)) (slX_lh (by simp only [List.length_append, List.length_take, List.length_drop]; omega))) rfl ?_
  refine J.eff0 (Ye.clearX (K := entS) Try.underlying54 ti60 rfl (by intro v hv; change v ∈ [I 0, I 0, nilS] at hv; simp only [List.mem_cons, List.mem_nil_iff, or_false] at hv; rcases hv with rfl | rfl | rfl <;> rfl) ho2 rfl (by have h8 := Es.room ho2; simp only [List.length_append, List.length_take, List.length_drop] at h8 ⊢; omega)) ?_
  rintro _ w5 ⟨ho2, hg⟩
  have e0 := Tn.gbk e0 (.inl (by simp)) hg
  clear hg
  refine J.nil ?_
  refine J.n_then ?_
  refine J.seq ?_
  refine J.region ?_
  refine J.op (Yd.move rfl) rfl ?_
  refine J.op (Yd.assign rfl) rfl ?_
  refine J.nil ?_
  refine J.n_then ?_
  refine J.ret ?_
  exact J.ret1 rfl rfl (⟨_, rfl, rfl, ho2, e0⟩)
end Ytfefphcmfhabiaa
end Go.Proofs
