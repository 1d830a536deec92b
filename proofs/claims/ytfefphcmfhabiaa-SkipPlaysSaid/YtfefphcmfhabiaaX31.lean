import Derived.Test.YtfefphcmfhabiaaX29
import Derived.Test.YtfefphcmfhabiaaX26
/-
  A region that draws its order, in which a call may panic.
-/
set_option linter.unusedVariables false
set_option linter.unusedSimpArgs false
namespace Go.X
open Go.RowKit
section
variable {P : Program} {ops : Array Oper} {Q : Exit → Act → World → Prop} {R : World → World → Prop}
theorem wp_region_ordP {id : Nat} {a : Act} {w : World} (l1 : List (Nat × Bool)) (l2 : List (Nat × Nat)) (l3 : List (Nat × Bool)) (hrefl : ∀ w, R w w) (htrans : ∀ a b c, R a b → R b c → R a c)
    (hm : P.follows .mixedOrders = true) (hB : ordB .any ops l1 l2 l3 = true) (hQ : ∀ c a w d v, Q (.panic c) (Act.put a d v) w → Q (.panic c) a w)
    (h : wpSeq P ops Q (wpOrd P ops Q R (wpSeq P ops Q (Q .normal) l3) l2) l1 a w.drew) : (Code.region id ops true).wp P Q a w := by
  simp only [ordB, Bool.and_eq_true] at hB
  obtain ⟨⟨⟨⟨⟨⟨⟨hsel, hlen⟩, hg1⟩, hg2⟩, hw⟩, ht⟩, hg3⟩, hend⟩ := hB
  have hlen' : l1.length + (lenOrd l2 + l3.length) = ops.size := Nat.eq_of_beq_eq_true hlen
  have inv0 : Inv .any ops [] #[] (Array.replicate ops.size false) := ⟨fun j oj _ hl => (by rw [getD_replicate_false] at hl; cases hl)⟩
  have hend' : Region.ready .any ops (listAll (listAll (listAll (Array.replicate ops.size false) l1) (namesOrd l2)) l3) = [] := by simpa using hend
  refine wp_region_any hm ?_
  suffices hh : wpAny P .any ops Q (l1.length + (lenOrd l2 + l3.length)) (Array.replicate ops.size false) a w.drew by rw [hlen'] at hh; exact hh
  refine wpAny_of_seq' (md := .any) (g := lenOrd l2 + l3.length) hsel hQ l1 _ a w.drew inv0 hg1 (fun a w inv1 hT => ?_) h
  have H := wpAnyM_of_ord (md := .any) (start := listAll (Array.replicate ops.size false) l1) hrefl htrans hsel hQ (waits_of hw)
    (fun m hm => List.all_eq_true.1 ht m hm) l2 _ a w ⟨inv1.closed⟩ (fun _ h => h) hg2 hT
  refine wpAny_of_M (Q := Q) (g := l3.length) (fun listed a' w' hL => ?_) _ _ _ _ H
  obtain ⟨rfl, hT3⟩ := hL
  have inv2 := inv_ord l2 _ hg2 inv1
  have := wpAny_of_seq' (md := .any) (g := 0) hsel hQ l3 _ a' w' inv2 hg3 (fun a w _ hT => ⟨hend', hT⟩) hT3
  simpa using this
end
section
variable {P : Program} {N : Nat} {ds : List Deferred} {σ : Env} {w : World} {Q : Exit → Act → World → Prop} {ops : Array Oper}
theorem J.regionGP {id : Nat} {ops : Array Oper} (R : World → World → Prop) [RelOK R] (l1 : List (Nat × Bool)) (l2 : List (Nat × Nat)) (l3 : List (Nat × Bool)) (hm : P.follows .mixedOrders = true) (hB : ordB .any ops l1 l2 l3 = true) (hQ : ∀ c a w d v, Q (.panic c) (Act.put a d v) w → Q (.panic c) a w)
    (h : J N ds σ (wpSeq P ops Q (wpOrd P ops Q R (wpSeq P ops Q (Q .normal) l3) l2) l1) w) : J N ds σ ((Code.region id ops true).wp P Q) w := fun a w' hf hs =>
  wp_region_ordP l1 l2 l3 RelOK.refl (fun _ _ _ h k => RelOK.trans h k) hm hB hQ (h a w'.drew hf (hs.trans (Same.drew w')))
theorem J.g_pan {R : World → World → Prop} {T : Act → World → Prop} {r : List (Nat × Nat)} {i : Nat} {op ty pos after Ψ d} (ho : ops[i]? = some ⟨d, op, ty, pos, after, none⟩) (hy : Yp P σ op ty w Ψ) (h : ∀ ch w1, Ψ ch w1 → J N ds σ (Q (.panic ch)) w1) :
    J N ds σ (wpOrd P ops Q R T ((i, 0) :: r)) w := fun a w' hf hs => by
  show wpOp P ops Q i _ a w'
  unfold wpOp
  simp only [ho]
  rw [if_pos (by simp [Region.wanted])]
  exact .inl (hy N ds a w' _ _ _ _ _ _ hf hs fun ch w3 w2 hp hs2 => h ch w3 hp _ _ hf hs2)
end
end Go.X
