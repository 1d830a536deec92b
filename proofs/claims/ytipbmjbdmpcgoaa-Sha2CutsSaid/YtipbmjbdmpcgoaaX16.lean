/-
  copy into a row of the call's own; rows of values.
-/
import Derived.Test.YtipbmjbdmpcgoaaX15
set_option linter.unusedVariables false
set_option linter.unusedSimpArgs false
namespace Go.X
open Go.RowKit
section
variable {P : Program} {N : Nat} {ds : List Deferred} {σ : Env} {w : World}
/-! ### Guards that were not reached -/
theorem Fits.yielded_u {σ a} (h : Fits N ds σ a) {ops : Array Oper} {j t : Nat} (hj : (ops[j]?).bind (·.dst) = some t) (hg : σ.get t = some undef) (hN : Nat.blt t N = true) : Go.yielded ops a.tmps j = Option.none := by
  have ht : t < a.tmps.size := by rw [h.size]; simpa [Nat.blt_eq] using hN
  have hv := h.vals t _ hg
  unfold Go.yielded
  rw [hj]
  simp only [Option.bind_some, Array.getElem?_eq_getElem ht]
  rw [Array.getD_eq_getD_getElem?, Array.getElem?_eq_getElem ht] at hv
  simp only [Option.getD_some] at hv
  rw [hv]; rfl
variable {Q : Exit → Act → World → Prop} {ops : Array Oper} {rest : List Oper}
theorem J.not_u {op ty pos after d j t b} (hj : (ops[j]?).bind (·.dst) = some t) (hg : σ.get t = some undef) (hN : Nat.blt t N = true) (hd : Nat.blt d N = true) (h : J N ds ((d, undef) :: σ) (wpList P ops Q rest) w) :
    J N ds σ (wpList P ops Q (⟨some d, op, ty, pos, after, some (j, b)⟩ :: rest)) w := fun a w' hf hs => by
  unfold wpList
  rw [if_neg (by simp [Region.wanted, hf.yielded_u hj hg hN])]
  exact h _ _ (hf.put d hd undef) hs
theorem J.s_not_u {T : Act → World → Prop} {r : List (Nat × Bool)} {i : Nat} {op ty pos after d j t b} (ho : ops[i]? = some ⟨some d, op, ty, pos, after, some (j, b)⟩) (hj : (ops[j]?).bind (·.dst) = some t) (hg : σ.get t = some undef) (hN : Nat.blt t N = true)
    (hd : Nat.blt d N = true) (h : J N ds ((d, undef) :: σ) (wpSeq P ops Q T r) w) : J N ds σ (wpSeq P ops Q T ((i, true) :: r)) w := fun a w' hf hs =>
  ⟨_, undef, ho, .inr ⟨by simp [Region.wanted, hf.yielded_u hj hg hN], rfl⟩, h _ _ (hf.put d hd undef) hs⟩
theorem J.s_skip_u {T : Act → World → Prop} {r : List (Nat × Bool)} {i : Nat} {op ty pos after d j t b} (ho : ops[i]? = some ⟨some d, op, ty, pos, after, some (j, b)⟩) (hj : (ops[j]?).bind (·.dst) = some t) (hg : σ.get t = some undef) (hN : Nat.blt t N = true)
    (hd : Nat.blt d N = true) (h : J N ds ((d, undef) :: σ) (wpSeq P ops Q T r) w) : J N ds σ (wpSeq P ops Q T ((i, false) :: r)) w := fun a w' hf hs => by
  show wpOp P ops Q i _ a w'
  unfold wpOp
  simp only [ho]
  rw [if_neg (by simp [Region.wanted, hf.yielded_u hj hg hN])]
  exact h _ _ (hf.put d hd undef) hs
theorem J.o_not_u {T : Act → World → Prop} {r : List (Nat × Nat)} {i : Nat} {op ty pos after d j t b} (ho : ops[i]? = some ⟨some d, op, ty, pos, after, some (j, b)⟩) (hj : (ops[j]?).bind (·.dst) = some t) (hg : σ.get t = some undef) (hN : Nat.blt t N = true)
    (hd : Nat.blt d N = true) (h : J N ds ((d, undef) :: σ) (wpOrd P ops Q Ext T r) w) : J N ds σ (wpOrd P ops Q Ext T ((i, 1) :: r)) w := fun a w' hf hs =>
  ⟨_, undef, ho, .inr ⟨by simp [Region.wanted, hf.yielded_u hj hg hN], rfl⟩, h _ _ (hf.put d hd undef) hs⟩
theorem J.o_skip_u {T : Act → World → Prop} {r : List (Nat × Nat)} {i : Nat} {op ty pos after d j t b} (ho : ops[i]? = some ⟨some d, op, ty, pos, after, some (j, b)⟩) (hj : (ops[j]?).bind (·.dst) = some t) (hg : σ.get t = some undef) (hN : Nat.blt t N = true)
    (hd : Nat.blt d N = true) (h : J N ds ((d, undef) :: σ) (wpOrd P ops Q Ext T r) w) : J N ds σ (wpOrd P ops Q Ext T ((i, 0) :: r)) w := fun a w' hf hs => by
  show wpOp P ops Q i _ a w'
  unfold wpOp
  simp only [ho]
  rw [if_neg (by simp [Region.wanted, hf.yielded_u hj hg hN])]
  exact ⟨hs.symm.ext.trans hs.ext, h _ _ (hf.put d hd undef) hs⟩
theorem Ye.copyO {ty x y dT sT e base xs s r ys z by'} (hu : P.underlying dT = some (.slice e)) (hz : TI P e z 1 by') (hx : ev σ x = some s) (hy : ev σ y = some r) (ho : Ow base e w s xs) (hr : Rd w r ys) (h1 : ∀ v ∈ ys, v.oneCell' = true) :
    Ye P σ (.call ⟨.builtin .copy, #[x, y], #[dT, sT]⟩) ty w fun v w1 => v = I (min ys.length xs.length : Nat) ∧ Ow base e w1 s (ys.take xs.length ++ xs.drop (min ys.length xs.length)) ∧ w.grownBy w1 s.ownBlock :=
  ye_bi (vs := [s, r]) (Builtin.copy_ #[dT, sT] ty) (by simp [evs, hx, hy]) (fun _ _ => rfl) fun w' hs => by
    obtain ⟨j, hj, _, hj1, _⟩ := hz.out
    have hgs : w.grownBy w' none := grown_ext hs.ext
    have hgo : w.grownBy w' s.ownBlock := ⟨hgs.os, hgs.tape, hgs.output, hgs.size, fun k hk _ => hgs.block k hk (by simp)⟩
    have ho' : Ow base e w' s xs := ho.ext hs.ext
    obtain ⟨p, c, rfl, h7, h8, h9⟩ := hr.ext hs.ext
    rcases id ho'.2 with ⟨rfl, h0⟩ | ⟨g, cap, cur, rfl, hbg, hg, hnc, hcm, hcs, htk⟩
    · have hx0 : xs = [] := List.eq_nil_of_length_eq_zero h0
      subst hx0
      refine ⟨goInt 0, w', w', ?_, Same.refl _, by simp [goInt], ?_, hgo⟩
      · cases p <;> simp [Builtin.copy_, run_underlying hu, Builtin.lenOf, Builtin.firstCells, sizeOf, typeInfo, hj, hj1, storeCells, loadCells, loadCellsFrom]
      · simpa using ho'
    · have hcs' : cur.size = cap := by simpa using hcs
      have htk' : cur.toList.take xs.length = xs := by simpa using htk
      have hys : (ys.take xs.length).length = min ys.length xs.length := by simp; omega
      cases p with
      | none =>
        have : ys = [] := by
          cases ys with
          | nil => rfl
          | cons x l => obtain ⟨b, o, hp, _⟩ := h9 0 x (by simp); cases hp
        subst this
        have hc := h8 rfl
        subst hc
        exact ⟨_, w', w', copy_none hu hz _ _ _ _ w', Same.refl _, by simp [goInt], by simpa using ho', hgo⟩
      | some ad =>
        have hrow : Own w' g e cur.toList := hg
        have hcp := run_copy_row (P := P) w' dT sT ty e g 0 xs.length cap ad ys.length c cur.toList.toArray e (ys.take xs.length) hu (by rw [hj]; simp [hj1]) hrow (by rw [hys]) (fun i v hv => by
            have hi := (List.getElem?_eq_some_iff.1 hv).1
            rw [List.getElem?_take_of_lt (by simp at hi; omega)] at hv
            obtain ⟨b', o', hp, hc⟩ := h9 i v hv
            cases hp
            rw [add_at]; exact hc) (by simp; omega) (fun v hv => h1 v (List.mem_of_mem_take hv))
        refine ⟨_, _, _, hcp, Same.refl _, by rw [hys]; rfl, ⟨by simp, .inr ⟨g, cap, _, by simp; omega, hbg, setRow_heap w' g _ _ e _ hg, by simp; omega, hcm, ?_, ?_⟩⟩, ?_⟩
        · simp; omega
        · have hxs : xs = cur.toList.take xs.length := htk'.symm
          simp only [List.take_zero, List.nil_append, Nat.zero_add, Nat.mul_one, List.length_append, List.length_drop, hys]
          rw [show min ys.length xs.length + (xs.length - min ys.length xs.length) = xs.length by omega]
          rw [List.take_append, hys, List.take_of_length_le (by rw [hys]; omega)]
          congr 1
          rw [← List.drop_take, htk']
        · exact ⟨hs.os, hs.tape, hs.output, by simp [World.setRow, hs.heap], fun k _ hk => by rw [setRow_other w' g k _ (fun e => hk (by simp [Value.ownBlock, e])), hs.heap]⟩
end
end Go.X
