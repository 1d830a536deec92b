/-
  A region that draws its order, with calls among its operations whose values hang on no world: all come up in whatever order, the values are the same, and the world lies beyond.
-/
import Derived.Test.YtipbmjbdmpcgoaaX10
set_option linter.unusedVariables false
set_option linter.unusedSimpArgs false
namespace Go.X
open Go.RowKit
section
variable {P : Program} {ops : Array Oper} {Q : Exit → Act → World → Prop} {md : Region.Mode} {R : World → World → Prop}
/-- In each world beyond w the operation leaves v, and a world beyond that. -/
def Stab (P : Program) (ops : Array Oper) (R : World → World → Prop) (w : World) (o : Oper) (v : Value) (a : Act) : Prop :=
  (Region.wanted o (yielded ops a.tmps) = true ∧ ∀ w', R w w' → (execOp a.eval o).run P w' = .ok (.value v) w' ∨
    ∃ f args, (execOp a.eval o).run P w' = .ok (.enter f args) w' ∧ Calls P f args w' fun e w2 => e = .returned v ∧ R w' w2) ∨
  (Region.wanted o (yielded ops a.tmps) = false ∧ v = undef)
theorem Stab.of_same {w : World} {o : Oper} {v : Value} {a a' : Act} (hy : Stab P ops R w o v a) (he : execOp a'.eval o = execOp a.eval o)
    (hw : Region.wanted o (yielded ops a'.tmps) = Region.wanted o (yielded ops a.tmps)) : Stab P ops R w o v a' := by
  unfold Stab at *; rw [he, hw]; exact hy
theorem Stab.wpOp {w w' : World} {i : Nat} {o : Oper} {v : Value} {a : Act} (hrefl : ∀ w, R w w) (hi : ops[i]? = some o) (hy : Stab P ops R w o v a) (hw : R w w')
    {K : Act → World → Prop} (h : ∀ w2, R w' w2 → K (a.put o.dst v) w2) : wpOp P ops Q i K a w' := by
  unfold Go.wpOp
  simp only [hi]
  rcases hy with ⟨hw1, hv⟩ | ⟨hw1, rfl⟩
  · simp only [hw1, if_true]
    refine .inl ?_
    unfold Oper.wp
    rcases hv w' hw with h1 | ⟨f, args, h1, h2⟩
    · rw [h1]; exact h _ (hrefl _)
    · rw [h1]
      exact Calls.mono h2 fun e w2 he => by obtain ⟨rfl, hr⟩ := he; exact h _ hr
  · simp only [hw1, Bool.false_eq_true, if_false]; exact h _ (hrefl _)
def wpAnyU (P : Program) (md : Region.Mode) (ops : Array Oper) (R : World → World → Prop) (w : World) (M : List Nat) (L : Array Bool → Act → Prop) : Nat → Array Bool → Act → Prop
  | 0, listed, a => L listed a
  | f + 1, listed, a => Region.ready md ops listed ≠ [] ∧ ∀ i ∈ Region.ready md ops listed, i ∈ M ∧ ∃ o v, ops[i]? = some o ∧ Stab P ops R w o v a ∧ wpAnyU P md ops R w M L f (listed.setIfInBounds i true) (a.put o.dst v)
theorem wpAny_of_U {M : List Nat} {g : Nat} {w : World} {L : Array Bool → Act → Prop} (hrefl : ∀ w, R w w) (htrans : ∀ a b c, R a b → R b c → R a c)
    (hL : ∀ listed a w', L listed a → R w w' → wpAny P md ops Q g listed a w') :
    ∀ (f : Nat) (listed : Array Bool) (a : Act) (w' : World), R w w' → wpAnyU P md ops R w M L f listed a → wpAny P md ops Q (f + g) listed a w'
  | 0, listed, a, w', hw, h => by rw [Nat.zero_add]; exact hL _ _ _ h hw
  | f + 1, listed, a, w', hw, h => by
    rw [show f + 1 + g = (f + g) + 1 by omega]
    refine ⟨fun h0 => absurd h0 h.1, fun i hi => ?_⟩
    obtain ⟨_, o, v, ho, hy, hr⟩ := h.2 i hi
    exact hy.wpOp hrefl ho hw fun w2 h2 => wpAny_of_U hrefl htrans hL f _ _ w2 (htrans _ _ _ hw h2) hr
theorem wpAnyU_first {M : List Nat} {start : Array Bool} {i : Nat} {oi : Oper} {v : Value} {w : World} {L : Array Bool → Act → Prop}
    (hi : ops[i]? = some oi) (hsel : ∀ (j : Nat) (o : Oper) cs b, ops[j]? = some o → o.op ≠ .select cs b) (hwait : Waits md ops M start) (hin : i ∈ M)
    (hdone : ∀ listed a, L listed a → ∀ j ∈ Region.ready md ops listed, j ∉ M) :
    ∀ (f : Nat) (listed : Array Bool) (a : Act), Inv md ops M start listed → (∀ j, start.getD j false = true → listed.getD j false = true) →
      (∀ j oj, ops[j]? = some oj → j ≠ i → listed.getD j true = false → (∀ e ∈ oj.after, Region.binds md e = true → e.on ≠ i) → oi.apart ops oj = true) →
      i ∈ Region.ready md ops listed → Stab P ops R w oi v a →
      wpAnyU P md ops R w M L f (listed.setIfInBounds i true) (a.put oi.dst v) → wpAnyU P md ops R w M L (f + 1) listed a := by
  intro f
  induction f with
  | zero =>
    intro listed a inv hst _ hr hy H
    have hun := (mem_ready.1 hr).1
    refine ⟨fun h => (by rw [h] at hr; cases hr), fun j hj => ?_⟩
    have hjn : j ∈ M := hwait listed inv hst i hin hun j hj
    refine ⟨hjn, ?_⟩
    by_cases hji : j = i
    · subst hji; exact ⟨oi, v, hi, hy, H⟩
    · exact absurd hjn (hdone _ _ H j (ready_mono hj hji))
  | succ f ih =>
    intro listed a inv hst hfree hr hy H
    have hun := (mem_ready.1 hr).1
    refine ⟨fun h => (by rw [h] at hr; cases hr), fun j hj => ?_⟩
    have hjn : j ∈ M := hwait listed inv hst i hin hun j hj
    refine ⟨hjn, ?_⟩
    by_cases hji : j = i
    · subst hji; exact ⟨oi, v, hi, hy, H⟩
    · obtain ⟨_, oj, vj, hoj, hyj, Hj⟩ := H.2 j (ready_mono hj hji)
      obtain ⟨hjun, oj', hoj', hall⟩ := mem_ready.1 hj
      have e1 : oj' = oj := Option.some.inj (hoj'.symm.trans hoj)
      subst e1
      have hnot : ∀ e ∈ oj'.after, Region.binds md e = true → e.on ≠ i := fun e he hb heq => by
        have h1 := hall e he hb
        rw [heq, getD_both hun] at h1
        cases h1
      have hap := hfree j oj' hoj hji hjun hnot
      obtain ⟨h1, h2, h3⟩ := Oper.apart_spec hap
      have hyj' : Stab P ops R w oj' vj a := hyj.of_same (execOp_put oj' (fun cs b => hsel j oj' cs b hoj) a oi.dst v h1).symm (wanted_put oj' a oi.dst v h1).symm
      have hyi' : Stab P ops R w oi v (a.put oj'.dst vj) := hy.of_same (execOp_put oi (fun cs b => hsel i oi cs b hi) a oj'.dst vj h3) (wanted_put oi a oj'.dst vj h3)
      have hfree' : ∀ k ok, ops[k]? = some ok → k ≠ i → (listed.setIfInBounds j true).getD k true = false →
          (∀ e ∈ ok.after, Region.binds md e = true → e.on ≠ i) → oi.apart ops ok = true := fun k ok hk hki hun hno => by
        refine hfree k ok hk hki ?_ hno
        by_cases hjk : j = k
        · subst hjk; exact hjun
        · rw [getD_set_ne true hjk] at hun; exact hun
      refine ⟨oj', vj, hoj, hyj', ih (listed.setIfInBounds j true) _ (inv.set hj) (getD_start hst) hfree' (ready_mono hr (Ne.symm hji)) hyi' ?_⟩
      rw [Array.setIfInBounds_comm _ _ hji, ← Act.put_comm a v vj h2]
      exact Hj
def goodU (md : Region.Mode) (ops : Array Oper) (M : List Nat) (target : Array Bool) : List Nat → Array Bool → Bool
  | [], listed => decide (listed = target)
  | i :: r, listed => M.contains i && ((Region.ready md ops listed).contains i && Region.free md ops listed i) && goodU md ops M target r (listed.setIfInBounds i true)
def wpU (P : Program) (ops : Array Oper) (R : World → World → Prop) (w : World) (T : Act → Prop) : List Nat → Act → Prop
  | [], a => T a
  | i :: r, a => ∃ o v, ops[i]? = some o ∧ Stab P ops R w o v a ∧ wpU P ops R w T r (a.put o.dst v)
theorem wpAnyU_of {M : List Nat} {start target : Array Bool} {w : World} {T : Act → Prop} (hsel : Region.noSelect ops = true) (hwait : Waits md ops M start) (htarget : ∀ m ∈ M, target.getD m false = true) :
    ∀ (l : List Nat) (listed : Array Bool) (a : Act), Inv md ops M start listed → (∀ j, start.getD j false = true → listed.getD j false = true) → goodU md ops M target l listed = true → wpU P ops R w T l a →
      wpAnyU P md ops R w M (fun listed' a' => listed' = target ∧ T a') l.length listed a
  | [], listed, a, _, _, hB, h => ⟨by simpa [goodU] using hB, h⟩
  | i :: r, listed, a, inv, hst, hB, h => by
    simp only [goodU, Bool.and_eq_true] at hB
    obtain ⟨⟨hin, hr, hf⟩, hB'⟩ := hB
    have hr' : i ∈ Region.ready md ops listed := by simpa using hr
    obtain ⟨o, v, ho, hy, hK⟩ := h
    exact wpAnyU_first ho (Region.noSelect_spec hsel) hwait (by simpa using hin) (fun listed' a' hL j hj hjM => by
        have h1 := getD_both (mem_ready.1 hj).1
        have h2 := htarget j hjM
        rw [hL.1, h2] at h1
        cases h1) r.length listed a inv hst (Region.free_spec ho hf) hr' hy
      (wpAnyU_of hsel hwait htarget r _ _ (inv.set hr') (getD_start hst) hB' hK)
def ordU (md : Region.Mode) (ops : Array Oper) (l1 : List (Nat × Bool)) (l2 : List Nat) (l3 : List (Nat × Bool)) : Bool :=
  let s0 := Array.replicate ops.size false
  let s1 := listAll s0 l1
  let s2 := listAll s1 (l2.map fun i => (i, true))
  Region.noSelect ops && Nat.beq (l1.length + (l2.length + l3.length)) ops.size && goodSeq md ops l1 s0 && goodU md ops l2 s2 l2 s1 && waitsB md ops l2 s1 && l2.all (fun m => s2.getD m false) &&
  goodSeq md ops l3 s2 && decide (Region.ready md ops (listAll s2 l3) = [])
theorem inv_U {M : List Nat} {tgt : Array Bool} : ∀ (l : List Nat) (s : Array Bool), goodU md ops M tgt l s = true → Inv md ops [] #[] s → Inv md ops [] #[] (listAll s (l.map fun i => (i, true)))
  | [], s, _, hi => hi
  | i :: r, s, hg, hi => by
    simp only [goodU, Bool.and_eq_true] at hg
    exact inv_U r _ hg.2 (hi.set (by simpa using hg.1.2.1))
theorem wp_region_U {id : Nat} {a : Act} {w : World} (l1 : List (Nat × Bool)) (l2 : List Nat) (l3 : List (Nat × Bool)) (hrefl : ∀ w, R w w) (htrans : ∀ a b c, R a b → R b c → R a c)
    (hm : P.follows .mixedOrders = true) (hB : ordU .any ops l1 l2 l3 = true)
    (h : wpSeq P ops (NoPan Q) (fun a w => wpU P ops R w (fun a' => ∀ w', R w w' → wpSeq P ops (NoPan Q) (NoPan Q .normal) l3 a' w') l2 a) l1 a w.drew) : (Code.region id ops true).wp P Q a w := by
  refine Code.wp_mono NoPan.imp ?_
  have hQ : ∀ c a w d v, NoPan Q (.panic c) (Act.put a d v) w → NoPan Q (.panic c) a w := fun _ _ _ _ _ h => h
  generalize NoPan Q = Q at *
  simp only [ordU, Bool.and_eq_true] at hB
  obtain ⟨⟨⟨⟨⟨⟨⟨hsel, hlen⟩, hg1⟩, hg2⟩, hw⟩, ht⟩, hg3⟩, hend⟩ := hB
  have hlen' : l1.length + (l2.length + l3.length) = ops.size := Nat.eq_of_beq_eq_true hlen
  have inv0 : Inv .any ops [] #[] (Array.replicate ops.size false) := ⟨fun j oj _ hl => (by rw [getD_replicate_false] at hl; cases hl)⟩
  have hend' : Region.ready .any ops (listAll (listAll (listAll (Array.replicate ops.size false) l1) (l2.map fun i => (i, true))) l3) = [] := by simpa using hend
  refine wp_region_any hm ?_
  suffices hh : wpAny P .any ops Q (l1.length + (l2.length + l3.length)) (Array.replicate ops.size false) a w.drew by rw [hlen'] at hh; exact hh
  refine wpAny_of_seq' (md := .any) (g := l2.length + l3.length) hsel hQ l1 _ a w.drew inv0 hg1 (fun a w inv1 hT => ?_) h
  have H := wpAnyU_of (md := .any) (start := listAll (Array.replicate ops.size false) l1) hsel (waits_of hw)
    (fun m hm => List.all_eq_true.1 ht m hm) l2 _ a ⟨inv1.closed⟩ (fun _ h => h) hg2 hT
  refine wpAny_of_U (Q := Q) (g := l3.length) hrefl htrans (fun listed a' w' hL hww => ?_) _ _ _ _ (hrefl w) H
  obtain ⟨rfl, hT3⟩ := hL
  have inv2 := inv_U l2 _ hg2 inv1
  have := wpAny_of_seq' (md := .any) (g := 0) hsel hQ l3 _ a' w' inv2 hg3 (fun a w _ hT => ⟨hend', hT⟩) (hT3 w' hww)
  simpa using this
end
section
variable {P : Program} {N : Nat} {ds : List Deferred} {σ : Env} {w : World} {Q : Exit → Act → World → Prop} {K : Act → World → Prop} {ops : Array Oper}
theorem J.regionU {id : Nat} {ops : Array Oper} (l1 : List (Nat × Bool)) (l2 : List Nat) (l3 : List (Nat × Bool)) (hm : P.follows .mixedOrders = true) (hB : ordU .any ops l1 l2 l3 = true)
    (h : J N ds σ (wpSeq P ops (NoPan Q) (fun a w => wpU P ops Ext w (fun a' => ∀ w', Ext w w' → wpSeq P ops (NoPan Q) (NoPan Q .normal) l3 a' w') l2 a) l1) w) : J N ds σ ((Code.region id ops true).wp P Q) w := fun a w' hf hs =>
  wp_region_U l1 l2 l3 Ext.refl (fun _ _ _ h k => h.trans k) hm hB (h a w'.drew hf (hs.trans (Same.drew w')))
/-- What yields, or a call whose value hangs on no world. -/
def Ys (P : Program) (σ : Env) (op : Op) (ty : TypeId) (v : Value) (w : World) : Prop :=
  ∀ (N : Nat) (ds : List Deferred) (a : Act) (w' : World) (dst : Option Tmp) (pos : String) (after : Array Edge) (g : Option (Nat × Bool)),
    Fits N ds σ a → Ext w w' → (execOp a.eval ⟨dst, op, ty, pos, after, g⟩).run P w' = .ok (.value v) w' ∨
      ∃ f args, (execOp a.eval ⟨dst, op, ty, pos, after, g⟩).run P w' = .ok (.enter f args) w' ∧ Calls P f args w' fun e w2 => e = .returned v ∧ Ext w' w2
theorem Yd.ys {op ty v} (h : Yd P σ op ty v w) : Ys P σ op ty v w := fun N ds a w' dst pos after g hf he => .inl (h N ds a w' dst pos after g hf he)
theorem Ys.call {ty f args tys vs v} (hc : callable P f = true) (ha : evs σ args.toList = some vs) (h : ∀ w', Ext w w' → C P f vs w' (Ret fun u w2 => u = v ∧ Ext w' w2)) : Ys P σ (.call ⟨.value (.func f), args, tys⟩) ty v w :=
  fun N ds a w' dst pos after g hf he => by
    have hx : a.eval (.func f) = .func (.func f) #[] #[] := rfl
    have hv : #[] ++ args.map a.eval ++ #[] = vs.toArray := by
      rw [← hf.evs ha]
      apply Array.toList_inj.1
      simp
    refine .inr ⟨f, _, run_call hc rfl hx w', ?_⟩
    rw [hv]
    exact (h w' he w' (Same.refl _)).mono fun e w2 ⟨w3, hs, u, he', hu, hx⟩ => ⟨by rw [he', hu], hx.trans hs.ext⟩
def UT (P : Program) (ops : Array Oper) (Q : Exit → Act → World → Prop) (T : Act → World → Prop) (l : List Nat) (a : Act) (w : World) : Prop := wpU P ops Ext w (fun a' => ∀ w', Ext w w' → T a' w') l a
theorem J.u_in {T : Act → World → Prop} {l : List Nat} (h : J N ds σ (UT P ops Q T l) w) : J N ds σ (fun a w => wpU P ops Ext w (fun a' => ∀ w', Ext w w' → T a' w') l a) w := h
theorem J.u_nil {T : Act → World → Prop} (h : ∀ w', Ext w w' → J N ds σ T w') : J N ds σ (UT P ops Q T []) w := fun a w' hf hs w2 h2 => h w2 (hs.ext.trans h2) a w2 hf (Same.refl _)
theorem J.u_op {T : Act → World → Prop} {r : List Nat} {i : Nat} {op ty pos after v d} (ho : ops[i]? = some ⟨some d, op, ty, pos, after, none⟩) (hy : Ys P σ op ty v w) (hd : Nat.blt d N = true)
    (h : J N ds ((d, v) :: σ) (UT P ops Q T r) w) : J N ds σ (UT P ops Q T (i :: r)) w := fun a w' hf hs =>
  ⟨_, v, ho, .inl ⟨by simp [Region.wanted], fun w'' he => hy N ds a w'' _ _ _ _ hf (hs.ext.trans he)⟩, h _ _ (hf.put d hd v) hs⟩
theorem J.u_op_g {T : Act → World → Prop} {r : List Nat} {i : Nat} {op ty pos after v d j t b} (ho : ops[i]? = some ⟨some d, op, ty, pos, after, some (j, b)⟩) (hj : (ops[j]?).bind (·.dst) = some t) (hg : σ.get t = some (.bool b)) (hN : Nat.blt t N = true)
    (hy : Ys P σ op ty v w) (hd : Nat.blt d N = true) (h : J N ds ((d, v) :: σ) (UT P ops Q T r) w) : J N ds σ (UT P ops Q T (i :: r)) w := fun a w' hf hs =>
  ⟨_, v, ho, .inl ⟨by simp [Region.wanted, hf.yielded hj hg hN], fun w'' he => hy N ds a w'' _ _ _ _ hf (hs.ext.trans he)⟩, h _ _ (hf.put d hd v) hs⟩
theorem J.u_not_g {T : Act → World → Prop} {r : List Nat} {i : Nat} {op ty pos after d j t b b'} (ho : ops[i]? = some ⟨some d, op, ty, pos, after, some (j, b)⟩) (hj : (ops[j]?).bind (·.dst) = some t) (hg : σ.get t = some (.bool b')) (hN : Nat.blt t N = true)
    (hb : (b' == b) = false) (hd : Nat.blt d N = true) (h : J N ds ((d, undef) :: σ) (UT P ops Q T r) w) : J N ds σ (UT P ops Q T (i :: r)) w := fun a w' hf hs =>
  ⟨_, undef, ho, .inr ⟨by simp [Region.wanted, hf.yielded hj hg hN, hb], rfl⟩, h _ _ (hf.put d hd undef) hs⟩
end
end Go.X
