/-
  A region that draws its order and stores in it: what only reads comes ahead of the stores, whatever the order.
-/
import Derived.Test.YtgglilhdmioelaaX17
set_option linter.unusedVariables false
set_option linter.unusedSimpArgs false
namespace Go.X
open Go.RowKit
section
variable {P : Program} {ops : Array Oper} {Q : Exit → Act → World → Prop} {md : Region.Mode}
/-- Whatever order is picked among those of M; but for those of St each leaves a world beyond. -/
def wpAnyX (P : Program) (md : Region.Mode) (ops : Array Oper) (Q : Exit → Act → World → Prop) (St M : List Nat) (L : Array Bool → Act → World → Prop) : Nat → Array Bool → Act → World → Prop
  | 0, listed, a, w => L listed a w
  | f + 1, listed, a, w =>
    Region.ready md ops listed ≠ [] ∧ ∀ i ∈ Region.ready md ops listed, i ∈ M ∧ wpOp P ops Q i (fun a' w' => (i ∉ St → Ext w w') ∧ wpAnyX P md ops Q St M L f (listed.setIfInBounds i true) a' w') a w
theorem wpAny_of_X {St M : List Nat} {g : Nat} {L : Array Bool → Act → World → Prop} (hL : ∀ listed a w, L listed a w → wpAny P md ops Q g listed a w) :
    ∀ (f : Nat) (listed : Array Bool) (a : Act) (w : World), wpAnyX P md ops Q St M L f listed a w → wpAny P md ops Q (f + g) listed a w
  | 0, listed, a, w, h => by rw [Nat.zero_add]; exact hL _ _ _ h
  | f + 1, listed, a, w, h => by
    rw [show f + 1 + g = (f + g) + 1 by omega]
    exact ⟨fun h0 => absurd h0 h.1, fun i hi => wpOp_mono (fun a' w' h' => wpAny_of_X hL f _ a' w' h'.2) (h.2 i hi).2⟩
theorem wpAnyX_first {S : World → World → Prop} {St M : List Nat} {start : Array Bool} {i : Nat} {oi : Oper} {v : Value} {L : Array Bool → Act → World → Prop} (hrefl : ∀ w, S w w) (htrans : ∀ a b c, S a b → S b c → S a c) (hS : ∀ listed, Inv md ops M start listed → listed.getD i true = false → ∀ j ∈ Region.ready md ops listed, j ≠ i → ∀ w w' : World, (j ∉ St → Ext w w') → S w w')
    (hi : ops[i]? = some oi) (hsel : ∀ (j : Nat) (o : Oper) cs b, ops[j]? = some o → o.op ≠ .select cs b)
    (hQ : ∀ c a w, Q (.panic c) (a.put oi.dst v) w → Q (.panic c) a w) (hwait : Waits md ops M start) (hin : i ∈ M)
    (hdone : ∀ listed a w, L listed a w → ∀ j ∈ Region.ready md ops listed, j ∉ M) :
    ∀ (f : Nat) (listed : Array Bool) (a : Act) (w : World), Inv md ops M start listed → (∀ j, start.getD j false = true → listed.getD j false = true) →
      (∀ j oj, ops[j]? = some oj → j ≠ i → listed.getD j true = false → (∀ e ∈ oj.after, Region.binds md e = true → e.on ≠ i) → oi.apart ops oj = true) →
      i ∈ Region.ready md ops listed → YieldsIf P ops (S w) oi v a →
      wpAnyX P md ops Q St M L f (listed.setIfInBounds i true) (a.put oi.dst v) w → wpAnyX P md ops Q St M L (f + 1) listed a w := by
  intro f
  induction f with
  | zero =>
    intro listed a w inv hst _ hr hy H
    have hun := (mem_ready.1 hr).1
    refine ⟨fun h => (by rw [h] at hr; cases hr), fun j hj => ?_⟩
    have hjn : j ∈ M := hwait listed inv hst i hin hun j hj
    refine ⟨hjn, ?_⟩
    by_cases hji : j = i
    · subst hji; exact hy.wpOp hi (hrefl w) ⟨fun _ => Ext.refl w, H⟩
    · exact absurd hjn (hdone _ _ _ H j (ready_mono hj hji))
  | succ f ih =>
    intro listed a w inv hst hfree hr hy H
    have hun := (mem_ready.1 hr).1
    refine ⟨fun h => (by rw [h] at hr; cases hr), fun j hj => ?_⟩
    have hjn : j ∈ M := hwait listed inv hst i hin hun j hj
    refine ⟨hjn, ?_⟩
    by_cases hji : j = i
    · subst hji; exact hy.wpOp hi (hrefl w) ⟨fun _ => Ext.refl w, H⟩
    · have h1 := (H.2 j (ready_mono hj hji)).2
      obtain ⟨hjun, oj, hoj, hall⟩ := mem_ready.1 hj
      have hnot : ∀ e ∈ oj.after, Region.binds md e = true → e.on ≠ i := fun e he hb heq => by
        have h1 := hall e he hb
        rw [heq, getD_both hun] at h1
        cases h1
      have h2 := wpOp_putIf hoj (hfree j oj hoj hji hjun hnot) (fun cs b => hsel i oi cs b hi) (fun cs b => hsel j oj cs b hoj) hQ hy h1
      have hfree' : ∀ k ok, ops[k]? = some ok → k ≠ i → (listed.setIfInBounds j true).getD k true = false →
          (∀ e ∈ ok.after, Region.binds md e = true → e.on ≠ i) → oi.apart ops ok = true := fun k ok hk hki hun hno => by
        refine hfree k ok hk hki ?_ hno
        by_cases hjk : j = k
        · subst hjk; exact hjun
        · rw [getD_set_ne true hjk] at hun; exact hun
      refine wpOp_mono (fun a' w' h3 => ⟨h3.2.1, ih (listed.setIfInBounds j true) a' w' (inv.set hj) (getD_start hst) hfree' (ready_mono hr (Ne.symm hji))
        (YieldsIf.weaken h3.1 fun w'' h => htrans _ _ _ (hS listed inv hun j hj hji _ _ h3.2.1) h) ?_⟩) h2
      rw [Array.setIfInBounds_comm _ _ hji]
      exact h3.2.2

def namesX (l : List (Nat × Nat)) : List (Nat × Bool) := l.map fun p => (p.1, true)
/-- The order chosen, checked: 0: alone; 1: taken first, it reads, and all stores wait for it; 2: alone, it stores; 3: taken first, it looks at no world. -/
def goodX (md : Region.Mode) (ops : Array Oper) (St M : List Nat) (target : Array Bool) : List (Nat × Nat) → Array Bool → Bool
  | [], listed => decide (listed = target)
  | (i, 0) :: r, listed => M.contains i && decide (Region.ready md ops listed = [i]) && goodX md ops St M target r (listed.setIfInBounds i true)
  | (i, 1) :: r, listed => M.contains i && ((Region.ready md ops listed).contains i && Region.free md ops listed i) && (St.all fun s => reach md ops ops.size s i) && goodX md ops St M target r (listed.setIfInBounds i true)
  | (i, 2) :: r, listed => M.contains i && St.contains i && decide (Region.ready md ops listed = [i]) && goodX md ops St M target r (listed.setIfInBounds i true)
  | (i, 3) :: r, listed => M.contains i && ((Region.ready md ops listed).contains i && Region.free md ops listed i) && goodX md ops St M target r (listed.setIfInBounds i true)
  | _ :: _, _ => false
/-- The walk in the order chosen. -/
def wpX (P : Program) (ops : Array Oper) (Q : Exit → Act → World → Prop) (T : Act → World → Prop) : List (Nat × Nat) → Act → World → Prop
  | [], a, w => T a w
  | (i, 0) :: r, a, w => wpOp P ops Q i (fun a' w' => Ext w w' ∧ wpX P ops Q T r a' w') a w
  | (i, 1) :: r, a, w => ∃ o v, ops[i]? = some o ∧ YieldsIf P ops (Ext w) o v a ∧ wpX P ops Q T r (a.put o.dst v) w
  | (i, 2) :: r, a, w => wpOp P ops Q i (wpX P ops Q T r) a w
  | (i, 3) :: r, a, w => ∃ o v, ops[i]? = some o ∧ YieldsIf P ops (fun _ => True) o v a ∧ wpX P ops Q T r (a.put o.dst v) w
  | _ :: _, _, _ => False
theorem wpAnyX_of {St M : List Nat} {start target : Array Bool} {T : Act → World → Prop} (hsel : Region.noSelect ops = true)
    (hQ : ∀ c a w d v, Q (.panic c) (Act.put a d v) w → Q (.panic c) a w) (hwait : Waits md ops M start) (htarget : ∀ m ∈ M, target.getD m false = true) :
    ∀ (l : List (Nat × Nat)) (listed : Array Bool) (a : Act) (w : World), Inv md ops M start listed → (∀ j, start.getD j false = true → listed.getD j false = true) → goodX md ops St M target l listed = true → wpX P ops Q T l a w →
      wpAnyX P md ops Q St M (fun listed' a' w' => listed' = target ∧ T a' w') l.length listed a w
  | [], listed, a, w, _, _, hB, h => ⟨by simpa [goodX] using hB, h⟩
  | (i, 0) :: r, listed, a, w, inv, hst, hB, h => by
    simp only [goodX, Bool.and_eq_true] at hB
    obtain ⟨⟨hin, hq⟩, hB'⟩ := hB
    have hq' : Region.ready md ops listed = [i] := by simpa using hq
    have hr' : i ∈ Region.ready md ops listed := by rw [hq']; simp
    refine ⟨by rw [hq']; simp, fun j hj => ?_⟩
    have hji : j = i := by rw [hq'] at hj; simpa using hj
    subst hji
    exact ⟨by simpa using hin, wpOp_mono (fun a' w' h' => ⟨fun _ => h'.1, wpAnyX_of hsel hQ hwait htarget r _ _ _ (inv.set hr') (getD_start hst) hB' h'.2⟩) h⟩
  | (i, 2) :: r, listed, a, w, inv, hst, hB, h => by
    simp only [goodX, Bool.and_eq_true] at hB
    obtain ⟨⟨⟨hin, hs⟩, hq⟩, hB'⟩ := hB
    have hq' : Region.ready md ops listed = [i] := by simpa using hq
    have hr' : i ∈ Region.ready md ops listed := by rw [hq']; simp
    refine ⟨by rw [hq']; simp, fun j hj => ?_⟩
    have hji : j = i := by rw [hq'] at hj; simpa using hj
    subst hji
    have hs' : j ∈ St := by simpa using hs
    exact ⟨by simpa using hin, wpOp_mono (fun a' w' h' => ⟨fun hn => absurd hs' hn, wpAnyX_of hsel hQ hwait htarget r _ _ _ (inv.set hr') (getD_start hst) hB' h'⟩) h⟩
  | (i, 1) :: r, listed, a, w, inv, hst, hB, h => by
    simp only [goodX, Bool.and_eq_true] at hB
    obtain ⟨⟨⟨hin, hr, hf⟩, hall⟩, hB'⟩ := hB
    have hr' : i ∈ Region.ready md ops listed := by simpa using hr
    obtain ⟨o, v, ho, hy, hK⟩ := h
    refine wpAnyX_first (S := Ext) Ext.refl (fun _ _ _ h k => h.trans k) (fun lst hinv hun j hj hji w w' hx => hx fun hjs => ?_) ho (Region.noSelect_spec hsel) (fun c a w => hQ c a w _ _) hwait (by simpa using hin) (fun listed' a' w' hL j hj hjM => by
        have h1 := getD_both (mem_ready.1 hj).1
        have h2 := htarget j hjM
        rw [hL.1, h2] at h1
        cases h1) r.length listed a w inv hst (Region.free_spec ho hf) hr' hy
      (wpAnyX_of hsel hQ hwait htarget r _ _ _ (inv.set hr') (getD_start hst) hB' hK)
    obtain ⟨_, oj, hoj, haf⟩ := mem_ready.1 hj
    have h3 := reach_spec hinv.closed _ _ _ (List.all_eq_true.1 hall j hjs) (fun o' ho' e he hb => by
      have : o' = oj := Option.some.inj (ho'.symm.trans hoj)
      subst this
      exact haf e he hb)
    rw [getD_both hun] at h3; cases h3
  | (i, 3) :: r, listed, a, w, inv, hst, hB, h => by
    simp only [goodX, Bool.and_eq_true] at hB
    obtain ⟨⟨hin, hr, hf⟩, hB'⟩ := hB
    have hr' : i ∈ Region.ready md ops listed := by simpa using hr
    obtain ⟨o, v, ho, hy, hK⟩ := h
    exact wpAnyX_first (S := fun _ _ => True) (fun _ => trivial) (fun _ _ _ _ _ => trivial) (fun _ _ _ _ _ _ _ _ _ => trivial) ho (Region.noSelect_spec hsel) (fun c a w => hQ c a w _ _) hwait (by simpa using hin) (fun listed' a' w' hL j hj hjM => by
        have h1 := getD_both (mem_ready.1 hj).1
        have h2 := htarget j hjM
        rw [hL.1, h2] at h1
        cases h1) r.length listed a w inv hst (Region.free_spec ho hf) hr' hy
      (wpAnyX_of hsel hQ hwait htarget r _ _ _ (inv.set hr') (getD_start hst) hB' hK)
  | (i, k + 4) :: r, listed, a, w, inv, hst, hB, h => by simp [goodX] at hB
theorem inv_X {St M : List Nat} {tgt : Array Bool} : ∀ (l : List (Nat × Nat)) (s : Array Bool), goodX md ops St M tgt l s = true → Inv md ops [] #[] s → Inv md ops [] #[] (listAll s (namesX l))
  | [], s, _, hi => hi
  | (i, 0) :: r, s, hg, hi => by
    simp only [goodX, Bool.and_eq_true] at hg
    have : Region.ready md ops s = [i] := by simpa using hg.1.2
    exact inv_X r _ hg.2 (hi.set (by rw [this]; simp))
  | (i, 1) :: r, s, hg, hi => by
    simp only [goodX, Bool.and_eq_true] at hg
    exact inv_X r _ hg.2 (hi.set (by simpa using hg.1.1.2.1))
  | (i, 2) :: r, s, hg, hi => by
    simp only [goodX, Bool.and_eq_true] at hg
    have : Region.ready md ops s = [i] := by simpa using hg.1.2
    exact inv_X r _ hg.2 (hi.set (by rw [this]; simp))
  | (i, 3) :: r, s, hg, hi => by
    simp only [goodX, Bool.and_eq_true] at hg
    exact inv_X r _ hg.2 (hi.set (by simpa using hg.1.2.1))
  | (i, k + 4) :: r, s, hg, hi => by simp [goodX] at hg
def stX (l : List (Nat × Nat)) : List Nat := (l.filter fun p => Nat.beq p.2 2).map (·.1)
def ordX (md : Region.Mode) (ops : Array Oper) (l1 : List (Nat × Bool)) (l2 : List (Nat × Nat)) (l3 : List (Nat × Bool)) : Bool :=
  let s0 := Array.replicate ops.size false
  let s1 := listAll s0 l1
  let s2 := listAll s1 (namesX l2)
  let M := (namesX l2).map (·.1)
  Region.noSelect ops && Nat.beq (l1.length + (l2.length + l3.length)) ops.size && goodSeq md ops l1 s0 && goodX md ops (stX l2) M s2 l2 s1 && waitsB md ops M s1 && M.all (fun m => s2.getD m false) &&
  goodSeq md ops l3 s2 && decide (Region.ready md ops (listAll s2 l3) = [])
theorem wp_region_X {id : Nat} {a : Act} {w : World} (l1 : List (Nat × Bool)) (l2 : List (Nat × Nat)) (l3 : List (Nat × Bool))
    (hm : P.follows .mixedOrders = true) (hB : ordX .any ops l1 l2 l3 = true)
    (h : wpSeq P ops (NoPan Q) (wpX P ops (NoPan Q) (wpSeq P ops (NoPan Q) (NoPan Q .normal) l3) l2) l1 a w.drew) : (Code.region id ops true).wp P Q a w := by
  refine Code.wp_mono NoPan.imp ?_
  have hQ : ∀ c a w d v, NoPan Q (.panic c) (Act.put a d v) w → NoPan Q (.panic c) a w := fun _ _ _ _ _ h => h
  generalize NoPan Q = Q at *
  simp only [ordX, Bool.and_eq_true] at hB
  obtain ⟨⟨⟨⟨⟨⟨⟨hsel, hlen⟩, hg1⟩, hg2⟩, hw⟩, ht⟩, hg3⟩, hend⟩ := hB
  have hlen' : l1.length + (l2.length + l3.length) = ops.size := Nat.eq_of_beq_eq_true hlen
  have inv0 : Inv .any ops [] #[] (Array.replicate ops.size false) := ⟨fun j oj _ hl => (by rw [getD_replicate_false] at hl; cases hl)⟩
  have hend' : Region.ready .any ops (listAll (listAll (listAll (Array.replicate ops.size false) l1) (namesX l2)) l3) = [] := by simpa using hend
  refine wp_region_any hm ?_
  suffices hh : wpAny P .any ops Q (l1.length + (l2.length + l3.length)) (Array.replicate ops.size false) a w.drew by rw [hlen'] at hh; exact hh
  refine wpAny_of_seq' (md := .any) (g := l2.length + l3.length) hsel hQ l1 _ a w.drew inv0 hg1 (fun a w inv1 hT => ?_) h
  have H := wpAnyX_of (md := .any) (start := listAll (Array.replicate ops.size false) l1) hsel hQ (waits_of hw)
    (fun m hm => List.all_eq_true.1 ht m hm) l2 _ a w ⟨inv1.closed⟩ (fun _ h => h) hg2 hT
  refine wpAny_of_X (Q := Q) (g := l3.length) (fun listed a' w' hL => ?_) _ _ _ _ H
  obtain ⟨rfl, hT3⟩ := hL
  have inv2 := inv_X l2 _ hg2 inv1
  have := wpAny_of_seq' (md := .any) (g := 0) hsel hQ l3 _ a' w' inv2 hg3 (fun a w _ hT => ⟨hend', hT⟩) hT3
  simpa using this
end
section
variable {P : Program} {N : Nat} {ds : List Deferred} {σ : Env} {w : World} {Q : Exit → Act → World → Prop} {K : Act → World → Prop} {ops : Array Oper}
theorem J.regionX {id : Nat} {ops : Array Oper} (l1 : List (Nat × Bool)) (l2 : List (Nat × Nat)) (l3 : List (Nat × Bool)) (hm : P.follows .mixedOrders = true) (hB : ordX .any ops l1 l2 l3 = true)
    (h : J N ds σ (wpSeq P ops (NoPan Q) (wpX P ops (NoPan Q) (wpSeq P ops (NoPan Q) (NoPan Q .normal) l3) l2) l1) w) : J N ds σ ((Code.region id ops true).wp P Q) w := fun a w' hf hs =>
  wp_region_X l1 l2 l3 hm hB (h a w'.drew hf (hs.trans (Same.drew w')))
theorem J.x_nil {T : Act → World → Prop} (h : J N ds σ T w) : J N ds σ (wpX P ops Q T []) w := h
theorem J.x_op {T : Act → World → Prop} {r : List (Nat × Nat)} {i : Nat} {op ty pos after v d} (ho : ops[i]? = some ⟨some d, op, ty, pos, after, none⟩) (hy : Yd P σ op ty v w) (hd : Nat.blt d N = true)
    (h : J N ds ((d, v) :: σ) (wpX P ops Q T r) w) : J N ds σ (wpX P ops Q T ((i, 1) :: r)) w := fun a w' hf hs =>
  ⟨_, v, ho, .inl ⟨by simp [Region.wanted], fun w'' he => hy N ds a w'' _ _ _ _ hf (hs.ext.trans he)⟩, h _ _ (hf.put d hd v) hs⟩
theorem J.x_plain {T : Act → World → Prop} {r : List (Nat × Nat)} {i : Nat} {op ty pos after v d} (ho : ops[i]? = some ⟨some d, op, ty, pos, after, none⟩) (hy : ∀ w, Yd P σ op ty v w) (hd : Nat.blt d N = true)
    (h : J N ds ((d, v) :: σ) (wpX P ops Q T r) w) : J N ds σ (wpX P ops Q T ((i, 3) :: r)) w := fun a w' hf hs =>
  ⟨_, v, ho, .inl ⟨by simp [Region.wanted], fun w'' _ => hy w'' N ds a w'' _ _ _ _ hf (Ext.refl _)⟩, h _ _ (hf.put d hd v) hs⟩
theorem J.x_store {T : Act → World → Prop} {r : List (Nat × Nat)} {i : Nat} {op ty pos after Φ} (ho : ops[i]? = some ⟨none, op, ty, pos, after, none⟩) (hy : Ye P σ op ty w Φ) (h : ∀ v w1, Φ v w1 → J N ds σ (wpX P ops Q T r) w1) :
    J N ds σ (wpX P ops Q T ((i, 2) :: r)) w := fun a w' hf hs => by
  show wpOp P ops Q i _ a w'
  unfold wpOp
  simp only [ho]
  rw [if_pos (by simp [Region.wanted])]
  exact .inl (hy N ds a w' _ _ _ _ _ _ hf hs fun v w3 w2 hp hs2 => h v w3 hp _ _ hf hs2)
end
end Go.X
