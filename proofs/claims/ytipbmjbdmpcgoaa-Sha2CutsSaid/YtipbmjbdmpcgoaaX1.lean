/-
  A region that draws its order: its operations may be carried out in one order of the prover's choice, checked by a Bool:
  first and last, one by one, operations that yield their values in whatever world (taken first) or that come up alone; between them a row of operations that all others wait for, those that only read yielding in every world that R relates to theirs.
  Conditions: R is reflexive and transitive; no operation is a select.
-/
import Derived.StillTail
import Derived.OrdersHeld
import Derived.Tactics
namespace Go.X
section
variable {P : Program} {ops : Array Oper} {Q : Exit → Act → World → Prop} {md : Region.Mode} {R : World → World → Prop}

/-- Whatever order is picked among those of M, each leaves a world that R relates; behind them L. -/
def wpAnyM (P : Program) (md : Region.Mode) (ops : Array Oper) (Q : Exit → Act → World → Prop) (R : World → World → Prop) (M : List Nat) (L : Array Bool → Act → World → Prop) : Nat → Array Bool → Act → World → Prop
  | 0, listed, a, w => L listed a w
  | f + 1, listed, a, w =>
    Region.ready md ops listed ≠ [] ∧ ∀ i ∈ Region.ready md ops listed, i ∈ M ∧ wpOp P ops Q i (fun a' w' => R w w' ∧ wpAnyM P md ops Q R M L f (listed.setIfInBounds i true) a' w') a w

theorem wpAny_of_M {M : List Nat} {g : Nat} {L : Array Bool → Act → World → Prop} (hL : ∀ listed a w, L listed a w → wpAny P md ops Q g listed a w) :
    ∀ (f : Nat) (listed : Array Bool) (a : Act) (w : World), wpAnyM P md ops Q R M L f listed a w → wpAny P md ops Q (f + g) listed a w
  | 0, listed, a, w, h => by rw [Nat.zero_add]; exact hL _ _ _ h
  | f + 1, listed, a, w, h => by
    rw [show f + 1 + g = (f + g) + 1 by omega]
    exact ⟨fun h0 => absurd h0 h.1, fun i hi => wpOp_mono (fun a' w' h' => wpAny_of_M hL f _ a' w' h'.2) (h.2 i hi).2⟩

theorem YieldsIf.weaken {S S' : World → Prop} {o : Oper} {v : Value} {a : Act} (hy : YieldsIf P ops S o v a) (h : ∀ w, S' w → S w) : YieldsIf P ops S' o v a :=
  hy.imp (fun ⟨hw, hv⟩ => ⟨hw, fun w hS => hv w (h w hS)⟩) id

/-- What is listed is listed with all that it waits for; beyond M it is as at the start. -/
structure Inv (md : Region.Mode) (ops : Array Oper) (M : List Nat) (start listed : Array Bool) : Prop where
  closed : ∀ j oj, ops[j]? = some oj → listed.getD j false = true → ∀ e ∈ oj.after, Region.binds md e = true → listed.getD e.on false = true

theorem Inv.set {M : List Nat} {start listed : Array Bool} {i : Nat} (inv : Inv md ops M start listed) (hi : i ∈ Region.ready md ops listed) : Inv md ops M start (listed.setIfInBounds i true) := by
  obtain ⟨_, oi, hoi, hall⟩ := mem_ready.1 hi
  refine ⟨fun j oj hj hl e he hb => ?_⟩
  by_cases hij : i = j
  · subst hij
    have : oj = oi := Option.some.inj (hj.symm.trans hoi)
    subst this
    exact getD_set_true (hall e he hb)
  · rw [getD_set_ne false hij] at hl
    exact getD_set_true (inv.closed j oj hj hl e he hb)

/-- t waits for m. -/
def reach (md : Region.Mode) (ops : Array Oper) : Nat → Nat → Nat → Bool
  | 0, _, _ => false
  | f + 1, t, m =>
    match ops[t]? with
    | some o => o.after.toList.any fun e => Region.binds md e && (Nat.beq e.on m || reach md ops f e.on m)
    | none => false

theorem reach_spec {listed : Array Bool} (hc : ∀ j oj, ops[j]? = some oj → listed.getD j false = true → ∀ e ∈ oj.after, Region.binds md e = true → listed.getD e.on false = true) :
    ∀ (f t m : Nat), reach md ops f t m = true → (∀ o, ops[t]? = some o → ∀ e ∈ o.after, Region.binds md e = true → listed.getD e.on false = true) → listed.getD m false = true
  | 0, _, _, h, _ => by cases h
  | f + 1, t, m, h, hall => by
    unfold reach at h
    cases ho : ops[t]? with
    | none => rw [ho] at h; cases h
    | some o =>
      rw [ho] at h
      obtain ⟨e, he, hb⟩ := List.any_eq_true.1 h
      simp only [Bool.and_eq_true, Bool.or_eq_true] at hb
      have hl := hall o ho e (by simpa using he) hb.1
      rcases hb.2 with h2 | h2
      · rw [← Nat.eq_of_beq_eq_true h2]; exact hl
      · exact reach_spec hc f e.on m h2 (fun o' ho' => hc e.on o' ho' hl)

/-- Those beyond M never come up while one of M is left. -/
def Waits (md : Region.Mode) (ops : Array Oper) (M : List Nat) (start : Array Bool) : Prop :=
  ∀ (listed : Array Bool), Inv md ops M start listed → (∀ j, start.getD j false = true → listed.getD j false = true) → ∀ i ∈ M, listed.getD i true = false → ∀ t ∈ Region.ready md ops listed, t ∈ M

def waitsB (md : Region.Mode) (ops : Array Oper) (M : List Nat) (start : Array Bool) : Bool :=
  (List.range ops.size).all fun t => M.contains t || start.getD t false || M.all fun m => reach md ops ops.size t m

theorem waits_of {M : List Nat} {start : Array Bool} (h : waitsB md ops M start = true) : Waits md ops M start := by
  intro listed inv hst i hi hun t ht
  obtain ⟨htun, ot, hot, hall⟩ := mem_ready.1 ht
  have hlt : t < ops.size := (Array.getElem?_eq_some_iff.1 hot).1
  have h1 := List.all_eq_true.1 h t (List.mem_range.2 hlt)
  simp only [Bool.or_eq_true] at h1
  rcases h1 with (h1 | h1) | h1
  · simpa using h1
  · have h2 := hst t h1
    rw [getD_both htun] at h2; cases h2
  · have h2 := List.all_eq_true.1 h1 i hi
    have h3 := reach_spec inv.closed _ _ _ h2 (fun o ho e he hb => by
      have : o = ot := Option.some.inj (ho.symm.trans hot)
      subst this
      exact hall e he hb)
    rw [getD_both hun] at h3; cases h3

theorem getD_start {start listed : Array Bool} {i : Nat} (hst : ∀ j, start.getD j false = true → listed.getD j false = true) : ∀ j, start.getD j false = true → (listed.setIfInBounds i true).getD j false = true :=
  fun j hj => getD_set_true (hst j hj)

theorem wpAnyM_first {M : List Nat} {start : Array Bool} {i : Nat} {oi : Oper} {v : Value} {L : Array Bool → Act → World → Prop} (hrefl : ∀ w, R w w) (htrans : ∀ a b c, R a b → R b c → R a c)
    (hi : ops[i]? = some oi) (hsel : ∀ (j : Nat) (o : Oper) cs b, ops[j]? = some o → o.op ≠ .select cs b)
    (hQ : ∀ c a w, Q (.panic c) (a.put oi.dst v) w → Q (.panic c) a w) (hwait : Waits md ops M start) (hin : i ∈ M)
    (hdone : ∀ listed a w, L listed a w → ∀ j ∈ Region.ready md ops listed, j ∉ M) :
    ∀ (f : Nat) (listed : Array Bool) (a : Act) (w : World), Inv md ops M start listed → (∀ j, start.getD j false = true → listed.getD j false = true) →
      (∀ j oj, ops[j]? = some oj → j ≠ i → listed.getD j true = false → (∀ e ∈ oj.after, Region.binds md e = true → e.on ≠ i) → oi.apart ops oj = true) →
      i ∈ Region.ready md ops listed → YieldsIf P ops (R w) oi v a →
      wpAnyM P md ops Q R M L f (listed.setIfInBounds i true) (a.put oi.dst v) w → wpAnyM P md ops Q R M L (f + 1) listed a w := by
  intro f
  induction f with
  | zero =>
    intro listed a w inv hst _ hr hy H
    have hun := (mem_ready.1 hr).1
    refine ⟨fun h => (by rw [h] at hr; cases hr), fun j hj => ?_⟩
    have hjn : j ∈ M := hwait listed inv hst i hin hun j hj
    refine ⟨hjn, ?_⟩
    by_cases hji : j = i
    · subst hji; exact hy.wpOp hi (hrefl w) ⟨hrefl w, H⟩
    · exact absurd hjn (hdone _ _ _ H j (ready_mono hj hji))
  | succ f ih =>
    intro listed a w inv hst hfree hr hy H
    have hun := (mem_ready.1 hr).1
    refine ⟨fun h => (by rw [h] at hr; cases hr), fun j hj => ?_⟩
    have hjn : j ∈ M := hwait listed inv hst i hin hun j hj
    refine ⟨hjn, ?_⟩
    by_cases hji : j = i
    · subst hji; exact hy.wpOp hi (hrefl w) ⟨hrefl w, H⟩
    · have h1 := (H.2 j (ready_mono hj hji)).2
      obtain ⟨hjun, oj, hoj, hall⟩ := mem_ready.1 hj
      have hnot : ∀ e ∈ oj.after, Region.binds md e = true → e.on ≠ i := fun e he hb heq => by
        have h1 := hall e he hb
        rw [heq, getD_both hun] at h1
        cases h1
      have h2 := wpOp_putIf hoj (hfree j oj hoj hji hjun hnot) (fun cs b => hsel i oi cs b hi) (fun cs b => hsel j oj cs b hoj) hQ hy h1
      have hfree' : ∀ k ok, ops[k]? = some ok → k ≠ i → (listed.setIfInBounds j true).getD k true = false →
          (∀ e ∈ ok.after, Region.binds md e = true → e.on ≠ i) → oi.apart ops ok = true := fun k ok hk hki hun hno => by
        refine hfree k ok hk hki ?_ hno
        by_cases hjk : j = k
        · subst hjk; exact hjun
        · rw [getD_set_ne true hjk] at hun; exact hun
      refine wpOp_mono (fun a' w' h3 => ⟨h3.2.1, ih (listed.setIfInBounds j true) a' w' (inv.set hj) (getD_start hst) hfree' (ready_mono hr (Ne.symm hji))
        (YieldsIf.weaken h3.1 fun w'' h => htrans _ _ _ h3.2.1 h) ?_⟩) h2
      rw [Array.setIfInBounds_comm _ _ hji]
      exact h3.2.2

def listAll (start : Array Bool) (l : List (Nat × Bool)) : Array Bool := l.foldl (fun s p => s.setIfInBounds p.1 true) start

/-- How many a row of steps carries out. -/
def lenOrd : List (Nat × Nat) → Nat
  | [] => 0
  | (_, 0) :: r => lenOrd r + 1
  | (_, 1) :: r => lenOrd r + 1
  | (_, _ + 2) :: r => lenOrd r + 2
def namesOrd : List (Nat × Nat) → List (Nat × Bool)
  | [] => []
  | (i, 0) :: r => (i, false) :: namesOrd r
  | (i, 1) :: r => (i, true) :: namesOrd r
  | (i, j + 2) :: r => (i, false) :: (j, false) :: namesOrd r

/-- The order chosen, checked: a number and 1: it is taken first (it yields), 0: it comes up alone, j + 2: it and j come up, either of them first. -/
def goodOrder (md : Region.Mode) (ops : Array Oper) (M : List Nat) (target : Array Bool) : List (Nat × Nat) → Array Bool → Bool
  | [], listed => decide (listed = target)
  | (i, 0) :: r, listed => M.contains i && decide (Region.ready md ops listed = [i]) && goodOrder md ops M target r (listed.setIfInBounds i true)
  | (i, 1) :: r, listed => M.contains i && ((Region.ready md ops listed).contains i && Region.free md ops listed i) && goodOrder md ops M target r (listed.setIfInBounds i true)
  | (i, j + 2) :: r, listed => M.contains i && M.contains j && !Nat.beq i j && decide (Region.ready md ops listed = [i, j]) && decide (Region.ready md ops (listed.setIfInBounds i true) = [j]) && decide (Region.ready md ops (listed.setIfInBounds j true) = [i]) &&
    goodOrder md ops M target r ((listed.setIfInBounds i true).setIfInBounds j true)

/-- The walk in the order chosen. -/
def wpOrd (P : Program) (ops : Array Oper) (Q : Exit → Act → World → Prop) (R : World → World → Prop) (T : Act → World → Prop) : List (Nat × Nat) → Act → World → Prop
  | [], a, w => T a w
  | (i, 1) :: r, a, w => ∃ o v, ops[i]? = some o ∧ YieldsIf P ops (R w) o v a ∧ wpOrd P ops Q R T r (a.put o.dst v) w
  | (i, 0) :: r, a, w => wpOp P ops Q i (fun a' w' => R w w' ∧ wpOrd P ops Q R T r a' w') a w
  | (i, j + 2) :: r, a, w => wpOp P ops Q i (fun a1 w1 => R w w1 ∧ wpOp P ops Q j (fun a2 w2 => R w1 w2 ∧ wpOrd P ops Q R T r a2 w2) a1 w1) a w ∧
    wpOp P ops Q j (fun a1 w1 => R w w1 ∧ wpOp P ops Q i (fun a2 w2 => R w1 w2 ∧ wpOrd P ops Q R T r a2 w2) a1 w1) a w

theorem wpAnyM_of_ord {M : List Nat} {start target : Array Bool} {T : Act → World → Prop} (hrefl : ∀ w, R w w) (htrans : ∀ a b c, R a b → R b c → R a c) (hsel : Region.noSelect ops = true)
    (hQ : ∀ c a w d v, Q (.panic c) (Act.put a d v) w → Q (.panic c) a w) (hwait : Waits md ops M start) (htarget : ∀ m ∈ M, target.getD m false = true) :
    ∀ (l : List (Nat × Nat)) (listed : Array Bool) (a : Act) (w : World), Inv md ops M start listed → (∀ j, start.getD j false = true → listed.getD j false = true) → goodOrder md ops M target l listed = true → wpOrd P ops Q R T l a w →
      wpAnyM P md ops Q R M (fun listed' a' w' => listed' = target ∧ T a' w') (lenOrd l) listed a w
  | [], listed, a, w, _, _, hB, h => ⟨by simpa [goodOrder] using hB, h⟩
  | (i, 1) :: r, listed, a, w, inv, hst, hB, h => by
    simp only [goodOrder, Bool.and_eq_true] at hB
    obtain ⟨⟨hin, hr, hf⟩, hB'⟩ := hB
    have hin' : i ∈ M := by simpa using hin
    have hr' : i ∈ Region.ready md ops listed := by simpa using hr
    obtain ⟨o, v, ho, hy, hK⟩ := h
    exact wpAnyM_first hrefl htrans ho (Region.noSelect_spec hsel) (fun c a w => hQ c a w _ _) hwait hin' (fun listed' a' w' hL j hj hjM => by
        have h1 := getD_both (mem_ready.1 hj).1
        have h2 := htarget j hjM
        rw [hL.1, h2] at h1
        cases h1) (lenOrd r) listed a w inv hst (Region.free_spec ho hf) hr' hy
      (wpAnyM_of_ord hrefl htrans hsel hQ hwait htarget r _ _ _ (inv.set hr') (getD_start hst) hB' hK)
  | (i, 0) :: r, listed, a, w, inv, hst, hB, h => by
    simp only [goodOrder, Bool.and_eq_true] at hB
    obtain ⟨⟨hin, hq⟩, hB'⟩ := hB
    have hin' : i ∈ M := by simpa using hin
    have hq' : Region.ready md ops listed = [i] := by simpa using hq
    have hr' : i ∈ Region.ready md ops listed := by rw [hq']; simp
    refine ⟨by rw [hq']; simp, fun j hj => ?_⟩
    have hji : j = i := by rw [hq'] at hj; simpa using hj
    subst hji
    exact ⟨hin', wpOp_mono (fun a' w' h' => ⟨h'.1, wpAnyM_of_ord hrefl htrans hsel hQ hwait htarget r _ _ _ (inv.set hr') (getD_start hst) hB' h'.2⟩) h⟩
  | (i, j + 2) :: r, listed, a, w, inv, hst, hB, h => by
    simp only [goodOrder, Bool.and_eq_true] at hB
    obtain ⟨⟨⟨⟨⟨⟨hin, hjn⟩, hij⟩, hq⟩, hqi⟩, hqj⟩, hB'⟩ := hB
    have hin' : i ∈ M := by simpa using hin
    have hjn' : j ∈ M := by simpa using hjn
    have hq' : Region.ready md ops listed = [i, j] := by simpa using hq
    have hqi' : Region.ready md ops (listed.setIfInBounds i true) = [j] := by simpa using hqi
    have hqj' : Region.ready md ops (listed.setIfInBounds j true) = [i] := by simpa using hqj
    have hne : i ≠ j := by intro e; subst e; simp at hij
    have hri : i ∈ Region.ready md ops listed := by rw [hq']; simp
    have hrj : j ∈ Region.ready md ops listed := by rw [hq']; simp
    have invi := inv.set hri
    have invj := inv.set hrj
    have hrj' : j ∈ Region.ready md ops (listed.setIfInBounds i true) := by rw [hqi']; simp
    refine ⟨by rw [hq']; simp, fun k hk => ?_⟩
    rw [hq'] at hk
    rcases (by simpa using hk : k = i ∨ k = j) with rfl | rfl
    · refine ⟨hin', wpOp_mono (fun a1 w1 h1 => ⟨h1.1, by rw [hqi']; simp, fun m hm => ?_⟩) h.1⟩
      have hmj : m = j := by rw [hqi'] at hm; simpa using hm
      subst hmj
      exact ⟨hjn', wpOp_mono (fun a2 w2 h2 => ⟨h2.1, wpAnyM_of_ord hrefl htrans hsel hQ hwait htarget r _ _ _ (invi.set hrj') (getD_start (getD_start hst)) hB' h2.2⟩) h1.2⟩
    · refine ⟨hjn', wpOp_mono (fun a1 w1 h1 => ⟨h1.1, by rw [hqj']; simp, fun m hm => ?_⟩) h.2⟩
      have hmi : m = i := by rw [hqj'] at hm; simpa using hm
      subst hmi
      refine ⟨hin', wpOp_mono (fun a2 w2 h2 => ⟨h2.1, ?_⟩) h1.2⟩
      rw [Array.setIfInBounds_comm _ _ (Ne.symm hne)]
      exact wpAnyM_of_ord hrefl htrans hsel hQ hwait htarget r _ _ _ (invi.set hrj') (getD_start (getD_start hst)) hB' h2.2

/-! ### One by one: taken first in whatever world, or alone -/
def wpSeq (P : Program) (ops : Array Oper) (Q : Exit → Act → World → Prop) (T : Act → World → Prop) : List (Nat × Bool) → Act → World → Prop
  | [], a, w => T a w
  | (i, true) :: r, a, w => ∃ o v, ops[i]? = some o ∧ Yields P ops o v a ∧ wpSeq P ops Q T r (a.put o.dst v) w
  | (i, false) :: r, a, w => wpOp P ops Q i (wpSeq P ops Q T r) a w

def goodSeq (md : Region.Mode) (ops : Array Oper) : List (Nat × Bool) → Array Bool → Bool
  | [], _ => true
  | (i, q) :: r, listed => (if q then (Region.ready md ops listed).contains i && Region.free md ops listed i else decide (Region.ready md ops listed = [i])) && goodSeq md ops r (listed.setIfInBounds i true)

theorem wpAny_of_seq' {T : Act → World → Prop} {g : Nat} (hsel : Region.noSelect ops = true) (hQ : ∀ c a w d v, Q (.panic c) (Act.put a d v) w → Q (.panic c) a w) :
    ∀ (l : List (Nat × Bool)) (listed : Array Bool) (a : Act) (w : World), Inv md ops [] #[] listed → goodSeq md ops l listed = true →
      (∀ a w, Inv md ops [] #[] (listAll listed l) → T a w → wpAny P md ops Q g (listAll listed l) a w) → wpSeq P ops Q T l a w → wpAny P md ops Q (l.length + g) listed a w
  | [], listed, a, w, inv, _, hT, h => by
    have := hT a w inv h
    rw [List.length_nil, Nat.zero_add]; exact this
  | (i, q) :: r, listed, a, w, inv, hB, hT, h => by
    simp only [goodSeq, Bool.and_eq_true] at hB
    obtain ⟨hq, hB'⟩ := hB
    rw [List.length_cons, show r.length + 1 + g = (r.length + g) + 1 by omega]
    cases q with
    | true =>
      simp only [if_true, Bool.and_eq_true] at hq
      obtain ⟨hr, hf⟩ := hq
      obtain ⟨o, v, ho, hy, hK⟩ := h
      exact wpAny_first ho (Region.noSelect_spec hsel) (fun c a w => hQ c a w _ _) _ _ _ _ (Region.free_spec ho hf) (by simpa using hr) hy
        (wpAny_of_seq' hsel hQ r _ _ _ (inv.set (by simpa using hr)) hB' hT hK)
    | false =>
      have hq' : Region.ready md ops listed = [i] := by simpa using hq
      refine wpAny_all hq' (by simp) fun j hj => ?_
      have hji : j = i := by simpa using hj
      subst hji
      exact wpOp_mono (fun a' w' h' => wpAny_of_seq' hsel hQ r _ _ _ (inv.set (by rw [hq']; simp)) hB' hT h') h

/-- The whole check. -/
def ordB (md : Region.Mode) (ops : Array Oper) (l1 : List (Nat × Bool)) (l2 : List (Nat × Nat)) (l3 : List (Nat × Bool)) : Bool :=
  let s0 := Array.replicate ops.size false
  let s1 := listAll s0 l1
  let s2 := listAll s1 (namesOrd l2)
  let M := (namesOrd l2).map (·.1)
  Region.noSelect ops && Nat.beq (l1.length + (lenOrd l2 + l3.length)) ops.size && goodSeq md ops l1 s0 && goodOrder md ops M s2 l2 s1 && waitsB md ops M s1 && M.all (fun m => s2.getD m false) &&
  goodSeq md ops l3 s2 && decide (Region.ready md ops (listAll s2 l3) = [])

/-- Q, but False at a panic. -/
def NoPan (Q : Exit → Act → World → Prop) : Exit → Act → World → Prop
  | .panic _, _, _ => False
  | e, a, w => Q e a w
theorem NoPan.imp {Q : Exit → Act → World → Prop} : ∀ (e : Exit) (a : Act) (w : World), NoPan Q e a w → Q e a w := fun e a w h => by
  cases e <;> first | exact h | exact (h : False).elim

theorem inv_ord {M : List Nat} {tgt : Array Bool} : ∀ (l : List (Nat × Nat)) (s : Array Bool), goodOrder md ops M tgt l s = true → Inv md ops [] #[] s → Inv md ops [] #[] (listAll s (namesOrd l))
  | [], s, _, hi => hi
  | (i, 0) :: r, s, hg, hi => by
    simp only [goodOrder, Bool.and_eq_true] at hg
    have : Region.ready md ops s = [i] := by simpa using hg.1.2
    exact inv_ord r _ hg.2 (hi.set (by rw [this]; simp))
  | (i, 1) :: r, s, hg, hi => by
    simp only [goodOrder, Bool.and_eq_true] at hg
    exact inv_ord r _ hg.2 (hi.set (by simpa using hg.1.2.1))
  | (i, j + 2) :: r, s, hg, hi => by
    simp only [goodOrder, Bool.and_eq_true] at hg
    have h1 : Region.ready md ops s = [i, j] := by simpa using hg.1.1.1.2
    have h2 : Region.ready md ops (s.setIfInBounds i true) = [j] := by simpa using hg.1.1.2
    exact inv_ord r _ hg.2 ((hi.set (by rw [h1]; simp)).set (by rw [h2]; simp))

theorem wp_region_ord {id : Nat} {a : Act} {w : World} (l1 : List (Nat × Bool)) (l2 : List (Nat × Nat)) (l3 : List (Nat × Bool)) (hrefl : ∀ w, R w w) (htrans : ∀ a b c, R a b → R b c → R a c)
    (hm : P.follows .mixedOrders = true) (hB : ordB .any ops l1 l2 l3 = true)
    (h : wpSeq P ops (NoPan Q) (wpOrd P ops (NoPan Q) R (wpSeq P ops (NoPan Q) (NoPan Q .normal) l3) l2) l1 a w.drew) : (Code.region id ops true).wp P Q a w := by
  refine Code.wp_mono NoPan.imp ?_
  have hQ : ∀ c a w d v, NoPan Q (.panic c) (Act.put a d v) w → NoPan Q (.panic c) a w := fun _ _ _ _ _ h => h
  generalize NoPan Q = Q at *
  simp only [ordB, Bool.and_eq_true] at hB
  obtain ⟨⟨⟨⟨⟨⟨⟨hsel, hlen⟩, hg1⟩, hg2⟩, hw⟩, ht⟩, hg3⟩, hend⟩ := hB
  have hlen' : l1.length + (lenOrd l2 + l3.length) = ops.size := Nat.eq_of_beq_eq_true hlen
  have inv0 : Inv .any ops [] #[] (Array.replicate ops.size false) := ⟨fun j oj _ hl => (by rw [getD_replicate_false] at hl; cases hl)⟩
  have hend' : Region.ready .any ops (listAll (listAll (listAll (Array.replicate ops.size false) l1) (namesOrd l2)) l3) = [] := by simpa using hend
  refine wp_region_any hm ?_
  suffices hh : wpAny P .any ops Q (l1.length + (lenOrd l2 + l3.length)) (Array.replicate ops.size false) a w.drew by rw [hlen'] at hh; exact hh
  refine wpAny_of_seq' (md := .any) (g := lenOrd l2 + l3.length) hsel hQ l1 _ a w.drew inv0 hg1 (fun a w inv1 hT => ?_) h
  have H := wpAnyM_of_ord (md := .any) (start := listAll (Array.replicate ops.size false) l1) hrefl htrans hsel hQ (waits_of hw)
    (fun m hm => List.all_eq_true.1 ht m hm) l2 _ a w ⟨inv1.closed⟩ (fun _ h => h) hg2 hT
  refine wpAny_of_M (Q := Q) (g := l3.length) (fun listed a' w' hL => ?_) _ _ _ _ H
  obtain ⟨rfl, hT3⟩ := hL
  have inv2 := inv_ord l2 _ hg2 inv1
  have := wpAny_of_seq' (md := .any) (g := 0) hsel hQ l3 _ a' w' inv2 hg3 (fun a w _ hT => ⟨hend', hT⟩) hT3
  simpa using this
end
end Go.X
