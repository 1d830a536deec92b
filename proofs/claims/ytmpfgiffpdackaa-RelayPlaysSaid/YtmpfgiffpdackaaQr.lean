import Derived.Test.YtmpfgiffpdackaaQk
import Derived.Test.YtmpfgiffpdackaaX28
import Derived.Test.YtmpfgiffpdackaaQw
/-
  A relay's state: queues by name. No program here.
-/
set_option linter.unusedVariables false
namespace Go.X
/-- A frame that waits: its number, whom it is from, when it came, the frame's row. -/
abbrev Itm : Type := Int × Key × Int × Value
abbrev It : Type := Int × Key × Int × List UInt8
def itmS : Shp Itm := ⟨4, fun x => [I x.1, Str x.2.1, I x.2.2.1, x.2.2.2], fun _ => rfl, by decide⟩
def itmD : Itm := (0, [], 0, nilS)
def itD0 : It := (0, [], 0, [])
def eqI (i : Int) (x : Itm) : Bool := decide (x.1 = i)
def eqP (i : Int) (x : It) : Bool := decide (x.1 = i)
def agI (now ex : Int) (x : Itm) : Bool := decide (now - x.2.2.1 ≥ ex)
def agP (now ex : Int) (x : It) : Bool := decide (now - x.2.2.1 ≥ ex)
theorem itm_one {es : List Itm} (h : ∀ x ∈ es, x.2.2.2.oneCell' = true) : ∀ x ∈ es, ∀ v ∈ itmS.c x, v.oneCell' = true := fun x hx v hv => by
  simp only [itmS, List.mem_cons, List.mem_nil_iff, or_false] at hv
  rcases hv with rfl | rfl | rfl | rfl
  · rfl
  · rfl
  · rfl
  · exact h x hx
theorem itm_one1 {x : Itm} (h : x.2.2.2.oneCell' = true) : ∀ y ∈ [x], ∀ u ∈ itmS.c y, u.oneCell' = true := itm_one fun y hy => by rw [List.mem_singleton] at hy; subst hy; exact h
theorem itm_app {es : List Itm} {x : Itm} (h : ∀ y ∈ es, y.2.2.2.oneCell' = true) (hv : x.2.2.2.oneCell' = true) : ∀ y ∈ es ++ [x], y.2.2.2.oneCell' = true := fun y hy => by
  rcases List.mem_append.1 hy with hy | hy
  · exact h y hy
  · rw [List.mem_singleton] at hy; rw [hy]; exact hv
theorem itm_set {es : List Itm} {i j : Nat} (h : ∀ x ∈ es, x.2.2.2.oneCell' = true) (hj : j < es.length) : ∀ x ∈ es.set i (es.getD j itmD), x.2.2.2.oneCell' = true := fun x hx => by
  rcases List.mem_or_eq_of_mem_set hx with hx | rfl
  · exact h x hx
  · exact h _ (getD_memE itmD hj)
/-! ### Two lists, side by side -/
def R2 {α β : Type} (R : α → β → Prop) : List α → List β → Prop
  | [], [] => True
  | a :: l, b :: m => R a b ∧ R2 R l m
  | _, _ => False
section
variable {α β : Type} {R R' : α → β → Prop}
theorem R2.len : ∀ {l : List α} {m : List β}, R2 R l m → l.length = m.length
  | [], [], _ => rfl
  | _ :: l, _ :: m, h => by simp [R2.len h.2]
  | [], _ :: _, h => h.elim
  | _ :: _, [], h => h.elim
theorem R2.imp (hi : ∀ a b, R a b → R' a b) : ∀ {l : List α} {m : List β}, R2 R l m → R2 R' l m
  | [], [], _ => trivial
  | _ :: l, _ :: m, h => ⟨hi _ _ h.1, R2.imp hi h.2⟩
  | [], _ :: _, h => h.elim
  | _ :: _, [], h => h.elim
theorem R2.app : ∀ {l l' : List α} {m m' : List β}, R2 R l m → R2 R l' m' → R2 R (l ++ l') (m ++ m')
  | [], _, [], _, _, h' => h'
  | _ :: l, _, _ :: m, _, h, h' => ⟨h.1, R2.app h.2 h'⟩
  | [], _, _ :: _, _, h, _ => h.elim
  | _ :: _, _, [], _, h, _ => h.elim
theorem R2.one {a : α} {b : β} (h : R a b) : R2 R [a] [b] := ⟨h, trivial⟩
theorem R2.take : ∀ (k : Nat) {l : List α} {m : List β}, R2 R l m → R2 R (l.take k) (m.take k)
  | 0, _, _, _ => by simp [R2]
  | k + 1, [], [], _ => trivial
  | k + 1, _ :: l, _ :: m, h => ⟨h.1, R2.take k h.2⟩
  | _ + 1, [], _ :: _, h => h.elim
  | _ + 1, _ :: _, [], h => h.elim
theorem R2.drop : ∀ (k : Nat) {l : List α} {m : List β}, R2 R l m → R2 R (l.drop k) (m.drop k)
  | 0, _, _, h => h
  | k + 1, [], [], _ => trivial
  | k + 1, _ :: l, _ :: m, h => R2.drop k h.2
  | _ + 1, [], _ :: _, h => h.elim
  | _ + 1, _ :: _, [], h => h.elim
theorem R2.get (d : α) (d' : β) : ∀ {l : List α} {m : List β} {i : Nat}, R2 R l m → i < l.length → R (l.getD i d) (m.getD i d')
  | [], [], i, _, hi => by simp at hi
  | a :: l, b :: m, 0, h, _ => h.1
  | a :: l, b :: m, i + 1, h, hi => by
    have := R2.get d d' (i := i) h.2 (by simpa using hi)
    simpa using this
  | [], _ :: _, _, h, _ => h.elim
  | _ :: _, [], _, h, _ => h.elim
theorem R2.filter {p : α → Bool} {p' : β → Bool} (hp : ∀ a b, R a b → p a = p' b) : ∀ {l : List α} {m : List β}, R2 R l m → R2 R (l.filter p) (m.filter p')
  | [], [], _ => trivial
  | a :: l, b :: m, h => by
    have h1 := hp a b h.1
    have h2 := R2.filter hp h.2
    cases hb : p' b
    · rw [List.filter_cons_of_neg (by rw [h1, hb]; decide), List.filter_cons_of_neg (by rw [hb]; decide)]; exact h2
    · rw [List.filter_cons_of_pos (by rw [h1, hb]), List.filter_cons_of_pos hb]; exact ⟨h.1, h2⟩
  | [], _ :: _, h => h.elim
  | _ :: _, [], h => h.elim
theorem R2.find {p : α → Bool} {p' : β → Bool} (hp : ∀ a b, R a b → p a = p' b) : ∀ {l : List α} {m : List β}, R2 R l m → l.findIdx? p = m.findIdx? p'
  | [], [], _ => rfl
  | a :: l, b :: m, h => by
    rw [List.findIdx?_cons, List.findIdx?_cons, hp a b h.1, R2.find hp h.2]
  | [], _ :: _, h => h.elim
  | _ :: _, [], h => h.elim
theorem R2.idx {p : α → Bool} {p' : β → Bool} (hp : ∀ a b, R a b → p a = p' b) {l : List α} {m : List β} (h : R2 R l m) : idxI p l = idxI p' m := by
  unfold idxI; rw [R2.find hp h]
theorem R2.mem : ∀ {l : List α} {m : List β} {a : α}, R2 R l m → a ∈ l → ∃ b ∈ m, R a b
  | [], [], a, _, h => by cases h
  | x :: l, y :: m, a, h, ha => by
    rcases List.mem_cons.1 ha with rfl | ha
    · exact ⟨y, by simp, h.1⟩
    · obtain ⟨b, hb, hr⟩ := R2.mem h.2 ha
      exact ⟨b, by simp [hb], hr⟩
  | [], _ :: _, _, h, _ => h.elim
  | _ :: _, [], _, h, _ => h.elim
theorem R2.at : ∀ {l : List α} {m : List β} {i : Nat} {a : α}, R2 R l m → l[i]? = some a → ∃ b, m[i]? = some b ∧ R a b
  | [], [], i, a, _, h => by simp at h
  | x :: l, y :: m, 0, a, h, ha => ⟨y, rfl, by simp at ha; subst ha; exact h.1⟩
  | x :: l, y :: m, i + 1, a, h, ha => by
    have := R2.at (i := i) h.2 (by simpa using ha)
    simpa using this
  | [], _ :: _, _, _, h, _ => h.elim
  | _ :: _, [], _, _, h, _ => h.elim
end
/-! ### What is known of the items -/
def Eq3 (w : World) (x : Itm) (y : It) : Prop := x.1 = y.1 ∧ x.2.1 = y.2.1 ∧ x.2.2.1 = y.2.2.1 ∧ Bs w x.2.2.2 y.2.2.2
def Eq4 (w : World) (D : Nat → Prop) (x : Itm) (y : It) : Prop := Eq3 w x y ∧ Kf D x.2.2.2.ownBlock ∧ Live w x.2.2.2.ownBlock
theorem Eq3.ext {w w' : World} {x : Itm} {y : It} (h : Eq3 w x y) (he : Ext w w') : Eq3 w' x y := ⟨h.1, h.2.1, h.2.2.1, h.2.2.2.ext he⟩
theorem Eq4.ext {w w' : World} {D : Nat → Prop} {x : Itm} {y : It} (h : Eq4 w D x y) (he : Ext w w') : Eq4 w' D x y := ⟨h.1.ext he, h.2.1, h.2.2.ext he.size⟩
def OutD (D : Nat → Prop) (rs : List (Option Nat)) : Prop := ∀ q ∈ rs, ∀ k, q = some k → ¬ D k
theorem Kf.apl {D : Nat → Prop} {a : Option Nat} {rs : List (Option Nat)} (h : Kf D a) (ho : OutD D rs) : ApL a rs := fun q hq k e1 e2 => ho q hq k e2 (h k e1)
theorem Eq4.tnk {w w' : World} {D : Nat → Prop} {x : Itm} {y : It} {rs} (h : Eq4 w D x y) (hg : Tn rs w w') (ho : OutD D rs) : Eq4 w' D x y := ⟨⟨h.1.1, h.1.2.1, h.1.2.2.1, Rd.tnk h.1.2.2.2 hg (h.2.1.apl ho)⟩, h.2.1, h.2.2.ext hg.size⟩
theorem Eq4.mono {w : World} {D D' : Nat → Prop} {x : Itm} {y : It} (h : Eq4 w D x y) (hd : ∀ k, D k → D' k) : Eq4 w D' x y := ⟨h.1, fun k e => hd k (h.2.1 k e), h.2.2⟩
theorem Eq4.one {w : World} {D : Nat → Prop} {es : List Itm} {l : List It} (h : R2 (Eq4 w D) es l) : ∀ x ∈ es, x.2.2.2.oneCell' = true := fun x hx => by
  obtain ⟨b, _, hb⟩ := R2.mem h hx
  exact Rd.one hb.1.2.2.2
/-- A queue: its row, and what it holds. -/
def Qu (TI : TypeId) (D : Nat → Prop) (w : World) (v : Value) (l : List It) : Prop := ∃ es, Es itmS 0 TI w v es ∧ R2 (Eq4 w D) es l
theorem Qu.nil (TI : TypeId) (D : Nat → Prop) (w : World) : Qu TI D w nilS [] := ⟨[], Es.nil _ _ _ _, trivial⟩
theorem Qu.ext {TI D w w' v l} (h : Qu TI D w v l) (he : Ext w w') : Qu TI D w' v l := by obtain ⟨es, h1, h2⟩ := h; exact ⟨es, h1.ext he, R2.imp (fun _ _ h => h.ext he) h2⟩
theorem Qu.tnk {TI D w w' v l rs} (h : Qu TI D w v l) (hg : Tn rs w w') (ha : ApL v.ownBlock rs) (ho : OutD D rs) : Qu TI D w' v l := by
  obtain ⟨es, h1, h2⟩ := h; exact ⟨es, h1.tnk hg ha, R2.imp (fun _ _ h => h.tnk hg ho) h2⟩
theorem Qu.mono {TI D D' w v l} (h : Qu TI D w v l) (hd : ∀ k, D k → D' k) : Qu TI D' w v l := by obtain ⟨es, h1, h2⟩ := h; exact ⟨es, h1, R2.imp (fun _ _ h => h.mono hd) h2⟩
theorem Qu.live {TI D w v l} (h : Qu TI D w v l) : Live w v.ownBlock := by obtain ⟨es, h1, h2⟩ := h; exact h1.live
/-! ### The queues -/
def qget : List (Key × List It) → Key → List It
  | [], _ => []
  | p :: r, k => if k = p.1 then p.2 else qget r k
def qset (k : Key) (l : List It) : List (Key × List It) → List (Key × List It)
  | [] => [(k, l)]
  | p :: r => if k = p.1 then (p.1, l) :: r else p :: qset k l r
theorem qget_set (k k' : Key) (l : List It) : ∀ q, qget (qset k l q) k' = if k' = k then l else qget q k'
  | [] => by
    unfold qset qget
    split
    · rfl
    · rfl
  | p :: r => by
    unfold qset
    split
    · next h =>
      unfold qget
      by_cases h2 : k' = p.1
      · simp [h2, h]
      · rw [if_neg h2, if_neg h2, if_neg (by rw [h]; exact h2)]
    · next h =>
      unfold qget
      by_cases h2 : k' = p.1
      · rw [if_pos h2, if_pos h2, if_neg (by rw [h2]; exact fun e => h e.symm)]
      · rw [if_neg h2, if_neg h2]; exact qget_set k k' l r
/-- A row of a queue and the relay's own blocks. -/
def Row (K D : Nat → Prop) (b mb : Nat) (v : Value) : Prop := ∀ k, v.ownBlock = some k → K k ∧ ¬ D k ∧ k ≠ b ∧ k ≠ mb
structure RqX (TR TI : TypeId) (base : Nat) (K D : Nat → Prop) (mb : Nat) (m : List (Key × Value)) (w : World) (b : Nat) (c : Int × Int × Int) (q : List (Key × List It)) : Prop where
  kb : ∀ k, K k → base ≤ k ∧ k < w.heap.size
  dk : ∀ k, D k → K k
  bb : K b ∧ ¬ D b
  mm : K mb ∧ ¬ D mb
  ne : b ≠ mb
  cel : Cel w b TR [(0, 1, [I c.1]), (1, 1, [I c.2.1]), (2, 1, [I c.2.2]), (3, 1, [.map (some mb)])]
  mp : Mp w mb m
  rows : R2 (fun p r => p.1 = r.1 ∧ Qu TI D w p.2 r.2 ∧ Row K D b mb p.2) m q
  apart : m.Pairwise fun p p' => Ap p.2.ownBlock p'.2.ownBlock
  nd : (m.map (·.1)).Nodup
def Rq (TR TI : TypeId) (base : Nat) (K : Nat → Prop) (w : World) (b : Nat) (c : Int × Int × Int) (q : List (Key × List It)) : Prop := ∃ D mb m, RqX TR TI base K D mb m w b c q
section
variable {TR TI : TypeId} {base : Nat} {K D : Nat → Prop} {mb : Nat} {m : List (Key × Value)} {w w' : World} {b : Nat} {c : Int × Int × Int} {q : List (Key × List It)}
theorem RqX.ext (h : RqX TR TI base K D mb m w b c q) (he : Ext w w') : RqX TR TI base K D mb m w' b c q :=
  ⟨fun k hk => ⟨(h.kb k hk).1, Nat.lt_of_lt_of_le (h.kb k hk).2 he.size⟩, h.dk, h.bb, h.mm, h.ne, h.cel.ext he, h.mp.ext he, R2.imp (fun _ _ h => ⟨h.1, h.2.1.ext he, h.2.2⟩) h.rows, h.apart, h.nd⟩
theorem RqX.tnk {rs} (h : RqX TR TI base K D mb m w b c q) (hg : Tn rs w w') (ho : OutD K rs) : RqX TR TI base K D mb m w' b c q :=
  ⟨fun k hk => ⟨(h.kb k hk).1, Nat.lt_of_lt_of_le (h.kb k hk).2 hg.size⟩, h.dk, h.bb, h.mm, h.ne, h.cel.tnk hg (fun q hq k e1 e2 => by cases e1; exact ho q hq _ e2 h.bb.1), h.mp.tnk hg (fun q hq k e1 e2 => by cases e1; exact ho q hq _ e2 h.mm.1),
    R2.imp (fun p r hr => ⟨hr.1, hr.2.1.tnk hg (fun q hq k e1 e2 => ho q hq k e2 (hr.2.2 k e1).1) (fun q hq k e hd => ho q hq k e (h.dk k hd)), hr.2.2⟩) h.rows, h.apart, h.nd⟩
theorem Rq.ext (h : Rq TR TI base K w b c q) (he : Ext w w') : Rq TR TI base K w' b c q := by obtain ⟨D, mb, m, h⟩ := h; exact ⟨D, mb, m, h.ext he⟩
theorem Rq.tnk {rs} (h : Rq TR TI base K w b c q) (hg : Tn rs w w') (ho : OutD K rs) : Rq TR TI base K w' b c q := by obtain ⟨D, mb, m, h⟩ := h; exact ⟨D, mb, m, h.tnk hg ho⟩
/-- What is sought for one name. -/
theorem rows_get {R : Value → List It → Prop} (hn : R nilS []) : ∀ {m : List (Key × Value)} {q : List (Key × List It)} (k : Key), R2 (fun p r => p.1 = r.1 ∧ R p.2 r.2) m q → R ((mget m k).getD nilS) (qget q k)
  | [], [], k, _ => hn
  | p :: m, r :: q, k, h => by
    unfold mget qget
    rw [h.1.1]
    split
    · exact h.1.2
    · exact rows_get hn k h.2
  | [], _ :: _, _, h => h.elim
  | _ :: _, [], _, h => h.elim
theorem RqX.get (h : RqX TR TI base K D mb m w b c q) (k : Key) : Qu TI D w ((mget m k).getD nilS) (qget q k) ∧ Row K D b mb ((mget m k).getD nilS) :=
  rows_get (R := fun v l => Qu TI D w v l ∧ Row K D b mb v) ⟨Qu.nil _ _ _, fun k e => by cases e⟩ k h.rows
theorem mget_mem {k : Key} {v : Value} : ∀ {m : List (Key × Value)}, mget m k = some v → (k, v) ∈ m
  | [], h => by cases h
  | p :: m, h => by
    unfold mget at h
    split at h
    · next e => cases h; rw [e]; exact List.mem_cons_self
    · exact List.mem_cons_of_mem _ (mget_mem h)
/-- One row written; the others stand. -/
theorem rows_set {R R' : Value → List It → Prop} {v' : Value} {l' : List It} {k : Key} (h' : R' v' l') : ∀ {m : List (Key × Value)} {q : List (Key × List It)}, R2 (fun p r => p.1 = r.1 ∧ R p.2 r.2) m q → m.Pairwise (fun p p' => Ap p.2.ownBlock p'.2.ownBlock) →
    (∀ u l, R u l → Ap u.ownBlock ((mget m k).getD nilS).ownBlock → R' u l) → R2 (fun p r => p.1 = r.1 ∧ R' p.2 r.2) (mset k v' m) (qset k l' q)
  | [], [], _, _, _ => ⟨⟨rfl, h'⟩, trivial⟩
  | p :: m, r :: q, h, hp, hi => by
    unfold mset qset
    rw [h.1.1]
    by_cases e : k = r.1
    · rw [if_pos e, if_pos e]
      refine ⟨⟨rfl, h'⟩, ?_⟩
      have e0 : (mget (p :: m) k).getD nilS = p.2 := by unfold mget; rw [if_pos (by rw [h.1.1]; exact e)]; rfl
      rw [e0] at hi
      have hp' := (List.pairwise_cons.1 hp).1
      have key : ∀ {m : List (Key × Value)} {q : List (Key × List It)}, (∀ p' ∈ m, Ap p.2.ownBlock p'.2.ownBlock) → R2 (fun p r => p.1 = r.1 ∧ R p.2 r.2) m q → R2 (fun p r => p.1 = r.1 ∧ R' p.2 r.2) m q := by
        intro m
        induction m with
        | nil => intro q _ h; cases q; exact trivial; exact h.elim
        | cons x m ih =>
          intro q ha h
          cases q with
          | nil => exact h.elim
          | cons y q => exact ⟨⟨h.1.1, hi _ _ h.1.2 (ha x (by simp)).symm⟩, ih (fun p' hp' => ha p' (by simp [hp'])) h.2⟩
      exact key hp' h.2
    · rw [if_neg e, if_neg e]
      have e0 : (mget (p :: m) k).getD nilS = (mget m k).getD nilS := by show (if k = p.1 then some p.2 else mget m k).getD nilS = _; rw [if_neg (by rw [h.1.1]; exact e)]
      rw [e0] at hi
      refine ⟨⟨h.1.1, hi _ _ h.1.2 ?_⟩, rows_set h' h.2 (List.pairwise_cons.1 hp).2 hi⟩
      cases hm : mget m k with
      | none => exact Ap.nil_r
      | some v => exact (List.pairwise_cons.1 hp).1 _ (mget_mem hm)
  | [], _ :: _, h, _, _ => h.elim
  | _ :: _, [], h, _, _ => h.elim
theorem apart_set {k : Key} {v' : Value} : ∀ {m : List (Key × Value)}, m.Pairwise (fun p p' => Ap p.2.ownBlock p'.2.ownBlock) → (∀ p ∈ m, Ap p.2.ownBlock ((mget m k).getD nilS).ownBlock → Ap p.2.ownBlock v'.ownBlock) → (mset k v' m).Pairwise fun p p' => Ap p.2.ownBlock p'.2.ownBlock
  | [], _, _ => by simp [mset]
  | p :: m, hp, hi => by
    have h1 := List.pairwise_cons.1 hp
    unfold mset
    by_cases e : k = p.1
    · rw [if_pos e]
      have e0 : (mget (p :: m) k).getD nilS = p.2 := by unfold mget; rw [if_pos e]; rfl
      rw [e0] at hi
      exact List.pairwise_cons.2 ⟨fun p' hp' => (hi p' (by simp [hp']) (h1.1 p' hp').symm).symm, h1.2⟩
    · rw [if_neg e]
      have e0 : (mget (p :: m) k).getD nilS = (mget m k).getD nilS := by show (if k = p.1 then some p.2 else mget m k).getD nilS = _; rw [if_neg e]
      rw [e0] at hi
      refine List.pairwise_cons.2 ⟨fun p' hp' => ?_, apart_set h1.2 fun x hx ha => hi x (by simp [hx]) ha⟩
      have hmem : ∀ {m : List (Key × Value)}, p' ∈ mset k v' m → p' ∈ m ∨ p'.2 = v' := by
        intro m
        induction m with
        | nil => intro h; simp [mset] at h; exact .inr (by rw [h])
        | cons y m ih =>
          intro h
          unfold mset at h
          split at h
          · rcases List.mem_cons.1 h with rfl | h
            · exact .inr rfl
            · exact .inl (List.mem_cons_of_mem _ h)
          · rcases List.mem_cons.1 h with rfl | h
            · exact .inl List.mem_cons_self
            · exact (ih h).imp (List.mem_cons_of_mem _) id
      rcases hmem hp' with h | h
      · exact h1.1 p' h
      · rw [h]
        refine hi p (by simp) ?_
        cases hm : mget m k with
        | none => exact Ap.nil_r
        | some v => exact h1.1 _ (mget_mem hm)
end
/-! ### Names -/
def okB (c : UInt8) : Bool := (decide ((c.toNat : Int) ≥ 97) && decide ((c.toNat : Int) ≤ 122)) || (decide ((c.toNat : Int) ≥ 48) && decide ((c.toNat : Int) ≤ 57))
def nameB (s : Key) : Bool := s.all okB && (!s.isEmpty && decide ((s.length : Int) ≤ 12))
theorem okB_yes {c : UInt8} (h : (97 ≤ (c.toNat : Int) ∧ (c.toNat : Int) ≤ 122) ∨ (48 ≤ (c.toNat : Int) ∧ (c.toNat : Int) ≤ 57)) : okB c = true := by
  unfold okB; rcases h with ⟨h1, h2⟩ | ⟨h1, h2⟩ <;> simp [h1, h2]
theorem okB_no {c : UInt8} (h : ¬ ((97 ≤ (c.toNat : Int) ∧ (c.toNat : Int) ≤ 122) ∨ (48 ≤ (c.toNat : Int) ∧ (c.toNat : Int) ≤ 57))) : okB c = false := by
  cases hb : okB c
  · rfl
  · exfalso; apply h
    unfold okB at hb
    simpa using hb
theorem name_no {s : Key} {k : Nat} (hk : k < s.length) (h : okB (s.getD k 0) = false) : false = nameB s := by
  symm
  unfold nameB
  rw [Bool.and_eq_false_iff]
  left
  rw [List.all_eq_false]
  refine ⟨s.getD k 0, ?_, by rw [h]; decide⟩
  rw [List.getD_eq_getElem?_getD, List.getElem?_eq_getElem hk]; exact List.getElem_mem hk
theorem name_all {s : Key} (h : ∀ j, j < s.length → okB (s.getD j 0) = true) : s.all okB = true := by
  rw [List.all_eq_true]
  intro x hx
  obtain ⟨j, hj, rfl⟩ := List.getElem_of_mem hx
  have := h j hj
  rwa [List.getD_eq_getElem?_getD, List.getElem?_eq_getElem hj] at this
theorem name_yes {s : Key} (h : ∀ j, j < s.length → okB (s.getD j 0) = true) (h0 : s ≠ []) : decide ((s.length : Int) ≤ 12) = nameB s := by
  unfold nameB; rw [name_all h]
  cases s
  · exact absurd rfl h0
  · simp
theorem name_nil {s : Key} (h0 : ¬ s ≠ []) : false = nameB s := by
  have : s = [] := Classical.not_not.1 h0
  subst this; rfl
theorem memset {p : Itm → Prop} {es : List Itm} {i j : Nat} (h : ∀ x ∈ es, p x) (hj : j < es.length) : ∀ x ∈ es.set i (es.getD j itmD), p x := fun x hx => by
  rcases List.mem_or_eq_of_mem_set hx with hx | rfl
  · exact h x hx
  · exact h _ (getD_memE itmD hj)
theorem agI_is {now ex : Int} {x : Itm} (h : 1 ≤ ex) : decide (now - x.2.2.1 ≥ (if ex < 1 then 1 else ex)) = agI now ex x := by
  unfold agI; rw [if_neg (by omega)]
theorem cells_str (l : List UInt8) : (Str l).cells = #[Str l] := rfl
def mxI (t : Int) : Int := if t < 1 then 1 else t
def exI (t : Int) : Int := if 1099511627776 < mxI t then 1099511627776 else mxI t
theorem exI_ok (t : Int) : 1 ≤ exI t ∧ exI t ≤ 1099511627776 := by
  unfold exI mxI
  split <;> split <;> omega
/-- An item's head. -/
def hdr (x : Itm) : Int × Key × Int := (x.1, x.2.1, x.2.2.1)
def hdP (x : It) : Int × Key × Int := (x.1, x.2.1, x.2.2.1)
theorem hdr_take {es es' : List Itm} {i : Nat} {d : Value} (h : es'.map hdr = (es.take i).map hdr) (hi : i < es.length) : (es' ++ [((es.getD i itmD).1, (es.getD i itmD).2.1, (es.getD i itmD).2.2.1, d)]).map hdr = (es.take (i + 1)).map hdr := by
  rw [take_succD itmD hi, List.map_append, List.map_append, h]; rfl
theorem hdr_R2 {w : World} {D : Nat → Prop} : ∀ {es : List Itm} {l : List It}, R2 (Eq4 w D) es l → es.map hdr = l.map hdP
  | [], [], _ => rfl
  | x :: es, y :: l, h => by
    rw [List.map_cons, List.map_cons, hdr_R2 h.2]
    obtain ⟨h1, h2, h3, _⟩ := h.1.1
    unfold hdr hdP
    rw [h1, h2, h3]
  | [], _ :: _, h => h.elim
  | _ :: _, [], h => h.elim
/-! ### What is taken away -/
def rmG {α : Type} (p : α → Bool) (l : List α) : List α := match l.findIdx? p with
  | some k => l.take k ++ l.drop (k + 1)
  | none => l
theorem idxI_ge {α : Type} {p : α → Bool} {l : List α} (h : idxI p l ≥ 0) : ∃ k, k < l.length ∧ idxI p l = (k : Int) ∧ rmG p l = l.take k ++ l.drop (k + 1) := by
  unfold idxI at h ⊢
  unfold rmG
  cases hf : l.findIdx? p with
  | none => rw [hf] at h; exact absurd h (by decide)
  | some k =>
    have := List.findIdx?_eq_some_iff_getElem.1 hf
    exact ⟨k, this.1, rfl, rfl⟩
theorem idxI_lt {α : Type} {p : α → Bool} {l : List α} (h : ¬ idxI p l ≥ 0) : rmG p l = l := by
  unfold idxI at h
  unfold rmG
  cases hf : l.findIdx? p with
  | none => rfl
  | some k => rw [hf] at h; exact absurd (Int.natCast_nonneg k) h
theorem rmG_sub {α : Type} (p : α → Bool) (l : List α) : (rmG p l).Sublist l := by
  unfold rmG
  split
  · next k _ =>
    have h := List.Sublist.append (List.Sublist.refl (l.take k)) (List.drop_sublist_drop_left l (Nat.le_succ k))
    rwa [List.take_append_drop] at h
  · exact List.Sublist.refl _
def acks {α : Type} (p : Int → α → Bool) (ids : List Int) (l : List α) : List α := ids.foldl (fun l id => rmG (p id) l) l
theorem acks_take {α : Type} (p : Int → α → Bool) {ids : List Int} {l : List α} {i : Nat} (h : i < ids.length) : acks p (ids.take (i + 1)) l = rmG (p (ids.getD i 0)) (acks p (ids.take i) l) := by
  unfold acks
  rw [List.take_succ_eq_append_getElem h, List.foldl_append, List.getD_eq_getElem?_getD, List.getElem?_eq_getElem h]; rfl
theorem acks_sub {α : Type} (p : Int → α → Bool) : ∀ (ids : List Int) (l : List α), (acks p ids l).Sublist l
  | [], l => List.Sublist.refl _
  | id :: ids, l => (acks_sub p ids (rmG (p id) l)).trans (rmG_sub _ _)
theorem R2.rm {α β : Type} {R : α → β → Prop} {p : α → Bool} {p' : β → Bool} (hp : ∀ a b, R a b → p a = p' b) {l : List α} {m : List β} (h : R2 R l m) : R2 R (rmG p l) (rmG p' m) := by
  unfold rmG
  rw [R2.find hp h]
  split
  · exact (h.take _).app (h.drop _)
  · exact h
theorem R2.acks {α β : Type} {R : α → β → Prop} {p : Int → α → Bool} {p' : Int → β → Bool} (hp : ∀ i a b, R a b → p i a = p' i b) : ∀ (ids : List Int) {l : List α} {m : List β}, R2 R l m → R2 R (acks p ids l) (acks p' ids m)
  | [], _, _, h => h
  | id :: ids, _, _, h => R2.acks hp ids (R2.rm (hp id) h)
theorem mget_mset {k : Key} {v : Value} : ∀ m : List (Key × Value), mget (mset k v m) k = some v
  | [] => by unfold mset mget; rw [if_pos rfl]
  | p :: m => by
    unfold mset
    by_cases e : k = p.1
    · rw [if_pos e]; show (if k = p.1 then some v else mget m k) = _; rw [if_pos e]
    · rw [if_neg e]; show (if k = p.1 then some p.2 else mget (mset k v m) k) = _; rw [if_neg e]; exact mget_mset m
theorem mset_mset {k : Key} {v u : Value} : ∀ m : List (Key × Value), mset k u (mset k v m) = mset k u m
  | [] => by unfold mset; simp [mset]
  | p :: m => by
    by_cases e : k = p.1
    · have h1 : mset k v (p :: m) = (p.1, v) :: m := by unfold mset; rw [if_pos e]
      have h2 : mset k u (p :: m) = (p.1, u) :: m := by unfold mset; rw [if_pos e]
      rw [h1, h2]; unfold mset; rw [if_pos e]
    · have h1 : mset k v (p :: m) = p :: mset k v m := by show (if k = p.1 then _ else _) = _; rw [if_neg e]
      have h2 : mset k u (p :: m) = p :: mset k u m := by show (if k = p.1 then _ else _) = _; rw [if_neg e]
      rw [h1, h2]; show (if k = p.1 then _ else _) = _; rw [if_neg e, mset_mset m]
theorem one_rm {es : List Itm} {p : Itm → Bool} (h : ∀ x ∈ es, x.2.2.2.oneCell' = true) : ∀ x ∈ rmG p es, x.2.2.2.oneCell' = true := fun x hx => h x ((rmG_sub p es).subset hx)
/-! ### The state written -/
theorem mset_mem {k : Key} {v : Value} {p : Key × Value} : ∀ {m : List (Key × Value)}, p ∈ mset k v m → (p ∈ m ∧ p.1 ≠ k) ∨ p = (k, v) ∨ (p ∈ m)
  | [], h => by simp [mset] at h; exact .inr (.inl h)
  | y :: m, h => by
    unfold mset at h
    split at h
    · next e =>
      rcases List.mem_cons.1 h with rfl | h
      · exact .inr (.inl (by rw [e]))
      · exact .inr (.inr (List.mem_cons_of_mem _ h))
    · rcases List.mem_cons.1 h with rfl | h
      · exact .inr (.inr List.mem_cons_self)
      · rcases mset_mem h with h | h | h
        · exact .inr (.inr (List.mem_cons_of_mem _ h.1))
        · exact .inr (.inl h)
        · exact .inr (.inr (List.mem_cons_of_mem _ h))
theorem mset_keys (k : Key) (v : Value) : ∀ m : List (Key × Value), (mset k v m).map (·.1) = if k ∈ m.map (·.1) then m.map (·.1) else m.map (·.1) ++ [k]
  | [] => by simp [mset]
  | p :: m => by
    unfold mset
    by_cases e : k = p.1
    · rw [if_pos e, if_pos (by simp [e])]; rfl
    · rw [if_neg e, List.map_cons, mset_keys k v m]
      by_cases hm : k ∈ m.map (·.1)
      · rw [if_pos hm, if_pos (by simp only [List.map_cons, List.mem_cons]; exact .inr hm)]; rfl
      · rw [if_neg hm, if_neg (by simp only [List.map_cons, List.mem_cons]; exact fun h => h.elim e hm)]; rfl
theorem mset_nd {k : Key} {v : Value} {m : List (Key × Value)} (h : (m.map (·.1)).Nodup) : ((mset k v m).map (·.1)).Nodup := by
  rw [mset_keys]
  split
  · exact h
  · next hk =>
    refine List.nodup_append.2 ⟨h, by simp, fun a ha b hb e => hk ?_⟩
    rw [List.mem_singleton] at hb
    rw [← hb, ← e]; exact ha
theorem mget_at : ∀ {m : List (Key × Value)} {i : Nat} {p : Key × Value}, (m.map (·.1)).Nodup → m[i]? = some p → mget m p.1 = some p.2
  | [], i, p, _, h => by simp at h
  | y :: m, 0, p, _, h => by simp at h; subst h; show (if y.1 = y.1 then some y.2 else mget m y.1) = _; rw [if_pos rfl]
  | y :: m, i + 1, p, hn, h => by
    rw [List.map_cons, List.nodup_cons] at hn
    have h' : m[i]? = some p := by simpa using h
    show (if p.1 = y.1 then some y.2 else mget m p.1) = _
    rw [if_neg (fun e => hn.1 (by rw [← e]; exact List.mem_map.2 ⟨p, List.mem_of_getElem? h', rfl⟩)), mget_at hn.2 h']
section
variable {TR TI : TypeId} {base : Nat} {K D K' D' : Nat → Prop} {mb : Nat} {m : List (Key × Value)} {w w' : World} {b : Nat} {c c' : Int × Int × Int} {q : List (Key × List It)}
theorem R2.keys {R : Value → List It → Prop} : ∀ {m : List (Key × Value)} {q : List (Key × List It)}, R2 (fun p r => p.1 = r.1 ∧ R p.2 r.2) m q → m.map (·.1) = q.map (·.1)
  | [], [], _ => rfl
  | p :: m, r :: q, h => by rw [List.map_cons, List.map_cons, h.1.1, R2.keys h.2]
  | [], _ :: _, h => h.elim
  | _ :: _, [], h => h.elim
theorem RqX.nodup (h : RqX TR TI base K D mb m w b c q) : (q.map (·.1)).Nodup := by
  rw [← R2.keys (R := fun v l => Qu TI D w v l ∧ Row K D b mb v) h.rows]; exact h.nd
theorem RqX.setc (h : RqX TR TI base K D mb m w b c q) (hg : Tn [some b] w w') (hc : Cel w' b TR [(0, 1, [I c'.1]), (1, 1, [I c'.2.1]), (2, 1, [I c'.2.2]), (3, 1, [.map (some mb)])]) : RqX TR TI base K D mb m w' b c' q :=
  ⟨fun k hk => ⟨(h.kb k hk).1, Nat.lt_of_lt_of_le (h.kb k hk).2 hg.size⟩, h.dk, h.bb, h.mm, h.ne, hc, h.mp.tnk hg (fun q hq k e1 e2 => by simp only [List.mem_singleton] at hq; subst hq; cases e1; cases e2; exact h.ne rfl),
    R2.imp (fun p r hr => ⟨hr.1, hr.2.1.tnk hg (fun q hq k e1 e2 => by simp only [List.mem_singleton] at hq; subst hq; cases e2; exact (hr.2.2 _ e1).2.2.1 rfl) (fun q hq k e hd => by simp only [List.mem_singleton] at hq; subst hq; cases e; exact h.bb.2 hd), hr.2.2⟩) h.rows, h.apart, h.nd⟩
theorem RqX.upd {k : Key} {v' : Value} {l' : List It} (h : RqX TR TI base K D mb m w b c q) (hg : Tn [some b, some mb, ((mget m k).getD nilS).ownBlock] w w') (hc : Cel w' b TR [(0, 1, [I c'.1]), (1, 1, [I c'.2.1]), (2, 1, [I c'.2.2]), (3, 1, [.map (some mb)])]) (hm : Mp w' mb (mset k v' m))
    (hq : Qu TI D' w' v' l') (hsf : SF w ((mget m k).getD nilS).ownBlock v'.ownBlock) (hkk : ∀ k, K k → K' k) (hkb : ∀ k, K' k → base ≤ k ∧ k < w'.heap.size) (hdk : ∀ k, D' k → K' k) (hdd : ∀ k, D k → D' k) (hdn : ∀ k, k < w.heap.size → D' k → D k) (hrow : Row K' D' b mb v') :
    RqX TR TI base K' D' mb (mset k v' m) w' b c' (qset k l' q) := by
  have hV := h.get k
  have hout : OutD D [some b, some mb, ((mget m k).getD nilS).ownBlock] := fun x hx j e hd => by
    simp only [List.mem_cons, List.mem_nil_iff, or_false] at hx
    rcases hx with rfl | rfl | rfl
    · cases e; exact h.bb.2 hd
    · cases e; exact h.mm.2 hd
    · exact (hV.2 j e).2.1 hd
  have hbl := h.cel.lt
  have hml := h.mp.lt
  refine ⟨hkb, hdk, ⟨hkk _ h.bb.1, fun hd => h.bb.2 (hdn _ hbl hd)⟩, ⟨hkk _ h.mm.1, fun hd => h.mm.2 (hdn _ hml hd)⟩, h.ne, hc, hm, ?_, ?_, mset_nd h.nd⟩
  · refine rows_set (R := fun u l => Qu TI D w u l ∧ Row K D b mb u) (R' := fun u l => Qu TI D' w' u l ∧ Row K' D' b mb u) ⟨hq, hrow⟩ h.rows h.apart fun u l hu hap => ?_
    refine ⟨(hu.1.tnk hg (fun x hx j e1 e2 => ?_) hout).mono hdd, fun j e => ?_⟩
    · simp only [List.mem_cons, List.mem_nil_iff, or_false] at hx
      rcases hx with rfl | rfl | rfl
      · cases e2; exact (hu.2 _ e1).2.2.1 rfl
      · cases e2; exact (hu.2 _ e1).2.2.2 rfl
      · exact hap j e1 e2
    · have := hu.2 j e
      exact ⟨hkk _ this.1, fun hd => this.2.1 (hdn _ (hu.1.live j e) hd), this.2.2.1, this.2.2.2⟩
  · refine apart_set h.apart fun p hp hap j e1 e2 => ?_
    rcases hsf j e2 with h1 | h1
    · exact hap j e1 h1
    · obtain ⟨i, hi⟩ := List.getElem?_of_mem hp
      obtain ⟨r, _, hr⟩ := R2.at h.rows hi
      have := hr.2.1.live j e1
      omega
end
/-! ### Time goes by -/
def tkI (now n : Int) : Int := if 1099511627776 < now + (if 1099511627776 < n then 1099511627776 else n) then 1099511627776 else now + (if 1099511627776 < n then 1099511627776 else n)
theorem tkI_ok {now n : Int} (h : 0 ≤ now ∧ now ≤ 1099511627776) (hn : 1 ≤ n) : now ≤ tkI now n ∧ tkI now n ≤ 1099511627776 := by
  unfold tkI
  split <;> split <;> omega
def qT (f : List It → List It) (seen : List Nat) : Nat → List (Key × List It) → List (Key × List It)
  | _, [] => []
  | i, p :: r => (p.1, if i ∈ seen then f p.2 else p.2) :: qT f seen (i + 1) r
def tot : List (Key × List It) → Nat
  | [] => 0
  | p :: r => p.2.length + tot r
theorem qT_nil (f : List It → List It) : ∀ (q : List (Key × List It)) (i : Nat), qT f [] i q = q
  | [], _ => rfl
  | p :: r, i => by unfold qT; rw [if_neg (by simp), qT_nil f r]
theorem qT_all (f : List It → List It) (seen : List Nat) : ∀ (q : List (Key × List It)) (i : Nat), (∀ j, i ≤ j → j < i + q.length → j ∈ seen) → qT f seen i q = q.map fun p => (p.1, f p.2)
  | [], _, _ => rfl
  | p :: r, i, h => by
    unfold qT
    rw [if_pos (h i (Nat.le_refl _) (by simp)), qT_all f seen r (i + 1) (fun j h1 h2 => h j (by omega) (by simp; omega))]; rfl
theorem qT_out (f : List It → List It) (seen : List Nat) (i : Nat) : ∀ (q : List (Key × List It)) (j : Nat), i < j → qT f (seen ++ [i]) j q = qT f seen j q
  | [], _, _ => rfl
  | p :: r, j, h => by
    unfold qT
    rw [qT_out f seen i r (j + 1) (by omega)]
    have : (j ∈ seen ++ [i]) ↔ j ∈ seen := by simp; omega
    simp only [this]
/-- One more name. -/
theorem qT_step (f : List It → List It) (seen : List Nat) : ∀ (q : List (Key × List It)) (i j : Nat) (r : Key × List It), (q.map (·.1)).Nodup → j + i ∉ seen → (qT f seen j q)[i]? = some r → qT f (seen ++ [j + i]) j q = qset r.1 (f r.2) (qT f seen j q) ∧ (tot (qT f (seen ++ [j + i]) j q) : Int) = (tot (qT f seen j q) : Int) - (r.2.length : Int) + ((f r.2).length : Int)
  | [], i, j, r, _, _, h => by simp [qT] at h
  | p :: q, 0, j, r, hn, hs, h => by
    unfold qT at h ⊢
    have hs' : j ∉ seen := by simpa using hs
    rw [if_neg hs'] at h ⊢
    simp at h
    subst h
    rw [if_pos (by simp), Nat.add_zero, qT_out f seen j q (j + 1) (by omega)]
    refine ⟨by show _ = (if p.1 = p.1 then _ else _); rw [if_pos rfl], ?_⟩
    simp only [tot]
    omega
  | p :: q, i + 1, j, r, hn, hs, h => by
    unfold qT at h ⊢
    have h' : (qT f seen (j + 1) q)[i]? = some r := by simpa using h
    rw [List.map_cons, List.nodup_cons] at hn
    have ih := qT_step f seen q i (j + 1) r hn.2 (by rw [show j + 1 + i = j + (i + 1) by omega]; exact hs) h'
    rw [show j + 1 + i = j + (i + 1) by omega] at ih
    have hj : (j ∈ seen ++ [j + (i + 1)]) ↔ j ∈ seen := by simp
    simp only [hj]
    have hk : ∀ (q : List (Key × List It)) (j : Nat), (qT f seen j q).map (·.1) = q.map (·.1) := by
      intro q
      induction q with
      | nil => intro j; rfl
      | cons p q ih => intro j; unfold qT; rw [List.map_cons, List.map_cons, ih]
    have hne : r.1 ≠ p.1 := fun e => hn.1 (by rw [← e, ← hk q (j + 1)]; exact List.mem_map.2 ⟨r, List.mem_of_getElem? h', rfl⟩)
    refine ⟨?_, ?_⟩
    · rw [ih.1]; show _ = (if r.1 = p.1 then _ else _); rw [if_neg hne]
    · simp only [tot]
      have := ih.2
      omega
theorem qT_bd {f : It → Bool} {seen : List Nat} {P : It → Prop} : ∀ {q : List (Key × List It)} {i j : Nat} {r : Key × List It}, (∀ p ∈ q, ∀ x ∈ p.2, P x) → (qT (fun l => l.filter f) seen j q)[i]? = some r → ∀ x ∈ r.2, P x
  | [], i, j, r, _, h => by simp [qT] at h
  | p :: q, 0, j, r, hb, h => by
    unfold qT at h
    simp at h
    subst h
    intro x hx
    dsimp only at hx
    split at hx
    · exact hb p (by simp) x (List.mem_filter.1 hx).1
    · exact hb p (by simp) x hx
  | p :: q, i + 1, j, r, hb, h => by
    unfold qT at h
    exact qT_bd (fun p hp => hb p (List.mem_cons_of_mem _ hp)) (by simpa using h)
theorem qT_tot {f : It → Bool} {seen : List Nat} : ∀ (q : List (Key × List It)) (j : Nat), tot (qT (fun l => l.filter f) seen j q) ≤ tot q
  | [], _ => Nat.le_refl _
  | p :: q, j => by
    unfold qT
    have h1 := qT_tot (f := f) (seen := seen) q (j + 1)
    have h2 := List.length_filter_le f p.2
    simp only [tot]
    split <;> omega
theorem tot_at : ∀ {q : List (Key × List It)} {i : Nat} {r : Key × List It}, q[i]? = some r → r.2.length ≤ tot q
  | [], i, r, h => by simp at h
  | p :: q, 0, r, h => by simp at h; subst h; simp only [tot]; omega
  | p :: q, i + 1, r, h => by
    have := tot_at (q := q) (i := i) (by simpa using h)
    simp only [tot]; omega
def tkM (n : Nat) (seen : List Nat) : Nat := ((List.range n).filter fun j => !seen.contains j).length
theorem tkM_lt {n : Nat} {seen : List Nat} {i : Nat} (hi : i < n) (hs : i ∉ seen) : tkM n (seen ++ [i]) < tkM n seen := by
  unfold tkM
  have key : ∀ l : List Nat, (l.filter fun j => !(seen ++ [i]).contains j).length ≤ (l.filter fun j => !seen.contains j).length ∧ (i ∈ l → (l.filter fun j => !(seen ++ [i]).contains j).length < (l.filter fun j => !seen.contains j).length) := by
    intro l
    induction l with
    | nil => exact ⟨Nat.le_refl _, fun h => by cases h⟩
    | cons x l ih =>
      by_cases hx : x ∈ seen
      · have h1 : (!(seen ++ [i]).contains x) = false := by simp [hx]
        have h2 : (!seen.contains x) = false := by simp [hx]
        rw [List.filter_cons_of_neg (by rw [h1]; decide), List.filter_cons_of_neg (by rw [h2]; decide)]
        refine ⟨ih.1, fun hm => ?_⟩
        rcases List.mem_cons.1 hm with rfl | hm
        · exact absurd hx hs
        · exact ih.2 hm
      · have h2 : (!seen.contains x) = true := by simp [hx]
        by_cases e : x = i
        · have h1 : (!(seen ++ [i]).contains x) = false := by simp [e]
          rw [List.filter_cons_of_neg (by rw [h1]; decide), List.filter_cons_of_pos (p := fun j => !seen.contains j) h2, List.length_cons]
          exact ⟨by omega, fun _ => by omega⟩
        · have h1 : (!(seen ++ [i]).contains x) = true := by simp [hx, e]
          rw [List.filter_cons_of_pos (p := fun j => !(seen ++ [i]).contains j) h1, List.filter_cons_of_pos (p := fun j => !seen.contains j) h2, List.length_cons, List.length_cons]
          refine ⟨by omega, fun hm => ?_⟩
          rcases List.mem_cons.1 hm with rfl | hm
          · exact absurd rfl e
          · have := ih.2 hm; omega
  exact (key (List.range n)).2 (List.mem_range.2 hi)
section
variable {TR TI : TypeId} {base : Nat} {K D : Nat → Prop} {mb : Nat} {mk : List (Key × Value)} {w w' : World} {b : Nat} {c : Int × Int × Int} {q : List (Key × List It)}
/-- The end of a round of Tick. -/
theorem RqX.fin {n : Nat} {now ex : Int} {seen : List Nat} {ix : Nat} {pk : Key × Value} {rk : Key × List It} {es : List Itm} {sv : Value} (hx : RqX TR TI base K D mb mk w b c (qT (fun l => l.filter fun x => !agP now ex x) seen 0 q)) (hB : Tn [some b, some mb, pk.2.ownBlock] w w')
    (hc : Cel w' b TR [(0, 1, [I c.1]), (1, 1, [I c.2.1]), (2, 1, [I c.2.2]), (3, 1, [.map (some mb)])]) (hm : Mp w' mb (mset pk.1 sv mk)) (ho2 : Es itmS 0 TI w' sv (es.filter fun x => !agI now ex x)) (hsub : ∀ k, sv.ownBlock = some k → pk.2.ownBlock = some k) (hr2 : R2 (Eq4 w D) es rk.2)
    (hgm : mget mk pk.1 = some pk.2) (hkey : pk.1 = rk.1) (hrow : Row K D b mb pk.2) (hrk : (qT (fun l => l.filter fun x => !agP now ex x) seen 0 q)[ix]? = some rk) (hns : ix ∉ seen) (hn : mk.length = n) (hnd : (q.map (·.1)).Nodup) (hl : ix < n) :
    RqX TR TI base K D mb (mset pk.1 sv mk) w' b c (qT (fun l => l.filter fun x => !agP now ex x) (seen ++ [ix]) 0 q) ∧ (mset pk.1 sv mk).length = n ∧ (tot (qT (fun l => l.filter fun x => !agP now ex x) (seen ++ [ix]) 0 q) : Int) = (tot (qT (fun l => l.filter fun x => !agP now ex x) seen 0 q) : Int) - (es.length : Int) + ((es.filter fun x => !agI now ex x).length : Int) := by
  have hst := qT_step (fun l => l.filter fun x => !agP now ex x) seen q ix 0 rk hnd (by simpa using hns) hrk
  rw [Nat.zero_add] at hst
  have hV : ((mget mk pk.1).getD nilS) = pk.2 := by rw [hgm]; rfl
  have hflt : R2 (Eq4 w D) (es.filter fun x => !agI now ex x) (rk.2.filter fun x => !agP now ex x) := R2.filter (fun a b' h => by unfold agI agP; rw [h.1.2.2.1]) hr2
  have hlen := R2.len hflt
  have hlen2 := R2.len hr2
  refine ⟨?_, ?_, ?_⟩
  · rw [hst.1, ← hkey]
    refine RqX.upd (l' := rk.2.filter fun x => !agP now ex x) hx (by rw [hV]; exact hB) hc hm ⟨_, ho2, R2.imp (fun _ _ h => h.tnk hB (fun x hx' j e hd => ?_)) hflt⟩ (by rw [hV]; exact fun k e => .inl (hsub k e)) (fun _ h => h) (fun k hk => ⟨(hx.kb k hk).1, Nat.lt_of_lt_of_le (hx.kb k hk).2 hB.size⟩) hx.dk (fun _ h => h) (fun _ _ h => h) (fun k e => hrow k (hsub k e))
    simp only [List.mem_cons, List.mem_nil_iff, or_false] at hx'
    rcases hx' with rfl | rfl | rfl
    · cases e; exact hx.bb.2 hd
    · cases e; exact hx.mm.2 hd
    · exact (hrow j e).2.1 hd
  · have := congrArg List.length (mset_keys pk.1 sv mk)
    rw [if_pos (by exact List.mem_map.2 ⟨_, mget_mem hgm, rfl⟩), List.length_map, List.length_map] at this
    rw [this, hn]
  · rw [hst.2, hlen, hlen2]
end
/-! ### Told without its blocks -/
def RqP (TR TI : TypeId) (base : Nat) (K : Nat → Prop) (w w' : World) (b : Nat) (c : Int × Int × Int) (q : List (Key × List It)) : Prop := ∃ K' : Nat → Prop, Rq TR TI base K' w' b c q ∧ (∀ k, K' k → K k ∨ w.heap.size ≤ k) ∧ Thb K b w w'
section
variable {TR TI : TypeId} {base : Nat} {K K' : Nat → Prop} {w w' w0 : World} {b : Nat} {c : Int × Int × Int} {q : List (Key × List It)} {a a' : Option Nat}
theorem Rq.kb (h : Rq TR TI base K w b c q) : ∀ k, K k → base ≤ k ∧ k < w.heap.size := by obtain ⟨D, mb, m, h⟩ := h; exact h.kb
theorem Rq.bb (h : Rq TR TI base K w b c q) : K b := by obtain ⟨D, mb, m, h⟩ := h; exact h.bb.1
theorem Rq.out (h : Rq TR TI base K w b c q) (hf : Fr w.heap.size a) : Out K a := fun k e hk => by have := hf k e; have := (h.kb k hk).2; omega
theorem Rq.outS (h : Rq TR TI base K w b c q) (ho : Out K a) (hs : SF w a a') : Out K a' := fun k e hk => by
  rcases hs k e with h1 | h1
  · exact ho k h1 hk
  · have := (h.kb k hk).2; omega
theorem Rq.outL (h : Rq TR TI base K w b c q) (hl : Lo base a) : Out K a := fun k e hk => by have := hl k e; have := (h.kb k hk).1; omega
theorem Rq.g1 (h : Rq TR TI base K w b c q) (hg : w.grownBy w' a) (ho : Out K a) : Rq TR TI base K w' b c q := h.tnk (Tn.ofGB hg) (fun x hx k e hk => by simp only [List.mem_singleton] at hx; subst hx; exact ho k e hk)
theorem Out.kk (ho : Out K a) (hl : Live w a) (hkk : ∀ k, K' k → K k ∨ w.heap.size ≤ k) : Out K' a := fun k e hk => (hkk k hk).elim (ho k e) (fun h => by have := hl k e; omega)
theorem Thb.aplK (ht : Thb K b w w') (hb : K b) : ∃ rs, Tn rs w w' ∧ ∀ a, Out K a → ApL a rs := by
  obtain ⟨rs, h1, h2⟩ := ht
  refine ⟨rs, h2, fun a ho q hq k e1 e2 => ?_⟩
  rcases h1 q hq with rfl | h
  · cases e2; exact ho _ e1 hb
  · exact ho k e1 (h k e2)
theorem Ow.thK {base0 E s xs} (h : Ow base0 E w s xs) (ht : Thb K b w w') (hb : K b) (ho : Out K s.ownBlock) : Ow base0 E w' s xs := by obtain ⟨rs, h2, h3⟩ := ht.aplK hb; exact Ow.tnk h h2 (h3 _ ho)
theorem Rd.thK {s xs} (h : Rd w s xs) (ht : Thb K b w w') (hb : K b) (ho : Out K s.ownBlock) : Rd w' s xs := by obtain ⟨rs, h2, h3⟩ := ht.aplK hb; exact Rd.tnk h h2 (h3 _ ho)
theorem Es.thK {α : Type} {S : Shp α} {base0 E s} {es : List α} (h : Es S base0 E w s es) (ht : Thb K b w w') (hb : K b) (ho : Out K s.ownBlock) : Es S base0 E w' s es := by obtain ⟨rs, h2, h3⟩ := ht.aplK hb; exact Es.tnk h h2 (h3 _ ho)
theorem Cel.thK {b' T S} (h : Cel w b' T S) (ht : Thb K b w w') (hb : K b) (ho : Out K (some b')) : Cel w' b' T S := by obtain ⟨rs, h2, h3⟩ := ht.aplK hb; exact Cel.tnk h h2 (h3 _ ho)
theorem Ext.thK (h : Ext w0 w) (ht : Thb K b w w') (hb : K b) (hk : ∀ k, K k → w0.heap.size ≤ k) : Ext w0 w' := by
  obtain ⟨rs, h1, h2⟩ := ht
  exact Ext.tnk h (fun q hq k e => by
    rcases h1 q hq with rfl | h3
    · cases e; exact hk _ hb
    · exact hk k (h3 k e)) h2
end
theorem mset_self {k : Key} {v : Value} : ∀ {m : List (Key × Value)}, mget m k = some v → mset k v m = m
  | [], h => by cases h
  | p :: m, h => by
    unfold mset
    by_cases e : k = p.1
    · have h' : (if k = p.1 then some p.2 else mget m k) = some v := h
      rw [if_pos e] at h' ⊢
      cases h'; rfl
    · have h' : (if k = p.1 then some p.2 else mget m k) = some v := h
      rw [if_neg e] at h' ⊢
      rw [mset_self h']
theorem RqX.mbc {TR TI : TypeId} {base : Nat} {K D : Nat → Prop} {mb : Nat} {m : List (Key × Value)} {w w' : World} {b : Nat} {c : Int × Int × Int} {q : List (Key × List It)} {a : Option Nat} (h : RqX TR TI base K D mb m w b c q) (ha : a = none) (hg : Tn [some mb, a] w w') (hm : Mp w' mb m) : RqX TR TI base K D mb m w' b c q := by
  subst ha
  exact ⟨fun k hk => ⟨(h.kb k hk).1, Nat.lt_of_lt_of_le (h.kb k hk).2 hg.size⟩, h.dk, h.bb, h.mm, h.ne, h.cel.tnk hg (fun q hq k e1 e2 => by
      simp only [List.mem_cons, List.mem_nil_iff, or_false] at hq
      rcases hq with rfl | rfl
      · cases e1; cases e2; exact h.ne rfl
      · cases e2), hm,
    R2.imp (fun p r hr => ⟨hr.1, hr.2.1.tnk hg (fun q hq k e1 e2 => by
      simp only [List.mem_cons, List.mem_nil_iff, or_false] at hq
      rcases hq with rfl | rfl
      · cases e2; exact (hr.2.2 _ e1).2.2.2 rfl
      · cases e2) (fun q hq k e hd => by
      simp only [List.mem_cons, List.mem_nil_iff, or_false] at hq
      rcases hq with rfl | rfl
      · cases e; exact h.mm.2 hd
      · cases e), hr.2.2⟩) h.rows, h.apart, h.nd⟩
theorem Rq.le {TR TI : TypeId} {base base' : Nat} {K : Nat → Prop} {w : World} {b : Nat} {c : Int × Int × Int} {q : List (Key × List It)} (h : Rq TR TI base K w b c q) (hb : base' ≤ base) : Rq TR TI base' K w b c q := by
  obtain ⟨D, mb, m, h⟩ := h
  exact ⟨D, mb, m, fun k hk => ⟨Nat.le_trans hb (h.kb k hk).1, (h.kb k hk).2⟩, h.dk, h.bb, h.mm, h.ne, h.cel, h.mp, h.rows, h.apart, h.nd⟩
theorem exI_id {t : Int} (h : 1 ≤ t ∧ t ≤ 1099511627776) : exI t = t := by
  unfold exI mxI
  rw [if_neg (by omega), if_neg (by omega)]
theorem Rd.nilw {α : Type} {f : α → Value} {w w' : World} {s : Value} (h : Rd w s (([] : List α).map f)) : Rd w' s (([] : List α).map f) := by
  obtain ⟨p, c, h1, h2, h3, h4⟩ := h
  exact ⟨p, c, h1, h2, h3, fun i v hv => by simp at hv⟩
theorem Rq.outA {TR TI : TypeId} {K : Nat → Prop} {w w' : World} {b : Nat} {c : Int × Int × Int} {q : List (Key × List It)} {s : Value} {xs : List Value} (h : Rq TR TI w.heap.size K w' b c q) (hr : Rd w s xs) (h0 : 0 < xs.length) : Out K s.ownBlock := fun k e hk => by
  have h1 := Rd.own_lt hr h0 e
  have h2 := (h.kb k hk).1
  omega
theorem min30 {i : Nat} {n : Int} (h : (i : Int) = n) : (if 30 < n then (30 : Int) else n) = ((min i 30 : Nat) : Int) := by
  split <;> omega
/-! ### One queue alone -/
def QB (k : Key) (q : List (Key × List It)) (l : List It) : Prop := (q = [] ∧ l = []) ∨ q = [(k, l)]
theorem QB.get {k q l} (h : QB k q l) : qget q k = l := by
  rcases h with ⟨rfl, rfl⟩ | rfl
  · rfl
  · show (if k = k then l else qget [] k) = l; rw [if_pos rfl]
theorem QB.put {k q l} (h : QB k q l) (l' : List It) : QB k (qset k l' q) l' := by
  rcases h with ⟨rfl, rfl⟩ | rfl
  · exact .inr rfl
  · right; show (if k = k then (k, l') :: [] else _) = _; rw [if_pos rfl]
theorem QB.map {k q l} (h : QB k q l) (f : It → Bool) : QB k (q.map fun p => (p.1, p.2.filter f)) (l.filter f) := by
  rcases h with ⟨rfl, rfl⟩ | rfl
  · exact .inl ⟨rfl, rfl⟩
  · exact .inr rfl
theorem QB.all {k q l} {P : It → Prop} (h : QB k q l) (hl : ∀ x ∈ l, P x) : ∀ p ∈ q, ∀ x ∈ p.2, P x := by
  rcases h with ⟨rfl, rfl⟩ | rfl
  · intro p hp; cases hp
  · intro p hp; rw [List.mem_singleton] at hp; subst hp; exact hl
theorem QB.tot {k q l} (h : QB k q l) : tot q = l.length := by
  rcases h with ⟨rfl, rfl⟩ | rfl
  · rfl
  · rfl
def bornP (x : It) : Int := x.2.2.1
/-- What waits: numbers that rise, when they came, no bytes. -/
structure TQ (l : List It) (now last : Int) : Prop where
  inc : l.Pairwise fun a b => a.1 < b.1
  bd : ∀ x ∈ l, x.1 ≤ last ∧ (0 ≤ x.2.2.1 ∧ x.2.2.1 ≤ now) ∧ x.2.2.2 = []
theorem TQ.nil (now last : Int) : TQ [] now last := ⟨List.Pairwise.nil, fun x hx => by cases hx⟩
theorem TQ.put {l now last fr} (h : TQ l now last) (h0 : 0 ≤ now) : TQ (l ++ [((last + 1, fr, now, []) : It)]) now (last + 1) := by
  refine ⟨List.pairwise_append.2 ⟨h.inc, List.pairwise_singleton _ _, fun a ha b hb => ?_⟩, fun x hx => ?_⟩
  · rw [List.mem_singleton] at hb; subst hb
    have := (h.bd a ha).1
    show a.1 < last + 1; omega
  · rcases List.mem_append.1 hx with hx | hx
    · have := h.bd x hx
      exact ⟨by omega, this.2⟩
    · rw [List.mem_singleton] at hx; subst hx
      exact ⟨by show last + 1 ≤ last + 1; omega, ⟨h0, by show now ≤ now; omega⟩, rfl⟩
theorem TQ.filter {l now now' last} (h : TQ l now last) (f : It → Bool) (hn : now ≤ now') : TQ (l.filter f) now' last :=
  ⟨h.inc.filter f, fun x hx => by have := h.bd x (List.mem_filter.1 hx).1; exact ⟨this.1, ⟨this.2.1.1, by have := this.2.1.2; omega⟩, this.2.2⟩⟩
theorem TQ.lt {l now last} (h : TQ l now last) {k : Nat} (hk : k < l.length) (h0 : 0 < k) : (l.getD (k - 1) itD0).1 < (l.getD k itD0).1 := by
  have := List.pairwise_iff_getElem.1 h.inc (k - 1) k (by omega) hk (by omega)
  rw [List.getD_eq_getElem?_getD, List.getD_eq_getElem?_getD, List.getElem?_eq_getElem hk, List.getElem?_eq_getElem (show k - 1 < l.length by omega)]
  exact this
theorem hdr_get {es : List Itm} {l : List It} (h : es.map hdr = l.map hdP) {k : Nat} (hk : k < l.length) : hdr (es.getD k itmD) = hdP (l.getD k itD0) := by
  have h1 := congrArg (fun z => z[k]?) h
  have hl := congrArg List.length h
  simp only [List.length_map] at hl
  simp only [List.getElem?_map] at h1
  rw [List.getD_eq_getElem?_getD, List.getD_eq_getElem?_getD, List.getElem?_eq_getElem hk, List.getElem?_eq_getElem (by omega)]
  rw [List.getElem?_eq_getElem hk, List.getElem?_eq_getElem (by omega)] at h1
  exact Option.some.inj h1
theorem bornP_get {l : List It} {k : Nat} (hk : k < l.length) : (l.map bornP).getD k 0 = (l.getD k itD0).2.2.1 := by
  rw [List.getD_eq_getElem?_getD, List.getD_eq_getElem?_getD, List.getElem?_map, List.getElem?_eq_getElem hk]; rfl
theorem flt_take {l : List It} {f : It → Bool} {k : Nat} (hk : k < l.length) : ((l.take (k + 1)).filter f).map bornP = ((l.take k).filter f).map bornP ++ (if f (l.getD k itD0) then [(l.getD k itD0).2.2.1] else []) := by
  rw [take_succD itD0 hk, List.filter_append, List.map_append]
  congr 1
  cases hf : f (l.getD k itD0)
  · rw [List.filter_cons_of_neg (by rw [hf]; decide)]; rfl
  · rw [List.filter_cons_of_pos hf]; rfl
theorem tkI_small {now t : Int} (h : 0 ≤ now ∧ now ≤ 100000000) (ht : 1 ≤ t ∧ t ≤ 1000000) : tkI now t = now + t := by
  unfold tkI
  rw [if_neg (show ¬ (1099511627776 : Int) < t by omega), if_neg (by omega)]
theorem flt_all {l : List It} {now ex : Int} (h : ∀ x ∈ l, now - x.2.2.1 < ex) : (l.filter fun x => !agP now ex x) = l := List.filter_eq_self.2 fun x hx => by
  unfold agP; have := h x hx; simp; omega
theorem keep_yes {now ex : Int} {x : It} (h : now - x.2.2.1 < ex) : (!agP now ex x) = true := by unfold agP; rw [decide_eq_false (by omega)]; rfl
theorem keep_no {now ex : Int} {x : It} (h : ¬ now - x.2.2.1 < ex) : ¬ (!agP now ex x) = true := by unfold agP; rw [decide_eq_true (by omega)]; decide
/-! ### Numbers that rise -/
structure JQ (l : List It) (last : Int) : Prop where
  inc : l.Pairwise fun a b => a.1 < b.1
  bd : ∀ x ∈ l, x.1 ≤ last ∧ x.2.2.2.length ≤ 6000
  len : l.length ≤ 30
theorem JQ.nil (last : Int) : JQ [] last := ⟨List.Pairwise.nil, fun x hx => (by cases hx), by decide⟩
theorem JQ.mono {l last last'} (h : JQ l last) (hl : last ≤ last') : JQ l last' := ⟨h.inc, fun x hx => ⟨by have := (h.bd x hx).1; omega, (h.bd x hx).2⟩, h.len⟩
theorem JQ.put {l last} {fr : Key} {now : Int} {d : List UInt8} (h : JQ l last) (hl : l.length < 30) (hd : d.length ≤ 6000) : JQ (l ++ [((last + 1, fr, now, d) : It)]) (last + 1) := by
  refine ⟨List.pairwise_append.2 ⟨h.inc, List.pairwise_singleton _ _, fun a ha b hb => ?_⟩, fun x hx => ?_, by rw [List.length_append]; show l.length + 1 ≤ 30; omega⟩
  · rw [List.mem_singleton] at hb; subst hb
    have := (h.bd a ha).1
    show a.1 < last + 1; omega
  · rcases List.mem_append.1 hx with hx | hx
    · have := h.bd x hx
      exact ⟨by omega, this.2⟩
    · rw [List.mem_singleton] at hx; subst hx
      exact ⟨by show last + 1 ≤ last + 1; omega, hd⟩
theorem JQ.rm {l last} (h : JQ l last) (p : It → Bool) : JQ (rmG p l) last := ⟨h.inc.sublist (rmG_sub p l), fun x hx => h.bd x ((rmG_sub p l).subset hx), Nat.le_trans (rmG_sub p l).length_le h.len⟩
theorem JQ.gone {l last} (h : JQ l last) (g : Int) : idxI (eqP g) (rmG (eqP g) l) = -1 := by
  refine idxI_no fun x hx => ?_
  unfold rmG at hx
  split at hx
  · next k hk =>
    obtain ⟨hk1, hk2, hk3⟩ := List.findIdx?_eq_some_iff_getElem.1 hk
    have hg : l[k].1 = g := of_decide_eq_true hk2
    unfold eqP
    rw [decide_eq_false_iff_not]
    intro e
    rcases List.mem_append.1 hx with hx | hx
    · obtain ⟨j, hj, rfl⟩ := List.getElem_of_mem hx
      rw [List.length_take] at hj
      rw [List.getElem_take] at e
      have := List.pairwise_iff_getElem.1 h.inc j k (by omega) hk1 (by omega)
      omega
    · obtain ⟨j, hj, rfl⟩ := List.getElem_of_mem hx
      rw [List.length_drop] at hj
      rw [List.getElem_drop] at e
      have := List.pairwise_iff_getElem.1 h.inc k (k + 1 + j) hk1 (by omega) (by omega)
      omega
  · next hk =>
    have := List.findIdx?_eq_none_iff.1 hk x hx
    simpa using this
theorem JQ.lt {l last} (h : JQ l last) {k : Nat} (hk : k < l.length) (h0 : 0 < k) : (l.getD (k - 1) itD0).1 < (l.getD k itD0).1 := by
  have := List.pairwise_iff_getElem.1 h.inc (k - 1) k (by omega) hk (by omega)
  rw [List.getD_eq_getElem?_getD, List.getD_eq_getElem?_getD, List.getElem?_eq_getElem hk, List.getElem?_eq_getElem (show k - 1 < l.length by omega)]
  exact this
end Go.X
