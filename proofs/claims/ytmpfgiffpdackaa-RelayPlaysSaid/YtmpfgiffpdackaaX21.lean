import Derived.Test.YtmpfgiffpdackaaX20
/-
  A region whose operations come up in whatever order, where some of them turn blocks that were there.
-/
set_option linter.unusedVariables false
set_option linter.unusedSimpArgs false
namespace Go.X
open Go.RowKit
/-- What a slot holds, and what is so, whatever those of rs turn. -/
structure AsrT where
  slot : Nat
  ι : Type
  val : ι → Value
  Φ : ι → World → Prop
  rs : List (Option Nat)
  stab : ∀ x w w', Φ x w → Tn rs w w' → Φ x w'
def AsrT.holds (A : AsrT) (a : Act) (w : World) : Prop := ∃ x, a.tmps.getD A.slot undef = A.val x ∧ A.Φ x w
abbrev AsrT.v (rs : List (Option Nat)) (t : Nat) (u : Value) : AsrT := ⟨t, Unit, fun _ => u, fun _ _ => True, rs, fun _ _ _ _ _ => trivial⟩
/-- Any assertion, closed. -/
abbrev AsrT.c (rs : List (Option Nat)) (t : Nat) (ι : Type) (val : ι → Value) (Φ : ι → World → Prop) : AsrT := ⟨t, ι, val, fun x w => ∀ w', Tn rs w w' → Φ x w', rs, fun x w w' h ht w2 h2 => h w2 (ht.trans h2)⟩
abbrev AsrT.own (rs : List (Option Nat)) (t base : Nat) (E : TypeId) (xs : List Value) : AsrT := AsrT.c rs t Value (fun v => v) (fun v w => Ow base E w v xs)
abbrev AsrT.rl (rs : List (Option Nat)) (t : Nat) (vs : List Value) (ll : List (List UInt8)) : AsrT := AsrT.c rs t Value (fun v => v) (fun v w => Rl w v vs ll)
theorem own_cl {rs : List (Option Nat)} {base E w v xs} (h : Ow base E w v xs) (hl : LoL base rs) : ∀ w', Tn rs w w' → Ow base E w' v xs := fun w' ht => h.tnk ht (hl.apl h.fr)
theorem rl_cl {rs : List (Option Nat)} {base E w v vs ll} (h : Ow base E w v vs) (hl : LoL base rs) (hlen : vs.length = ll.length) (hat : ∀ w', Tn rs w w' → ∀ i, i < ll.length → Bs w' (vs.getD i nilS) (ll.getD i [])) : ∀ w', Tn rs w w' → Rl w' v vs ll := fun w' ht => ⟨(own_cl h hl w' ht).rd, hlen, hat w' ht⟩
abbrev Mus := List (Nat × List (Option Nat))
def muOf (mu : Mus) (i : Nat) : List (Option Nat) := (mu.filter fun p => Nat.beq p.1 i).flatMap (·.2)
def muIn (mu : Mus) (B : List Nat) : List (Option Nat) := (mu.filter fun p => B.contains p.1).flatMap (·.2)
def muL (mu : Mus) (listed : Array Bool) : List (Option Nat) := (mu.filter fun p => listed.getD p.1 false).flatMap (·.2)
def muAll (mu : Mus) : List (Option Nat) := mu.flatMap (·.2)
theorem mu_mem {mu : Mus} {f : Nat × List (Option Nat) → Bool} {r : Option Nat} : r ∈ (mu.filter f).flatMap (·.2) ↔ ∃ p ∈ mu, f p = true ∧ r ∈ p.2 := by
  simp only [List.mem_flatMap, List.mem_filter]
  exact ⟨fun ⟨p, ⟨h1, h2⟩, h3⟩ => ⟨p, h1, h2, h3⟩, fun ⟨p, h1, h2, h3⟩ => ⟨p, ⟨h1, h2⟩, h3⟩⟩
theorem muL_all {mu : Mus} {listed : Array Bool} : ∀ r ∈ muL mu listed, r ∈ muAll mu := fun r h => by
  obtain ⟨p, h1, _, h3⟩ := mu_mem.1 h
  exact List.mem_flatMap.2 ⟨p, h1, h3⟩
theorem muOf_all {mu : Mus} {i : Nat} : ∀ r ∈ muOf mu i, r ∈ muAll mu := fun r h => by
  obtain ⟨p, h1, _, h3⟩ := mu_mem.1 h
  exact List.mem_flatMap.2 ⟨p, h1, h3⟩
theorem muL_set {mu : Mus} {listed : Array Bool} {i : Nat} : ∀ r ∈ muL mu listed, r ∈ muL mu (listed.setIfInBounds i true) := fun r h => by
  obtain ⟨p, h1, h2, h3⟩ := mu_mem.1 h
  exact mu_mem.2 ⟨p, h1, getD_set_true h2, h3⟩
theorem muOf_set {mu : Mus} {listed : Array Bool} {i : Nat} (hi : i < listed.size) : ∀ r ∈ muOf mu i, r ∈ muL mu (listed.setIfInBounds i true) := fun r h => by
  obtain ⟨p, h1, h2, h3⟩ := mu_mem.1 h
  have e : p.1 = i := Nat.eq_of_beq_eq_true h2
  exact mu_mem.2 ⟨p, h1, by rw [e]; simp [Array.getD_eq_getD_getElem?, hi], h3⟩
/-- Of each of M: those that may have turned something ahead of it. -/
def befB (md : Region.Mode) (ops : Array Oper) (mus : List Nat) : List Nat → List (List Nat) → Bool
  | i :: r, B :: q => (mus.all fun m => B.contains m || Nat.beq m i || reach md ops ops.size m i) && befB md ops mus r q
  | [], [] => true
  | _, _ => false
theorem befB_get {md : Region.Mode} {ops : Array Oper} {mus : List Nat} : ∀ {r : List Nat} {q : List (List Nat)} {k : Nat} {i : Nat} {B : List Nat}, befB md ops mus r q = true → r[k]? = some i → q[k]? = some B → ∀ m ∈ mus, B.contains m = true ∨ m = i ∨ reach md ops ops.size m i = true
  | [], [], k, i, B, _, h, _ => by cases k <;> cases h
  | [], _ :: _, k, i, B, h, _, _ => by cases h
  | _ :: _, [], k, i, B, h, _, _ => by cases h
  | j :: r, E :: q, 0, i, B, h, h1, h2 => by
    cases h1; cases h2
    unfold befB at h
    rw [Bool.and_eq_true] at h
    intro m hm
    have := List.all_eq_true.1 h.1 m hm
    rw [Bool.or_eq_true, Bool.or_eq_true] at this
    rcases this with (h3 | h3) | h3
    · exact .inl h3
    · exact .inr (.inl (Nat.eq_of_beq_eq_true h3))
    · exact .inr (.inr h3)
  | j :: r, E :: q, k + 1, i, B, h, h1, h2 => by
    unfold befB at h
    rw [Bool.and_eq_true] at h
    exact befB_get h.2 h1 h2
theorem befB_len {md : Region.Mode} {ops : Array Oper} {mus : List Nat} : ∀ {r : List Nat} {q : List (List Nat)}, befB md ops mus r q = true → q.length = r.length
  | [], [], _ => rfl
  | [], _ :: _, h => by cases h
  | _ :: _, [], h => by cases h
  | _ :: r, _ :: q, h => by
    unfold befB at h
    rw [Bool.and_eq_true] at h
    simp [befB_len h.2]
def PremT (M : List (Nat × AsrT)) : List Nat → Env → World → (Env → Prop) → Prop
  | [], σ, _, G => G σ
  | k :: r, σ, w, G => match M[k]? with
    | some p => ∀ x, p.2.Φ x w → PremT M r ((p.2.slot, p.2.val x) :: σ) w G
    | none => PremT M r σ w G
section
variable {P : Program} {N : Nat} {ds : List Deferred} {σ : Env} {w : World} {Q : Exit → Act → World → Prop} {K : Act → World → Prop} {ops : Array Oper} {rs : List (Option Nat)}
theorem PremT.elim {M : List (Nat × AsrT)} {a : Act} {G : Env → Prop} : ∀ (D : List Nat) (σ : Env), PremT M D σ w G → Fits N ds σ a → (∀ k ∈ D, ∀ p, M[k]? = some p → p.2.holds a w) → ∃ σ', Fits N ds σ' a ∧ G σ'
  | [], σ, h, hf, _ => ⟨σ, hf, h⟩
  | k :: r, σ, h, hf, hD => by
    unfold PremT at h
    cases hk : M[k]? with
    | none => rw [hk] at h; exact PremT.elim r σ h hf (fun j hj p hp => hD j (by simp [hj]) p hp)
    | some p =>
      rw [hk] at h
      obtain ⟨x, h1, h2⟩ := hD k (by simp) p hk
      exact PremT.elim r _ (h x h2) (hf.more h1) (fun j hj p hp => hD j (by simp [hj]) p hp)
theorem PremT.nil {M : List (Nat × AsrT)} {G : Env → Prop} (h : G σ) : PremT M [] σ w G := h
theorem PremT.c {M : List (Nat × AsrT)} {G : Env → Prop} {k : Nat} {r : List Nat} {p : Nat × AsrT} (hk : M[k]? = some p) (h : ∀ x, p.2.Φ x w → PremT M r ((p.2.slot, p.2.val x) :: σ) w G) : PremT M (k :: r) σ w G := by
  unfold PremT; rw [hk]; exact h
theorem PremT.v {M : List (Nat × AsrT)} {G : Env → Prop} {k i t : Nat} {r : List Nat} {u : Value} (hk : M[k]? = some (i, AsrT.v rs t u)) (h : PremT M r ((t, u) :: σ) w G) : PremT M (k :: r) σ w G := PremT.c hk fun _ _ => h
theorem PremT.a {M : List (Nat × AsrT)} {G : Env → Prop} {k i t : Nat} {r : List Nat} {ι : Type} {val : ι → Value} {Φ : ι → World → Prop} (hk : M[k]? = some (i, AsrT.c rs t ι val Φ)) (h : ∀ x, (∀ w', Tn rs w w' → Φ x w') → PremT M r ((t, val x) :: σ) w G) : PremT M (k :: r) σ w G := PremT.c hk fun x hx => h x hx
/-- What an operation leaves, told by an assertion. -/
def OpYeT (P : Program) (ops : Array Oper) (us : List (Option Nat)) (i : Nat) (A : AsrT) (σ : Env) (w : World) : Prop :=
  ∃ op ty pos after g, ops[i]? = some ⟨some A.slot, op, ty, pos, after, g⟩ ∧ (g = none ∨ ∃ j b t, g = some (j, b) ∧ (ops[j]?).bind (·.dst) = some t ∧ σ.get t = some (.bool b) ∧ ∀ a : Act, Fits N ds σ a → yielded ops a.tmps j = some b) ∧
    Ye P σ op ty w fun v w1 => (∃ x, v = A.val x ∧ A.Φ x w1) ∧ Tn us w w1
theorem OpYeT.mk {us : List (Option Nat)} {i : Nat} {A : AsrT} {op ty pos after} (h : ops[i]? = some ⟨some A.slot, op, ty, pos, after, none⟩) (hy : Ye P σ op ty w fun v w1 => (∃ x, v = A.val x ∧ A.Φ x w1) ∧ Tn us w w1) : OpYeT (N := N) (ds := ds) P ops us i A σ w := ⟨_, _, _, _, _, h, .inl rfl, hy⟩
theorem OpYeT.mkg {us : List (Option Nat)} {i : Nat} {A : AsrT} {op ty pos after j t b} (h : ops[i]? = some ⟨some A.slot, op, ty, pos, after, some (j, b)⟩) (hj : (ops[j]?).bind (·.dst) = some t) (hg : σ.get t = some (.bool b)) (hN : Nat.blt t N = true)
    (hy : Ye P σ op ty w fun v w1 => (∃ x, v = A.val x ∧ A.Φ x w1) ∧ Tn us w w1) : OpYeT (N := N) (ds := ds) P ops us i A σ w := ⟨_, _, _, _, _, h, .inr ⟨j, b, t, rfl, hj, hg, fun a hf => hf.yielded hj hg hN⟩, hy⟩
theorem OpYeT.val {us : List (Option Nat)} {i : Nat} {t : Nat} {u : Value} {op ty pos after} (h : ops[i]? = some ⟨some t, op, ty, pos, after, none⟩) (hy : Yd P σ op ty u w) : OpYeT (N := N) (ds := ds) P ops us i (AsrT.v rs t u) σ w :=
  OpYeT.mk h (hy.ye.mono fun v w1 h => ⟨⟨(), h.1, trivial⟩, by rw [h.2]; exact Tn.refl _ _⟩)
theorem OpYeT.valg {us : List (Option Nat)} {i : Nat} {t : Nat} {u : Value} {op ty pos after j s b} (h : ops[i]? = some ⟨some t, op, ty, pos, after, some (j, b)⟩) (hj : (ops[j]?).bind (·.dst) = some s) (hg : σ.get s = some (.bool b)) (hN : Nat.blt s N = true) (hy : Yd P σ op ty u w) : OpYeT (N := N) (ds := ds) P ops us i (AsrT.v rs t u) σ w :=
  OpYeT.mkg h hj hg hN (hy.ye.mono fun v w1 h => ⟨⟨(), h.1, trivial⟩, by rw [h.2]; exact Tn.refl _ _⟩)
def PremsT (P : Program) (N : Nat) (ds : List Deferred) (ops : Array Oper) (mu : Mus) (M : List (Nat × AsrT)) (σ : Env) (w : World) : List (Nat × AsrT) → List (List Nat) → List (List Nat) → Prop
  | p :: r, D :: q, B :: z => (∀ w1, Tn (muIn mu B) w w1 → PremT M D σ w1 fun σ' => OpYeT (N := N) (ds := ds) P ops (muOf mu p.1) p.1 p.2 σ' w1) ∧ PremsT P N ds ops mu M σ w r q z
  | [], [], [] => True
  | _, _, _ => False
theorem PremsT.get {mu : Mus} {M : List (Nat × AsrT)} : ∀ {r : List (Nat × AsrT)} {q z : List (List Nat)} {k : Nat} {p D B}, PremsT P N ds ops mu M σ w r q z → r[k]? = some p → q[k]? = some D → z[k]? = some B → ∀ w1, Tn (muIn mu B) w w1 → PremT M D σ w1 fun σ' => OpYeT (N := N) (ds := ds) P ops (muOf mu p.1) p.1 p.2 σ' w1
  | [], [], [], k, p, D, B, _, h, _, _ => by cases k <;> cases h
  | p :: r, D :: q, B :: z, 0, p', D', B', h, h1, h2, h3 => by cases h1; cases h2; cases h3; exact h.1
  | p :: r, D :: q, B :: z, k + 1, p', D', B', h, h1, h2, h3 => PremsT.get h.2 h1 h2 h3
  | [], _ :: _, _, k, p, D, B, h, h1, h2, h3 => by cases k <;> cases h1
  | [], [], _ :: _, k, p, D, B, h, h1, h2, h3 => by cases k <;> cases h1
  | _ :: _, [], _, k, p, D, B, h, h1, h2, h3 => by cases k <;> cases h2
  | _ :: _, _ :: _, [], k, p, D, B, h, h1, h2, h3 => by cases k <;> cases h3
structure MidT (N : Nat) (ds : List Deferred) (ops : Array Oper) (mu : Mus) (M : List (Nat × AsrT)) (σ : Env) (w : World) (start listed : Array Bool) (a : Act) (w' : World) : Prop where
  fits : Fits N ds σ a
  ext : Tn (muL mu listed) w w'
  closed : Inv .any ops [] #[] listed
  low : ∀ j, start.getD j false = true → listed.getD j false = true
  high : ∀ j, listed.getD j false = true → start.getD j false = true ∨ j ∈ M.map (·.1)
  size : listed.size = start.size
  told : ∀ p ∈ M, listed.getD p.1 false = true → p.2.holds a w'
/-- What an operation turns, the assertions of the others bear. -/
def MuOK (mu : Mus) : List (Nat × AsrT) → Prop
  | [] => True
  | q :: r => (∀ p ∈ mu, p.1 ≠ q.1 → ∀ x ∈ p.2, x ∈ q.2.rs) ∧ MuOK mu r
theorem MuOK.get {mu : Mus} : ∀ {M : List (Nat × AsrT)}, MuOK mu M → ∀ q ∈ M, ∀ i, i ≠ q.1 → ∀ x ∈ muOf mu i, x ∈ q.2.rs
  | [], _, q, hq, _, _, _, _ => by cases hq
  | q :: r, h, q', hq, i, hi, x, hx => by
    rcases List.mem_cons.1 hq with rfl | hq
    · obtain ⟨p, h1, h2, h3⟩ := mu_mem.1 hx
      have e : p.1 = i := Nat.eq_of_beq_eq_true h2
      exact h.1 p h1 (by rw [e]; exact hi) x h3
    · exact MuOK.get h.2 q' hq i hi x hx
theorem wpAnyM_asrT {mu : Mus} {M : List (Nat × AsrT)} {D Z : List (List Nat)} {start target : Array Bool} {T : Act → World → Prop} (hmr : MuOK mu M) (hwait : Waits .any ops (M.map (·.1)) start) (hdeps : depsB .any ops (M.map (·.1)) (M.map (·.1)) D = true) (hbef : befB .any ops (mu.map (·.1)) (M.map (·.1)) Z = true) (hlin : linB .any ops (M.map (·.1)) start = true) (hn : (M.map (·.1)).Nodup)
    (hs : (M.map (·.2.slot)).Nodup) (hsl : ∀ p ∈ M, p.2.slot < N) (hfresh : ∀ p ∈ M, σ.get p.2.slot = none) (hun : ∀ p ∈ M, p.1 < start.size ∧ start.getD p.1 true = false) (htarget : ∀ listed : Array Bool, listed.size = start.size → (∀ j, listed.getD j false = true ↔ start.getD j false = true ∨ j ∈ M.map (·.1)) → listed = target)
    (hP : PremsT P N ds ops mu M σ w M D Z) (hT : ∀ a w', Fits N ds σ a → Tn (muAll mu) w w' → (∀ p ∈ M, p.2.holds a w') → T a w') :
    ∀ (f : Nat) (listed : Array Bool) (a : Act) (w' : World), MidT N ds ops mu M σ w start listed a w' → left (M.map (·.1)) listed = f → wpAnyM P .any ops Q (fun _ _ => True) (M.map (·.1)) (fun listed' a' w' => listed' = target ∧ Inv .any ops [] #[] listed' ∧ T a' w') f listed a w' := by
  intro f
  induction f with
  | zero =>
    intro listed a w' mid hl
    have hall := left_zero hl
    refine ⟨htarget listed mid.size fun j => ⟨mid.high j, fun h => ?_⟩, mid.closed, hT a w' mid.fits (mid.ext.mono muL_all) fun p hp => mid.told p hp (hall _ (List.mem_map.2 ⟨p, hp, rfl⟩))⟩
    rcases h with h | h
    · exact mid.low j h
    · exact hall j h
  | succ f ih =>
    intro listed a w' mid hl
    obtain ⟨i0, hi0, hu0⟩ : ∃ i ∈ M.map (·.1), listed.getD i true = false := by
      have h1 : (M.map (·.1)).filter (fun i => !listed.getD i false) ≠ [] := by
        intro e
        have h2 : ((M.map (·.1)).filter fun i => !listed.getD i false).length = f + 1 := hl
        rw [e] at h2; cases h2
      obtain ⟨i, hi⟩ := List.exists_mem_of_ne_nil _ h1
      rw [List.mem_filter] at hi
      refine ⟨i, hi.1, ?_⟩
      obtain ⟨p, hp, e⟩ := List.mem_map.1 hi.1
      have hlt := (hun p hp).1
      have e' : p.1 = i := e
      rw [e', ← mid.size] at hlt
      have h3 := hi.2
      rw [Array.getD_eq_getD_getElem?, Array.getElem?_eq_getElem hlt] at h3 ⊢
      simpa using h3
    have hinv : Inv .any ops (M.map (·.1)) start listed := ⟨mid.closed.closed⟩
    have step : ∀ i ∈ Region.ready .any ops listed, i ∈ M.map (·.1) ∧ wpOp P ops Q i (fun a' w2 => True ∧ wpAnyM P .any ops Q (fun _ _ => True) (M.map (·.1)) (fun listed' a' w' => listed' = target ∧ Inv .any ops [] #[] listed' ∧ T a' w') f (listed.setIfInBounds i true) a' w2) a w' := by
      intro i hi
      have hiM := hwait listed hinv mid.low i0 hi0 hu0 i hi
      refine ⟨hiM, ?_⟩
      obtain ⟨hunl, oi, hoi, hafter⟩ := mem_ready.1 hi
      obtain ⟨k, hk⟩ := List.getElem?_of_mem hiM
      have hkM : ∃ p, M[k]? = some p ∧ p.1 = i := by
        rw [List.getElem?_map] at hk
        cases hp : M[k]? with
        | none => rw [hp] at hk; cases hk
        | some p => rw [hp] at hk; exact ⟨p, rfl, Option.some.inj hk⟩
      obtain ⟨p, hp, hpi⟩ := hkM
      have hpM : p ∈ M := List.mem_of_getElem? hp
      have hDl := depsB_len hdeps
      have hkl : k < D.length := by rw [hDl]; exact (List.getElem?_eq_some_iff.1 hk).1
      have hZl := befB_len hbef
      have hkz : k < Z.length := by rw [hZl]; exact (List.getElem?_eq_some_iff.1 hk).1
      have hbk := befB_get hbef hk (List.getElem?_eq_getElem hkz)
      have hprem := PremsT.get hP hp (List.getElem?_eq_getElem hkl) (List.getElem?_eq_getElem hkz) w' (mid.ext.mono fun r hr => by
        obtain ⟨m, h1, h2, h3⟩ := mu_mem.1 hr
        refine mu_mem.2 ⟨m, h1, ?_, h3⟩
        rcases hbk m.1 (List.mem_map.2 ⟨m, h1, rfl⟩) with h4 | h4 | h4
        · exact h4
        · rw [h4, getD_both hunl] at h2; cases h2
        · have h5 := reach_spec mid.closed.closed _ _ _ h4 (fun o' ho' e he hb => mid.closed.closed m.1 o' ho' h2 e he hb)
          rw [getD_both hunl] at h5; cases h5)
      have hdep := depsB_get hdeps hk (List.getElem?_eq_getElem hkl)
      obtain ⟨σ', hf', op, ty, pos, after, g, hop, hg, hy⟩ := PremT.elim (N := N) (ds := ds) _ _ hprem mid.fits fun d hd q hq => by
        obtain ⟨m, hm, hr⟩ := hdep d hd
        have hm' : q.1 = m := by rw [List.getElem?_map, hq] at hm; exact Option.some.inj hm
        refine mid.told q (List.mem_of_getElem? hq) ?_
        rw [hm']
        exact reach_spec mid.closed.closed _ _ _ hr (fun o' ho' e he hb => by
          have : o' = oi := Option.some.inj (ho'.symm.trans hoi)
          subst this
          exact hafter e he hb)
      rw [hpi] at hop hy
      unfold wpOp
      rw [hop]
      simp only
      have hw : Region.wanted ⟨some p.2.slot, op, ty, pos, after, g⟩ (yielded ops a.tmps) = true := by
        rcases hg with rfl | ⟨j, b, t, rfl, hj, hgt, hyl⟩
        · simp [Region.wanted]
        · simp [Region.wanted, hyl a hf']
      rw [if_pos hw]
      refine .inl (hy N ds a w' _ _ _ _ _ _ hf' (Same.refl _) fun v w3 w2 hv hs2 => ⟨trivial, ?_⟩)
      obtain ⟨⟨x, rfl, hx⟩, hx2⟩ := hv
      have hx2' : Tn (muOf mu i) w' w2 := hx2.ext hs2.ext
      have hil : i < listed.size := by have := (hun p hpM).1; rw [hpi] at this; rw [mid.size]; exact this
      refine ih _ _ _ ⟨?_, (mid.ext.mono muL_set).trans (hx2'.mono (muOf_set hil)), mid.closed.set hi, fun j hj => getD_set_true (mid.low j hj), fun j hj => ?_, by rw [Array.size_setIfInBounds]; exact mid.size, fun q hq hql => ?_⟩ ?_
      · refine ⟨by simp [Act.put, mid.fits.size], by simp [Act.put, mid.fits.defers], fun t u ht => ?_⟩
        have hne : p.2.slot ≠ t := by intro e; rw [← e, hfresh p hpM] at ht; cases ht
        rw [put_getD hne]; exact mid.fits.vals t u ht
      · by_cases hji : i = j
        · subst hji; exact .inr hiM
        · rw [getD_set_ne false hji] at hj; exact mid.high j hj
      · by_cases hqi : q.1 = i
        · obtain ⟨kq, hkq⟩ := List.getElem?_of_mem hq
          have hkk : kq = k := by
            have h1 : (M.map (·.1))[kq]? = some i := by rw [List.getElem?_map, hkq]; exact congrArg some hqi
            have hlt1 := (List.getElem?_eq_some_iff.1 h1).1
            exact (List.getElem?_inj hlt1 hn).1 (h1.trans hk.symm)
          subst hkk
          rw [hp] at hkq
          have e := Option.some.inj hkq
          subst e
          exact ⟨x, put_getD_self (by rw [mid.fits.size]; exact hsl p hpM), p.2.stab _ _ _ hx (hs2.ext.tn _)⟩
        · rw [getD_set_ne false (fun e => hqi e.symm)] at hql
          obtain ⟨y, hy1, hy2⟩ := mid.told q hq hql
          have hne : p.2.slot ≠ q.2.slot := by
            intro e
            obtain ⟨kq, hkq⟩ := List.getElem?_of_mem hq
            have h1 : (M.map (·.2.slot))[kq]? = some q.2.slot := by rw [List.getElem?_map, hkq]; rfl
            have h2 : (M.map (·.2.slot))[k]? = some q.2.slot := by rw [List.getElem?_map, hp, ← e]; rfl
            have hkk : kq = k := (List.getElem?_inj (List.getElem?_eq_some_iff.1 h1).1 hs).1 (h1.trans h2.symm)
            subst hkk
            rw [hp] at hkq
            have e3 := Option.some.inj hkq
            subst e3
            exact hqi hpi
          exact ⟨y, by rw [put_getD hne]; exact hy1, q.2.stab _ _ _ hy2 (hx2'.mono (hmr.get q hq i (fun e => hqi e.symm)))⟩
      · have := left_set hn hiM hunl
        omega
    exact ⟨linB_ready hlin mid.low (fun i hi => by obtain ⟨p, hp, e⟩ := List.mem_map.1 hi; rw [mid.size, ← e]; exact (hun p hp).1) ⟨i0, hi0, hu0⟩, step⟩
/-- The walk ahead of those of M. -/
def ATT (P : Program) (N : Nat) (ds : List Deferred) (ops : Array Oper) (mu : Mus) (M : List (Nat × AsrT)) (D Z : List (List Nat)) (T : Act → World → Prop) (a : Act) (w : World) : Prop :=
  ∃ σ w0, Fits N ds σ a ∧ Same w0 w ∧ (∀ p ∈ M, σ.get p.2.slot = none) ∧ PremsT P N ds ops mu M σ w0 M D Z ∧ ∀ w1, Tn (muAll mu) w0 w1 → PremT M (List.range M.length) σ w1 fun σ' => J N ds σ' T w1
theorem J.at_in {M : List (Nat × AsrT)} {mu : Mus} {D Z : List (List Nat)} {T : Act → World → Prop} (R : List Nat) (hR : List.range M.length = R) (hf : freshB σ (M.map (·.2.slot)) = true) (hp : PremsT P N ds ops mu M σ w M D Z) (hT : ∀ w1, Tn (muAll mu) w w1 → PremT M R σ w1 fun σ' => J N ds σ' T w1) :
    J N ds σ (ATT P N ds ops mu M D Z T) w := by subst hR; exact fun a w' h hs => ⟨σ, w, h, hs, fun p hp => freshB_of hf _ (List.mem_map.2 ⟨p, hp, rfl⟩), hp, hT⟩
theorem J.regionAT {id : Nat} {ops : Array Oper} (l1 : List (Nat × Bool)) (M : List (Nat × AsrT)) (Mi Ms : List Nat) (D Z : List (List Nat)) (mu : Mus) (mus : List Nat) (hmu : mu.map (·.1) = mus) (hmr : MuOK mu M) (l3 : List (Nat × Bool)) (hMi : M.map (·.1) = Mi) (hMs : M.map (·.2.slot) = Ms) (hm : P.follows .mixedOrders = true) (hB : ordA .any ops N l1 Mi Ms D l3 = true) (hZ : befB .any ops mus Mi Z = true)
    (h : J N ds σ (wpSeq P ops (NoPan Q) (ATT P N ds ops mu M D Z (wpSeq P ops (NoPan Q) (NoPan Q .normal) l3)) l1) w) : J N ds σ ((Code.region id ops true).wp P Q) w := by
  subst hMi; subst hMs; subst hmu
  intro a w' hf hs
  have h := h a w'.drew hf (hs.trans (Same.drew w'))
  refine Code.wp_mono NoPan.imp ?_
  have hQ : ∀ c a w d v, NoPan Q (.panic c) (Act.put a d v) w → NoPan Q (.panic c) a w := fun _ _ _ _ _ h => h
  generalize NoPan Q = Q at *
  simp only [ordA, Bool.and_eq_true] at hB
  obtain ⟨⟨⟨⟨⟨⟨⟨⟨⟨⟨⟨hsel, hlen⟩, hg1⟩, hw⟩, hd⟩, hl⟩, hn⟩, hn2⟩, hN⟩, hun⟩, hg3⟩, hend⟩ := hB
  have hlen' : l1.length + ((M.map (·.1)).length + l3.length) = ops.size := Nat.eq_of_beq_eq_true hlen
  have inv0 : Inv .any ops [] #[] (Array.replicate ops.size false) := ⟨fun j oj _ hl => (by rw [getD_replicate_false] at hl; cases hl)⟩
  have hs1 : (listAll (Array.replicate ops.size false) l1).size = ops.size := by rw [listAll_size]; simp
  have hend' : Region.ready .any ops (listAll (listAll (listAll (Array.replicate ops.size false) l1) ((M.map (·.1)).map fun i => (i, true))) l3) = [] := by simpa using hend
  refine wp_region_any hm ?_
  suffices hh : wpAny P .any ops Q (l1.length + ((M.map (·.1)).length + l3.length)) (Array.replicate ops.size false) a w'.drew by rw [hlen'] at hh; exact hh
  refine wpAny_of_seq' (md := .any) (g := (M.map (·.1)).length + l3.length) hsel hQ l1 _ a w'.drew inv0 hg1 (fun a w inv1 hT => ?_) h
  obtain ⟨σ', w0, hf', hs', hfr, hP, hfin⟩ := hT
  generalize hS1 : listAll (Array.replicate ops.size false) l1 = s1 at *
  have hun' : ∀ p ∈ M, p.1 < s1.size ∧ s1.getD p.1 true = false := fun p hp => by
    have := List.all_eq_true.1 hun p.1 (List.mem_map.2 ⟨p, hp, rfl⟩)
    rw [Bool.and_eq_true] at this
    exact ⟨by rw [hs1]; simpa [Nat.blt_eq] using this.1, by simpa using this.2⟩
  have hleft : left (M.map (·.1)) s1 = (M.map (·.1)).length := by
    unfold left
    rw [List.filter_eq_self.2]
    intro i hi
    obtain ⟨p, hp, e⟩ := List.mem_map.1 hi
    have h3 := getD_both (hun' p hp).2
    have e' : p.1 = i := e
    rw [← e']; simp [h3]
  have hmid : MidT N ds ops mu M σ' w0 s1 s1 a w := ⟨hf', hs'.ext.tn _, inv1, fun _ h => h, fun _ h => .inl h, rfl, fun p hp h => by rw [getD_both (hun' p hp).2] at h; cases h⟩
  have htgt : ∀ listed : Array Bool, listed.size = s1.size → (∀ j, listed.getD j false = true ↔ s1.getD j false = true ∨ j ∈ M.map (·.1)) → listed = listAll s1 ((M.map (·.1)).map fun i => (i, true)) := fun listed h1 h2 =>
    bools_ext (by rw [h1, listAll_size]) fun j => by
      rw [h2, listAll_get _ _ _ (fun i hi => by obtain ⟨p, hp, e⟩ := List.mem_map.1 hi; have := (hun' p hp).1; have e' : p.1 = i := e; omega)]
  have H := wpAnyM_asrT (mu := mu) (P := P) (Q := Q) (T := fun a w => wpSeq P ops Q (Q .normal) l3 a w) (target := listAll s1 ((M.map (·.1)).map fun i => (i, true))) hmr (waits_of hw) hd hZ hl (nodup_of hn) (nodup_of hn2)
    (fun p hp => by have := List.all_eq_true.1 hN p.2.slot (List.mem_map.2 ⟨p, hp, rfl⟩); simpa [Nat.blt_eq] using this) hfr hun' htgt hP
    (fun a w1 hfa hx hall => by
      obtain ⟨σ'', hf2, hJ⟩ := PremT.elim (N := N) (ds := ds) _ _ (hfin w1 hx) hfa (fun k _ p hp => hall p (List.mem_of_getElem? hp))
      exact hJ a w1 hf2 (Same.refl _)) _ s1 a w hmid hleft
  refine wpAny_of_M (Q := Q) (g := l3.length) (fun listed a' w' hL => ?_) _ _ _ _ H
  obtain ⟨rfl, inv2, hT3⟩ := hL
  have := wpAny_of_seq' (md := .any) (g := 0) hsel hQ l3 _ a' w' inv2 hg3 (fun a w _ hT => ⟨hend', hT⟩) hT3
  simpa using this
end
end Go.X
