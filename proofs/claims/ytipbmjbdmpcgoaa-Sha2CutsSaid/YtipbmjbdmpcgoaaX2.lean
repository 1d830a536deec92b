/-
  The walk's own words: what is known of a frame's slots (Env, Fits), of the world up to draws (Same) and beyond new memory (Ext); the goals J (a walk) and C (a call), and the rules of the control flow.
-/
import Derived.Below
import Derived.Defers
import Derived.WalkKit
import Derived.Test.YtipbmjbdmpcgoaaX1
set_option linter.unusedVariables false
namespace Go.X
open Go.RowKit

/-- What is known of the slots: the first entry counts. -/
abbrev Env := List (Nat × Value)
def Env.get : Env → Nat → Option Value
  | [], _ => none
  | (k, v) :: r, t => bif Nat.beq k t then some v else Env.get r t
def ev (σ : Env) : Operand → Option Value
  | .tmp t => σ.get t
  | .const v => some v
  | .global g => some (.pointer (some ⟨g, 0, none⟩))
  | .func f => some (.func (.func f) #[] #[])
def evs (σ : Env) : List Operand → Option (List Value)
  | [] => some []
  | x :: r => (ev σ x).bind fun v => (evs σ r).bind fun vs => some (v :: vs)

structure Fits (N : Nat) (ds : List Deferred) (σ : Env) (a : Act) : Prop where
  size : a.tmps.size = N
  defers : a.defers = ds
  vals : ∀ t v, σ.get t = some v → a.tmps.getD t undef = v

/-- All that σ' says, σ says. -/
def Sub (σ : Env) : Env → Prop
  | [] => True
  | (t, v) :: r => σ.get t = some v ∧ Sub σ r

theorem Sub.get {σ σ' : Env} (h : Sub σ σ') : ∀ {t v}, σ'.get t = some v → σ.get t = some v := by
  induction σ' with
  | nil => intro t v hg; cases hg
  | cons p r ih =>
    intro t v hg
    obtain ⟨k, u⟩ := p
    obtain ⟨h1, h2⟩ := h
    simp only [Env.get] at hg
    cases hk : Nat.beq k t with
    | true =>
      rw [hk] at hg
      simp only [cond_true, Option.some.injEq] at hg
      rw [← Nat.eq_of_beq_eq_true hk, ← hg]; exact h1
    | false => rw [hk] at hg; exact ih h2 hg

theorem Fits.sub {N ds σ σ' a} (h : Fits N ds σ a) (hs : Sub σ σ') : Fits N ds σ' a := ⟨h.size, h.defers, fun t v hg => h.vals t v (hs.get hg)⟩

theorem Fits.ev {N ds σ a} (h : Fits N ds σ a) {x : Operand} {v : Value} (hx : Go.X.ev σ x = some v) : a.eval x = v := by
  cases x with
  | tmp t => exact h.vals t v hx
  | const u => simp only [Go.X.ev, Option.some.injEq] at hx; exact hx
  | global g => simp only [Go.X.ev, Option.some.injEq] at hx; exact hx
  | func f => simp only [Go.X.ev, Option.some.injEq] at hx; exact hx

theorem Fits.evs {N ds σ a} (h : Fits N ds σ a) : ∀ {xs : List Operand} {vs : List Value}, Go.X.evs σ xs = some vs → xs.map a.eval = vs
  | [], vs, hx => by simp only [Go.X.evs, Option.some.injEq] at hx; subst hx; rfl
  | x :: r, vs, hx => by
    simp only [Go.X.evs] at hx
    cases h1 : Go.X.ev σ x with
    | none => rw [h1] at hx; cases hx
    | some v =>
      cases h2 : Go.X.evs σ r with
      | none => rw [h1, h2] at hx; cases hx
      | some us =>
        rw [h1, h2] at hx
        simp only [Option.bind_some, Option.some.injEq] at hx
        subst hx
        simp [h.ev h1, Fits.evs h h2]

theorem Fits.put {N ds σ a} (h : Fits N ds σ a) (d : Nat) (hd : Nat.blt d N = true) (v : Value) : Fits N ds ((d, v) :: σ) (a.put (some d) v) := by
  have hd' : d < a.tmps.size := by rw [h.size]; simpa [Nat.blt_eq] using hd
  refine ⟨by simp [Act.put, h.size], by simp [Act.put, h.defers], fun t u hg => ?_⟩
  simp only [Env.get] at hg
  cases hk : Nat.beq d t with
  | true =>
    rw [hk] at hg
    simp only [cond_true, Option.some.injEq] at hg
    have := Nat.eq_of_beq_eq_true hk
    subst this; subst hg
    simp [Act.put, hd']
  | false =>
    rw [hk] at hg
    have hne : d ≠ t := fun e => by subst e; simp at hk
    have := h.vals t u hg
    simpa [Act.put, Array.getD_eq_getD_getElem?, Array.getElem?_setIfInBounds_ne hne] using this

theorem Fits.none {N ds σ a} (h : Fits N ds σ a) (v : Value) : Fits N ds σ (a.put .none v) := h

/-! ### Worlds -/
/-- The same but for draws. -/
structure Same (w w' : World) : Prop where
  heap : w'.heap = w.heap
  os : w'.os = w.os
  tape : w'.tape = w.tape
  output : w'.output = w.output
theorem Same.refl (w : World) : Same w w := ⟨rfl, rfl, rfl, rfl⟩
theorem Same.trans {a b c : World} (h : Same a b) (k : Same b c) : Same a c := ⟨k.heap.trans h.heap, k.os.trans h.os, k.tape.trans h.tape, k.output.trans h.output⟩
theorem Same.symm {a b : World} (h : Same a b) : Same b a := ⟨h.heap.symm, h.os.symm, h.tape.symm, h.output.symm⟩
theorem Same.drew (w : World) : Same w w.drew := ⟨rfl, rfl, rfl, rfl⟩

/-- All that was there is as it was. -/
structure Ext (w w' : World) : Prop where
  os : w'.os = w.os
  tape : w'.tape = w.tape
  output : w'.output = w.output
  size : w.heap.size ≤ w'.heap.size
  block : ∀ k, k < w.heap.size → w'.heap[k]? = w.heap[k]?
theorem Ext.refl (w : World) : Ext w w := ⟨rfl, rfl, rfl, Nat.le_refl _, fun _ _ => rfl⟩
theorem Ext.trans {a b c : World} (h : Ext a b) (k : Ext b c) : Ext a c :=
  ⟨k.os.trans h.os, k.tape.trans h.tape, k.output.trans h.output, Nat.le_trans h.size k.size, fun i hi => (k.block i (Nat.lt_of_lt_of_le hi h.size)).trans (h.block i hi)⟩
theorem Same.ext {a b : World} (h : Same a b) : Ext a b := ⟨h.os, h.tape, h.output, by rw [h.heap]; exact Nat.le_refl _, fun _ _ => by rw [h.heap]⟩
theorem Ext.below {w w' : World} (h : Ext w w') : Below w.heap.size w w' := ⟨h.os, h.tape, h.output, h.size, h.block⟩
theorem Ext.ofBelow {w w' : World} (h : Below w.heap.size w w') : Ext w w' := ⟨h.os, h.tape, h.output, h.size, h.block⟩
theorem Ext.heap {w w' : World} (h : Ext w w') {b : Nat} {o : Obj} (hb : w.heap[b]? = some o) : w'.heap[b]? = some o := by
  rw [h.block b (Array.getElem?_eq_some_iff.1 hb).1]; exact hb
theorem Ext.cell {w w' : World} (h : Ext w w') {a : Addr} {v : Value} (hc : w.cell? a = some v) : w'.cell? a = some v := by
  have hb : a.block < w.heap.size := by
    rcases Nat.lt_or_ge a.block w.heap.size with h' | h'
    · exact h'
    · simp [World.cell?, Array.getElem?_eq_none h'] at hc
  have := h.block a.block hb
  unfold World.cell? at *
  rw [this]; exact hc
/-- Block b alone may have turned. -/
structure Upd (b : Nat) (w w' : World) : Prop where
  os : w'.os = w.os
  tape : w'.tape = w.tape
  output : w'.output = w.output
  size : w'.heap.size = w.heap.size
  block : ∀ k, k ≠ b → w'.heap[k]? = w.heap[k]?
/-- From W on: a store into a block that came behind W. -/
theorem Ext.upd {W w w' : World} (h : Ext W w) {b : Nat} (hb : W.heap.size ≤ b) (hu : Upd b w w') : Ext W w' :=
  ⟨hu.os.trans h.os, hu.tape.trans h.tape, hu.output.trans h.output, by rw [hu.size]; exact h.size, fun k hk => (hu.block k (by omega)).trans (h.block k hk)⟩

/-! ### The goals -/
/-- Walk on with K, from whatever frame fits, in the world w but for draws. -/
def J (N : Nat) (ds : List Deferred) (σ : Env) (K : Act → World → Prop) (w : World) : Prop := ∀ a w', Fits N ds σ a → Same w w' → K a w'
/-- A call, in the world w but for draws; its end told but for draws. -/
def C (P : Program) (f : FuncId) (args : List Value) (w : World) (R : Ending → World → Prop) : Prop :=
  ∀ w', Same w w' → Calls P f args.toArray w' fun e w2 => ∃ w3, Same w3 w2 ∧ R e w3
/-- It returns. -/
def Ret (R : Value → World → Prop) : Ending → World → Prop := fun e w => ∃ v, e = .returned v ∧ R v w

theorem C.mono {P f args w} {R R' : Ending → World → Prop} (h : C P f args w R) (hr : ∀ e w, R e w → R' e w) : C P f args w R' :=
  fun w' hs => (h w' hs).mono fun e w2 ⟨w3, h1, h2⟩ => ⟨w3, h1, hr _ _ h2⟩
theorem C.ret {P f args w} {R R' : Value → World → Prop} (h : C P f args w (Ret R)) (hr : ∀ v w, R v w → R' v w) : C P f args w (Ret R') :=
  h.mono fun _ _ ⟨v, he, h⟩ => ⟨v, he, hr _ _ h⟩

/-- The function's end. -/
def Fin (P : Program) (fn : Func) (R : Ending → World → Prop) : Exit → Act → World → Prop := bodyPost P fn fun e w2 => ∃ w3, Same w3 w2 ∧ R e w3

def enum (k : Nat) : List Value → Env
  | [] => []
  | v :: r => (k, v) :: enum (k + 1) r

theorem enum_get : ∀ (l : List Value) (k t : Nat) (v : Value), (enum k l).get t = some v → k ≤ t ∧ l[t - k]? = some v
  | [], k, t, v, h => by cases h
  | u :: r, k, t, v, h => by
    simp only [enum, Env.get] at h
    cases hk : Nat.beq k t with
    | true =>
      rw [hk] at h
      have := Nat.eq_of_beq_eq_true hk
      subst this
      simpa using h
    | false =>
      rw [hk] at h
      have hne : k ≠ t := fun e => by subst e; simp at hk
      obtain ⟨h1, h2⟩ := enum_get r (k + 1) t v h
      refine ⟨by omega, ?_⟩
      rw [show t - k = (t - (k + 1)) + 1 by omega]
      simpa using h2

theorem enter_fits {args : List Value} {N : Nat} (hN : Nat.ble args.length N = true) :
    Fits N [] (enum 0 args) { tmps := args.toArray ++ Array.replicate (N - args.toArray.size) undef, defers := [] } := by
  have hN' : args.length ≤ N := by simpa using hN
  refine ⟨by simp; omega, rfl, fun t v hg => ?_⟩
  obtain ⟨_, h2⟩ := enum_get args 0 t v hg
  have ht : t < args.length := by
    rcases Nat.lt_or_ge t args.length with h | h
    · exact h
    · simp [List.getElem?_eq_none h] at h2
  simp only [Nat.sub_zero] at h2
  rw [Array.getD_eq_getD_getElem?, Array.getElem?_append_left (by simpa using ht)]
  simp [h2]

theorem C.enter {P : Program} {f : FuncId} {fn : Func} {c : Code} {args : List Value} {w : World} {R : Ending → World → Prop} {N : Nat}
    (hf : P.funcs[f]? = some fn) (hb : fn.body = some c) (hn : fn.ntmps = N) (hN : Nat.ble args.length N = true)
    (h : J N [] (enum 0 args) (c.wp P (Fin P fn R)) w) : C P f args w R := by
  intro w' hs
  refine calls_of_wp hf hb ?_
  rw [hn]
  exact h _ _ (enter_fits hN) hs

section
variable {P : Program} {N : Nat} {ds : List Deferred} {σ : Env} {w : World} {Q : Exit → Act → World → Prop} {K : Act → World → Prop}

theorem J.sub {σ' : Env} (hs : Sub σ σ') (h : J N ds σ' K w) : J N ds σ K w := fun a w' hf hw => h a w' (hf.sub hs) hw
theorem J.mono {K' : Act → World → Prop} (h : J N ds σ K' w) (hk : ∀ a w, K' a w → K a w) : J N ds σ K w := fun a w' hf hw => hk _ _ (h a w' hf hw)
theorem J.seq {x y : Code} (h : J N ds σ (x.wp P (Exit.then (y.wp P Q) Q)) w) : J N ds σ ((Code.seq x y).wp P Q) w := fun a w' hf hw => wp_seq (h a w' hf hw)
theorem J.block {id : Nat} {c : Code} (h : J N ds σ (c.wp P (Exit.inBlock id Q)) w) : J N ds σ ((Code.block id c).wp P Q) w := fun a w' hf hw => wp_block (h a w' hf hw)
theorem J.skip (h : J N ds σ (Q .normal) w) : J N ds σ (Code.skip.wp P Q) w := fun a w' hf hw => wp_skip (h a w' hf hw)
theorem J.exit {id : Nat} (h : J N ds σ (Q (.exit id)) w) : J N ds σ ((Code.exit id).wp P Q) w := fun a w' hf hw => wp_exit (h a w' hf hw)
theorem J.ret (h : J N ds σ (Q .ret) w) : J N ds σ (Code.ret.wp P Q) w := fun a w' hf hw => wp_ret (h a w' hf hw)
theorem J.n_then (h : J N ds σ K w) : J N ds σ (Exit.then K Q .normal) w := h
theorem J.n_block {id : Nat} (h : J N ds σ (Q .normal) w) : J N ds σ (Exit.inBlock id Q .normal) w := h
theorem J.x_then {id : Nat} (h : J N ds σ (Q (.exit id)) w) : J N ds σ (Exit.then K Q (.exit id)) w := h
theorem J.x_block {id : Nat} (h : J N ds σ (Q .normal) w) : J N ds σ (Exit.inBlock id Q (.exit id)) w := fun a w' hf hw => by
  have := h a w' hf hw
  simpa [Exit.inBlock] using this
theorem J.x_other {id id' : Nat} (hne : Nat.beq id' id = false) (h : J N ds σ (Q (.exit id')) w) : J N ds σ (Exit.inBlock id Q (.exit id')) w := fun a w' hf hw => by
  have := h a w' hf hw
  have hn : id' ≠ id := fun e => by subst e; simp at hne
  simpa [Exit.inBlock, hn] using this
theorem J.r_then (h : J N ds σ (Q .ret) w) : J N ds σ (Exit.then K Q .ret) w := h
theorem J.r_block {id : Nat} (h : J N ds σ (Q .ret) w) : J N ds σ (Exit.inBlock id Q .ret) w := h
theorem J.p_then {ch : List PanicEntry} (h : J N ds σ (Q (.panic ch)) w) : J N ds σ (Exit.then K Q (.panic ch)) w := h
theorem J.p_block {id : Nat} {ch : List PanicEntry} (h : J N ds σ (Q (.panic ch)) w) : J N ds σ (Exit.inBlock id Q (.panic ch)) w := h
theorem J.n_np (h : J N ds σ (Q .normal) w) : J N ds σ (NoPan Q .normal) w := h

theorem J.cond {c : Operand} {x y : Code} {t : Bool} (hc : ev σ c = some (.bool t)) (ht : t = true → J N ds σ (x.wp P Q) w) (hf : t = false → J N ds σ (y.wp P Q) w) :
    J N ds σ ((Code.cond c x y).wp P Q) w := fun a w' hfit hw =>
  wp_cond_split (hfit.ev hc) (fun h => ht h a w' hfit hw) (fun h => hf h a w' hfit hw)
theorem J.cond_dec {c : Operand} {x y : Code} {p : Prop} [Decidable p] (hc : ev σ c = some (.bool (decide p))) (ht : p → J N ds σ (x.wp P Q) w) (hf : ¬ p → J N ds σ (y.wp P Q) w) :
    J N ds σ ((Code.cond c x y).wp P Q) w := J.cond hc (fun h => ht (of_decide_eq_true h)) (fun h => hf (of_decide_eq_false h))
theorem J.cond_true {c : Operand} {x y : Code} (hc : ev σ c = some (.bool true)) (h : J N ds σ (x.wp P Q) w) : J N ds σ ((Code.cond c x y).wp P Q) w :=
  J.cond hc (fun _ => h) (fun e => by cases e)
theorem J.cond_false {c : Operand} {x y : Code} (hc : ev σ c = some (.bool false)) (h : J N ds σ (y.wp P Q) w) : J N ds σ ((Code.cond c x y).wp P Q) w :=
  J.cond hc (fun e => by cases e) (fun _ => h)

/-- Ways meet again: what is known behind c is told by I. -/
theorem J.cut {c : Code} (I : Act → World → Prop) (h1 : J N ds σ (c.wp P (Exit.then I Q)) w) (h2 : ∀ a w', I a w' → K a w') : J N ds σ (c.wp P (Exit.then K Q)) w :=
  fun a w' hf hw => Code.wp_mono (fun e a w h => by cases e <;> first | exact h2 _ _ h | exact h) (h1 a w' hf hw)

/-- What is known at a meeting point: for some i the slots σI i and R i. -/
def At (N : Nat) (ds : List Deferred) {ι : Type} (σI : ι → Env) (R : ι → World → Prop) (a : Act) (w : World) : Prop := ∃ i w0, Fits N ds (σI i) a ∧ Same w0 w ∧ R i w0
theorem J.at {ι : Type} {σI : ι → Env} {R : ι → World → Prop} (i : ι) (hs : Sub σ (σI i)) (hr : R i w) : J N ds σ (At N ds σI R) w :=
  fun _ _ hf hw => ⟨i, w, hf.sub hs, hw, hr⟩
theorem J.cutAt {c : Code} {ι : Type} (σI : ι → Env) (R : ι → World → Prop) (h1 : J N ds σ (c.wp P (Exit.then (At N ds σI R) Q)) w)
    (h2 : ∀ i w', R i w' → J N ds (σI i) K w') : J N ds σ (c.wp P (Exit.then K Q)) w :=
  J.cut _ h1 fun a w' ⟨i, w0, hf, hs, hr⟩ => h2 i w0 hr a w' hf hs

/-- A loop: what is known at its head, for some i, and a measure of i. -/
def Round (N : Nat) (ds : List Deferred) {ι : Type} (σI : ι → Env) (R : ι → World → Prop) (μ : ι → Nat) (m : Nat) (a : Act) (w : World) : Prop := ∃ i w0, Fits N ds (σI i) a ∧ Same w0 w ∧ R i w0 ∧ μ i < m
theorem J.round {ι : Type} {σI : ι → Env} {R : ι → World → Prop} {μ : ι → Nat} {m : Nat} (i : ι) (hs : Sub σ (σI i)) (hr : R i w) (hm : μ i < m) : J N ds σ (Round N ds σI R μ m) w :=
  fun _ _ hf hw => ⟨i, w, hf.sub hs, hw, hr, hm⟩

theorem J.loop {c : Code} {ι : Type} (σI : ι → Env) (R : ι → World → Prop) (μ : ι → Nat) (i0 : ι) (h0 : Sub σ (σI i0)) (r0 : R i0 w)
    (round : ∀ i w, R i w → J N ds (σI i) (c.wp P (Exit.then (Round N ds σI R μ (μ i)) Q)) w) : J N ds σ ((Code.loop c).wp P Q) w := by
  have key : ∀ (b : Frame) (k : List Item) (cs : List Frame) n i w0 a w', μ i = n → R i w0 → Fits N ds (σI i) a → Same w0 w' →
      ∃ e a' w'', Q e a' w'' ∧ Arrives P (lone (b.at a (.code c :: .inLoop c :: k)) cs w') b k cs e a' w'' := by
    intro b k cs n
    induction n using Nat.strongRecOn with
    | _ n ih =>
      intro i w0 a w' hn hr hf hs
      obtain ⟨e, a₁, w₁, hq, harr⟩ := round i w0 hr a w' hf hs b (.inLoop c :: k) cs
      cases e with
      | normal =>
        obtain ⟨i', w2, hf', hs', hr', hlt⟩ := hq
        obtain ⟨e₂, a₂, w₃, hq₂, harr₂⟩ := ih (μ i') (hn ▸ hlt) i' w2 a₁ w₁ rfl hr' hf' hs'
        exact ⟨e₂, a₂, w₃, hq₂, .of_steps (Steps.trans harr (.one step_inLoop)) harr₂⟩
      | exit id => exact ⟨_, a₁, w₁, hq, .pass (x := .inLoop c) rfl (fun _ _ => .inl (by simp)) harr⟩
      | goto l => exact ⟨_, a₁, w₁, hq, .pass (x := .inLoop c) rfl (fun _ _ => .inl (by simp)) harr⟩
      | ret => exact ⟨_, a₁, w₁, hq, .pass (x := .inLoop c) rfl (fun _ _ => .inl (by simp)) harr⟩
      | panic ch => exact ⟨_, a₁, w₁, hq, .pass (x := .inLoop c) rfl (fun _ _ => .inl (by simp)) harr⟩
      | outgrown => exact ⟨_, a₁, w₁, hq, .pass (x := .inLoop c) rfl (fun _ _ => .inl (by simp)) harr⟩
  intro a w' hf hs b k cs
  obtain ⟨e, a', w'', hq, harr⟩ := key b k cs _ i0 w a w' rfl r0 (hf.sub h0) hs
  exact ⟨e, a', w'', hq, .of_steps (.one step_loop) harr⟩
end
end Go.X
