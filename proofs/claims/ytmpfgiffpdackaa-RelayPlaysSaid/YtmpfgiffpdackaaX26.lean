import Derived.Test.YtmpfgiffpdackaaX25
import Derived.Recover
/-
  Panics; deferred calls; recover; interfaces and their contents.
-/
set_option linter.unusedVariables false
set_option linter.unusedSimpArgs false
namespace Go.X
open Go.RowKit
/-- It panics. -/
def Pan (Ψ : List PanicEntry → World → Prop) : Ending → World → Prop := fun e w => ∃ ch, e = .panicked ch ∧ Ψ ch w
theorem C.pan {P f args w} {R R' : List PanicEntry → World → Prop} (h : C P f args w (Pan R)) (hr : ∀ v w, R v w → R' v w) : C P f args w (Pan R') :=
  h.mono fun _ _ ⟨v, he, h⟩ => ⟨v, he, hr _ _ h⟩
/-- An operation panics. -/
def Yp (P : Program) (σ : Env) (op : Op) (ty : TypeId) (w : World) (Ψ : List PanicEntry → World → Prop) : Prop :=
  ∀ (N : Nat) (ds : List Deferred) (a : Act) (w' : World) (dst : Option Tmp) (pos : String) (after : Array Edge) (g : Option (Nat × Bool)) (next : Act → World → Prop) (Q : Exit → Act → World → Prop),
    Fits N ds σ a → Same w w' → (∀ ch w3 w2, Ψ ch w3 → Same w3 w2 → Q (.panic ch) a w2) → Oper.wp P ⟨dst, op, ty, pos, after, g⟩ a w' next Q
section
variable {P : Program} {N : Nat} {ds : List Deferred} {σ : Env} {w : World} {Q : Exit → Act → World → Prop} {K : Act → World → Prop} {ops : Array Oper} {rest : List Oper}
theorem J.pan {op ty pos after Ψ d} (hy : Yp P σ op ty w Ψ) (h : ∀ ch w1, Ψ ch w1 → J N ds σ (Q (.panic ch)) w1) :
    J N ds σ (wpList P ops Q (⟨d, op, ty, pos, after, none⟩ :: rest)) w := fun a w' hf hs => by
  unfold wpList
  rw [if_pos (by simp [Region.wanted])]
  exact .inl (hy N ds a w' _ _ _ _ _ _ hf hs fun ch w3 w2 hp hs2 => h ch w3 hp _ _ hf hs2)
theorem J.pan_g {op ty pos after Ψ d j t b} (hj : (ops[j]?).bind (·.dst) = some t) (hg : σ.get t = some (.bool b)) (hN : Nat.blt t N = true) (hy : Yp P σ op ty w Ψ) (h : ∀ ch w1, Ψ ch w1 → J N ds σ (Q (.panic ch)) w1) :
    J N ds σ (wpList P ops Q (⟨d, op, ty, pos, after, some (j, b)⟩ :: rest)) w := fun a w' hf hs => by
  unfold wpList
  rw [if_pos (by simp [Region.wanted, hf.yielded hj hg hN])]
  exact .inl (hy N ds a w' _ _ _ _ _ _ hf hs fun ch w3 w2 hp hs2 => h ch w3 hp _ _ hf hs2)
theorem Yp.callv {ty f x args tys fst cap vs R} (hc : callable P f = true) (hx : ev σ x = some (.func (.func f) fst cap)) (ha : evs σ args.toList = some vs) (h : C P f (fst.toList ++ vs ++ cap.toList) w (Pan R)) : Yp P σ (.call ⟨.value x, args, tys⟩) ty w R :=
  fun N ds a w' dst pos after g next Q hf hs hk => by
    have hv : fst ++ args.map a.eval ++ cap = (fst.toList ++ vs ++ cap.toList).toArray := by
      rw [← hf.evs ha]
      apply Array.toList_inj.1
      simp
    unfold Oper.wp
    rw [run_call hc rfl (hf.ev hx) w', hv, Oper.upon_enter]
    refine (h w' hs).mono fun e w2 ⟨w3, hs2, v, he, hR⟩ => ?_
    subst he
    exact hk v w3 w2 hR hs2
theorem Yp.call {ty f args tys vs R} (hc : callable P f = true) (ha : evs σ args.toList = some vs) (h : C P f vs w (Pan R)) : Yp P σ (.call ⟨.value (.func f), args, tys⟩) ty w R :=
  Yp.callv hc (show ev σ (.func f) = some (.func (.func f) #[] #[]) from rfl) ha (by simpa using h)
theorem Yp.panic {ty x t v} (hx : ev σ x = some (.iface t v)) : Yp P σ (.panic x) ty w fun ch w1 => ch = [{ v := .iface t v, recovered := false }] ∧ w1 = w :=
  fun N ds a w' dst pos after g next Q hf hs hk => by
    unfold Oper.wp
    rw [show (execOp a.eval ⟨dst, .panic x, ty, pos, after, g⟩).run P w' = .halt (.panic (.iface t v)) w' from by
      show (execOp a.eval ⟨dst, .panic x, ty, pos, after, g⟩).run P w' = _
      simp only [execOp]; rw [Sem.run_bind, hf.ev hx]; rfl]
    rw [Oper.upon_panic]
    exact hk _ _ _ ⟨rfl, rfl⟩ hs
theorem J.fin_p {fn : Func} {R : Ending → World → Prop} {ch} (h : R (.panicked ch) w) : J N [] σ (Fin P fn R (.panic ch)) w := fun a w' hf hs => ⟨hf.defers, w, hs, h⟩
/-! ### Interfaces -/
def notIface : TypeDesc → Bool
  | .interface _ => false
  | _ => true
theorem Yd.mkIface {ty t x v d} (hu : P.underlying t = some d) (hd : notIface d = true) (hx : ev σ x = some v) : Yd P σ (.makeInterface t x) ty (.iface t v) w :=
  yd_v (fun ρ => Instr.makeInterface t (ρ x)) (fun _ _ _ _ _ => rfl) fun N ds a w' hf he => by
    rw [hf.ev hx]
    cases d <;> first | (simp [Instr.makeInterface, run_underlying hu]; done) | (simp [notIface] at hd; done)
theorem guard_iface (op : BinOp) (t tp : TypeId) (x y : Operand) (v : Value) : eqGuard op t x y (.iface tp v) .nilIface = pure () := by
  cases op <;> rfl
theorem Yd.neIface {ty t t' x y ms tp v} (hu : P.underlying t = some (.interface ms)) (hx : ev σ x = some (.iface tp v)) (hy : ev σ y = some .nilIface) : Yd P σ (.binOp .neq t x y t') ty (.bool true) w :=
  yd_bin hx hy (guard_iface _ _ _ _ _ _) fun w' => by
    have h : ∀ d : Nat, (Op.equalIn (d + 1) t (.iface tp v) .nilIface).run P w' = .ok false w' := fun d => by simp [Op.equalIn, run_underlying hu]
    simp [binOp, Op.equal, Op.maxDepth, h 9999]
theorem Yd.neIface0 {ty t t' x ms} (hu : P.underlying t = some (.interface ms)) (hx : ev σ x = some .nilIface) : Yd P σ (.binOp .neq t x (.const .nilIface) t') ty (.bool false) w :=
  yd_bin hx (show ev σ (.const .nilIface) = some .nilIface from rfl) (by simp [eqGuard]) fun w' => by
    have h : ∀ d : Nat, (Op.equalIn (d + 1) t .nilIface .nilIface).run P w' = .ok true w' := fun d => by simp [Op.equalIn, run_underlying hu]
    simp [binOp, Op.equal, Op.maxDepth, h 9999]
theorem guard_fnn (op : BinOp) (t : TypeId) (x y : Operand) (f : Fn) (a b : Array Value) : eqGuard op t x y (.func f a b) .nilFunc = pure () := by
  cases op <;> rfl
theorem guard_fnn0 (op : BinOp) (t : TypeId) (x y : Operand) : eqGuard op t x y .nilFunc .nilFunc = pure () := by
  cases op <;> rfl
theorem Yd.neFn {ty t t' x y f a b p q r} (hu : P.underlying t = some (.func p q r)) (hx : ev σ x = some (.func f a b)) (hy : ev σ y = some .nilFunc) : Yd P σ (.binOp .neq t x y t') ty (.bool true) w :=
  yd_bin hx hy (guard_fnn _ _ _ _ _ _ _) fun w' => by
    have h : ∀ d : Nat, (Op.equalIn (d + 1) t (.func f a b) .nilFunc).run P w' = .ok false w' := fun d => by simp [Op.equalIn, run_underlying hu]
    simp [binOp, Op.equal, Op.maxDepth, h 9999]
theorem Yd.neFn0 {ty t t' x y p q r} (hu : P.underlying t = some (.func p q r)) (hx : ev σ x = some .nilFunc) (hy : ev σ y = some .nilFunc) : Yd P σ (.binOp .neq t x y t') ty (.bool false) w :=
  yd_bin hx hy (guard_fnn0 _ _ _ _) fun w' => by
    have h : ∀ d : Nat, (Op.equalIn (d + 1) t .nilFunc .nilFunc).run P w' = .ok true w' := fun d => by simp [Op.equalIn, run_underlying hu]
    simp [binOp, Op.equal, Op.maxDepth, h 9999]
theorem Yd.assertOk {ty x xt t v d} (hu : P.underlying t = some d) (hd : notIface d = true) (hx : ev σ x = some (.iface t v)) : Yd P σ (.typeAssert x xt t true) ty (.tuple #[v, .bool true]) w :=
  yd_v (fun ρ => Instr.typeAssert (ρ x) xt t true) (fun _ _ _ _ _ => rfl) fun N ds a w' hf he => by
    rw [hf.ev hx]
    cases d <;> first | (simp [Instr.typeAssert, run_underlying hu]; done) | (simp [notIface] at hd; done)
theorem Yd.assertNo {ty x xt t t' v d z sz by'} (hu : P.underlying t = some d) (hd : notIface d = true) (hz : TI P t z sz by') (hx : ev σ x = some (.iface t' v)) (hne : (t' == t) = false) : Yd P σ (.typeAssert x xt t true) ty (.tuple #[z, .bool false]) w :=
  yd_v (fun ρ => Instr.typeAssert (ρ x) xt t true) (fun _ _ _ _ _ => rfl) fun N ds a w' hf he => by
    rw [hf.ev hx]
    obtain ⟨j, hj, hj0, _⟩ := hz.out
    have hne' : t' ≠ t := by simpa using hne
    cases d <;> first | (simp [Instr.typeAssert, run_underlying hu, hne', zeroValue, typeInfo, hj, hj0]; done) | (simp [notIface] at hd; done)
/-! ### Deferred calls -/
theorem callsD_mono {f : FuncId} {args : Array Value} {u : FrameMode} {w : World} {R R' : Ending → FrameMode → World → Prop} (h : CallsD P f args u w R) (hr : ∀ e u' w', R e u' w' → R' e u' w') : CallsD P f args u w R' :=
  fun c cs hc => let ⟨e, u', w', fr, h1, h2, h3, h4⟩ := h c cs hc; ⟨e, u', w', fr, hr _ _ _ h1, h2, h3, h4⟩
/-- A deferred call, in the world w but for draws. -/
def CD (P : Program) (f : FuncId) (args : List Value) (u : FrameMode) (w : World) (R : Ending → FrameMode → World → Prop) : Prop :=
  ∀ w', Same w w' → CallsD P f args.toArray u w' fun e u' w2 => ∃ w3, Same w3 w2 ∧ R e u' w3
theorem CD.mono {f : FuncId} {args : List Value} {u : FrameMode} {w : World} {R R' : Ending → FrameMode → World → Prop} (h : CD P f args u w R) (hr : ∀ e u' w', R e u' w' → R' e u' w') : CD P f args u w R' :=
  fun w' hs => callsD_mono (h w' hs) fun e u' w2 ⟨w3, h1, h2⟩ => ⟨w3, h1, hr _ _ _ h2⟩
/-- The end of a function with deferred calls. -/
def FinD (P : Program) (fn : Func) (R : Ending → World → Prop) : Exit → Act → World → Prop := bodyPostD P fn fun e w2 => ∃ w3, Same w3 w2 ∧ R e w3
theorem C.enterD {f : FuncId} {fn : Func} {c : Code} {args : List Value} {R : Ending → World → Prop}
    (hf : P.funcs[f]? = some fn) (hb : fn.body = some c) (hn : fn.ntmps = N) (hN : Nat.ble args.length N = true)
    (h : J N [] (enum 0 args) (c.wp P (FinD P fn R)) w) : C P f args w R := by
  intro w' hs
  refine calls_of_wp_defers hf hb ?_
  rw [hn]
  exact h _ _ (enter_fits hN) hs
theorem J.defer {pos after ty x args tys fst cap f vs} (hx : ev σ x = some (.func (.func f) fst cap)) (ha : evs σ args.toList = some vs) (h : J N (⟨.fn (.func f) cap, fst ++ vs.toArray⟩ :: ds) σ (wpList P ops Q rest) w) :
    J N ds σ (wpList P ops Q (⟨none, .defer ⟨.value x, args, tys⟩, ty, pos, after, none⟩ :: rest)) w := fun a w' hf hs => by
  unfold wpList
  rw [if_pos (by simp [Region.wanted])]
  refine .inl ?_
  have hv : args.map a.eval = vs.toArray := by rw [← hf.evs ha]; apply Array.toList_inj.1; simp
  unfold Oper.wp
  rw [show (execOp a.eval ⟨none, .defer ⟨.value x, args, tys⟩, ty, pos, after, none⟩).run P w' = .ok (.defer ⟨.fn (.func f) cap, fst ++ vs.toArray⟩) w' from by
    simp only [execOp, resolve, hf.ev hx, Deferred.ofValue, hv]; rfl]
  rw [Oper.upon_defer]
  exact h _ _ (Fits.none (a := { a with defers := ⟨.fn (.func f) cap, fst ++ vs.toArray⟩ :: a.defers }) ⟨hf.size, by show _ :: a.defers = _; rw [hf.defers], hf.vals⟩ undef) hs
/-- What a function with its result in the cell b comes to, its frame being so. -/
def Ends (b : Nat) (R : Ending → World → Prop) (u : FrameMode) (w : World) : Prop :=
  match u with
  | .returning => ∃ v, w.cell? ⟨b, 0, none⟩ = some v ∧ R (.returned v) w
  | .panicking ch => R (.panicked ch) w
  | .run => False
def After (e : Ending) (u : FrameMode) : FrameMode :=
  match e with
  | .returned _ => settle u
  | .panicked ch => raised u ch
  | .outgrown => .run
theorem leaves_one {fn : Func} {tmps : Array Value} {R : Ending → World → Prop} {f : FuncId} {cap args : Array Value} {u : FrameMode} {b t : Nat} {ty : TypeId} (hr : fn.results = #[.cell t ty]) (ht : plain P ty = true) (hg : tmps.getD t undef = .pointer (some ⟨b, 0, none⟩))
    (hc : callable P f = true) (hu : u ≠ .run) (h : CD P f (args.toList ++ cap.toList) u w fun e u' w' => Ends b R (After e u') w') (w' : World) (hs : Same w w') :
    Leaves P fn tmps (fun e w2 => ∃ w3, Same w3 w2 ∧ R e w3) [⟨.fn (.func f) cap, args⟩] u w' := by
  have nil_ : ∀ (u' : FrameMode) (w2 w3 : World), Same w3 w2 → Ends b R u' w3 → Leaves P fn tmps (fun e w2 => ∃ w3, Same w3 w2 ∧ R e w3) [] u' w2 := by
    intro u' w2 w3 h3 hE
    cases u' with
    | run => exact hE.elim
    | returning =>
      obtain ⟨v, h1, h2⟩ := hE
      refine ⟨v, ?_, w3, h3, h2⟩
      rw [results_cell hr, hg]
      simp [asAddr, Result.andThen, loadVar, run_isAgg ht, load, Sem.run, h3.ext.cell h1]
    | panicking ch => exact ⟨w3, h3, hE⟩
  refine ⟨hu, .func f, cap, f, args ++ cap, rfl, ?_, ?_⟩
  · simp only [invoke]; exact run_callFunc hc _ _
  · have h' := h w' hs
    rw [show (args.toList ++ cap.toList).toArray = args ++ cap by apply Array.toList_inj.1; simp] at h'
    refine callsD_mono h' ?_
    rintro e u' w2 ⟨w3, h3, hE⟩
    cases e with
    | returned v => exact nil_ _ _ _ h3 hE
    | panicked ch => exact nil_ _ _ _ h3 hE
    | outgrown => exact hE.elim
theorem J.leave_ret {fn : Func} {R : Ending → World → Prop} {f : FuncId} {cap args : Array Value} {b t : Nat} {ty : TypeId} (hr : fn.results = #[.cell t ty]) (ht : plain P ty = true) (hg : σ.get t = some (.pointer (some ⟨b, 0, none⟩)))
    (hc : callable P f = true) (h : CD P f (args.toList ++ cap.toList) .returning w fun e u' w' => Ends b R (After e u') w') : J N [⟨.fn (.func f) cap, args⟩] σ (FinD P fn R .ret) w := fun a w' hf hs => by
  show Leaves P fn a.tmps _ a.defers .returning w'
  rw [hf.defers]; exact leaves_one hr ht (hf.vals _ _ hg) hc (by simp) h w' hs
theorem J.leave_end {fn : Func} {R : Ending → World → Prop} {f : FuncId} {cap args : Array Value} {b t : Nat} {ty : TypeId} (hr : fn.results = #[.cell t ty]) (ht : plain P ty = true) (hg : σ.get t = some (.pointer (some ⟨b, 0, none⟩)))
    (hc : callable P f = true) (h : CD P f (args.toList ++ cap.toList) .returning w fun e u' w' => Ends b R (After e u') w') : J N [⟨.fn (.func f) cap, args⟩] σ (FinD P fn R .normal) w := J.leave_ret hr ht hg hc h
theorem J.leave_p {fn : Func} {R : Ending → World → Prop} {f : FuncId} {cap args : Array Value} {b t : Nat} {ty : TypeId} {ch : List PanicEntry} (hr : fn.results = #[.cell t ty]) (ht : plain P ty = true) (hg : σ.get t = some (.pointer (some ⟨b, 0, none⟩)))
    (hc : callable P f = true) (h : CD P f (args.toList ++ cap.toList) (.panicking ch) w fun e u' w' => Ends b R (After e u') w') : J N [⟨.fn (.func f) cap, args⟩] σ (FinD P fn R (.panic ch)) w := fun a w' hf hs => by
  show Leaves P fn a.tmps _ a.defers (.panicking ch) w'
  rw [hf.defers]; exact leaves_one hr ht (hf.vals _ _ hg) hc (by simp) h w' hs
/-! ### Recover -/
def recd : FrameMode → Option (Value × FrameMode)
  | .panicking ({ v, recovered := false, goexit := false } :: older) => some (v, .panicking ({ v, recovered := true } :: older))
  | _ => none
theorem recoverD_of (c : Frame) (cs : List Frame) : recoverD (c :: cs) = (recd c.mode).map fun p => (p.1, { c with mode := p.2 } :: cs) := by
  cases hm : c.mode with
  | run => simp [recoverD, recd, hm]
  | returning => simp [recoverD, recd, hm]
  | panicking ch =>
    cases ch with
    | nil => simp [recoverD, recd, hm]
    | cons p older =>
      obtain ⟨v, r, g⟩ := p
      cases r <;> cases g <;> simp [recoverD, recd, hm]
theorem CD.enter_rec {f : FuncId} {fn : Func} {args : List Value} {u u' : FrameMode} {rv : Value} {rest : Code} {t4 t1 id : Nat} {ty ty2 : TypeId} {p1 p2 : String} {a1 a2 : Array Edge} {R : Ending → FrameMode → World → Prop}
    (hf : P.funcs[f]? = some fn) (hb : fn.body = some (.seq (.region id #[⟨some t4, .call ⟨.builtin .recover, #[], #[]⟩, ty, p1, a1, none⟩, ⟨some t1, .assign (.tmp t4), ty2, p2, a2, none⟩] false) rest))
    (hn : fn.ntmps = N) (hN : Nat.ble args.length N = true) (hr : recd u = some (rv, u') ∨ (recd u = none ∧ rv = .nilIface ∧ u' = u)) (h4 : Nat.blt t4 N = true) (h1 : Nat.blt t1 N = true)
    (h : J N [] ((t1, rv) :: (t4, rv) :: enum 0 args) (rest.wp P (Fin P fn fun e => R e u')) w) : CD P f args u w R := by
  intro w' hs
  refine callsD_of_wpS hf hb ?_
  intro c₀ cs hc
  refine wpS_seq (wpS_region ?_)
  rw [hn]
  have hf0 := enter_fits (N := N) hN
  have hf1 := hf0.put t4 h4 rv
  have hf2 := hf1.put t1 h1 rv
  have hlast := wp_mono (h _ _ hf2 hs)
    (Q' := fun e a' w2 => bodyPostS P fn c₀ cs (fun e u' w2 => ∃ w3, Same w3 w2 ∧ R e u' w3) e a' ({ c₀ with mode := u' } :: cs) w2) (fun e a' w2 hq => by
      cases e with
      | normal => obtain ⟨hd, v, hv, w3, h3, hR⟩ := hq; exact ⟨hd, u', rfl, v, hv, w3, h3, hR⟩
      | ret => obtain ⟨hd, v, hv, w3, h3, hR⟩ := hq; exact ⟨hd, u', rfl, v, hv, w3, h3, hR⟩
      | panic ch => obtain ⟨hd, w3, h3, hR⟩ := hq; exact ⟨hd, u', rfl, w3, h3, hR⟩
      | outgrown => obtain ⟨w3, h3, hR⟩ := hq; exact ⟨u', w3, h3, hR⟩
      | exit id => exact hq.elim
      | goto l => exact hq.elim)
  have hcs : (match recoverD (c₀ :: cs) with | some (v, cs') => v = rv ∧ cs' = { c₀ with mode := u' } :: cs | none => rv = .nilIface ∧ c₀ :: cs = { c₀ with mode := u' } :: cs) := by
    rw [recoverD_of, hc]
    rcases hr with hr | ⟨hr, rfl, rfl⟩
    · rw [hr]; exact ⟨rfl, rfl⟩
    · rw [hr]; exact ⟨rfl, by subst hc; rfl⟩
  have hassign : ∀ (a : Act) (w2 : World), (execOp a.eval ⟨some t1, .assign (.tmp t4), ty2, p2, a2, none⟩).run P w2 = .ok (.value (a.tmps.getD t4 undef)) w2 := fun a w2 => by simp [execOp, Act.eval]
  show wpOpsS P _ _ [0, 1] _ (c₀ :: cs) w'
  have hrec : ∀ (a : Act) (w2 : World), (execOp a.eval ⟨some t4, .call ⟨.builtin .recover, #[], #[]⟩, ty, p1, a1, none⟩).run P w2 = .ok .recover w2 := fun a w2 => by
    simp [execOp, resolve, invoke, builtin]
  have h4' : (({ tmps := args.toArray ++ Array.replicate (N - args.toArray.size) undef, defers := [] } : Act).put (some t4) rv).tmps.getD t4 undef = rv := hf1.vals t4 rv (by simp [Env.get])
  unfold wpOpsS
  simp only [List.getElem?_toArray, List.getElem?_cons_zero]
  rw [if_pos (by simp [Region.wanted])]
  rw [hrec]
  simp only
  revert hcs
  cases recoverD (c₀ :: cs) with
  | none =>
    rintro ⟨rfl, hcs⟩
    rw [hcs]
    simp only
    unfold wpOpsS
    simp only [List.getElem?_toArray, List.getElem?_cons_succ, List.getElem?_cons_zero]
    rw [if_pos (by simp [Region.wanted]), hassign, h4']
    simp only [Oper.upon]
    unfold wpOpsS
    exact wpS_of_wp hlast
  | some p =>
    obtain ⟨v, cs'⟩ := p
    rintro ⟨rfl, rfl⟩
    simp only
    unfold wpOpsS
    simp only [List.getElem?_toArray, List.getElem?_cons_succ, List.getElem?_cons_zero]
    rw [if_pos (by simp [Region.wanted]), hassign, h4']
    simp only [Oper.upon]
    unfold wpOpsS
    exact wpS_of_wp hlast
end
end Go.X
