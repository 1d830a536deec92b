import Derived.Test.YtfefphcmfhabiaaQ2
import Derived.Test.YtfefphcmfhabiaaX29
/-
  Two stores side by side: the program's and the document's. No program here.
-/
set_option linter.unusedVariables false
namespace Go.X
theorem Er.tnk {α : Type} {K : Shp α} {w w' : World} {s : Value} {es : List α} {rs : List (Option Nat)} (h : Er K w s es) (hg : Tn rs w w') (ha : ApL s.ownBlock rs) : Er K w' s es := by
  obtain ⟨p, c, h1, h2, h3, h4⟩ := h
  refine ⟨p, c, h1, h2, h3, fun i v hv => ?_⟩
  obtain ⟨b, o, hp, hc⟩ := h4 i v hv
  refine ⟨b, o, hp, ?_⟩
  have hlt : b < w.heap.size := by
    rcases Nat.lt_or_ge b w.heap.size with h' | h'
    · exact h'
    · simp [World.cell?, Array.getElem?_eq_none h'] at hc
  unfold World.cell? at *
  simp only at *
  rw [hg.block b hlt (fun r hr e => ha r hr b (by subst hp; subst h1; rfl) e)]; exact hc
theorem slE_own {α : Type} (K : Shp α) (s : Value) (l h : Nat) : (slE K s l h).ownBlock = s.ownBlock := by
  cases s with
  | slice p n c =>
    show (sliced p l h c K.sz).ownBlock = _
    rw [slicedN]
    cases p with
    | none => split <;> rfl
    | some a =>
      split
      · rfl
      · simp only [Option.map_some, Value.ownBlock, Addr.add]; split <;> rfl
  | _ => rfl
/-! ### The store, told by where it lies -/
def KRk (K : Nat → Prop) (w : World) (b : Nat) (s : Option Nat) (x : Ent) (y : Key) : Prop := KR w b s 0 x y ∧ Kf K x.2.2.ownBlock
def SkK (TS ES : Nat) (K : Nat → Prop) (w : World) (b : Nat) (n : Int) (L : List Key) : Prop :=
  ∃ s es, K b ∧ Cel w b TS [(0, 1, [I n]), (1, 1, [s])] ∧ Es entS 0 ES w s es ∧ Kf K s.ownBlock ∧ Ap (some b) s.ownBlock ∧ All2 (KRk K w b s.ownBlock) es L
/-- Only what K tells turned. -/
def ThK (K : Nat → Prop) (w w' : World) : Prop := ∃ rs, (∀ q ∈ rs, Kf K q) ∧ Tn rs w w'
theorem ap_out {K : Nat → Prop} {a q : Option Nat} (ha : Kf K a) (hq : Out K q) : Ap a q := fun k e1 e2 => hq k e2 (ha k e1)
section
variable {TS ES : Nat} {K : Nat → Prop} {w w' : World} {b : Nat} {n : Int} {L : List Key}
theorem KR.zero {base : Nat} {s : Option Nat} {x : Ent} {y : Key} (h : KR w b s base x y) : KR w b s 0 x y := ⟨h.c, h.m, h.bs, h.live, fun _ _ => Nat.zero_le _, h.apb, h.aps⟩
theorem Sk.k {base : Nat} (h : Sk TS ES base w b n L) : SkK TS ES (Ge base) w b n L := by
  obtain ⟨s, es, h1, h2, h3, h4, h5, h6⟩ := h
  exact ⟨s, es, h1, h2, h3, h4, h5, h6.mono fun a b h => ⟨h.zero, h.fr⟩⟩
theorem SkK.ext (h : SkK TS ES K w b n L) (he : Ext w w') : SkK TS ES K w' b n L := by
  obtain ⟨s, es, h1, h2, h3, h4, h5, h6⟩ := h
  exact ⟨s, es, h1, h2.ext he, h3.ext he, h4, h5, h6.mono fun a b h => ⟨h.1.ext he, h.2⟩⟩
theorem SkK.out {rs : List (Option Nat)} (h : SkK TS ES K w b n L) (ht : Tn rs w w') (hr : OutL K rs) : SkK TS ES K w' b n L := by
  obtain ⟨s, es, h1, h2, h3, h4, h5, h6⟩ := h
  exact ⟨s, es, h1, h2.tnk ht (fun q hq => ap_out (a := some b) (fun k e => by cases e; exact h1) (hr q hq)), h3.tnk ht (fun q hq => ap_out h4 (hr q hq)), h4, h5,
    h6.mono fun a b h => ⟨⟨h.1.c, h.1.m, Rd.tnk h.1.bs ht (fun q hq => ap_out h.2 (hr q hq)), h.1.live.ext ht.size, h.1.fr, h.1.apb, h.1.aps⟩, h.2⟩⟩
theorem SkK.shrink (h : SkK TS ES K w b n L) (m : Nat) : SkK TS ES (fun k => (K k ∧ k < w.heap.size) ∨ m ≤ k) w b n L := by
  obtain ⟨s, es, h1, h2, h3, h4, h5, h6⟩ := h
  exact ⟨s, es, .inl ⟨h1, Cel.lt h2⟩, h2, h3, fun k e => .inl ⟨h4 k e, Es.live h3 k e⟩, h5, h6.mono fun a b h => ⟨h.1, fun k e => .inl ⟨h.2 k e, h.1.live k e⟩⟩⟩
theorem skk_one {s : Option Nat} {es : List Ent} (h : All2 (KRk K w b s) es L) : ∀ x ∈ es, x.2.2.oneCell' = true := fun x hx => by
  obtain ⟨y, _, hy⟩ := h.mem x hx; exact Rd.one hy.1.bs
theorem ThK.two {s : Option Nat} (hb : K b) (hs : Kf K s) (ht : Tn [some b, s] w w') : ThK K w w' := ⟨_, fun q hq => by
  simp only [List.mem_cons, List.mem_nil_iff, or_false] at hq
  rcases hq with rfl | rfl
  · exact fun k e => by cases e; exact hb
  · exact hs, ht⟩
theorem Ext.thk (h : Ext w w') : ThK K w w' := ⟨[], (fun _ h => by cases h), h.tn _⟩
theorem ThK.size (h : ThK K w w') : w.heap.size ≤ w'.heap.size := by obtain ⟨rs, _, h2⟩ := h; exact h2.size
theorem KRk.tnk {s s' : Option Nat} {x : Ent} {y : Key} (h : KRk K w b s x y) (hs : SF w s s') (he : Tn [some b, s] w w') : KRk K w' b s' x y := ⟨h.1.tnk hs he, h.2⟩
end
/-! ### Side by side -/
def KA (w0 : World) (x : Ent) (y : Key) : Prop := x.1 = y.1 ∧ x.2.1 = y.2.1 ∧ ∀ W, Ext w0 W → Bs W x.2.2 y.2.2
structure TwoK (TS ES TSk : Nat) (xs : List (Option Nat)) (K : Nat → Prop) (w0 w : World) (b : Nat) (n : Int) (L : List Key) (b2 : Nat) (s2 : Value) (es2 : List Ent) (L2 : List Key) : Prop where
  sk : SkK TS ES K w b n L
  hb : Hb K w
  k0 : ∀ k, K k → w0.heap.size ≤ k
  c2 : Cel w b2 TSk [(0, 1, [I n]), (1, 1, [s2])]
  r2 : Er entS w s2 es2
  l2 : Live w s2.ownBlock
  ob : Out K (some b2)
  os : Out K s2.ownBlock
  fb : w0.heap.size ≤ b2
  ap : Ap (some b2) s2.ownBlock
  a2 : All2 (KA w0) es2 L2
  e : Ext w0 w
  ox : ∀ q ∈ xs, Out K q ∧ Ap q (some b2) ∧ Live w q
def Two (TS ES TSk : Nat) (xs : List (Option Nat)) (w0 w : World) (b : Nat) (n : Int) (L : List Key) (b2 : Nat) (L2 : List Key) : Prop := ∃ K s2 es2, TwoK TS ES TSk xs K w0 w b n L b2 s2 es2 L2
/-- What xs tells stands. -/
def Tx (n0 : Nat) (xs : List (Option Nat)) (w w' : World) : Prop := ∃ rs, Tn rs w w' ∧ (∀ q ∈ xs, ApL q rs) ∧ ∀ q ∈ rs, Fr n0 q
theorem Ext.tx {n0 : Nat} {xs : List (Option Nat)} {w w' : World} (h : Ext w w') : Tx n0 xs w w' := ⟨[], h.tn _, (fun _ _ _ h => by cases h), fun _ h => by cases h⟩
theorem Cel.tx {n0 : Nat} {xs : List (Option Nat)} {w w' : World} {c T S} (h : Cel w c T S) (ht : Tx n0 xs w w') (hc : some c ∈ xs) : Cel w' c T S := by
  obtain ⟨rs, h1, h2, _⟩ := ht; exact h.tnk h1 (h2 _ hc)
theorem Tx.trans {n0 : Nat} {xs : List (Option Nat)} {w w1 w2 : World} (h : Tx n0 xs w w1) (k : Tx n0 xs w1 w2) : Tx n0 xs w w2 := by
  obtain ⟨rs, h1, h2, h3⟩ := h
  obtain ⟨qs, k1, k2, k3⟩ := k
  exact ⟨rs ++ qs, (h1.mono fun r hr => by simp [hr]).trans (k1.mono fun r hr => by simp [hr]), fun q hq r hr => (List.mem_append.1 hr).elim (h2 q hq r) (k2 q hq r), fun q hq => (List.mem_append.1 hq).elim (h3 q) (k3 q)⟩
theorem Tx.less {n0 : Nat} {q : Option Nat} {xs : List (Option Nat)} {w w' : World} (h : Tx n0 (q :: xs) w w') : Tx n0 xs w w' := by
  obtain ⟨rs, h1, h2, h3⟩ := h; exact ⟨rs, h1, fun p hp => h2 p (List.mem_cons_of_mem _ hp), h3⟩
instance (n0 : Nat) (xs : List (Option Nat)) : RelOK (Tx n0 xs) := ⟨fun w => (Ext.refl w).tx, fun h k => h.trans k, fun h => h.tx⟩
section
variable {TS ES TSk : Nat} {xs : List (Option Nat)} {K : Nat → Prop} {w0 w w' : World} {b b2 : Nat} {n : Int} {L L' L2 L2' : List Key} {s2 s3 : Value} {es2 es3 : List Ent}
theorem TwoK.ext (h : TwoK TS ES TSk xs K w0 w b n L b2 s2 es2 L2) (he : Ext w w') : TwoK TS ES TSk xs K w0 w' b n L b2 s2 es2 L2 :=
  ⟨h.sk.ext he, h.hb.le he.size, h.k0, h.c2.ext he, h.r2.ext he, h.l2.ext he.size, h.ob, h.os, h.fb, h.ap, h.a2, h.e.trans he, fun q hq => ⟨(h.ox q hq).1, (h.ox q hq).2.1, (h.ox q hq).2.2.ext he.size⟩⟩
theorem Two.ext (h : Two TS ES TSk xs w0 w b n L b2 L2) (he : Ext w w') : Two TS ES TSk xs w0 w' b n L b2 L2 := by
  obtain ⟨K, s2, es2, h⟩ := h; exact ⟨K, s2, es2, h.ext he⟩
theorem Two.e (h : Two TS ES TSk xs w0 w b n L b2 L2) : Ext w0 w := by obtain ⟨K, s2, es2, h⟩ := h; exact TwoK.e h
/-- The program's store has turned. -/
theorem TwoK.impl (h : TwoK TS ES TSk xs K w0 w b n L b2 s2 es2 L2) (hs : SkK TS ES K w' b n L') (ht : ThK K w w') : TwoK TS ES TSk xs K w0 w' b n L' b2 s2 es2 L2 ∧ Tx w0.heap.size xs w w' := by
  obtain ⟨rs, h1, h2⟩ := ht
  have hx : ∀ {q}, Out K q → ApL q rs := fun {q} hq r hr => (ap_out (h1 r hr) hq).symm
  exact ⟨⟨hs, h.hb.le h2.size, h.k0, h.c2.tnk h2 (hx h.ob), h.r2.tnk h2 (hx h.os), h.l2.ext h2.size, h.ob, h.os, h.fb, h.ap, h.a2, Ext.tnk h.e (fun q hq k e => h.k0 k (h1 q hq k e)) h2, fun q hq => ⟨(h.ox q hq).1, (h.ox q hq).2.1, (h.ox q hq).2.2.ext h2.size⟩⟩, ⟨rs, h2, (fun q hq => hx (h.ox q hq).1), fun q hq k e => h.k0 k (h1 q hq k e)⟩⟩
/-- The document's store has turned. -/
theorem TwoK.ref (h : TwoK TS ES TSk xs K w0 w b n L b2 s2 es2 L2) (ht : Tn [some b2] w w') (hc : Cel w' b2 TSk [(0, 1, [I n]), (1, 1, [s3])]) (hr : Er entS w' s3 es3) (hl : Live w' s3.ownBlock) (hf : Fr w.heap.size s3.ownBlock) (ha : All2 (KA w0) es3 L2') : Two TS ES TSk xs w0 w' b n L b2 L2' ∧ Tx w0.heap.size xs w w' := by
  have hlt := Cel.lt h.c2
  refine ⟨⟨fun k => (K k ∧ k < w.heap.size) ∨ w'.heap.size ≤ k, s3, es3, (h.sk.shrink _).out ht (OutL.one fun k e hk => ?_), fun k hk => .inr hk, fun k hk => ?_, hc, hr, hl, fun k e hk => ?_, fun k e hk => ?_, h.fb, fun k e1 e2 => ?_, ha, Ext.tnk h.e (fun q hq k e => ?_) ht, fun q hq => ⟨fun k e hk => ?_, (h.ox q hq).2.1, (h.ox q hq).2.2.ext ht.size⟩⟩, ⟨_, ht, (fun q hq => ApL.one (h.ox q hq).2.1), fun q hq k e => ?_⟩⟩
  · cases e
    rcases hk with hk | hk
    · exact h.ob _ rfl hk.1
    · have := ht.size; omega
  · rcases hk with hk | hk
    · exact h.k0 k hk.1
    · have := h.e.size; have := ht.size; omega
  · cases e
    rcases hk with hk | hk
    · exact h.ob _ rfl hk.1
    · have := ht.size; omega
  · have h9 := hf k e
    have h8 := hl k e
    rcases hk with hk | hk
    · omega
    · omega
  · cases e1
    have := hf _ e2; omega
  · rw [List.mem_singleton] at hq
    subst hq; cases e; exact h.fb
  · have h8 := (h.ox q hq).2.2 k e
    rcases hk with hk | hk
    · exact (h.ox q hq).1 k e hk.1
    · have := ht.size; omega
  · rw [List.mem_singleton] at hq
    subst hq; cases e; exact h.fb
/-- What is new may be told to stand. -/
theorem Two.more {q : Option Nat} (h : Two TS ES TSk xs w0 w b n L b2 L2) (he : Ext w w') (hf : Fr w.heap.size q) (hl : Live w' q) : Two TS ES TSk (q :: xs) w0 w' b n L b2 L2 := by
  obtain ⟨K, s2, es2, h⟩ := h
  have g := h.ext he
  have hlt := Cel.lt h.c2
  refine ⟨fun k => (K k ∧ k < w.heap.size) ∨ w'.heap.size ≤ k, s2, es2, (h.sk.shrink _).ext he, fun k hk => .inr hk, fun k hk => ?_, g.c2, g.r2, g.l2, fun k e hk => ?_, fun k e hk => ?_, h.fb, h.ap, h.a2, g.e, fun p hp => ?_⟩
  · rcases hk with hk | hk
    · exact h.k0 k hk.1
    · have := h.e.size; have := he.size; omega
  · cases e
    rcases hk with hk | hk
    · exact h.ob _ rfl hk.1
    · have := he.size; omega
  · rcases hk with hk | hk
    · exact h.os k e hk.1
    · have := h.l2 k e; have := he.size; omega
  · rcases List.mem_cons.1 hp with rfl | hp
    · refine ⟨fun k e hk => ?_, fun k e1 e2 => ?_, hl⟩
      · have h9 := hf k e
        have h8 := hl k e
        rcases hk with hk | hk
        · omega
        · omega
      · have h9 := hf k e1; cases e2; omega
    · refine ⟨fun k e hk => ?_, (h.ox p hp).2.1, (h.ox p hp).2.2.ext he.size⟩
      have h8 := (h.ox p hp).2.2 k e
      rcases hk with hk | hk
      · exact (h.ox p hp).1 k e hk.1
      · have := he.size; omega
theorem Two.less {q : Option Nat} (h : Two TS ES TSk (q :: xs) w0 w b n L b2 L2) : Two TS ES TSk xs w0 w b n L b2 L2 := by
  obtain ⟨K, s2, es2, h⟩ := h
  exact ⟨K, s2, es2, h.sk, h.hb, h.k0, h.c2, h.r2, h.l2, h.ob, h.os, h.fb, h.ap, h.a2, TwoK.e h, fun p hp => h.ox p (List.mem_cons_of_mem _ hp)⟩
/-- Another store of the program's takes its place. -/
theorem Two.swap {bs base : Nat} (h : Two TS ES TSk xs w0 w b n L b2 L2) (hs : Sk TS ES base w' bs n L') (he : Ext w w') (hb : w.heap.size ≤ base) (hb2 : base ≤ w'.heap.size) : Two TS ES TSk xs w0 w' bs n L' b2 L2 := by
  obtain ⟨K, s2, es2, h⟩ := h
  have g := h.ext he
  have hlt := Cel.lt h.c2
  have h0 := h.e.size
  exact ⟨Ge base, s2, es2, hs.k, Hb.ge hb2, fun k hk => by unfold Ge at hk; omega, g.c2, g.r2, g.l2, fun k e hk => by cases e; unfold Ge at hk; omega, fun k e hk => by have := h.l2 k e; unfold Ge at hk; omega, h.fb, h.ap, h.a2, g.e, fun q hq => ⟨fun k e hk => by have := (h.ox q hq).2.2 k e; unfold Ge at hk; omega, (h.ox q hq).2.1, (h.ox q hq).2.2.ext he.size⟩⟩
end
/-! ### The steps -/
def tkV (L : List Key) (i j : Int) : Int × List UInt8 × List Key :=
  if idxI (eqK i j) L ≥ 0 then (0, (L.getD (idxI (eqK i j) L).toNat kD).2.2, L.take (idxI (eqK i j) L).toNat ++ L.drop ((idxI (eqK i j) L).toNat + 1)) else (7, [], L)
theorem idxI_lt {α : Type} {p : α → Bool} {es : List α} : idxI p es < es.length ∧ -1 ≤ idxI p es := by
  unfold idxI
  cases h : es.findIdx? p with
  | none => exact ⟨by simp only; omega, by simp only; omega⟩
  | some i =>
    have := (List.findIdx?_eq_some_iff_getElem.1 h).1
    exact ⟨by simp only; omega, by simp only; omega⟩
def flV (L : List Key) (i : Int) : List Key := L.filter fun x => !ltK i x
def stL (n : Int) (L : List Key) (x : Int × Int × Int × Value) (k : List UInt8) : List Key :=
  if x.1 = 1 then (putV n L x.2.1 x.2.2.1 k).2.2 else if x.1 = 2 then (tkV L x.2.1 x.2.2.1).2.2 else if x.1 = 3 then flV L x.2.1 else L
theorem tkV_KOK {L : List Key} {i j : Int} (h : KOK L) : KOK (tkV L i j).2.2 := by
  unfold tkV
  split
  · exact (h.take _).app (h.drop _)
  · exact h
theorem tkV_len {L : List Key} {i j : Int} : (tkV L i j).2.2.length ≤ L.length := by
  unfold tkV
  split
  · simp only [List.length_append, List.length_take, List.length_drop]; omega
  · exact Nat.le_refl _
theorem stL_ok {n : Int} {L : List Key} {x : Int × Int × Int × Value} {k : List UInt8} (hn : 1 ≤ n) (hK : KOK L) (hl : (L.length : Int) ≤ n) : KOK (stL n L x k) ∧ ((stL n L x k).length : Int) ≤ n := by
  unfold stL
  split
  · exact ⟨putV_KOK hK, putV_len hn hl⟩
  · split
    · exact ⟨tkV_KOK hK, by have := tkV_len (L := L) (i := x.2.1) (j := x.2.2.1); omega⟩
    · split
      · exact ⟨hK.filter _, by have := List.length_filter_le (fun y => !ltK x.2.1 y) L; unfold flV; omega⟩
      · exact ⟨hK, hl⟩
section
variable {P : Program} {σ : Env} {w : World} {α : Type} {K : Shp α}
/-- An empty row of structs. -/
theorem Ye.litE0 {ty t e z by' base} (hu : P.underlying t = some (.slice e)) (hz : TI P e z K.sz by') (hbase : base ≤ w.heap.size) :
    Ye P σ (.buildSlice t 0 #[]) ty w fun v w1 => Es K base e w1 v [] ∧ Ext w w1 := fun N ds a w' dst pos after g next Q hf hs hk => by
  obtain ⟨j, hj, hj0, hj1, hj2⟩ := hz.out
  have hrun : (Instr.buildSlice t 0 #[]).run P w' = .ok (.slice (some ⟨w'.heap.size, 0, none⟩) 0 0) (w'.alloc (.cells #[] e)) := by
    have hr0 : Array.map (fun x : Nat => (default : Value)) (Array.range 0) = #[] := by simp
    simp [Instr.buildSlice, run_underlying hu, sizeOf, typeInfo, hj, newRow, Instr.fill, newObj, Sem.run]
    rw [hr0]
  unfold Oper.wp
  have : (execOp a.eval ⟨dst, .buildSlice t 0 #[], ty, pos, after, g⟩).run P w' = .ok (.value (.slice (some ⟨w'.heap.size, 0, none⟩) 0 0)) (w'.alloc (.cells #[] e)) := by
    simp only [execOp]
    have e0 : (Array.map (fun x : Nat × Operand => (x.1, a.eval x.2)) #[]) = #[] := by simp
    rw [e0, Sem.run_bind, hrun]; rfl
  rw [this]
  refine hk _ _ _ ⟨?_, hs.ext.trans (ext_grown (World.grownBy_alloc w' _ none))⟩ (Same.refl _)
  have := World.ownsRow_lit (base := base) (e := e) (size := K.sz) w' #[] 0 (by rw [hs.heap]; exact hbase) (by unfold maxLen; omega) (by simp)
  unfold Es
  rw [hs.heap] at this ⊢
  simpa using this
end
section
variable {P : Program} {σ : Env} {w : World} {α : Type} {K : Shp α} {es : List α}
theorem Yd.slE_L {ty x t e lo s kl l z by'} (hu : P.underlying t = some (.slice e)) (hz : TI P e z K.sz by') (hx : ev σ x = some s) (hlo : ev σ lo = some (.int kl l)) (hr : Er K w s es) (hb : 0 ≤ l ∧ l ≤ es.length) : Yd P σ (.slice t x (some lo) none none) ty (slE K s l.toNat es.length) w := by
  obtain ⟨p, c, rfl, _⟩ := hr; exact Yd.slE_l hu hz hx hlo hb
theorem Yd.slE_H {ty x t e hi s kl l z by'} (hu : P.underlying t = some (.slice e)) (hz : TI P e z K.sz by') (hx : ev σ x = some s) (hhi : ev σ hi = some (.int kl l)) (hr : Er K w s es) (hb : 0 ≤ l ∧ l ≤ es.length) : Yd P σ (.slice t x none (some hi) none) ty (slE K s 0 l.toNat) w := by
  obtain ⟨p, c, rfl, h2, _⟩ := hr; exact Yd.slE_h hu hz hx hhi (by omega)
end
instance (base : Nat) : RelOK (Th base) := ⟨fun w => Th.refl base w, fun ⟨rs, h1, h2⟩ ⟨qs, k1, k2⟩ => ⟨rs ++ qs, fun q hq => (List.mem_append.1 hq).elim (h1 q) (k1 q), (h2.mono fun r hr => by simp [hr]).trans (k2.mono fun r hr => by simp [hr])⟩, fun h => h.Th⟩
theorem gb_th {base : Nat} {w w' : World} {a : Option Nat} (h : w.grownBy w' a) (hf : Fr base a) : Th base w w' := ⟨[a], fun q hq => by rw [List.mem_singleton] at hq; subst hq; exact hf, Tn.ofGB h⟩
theorem one_mem {es : List Ent} (h : ∀ x ∈ es, x.2.2.oneCell' = true) {k : Nat} : ∀ x ∈ (es.take k).drop 0, x.2.2.oneCell' = true := fun x hx => h x (List.mem_of_mem_take (List.mem_of_mem_drop hx))
theorem one_mem2 {es : List Ent} (h : ∀ x ∈ es, x.2.2.oneCell' = true) {k m : Nat} : ∀ x ∈ (es.take m).drop k, x.2.2.oneCell' = true := fun x hx => h x (List.mem_of_mem_take (List.mem_of_mem_drop hx))
theorem flt_take {es : List Ent} {m1 : Int} {i : Nat} (hi : i < es.length) : (es.take (i + 1)).filter (fun x => !ltE m1 x) = (es.take i).filter (fun x => !ltE m1 x) ++ (if ltE m1 (es.getD i entD) then [] else [es.getD i entD]) := by
  rw [take_succD entD hi, List.filter_append]
  cases h : ltE m1 (es.getD i entD) with
  | true => rw [flt_no (p := ltE m1) h, if_pos rfl]
  | false => rw [flt_yes (p := ltE m1) h, if_neg (by decide)]
theorem ltE_ge {m1 : Int} {x : Ent} (h : x.1 ≥ m1) : ltE m1 x = false := by unfold ltE; exact decide_eq_false (by omega)
theorem ltE_lt {m1 : Int} {x : Ent} (h : ¬ x.1 ≥ m1) : ltE m1 x = true := by unfold ltE; exact decide_eq_true (by omega)
/-- Two stores that hold nothing. -/
theorem Two.init {TS ES TSk base : Nat} {w0 wb w : World} {b b2 : Nat} {n : Int} (hs : Sk TS ES base wb b n []) (he : Ext wb w) (hb2 : wb.heap.size ≤ b2) (hc : Cel w b2 TSk [(0, 1, [I n]), (1, 1, [nilS])]) (e : Ext w0 w) (h0 : w0.heap.size ≤ base) (hbw : base ≤ wb.heap.size) : Two TS ES TSk [] w0 w b n [] b2 [] := by
  have hlt := Cel.lt hc
  refine ⟨fun k => (Ge base k ∧ k < wb.heap.size) ∨ w.heap.size ≤ k, nilS, [], (hs.k.shrink _).ext he, fun k hk => .inr hk, fun k hk => ?_, hc, Er.nil _ _, fun k e => (by cases e), fun k e hk => ?_, fun k e hk => (by cases e), by omega, Ap.nil_r, trivial, e, fun q hq => by cases hq⟩
  · rcases hk with hk | hk
    · have h9 : base ≤ k := hk.1
      omega
    · have := he.size; omega
  · cases e
    rcases hk with hk | hk
    · omega
    · omega
/-! ### No key twice -/
def Dk2 (L : List Key) : Prop := L.Pairwise fun a b => ¬ (a.1 = b.1 ∧ a.2.1 = b.2.1)
theorem dk_app {L : List Key} {i j : Int} {l : List UInt8} (h : Dk2 L) (hn : ¬ idxI (eqK i j) L ≥ 0) : Dk2 (L ++ [(i, j, l)]) := by
  unfold Dk2 at *
  rw [List.pairwise_append]
  exact ⟨h, List.pairwise_singleton _ _, fun a ha b hb => by rw [List.mem_singleton] at hb; subst hb; exact idx_all hn a ha⟩
theorem stL_dk {n : Int} {L : List Key} {x : Int × Int × Int × Value} {k : List UInt8} (h : Dk2 L) : Dk2 (stL n L x k) := by
  unfold stL
  split
  · by_cases hv : wiK x.2.1 ∧ wiK x.2.2.1 ∧ k.length = 32
    · by_cases h2 : idxI (eqK x.2.1 x.2.2.1) L ≥ 0
      · rw [putV_dup hv h2]; exact h
      · rw [putV_new hv h2]
        show Dk2 (psh n L (x.2.1, x.2.2.1, k))
        unfold psh
        split
        · exact dk_app h h2
        · exact (dk_app h h2).sublist (List.drop_sublist _ _)
    · rw [putV_bad hv]; exact h
  · split
    · unfold tkV
      split
      · refine h.sublist ?_
        have h1 := List.Sublist.append (List.Sublist.refl (L.take (idxI (eqK x.2.1 x.2.2.1) L).toNat)) (List.drop_sublist 1 (L.drop (idxI (eqK x.2.1 x.2.2.1) L).toNat))
        rw [List.drop_drop, List.take_append_drop] at h1
        exact h1
      · exact h
    · split
      · exact h.sublist (List.filter_sublist)
      · exact h
theorem rdKs_enc {m : Int} : ∀ (E L : List Key) (r : List UInt8), KOK E → Dk2 (L ++ E) → ((L.length + E.length : Nat) : Int) ≤ m → rdKs m E.length L (E.flatMap encK ++ r) = some (L ++ E, r)
  | [], L, r, _, _, _ => by simp [rdKs]
  | y :: E, L, r, hK, hD, hm => by
    have hy := hK y (by simp)
    obtain ⟨⟨a1, a2⟩, ⟨b1, b2⟩, h32⟩ := hy
    have g1 := rdT_put (t := 1099511627776) (n := y.1.toNat) (r := putN (UInt64.ofNat y.2.1.toNat) ++ (y.2.2 ++ (E.flatMap encK ++ r))) (by omega) (by omega)
    have g2 := rdT_put (t := 1099511627776) (n := y.2.1.toNat) (r := y.2.2 ++ (E.flatMap encK ++ r)) (by omega) (by omega)
    have hc : (y :: E).flatMap encK ++ r = putN (UInt64.ofNat y.1.toNat) ++ (putN (UInt64.ofNat y.2.1.toNat) ++ (y.2.2 ++ (E.flatMap encK ++ r))) := by simp [encK]
    have e1 : ((y.1.toNat : Nat) : Int) = y.1 := by omega
    have e2 : ((y.2.1.toNat : Nat) : Int) = y.2.1 := by omega
    rw [List.length_cons] at hm ⊢
    rw [hc, rdKs_step g1 g2, e1, e2]
    have hno : ¬ idxI (eqK y.1 y.2.1) L ≥ 0 := by
      rw [idxI_no]
      · decide
      · intro z hz
        unfold Dk2 at hD
        rw [List.pairwise_append] at hD
        exact eqK_no (hD.2.2 z hz y (by simp))
    have hlt : (L.length : Int) < m := by omega
    have h33 : 32 ≤ (y.2.2 ++ (E.flatMap encK ++ r)).length := by rw [List.length_append]; omega
    rw [if_pos ⟨h33, hno, hlt⟩, List.take_left' h32, List.drop_left' h32]
    have h9 := rdKs_enc (m := m) E (L ++ [y]) r (fun z hz => hK z (by simp [hz])) (by rw [List.append_assoc]; exact hD) (by rw [List.length_append, List.length_singleton]; omega)
    rw [List.append_assoc] at h9
    exact h9
theorem skR_savB {n : Int} {L : List Key} (hn : 1 ≤ n ∧ n ≤ 1000) (hK : KOK L) (hD : Dk2 L) (hL : (L.length : Int) ≤ n) : skR (savB n L) = some (n, L) := by
  have g1 := rdT_put (t := 1000) (n := n.toNat) (r := putN (UInt64.ofNat L.length) ++ L.flatMap encK) (by omega) (by omega)
  have g2 := rdT_put (t := 1000) (n := L.length) (r := L.flatMap encK) (by omega) (by omega)
  have e1 : ((n.toNat : Nat) : Int) = n := by omega
  have h9 := rdKs_enc (m := n) L [] [] hK hD (by simpa using hL)
  rw [List.append_nil, List.nil_append] at h9
  unfold skR
  rw [show savB n L = putN (UInt64.ofNat n.toNat) ++ (putN (UInt64.ofNat L.length) ++ L.flatMap encK) by simp [savB], g1]
  simp only
  rw [g2]
  simp only
  rw [if_pos (by omega), e1, h9]
def KB (w : World) (x : Ent) (y : Key) : Prop := x.1 = y.1 ∧ x.2.1 = y.2.1 ∧ Bs w x.2.2 y.2.2
theorem KA.eq {w0 : World} {x : Ent} {y : Key} (h : KA w0 x y) (i j : Int) : eqE i j x = eqK i j y := by unfold eqE eqK; rw [h.1, h.2.1]
theorem KA.lt {w0 : World} {x : Ent} {y : Key} (h : KA w0 x y) (i : Int) : ltE i x = ltK i y := by unfold ltE ltK; rw [h.1]
theorem ka_one {w0 w : World} {es : List Ent} {L : List Key} (h : All2 (KA w0) es L) (he : Ext w0 w) : ∀ x ∈ es, x.2.2.oneCell' = true := fun x hx => by
  obtain ⟨y, _, hy⟩ := h.mem x hx; exact Rd.one (hy.2.2 w he)
end Go.X
