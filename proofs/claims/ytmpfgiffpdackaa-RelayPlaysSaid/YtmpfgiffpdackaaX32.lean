import Derived.Test.YtmpfgiffpdackaaQw
import Derived.Test.YtmpfgiffpdackaaX25
import Derived.Test.YtmpfgiffpdackaaX29
/-
  What turns beside what one holds. No program here.
-/
set_option linter.unusedVariables false
namespace Go.X
def Th (base : Nat) (w w' : World) : Prop := ∃ rs, (∀ q ∈ rs, Fr base q) ∧ Tn rs w w'
theorem Ext.th {w0 w w' : World} (h : Ext w0 w) (ht : Th w0.heap.size w w') : Ext w0 w' := by
  obtain ⟨rs, h1, h2⟩ := ht; exact Ext.tnk h h1 h2
theorem Tn.th {base : Nat} {rs : List (Option Nat)} {w w1 w2 : World} (h : Tn rs w w1) (ht : Th base w1 w2) (hb : w.heap.size ≤ base) : Tn rs w w2 := by
  obtain ⟨qs, h1, h2⟩ := ht; exact Tn.tnk h (fun q hq => .inr (Fr.le (h1 q hq) hb)) h2
theorem Cel.th {base : Nat} {w w' : World} {c T S} (h : Cel w c T S) (ht : Th base w w') (hc : c < base) : Cel w' c T S := by
  obtain ⟨rs, h1, h2⟩ := ht; exact h.tnk h2 (fun q hq k e1 e2 => by cases e1; have := h1 q hq _ e2; omega)
theorem Rd.th {base : Nat} {w w' : World} {s xs} (h : Rd w s xs) (ht : Th base w w') (hl : Lo base s.ownBlock) : Rd w' s xs := by
  obtain ⟨rs, h1, h2⟩ := ht; exact Rd.tnk h h2 (fun q hq k e1 e2 => by have := h1 q hq _ e2; have := hl k e1; omega)
theorem Ow.th {base base0 E : Nat} {w w' : World} {s xs} (h : Ow base0 E w s xs) (ht : Th base w w') (hl : Lo base s.ownBlock) : Ow base0 E w' s xs := by
  obtain ⟨rs, h1, h2⟩ := ht; exact Ow.tnk h h2 (fun q hq k e1 e2 => by have := h1 q hq _ e2; have := hl k e1; omega)
theorem Th.size {base : Nat} {w w' : World} (h : Th base w w') : w.heap.size ≤ w'.heap.size := by obtain ⟨rs, _, h2⟩ := h; exact h2.size
theorem Th.refl (base : Nat) (w : World) : Th base w w := ⟨[], (fun _ h => by cases h), Tn.refl _ _⟩
theorem Ext.Th {base : Nat} {w w' : World} (h : Ext w w') : Th base w w' := ⟨[], (fun _ h => by cases h), h.tn _⟩
theorem Er.tnk {α : Type} {K : Shp α} {w w' : World} {s : Value} {es : List α} {rs : List (Option Nat)} (h : Er K w s es) (hg : Tn rs w w') (ha : ApL s.ownBlock rs) : Er K w' s es := by
  obtain ⟨p, c, h1, h2, h3, h4⟩ := h
  refine ⟨p, c, h1, h2, h3, fun i v hv => ?_⟩
  obtain ⟨b, o, hp, hc⟩ := h4 i v hv
  refine ⟨b, o, hp, ?_⟩
  have hlt : b < w.heap.size := by
    rcases Nat.lt_or_ge b w.heap.size with h' | h'
    · exact h'
    · simp [World.cell?, Array.getElem?_eq_none h'] at hc
  unfold World.cell? at *
  simp only at *
  rw [hg.block b hlt (fun r hr e => ha r hr b (by subst hp; subst h1; rfl) e)]; exact hc
theorem slE_own {α : Type} (K : Shp α) (s : Value) (l h : Nat) : (slE K s l h).ownBlock = s.ownBlock := by
  cases s with
  | slice p n c =>
    show (sliced p l h c K.sz).ownBlock = _
    rw [slicedN]
    cases p with
    | none => split <;> rfl
    | some a =>
      split
      · rfl
      · simp only [Option.map_some, Value.ownBlock, Addr.add]; split <;> rfl
  | _ => rfl
def Tx (n0 : Nat) (xs : List (Option Nat)) (w w' : World) : Prop := ∃ rs, Tn rs w w' ∧ (∀ q ∈ xs, ApL q rs) ∧ ∀ q ∈ rs, Fr n0 q
theorem Ext.tx {n0 : Nat} {xs : List (Option Nat)} {w w' : World} (h : Ext w w') : Tx n0 xs w w' := ⟨[], h.tn _, (fun _ _ _ h => by cases h), fun _ h => by cases h⟩
theorem Cel.tx {n0 : Nat} {xs : List (Option Nat)} {w w' : World} {c T S} (h : Cel w c T S) (ht : Tx n0 xs w w') (hc : some c ∈ xs) : Cel w' c T S := by
  obtain ⟨rs, h1, h2, _⟩ := ht; exact h.tnk h1 (h2 _ hc)
theorem Tx.trans {n0 : Nat} {xs : List (Option Nat)} {w w1 w2 : World} (h : Tx n0 xs w w1) (k : Tx n0 xs w1 w2) : Tx n0 xs w w2 := by
  obtain ⟨rs, h1, h2, h3⟩ := h
  obtain ⟨qs, k1, k2, k3⟩ := k
  exact ⟨rs ++ qs, (h1.mono fun r hr => by simp [hr]).trans (k1.mono fun r hr => by simp [hr]), fun q hq r hr => (List.mem_append.1 hr).elim (h2 q hq r) (k2 q hq r), fun q hq => (List.mem_append.1 hq).elim (h3 q) (k3 q)⟩
theorem Tx.less {n0 : Nat} {q : Option Nat} {xs : List (Option Nat)} {w w' : World} (h : Tx n0 (q :: xs) w w') : Tx n0 xs w w' := by
  obtain ⟨rs, h1, h2, h3⟩ := h; exact ⟨rs, h1, fun p hp => h2 p (List.mem_cons_of_mem _ hp), h3⟩
instance (n0 : Nat) (xs : List (Option Nat)) : RelOK (Tx n0 xs) := ⟨fun w => (Ext.refl w).tx, fun h k => h.trans k, fun h => h.tx⟩
instance (base : Nat) : RelOK (Th base) := ⟨fun w => Th.refl base w, fun ⟨rs, h1, h2⟩ ⟨qs, k1, k2⟩ => ⟨rs ++ qs, fun q hq => (List.mem_append.1 hq).elim (h1 q) (k1 q), (h2.mono fun r hr => by simp [hr]).trans (k2.mono fun r hr => by simp [hr])⟩, fun h => h.Th⟩
theorem gb_th {base : Nat} {w w' : World} {a : Option Nat} (h : w.grownBy w' a) (hf : Fr base a) : Th base w w' := ⟨[a], fun q hq => by rw [List.mem_singleton] at hq; subst hq; exact hf, Tn.ofGB h⟩
section
variable {P : Program} {σ : Env} {w : World} {α : Type} {K : Shp α} {es : List α}
theorem Ye.litE0 {ty t e z by' base} (hu : P.underlying t = some (.slice e)) (hz : TI P e z K.sz by') (hbase : base ≤ w.heap.size) :
    Ye P σ (.buildSlice t 0 #[]) ty w fun v w1 => Es K base e w1 v [] ∧ Ext w w1 := fun N ds a w' dst pos after g next Q hf hs hk => by
  obtain ⟨j, hj, hj0, hj1, hj2⟩ := hz.out
  have hrun : (Instr.buildSlice t 0 #[]).run P w' = .ok (.slice (some ⟨w'.heap.size, 0, none⟩) 0 0) (w'.alloc (.cells #[] e)) := by
    have hr0 : Array.map (fun x : Nat => (default : Value)) (Array.range 0) = #[] := by simp
    simp [Instr.buildSlice, run_underlying hu, sizeOf, typeInfo, hj, newRow, Instr.fill, newObj, Sem.run]
    rw [hr0]
  unfold Oper.wp
  have : (execOp a.eval ⟨dst, .buildSlice t 0 #[], ty, pos, after, g⟩).run P w' = .ok (.value (.slice (some ⟨w'.heap.size, 0, none⟩) 0 0)) (w'.alloc (.cells #[] e)) := by
    simp only [execOp]
    have e0 : (Array.map (fun x : Nat × Operand => (x.1, a.eval x.2)) #[]) = #[] := by simp
    rw [e0, Sem.run_bind, hrun]; rfl
  rw [this]
  refine hk _ _ _ ⟨?_, hs.ext.trans (ext_grown (World.grownBy_alloc w' _ none))⟩ (Same.refl _)
  have := World.ownsRow_lit (base := base) (e := e) (size := K.sz) w' #[] 0 (by rw [hs.heap]; exact hbase) (by unfold maxLen; omega) (by simp)
  unfold Es
  rw [hs.heap] at this ⊢
  simpa using this
theorem Yd.slE_L {ty x t e lo s kl l z by'} (hu : P.underlying t = some (.slice e)) (hz : TI P e z K.sz by') (hx : ev σ x = some s) (hlo : ev σ lo = some (.int kl l)) (hr : Er K w s es) (hb : 0 ≤ l ∧ l ≤ es.length) : Yd P σ (.slice t x (some lo) none none) ty (slE K s l.toNat es.length) w := by
  obtain ⟨p, c, rfl, _⟩ := hr; exact Yd.slE_l hu hz hx hlo hb
theorem Yd.slE_H {ty x t e hi s kl l z by'} (hu : P.underlying t = some (.slice e)) (hz : TI P e z K.sz by') (hx : ev σ x = some s) (hhi : ev σ hi = some (.int kl l)) (hr : Er K w s es) (hb : 0 ≤ l ∧ l ≤ es.length) : Yd P σ (.slice t x none (some hi) none) ty (slE K s 0 l.toNat) w := by
  obtain ⟨p, c, rfl, h2, _⟩ := hr; exact Yd.slE_h hu hz hx hhi (by omega)
end
end Go.X
