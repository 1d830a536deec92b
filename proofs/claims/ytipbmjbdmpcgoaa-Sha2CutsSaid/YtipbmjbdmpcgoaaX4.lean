/-
  What one operation yields: slices, strings, memory of the call's own.
-/
import Derived.Laws.BytesString
import Derived.Test.YtipbmjbdmpcgoaaX3
set_option linter.unusedVariables false
set_option linter.unusedSimpArgs false
namespace Go.X
open Go.RowKit

/-- The slice value s reads in w as xs (elements of one cell). -/
def Rd (w : World) (s : Value) (xs : List Value) : Prop :=
  ∃ p c, s = .slice p xs.length c ∧ (xs.length ≤ c ∧ c ≤ 9223372036854775807) ∧ (p = none → c = 0) ∧ ∀ i v, xs[i]? = some v → ∃ b o, p = some ⟨b, o, none⟩ ∧ w.cell? ⟨b, o + i, none⟩ = some v
/-- .. as bytes. -/
abbrev Bs (w : World) (s : Value) (l : List UInt8) : Prop := Rd w s (l.map fun x => B x)
/-- A slice that is nil or the row of a block from base on, of elements of type E (one cell each). -/
def Ow (base : Nat) (E : TypeId) (w : World) (s : Value) (xs : List Value) : Prop := w.ownsRow base E 1 s xs.length xs
/-- A block known whole, not frozen. -/
def Own (w : World) (b : Nat) (T : TypeId) (L : List Value) : Prop := w.heap[b]? = some (.cells L.toArray T (0, 0))
/-- The string of these bytes. -/
abbrev Str (l : List UInt8) : Value := .string ⟨l.toArray⟩

/-- The address of element i. -/
def adr (s : Value) (i : Nat) : Addr :=
  match s with
  | .slice (some a) _ _ => a.add i
  | _ => default
/-- The slice from l to h. -/
def slc (s : Value) (l h : Nat) : Value :=
  match s with
  | .slice p n c => sliced p l h c 1
  | v => v
def nilS : Value := .slice none 0 0

/-- A type's row. -/
def TI (P : Program) (t : TypeId) (z : Value) (sz bytes : Nat) : Prop := (P.info? t).map (fun i => (i.zero, i.size, i.bytes)) = some (some z, sz, bytes)
theorem TI.out {P : Program} {t : TypeId} {z : Value} {sz bytes : Nat} (h : TI P t z sz bytes) : ∃ i, P.info? t = some i ∧ i.zero = some z ∧ i.size = sz ∧ i.bytes = bytes := by
  unfold TI at h
  cases hi : P.info? t with
  | none => rw [hi] at h; cases h
  | some i =>
    rw [hi] at h
    simp only [Option.map_some, Option.some.injEq, Prod.mk.injEq] at h
    exact ⟨i, rfl, h.1, h.2.1, h.2.2⟩

theorem add_at (b o i : Nat) : (⟨b, o, none⟩ : Addr).add i = ⟨b, o + i, none⟩ := by
  unfold Addr.add; split
  · rename_i h; subst h; rfl
  · rfl

theorem Rd.nil (w : World) : Rd w nilS [] := ⟨none, 0, rfl, ⟨Nat.le_refl _, by decide⟩, fun _ => rfl, fun i v h => by cases h⟩
theorem Rd.ext {w w' : World} {s xs} (h : Rd w s xs) (he : Ext w w') : Rd w' s xs := by
  obtain ⟨p, c, h1, h2, h3, h4⟩ := h
  exact ⟨p, c, h1, h2, h3, fun i v hv => let ⟨b, o, hp, hc⟩ := h4 i v hv; ⟨b, o, hp, he.cell hc⟩⟩
theorem Rd.max {w : World} {s xs} (h : Rd w s xs) : xs.length ≤ 9223372036854775807 := by
  obtain ⟨p, c, h1, ⟨h2, h3⟩, _⟩ := h; omega
theorem Bs.max {w : World} {s} {l : List UInt8} (h : Bs w s l) : l.length ≤ 9223372036854775807 := by
  have := Rd.max h; simpa using this
theorem Rd.cell {w : World} {s xs} (h : Rd w s xs) {i : Nat} {v : Value} (hv : xs[i]? = some v) : w.cell? (adr s i) = some v := by
  obtain ⟨p, c, h1, h2, h3, h4⟩ := h
  obtain ⟨b, o, hp, hc⟩ := h4 i v hv
  subst h1; subst hp
  show w.cell? (Addr.add ⟨b, o, none⟩ i) = some v
  rw [add_at]; exact hc
theorem Bs.at {l : List UInt8} {i : Nat} (h : i < l.length) : (l.map fun x => B x)[i]? = some (B (l.getD i 0)) := by
  rw [List.getElem?_map, List.getElem?_eq_getElem h, List.getD_eq_getElem?_getD, List.getElem?_eq_getElem h]; rfl
theorem Bs.cell {w : World} {s} {l : List UInt8} (h : Bs w s l) {i : Nat} (hi : i < l.length) : w.cell? (adr s i) = some (B (l.getD i 0)) := Rd.cell h (Bs.at hi)
theorem sliced_eq (p : Option Addr) (l h c : Nat) : sliced p l h c 1 = .slice (if c = l then p else p.map (·.add l)) (h - l) (c - l) := by simp [sliced]
theorem Rd.slc {w : World} {s xs} (h : Rd w s xs) {l k : Nat} (hl : l ≤ k) (hk : k ≤ xs.length) : Rd w (slc s l k) ((xs.take k).drop l) := by
  obtain ⟨p, c, rfl, ⟨h2, h2'⟩, h3, h4⟩ := h
  have hlen : ((xs.take k).drop l).length = k - l := by simp; omega
  refine ⟨_, _, by show sliced p l k c 1 = _; rw [sliced_eq, hlen], by rw [hlen]; omega, fun hn => ?_, fun i v hv => ?_⟩
  · by_cases hc : c = l
    · omega
    · rw [if_neg hc] at hn
      have : p = none := by cases p <;> simp_all
      have := h3 this
      omega
  · have hi : i < k - l := by rw [← hlen]; exact (List.getElem?_eq_some_iff.1 hv).1
    rw [List.getElem?_drop, List.getElem?_take_of_lt (by omega)] at hv
    obtain ⟨b, o, hp, hc⟩ := h4 (l + i) v hv
    subst hp
    by_cases hcl : c = l
    · omega
    · rw [if_neg hcl]
      exact ⟨b, o + l, by simp [add_at], by rw [Nat.add_assoc]; exact hc⟩
theorem Bs.slc {w : World} {s} {x : List UInt8} (h : Bs w s x) {l k : Nat} (hl : l ≤ k) (hk : k ≤ x.length) : Bs w (Go.X.slc s l k) ((x.take k).drop l) := by
  have := Rd.slc h hl (by simpa using hk)
  simpa [Bs, List.map_take, List.map_drop] using this

theorem Ow.rd {base E w s xs} (h : Ow base E w s xs) : Rd w s xs := by
  obtain ⟨h1, h2⟩ := h
  rcases h2 with ⟨rfl, h2⟩ | ⟨g, cap, cur, rfl, hb, hg, hn, hm, hc, ht⟩
  · have : xs = [] := List.eq_nil_of_length_eq_zero h2
    subst this; exact Rd.nil w
  · refine ⟨_, cap, rfl, ⟨hn, by unfold maxLen at hm; exact hm⟩, fun h => (by cases h), fun i v hv => ⟨g, 0, rfl, ?_⟩⟩
    have hi : i < xs.length := (List.getElem?_eq_some_iff.1 hv).1
    unfold World.cell?
    simp only [hg, Option.isSome_none, Bool.false_eq_true, if_false, Nat.zero_add]
    rw [← ht, List.getElem?_take_of_lt (by omega)] at hv
    simpa using hv
theorem Ow.nil (base E w) : Ow base E w nilS [] := World.ownsRow_nil w base E 1
theorem grown_ext {w w' : World} (h : Ext w w') : w.grownBy w' none := ⟨h.os, h.tape, h.output, h.size, fun k hk _ => h.block k hk⟩
theorem ext_grown {w w' : World} (h : w.grownBy w' none) : Ext w w' := ⟨h.os, h.tape, h.output, h.size, fun k hk => h.block k hk (by simp)⟩
theorem Ow.ext {base E w w' s xs} (h : Ow base E w s xs) (he : Ext w w') : Ow base E w' s xs :=
  World.ownsRow.kept h (grown_ext he) (by cases hv : s.ownBlock <;> simp)
theorem Ow.base {base base' E w s xs} (h : Ow base E w s xs) (hb : base' ≤ base) : Ow base' E w s xs := by
  obtain ⟨h1, h2⟩ := h
  refine ⟨h1, ?_⟩
  rcases h2 with h2 | ⟨g, cap, cur, hv, hbg, r⟩
  · exact .inl h2
  · exact .inr ⟨g, cap, cur, hv, Nat.le_trans hb hbg, r⟩
/-- From W on: what turned is a row that came behind W. -/
theorem Ext.grown {W w w' : World} {base E s xs} (h : Ext W w) (ho : Ow base E w s xs) (hb : W.heap.size ≤ base) (hg : w.grownBy w' s.ownBlock) : Ext W w' :=
  ⟨hg.os.trans h.os, hg.tape.trans h.tape, hg.output.trans h.output, Nat.le_trans h.size hg.size, fun k hk => (hg.block k (Nat.lt_of_lt_of_le hk h.size) (fun e => by
    have := (World.ownsRow.lt ho k e.symm).1
    omega)).trans (h.block k hk)⟩
theorem Own.ext {w w' b T L} (h : Own w b T L) (he : Ext w w') : Own w' b T L := he.heap h
theorem Own.upd {w w' b b' T L} (h : Own w b T L) (hu : Upd b' w w') (hne : b ≠ b') : Own w' b T L := by unfold Own at *; rw [hu.block b hne]; exact h
theorem Own.cell {w b T L} (h : Own w b T L) {i : Nat} {v : Value} (hv : L[i]? = some v) : w.cell? ⟨b, i, none⟩ = some v := by
  unfold World.cell?; rw [show w.heap[b]? = _ from h]; simpa using hv
/-- An own block as a slice. -/
theorem Own.rd {w b T L} (h : Own w b T L) (o n c : Nat) (hn : o + n ≤ L.length) (hc : n ≤ c ∧ c ≤ 9223372036854775807) : Rd w (.slice (some ⟨b, o, none⟩) n c) ((L.drop o).take n) := by
  have hlen : ((L.drop o).take n).length = n := by simp; omega
  refine ⟨some ⟨b, o, none⟩, c, by rw [hlen], by rw [hlen]; exact hc, fun h => (by cases h), fun i v hv => ⟨b, o, rfl, h.cell ?_⟩⟩
  have hi : i < n := by rw [← hlen]; exact (List.getElem?_eq_some_iff.1 hv).1
  rw [List.getElem?_take_of_lt hi, List.getElem?_drop] at hv
  exact hv

section
variable {P : Program} {N : Nat} {ds : List Deferred} {σ : Env} {w : World}

/-! ### Slices that are read -/
theorem yd_bi {ty b args tys vs v} (f : Array Value → Sem Value) (ha : evs σ args.toList = some vs) (hb : ∀ consts as, builtin b tys ty consts as = (do pure (.value (← f as)) : Sem Next))
    (h : ∀ w', Ext w w' → (f vs.toArray).run P w' = .ok v w') : Yd P σ (.call ⟨.builtin b, args, tys⟩) ty v w := fun N ds a w' dst pos after g hf he => by
  have hv : args.map a.eval = vs.toArray := by rw [← hf.evs ha]; apply Array.toList_inj.1; simp
  simp only [execOp, resolve, pure_bind, invoke, hv, hb]
  rw [Sem.run_bind, h w' he]; rfl
theorem ye_bi {ty b args tys vs Φ} (f : Array Value → Sem Value) (ha : evs σ args.toList = some vs) (hb : ∀ consts as, builtin b tys ty consts as = (do pure (.value (← f as)) : Sem Next))
    (h : ∀ w', Same w w' → ∃ v w2 w3, (f vs.toArray).run P w' = .ok v w2 ∧ Same w3 w2 ∧ Φ v w3) : Ye P σ (.call ⟨.builtin b, args, tys⟩) ty w Φ := fun N ds a w' dst pos after g next Q hf hs hk => by
  have hv : args.map a.eval = vs.toArray := by rw [← hf.evs ha]; apply Array.toList_inj.1; simp
  obtain ⟨v, w2, w3, h1, h2, h3⟩ := h w' hs
  unfold Oper.wp
  simp only [execOp, resolve, pure_bind, invoke, hv, hb]
  rw [Sem.run_bind, h1]
  exact hk v w3 w2 h3 h2
theorem Yd.len {ty x t e s xs} (hu : P.underlying t = some (.slice e)) (hx : ev σ x = some s) (h : Rd w s xs) : Yd P σ (.call ⟨.builtin .len, #[x], #[t]⟩) ty (I xs.length) w :=
  yd_bi (vs := [s]) (Builtin.len_ #[t] ty) (by simp [evs, hx]) (fun _ _ => rfl) fun w' _ => by
    obtain ⟨p, c, rfl, _⟩ := h
    simp [Builtin.len_, run_underlying hu, goInt]
theorem Yd.len_b {ty x t e s} {l : List UInt8} (hu : P.underlying t = some (.slice e)) (hx : ev σ x = some s) (h : Bs w s l) : Yd P σ (.call ⟨.builtin .len, #[x], #[t]⟩) ty (I l.length) w := by
  have := Yd.len (ty := ty) hu hx h
  simpa using this
theorem Yd.slen {ty x t} {l : List UInt8} (hu : P.underlying t = some .string) (hx : ev σ x = some (Str l)) : Yd P σ (.call ⟨.builtin .len, #[x], #[t]⟩) ty (I l.length) w :=
  yd_bi (vs := [Str l]) (Builtin.len_ #[t] ty) (by simp [evs, hx]) (fun _ _ => rfl) fun w' _ => by
    have : (ByteArray.mk l.toArray).size = l.length := by simp [ByteArray.size]
    simp [Builtin.len_, run_underlying hu, goInt, this]
theorem Yd.idx {ty x y t e s xs k i z by'} (hu : P.underlying t = some (.slice e)) (hz : TI P e z 1 by') (hx : ev σ x = some s) (hy : ev σ y = some (.int k i)) (h : Rd w s xs) (hi : 0 ≤ i ∧ i < xs.length) :
    Yd P σ (.indexAddr t x y) ty (.pointer (some (adr s i.toNat))) w :=
  yd_v (fun ρ => Instr.indexAt t (ρ x) (ρ y)) (fun _ _ _ _ _ => rfl) fun N ds a w' hf he => by
    obtain ⟨j, hj, hj0, hj1, _⟩ := hz.out
    obtain ⟨p, c, rfl, h2, h3, h4⟩ := h
    obtain ⟨v, hv⟩ : ∃ v, xs[i.toNat]? = some v := ⟨_, List.getElem?_eq_getElem (by omega)⟩
    obtain ⟨b, o, rfl, _⟩ := h4 _ v hv
    simp [hf.ev hx, hf.ev hy, Instr.indexAt, asIntOf, run_underlying hu, hi.1, hi.2, sizeOf, typeInfo, hj, hj1, adr]
theorem Yd.idx_b {ty x y t e s k i z by'} {l : List UInt8} (hu : P.underlying t = some (.slice e)) (hz : TI P e z 1 by') (hx : ev σ x = some s) (hy : ev σ y = some (.int k i)) (h : Bs w s l) (hi : 0 ≤ i ∧ i < l.length) :
    Yd P σ (.indexAddr t x y) ty (.pointer (some (adr s i.toNat))) w := Yd.idx hu hz hx hy h (by simpa using hi)
/-- A load of one cell. -/
def plain (P : Program) (t : TypeId) : Bool :=
  match P.underlying t with
  | some (.struct _) | some (.array _ _) | none => false
  | _ => true
theorem run_isAgg {t : TypeId} (h : plain P t = true) (w' : World) : (isAgg t).run P w' = .ok false w' := by
  unfold plain at h
  cases hu : P.underlying t with
  | none => rw [hu] at h; cases h
  | some d => rw [hu] at h; cases d <;> first | (simp [isAgg, run_underlying hu]; done) | cases h
theorem Yd.load {ty x t a v} (ht : plain P t = true) (hx : ev σ x = some (.pointer (some a))) (hc : w.cell? a = some v) : Yd P σ (.load t x) ty v w :=
  yd_v (fun ρ => Instr.loadAt t (ρ x)) (fun _ _ _ _ _ => rfl) fun N ds a w' hf he => by
    simp [hf.ev hx, Instr.loadAt, Instr.sureAddr, loadVar, run_isAgg ht, load, Sem.run, he.cell hc]
theorem Yd.slc4 {ty x t e s xs} {lo hi : Option Operand} {l h : Nat} {z by'} (hu : P.underlying t = some (.slice e)) (hz : TI P e z 1 by') (hx : ev σ x = some s)
    (hr : Rd w s xs) (hlo : (match lo with | some y => ∃ k, ev σ y = some (.int k (l : Int)) | none => l = 0)) (hhi : (match hi with | some y => ∃ k, ev σ y = some (.int k (h : Int)) | none => h = xs.length))
    (hl : l ≤ h) (hh : h ≤ xs.length) : Yd P σ (.slice t x lo hi none) ty (slc s l h) w :=
  yd_v (fun ρ => Instr.sliceAt t (ρ x) (lo.map ρ) (hi.map ρ) none) (fun _ _ _ _ _ => rfl) fun N ds a w' hf he => by
    obtain ⟨j, hj, hj0, hj1, _⟩ := hz.out
    obtain ⟨p, c, rfl, h2, h3, h4⟩ := hr
    have hsz : (sizeOf e).run P w' = .ok 1 w' := by simp [sizeOf, typeInfo, hj, hj1]
    have hE : P.elem t = e := by simp [Program.elem, hu]
    have hu' : P.underlying t = some (.slice (P.elem t)) := by rw [hE]; exact hu
    have b1 : ∀ k (n m : Nat) c', n ≤ m → (Instr.sliceBound (.int k (n : Int)) m c').run P w' = .ok n w' := fun k n m c' hnm => by
      have := run_sliceBound (P := P) w' k (n : Int) m c' (by omega) (by omega)
      simpa using this
    rw [hf.ev hx, run_sliceAt_slice _ _ _ _ _ _ hu', run_slice_any _ _ _ _ _ hu', hE]
    have hb : (Instr.sliceBounds true xs.length c (lo.map a.eval) (hi.map a.eval) none).run P w' = .ok (l, h, c) w' := by
      cases lo with
      | none =>
        subst hlo
        cases hi with
        | none => subst hhi; simp [Instr.sliceBounds]
        | some y =>
          obtain ⟨k, hy⟩ := hhi
          simp only [Option.map_some, Option.map_none, hf.ev hy]
          simp [Instr.sliceBounds, b1 k h c _ (by omega)]
      | some y =>
        obtain ⟨k, hy⟩ := hlo
        cases hi with
        | none => subst hhi; simp only [Option.map_some, Option.map_none, hf.ev hy]; simp [Instr.sliceBounds, b1 k l xs.length _ (by omega)]
        | some y' =>
          obtain ⟨k', hy'⟩ := hhi
          simp only [Option.map_some, hf.ev hy, hf.ev hy']
          simp [Instr.sliceBounds, b1 k' h c _ (by omega), b1 k l h _ (by omega)]
    rw [hb]
    simp [hsz, Go.X.slc]
theorem Yd.slcLH {ty x t e s xs lo hi k k' l h z by'} (hu : P.underlying t = some (.slice e)) (hz : TI P e z 1 by') (hx : ev σ x = some s) (hr : Rd w s xs) (hlo : ev σ lo = some (.int k l)) (hhi : ev σ hi = some (.int k' h)) (hb : 0 ≤ l ∧ l ≤ h ∧ h ≤ xs.length) :
    Yd P σ (.slice t x (some lo) (some hi) none) ty (slc s l.toNat h.toNat) w :=
  Yd.slc4 (lo := some lo) (hi := some hi) hu hz hx hr ⟨k, by rw [hlo]; simp; omega⟩ ⟨k', by rw [hhi]; simp; omega⟩ (by omega) (by omega)
theorem Yd.slcL {ty x t e s xs lo k l z by'} (hu : P.underlying t = some (.slice e)) (hz : TI P e z 1 by') (hx : ev σ x = some s) (hr : Rd w s xs) (hlo : ev σ lo = some (.int k l)) (hb : 0 ≤ l ∧ l ≤ xs.length) :
    Yd P σ (.slice t x (some lo) none none) ty (slc s l.toNat xs.length) w :=
  Yd.slc4 (lo := some lo) (hi := none) hu hz hx hr ⟨k, by rw [hlo]; simp; omega⟩ rfl (by omega) (Nat.le_refl _)
theorem Yd.slcH {ty x t e s xs hi k' h z by'} (hu : P.underlying t = some (.slice e)) (hz : TI P e z 1 by') (hx : ev σ x = some s) (hr : Rd w s xs) (hhi : ev σ hi = some (.int k' h)) (hb : 0 ≤ h ∧ h ≤ xs.length) :
    Yd P σ (.slice t x none (some hi) none) ty (slc s 0 h.toNat) w :=
  Yd.slc4 (lo := none) (hi := some hi) hu hz hx hr rfl ⟨k', by rw [hhi]; simp; omega⟩ (by omega) (by omega)

/-! ### Strings -/
theorem run_bytes (l : List UInt8) {s : Value} (w' : World) (h : Bs w' s l) : (Conv.bytesToString s).run P w' = .ok (Str l) w' := by
  obtain ⟨p, c, rfl, h2, h3, h4⟩ := h
  have hfold : ∀ (l : List UInt8) (r : ByteArray), (l.map fun x => (x.toNat : Int)).foldl (fun r n => r.push (UInt8.ofNat n.toNat)) r = ⟨(r.data.toList ++ l).toArray⟩ := by
    intro l
    induction l with
    | nil => intro r; simp
    | cons x l ih =>
      intro r
      simp only [List.map_cons, List.foldl_cons, ih]
      congr 1
      simp [ByteArray.push]
  cases p with
  | none =>
    have : l = [] := by
      cases l with
      | nil => rfl
      | cons x l => obtain ⟨b, o, hp, _⟩ := h4 0 (B x) (by simp); cases hp
    subst this
    rfl
  | some a =>
    have hl := run_loadCells_list (P := P) w' a (l.map fun x => B x) (fun j v hv => by
      obtain ⟨b, o, hp, hc⟩ := h4 j v hv
      cases hp
      rw [add_at]; exact hc)
    have := run_bytesToString (P := P) w' a l.length c (l.map fun x => (x.toNat : Int)) (by simpa [Function.comp_def] using hl)
    rw [hfold] at this
    simpa using this
theorem Yd.bstr {ty x s d e v} {l : List UInt8} (hs : P.underlying s = some (.slice e)) (he : P.underlying e = some (.int .u8)) (hd : P.underlying d = some .string) (hx : ev σ x = some v) (h : Bs w v l) : Yd P σ (.convert s d x) ty (Str l) w :=
  yd_v (fun ρ => convert s d (ρ x)) (fun _ _ _ _ _ => rfl) fun N ds a w' hf hE => by
    have h' := Rd.ext h hE
    obtain ⟨p, c, rfl, _⟩ := id h'
    rw [hf.ev hx, run_convert_bytes_string w' s d e _ _ _ hs he hd]
    exact run_bytes l w' h'
theorem toList_str (l : List UInt8) : (ByteArray.mk l.toArray).toList = l := by
  exact ByteArray.toList_mk l
theorem guard_str (op : BinOp) (t : TypeId) (x y : Operand) (m n : ByteArray) : eqGuard op t x y (.string m) (.string n) = pure () := by cases op <;> rfl
theorem Yd.seq {ty t t' x y} {l m : List UInt8} (hx : ev σ x = some (Str l)) (hy : ev σ y = some (Str m)) : Yd P σ (.binOp .eql t x y t') ty (.bool (decide (l = m))) w :=
  yd_bin hx hy (guard_str _ _ _ _ _ _) fun w' => by
    have : (l == m) = decide (l = m) := by by_cases h : l = m <;> simp [h]
    simp [binOp, Op.stringOp, toList_str, this]
theorem Yd.sne {ty t t' x y} {l m : List UInt8} (hx : ev σ x = some (Str l)) (hy : ev σ y = some (Str m)) : Yd P σ (.binOp .neq t x y t') ty (.bool (decide (l ≠ m))) w :=
  yd_bin hx hy (guard_str _ _ _ _ _ _) fun w' => by
    have : (!(l == m)) = decide (l ≠ m) := by by_cases h : l = m <;> simp [h]
    simp [binOp, Op.stringOp, toList_str, this]
theorem Yd.sidx {ty t x y k i} {l : List UInt8} (hu : P.underlying t = some .string) (hx : ev σ x = some (Str l)) (hy : ev σ y = some (.int k i)) (hi : 0 ≤ i ∧ i < l.length) : Yd P σ (.index t x y) ty (B (l.getD i.toNat 0)) w :=
  yd_v (fun ρ => Instr.index t (ρ x) (ρ y)) (fun _ _ _ _ _ => rfl) fun N ds a w' hf he => by
    have hlt : i.toNat < l.length := by omega
    have hg : (ByteArray.mk l.toArray)[i.toNat]? = some (l.getD i.toNat 0) := by
      rw [getElem?_pos (ByteArray.mk l.toArray) i.toNat (by simpa [ByteArray.size] using hlt)]
      rw [List.getD_eq_getElem?_getD, List.getElem?_eq_getElem hlt]
      rfl
    simp [hf.ev hx, hf.ev hy, Instr.index, asIntOf, run_underlying hu, hi.1, hg]

/-! ### Memory of the call's own -/
theorem oneCell_B (x : UInt8) : (B x).oneCell' = true := rfl
theorem Ye.make {ty t e x y n z by' k k'} (base : Nat) (hu : P.underlying t = some (.slice e)) (hz : TI P e z 1 by') (hx : ev σ x = some (.int k n)) (hy : ev σ y = some (.int k' n)) (hn : 0 ≤ n) (hb : by' * n.toNat ≤ 281474976710656) (h63 : n.toNat ≤ maxLen)
    (hz1 : z.cells = #[z]) (hbase : base ≤ w.heap.size) : Ye P σ (.makeSlice t x y) ty w fun v w1 => Ow base e w1 v (List.replicate n.toNat z) ∧ Ext w w1 := fun N ds a w' dst pos after g next Q hf hs hk => by
  obtain ⟨j, hj, hj0, hj1, hj2⟩ := hz.out
  obtain ⟨m, rfl⟩ := Int.eq_ofNat_of_zero_le hn
  obtain ⟨w2, h1, h2, h3⟩ := run_make_full (P := P) w' base t e j z 1 hu hj hj0 hj1 k k' m (by rw [hj2]; exact hb) h63 (by rw [hs.heap]; exact hbase)
  unfold Oper.wp
  have : (execOp a.eval ⟨dst, .makeSlice t x y, ty, pos, after, g⟩).run P w' = .ok (.value (.slice (some ⟨w'.heap.size, 0, none⟩) m m)) w2 := by
    simp only [execOp, hf.ev hx, hf.ev hy]
    rw [Sem.run_bind, show ((m : Int)) = ((m : Nat) : Int) from rfl, h1]; rfl
  rw [this]
  refine hk _ w2 w2 ⟨?_, hs.ext.trans (ext_grown h3)⟩ (Same.refl _)
  simp only [Int.toNat_natCast]
  unfold Ow
  rw [List.length_replicate]
  rwa [Nat.mul_one, hz1, toList_madeCells_one] at h2
theorem Ow.lt {base E w s xs} (h : Ow base E w s xs) : ∀ k, s.ownBlock = some k → base ≤ k ∧ k < w.heap.size := World.ownsRow.lt h
theorem Ye.append {ty t e x y s r xs ys z by' base} (hu : P.underlying t = some (.slice e)) (hz : TI P e z 1 by') (hz1 : z.cells.size = 1) (hx : ev σ x = some s) (hy : ev σ y = some r) (ho : Ow base e w s xs) (hr : Rd w r ys)
    (h1 : ∀ v ∈ ys, v.oneCell' = true) (h63 : xs.length + ys.length ≤ maxLen) (hb : (xs.length + ys.length) * by' ≤ 140737488355328) (hbase : base ≤ w.heap.size) :
    Ye P σ (.call ⟨.builtin .append, #[x, y], #[t, t]⟩) ty w fun v w1 => Ow base e w1 v (xs ++ ys) ∧ w.grownBy w1 s.ownBlock :=
  ye_bi (vs := [s, r]) (Builtin.append_ #[t, t] ty) (by simp [evs, hx, hy]) (fun _ _ => rfl) fun w' hs => by
    obtain ⟨j, hj, hj0, hj1, hj2⟩ := hz.out
    have ho' : w'.ownsRow base e 1 s xs.length xs := Ow.ext ho hs.ext
    obtain ⟨p, c, rfl, h2, h3, h4⟩ := Rd.ext hr hs.ext
    have hgs : w.grownBy w' none := grown_ext hs.ext
    cases p with
    | none =>
      have : ys = [] := by
        cases ys with
        | nil => rfl
        | cons x l => obtain ⟨b, o, hp, _⟩ := h4 0 x (by simp); cases hp
      subst this
      have hc := h3 rfl
      subst hc
      have hrun := run_append_owned_none (P := P) w' base t ty e j 1 hu hj s xs.length xs ho'
      refine ⟨s, w', w', hrun, Same.refl _, ?_, hgs.os, hgs.tape, hgs.output, hgs.size, fun k hk _ => hgs.block k hk (by simp)⟩
      rw [List.append_nil]; exact ho'
    | some ad =>
      obtain ⟨v', w2, hrun, h5, h6, _⟩ := run_append_own (P := P) w' base t ty e j z 1 by' hu hj hj0 hj1 hj2 hz1 (by omega) s xs.length xs ho' ad ys.length c ys (by simp)
        (fun k u hku => by obtain ⟨b, o, hp, hc⟩ := h4 k u hku; cases hp; rw [add_at]; exact hc) h1 h63 hb (by rw [hs.heap]; exact hbase)
      refine ⟨v', w2, w2, hrun, Same.refl _, ?_, h6.os.trans hs.os, h6.tape.trans hs.tape, h6.output.trans hs.output, ?_, fun k hk hne => ?_⟩
      · unfold Ow; rw [List.length_append]; exact h5
      · have := h6.size; rw [hs.heap] at this; exact this
      · rw [h6.block k (by rw [hs.heap]; exact hk) hne, hs.heap]
/-- A store into a row of the call's own. -/
theorem run_store1 {t : TypeId} {a : Addr} {v u : Value} {z by'} (ht : TI P t z 1 by') (hv : v.cells = #[v]) (h1 : v.oneCell' = true) (w' : World) (hc : w'.cell? a = some u) (hfr : w'.frozen? a = false) :
    (Instr.storeAt t (.pointer (some a)) v).run P w' = .ok () (w'.setCell a v) := by
  obtain ⟨j, hj, hj0, hj1, _⟩ := ht.out
  cases v <;> first
    | (simp [Value.oneCell'] at h1; done)
    | (simp [Instr.storeAt, Instr.sureAddr, storeVar, sizeOf, typeInfo, hj, hj1, hv, storeCells, Addr.add, store, Sem.run, hc, hfr])
theorem ye_store {ty x y t a v} {Φ : World → Prop} (hx : ev σ x = some (.pointer (some a))) (hy : ev σ y = some v)
    (h : ∀ w', Same w w' → ∃ w2 w3, (Instr.storeAt t (.pointer (some a)) v).run P w' = .ok () w2 ∧ Same w3 w2 ∧ Φ w3) : Ye P σ (.store t x y) ty w fun _ w1 => Φ w1 := fun N ds a' w' dst pos after g next Q hf hs hk => by
  obtain ⟨w2, w3, h1, h2, h3⟩ := h w' hs
  unfold Oper.wp
  have : (execOp a'.eval ⟨dst, .store t x y, ty, pos, after, g⟩).run P w' = .ok .skip w2 := by
    simp only [execOp, hf.ev hx, hf.ev hy]
    rw [Sem.run_bind, h1]; rfl
  rw [this]
  exact hk undef w3 w2 h3 h2
theorem Ye.storeOw {ty x y t e s xs v z by' base i} (ht : TI P t z 1 by') (hx : ev σ x = some (.pointer (some (adr s i)))) (hy : ev σ y = some v) (ho : Ow base e w s xs) (hi : i < xs.length) (hv : v.cells = #[v]) (h1 : v.oneCell' = true) :
    Ye P σ (.store t x y) ty w fun _ w1 => Ow base e w1 s (xs.set i v) ∧ w.grownBy w1 s.ownBlock := by
  refine ye_store hx hy fun w' hs => ?_
  have ho' : w'.ownsRow base e 1 s xs.length xs := Ow.ext ho hs.ext
  obtain ⟨u, hu⟩ : ∃ u, xs[i]? = some u := ⟨_, List.getElem?_eq_getElem hi⟩
  have hc := Rd.cell (Ow.rd (show Ow base e w' s xs from ho')) hu
  rcases id ho'.2 with ⟨_, h0⟩ | ⟨g, cap, cur, rfl, hb, hg, hn, hm, hcs, htk⟩
  · omega
  · have ha : adr (.slice (some ⟨g, 0, none⟩) xs.length cap) i = ⟨g, i, none⟩ := by show Addr.add _ _ = _; rw [add_at, Nat.zero_add]
    rw [ha] at hc
    have hfr := World.ownsRow.frozenAt ho' i
    refine ⟨_, w'.setCell ⟨g, i, none⟩ v, by rw [ha]; exact run_store1 ht hv h1 w' hc hfr, Same.refl _, ?_, hs.os, hs.tape, hs.output, ?_, fun k hk hne => ?_⟩
    · have := (World.ownsRow.stored ho' i v)
      unfold Ow; rw [List.length_set]; exact this.1
    · rw [← hs.heap]; simp [World.setCell]
    · have : k ≠ g := by intro e; subst e; exact hne rfl
      rw [← hs.heap]
      exact Below.heap_setCell _ _ _ _ this
theorem Own.setCell {w : World} {b T L} (h : Own w b T L) (i : Nat) (v : Value) : Own (w.setCell ⟨b, i, none⟩ v) b T (L.set i v) := by
  unfold Own World.setCell
  simp only [Array.getElem?_modify, show w.heap[b]? = _ from h]
  simp
theorem Own.frozen {w b T L} (h : Own w b T L) (i : Nat) : w.frozen? ⟨b, i, none⟩ = false := by
  unfold World.frozen?; rw [show w.heap[b]? = _ from h]; simp
theorem Ye.store {ty x y t b i T L v z by'} (ht : TI P t z 1 by') (hx : ev σ x = some (.pointer (some ⟨b, i, none⟩))) (hy : ev σ y = some v) (ho : Own w b T L) (hi : i < L.length) (hv : v.cells = #[v]) (h1 : v.oneCell' = true) :
    Ye P σ (.store t x y) ty w fun _ w1 => Own w1 b T (L.set i v) ∧ Upd b w w1 := by
  refine ye_store hx hy fun w' hs => ?_
  have ho' : Own w' b T L := ho.ext hs.ext
  have hc := ho'.cell (List.getElem?_eq_getElem hi)
  refine ⟨_, w'.setCell ⟨b, i, none⟩ v, run_store1 ht hv h1 w' hc (ho'.frozen i), Same.refl _, ho'.setCell i v, hs.os, hs.tape, hs.output, ?_, fun k hne => ?_⟩
  · rw [← hs.heap]; simp [World.setCell]
  · rw [← hs.heap]; exact Below.heap_setCell _ _ _ _ hne
end
end Go.X
