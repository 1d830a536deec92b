/-
  Structs built of what is known, literals of any length, and regions whose operations come up in whatever order, each told by what it leaves.
-/
import Derived.Test.YtipbmjbdmpcgoaaX14
set_option linter.unusedVariables false
set_option linter.unusedSimpArgs false
namespace Go.X
open Go.RowKit
/-! ### Structs -/
/-- Values that fill a struct's places one behind the other. -/
def OffOK (pl : List (Nat × Nat)) : Nat → Nat → List Value → Prop
  | _, _, [] => True
  | k, o, v :: r => pl[k]? = some (o, v.cells.size) ∧ OffOK pl (k + 1) (o + v.cells.size) r
def catV (vs : List Value) : List Value := vs.flatMap fun v => v.cells.toList
theorem splice_fold : ∀ (l : List Value) (o : Nat) (pre mid post : List Value), mid.length = l.length → o = pre.length →
    (l.zipIdx).foldl (fun (cs : Array Value) x => cs.setIfInBounds (o + x.2) x.1) (pre ++ mid ++ post).toArray = (pre ++ l ++ post).toArray := by
  intro l
  suffices h : ∀ (l : List Value) (k o : Nat) (pre mid post : List Value), mid.length = l.length → o + k = pre.length →
      (l.zipIdx k).foldl (fun (cs : Array Value) x => cs.setIfInBounds (o + x.2) x.1) (pre ++ mid ++ post).toArray = (pre ++ l ++ post).toArray from
    fun o pre mid post h1 h2 => h l 0 o pre mid post h1 (by omega)
  intro l
  induction l with
  | nil =>
    intro k o pre mid post h1 h2
    have : mid = [] := List.eq_nil_of_length_eq_zero h1
    subst this; rfl
  | cons v l ih =>
    intro k o pre mid post h1 h2
    cases mid with
    | nil => cases h1
    | cons m mid =>
      simp only [List.zipIdx_cons, List.foldl_cons]
      have e : (pre ++ m :: mid ++ post).toArray.setIfInBounds (o + k) v = ((pre ++ [v]) ++ mid ++ post).toArray := by
        rw [h2]; simp
      rw [e, ih (k + 1) o (pre ++ [v]) mid post (by simpa using h1) (by simp; omega)]
      simp
theorem fill_seq (pl : List (Nat × Nat)) : ∀ (vs : List Value) (k : Nat) (pre post : List Value), OffOK pl k pre.length vs → post.length = (catV vs).length →
    Instr.fill (pl.toArray[·]?) (pre ++ post).toArray ((List.range' k vs.length).zip vs) = some (pre ++ catV vs).toArray
  | [], k, pre, post, _, hl => by
    have : post = [] := List.eq_nil_of_length_eq_zero hl
    subst this; simp [Instr.fill, catV]
  | v :: vs, k, pre, post, ho, hl => by
    obtain ⟨h1, h2⟩ := ho
    have hcat : catV (v :: vs) = v.cells.toList ++ catV vs := by simp [catV]
    rw [hcat, List.length_append] at hl
    simp only [List.length_cons, List.range'_succ, List.zip_cons_cons, Instr.fill]
    have h1' : pl.toArray[k]? = some (pre.length, v.cells.size) := by simpa using h1
    rw [h1']
    have hc : ¬ ((decide (v.cells.size ≠ v.cells.size) || decide (pre.length + v.cells.size > (pre ++ post).toArray.size)) = true) := by
      simp at hl ⊢; omega
    simp only [hc, if_false]
    have hs : (v.cells.zipIdx.foldl (fun cs x => cs.setIfInBounds (pre.length + x.2) x.1) (pre ++ post).toArray) = ((pre ++ v.cells.toList) ++ post.drop v.cells.size).toArray := by
      have := splice_fold v.cells.toList pre.length pre (post.take v.cells.size) (post.drop v.cells.size) (by simp; simp at hl; omega) rfl
      rw [List.append_assoc pre, List.take_append_drop] at this
      rw [← this]
      rw [← Array.foldl_toList]; simp
    rw [hs]
    have ih := fill_seq pl vs (k + 1) (pre ++ v.cells.toList) (post.drop v.cells.size) (by simpa using h2) (by simp at hl ⊢; omega)
    rw [hcat, ← List.append_assoc]
    exact ih
theorem cells_agg (xs : Array Value) : (Value.agg xs).cells = xs := rfl
theorem cells_int (k : IntKind) (n : Int) : (Value.int k n).cells = #[.int k n] := rfl
theorem cells_ptr (p : Option Addr) : (Value.pointer p).cells = #[.pointer p] := rfl
theorem cells_bool (b : Bool) : (Value.bool b).cells = #[.bool b] := rfl
def segsOf : Nat → List (List Value) → Segs
  | _, [] => []
  | o, b :: r => (o, b.length, b) :: segsOf (o + b.length) r
theorem segsOf_ok : ∀ (bs : List (List Value)) (pre : List Value), SegAll (pre ++ bs.flatten) (segsOf pre.length bs)
  | [], pre => trivial
  | b :: r, pre => by
    refine ⟨⟨rfl, by simp, by simp⟩, ?_⟩
    have := segsOf_ok r (pre ++ b)
    simpa [List.append_assoc] using this
theorem box_segs (bs : List (List Value)) : SegAll bs.flatten (segsOf 0 bs) := by simpa using segsOf_ok bs []
section
variable {P : Program} {N : Nat} {ds : List Deferred} {σ : Env} {w : World} {Q : Exit → Act → World → Prop} {K : Act → World → Prop} {ops : Array Oper}
theorem Yd.buildV {ty t fs parts vs zt bt n pl} (hu : P.underlying t = some (.struct fs)) (hpl : places P fs = some pl) (ht : TI P t zt n bt) (hx : evs σ (parts.toList.map (·.2)) = some vs)
    (hi : parts.toList.map (·.1) = List.range' 0 vs.length) (ho : OffOK pl 0 0 vs) (hz : zt.cells.size = (catV vs).length) : Yd P σ (.build t parts) ty (.agg (catV vs).toArray) w :=
  Yd.buildS hu hpl ht hx (by
    rw [hi]
    have := fill_seq pl vs 0 [] zt.cells.toList ho (by simpa using hz)
    simpa using this)
theorem Cel.eq {w b T} {S S' : Segs} (h : Cel w b T S) (e : S = S') : Cel w b T S' := e ▸ h
theorem idx_u8 (x : UInt8) : 0 ≤ (x.toNat : Int) ∧ (x.toNat : Int) < ((256 : Nat) : Int) := by have := x.toNat_lt; omega
theorem idx_u8' (x : UInt8) : ((x.toNat : Int)).toNat < 256 := by have := x.toNat_lt; omega
theorem asl_eq {b o n l l' h h' : Nat} (e1 : l = l') (e2 : h = h') : asl b o n l h = asl b o n l' h' := by subst e1; subst e2; rfl
theorem Yd.sliceA4 {ty t x e n b o lo hi k k' l h} (hu : P.underlying t = some (.array n e)) {z by'} (hz : TI P e z 1 by') (hx : ev σ x = some (.pointer (some ⟨b, o, none⟩))) (hlo : ev σ lo = some (.int k l)) (hhi : ev σ hi = some (.int k' h)) (hb : 0 ≤ l ∧ l ≤ h ∧ h ≤ (n : Int)) :
    Yd P σ (.slice t x (some lo) (some hi) none) ty (asl b o n l.toNat h.toNat) w :=
  yd_v (fun ρ => Instr.sliceAt t (ρ x) (some (ρ lo)) (some (ρ hi)) none) (fun _ _ _ _ _ => rfl) fun N ds a w' hf he => by
    obtain ⟨j, hj, _, hj1, _⟩ := hz.out
    simp only [hf.ev hx, hf.ev hlo, hf.ev hhi]
    have b1 := run_sliceBound (P := P) w' k' h n .sliceAcap (by omega) (by omega)
    obtain ⟨h', rfl⟩ := Int.eq_ofNat_of_zero_le (show 0 ≤ h by omega)
    obtain ⟨l', rfl⟩ := Int.eq_ofNat_of_zero_le (show 0 ≤ l by omega)
    have c1 : ∀ c, (Instr.sliceBound (.int k' (h' : Int)) n c).run P w' = .ok h' w' := fun c => by have := run_sliceBound (P := P) w' k' (h' : Int) n c (by omega) (by omega); simpa using this
    have c2 : ∀ c, (Instr.sliceBound (.int k (l' : Int)) h' c).run P w' = .ok l' w' := fun c => by have := run_sliceBound (P := P) w' k (l' : Int) h' c (by omega) (by omega); simpa using this
    simp [Instr.sliceAt, run_underlying hu, Instr.sureAddr, Instr.sliceBounds, sizeOf, typeInfo, hj, hj1, add_at, asl, c1, c2]
theorem Yd.sliceAL {ty t x e n b o lo k l} (hu : P.underlying t = some (.array n e)) {z by'} (hz : TI P e z 1 by') (hx : ev σ x = some (.pointer (some ⟨b, o, none⟩))) (hlo : ev σ lo = some (.int k l)) (hb : 0 ≤ l ∧ l ≤ (n : Int)) :
    Yd P σ (.slice t x (some lo) none none) ty (asl b o n l.toNat n) w :=
  yd_v (fun ρ => Instr.sliceAt t (ρ x) (some (ρ lo)) none none) (fun _ _ _ _ _ => rfl) fun N ds a w' hf he => by
    obtain ⟨j, hj, _, hj1, _⟩ := hz.out
    simp only [hf.ev hx, hf.ev hlo]
    obtain ⟨l', rfl⟩ := Int.eq_ofNat_of_zero_le (show 0 ≤ l by omega)
    have c2 : ∀ c, (Instr.sliceBound (.int k (l' : Int)) n c).run P w' = .ok l' w' := fun c => by have := run_sliceBound (P := P) w' k (l' : Int) n c (by omega) (by omega); simpa using this
    simp [Instr.sliceAt, run_underlying hu, Instr.sureAddr, Instr.sliceBounds, sizeOf, typeInfo, hj, hj1, add_at, asl, c2]
theorem Yd.arrPB {ty t x n e s} {l : List UInt8} (hu : P.underlying t = some (.array n e)) (hx : ev σ x = some s) (h : Bs w s l) (hn : n ≤ l.length) : Yd P σ (.sliceToArrayPointer t x) ty (ptrOf s) w := Yd.arrP hu hx h (by simpa using hn)
theorem Yd.loadPB {ty t x s n z by'} {l : List UInt8} (ht : agg P t = true) (hz : TI P t z n by') (hx : ev σ x = some (ptrOf s)) (h : Bs w s l) (hn : n ≤ l.length) (h0 : Nat.blt 0 n = true) : Yd P σ (.load t x) ty (Ag (fun x : UInt8 => B x) (l.take n)) w :=
  Yd.cast (Yd.loadP ht hz hx h (by simpa using hn) h0) (by rw [← List.map_take])
theorem Ye.litM {α : Type} {f : α → Value} (l : List α) {ty t e n z by' base} {parts : Array (Nat × Operand)} (hu : P.underlying t = some (.slice e)) (hz : TI P e z 1 by') (hz1 : z.cells = #[z]) (hp : evs σ (parts.toList.map (·.2)) = some (l.map f))
    (hi : parts.toList.map (·.1) = List.range' 0 (l.map f).length) (hn : n = (l.map f).length) (hc : ∀ u, (f u).cells = #[f u]) (hn24 : Nat.ble n 16777216 = true) (hbase : base ≤ w.heap.size) : Ye P σ (.buildSlice t n parts) ty w fun v w1 => Ow base e w1 v (l.map f) ∧ Ext w w1 :=
  Ye.lit hu hz hz1 hp hi hn (fun v hv => by obtain ⟨u, _, rfl⟩ := List.mem_map.1 hv; exact hc u) hn24 hbase
/-- A literal's bytes as those of a string. -/
theorem Ye.mark {ty s d x e v xs base} (hs : P.underlying s = some (.slice e)) (hd : P.underlying d = some (.slice e)) (hsd : (s == d) = true) (he : P.underlying e = some (.int .u8)) (hx : ev σ x = some v) (ho : Ow base e w v xs) (h0 : Nat.blt 0 xs.length = true) :
    Ye P σ (.convert s d x) ty w fun u w1 => u = v ∧ Rv w1 v xs ∧ w.grownBy w1 v.ownBlock := fun N ds a w' dst pos after g next Q hf hS hk => by
  have h0' : 0 < xs.length := by simpa [Nat.blt_eq] using h0
  have ho' : Ow base e w' v xs := ho.ext hS.ext
  rcases id ho'.2 with ⟨_, h1⟩ | ⟨g0, cap, cur, rfl, hbg, hg, hnc, hcm, hcs, htk⟩
  · omega
  have hrd := ho'.rd
  have hconv : (convert s d (.slice (some ⟨g0, 0, none⟩) xs.length cap)).run P w' = .ok (.slice (some ⟨g0, 0, none⟩) xs.length cap) (w'.freeze ⟨g0, cur.size, none⟩ 1) := by
    simp [convert, run_underlying hs, run_underlying hd, run_underlying he, hsd, markStringish, World.shape?, hg]
  unfold Oper.wp
  have : (execOp a.eval ⟨dst, .convert s d x, ty, pos, after, g⟩).run P w' = .ok (.value (.slice (some ⟨g0, 0, none⟩) xs.length cap)) (w'.freeze ⟨g0, cur.size, none⟩ 1) := by
    simp only [execOp, hf.ev hx]
    rw [Sem.run_bind, hconv]; rfl
  rw [this]
  have hother : ∀ k, k ≠ g0 → (w'.freeze ⟨g0, cur.size, none⟩ 1).heap[k]? = w'.heap[k]? := fun k hk => by
    unfold World.freeze
    rw [if_neg (by decide)]
    simp only [Array.getElem?_modify]
    rw [if_neg (fun e => hk e.symm)]
  have hsz : (w'.freeze ⟨g0, cur.size, none⟩ 1).heap.size = w'.heap.size := by unfold World.freeze; rw [if_neg (by decide)]; simp
  have hcell : ∀ o, (w'.freeze ⟨g0, cur.size, none⟩ 1).cell? ⟨g0, o, none⟩ = w'.cell? ⟨g0, o, none⟩ := fun o => by
    unfold World.cell? World.freeze
    rw [if_neg (by decide)]
    simp [Array.getElem?_modify, hg]
  refine hk _ _ _ ⟨rfl, ⟨?_, fun k hk => ?_⟩, ?_⟩ (Same.refl _)
  · obtain ⟨p, c, h1, h2, h3, h4⟩ := hrd
    cases h1
    refine ⟨_, _, rfl, h2, h3, fun i u hu => ?_⟩
    obtain ⟨b, o, hp, hc⟩ := h4 i u hu
    cases hp
    exact ⟨_, _, rfl, by rw [hcell]; exact hc⟩
  · rw [hsz]; exact ho'.live k hk
  · refine ⟨?_, ?_, ?_, by rw [hsz, hS.heap]; exact Nat.le_refl _, fun k _ hne => ?_⟩
    · unfold World.freeze; rw [if_neg (by decide)]; exact hS.os
    · unfold World.freeze; rw [if_neg (by decide)]; exact hS.tape
    · unfold World.freeze; rw [if_neg (by decide)]; exact hS.output
    · rw [hother k (fun e => hne (by simp [Value.ownBlock, e])), hS.heap]
end
/-! ### Any order -/
structure Asr where
  slot : Nat
  ι : Type
  val : ι → Value
  Φ : ι → World → Prop
  stab : ∀ x w w', Φ x w → Ext w w' → Φ x w'
def Asr.holds (A : Asr) (a : Act) (w : World) : Prop := ∃ x, a.tmps.getD A.slot undef = A.val x ∧ A.Φ x w
abbrev Asr.v (t : Nat) (u : Value) : Asr := ⟨t, Unit, fun _ => u, fun _ _ => True, fun _ _ _ _ _ => trivial⟩
abbrev Asr.own (t base : Nat) (E : TypeId) (xs : List Value) : Asr := ⟨t, Value, fun v => v, fun v w => Ow base E w v xs, fun _ _ _ h he => Ow.ext h he⟩
abbrev Asr.rd (t : Nat) (xs : List Value) : Asr := ⟨t, Value, fun v => v, fun v w => Rd w v xs, fun _ _ _ h he => Rd.ext h he⟩
abbrev Asr.new (t n : Nat) (T : TypeId) (S : Segs) : Asr := ⟨t, Nat, fun b => .pointer (some ⟨b, 0, none⟩), fun b w => n ≤ b ∧ Cel w b T S, fun _ _ _ h he => ⟨h.1, h.2.ext he⟩⟩
abbrev Asr.rl (t : Nat) (vs : List Value) (ll : List (List UInt8)) : Asr := ⟨t, Value, fun v => v, fun v w => Rl w v vs ll, fun _ _ _ h he => Rl.ext h he⟩
def PremP (M : List (Nat × Asr)) : List Nat → Env → World → (Env → Prop) → Prop
  | [], σ, _, G => G σ
  | k :: r, σ, w, G => match M[k]? with
    | some p => ∀ x, p.2.Φ x w → PremP M r ((p.2.slot, p.2.val x) :: σ) w G
    | none => PremP M r σ w G
section
variable {P : Program} {N : Nat} {ds : List Deferred} {σ : Env} {w : World} {Q : Exit → Act → World → Prop} {K : Act → World → Prop} {ops : Array Oper}
theorem Fits.more {σ a} (h : Fits N ds σ a) {t : Nat} {v : Value} (hv : a.tmps.getD t undef = v) : Fits N ds ((t, v) :: σ) a := ⟨h.size, h.defers, fun u x hx => by
  rw [Env.get_cons] at hx
  split at hx
  · rename_i e; subst e; have e2 := Option.some.inj hx; subst e2; exact hv
  · exact h.vals _ _ hx⟩
theorem PremP.elim {M : List (Nat × Asr)} {a : Act} {G : Env → Prop} : ∀ (D : List Nat) (σ : Env), PremP M D σ w G → Fits N ds σ a → (∀ k ∈ D, ∀ p, M[k]? = some p → p.2.holds a w) → ∃ σ', Fits N ds σ' a ∧ G σ'
  | [], σ, h, hf, _ => ⟨σ, hf, h⟩
  | k :: r, σ, h, hf, hD => by
    unfold PremP at h
    cases hk : M[k]? with
    | none => rw [hk] at h; exact PremP.elim r σ h hf (fun j hj p hp => hD j (by simp [hj]) p hp)
    | some p =>
      rw [hk] at h
      obtain ⟨x, h1, h2⟩ := hD k (by simp) p hk
      exact PremP.elim r _ (h x h2) (hf.more h1) (fun j hj p hp => hD j (by simp [hj]) p hp)
theorem PremP.nil {M : List (Nat × Asr)} {G : Env → Prop} (h : G σ) : PremP M [] σ w G := h
theorem PremP.c {M : List (Nat × Asr)} {G : Env → Prop} {k : Nat} {r : List Nat} {p : Nat × Asr} (hk : M[k]? = some p) (h : ∀ x, p.2.Φ x w → PremP M r ((p.2.slot, p.2.val x) :: σ) w G) : PremP M (k :: r) σ w G := by
  unfold PremP; rw [hk]; exact h
theorem PremP.v {M : List (Nat × Asr)} {G : Env → Prop} {k i t : Nat} {r : List Nat} {u : Value} (hk : M[k]? = some (i, Asr.v t u)) (h : PremP M r ((t, u) :: σ) w G) : PremP M (k :: r) σ w G := PremP.c hk fun _ _ => h
theorem PremP.own {M : List (Nat × Asr)} {G : Env → Prop} {k i t base E : Nat} {r : List Nat} {xs : List Value} (hk : M[k]? = some (i, Asr.own t base E xs)) (h : ∀ v, Ow base E w v xs → PremP M r ((t, v) :: σ) w G) : PremP M (k :: r) σ w G := PremP.c hk fun x hx => h x hx
theorem PremP.rd {M : List (Nat × Asr)} {G : Env → Prop} {k i t : Nat} {r : List Nat} {xs : List Value} (hk : M[k]? = some (i, Asr.rd t xs)) (h : ∀ v, Rd w v xs → PremP M r ((t, v) :: σ) w G) : PremP M (k :: r) σ w G := PremP.c hk fun x hx => h x hx
theorem PremP.new {M : List (Nat × Asr)} {G : Env → Prop} {k i t n T : Nat} {r : List Nat} {S : Segs} (hk : M[k]? = some (i, Asr.new t n T S)) (h : ∀ b, n ≤ b → Cel w b T S → PremP M r ((t, .pointer (some ⟨b, 0, none⟩)) :: σ) w G) : PremP M (k :: r) σ w G := PremP.c hk fun x hx => h x hx.1 hx.2
theorem PremP.rl {M : List (Nat × Asr)} {G : Env → Prop} {k i t : Nat} {r : List Nat} {vs : List Value} {ll : List (List UInt8)} (hk : M[k]? = some (i, Asr.rl t vs ll)) (h : ∀ v, Rl w v vs ll → PremP M r ((t, v) :: σ) w G) : PremP M (k :: r) σ w G := PremP.c hk fun x hx => h x hx
/-- What an operation leaves, told by an assertion. -/
def OpYe (P : Program) (ops : Array Oper) (i : Nat) (A : Asr) (σ : Env) (w : World) : Prop :=
  ∃ op ty pos after g, ops[i]? = some ⟨some A.slot, op, ty, pos, after, g⟩ ∧ (g = none ∨ ∃ j b t, g = some (j, b) ∧ (ops[j]?).bind (·.dst) = some t ∧ σ.get t = some (.bool b) ∧ ∀ a : Act, Fits N ds σ a → yielded ops a.tmps j = some b) ∧
    Ye P σ op ty w fun v w1 => (∃ x, v = A.val x ∧ A.Φ x w1) ∧ Ext w w1
theorem OpYe.mk {i : Nat} {A : Asr} {op ty pos after} (h : ops[i]? = some ⟨some A.slot, op, ty, pos, after, none⟩) (hy : Ye P σ op ty w fun v w1 => (∃ x, v = A.val x ∧ A.Φ x w1) ∧ Ext w w1) : OpYe (N := N) (ds := ds) P ops i A σ w := ⟨_, _, _, _, _, h, .inl rfl, hy⟩
theorem OpYe.mkg {i : Nat} {A : Asr} {op ty pos after j t b} (h : ops[i]? = some ⟨some A.slot, op, ty, pos, after, some (j, b)⟩) (hj : (ops[j]?).bind (·.dst) = some t) (hg : σ.get t = some (.bool b)) (hN : Nat.blt t N = true)
    (hy : Ye P σ op ty w fun v w1 => (∃ x, v = A.val x ∧ A.Φ x w1) ∧ Ext w w1) : OpYe (N := N) (ds := ds) P ops i A σ w := ⟨_, _, _, _, _, h, .inr ⟨j, b, t, rfl, hj, hg, fun a hf => hf.yielded hj hg hN⟩, hy⟩
theorem OpYe.val {i : Nat} {t : Nat} {u : Value} {op ty pos after} (h : ops[i]? = some ⟨some t, op, ty, pos, after, none⟩) (hy : Yd P σ op ty u w) : OpYe (N := N) (ds := ds) P ops i (Asr.v t u) σ w :=
  OpYe.mk h (hy.ye.mono fun v w1 h => ⟨⟨(), h.1, trivial⟩, by rw [h.2]; exact Ext.refl _⟩)
theorem OpYe.valg {i : Nat} {t : Nat} {u : Value} {op ty pos after j s b} (h : ops[i]? = some ⟨some t, op, ty, pos, after, some (j, b)⟩) (hj : (ops[j]?).bind (·.dst) = some s) (hg : σ.get s = some (.bool b)) (hN : Nat.blt s N = true) (hy : Yd P σ op ty u w) : OpYe (N := N) (ds := ds) P ops i (Asr.v t u) σ w :=
  OpYe.mkg h hj hg hN (hy.ye.mono fun v w1 h => ⟨⟨(), h.1, trivial⟩, by rw [h.2]; exact Ext.refl _⟩)
def Prems (P : Program) (N : Nat) (ds : List Deferred) (ops : Array Oper) (M : List (Nat × Asr)) (σ : Env) (w : World) : List (Nat × Asr) → List (List Nat) → Prop
  | p :: r, D :: q => (∀ w1, Ext w w1 → PremP M D σ w1 fun σ' => OpYe (N := N) (ds := ds) P ops p.1 p.2 σ' w1) ∧ Prems P N ds ops M σ w r q
  | [], [] => True
  | _, _ => False
theorem Prems.get {M : List (Nat × Asr)} : ∀ {r : List (Nat × Asr)} {q : List (List Nat)} {k : Nat} {p D}, Prems P N ds ops M σ w r q → r[k]? = some p → q[k]? = some D → ∀ w1, Ext w w1 → PremP M D σ w1 fun σ' => OpYe (N := N) (ds := ds) P ops p.1 p.2 σ' w1
  | [], [], k, p, D, _, h, _ => by cases k <;> cases h
  | [], _ :: _, k, p, D, h, _, _ => h.elim
  | _ :: _, [], k, p, D, h, _, _ => h.elim
  | p :: r, D :: q, 0, p', D', h, h1, h2 => by cases h1; cases h2; exact h.1
  | p :: r, D :: q, k + 1, p', D', h, h1, h2 => Prems.get h.2 h1 h2
/-- The check: l1 in order; the others of M wait for what they are told to know; what is beyond waits for all of M. -/
def depsB (md : Region.Mode) (ops : Array Oper) (M : List Nat) : List Nat → List (List Nat) → Bool
  | i :: r, D :: q => (D.all fun k => match M[k]? with | some m => reach md ops ops.size i m | none => false) && depsB md ops M r q
  | [], [] => true
  | _, _ => false
theorem depsB_get {md : Region.Mode} {M : List Nat} : ∀ {r : List Nat} {q : List (List Nat)} {k : Nat} {i : Nat} {D : List Nat}, depsB md ops M r q = true → r[k]? = some i → q[k]? = some D → ∀ d ∈ D, ∃ m, M[d]? = some m ∧ reach md ops ops.size i m = true
  | [], [], k, i, D, _, h, _ => by cases k <;> cases h
  | [], _ :: _, k, i, D, h, _, _ => by cases h
  | _ :: _, [], k, i, D, h, _, _ => by cases h
  | j :: r, E :: q, 0, i, D, h, h1, h2 => by
    cases h1; cases h2
    unfold depsB at h
    rw [Bool.and_eq_true] at h
    intro d hd
    have := List.all_eq_true.1 h.1 d hd
    cases hm : M[d]? with
    | none => rw [hm] at this; cases this
    | some m => rw [hm] at this; exact ⟨m, rfl, this⟩
  | j :: r, E :: q, k + 1, i, D, h, h1, h2 => by
    unfold depsB at h
    rw [Bool.and_eq_true] at h
    exact depsB_get h.2 h1 h2
theorem depsB_len {md : Region.Mode} {M : List Nat} : ∀ {r : List Nat} {q : List (List Nat)}, depsB md ops M r q = true → q.length = r.length
  | [], [], _ => rfl
  | [], _ :: _, h => by cases h
  | _ :: _, [], h => by cases h
  | _ :: r, _ :: q, h => by
    unfold depsB at h
    rw [Bool.and_eq_true] at h
    simp [depsB_len h.2]
def nodupB : List Nat → Bool
  | [] => true
  | a :: r => !r.contains a && nodupB r
theorem nodup_of : ∀ {l : List Nat}, nodupB l = true → l.Nodup
  | [], _ => List.nodup_nil
  | a :: r, h => by
    unfold nodupB at h
    rw [Bool.and_eq_true] at h
    refine List.nodup_cons.2 ⟨?_, nodup_of h.2⟩
    intro hm
    have := h.1
    simp [hm] at this
def linB (md : Region.Mode) (ops : Array Oper) : List Nat → Array Bool → Bool
  | [], _ => true
  | i :: r, s => (Region.ready md ops s).contains i && linB md ops r (s.setIfInBounds i true)
theorem linB_ready {md : Region.Mode} : ∀ {r : List Nat} {s listed : Array Bool}, linB md ops r s = true → (∀ j, s.getD j false = true → listed.getD j false = true) → (∀ i ∈ r, i < listed.size) → (∃ i ∈ r, listed.getD i true = false) → Region.ready md ops listed ≠ []
  | [], s, listed, _, _, _, h => by obtain ⟨i, hi, _⟩ := h; cases hi
  | i :: r, s, listed, h, hs, hz, hu => by
    unfold linB at h
    rw [Bool.and_eq_true] at h
    have hr : i ∈ Region.ready md ops s := by simpa using h.1
    have hlt := hz i (by simp)
    cases hl : listed.getD i true with
    | false =>
      obtain ⟨_, o, ho, ha⟩ := mem_ready.1 hr
      have : i ∈ Region.ready md ops listed := mem_ready.2 ⟨hl, o, ho, fun e he hb => hs _ (ha e he hb)⟩
      intro e; rw [e] at this; cases this
    | true =>
      have hl' : listed.getD i false = true := by
        rw [Array.getD_eq_getD_getElem?, Array.getElem?_eq_getElem hlt] at hl ⊢; simpa using hl
      refine linB_ready h.2 (fun j hj => ?_) (fun k hk => hz k (by simp [hk])) ?_
      · by_cases hji : i = j
        · subst hji; exact hl'
        · rw [getD_set_ne false hji] at hj; exact hs j hj
      · obtain ⟨k, hk, hk2⟩ := hu
        rcases List.mem_cons.1 hk with rfl | hk
        · rw [hl] at hk2; cases hk2
        · exact ⟨k, hk, hk2⟩
def ordA (md : Region.Mode) (ops : Array Oper) (N : Nat) (l1 : List (Nat × Bool)) (M slots : List Nat) (D : List (List Nat)) (l3 : List (Nat × Bool)) : Bool :=
  let s0 := Array.replicate ops.size false
  let s1 := listAll s0 l1
  let s2 := listAll s1 (M.map fun i => (i, true))
  Region.noSelect ops && Nat.beq (l1.length + (M.length + l3.length)) ops.size && goodSeq md ops l1 s0 && waitsB md ops M s1 && depsB md ops M M D && linB md ops M s1 && nodupB M && nodupB slots && slots.all (fun t => Nat.blt t N) &&
  M.all (fun m => Nat.blt m ops.size && !s1.getD m true) && goodSeq md ops l3 s2 && decide (Region.ready md ops (listAll s2 l3) = [])
def left (M : List Nat) (listed : Array Bool) : Nat := (M.filter fun i => !listed.getD i false).length
theorem left_zero {M : List Nat} {listed : Array Bool} (h : left M listed = 0) : ∀ i ∈ M, listed.getD i false = true := by
  intro i hi
  have h1 := List.eq_nil_of_length_eq_zero h
  have := List.filter_eq_nil_iff.1 h1 i hi
  simpa using this
theorem left_set {M : List Nat} {listed : Array Bool} {i : Nat} (hn : M.Nodup) (hi : i ∈ M) (hu : listed.getD i true = false) : left M listed = left M (listed.setIfInBounds i true) + 1 := by
  have hlt : i < listed.size := by
    rcases Nat.lt_or_ge i listed.size with h | h
    · exact h
    · rw [Array.getD_eq_getD_getElem?, Array.getElem?_eq_none h] at hu; cases hu
  have hf : listed.getD i false = false := getD_both hu
  induction M with
  | nil => cases hi
  | cons a r ih =>
    obtain ⟨h1, h2⟩ := List.nodup_cons.1 hn
    by_cases ha : a = i
    · subst ha
      have e1 : (listed.setIfInBounds a true).getD a false = true := by simp [Array.getD_eq_getD_getElem?, hlt]
      have e2 : r.filter (fun i => !(listed.setIfInBounds a true).getD i false) = r.filter (fun i => !listed.getD i false) := by
        apply List.filter_congr
        intro x hx
        rw [getD_set_ne false (by intro e; subst e; exact h1 hx)]
      unfold left
      rw [List.filter_cons_of_pos (by simp [hf]), List.filter_cons_of_neg (by simp [e1]), e2]
      simp
    · have hi' : i ∈ r := by
        rcases List.mem_cons.1 hi with h | h
        · exact absurd h.symm ha
        · exact h
      have := ih h2 hi'
      unfold left at *
      have e1 : (listed.setIfInBounds i true).getD a false = listed.getD a false := getD_set_ne false (fun e => ha e.symm)
      by_cases hl : listed.getD a false = true
      · rw [List.filter_cons_of_neg (by simp [hl]), List.filter_cons_of_neg (by simp [e1, hl])]; exact this
      · rw [List.filter_cons_of_pos (by simpa using hl), List.filter_cons_of_pos (by rw [e1]; simpa using hl), List.length_cons, List.length_cons, this]
theorem put_getD {a : Act} {d t : Nat} {v : Value} (h : d ≠ t) : (a.put (some d) v).tmps.getD t undef = a.tmps.getD t undef := by
  simp [Act.put, Array.getD_eq_getD_getElem?, Array.getElem?_setIfInBounds_ne h]
theorem put_getD_self {a : Act} {d : Nat} {v : Value} (h : d < a.tmps.size) : (a.put (some d) v).tmps.getD d undef = v := by
  simp [Act.put, Array.getD_eq_getD_getElem?, h]
/-- What stays while those of M come up. -/
structure Mid (N : Nat) (ds : List Deferred) (ops : Array Oper) (M : List (Nat × Asr)) (σ : Env) (w : World) (start listed : Array Bool) (a : Act) (w' : World) : Prop where
  fits : Fits N ds σ a
  ext : Ext w w'
  closed : Inv .any ops [] #[] listed
  low : ∀ j, start.getD j false = true → listed.getD j false = true
  high : ∀ j, listed.getD j false = true → start.getD j false = true ∨ j ∈ M.map (·.1)
  size : listed.size = start.size
  told : ∀ p ∈ M, listed.getD p.1 false = true → p.2.holds a w'
theorem wpAnyM_asr {M : List (Nat × Asr)} {D : List (List Nat)} {start target : Array Bool} {T : Act → World → Prop} (hwait : Waits .any ops (M.map (·.1)) start) (hdeps : depsB .any ops (M.map (·.1)) (M.map (·.1)) D = true) (hlin : linB .any ops (M.map (·.1)) start = true) (hn : (M.map (·.1)).Nodup)
    (hs : (M.map (·.2.slot)).Nodup) (hsl : ∀ p ∈ M, p.2.slot < N) (hfresh : ∀ p ∈ M, σ.get p.2.slot = none) (hun : ∀ p ∈ M, p.1 < start.size ∧ start.getD p.1 true = false) (htarget : ∀ listed : Array Bool, listed.size = start.size → (∀ j, listed.getD j false = true ↔ start.getD j false = true ∨ j ∈ M.map (·.1)) → listed = target)
    (hP : Prems P N ds ops M σ w M D) (hT : ∀ a w', Fits N ds σ a → Ext w w' → (∀ p ∈ M, p.2.holds a w') → T a w') :
    ∀ (f : Nat) (listed : Array Bool) (a : Act) (w' : World), Mid N ds ops M σ w start listed a w' → left (M.map (·.1)) listed = f → wpAnyM P .any ops Q (fun _ _ => True) (M.map (·.1)) (fun listed' a' w' => listed' = target ∧ Inv .any ops [] #[] listed' ∧ T a' w') f listed a w' := by
  intro f
  induction f with
  | zero =>
    intro listed a w' mid hl
    have hall := left_zero hl
    refine ⟨htarget listed mid.size fun j => ⟨mid.high j, fun h => ?_⟩, mid.closed, hT a w' mid.fits mid.ext fun p hp => mid.told p hp (hall _ (List.mem_map.2 ⟨p, hp, rfl⟩))⟩
    rcases h with h | h
    · exact mid.low j h
    · exact hall j h
  | succ f ih =>
    intro listed a w' mid hl
    obtain ⟨i0, hi0, hu0⟩ : ∃ i ∈ M.map (·.1), listed.getD i true = false := by
      have h1 : (M.map (·.1)).filter (fun i => !listed.getD i false) ≠ [] := by
        intro e
        have h2 : ((M.map (·.1)).filter fun i => !listed.getD i false).length = f + 1 := hl
        rw [e] at h2; cases h2
      obtain ⟨i, hi⟩ := List.exists_mem_of_ne_nil _ h1
      rw [List.mem_filter] at hi
      refine ⟨i, hi.1, ?_⟩
      obtain ⟨p, hp, e⟩ := List.mem_map.1 hi.1
      have hlt := (hun p hp).1
      have e' : p.1 = i := e
      rw [e', ← mid.size] at hlt
      have h3 := hi.2
      rw [Array.getD_eq_getD_getElem?, Array.getElem?_eq_getElem hlt] at h3 ⊢
      simpa using h3
    have hinv : Inv .any ops (M.map (·.1)) start listed := ⟨mid.closed.closed⟩
    have step : ∀ i ∈ Region.ready .any ops listed, i ∈ M.map (·.1) ∧ wpOp P ops Q i (fun a' w2 => True ∧ wpAnyM P .any ops Q (fun _ _ => True) (M.map (·.1)) (fun listed' a' w' => listed' = target ∧ Inv .any ops [] #[] listed' ∧ T a' w') f (listed.setIfInBounds i true) a' w2) a w' := by
      intro i hi
      have hiM := hwait listed hinv mid.low i0 hi0 hu0 i hi
      refine ⟨hiM, ?_⟩
      obtain ⟨hunl, oi, hoi, hafter⟩ := mem_ready.1 hi
      obtain ⟨k, hk⟩ := List.getElem?_of_mem hiM
      have hkM : ∃ p, M[k]? = some p ∧ p.1 = i := by
        rw [List.getElem?_map] at hk
        cases hp : M[k]? with
        | none => rw [hp] at hk; cases hk
        | some p => rw [hp] at hk; exact ⟨p, rfl, Option.some.inj hk⟩
      obtain ⟨p, hp, hpi⟩ := hkM
      have hpM : p ∈ M := List.mem_of_getElem? hp
      have hDl := depsB_len hdeps
      have hkl : k < D.length := by rw [hDl]; exact (List.getElem?_eq_some_iff.1 hk).1
      have hprem := Prems.get hP hp (List.getElem?_eq_getElem hkl) w' mid.ext
      have hdep := depsB_get hdeps hk (List.getElem?_eq_getElem hkl)
      obtain ⟨σ', hf', op, ty, pos, after, g, hop, hg, hy⟩ := PremP.elim (N := N) (ds := ds) _ _ hprem mid.fits fun d hd q hq => by
        obtain ⟨m, hm, hr⟩ := hdep d hd
        have hm' : q.1 = m := by rw [List.getElem?_map, hq] at hm; exact Option.some.inj hm
        refine mid.told q (List.mem_of_getElem? hq) ?_
        rw [hm']
        exact reach_spec mid.closed.closed _ _ _ hr (fun o' ho' e he hb => by
          have : o' = oi := Option.some.inj (ho'.symm.trans hoi)
          subst this
          exact hafter e he hb)
      rw [hpi] at hop
      unfold wpOp
      rw [hop]
      simp only
      have hw : Region.wanted ⟨some p.2.slot, op, ty, pos, after, g⟩ (yielded ops a.tmps) = true := by
        rcases hg with rfl | ⟨j, b, t, rfl, hj, hgt, hyl⟩
        · simp [Region.wanted]
        · simp [Region.wanted, hyl a hf']
      rw [if_pos hw]
      refine .inl (hy N ds a w' _ _ _ _ _ _ hf' (Same.refl _) fun v w3 w2 hv hs2 => ⟨trivial, ?_⟩)
      obtain ⟨⟨x, rfl, hx⟩, hx2⟩ := hv
      have hx2' : Ext w' w2 := hx2.trans hs2.ext
      refine ih _ _ _ ⟨?_, mid.ext.trans hx2', mid.closed.set hi, fun j hj => getD_set_true (mid.low j hj), fun j hj => ?_, by rw [Array.size_setIfInBounds]; exact mid.size, fun q hq hql => ?_⟩ ?_
      · refine ⟨by simp [Act.put, mid.fits.size], by simp [Act.put, mid.fits.defers], fun t u ht => ?_⟩
        have hne : p.2.slot ≠ t := by intro e; rw [← e, hfresh p hpM] at ht; cases ht
        rw [put_getD hne]; exact mid.fits.vals t u ht
      · by_cases hji : i = j
        · subst hji; exact .inr hiM
        · rw [getD_set_ne false hji] at hj; exact mid.high j hj
      · by_cases hqi : q.1 = i
        · obtain ⟨kq, hkq⟩ := List.getElem?_of_mem hq
          have hkk : kq = k := by
            have h1 : (M.map (·.1))[kq]? = some i := by rw [List.getElem?_map, hkq]; exact congrArg some hqi
            have hlt1 := (List.getElem?_eq_some_iff.1 h1).1
            exact (List.getElem?_inj hlt1 hn).1 (h1.trans hk.symm)
          subst hkk
          rw [hp] at hkq
          have e := Option.some.inj hkq
          subst e
          exact ⟨x, put_getD_self (by rw [mid.fits.size]; exact hsl p hpM), p.2.stab _ _ _ hx hs2.ext⟩
        · rw [getD_set_ne false (fun e => hqi e.symm)] at hql
          obtain ⟨y, hy1, hy2⟩ := mid.told q hq hql
          have hne : p.2.slot ≠ q.2.slot := by
            intro e
            obtain ⟨kq, hkq⟩ := List.getElem?_of_mem hq
            have h1 : (M.map (·.2.slot))[kq]? = some q.2.slot := by rw [List.getElem?_map, hkq]; rfl
            have h2 : (M.map (·.2.slot))[k]? = some q.2.slot := by rw [List.getElem?_map, hp, ← e]; rfl
            have hkk : kq = k := (List.getElem?_inj (List.getElem?_eq_some_iff.1 h1).1 hs).1 (h1.trans h2.symm)
            subst hkk
            rw [hp] at hkq
            have e3 := Option.some.inj hkq
            subst e3
            exact hqi hpi
          exact ⟨y, by rw [put_getD hne]; exact hy1, q.2.stab _ _ _ hy2 hx2'⟩
      · have := left_set hn hiM hunl
        omega
    exact ⟨linB_ready hlin mid.low (fun i hi => by obtain ⟨p, hp, e⟩ := List.mem_map.1 hi; rw [mid.size, ← e]; exact (hun p hp).1) ⟨i0, hi0, hu0⟩, step⟩
theorem listAll_size : ∀ (l : List (Nat × Bool)) (s : Array Bool), (listAll s l).size = s.size
  | [], s => rfl
  | p :: r, s => by
    show (listAll (s.setIfInBounds p.1 true) r).size = _
    rw [listAll_size r, Array.size_setIfInBounds]
theorem listAll_get : ∀ (l : List Nat) (s : Array Bool) (j : Nat), (∀ i ∈ l, i < s.size) → ((listAll s (l.map fun i => (i, true))).getD j false = true ↔ s.getD j false = true ∨ j ∈ l)
  | [], s, j, _ => by simp [listAll]
  | i :: r, s, j, h => by
    have hi := h i (by simp)
    show (listAll (s.setIfInBounds i true) (r.map fun i => (i, true))).getD j false = true ↔ _
    rw [listAll_get r _ j (fun k hk => by rw [Array.size_setIfInBounds]; exact h k (by simp [hk]))]
    by_cases hij : i = j
    · subst hij
      have : (s.setIfInBounds i true).getD i false = true := by simp [Array.getD_eq_getD_getElem?, hi]
      simp [this]
    · rw [getD_set_ne false hij]
      constructor
      · rintro (h | h)
        · exact .inl h
        · exact .inr (by simp [h])
      · rintro (h | h)
        · exact .inl h
        · rcases List.mem_cons.1 h with e | h
          · exact absurd e.symm hij
          · exact .inr h
theorem bools_ext {a b : Array Bool} (hs : a.size = b.size) (h : ∀ j, a.getD j false = true ↔ b.getD j false = true) : a = b := by
  apply Array.ext hs
  intro i h1 h2
  have := h i
  rw [Array.getD_eq_getD_getElem?, Array.getD_eq_getD_getElem?, Array.getElem?_eq_getElem h1, Array.getElem?_eq_getElem h2] at this
  simp only [Option.getD_some] at this
  exact Bool.eq_iff_iff.2 this
/-- The walk ahead of those of M. -/
def AT (P : Program) (N : Nat) (ds : List Deferred) (ops : Array Oper) (M : List (Nat × Asr)) (D : List (List Nat)) (T : Act → World → Prop) (a : Act) (w : World) : Prop :=
  ∃ σ w0, Fits N ds σ a ∧ Same w0 w ∧ (∀ p ∈ M, σ.get p.2.slot = none) ∧ Prems P N ds ops M σ w0 M D ∧ ∀ w1, Ext w0 w1 → PremP M (List.range M.length) σ w1 fun σ' => J N ds σ' T w1
def freshB (σ : Env) : List Nat → Bool
  | [] => true
  | t :: r => !(σ.any fun p => Nat.beq p.1 t) && freshB σ r
theorem env_none {σ : Env} {t : Nat} (h : (σ.any fun p => Nat.beq p.1 t) = false) : σ.get t = none := by
  induction σ with
  | nil => rfl
  | cons p r ih =>
    obtain ⟨k, u⟩ := p
    simp only [List.any_cons, Bool.or_eq_false_iff] at h
    unfold Env.get
    rw [h.1]; exact ih h.2
theorem freshB_of {σ : Env} : ∀ {l : List Nat}, freshB σ l = true → ∀ t ∈ l, σ.get t = none
  | [], _, t, h => by cases h
  | a :: r, h, t, ht => by
    unfold freshB at h
    rw [Bool.and_eq_true] at h
    rcases List.mem_cons.1 ht with rfl | ht
    · exact env_none (by simpa using h.1)
    · exact freshB_of h.2 t ht
theorem J.a_in {M : List (Nat × Asr)} {D : List (List Nat)} {T : Act → World → Prop} (R : List Nat) (hR : List.range M.length = R) (hf : freshB σ (M.map (·.2.slot)) = true) (hp : Prems P N ds ops M σ w M D) (hT : ∀ w1, Ext w w1 → PremP M R σ w1 fun σ' => J N ds σ' T w1) :
    J N ds σ (AT P N ds ops M D T) w := by subst hR; exact fun a w' h hs => ⟨σ, w, h, hs, fun p hp => freshB_of hf _ (List.mem_map.2 ⟨p, hp, rfl⟩), hp, hT⟩
theorem J.regionA {id : Nat} {ops : Array Oper} (l1 : List (Nat × Bool)) (M : List (Nat × Asr)) (Mi Ms : List Nat) (D : List (List Nat)) (l3 : List (Nat × Bool)) (hMi : M.map (·.1) = Mi) (hMs : M.map (·.2.slot) = Ms) (hm : P.follows .mixedOrders = true) (hB : ordA .any ops N l1 Mi Ms D l3 = true)
    (h : J N ds σ (wpSeq P ops (NoPan Q) (AT P N ds ops M D (wpSeq P ops (NoPan Q) (NoPan Q .normal) l3)) l1) w) : J N ds σ ((Code.region id ops true).wp P Q) w := by
  subst hMi; subst hMs
  intro a w' hf hs
  have h := h a w'.drew hf (hs.trans (Same.drew w'))
  refine Code.wp_mono NoPan.imp ?_
  have hQ : ∀ c a w d v, NoPan Q (.panic c) (Act.put a d v) w → NoPan Q (.panic c) a w := fun _ _ _ _ _ h => h
  generalize NoPan Q = Q at *
  simp only [ordA, Bool.and_eq_true] at hB
  obtain ⟨⟨⟨⟨⟨⟨⟨⟨⟨⟨⟨hsel, hlen⟩, hg1⟩, hw⟩, hd⟩, hl⟩, hn⟩, hn2⟩, hN⟩, hun⟩, hg3⟩, hend⟩ := hB
  have hlen' : l1.length + ((M.map (·.1)).length + l3.length) = ops.size := Nat.eq_of_beq_eq_true hlen
  have inv0 : Inv .any ops [] #[] (Array.replicate ops.size false) := ⟨fun j oj _ hl => (by rw [getD_replicate_false] at hl; cases hl)⟩
  have hs1 : (listAll (Array.replicate ops.size false) l1).size = ops.size := by rw [listAll_size]; simp
  have hend' : Region.ready .any ops (listAll (listAll (listAll (Array.replicate ops.size false) l1) ((M.map (·.1)).map fun i => (i, true))) l3) = [] := by simpa using hend
  refine wp_region_any hm ?_
  suffices hh : wpAny P .any ops Q (l1.length + ((M.map (·.1)).length + l3.length)) (Array.replicate ops.size false) a w'.drew by rw [hlen'] at hh; exact hh
  refine wpAny_of_seq' (md := .any) (g := (M.map (·.1)).length + l3.length) hsel hQ l1 _ a w'.drew inv0 hg1 (fun a w inv1 hT => ?_) h
  obtain ⟨σ', w0, hf', hs', hfr, hP, hfin⟩ := hT
  generalize hS1 : listAll (Array.replicate ops.size false) l1 = s1 at *
  have hun' : ∀ p ∈ M, p.1 < s1.size ∧ s1.getD p.1 true = false := fun p hp => by
    have := List.all_eq_true.1 hun p.1 (List.mem_map.2 ⟨p, hp, rfl⟩)
    rw [Bool.and_eq_true] at this
    exact ⟨by rw [hs1]; simpa [Nat.blt_eq] using this.1, by simpa using this.2⟩
  have hleft : left (M.map (·.1)) s1 = (M.map (·.1)).length := by
    unfold left
    rw [List.filter_eq_self.2]
    intro i hi
    obtain ⟨p, hp, e⟩ := List.mem_map.1 hi
    have h3 := getD_both (hun' p hp).2
    have e' : p.1 = i := e
    rw [← e']; simp [h3]
  have hmid : Mid N ds ops M σ' w0 s1 s1 a w := ⟨hf', hs'.ext, inv1, fun _ h => h, fun _ h => .inl h, rfl, fun p hp h => by rw [getD_both (hun' p hp).2] at h; cases h⟩
  have htgt : ∀ listed : Array Bool, listed.size = s1.size → (∀ j, listed.getD j false = true ↔ s1.getD j false = true ∨ j ∈ M.map (·.1)) → listed = listAll s1 ((M.map (·.1)).map fun i => (i, true)) := fun listed h1 h2 =>
    bools_ext (by rw [h1, listAll_size]) fun j => by
      rw [h2, listAll_get _ _ _ (fun i hi => by obtain ⟨p, hp, e⟩ := List.mem_map.1 hi; have := (hun' p hp).1; have e' : p.1 = i := e; omega)]
  have H := wpAnyM_asr (P := P) (Q := Q) (T := fun a w => wpSeq P ops Q (Q .normal) l3 a w) (target := listAll s1 ((M.map (·.1)).map fun i => (i, true))) (waits_of hw) hd hl (nodup_of hn) (nodup_of hn2)
    (fun p hp => by have := List.all_eq_true.1 hN p.2.slot (List.mem_map.2 ⟨p, hp, rfl⟩); simpa [Nat.blt_eq] using this) hfr hun' htgt hP
    (fun a w1 hfa hx hall => by
      obtain ⟨σ'', hf2, hJ⟩ := PremP.elim (N := N) (ds := ds) _ _ (hfin w1 hx) hfa (fun k _ p hp => hall p (List.mem_of_getElem? hp))
      exact hJ a w1 hf2 (Same.refl _)) _ s1 a w hmid hleft
  refine wpAny_of_M (Q := Q) (g := l3.length) (fun listed a' w' hL => ?_) _ _ _ _ H
  obtain ⟨rfl, inv2, hT3⟩ := hL
  have := wpAny_of_seq' (md := .any) (g := 0) hsel hQ l3 _ a' w' inv2 hg3 (fun a w _ hT => ⟨hend', hT⟩) hT3
  simpa using this
end
end Go.X
