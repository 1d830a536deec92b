import Derived.Test.YtmpfgiffpdackaaXA
import Derived.Lib.AppendZerosOnto
import Derived.Lib.ConvBytes
/-
  More on blocks: what stays apart, copies, arrays as values, results in cells.
-/
set_option linter.unusedVariables false
set_option linter.unusedSimpArgs false
namespace Go.X
open Go.RowKit
theorem Ow.upd {base E w w' s xs b} (h : Ow base E w s xs) (hu : Upd b w w') (hne : s.ownBlock ≠ some b) : Ow base E w' s xs :=
  World.ownsRow.kept h (row := some b) ⟨hu.os, hu.tape, hu.output, by rw [hu.size]; exact Nat.le_refl _, fun k hk hne' => hu.block k (fun e => hne' (by rw [e]))⟩ (by
    cases hv : s.ownBlock with
    | none => simp
    | some k => rw [hv] at hne; simp; intro e; exact hne (by rw [e]))
theorem Ow.neLt {base E w s xs b} (h : Ow base E w s xs) (hb : w.heap.size ≤ b) : s.ownBlock ≠ some b := fun e => by have := (h.lt b e).2; omega
theorem Ow.neBase {base E w s xs b} (h : Ow base E w s xs) (hb : b < base) : s.ownBlock ≠ some b := fun e => by have := (h.lt b e).1; omega
theorem Ow.size {base E w s xs} (h : Ow base E w s xs) (hx : 0 < xs.length) : ∃ k, s.ownBlock = some k ∧ base ≤ k := by
  rcases id h.2 with ⟨_, h0⟩ | ⟨g, cap, cur, rfl, hb, _⟩
  · omega
  · exact ⟨g, rfl, hb⟩
theorem Rd.upd {w w' s xs b} (h : Rd w s xs) (hu : Upd b w w') (hne : ∀ p n c, s = .slice (some p) n c → p.block ≠ b) : Rd w' s xs := by
  obtain ⟨p, c, h1, h2, h3, h4⟩ := h
  refine ⟨p, c, h1, h2, h3, fun i v hv => ?_⟩
  obtain ⟨g, o, hp, hc⟩ := h4 i v hv
  refine ⟨g, o, hp, ?_⟩
  have : g ≠ b := by subst hp; exact hne _ _ _ h1
  unfold World.cell? at *
  simp only at *
  rw [hu.block g this]; exact hc
theorem Cel.cong {w b T o n} {α : Type} {f : α → Value} {l l' : List α} (h : Cel w b T [(o, n, l.map f)]) (e : l = l') : Cel w b T [(o, n, l'.map f)] := e ▸ h
/-- The pointer to a slice's first element. -/
def ptrOf : Value → Value
  | .slice p _ _ => .pointer p
  | v => v
/-- The elements of a list by index, the first k of them by g. -/
def fillU {α : Type} (g : Nat → α) (l : List α) (k : Nat) : List α := l.mapIdx fun j x => if j < k then g j else x
theorem fillU_len {α : Type} (g : Nat → α) (l : List α) (k : Nat) : (fillU g l k).length = l.length := by simp [fillU]
theorem fillU_zero {α : Type} (g : Nat → α) (l : List α) : fillU g l 0 = l := by
  apply List.ext_getElem
  · simp [fillU]
  · intro i h1 h2; simp [fillU]
theorem fillU_set {α : Type} (g : Nat → α) (l : List α) (k : Nat) : (fillU g l k).set k (g k) = fillU g l (k + 1) := by
  apply List.ext_getElem
  · simp [fillU]
  · intro i h1 h2
    simp only [fillU, List.getElem_set, List.getElem_mapIdx]
    by_cases h : k = i
    · subst h; simp
    · rw [if_neg h]
      by_cases h' : i < k
      · rw [if_pos h', if_pos (by omega)]
      · rw [if_neg h', if_neg (by omega)]
theorem fillU_get {α : Type} (g : Nat → α) (l : List α) (k i : Nat) (d : α) (h : k ≤ i) : (fillU g l k).getD i d = l.getD i d := by
  rw [List.getD_eq_getElem?_getD, List.getD_eq_getElem?_getD]
  simp only [fillU, List.getElem?_mapIdx]
  cases l[i]? with
  | none => rfl
  | some x => simp; intro h'; omega
theorem fillU_lt {α : Type} (g : Nat → α) (l : List α) (k i : Nat) (d : α) (h : i < k) (hl : i < l.length) : (fillU g l k).getD i d = g i := by
  rw [List.getD_eq_getElem?_getD]
  simp only [fillU, List.getElem?_mapIdx, List.getElem?_eq_getElem hl]
  simp [h]
theorem fillU_all {α : Type} (g : Nat → α) (l : List α) (k : Nat) (h : l.length ≤ k) : fillU g l k = (List.range l.length).map g := by
  apply List.ext_getElem
  · simp [fillU]
  · intro i h1 h2
    simp only [fillU_len] at h1
    simp only [fillU, List.getElem_mapIdx, List.getElem_map, List.getElem_range]
    rw [if_pos (by omega)]
theorem splice_in {L zs : List Value} {o n l : Nat} (h : o + n ≤ L.length) (hl : l + zs.length ≤ n) :
    ((L.take (o + l) ++ zs ++ L.drop (o + l + zs.length)).drop o).take n = ((L.drop o).take n).take l ++ zs ++ ((L.drop o).take n).drop (l + zs.length) := by
  have e1 : (L.take (o + l)).drop o = (L.drop o).take l := by rw [List.drop_take]; congr 1; omega
  rw [List.append_assoc, List.drop_append_of_le_length (by simp; omega), e1]
  have e2 : L.drop (o + l + zs.length) = (L.drop o).drop (l + zs.length) := by rw [List.drop_drop, Nat.add_assoc]
  have hD : n ≤ (L.drop o).length := by simp; omega
  rw [e2]
  generalize L.drop o = D at hD
  have a1 : List.take n (D.take l) = D.take l := List.take_of_length_le (by simp; omega)
  have a2 : (D.take l).length = l := by simp; omega
  have a3 : List.take (n - l) (zs ++ D.drop (l + zs.length)) = zs ++ (D.drop (l + zs.length)).take (n - l - zs.length) := by
    rw [List.take_append, List.take_of_length_le (by omega)]
  rw [List.take_append, a1, a2, a3, List.take_take, Nat.min_eq_left (by omega), List.drop_take, List.append_assoc, Nat.sub_sub]
section
variable {P : Program} {N : Nat} {ds : List Deferred} {σ : Env} {w : World}
theorem results_cell {fn : Func} {p : Tmp} {ty : TypeId} (h : fn.results = #[.cell p ty]) (tmps : Array Value) (w : World) :
    (results fn tmps).run P w = ((asAddr (tmps.getD p undef)).run P w).andThen fun a w₁ => (loadVar ty a).run P w₁ := by
  simp only [results, h]
  simp [Sem.run_bind, Result.andThen]
theorem J.ret1c {fn : Func} {R : Ending → World → Prop} {t ty b T S o n xs z by'} (hr : fn.results = #[.cell t ty]) (hg : σ.get t = some (.pointer (some ⟨b, o, none⟩))) (ht : agg P ty = true) (hz : TI P ty z n by') (hc : Cel w b T S) (k : Nat) (hk : S[k]? = some (o, n, xs)) (h : R (.returned (.agg xs.toArray)) w) : J N [] σ (Fin P fn R .ret) w := fun a w' hf hs =>
  ⟨hf.defers, _, by
    rw [results_cell hr, hf.vals _ _ hg]
    obtain ⟨j, hj, _, hj1, _⟩ := hz.out
    have h' := hc.ext hs.ext
    have hl := run_loadCells_list (P := P) w' ⟨b, o, none⟩ xs (fun i v hv => by rw [add_at]; exact h'.cell k hk hv)
    rw [hc.len k hk] at hl
    simp only [asAddr]
    simp [loadVar, run_isAgg_t ht, sizeOf, typeInfo, hj, hj1, hl], w, hs, h⟩
/-- A slice of an array of the call's own. -/
theorem Yd.sliceA {ty t x e n b o} (hu : P.underlying t = some (.array n e)) {z by'} (hz : TI P e z 1 by') (hx : ev σ x = some (.pointer (some ⟨b, o, none⟩))) : Yd P σ (.slice t x none none none) ty (asl b o n 0 n) w :=
  yd_v (fun ρ => Instr.sliceAt t (ρ x) none none none) (fun _ _ _ _ _ => rfl) fun N ds a w' hf he => by
    obtain ⟨j, hj, _, hj1, _⟩ := hz.out
    simp only [hf.ev hx]
    simp [Instr.sliceAt, run_underlying hu, Instr.sureAddr, Instr.sliceBounds, sizeOf, typeInfo, hj, hj1, add_at, asl]
theorem Yd.arrP {ty t x n e s xs} (hu : P.underlying t = some (.array n e)) (hx : ev σ x = some s) (h : Rd w s xs) (hn : n ≤ xs.length) : Yd P σ (.sliceToArrayPointer t x) ty (ptrOf s) w :=
  yd_v (fun ρ => Instr.arrayAt t (ρ x)) (fun _ _ _ _ _ => rfl) fun N ds a w' hf he => by
    obtain ⟨p, c, rfl, _⟩ := h
    simp only [hf.ev hx]
    have : ¬ xs.length < n := by omega
    simp [Instr.arrayAt, run_underlying hu, this, ptrOf]
theorem Yd.loadP {ty t x s xs n z by'} (ht : agg P t = true) (hz : TI P t z n by') (hx : ev σ x = some (ptrOf s)) (h : Rd w s xs) (hn : n ≤ xs.length) (h0 : Nat.blt 0 n = true) : Yd P σ (.load t x) ty (.agg (xs.take n).toArray) w :=
  yd_v (fun ρ => Instr.loadAt t (ρ x)) (fun _ _ _ _ _ => rfl) fun N ds a w' hf he => by
    obtain ⟨j, hj, _, hj1, _⟩ := hz.out
    have hn0 := Nat.le_of_ble_eq_true h0
    obtain ⟨p, c, rfl, _, _, h4⟩ := h.ext he
    obtain ⟨g, o, rfl, _⟩ := h4 0 xs[0] (List.getElem?_eq_getElem (by omega))
    have hl := run_loadCells_list (P := P) w' ⟨g, o, none⟩ (xs.take n) (fun i v hv => by
      have hi : i < n := by have := (List.getElem?_eq_some_iff.1 hv).1; simp at this; omega
      rw [List.getElem?_take_of_lt hi] at hv
      obtain ⟨g', o', hp, hc⟩ := h4 i v hv
      cases hp
      rw [add_at]; exact hc)
    rw [show (xs.take n).length = n by simp; omega] at hl
    simp only [hf.ev hx, ptrOf]
    simp only [Instr.loadAt, Instr.sureAddr, pure_bind, loadVar, Sem.run_bind, run_isAgg_t ht, Result.andThen_ok, if_true, sizeOf, typeInfo]
    simp [hj, hj1, hl]
/-- An array value's element. -/
theorem Yd.idxV {ty t x y n e k i xs v z by'} (hu : P.underlying t = some (.array n e)) (he : plain P e = true) (hz : TI P e z 1 by') (hx : ev σ x = some (.agg xs)) (hy : ev σ y = some (.int k i)) (hi : 0 ≤ i ∧ i < (n : Int)) (hv : xs[i.toNat]? = some v) : Yd P σ (.index t x y) ty v w :=
  yd_v (fun ρ => Instr.index t (ρ x) (ρ y)) (fun _ _ _ _ _ => rfl) fun N ds a w' hf _ => by
    obtain ⟨j, hj, _, hj1, _⟩ := hz.out
    simp only [hf.ev hx, hf.ev hy]
    simp [Instr.index, asIntOf, run_underlying hu, hi, sizeOf, typeInfo, hj, hj1, part, run_isAgg he, hv]
theorem Ag.get {α : Type} (f : α → Value) (l : List α) (d : α) {i : Nat} (h : i < l.length) : ((l.map f).toArray : Array Value)[i]? = some (f (l.getD i d)) := by
  rw [List.getElem?_toArray, List.getElem?_map, List.getElem?_eq_getElem h, List.getD_eq_getElem?_getD, List.getElem?_eq_getElem h]; rfl
/-- copy into an array of the call's own. -/
theorem copy_none {dT sT ty e : TypeId} {z by'} (hu : P.underlying dT = some (.slice e)) (hz : TI P e z 1 by') (a : Option Addr) (n c c' : Nat) (w' : World) :
    (Builtin.copy_ #[dT, sT] ty #[.slice a n c, .slice none 0 c']).run P w' = .ok (goInt 0) w' := by
  obtain ⟨j, hj, _, hj1, _⟩ := hz.out
  cases a <;> simp [Builtin.copy_, run_underlying hu, Builtin.lenOf, Builtin.firstCells, sizeOf, typeInfo, hj, hj1, storeCells]
theorem Ye.copyA {ty x y dT sT e b T S o n m xs s ys z by'} (hu : P.underlying dT = some (.slice e)) (hz : TI P e z 1 by') (h : Cel w b T S) (k : Nat) (hk : S[k]? = some (o, n, xs)) (hap : apart S k = true) {l : Nat} (hx : ev σ x = some (asl b o n l m)) (hlm : l ≤ m ∧ m ≤ n) (hln : l < n) (hy : ev σ y = some s) (hr : Rd w s ys) (h1 : ∀ v ∈ ys, v.oneCell' = true) :
    Ye P σ (.call ⟨.builtin .copy, #[x, y], #[dT, sT]⟩) ty w fun v w1 => v = I (min ys.length (m - l) : Nat) ∧ Cel w1 b T (S.set k (o, n, xs.take l ++ ys.take (m - l) ++ xs.drop (l + min ys.length (m - l)))) ∧ Upd b w w1 :=
  ye_bi (vs := [asl b o n l m, s]) (Builtin.copy_ #[dT, sT] ty) (by simp [evs, hx, hy]) (fun _ _ => rfl) fun w' hs => by
    obtain ⟨j, hj, _, hj1, _⟩ := hz.out
    have hxl := h.len k hk
    obtain ⟨L, h2, h3⟩ := h.ext hs.ext
    obtain ⟨h4, h5, h6⟩ := h3.get hk
    have h5' : o + n ≤ L.length := h5
    have h6' : (L.drop o).take n = xs := h6
    obtain ⟨p, c, rfl, h7, h8, h9⟩ := hr.ext hs.ext
    have hys : (ys.take (m - l)).length = min ys.length (m - l) := by simp; omega
    have hdst : asl b o n l m = .slice (some ⟨b, o + l, none⟩) (m - l) (n - l) := by unfold asl; rw [if_neg (by omega)]
    have hfin : SegAll (L.take (o + l) ++ ys.take (m - l) ++ L.drop (o + l + (ys.take (m - l)).length)) (S.set k (o, n, xs.take l ++ ys.take (m - l) ++ xs.drop (l + min ys.length (m - l)))) := by
      refine SegAll.set (o := o) (n := n) (by simp; omega) (fun i hi => splice_far L (ys.take (m - l)) (o + l) (by omega) i (by omega)) ⟨by simp; omega, by simp; omega, ?_⟩ h3 hk hap
      show ((L.take (o + l) ++ ys.take (m - l) ++ L.drop (o + l + (ys.take (m - l)).length)).drop o).take n = _
      rw [splice_in h5' (by omega), h6', hys]
    have hrow := h2.setRow (L.take (o + l) ++ ys.take (m - l) ++ L.drop (o + l + (ys.take (m - l)).length))
    cases p with
    | none =>
      have : ys = [] := by
        cases ys with
        | nil => rfl
        | cons x l => obtain ⟨b, o, hp, _⟩ := h9 0 x (by simp); cases hp
      subst this
      have hc := h8 rfl
      subst hc
      refine ⟨_, w', w', by rw [hdst]; exact copy_none hu hz _ _ _ _ w', Same.refl _, by simp [goInt], ⟨L, h2, ?_⟩, hs.os, hs.tape, hs.output, by rw [hs.heap], fun k _ => by rw [hs.heap]⟩
      simpa using hfin
    | some ad =>
      have hcp := run_copy_row (P := P) w' dT sT ty e b (o + l) (m - l) (n - l) ad ys.length c L.toArray T (ys.take (m - l)) hu (by rw [hj]; simp [hj1]) h2 (by simpa using hys) (fun i v hv => by
          have hi := (List.getElem?_eq_some_iff.1 hv).1
          rw [List.getElem?_take_of_lt (by simp at hi; omega)] at hv
          obtain ⟨b', o', hp, hc⟩ := h9 i v hv
          cases hp
          rw [add_at]; exact hc) (by simp; omega) (fun v hv => h1 v (List.mem_of_mem_take hv))
      refine ⟨_, _, _, by rw [hdst]; exact hcp, Same.refl _, by rw [hys]; rfl, ⟨_, hrow, hfin⟩, Upd.same hs (Upd.setRow w' b _)⟩
end
end Go.X

/-
  Arrays and structs built as values.
-/
set_option linter.unusedVariables false
set_option linter.unusedSimpArgs false
namespace Go.X
section
variable {P : Program} {N : Nat} {ds : List Deferred} {σ : Env} {w : World}
theorem parts_eval {N ds σ a} (hf : Fits N ds σ a) : ∀ {ps : List (Nat × Operand)} {vs : List Value}, evs σ (ps.map (·.2)) = some vs → ps.map (fun p => (p.1, a.eval p.2)) = (ps.map (·.1)).zip vs
  | [], vs, h => by simp [evs] at h; subst h; rfl
  | p :: r, vs, h => by
    have he := hf.evs h
    cases vs with
    | nil => simp at he
    | cons v vs =>
      have h1 : a.eval p.2 = v := by simpa using congrArg List.head? he
      have h2 : evs σ (r.map (·.2)) = some vs := by
        simp only [List.map_cons, evs] at h
        revert h
        cases ev σ p.2 <;> cases evs σ (r.map (·.2)) <;> simp
      simp only [List.map_cons, List.zip_cons_cons, h1, parts_eval hf h2]
/-- An array's elements of one cell each. -/
theorem Yd.buildA {ty t n e parts vs cells z zt by' bt} (hu : P.underlying t = some (.array n e)) (hz : TI P e z 1 by') (ht : TI P t zt n bt) (hx : evs σ (parts.toList.map (·.2)) = some vs)
    (hfill : Instr.fill (fun i => some (i * 1, 1)) zt.cells ((parts.toList.map (·.1)).zip vs) = some cells) : Yd P σ (.build t parts) ty (.agg cells) w :=
  yd_v (fun ρ => Instr.build t (parts.map fun (i, x) => (i, ρ x))) (fun _ _ _ _ _ => rfl) fun N ds a w' hf he => by
    obtain ⟨j, hj, _, hj1, _⟩ := hz.out
    obtain ⟨j', hj', hj0', _, _⟩ := ht.out
    have hp := parts_eval hf hx
    simp only [Instr.build, zeroValue, sizeOf, typeInfo]
    simp only [Array.toList_map, hp]
    simp only [Nat.mul_one] at hfill
    simp [hj', hj0', run_underlying hu, hj, hj1, hfill]
/-- The places of a struct's fields. -/
def places (P : Program) (fs : Array Field) : Option (List (Nat × Nat)) := fs.toList.mapM fun f => (P.info? f.type).map fun i => (f.offset, i.size)
def place1 (f : Field) : Sem (Nat × Nat) := do pure (f.offset, ← sizeOf f.type)
theorem run_place1 (w' : World) {f : Field} {i : TypeInfo} (hf : P.info? f.type = some i) : (place1 f).run P w' = .ok (f.offset, i.size) w' := by
  simp [place1, sizeOf, typeInfo, hf]
theorem run_places (w' : World) : ∀ (fs : List Field) (pl : List (Nat × Nat)), fs.mapM (fun f => (P.info? f.type).map fun i => (f.offset, i.size)) = some pl →
    (fs.mapM place1).run P w' = .ok pl w'
  | [], pl, h => by simp at h; subst h; rfl
  | f :: r, pl, h => by
    rw [List.mapM_cons] at h
    cases hf : P.info? f.type with
    | none => rw [hf] at h; simp at h
    | some i =>
      rw [hf] at h
      cases hr : r.mapM (fun f => (P.info? f.type).map fun i => (f.offset, i.size)) with
      | none => rw [hr] at h; simp at h
      | some q =>
        rw [hr] at h
        simp at h
        subst h
        have ih := run_places w' r q hr
        rw [List.mapM_cons, Sem.run_bind, run_place1 w' hf, Result.andThen_ok, Sem.run_bind, ih]
        rfl
theorem Yd.buildS {ty t fs parts vs cells zt bt n pl} (hu : P.underlying t = some (.struct fs)) (hpl : places P fs = some pl) (ht : TI P t zt n bt) (hx : evs σ (parts.toList.map (·.2)) = some vs)
    (hfill : Instr.fill (pl.toArray[·]?) zt.cells ((parts.toList.map (·.1)).zip vs) = some cells) : Yd P σ (.build t parts) ty (.agg cells) w :=
  yd_v (fun ρ => Instr.build t (parts.map fun (i, x) => (i, ρ x))) (fun _ _ _ _ _ => rfl) fun N ds a w' hf he => by
    obtain ⟨j', hj', hj0', _, _⟩ := ht.out
    have hp := parts_eval hf hx
    have hpr := run_places (P := P) w' fs.toList pl hpl
    have hpa : (fs.mapM place1 : Sem (Array (Nat × Nat))).run P w' = .ok pl.toArray w' := by
      rw [Array.mapM_eq_mapM_toList]
      simp only [Sem.run_map, hpr]
      rfl
    have hz : (zeroValue t).run P w' = .ok zt w' := by simp [zeroValue, typeInfo, hj', hj0']
    unfold Instr.build
    rw [Sem.run_bind, hz, Result.andThen_ok, Sem.run_bind, run_underlying hu, Result.andThen_ok]
    show ((fs.mapM place1 >>= fun places => _ : Sem Value)).run P w' = _
    rw [Sem.run_bind, hpa, Result.andThen_ok, Array.toList_map, hp, hfill]
    rfl
end
theorem one_M {α : Type} {f : α → Value} (l : List α) (h : ∀ u, (f u).oneCell' = true) : ∀ v ∈ l.map f, v.oneCell' = true := by
  intro v hv
  obtain ⟨u, _, rfl⟩ := List.mem_map.1 hv
  exact h u
end Go.X

/-
  A region that draws its order, with calls among its operations whose values hang on no world: all come up in whatever order, the values are the same, and the world lies beyond.
-/
set_option linter.unusedVariables false
set_option linter.unusedSimpArgs false
namespace Go.X
open Go.RowKit
section
variable {P : Program} {ops : Array Oper} {Q : Exit → Act → World → Prop} {md : Region.Mode} {R : World → World → Prop}
/-- In each world beyond w the operation leaves v, and a world beyond that. -/
def Stab (P : Program) (ops : Array Oper) (R : World → World → Prop) (w : World) (o : Oper) (v : Value) (a : Act) : Prop :=
  (Region.wanted o (yielded ops a.tmps) = true ∧ ∀ w', R w w' → (execOp a.eval o).run P w' = .ok (.value v) w' ∨
    ∃ f args, (execOp a.eval o).run P w' = .ok (.enter f args) w' ∧ Calls P f args w' fun e w2 => e = .returned v ∧ R w' w2) ∨
  (Region.wanted o (yielded ops a.tmps) = false ∧ v = undef)
theorem Stab.of_same {w : World} {o : Oper} {v : Value} {a a' : Act} (hy : Stab P ops R w o v a) (he : execOp a'.eval o = execOp a.eval o)
    (hw : Region.wanted o (yielded ops a'.tmps) = Region.wanted o (yielded ops a.tmps)) : Stab P ops R w o v a' := by
  unfold Stab at *; rw [he, hw]; exact hy
theorem Stab.wpOp {w w' : World} {i : Nat} {o : Oper} {v : Value} {a : Act} (hrefl : ∀ w, R w w) (hi : ops[i]? = some o) (hy : Stab P ops R w o v a) (hw : R w w')
    {K : Act → World → Prop} (h : ∀ w2, R w' w2 → K (a.put o.dst v) w2) : wpOp P ops Q i K a w' := by
  unfold Go.wpOp
  simp only [hi]
  rcases hy with ⟨hw1, hv⟩ | ⟨hw1, rfl⟩
  · simp only [hw1, if_true]
    refine .inl ?_
    unfold Oper.wp
    rcases hv w' hw with h1 | ⟨f, args, h1, h2⟩
    · rw [h1]; exact h _ (hrefl _)
    · rw [h1]
      exact Calls.mono h2 fun e w2 he => by obtain ⟨rfl, hr⟩ := he; exact h _ hr
  · simp only [hw1, Bool.false_eq_true, if_false]; exact h _ (hrefl _)
def wpAnyU (P : Program) (md : Region.Mode) (ops : Array Oper) (R : World → World → Prop) (w : World) (M : List Nat) (L : Array Bool → Act → Prop) : Nat → Array Bool → Act → Prop
  | 0, listed, a => L listed a
  | f + 1, listed, a => Region.ready md ops listed ≠ [] ∧ ∀ i ∈ Region.ready md ops listed, i ∈ M ∧ ∃ o v, ops[i]? = some o ∧ Stab P ops R w o v a ∧ wpAnyU P md ops R w M L f (listed.setIfInBounds i true) (a.put o.dst v)
theorem wpAny_of_U {M : List Nat} {g : Nat} {w : World} {L : Array Bool → Act → Prop} (hrefl : ∀ w, R w w) (htrans : ∀ a b c, R a b → R b c → R a c)
    (hL : ∀ listed a w', L listed a → R w w' → wpAny P md ops Q g listed a w') :
    ∀ (f : Nat) (listed : Array Bool) (a : Act) (w' : World), R w w' → wpAnyU P md ops R w M L f listed a → wpAny P md ops Q (f + g) listed a w'
  | 0, listed, a, w', hw, h => by rw [Nat.zero_add]; exact hL _ _ _ h hw
  | f + 1, listed, a, w', hw, h => by
    rw [show f + 1 + g = (f + g) + 1 by omega]
    refine ⟨fun h0 => absurd h0 h.1, fun i hi => ?_⟩
    obtain ⟨_, o, v, ho, hy, hr⟩ := h.2 i hi
    exact hy.wpOp hrefl ho hw fun w2 h2 => wpAny_of_U hrefl htrans hL f _ _ w2 (htrans _ _ _ hw h2) hr
theorem wpAnyU_first {M : List Nat} {start : Array Bool} {i : Nat} {oi : Oper} {v : Value} {w : World} {L : Array Bool → Act → Prop}
    (hi : ops[i]? = some oi) (hsel : ∀ (j : Nat) (o : Oper) cs b, ops[j]? = some o → o.op ≠ .select cs b) (hwait : Waits md ops M start) (hin : i ∈ M)
    (hdone : ∀ listed a, L listed a → ∀ j ∈ Region.ready md ops listed, j ∉ M) :
    ∀ (f : Nat) (listed : Array Bool) (a : Act), Inv md ops M start listed → (∀ j, start.getD j false = true → listed.getD j false = true) →
      (∀ j oj, ops[j]? = some oj → j ≠ i → listed.getD j true = false → (∀ e ∈ oj.after, Region.binds md e = true → e.on ≠ i) → oi.apart ops oj = true) →
      i ∈ Region.ready md ops listed → Stab P ops R w oi v a →
      wpAnyU P md ops R w M L f (listed.setIfInBounds i true) (a.put oi.dst v) → wpAnyU P md ops R w M L (f + 1) listed a := by
  intro f
  induction f with
  | zero =>
    intro listed a inv hst _ hr hy H
    have hun := (mem_ready.1 hr).1
    refine ⟨fun h => (by rw [h] at hr; cases hr), fun j hj => ?_⟩
    have hjn : j ∈ M := hwait listed inv hst i hin hun j hj
    refine ⟨hjn, ?_⟩
    by_cases hji : j = i
    · subst hji; exact ⟨oi, v, hi, hy, H⟩
    · exact absurd hjn (hdone _ _ H j (ready_mono hj hji))
  | succ f ih =>
    intro listed a inv hst hfree hr hy H
    have hun := (mem_ready.1 hr).1
    refine ⟨fun h => (by rw [h] at hr; cases hr), fun j hj => ?_⟩
    have hjn : j ∈ M := hwait listed inv hst i hin hun j hj
    refine ⟨hjn, ?_⟩
    by_cases hji : j = i
    · subst hji; exact ⟨oi, v, hi, hy, H⟩
    · obtain ⟨_, oj, vj, hoj, hyj, Hj⟩ := H.2 j (ready_mono hj hji)
      obtain ⟨hjun, oj', hoj', hall⟩ := mem_ready.1 hj
      have e1 : oj' = oj := Option.some.inj (hoj'.symm.trans hoj)
      subst e1
      have hnot : ∀ e ∈ oj'.after, Region.binds md e = true → e.on ≠ i := fun e he hb heq => by
        have h1 := hall e he hb
        rw [heq, getD_both hun] at h1
        cases h1
      have hap := hfree j oj' hoj hji hjun hnot
      obtain ⟨h1, h2, h3⟩ := Oper.apart_spec hap
      have hyj' : Stab P ops R w oj' vj a := hyj.of_same (execOp_put oj' (fun cs b => hsel j oj' cs b hoj) a oi.dst v h1).symm (wanted_put oj' a oi.dst v h1).symm
      have hyi' : Stab P ops R w oi v (a.put oj'.dst vj) := hy.of_same (execOp_put oi (fun cs b => hsel i oi cs b hi) a oj'.dst vj h3) (wanted_put oi a oj'.dst vj h3)
      have hfree' : ∀ k ok, ops[k]? = some ok → k ≠ i → (listed.setIfInBounds j true).getD k true = false →
          (∀ e ∈ ok.after, Region.binds md e = true → e.on ≠ i) → oi.apart ops ok = true := fun k ok hk hki hun hno => by
        refine hfree k ok hk hki ?_ hno
        by_cases hjk : j = k
        · subst hjk; exact hjun
        · rw [getD_set_ne true hjk] at hun; exact hun
      refine ⟨oj', vj, hoj, hyj', ih (listed.setIfInBounds j true) _ (inv.set hj) (getD_start hst) hfree' (ready_mono hr (Ne.symm hji)) hyi' ?_⟩
      rw [Array.setIfInBounds_comm _ _ hji, ← Act.put_comm a v vj h2]
      exact Hj
def goodU (md : Region.Mode) (ops : Array Oper) (M : List Nat) (target : Array Bool) : List Nat → Array Bool → Bool
  | [], listed => decide (listed = target)
  | i :: r, listed => M.contains i && ((Region.ready md ops listed).contains i && Region.free md ops listed i) && goodU md ops M target r (listed.setIfInBounds i true)
def wpU (P : Program) (ops : Array Oper) (R : World → World → Prop) (w : World) (T : Act → Prop) : List Nat → Act → Prop
  | [], a => T a
  | i :: r, a => ∃ o v, ops[i]? = some o ∧ Stab P ops R w o v a ∧ wpU P ops R w T r (a.put o.dst v)
theorem wpAnyU_of {M : List Nat} {start target : Array Bool} {w : World} {T : Act → Prop} (hsel : Region.noSelect ops = true) (hwait : Waits md ops M start) (htarget : ∀ m ∈ M, target.getD m false = true) :
    ∀ (l : List Nat) (listed : Array Bool) (a : Act), Inv md ops M start listed → (∀ j, start.getD j false = true → listed.getD j false = true) → goodU md ops M target l listed = true → wpU P ops R w T l a →
      wpAnyU P md ops R w M (fun listed' a' => listed' = target ∧ T a') l.length listed a
  | [], listed, a, _, _, hB, h => ⟨by simpa [goodU] using hB, h⟩
  | i :: r, listed, a, inv, hst, hB, h => by
    simp only [goodU, Bool.and_eq_true] at hB
    obtain ⟨⟨hin, hr, hf⟩, hB'⟩ := hB
    have hr' : i ∈ Region.ready md ops listed := by simpa using hr
    obtain ⟨o, v, ho, hy, hK⟩ := h
    exact wpAnyU_first ho (Region.noSelect_spec hsel) hwait (by simpa using hin) (fun listed' a' hL j hj hjM => by
        have h1 := getD_both (mem_ready.1 hj).1
        have h2 := htarget j hjM
        rw [hL.1, h2] at h1
        cases h1) r.length listed a inv hst (Region.free_spec ho hf) hr' hy
      (wpAnyU_of hsel hwait htarget r _ _ (inv.set hr') (getD_start hst) hB' hK)
def ordU (md : Region.Mode) (ops : Array Oper) (l1 : List (Nat × Bool)) (l2 : List Nat) (l3 : List (Nat × Bool)) : Bool :=
  let s0 := Array.replicate ops.size false
  let s1 := listAll s0 l1
  let s2 := listAll s1 (l2.map fun i => (i, true))
  Region.noSelect ops && Nat.beq (l1.length + (l2.length + l3.length)) ops.size && goodSeq md ops l1 s0 && goodU md ops l2 s2 l2 s1 && waitsB md ops l2 s1 && l2.all (fun m => s2.getD m false) &&
  goodSeq md ops l3 s2 && decide (Region.ready md ops (listAll s2 l3) = [])
theorem inv_U {M : List Nat} {tgt : Array Bool} : ∀ (l : List Nat) (s : Array Bool), goodU md ops M tgt l s = true → Inv md ops [] #[] s → Inv md ops [] #[] (listAll s (l.map fun i => (i, true)))
  | [], s, _, hi => hi
  | i :: r, s, hg, hi => by
    simp only [goodU, Bool.and_eq_true] at hg
    exact inv_U r _ hg.2 (hi.set (by simpa using hg.1.2.1))
theorem wp_region_U {id : Nat} {a : Act} {w : World} (l1 : List (Nat × Bool)) (l2 : List Nat) (l3 : List (Nat × Bool)) (hrefl : ∀ w, R w w) (htrans : ∀ a b c, R a b → R b c → R a c)
    (hm : P.follows .mixedOrders = true) (hB : ordU .any ops l1 l2 l3 = true)
    (h : wpSeq P ops (NoPan Q) (fun a w => wpU P ops R w (fun a' => ∀ w', R w w' → wpSeq P ops (NoPan Q) (NoPan Q .normal) l3 a' w') l2 a) l1 a w.drew) : (Code.region id ops true).wp P Q a w := by
  refine Code.wp_mono NoPan.imp ?_
  have hQ : ∀ c a w d v, NoPan Q (.panic c) (Act.put a d v) w → NoPan Q (.panic c) a w := fun _ _ _ _ _ h => h
  generalize NoPan Q = Q at *
  simp only [ordU, Bool.and_eq_true] at hB
  obtain ⟨⟨⟨⟨⟨⟨⟨hsel, hlen⟩, hg1⟩, hg2⟩, hw⟩, ht⟩, hg3⟩, hend⟩ := hB
  have hlen' : l1.length + (l2.length + l3.length) = ops.size := Nat.eq_of_beq_eq_true hlen
  have inv0 : Inv .any ops [] #[] (Array.replicate ops.size false) := ⟨fun j oj _ hl => (by rw [getD_replicate_false] at hl; cases hl)⟩
  have hend' : Region.ready .any ops (listAll (listAll (listAll (Array.replicate ops.size false) l1) (l2.map fun i => (i, true))) l3) = [] := by simpa using hend
  refine wp_region_any hm ?_
  suffices hh : wpAny P .any ops Q (l1.length + (l2.length + l3.length)) (Array.replicate ops.size false) a w.drew by rw [hlen'] at hh; exact hh
  refine wpAny_of_seq' (md := .any) (g := l2.length + l3.length) hsel hQ l1 _ a w.drew inv0 hg1 (fun a w inv1 hT => ?_) h
  have H := wpAnyU_of (md := .any) (start := listAll (Array.replicate ops.size false) l1) hsel (waits_of hw)
    (fun m hm => List.all_eq_true.1 ht m hm) l2 _ a ⟨inv1.closed⟩ (fun _ h => h) hg2 hT
  refine wpAny_of_U (Q := Q) (g := l3.length) hrefl htrans (fun listed a' w' hL hww => ?_) _ _ _ _ (hrefl w) H
  obtain ⟨rfl, hT3⟩ := hL
  have inv2 := inv_U l2 _ hg2 inv1
  have := wpAny_of_seq' (md := .any) (g := 0) hsel hQ l3 _ a' w' inv2 hg3 (fun a w _ hT => ⟨hend', hT⟩) (hT3 w' hww)
  simpa using this
end
section
variable {P : Program} {N : Nat} {ds : List Deferred} {σ : Env} {w : World} {Q : Exit → Act → World → Prop} {K : Act → World → Prop} {ops : Array Oper}
theorem J.regionU {id : Nat} {ops : Array Oper} (l1 : List (Nat × Bool)) (l2 : List Nat) (l3 : List (Nat × Bool)) (hm : P.follows .mixedOrders = true) (hB : ordU .any ops l1 l2 l3 = true)
    (h : J N ds σ (wpSeq P ops (NoPan Q) (fun a w => wpU P ops Ext w (fun a' => ∀ w', Ext w w' → wpSeq P ops (NoPan Q) (NoPan Q .normal) l3 a' w') l2 a) l1) w) : J N ds σ ((Code.region id ops true).wp P Q) w := fun a w' hf hs =>
  wp_region_U l1 l2 l3 Ext.refl (fun _ _ _ h k => h.trans k) hm hB (h a w'.drew hf (hs.trans (Same.drew w')))
/-- What yields, or a call whose value hangs on no world. -/
def Ys (P : Program) (σ : Env) (op : Op) (ty : TypeId) (v : Value) (w : World) : Prop :=
  ∀ (N : Nat) (ds : List Deferred) (a : Act) (w' : World) (dst : Option Tmp) (pos : String) (after : Array Edge) (g : Option (Nat × Bool)),
    Fits N ds σ a → Ext w w' → (execOp a.eval ⟨dst, op, ty, pos, after, g⟩).run P w' = .ok (.value v) w' ∨
      ∃ f args, (execOp a.eval ⟨dst, op, ty, pos, after, g⟩).run P w' = .ok (.enter f args) w' ∧ Calls P f args w' fun e w2 => e = .returned v ∧ Ext w' w2
theorem Yd.ys {op ty v} (h : Yd P σ op ty v w) : Ys P σ op ty v w := fun N ds a w' dst pos after g hf he => .inl (h N ds a w' dst pos after g hf he)
theorem Ys.call {ty f args tys vs v} (hc : callable P f = true) (ha : evs σ args.toList = some vs) (h : ∀ w', Ext w w' → C P f vs w' (Ret fun u w2 => u = v ∧ Ext w' w2)) : Ys P σ (.call ⟨.value (.func f), args, tys⟩) ty v w :=
  fun N ds a w' dst pos after g hf he => by
    have hx : a.eval (.func f) = .func (.func f) #[] #[] := rfl
    have hv : #[] ++ args.map a.eval ++ #[] = vs.toArray := by
      rw [← hf.evs ha]
      apply Array.toList_inj.1
      simp
    refine .inr ⟨f, _, run_call hc rfl hx w', ?_⟩
    rw [hv]
    exact (h w' he w' (Same.refl _)).mono fun e w2 ⟨w3, hs, u, he', hu, hx⟩ => ⟨by rw [he', hu], hx.trans hs.ext⟩
def UT (P : Program) (ops : Array Oper) (Q : Exit → Act → World → Prop) (T : Act → World → Prop) (l : List Nat) (a : Act) (w : World) : Prop := wpU P ops Ext w (fun a' => ∀ w', Ext w w' → T a' w') l a
theorem J.u_in {T : Act → World → Prop} {l : List Nat} (h : J N ds σ (UT P ops Q T l) w) : J N ds σ (fun a w => wpU P ops Ext w (fun a' => ∀ w', Ext w w' → T a' w') l a) w := h
theorem J.u_nil {T : Act → World → Prop} (h : ∀ w', Ext w w' → J N ds σ T w') : J N ds σ (UT P ops Q T []) w := fun a w' hf hs w2 h2 => h w2 (hs.ext.trans h2) a w2 hf (Same.refl _)
theorem J.u_op {T : Act → World → Prop} {r : List Nat} {i : Nat} {op ty pos after v d} (ho : ops[i]? = some ⟨some d, op, ty, pos, after, none⟩) (hy : Ys P σ op ty v w) (hd : Nat.blt d N = true)
    (h : J N ds ((d, v) :: σ) (UT P ops Q T r) w) : J N ds σ (UT P ops Q T (i :: r)) w := fun a w' hf hs =>
  ⟨_, v, ho, .inl ⟨by simp [Region.wanted], fun w'' he => hy N ds a w'' _ _ _ _ hf (hs.ext.trans he)⟩, h _ _ (hf.put d hd v) hs⟩
theorem J.u_op_g {T : Act → World → Prop} {r : List Nat} {i : Nat} {op ty pos after v d j t b} (ho : ops[i]? = some ⟨some d, op, ty, pos, after, some (j, b)⟩) (hj : (ops[j]?).bind (·.dst) = some t) (hg : σ.get t = some (.bool b)) (hN : Nat.blt t N = true)
    (hy : Ys P σ op ty v w) (hd : Nat.blt d N = true) (h : J N ds ((d, v) :: σ) (UT P ops Q T r) w) : J N ds σ (UT P ops Q T (i :: r)) w := fun a w' hf hs =>
  ⟨_, v, ho, .inl ⟨by simp [Region.wanted, hf.yielded hj hg hN], fun w'' he => hy N ds a w'' _ _ _ _ hf (hs.ext.trans he)⟩, h _ _ (hf.put d hd v) hs⟩
theorem J.u_not_g {T : Act → World → Prop} {r : List Nat} {i : Nat} {op ty pos after d j t b b'} (ho : ops[i]? = some ⟨some d, op, ty, pos, after, some (j, b)⟩) (hj : (ops[j]?).bind (·.dst) = some t) (hg : σ.get t = some (.bool b')) (hN : Nat.blt t N = true)
    (hb : (b' == b) = false) (hd : Nat.blt d N = true) (h : J N ds ((d, undef) :: σ) (UT P ops Q T r) w) : J N ds σ (UT P ops Q T (i :: r)) w := fun a w' hf hs =>
  ⟨_, undef, ho, .inr ⟨by simp [Region.wanted, hf.yielded hj hg hN, hb], rfl⟩, h _ _ (hf.put d hd undef) hs⟩
end
end Go.X

/-
  Noughts put behind a row of the call's own; a copy into one.
-/
set_option linter.unusedVariables false
set_option linter.unusedSimpArgs false
namespace Go.X
open Go.RowKit
theorem Bs.tail {w : World} {s : Value} {x : List UInt8} (h : Bs w s x) {l n : Nat} (hl : l ≤ x.length) (hn : n = x.length) : Bs w (Go.X.slc s l n) (x.drop l) := by
  subst hn
  have := Bs.slc h hl (Nat.le_refl _)
  rwa [List.take_of_length_le (Nat.le_refl _)] at this
theorem slc_own (s : Value) (l h : Nat) : (slc s l h).ownBlock = s.ownBlock := by
  cases s with
  | slice p n c =>
    show (sliced p l h c 1).ownBlock = _
    rw [sliced_eq]
    cases p with
    | none => split <;> rfl
    | some a =>
      split
      · rfl
      · simp only [Option.map_some, Value.ownBlock, Addr.add]; split <;> rfl
  | _ => rfl
theorem Rd.updN {w w' : World} {s : Value} {xs : List Value} {b : Nat} (h : Rd w s xs) (hu : Upd b w w') (hne : s.ownBlock ≠ some b) : Rd w' s xs :=
  h.upd hu fun p n c e hb => hne (by rw [e, ← hb]; rfl)
section
variable {P : Program} {N : Nat} {ds : List Deferred} {σ : Env} {w : World}
theorem zeroCells_one (z : Value) (q : Nat) : Builtin.zeroCells #[z] q = (List.replicate q z).toArray := by
  apply Array.toList_inj.1
  have := toList_madeCells_one z q
  simpa [madeCells, Builtin.zeroCells] using this
theorem Ye.appendZO {ty t t' e x y z by' base k n s xs} (hu : P.underlying t = some (.slice e)) (hu' : P.underlying t' = some (.int k)) (hz : TI P e z 1 by') (hz1 : z.cells = #[z]) (ho1 : z.oneCell' = true) (hby : Nat.blt 0 by' = true) (hx : ev σ x = some s) (hy : ev σ y = some (I n)) (ho : Ow base e w s xs) (hn : 0 ≤ n)
    (hb : ((xs.length : Int) + n) * by' ≤ 140737488355328) (hbase : base ≤ w.heap.size) :
    Ye P σ (.call ⟨.builtin .append, #[x, y], #[t, t']⟩) ty w fun v w1 => Ow base e w1 v (xs ++ List.replicate n.toNat z) ∧ w.grownBy w1 s.ownBlock := by
  have hby' : 0 < by' := by simpa [Nat.blt_eq] using hby
  obtain ⟨m, rfl⟩ := Int.eq_ofNat_of_zero_le hn
  have hb' : (xs.length + m) * by' ≤ 140737488355328 := by
    have h5 : (((xs.length + m) * by' : Nat) : Int) ≤ 140737488355328 := by rw [Int.natCast_mul, Int.natCast_add]; exact hb
    omega
  have hle : xs.length + m ≤ (xs.length + m) * by' := Nat.le_mul_of_pos_right _ hby'
  by_cases hs0 : s = nilS
  · subst hs0
    have hx0 : xs = [] := by
      rcases ho.2 with ⟨_, h0⟩ | ⟨g, cap, cur, h, _⟩
      · exact List.eq_nil_of_length_eq_zero h0
      · cases h
    subst hx0
    refine (Ye.appendZ (P := P) (base := base) hu hu' hz hz1 hby hx hy hn ?_ hbase).mono fun v w1 h => ⟨h.1, grown_ext h.2⟩
    have h6 : m * by' ≤ 140737488355328 := by simpa using hb'
    have h7 : ((m * by' : Nat) : Int) ≤ 140737488355328 := by omega
    rw [Int.natCast_mul] at h7; exact h7
  refine ye_bi (vs := [s, I (m : Int)]) (Builtin.append_ #[t, t'] ty) (by simp [evs, hx, hy]) (fun _ _ => rfl) fun w' hs => ?_
  obtain ⟨j, hj, hj0, hj1, hj2⟩ := hz.out
  have ho' : Ow base e w' s xs := ho.ext hs.ext
  rcases id ho'.2 with ⟨rfl, h0⟩ | ⟨g, cap, cur, rfl, hbg, hg, hnc, hcm, hcs, htk⟩
  · exact absurd rfl hs0
  have hcs' : cur.size = cap := by simpa using hcs
  have htk' : cur.toList.take xs.length = xs := by simpa using htk
  have hw : IntKind.i64.wrap (m : Int) = m := wrap64_id (by omega) (by omega)
  have e1 : ¬ ((m : Int) < 0) := by omega
  have e2 : ¬ ((281474976710656 : Int) < (m : Int) * (by' : Int)) := by
    have h6 : m * by' ≤ (xs.length + m) * by' := Nat.mul_le_mul_right _ (by omega)
    have h7 : ((m * by' : Nat) : Int) ≤ 140737488355328 := by omega
    rw [Int.natCast_mul] at h7; omega
  by_cases hroom : xs.length + m ≤ cap
  · have hst := run_storeCells_at P g xs.length e (List.replicate m z) 0 cur w' hg (by simp; omega) (by intro v hv; rw [List.eq_of_mem_replicate hv]; exact ho1)
    simp only [Nat.add_zero, List.length_replicate] at hst
    refine ⟨.slice (some ⟨g, 0, none⟩) (xs.length + m) cap, w'.setRow g (cur.toList.take xs.length ++ List.replicate m z ++ cur.toList.drop (xs.length + m)).toArray, _, ?_, Same.refl _, ⟨by simp, .inr ⟨g, cap, _, by simp, hbg, setRow_heap w' g cur _ e _ hg, by simp; omega, hcm, ?_, ?_⟩⟩, ?_⟩
    · by_cases hm0 : m = 0
      · subst hm0
        have hw0 : IntKind.i64.wrap 0 = 0 := by decide
        have hst0 : (storeCells ⟨g, xs.length, none⟩ [] 0).run P w' = .ok () (w'.setRow g (cur.toList.take xs.length ++ cur.toList.drop xs.length).toArray) := by
          have h9 := hst
          simp only [List.replicate_zero, Nat.add_zero, List.append_nil] at h9
          exact h9
        simp [Builtin.append_, run_underlying hu, run_underlying hu', sizeOf, typeInfo, hj, hj0, hj1, hj2, hz1, asInt, asIntOf, hw0, hnc, add_at, -List.take_append_drop]
        rw [hst0]
        simp
      · simp [Builtin.append_, run_underlying hu, run_underlying hu', sizeOf, typeInfo, zeroValue, hj, hj0, hj1, hj2, hz1, asInt, asIntOf, hw, e1, e2, hroom, hm0, add_at, zeroCells_one]
        rw [hst]
        simp
    · simp; omega
    · show ((cur.toList.take xs.length ++ List.replicate m z ++ cur.toList.drop (xs.length + m) : List Value)).take ((xs ++ List.replicate m z).length * 1) = xs ++ List.replicate m z
      rw [htk', Nat.mul_one]
      exact List.take_left
    · exact ⟨hs.os, hs.tape, hs.output, by simp [World.setRow, hs.heap], fun k _ hk => by rw [setRow_other w' g k _ (fun e => hk (by simp [Value.ownBlock, e])), hs.heap]⟩
  · have holds := ho'.rd
    have hold : (Builtin.firstCells j.size xs.length (.slice (some ⟨g, 0, none⟩) xs.length cap)).run P w'.drew = .ok xs.toArray w'.drew := by
      have hl := run_loadCells_list (P := P) w'.drew ⟨g, 0, none⟩ xs (fun i v hv => by
        obtain ⟨p, c, h1, _, _, h4⟩ := holds
        cases h1
        obtain ⟨b', o', hp, hc⟩ := h4 i v hv
        cases hp
        rw [add_at]; exact hc)
      simpa [Builtin.firstCells, hj1] using hl
    have hm0 : 0 < m := by omega
    have hfit := growslice_fits (old := cap) (by omega : cap < xs.length + m) (by rw [← hj2] at hb'; exact hb')
    have hr := Lib.run_append_grow_zeros (P := P) w' t t' ty e j z .i64 k hu hu' hj hj0 (some ⟨g, 0, none⟩) xs.length cap xs hold m hm0 (by omega) (by omega) (by omega) (by
      have h6 : m * j.bytes ≤ (xs.length + m) * j.bytes := Nat.mul_le_mul_right _ (by omega)
      rw [hj2] at h6 ⊢; omega) hfit
    refine ⟨_, _, _, hr, Same.refl _, ⟨by simp, .inr ⟨w'.heap.size, grownCap w' (xs.length + m) cap e, _, by simp, by rw [hs.heap]; exact hbase, heap_alloc_new w'.drew _, by simp; exact grownCap_ge w' _ cap e, grownCap_le_maxLen w' _ cap e (by unfold maxLen; omega), ?_, ?_⟩⟩, ?_⟩
    · have := grownCap_ge w' (xs.length + m) cap e
      rw [hz1]
      simp [zeroCells_one]; omega
    · rw [hz1]
      simp only [zeroCells_one, Int.toNat_natCast, List.append_toArray, Nat.mul_one]
      exact List.take_left
    · have h8 := World.grownBy_alloc w'.drew (.cells (xs.toArray ++ Builtin.zeroCells z.cells m ++ Builtin.zeroCells z.cells (grownCap w' (xs.length + m) cap e - (xs.length + m))) e) (some g)
      exact ⟨h8.os.trans hs.os, h8.tape.trans hs.tape, h8.output.trans hs.output, by have := h8.size; rw [show w'.drew.heap = w'.heap from rfl, hs.heap] at this; exact this, fun k hk hne => by
        rw [h8.block k (by rw [show w'.drew.heap = w'.heap from rfl, hs.heap]; exact hk) hne, show w'.drew.heap = w'.heap from rfl, hs.heap]⟩
end
end Go.X

/-
  Worlds in which one block that was there may have turned.
-/
set_option linter.unusedVariables false
set_option linter.unusedSimpArgs false
namespace Go.X
open Go.RowKit
theorem GB.ext {a b c : World} {r : Option Nat} (h : a.grownBy b r) (k : Ext b c) : a.grownBy c r :=
  ⟨k.os.trans h.os, k.tape.trans h.tape, k.output.trans h.output, Nat.le_trans h.size k.size, fun i hi hr => (k.block i (Nat.lt_of_lt_of_le hi h.size)).trans (h.block i hi hr)⟩
theorem GB.upd {a b c : World} {g : Nat} (h : a.grownBy b (some g)) (k : Upd g b c) : a.grownBy c (some g) :=
  ⟨k.os.trans h.os, k.tape.trans h.tape, k.output.trans h.output, by rw [k.size]; exact h.size, fun i hi hr => (k.block i (fun e => hr (by rw [e]))).trans (h.block i hi hr)⟩
theorem GB.updN {a b c : World} {r : Option Nat} {g : Nat} (h : a.grownBy b r) (hg : a.heap.size ≤ g) (k : Upd g b c) : a.grownBy c r :=
  ⟨k.os.trans h.os, k.tape.trans h.tape, k.output.trans h.output, by rw [k.size]; exact h.size, fun i hi hr => (k.block i (by omega)).trans (h.block i hi hr)⟩
theorem GB.grown {a b c : World} {r : Option Nat} {base E s xs} (h : a.grownBy b r) (ho : Ow base E b s xs) (hb : a.heap.size ≤ base) (k : b.grownBy c s.ownBlock) : a.grownBy c r :=
  ⟨k.os.trans h.os, k.tape.trans h.tape, k.output.trans h.output, Nat.le_trans h.size k.size, fun i hi hr => (k.block i (Nat.lt_of_lt_of_le hi h.size) (fun e => by
    have := (ho.lt i e.symm).1
    omega)).trans (h.block i hi hr)⟩
theorem GB.gb {a b c : World} {r : Option Nat} {g : Nat} (h : a.grownBy b r) (hg : a.heap.size ≤ g) (k : b.grownBy c (some g)) : a.grownBy c r :=
  ⟨k.os.trans h.os, k.tape.trans h.tape, k.output.trans h.output, Nat.le_trans h.size k.size, fun i hi hr => (k.block i (Nat.lt_of_lt_of_le hi h.size) (fun e => by
    have : i = g := by simpa using e
    omega)).trans (h.block i hi hr)⟩
theorem Rd.gb {w w' : World} {s : Value} {xs : List Value} {g : Nat} (h : Rd w s xs) (hg : w.grownBy w' (some g)) (hne : s.ownBlock ≠ some g) : Rd w' s xs := by
  obtain ⟨p, c, h1, h2, h3, h4⟩ := h
  refine ⟨p, c, h1, h2, h3, fun i v hv => ?_⟩
  obtain ⟨b, o, hp, hc⟩ := h4 i v hv
  refine ⟨b, o, hp, ?_⟩
  have hb : b ≠ g := by
    intro e; subst hp; subst h1; exact hne (by rw [← e]; rfl)
  have hlt : b < w.heap.size := by
    rcases Nat.lt_or_ge b w.heap.size with h' | h'
    · exact h'
    · simp [World.cell?, Array.getElem?_eq_none h'] at hc
  unfold World.cell? at *
  simp only at *
  rw [hg.block b hlt (fun e => hb (by simpa using e))]; exact hc
theorem Ext.gb {W w w' : World} {g : Nat} (h : Ext W w) (hb : W.heap.size ≤ g) (hg : w.grownBy w' (some g)) : Ext W w' :=
  ⟨hg.os.trans h.os, hg.tape.trans h.tape, hg.output.trans h.output, Nat.le_trans h.size hg.size, fun k hk => (hg.block k (Nat.lt_of_lt_of_le hk h.size) (fun e => by
    have : k = g := by simpa using e
    omega)).trans (h.block k hk)⟩
theorem Rd.own_lt {w : World} {s : Value} {xs : List Value} {k : Nat} (h : Rd w s xs) (hx : 0 < xs.length) (hk : s.ownBlock = some k) : k < w.heap.size := by
  obtain ⟨p, c, h1, h2, h3, h4⟩ := h
  obtain ⟨b, o, hp, hc⟩ := h4 0 xs[0] (List.getElem?_eq_getElem hx)
  subst hp; subst h1
  have : b = k := by simpa [Value.ownBlock] using hk
  subst this
  rcases Nat.lt_or_ge b w.heap.size with h' | h'
  · exact h'
  · simp [World.cell?, Array.getElem?_eq_none h'] at hc
section
variable {P : Program} {σ : Env} {w : World}
theorem guard_ptr (op : BinOp) (t : TypeId) (x y : Operand) (p q : Option Addr) : eqGuard op t x y (.pointer p) (.pointer q) = pure () := by cases op <;> rfl
theorem Yd.eqPn {ty t t' e x y p} (hu : P.underlying t = some (.pointer e)) (hx : ev σ x = some (.pointer p)) (hy : ev σ y = some (.pointer none)) : Yd P σ (.binOp .eql t x y t') ty (.bool p.isNone) w :=
  yd_bin hx hy (guard_ptr _ _ _ _ _ _) fun w' => by
    have h : ∀ d : Nat, (Op.equalIn (d + 1) t (.pointer p) (.pointer none)).run P w' = .ok p.isNone w' := fun d => by cases p <;> simp [Op.equalIn, run_underlying hu]
    simp [binOp, Op.equal, Op.maxDepth, h 9999]
theorem Yd.nePn {ty t t' e x y p} (hu : P.underlying t = some (.pointer e)) (hx : ev σ x = some (.pointer p)) (hy : ev σ y = some (.pointer none)) : Yd P σ (.binOp .neq t x y t') ty (.bool (!p.isNone)) w :=
  yd_bin hx hy (guard_ptr _ _ _ _ _ _) fun w' => by
    have h : ∀ d : Nat, (Op.equalIn (d + 1) t (.pointer p) (.pointer none)).run P w' = .ok p.isNone w' := fun d => by cases p <;> simp [Op.equalIn, run_underlying hu]
    simp [binOp, Op.equal, Op.maxDepth, h 9999]
end
end Go.X

/-
  What stays apart, told of footprints: blocks and the blocks of slices. A row that grows stays where it is or goes to a new block.
-/
set_option linter.unusedVariables false
set_option linter.unusedSimpArgs false
namespace Go.X
open Go.RowKit
/-- Two footprints have no block in common. -/
def Ap (a b : Option Nat) : Prop := ∀ k, a = some k → b = some k → False
/-- It is there. -/
def Live (w : World) (a : Option Nat) : Prop := ∀ k, a = some k → k < w.heap.size
/-- It came behind n blocks. -/
def Fr (n : Nat) (a : Option Nat) : Prop := ∀ k, a = some k → n ≤ k
/-- The same, or new. -/
def SF (w : World) (a b : Option Nat) : Prop := ∀ k, b = some k → a = some k ∨ w.heap.size ≤ k
theorem Ap.symm {a b : Option Nat} (h : Ap a b) : Ap b a := fun k h1 h2 => h k h2 h1
theorem Ap.none_l {b : Option Nat} : Ap none b := fun k h => by cases h
theorem Ap.none_r {b : Option Nat} : Ap b none := fun k _ h => by cases h
theorem Ap.nil_l {b : Option Nat} : Ap nilS.ownBlock b := fun k h => by cases h
theorem Ap.nil_r {b : Option Nat} : Ap b nilS.ownBlock := fun k _ h => by cases h
theorem Ap.mk {w : World} {a b : Option Nat} (h : Live w a) (h' : Fr w.heap.size b) : Ap a b := fun k h1 h2 => by have := h k h1; have := h' k h2; omega
theorem Ap.sf {w : World} {x a b : Option Nat} (h : Ap x a) (hl : Live w x) (hs : SF w a b) : Ap x b := fun k h1 h2 => by
  rcases hs k h2 with h3 | h3
  · exact h k h1 h3
  · have := hl k h1; omega
theorem Ap.ne {s : Option Nat} {b : Nat} (h : Ap s (some b)) : s ≠ some b := fun e => h b e rfl
theorem Ap.blk {s : Option Nat} {b : Nat} (h : s ≠ some b) : Ap s (some b) := fun k h1 h2 => h (by rw [h1, h2])
theorem Ap.slc {s : Value} {l h : Nat} {b : Option Nat} (hp : Ap s.ownBlock b) : Ap (Go.X.slc s l h).ownBlock b := by rw [slc_own]; exact hp
theorem Fr.sf {w : World} {n : Nat} {a b : Option Nat} (h : Fr n a) (hs : SF w a b) (hn : n ≤ w.heap.size) : Fr n b := fun k h1 => by
  rcases hs k h1 with h3 | h3
  · exact h k h3
  · omega
theorem Fr.le {m n : Nat} {a : Option Nat} (h : Fr n a) (hn : m ≤ n) : Fr m a := fun k h1 => Nat.le_trans hn (h k h1)
theorem Fr.blk {n b : Nat} (h : n ≤ b) : Fr n (some b) := fun k h1 => by cases h1; exact h
theorem Fr.nil {n : Nat} : Fr n nilS.ownBlock := fun k h => by cases h
theorem Cel.live {w b T S} (h : Cel w b T S) : Live w (some b) := fun k h1 => by cases h1; exact h.lt
theorem Ow.live {base E w s xs} (h : Ow base E w s xs) : Live w s.ownBlock := fun k h1 => (h.lt k h1).2
theorem Ow.fr {base E w s xs} (h : Ow base E w s xs) : Fr base s.ownBlock := fun k h1 => (h.lt k h1).1
theorem Ow.frl {base E w s xs n} (h : Ow base E w s xs) (hn : n ≤ base) : Fr n s.ownBlock := fun k h1 => Nat.le_trans hn (h.lt k h1).1
theorem Live.ext {w w' : World} {a : Option Nat} (h : Live w a) (he : w.heap.size ≤ w'.heap.size) : Live w' a := fun k h1 => Nat.lt_of_lt_of_le (h k h1) he
theorem Upd.gb {b : Nat} {w w' : World} (h : Upd b w w') : w.grownBy w' (some b) := ⟨h.os, h.tape, h.output, by rw [h.size]; exact Nat.le_refl _, fun k _ hk => h.block k (fun e => hk (by rw [e]))⟩
theorem Ext.gb0 {w w' : World} (h : Ext w w') (r : Option Nat) : w.grownBy w' r := ⟨h.os, h.tape, h.output, h.size, fun k hk _ => h.block k hk⟩
theorem Cel.gbk {w w' b T S r} (h : Cel w b T S) (hg : w.grownBy w' r) (ha : Ap (some b) r) : Cel w' b T S := Cel.grown h hg (fun e => ha b rfl e)
theorem Ow.gbk {base E w w' s xs r} (h : Ow base E w s xs) (hg : w.grownBy w' r) (ha : Ap s.ownBlock r) : Ow base E w' s xs :=
  World.ownsRow.kept h hg (by
    cases hv : s.ownBlock with
    | none => simp
    | some k => right; intro e; exact ha k hv e.symm)
theorem Rd.gbk {w w' : World} {s : Value} {xs : List Value} {r : Option Nat} (h : Rd w s xs) (hg : w.grownBy w' r) (ha : Ap s.ownBlock r) : Rd w' s xs := by
  obtain ⟨p, c, h1, h2, h3, h4⟩ := h
  refine ⟨p, c, h1, h2, h3, fun i v hv => ?_⟩
  obtain ⟨b, o, hp, hc⟩ := h4 i v hv
  refine ⟨b, o, hp, ?_⟩
  have hb : some b ≠ r := by
    intro e; subst hp; subst h1; exact ha b rfl e.symm
  have hlt : b < w.heap.size := by
    rcases Nat.lt_or_ge b w.heap.size with h' | h'
    · exact h'
    · simp [World.cell?, Array.getElem?_eq_none h'] at hc
  unfold World.cell? at *
  simp only at *
  rw [hg.block b hlt hb]; exact hc
theorem Ext.gbk {W w w' : World} {r : Option Nat} (h : Ext W w) (hf : Fr W.heap.size r) (hg : w.grownBy w' r) : Ext W w' :=
  ⟨hg.os.trans h.os, hg.tape.trans h.tape, hg.output.trans h.output, Nat.le_trans h.size hg.size, fun k hk => (hg.block k (Nat.lt_of_lt_of_le hk h.size) (fun e => by
    have := hf k e.symm
    omega)).trans (h.block k hk)⟩
theorem GB.gbk {W w w' : World} {q r : Option Nat} (h : W.grownBy w q) (hf : Fr W.heap.size r) (hg : w.grownBy w' r) : W.grownBy w' q :=
  ⟨hg.os.trans h.os, hg.tape.trans h.tape, hg.output.trans h.output, Nat.le_trans h.size hg.size, fun k hk hr => (hg.block k (Nat.lt_of_lt_of_le hk h.size) (fun e => by
    have := hf k e.symm
    omega)).trans (h.block k hk hr)⟩
/-! ### Several blocks that may turn -/
structure Tn (rs : List (Option Nat)) (w w' : World) : Prop where
  os : w'.os = w.os
  tape : w'.tape = w.tape
  output : w'.output = w.output
  size : w.heap.size ≤ w'.heap.size
  block : ∀ k, k < w.heap.size → (∀ r ∈ rs, r ≠ some k) → w'.heap[k]? = w.heap[k]?
theorem Tn.refl (rs : List (Option Nat)) (w : World) : Tn rs w w := ⟨rfl, rfl, rfl, Nat.le_refl _, fun _ _ _ => rfl⟩
theorem Tn.trans {rs : List (Option Nat)} {a b c : World} (h : Tn rs a b) (k : Tn rs b c) : Tn rs a c :=
  ⟨k.os.trans h.os, k.tape.trans h.tape, k.output.trans h.output, Nat.le_trans h.size k.size, fun i hi hr => (k.block i (Nat.lt_of_lt_of_le hi h.size) hr).trans (h.block i hi hr)⟩
theorem Ext.tn {w w' : World} (h : Ext w w') (rs : List (Option Nat)) : Tn rs w w' := ⟨h.os, h.tape, h.output, h.size, fun k hk _ => h.block k hk⟩
theorem Tn.ext {rs : List (Option Nat)} {a b c : World} (h : Tn rs a b) (k : Ext b c) : Tn rs a c := h.trans (k.tn rs)
theorem Tn.ofGB {w w' : World} {r : Option Nat} (h : w.grownBy w' r) : Tn [r] w w' := ⟨h.os, h.tape, h.output, h.size, fun k hk hr => h.block k hk (fun e => hr r (by simp) e.symm)⟩
theorem Tn.gb {w w' : World} {r : Option Nat} (h : Tn [r] w w') : w.grownBy w' r := ⟨h.os, h.tape, h.output, h.size, fun k hk hr => h.block k hk (fun q hq => by simp at hq; subst hq; exact fun e => hr e.symm)⟩
theorem Tn.nil {w w' : World} (h : Tn [] w w') : Ext w w' := ⟨h.os, h.tape, h.output, h.size, fun k hk => h.block k hk (by simp)⟩
theorem Tn.mono {rs rs' : List (Option Nat)} {w w' : World} (h : Tn rs w w') (hs : ∀ r ∈ rs, r ∈ rs') : Tn rs' w w' := ⟨h.os, h.tape, h.output, h.size, fun k hk hr => h.block k hk (fun r h1 => hr r (hs r h1))⟩
/-- What turned is of those, or came behind. -/
theorem Tn.gbk {rs : List (Option Nat)} {W w w' : World} {r : Option Nat} (h : Tn rs W w) (hf : r ∈ rs ∨ Fr W.heap.size r) (hg : w.grownBy w' r) : Tn rs W w' :=
  ⟨hg.os.trans h.os, hg.tape.trans h.tape, hg.output.trans h.output, Nat.le_trans h.size hg.size, fun k hk hr => (hg.block k (Nat.lt_of_lt_of_le hk h.size) (fun e => by
    rcases hf with hf | hf
    · exact hr r hf e.symm
    · have := hf k e.symm
      omega)).trans (h.block k hk hr)⟩
theorem Tn.tnk {rs qs : List (Option Nat)} {W w w' : World} (h : Tn rs W w) (hf : ∀ q ∈ qs, q ∈ rs ∨ Fr W.heap.size q) (hg : Tn qs w w') : Tn rs W w' :=
  ⟨hg.os.trans h.os, hg.tape.trans h.tape, hg.output.trans h.output, Nat.le_trans h.size hg.size, fun k hk hr => (hg.block k (Nat.lt_of_lt_of_le hk h.size) (fun q hq e => by
    rcases hf q hq with hf | hf
    · exact hr q hf e
    · have := hf k e
      omega)).trans (h.block k hk hr)⟩
theorem Ext.tnk {qs : List (Option Nat)} {W w w' : World} (h : Ext W w) (hf : ∀ q ∈ qs, Fr W.heap.size q) (hg : Tn qs w w') : Ext W w' := ((h.tn []).tnk (fun q hq => .inr (hf q hq)) hg).nil
def ApL (a : Option Nat) (rs : List (Option Nat)) : Prop := ∀ r ∈ rs, Ap a r
theorem Cel.tnk {w w' b T S rs} (h : Cel w b T S) (hg : Tn rs w w') (ha : ApL (some b) rs) : Cel w' b T S :=
  let ⟨L, h1, h2⟩ := h
  ⟨L, by unfold Own at *; rw [hg.block b (Cel.lt ⟨L, h1, h2⟩) (fun r hr e => ha r hr b rfl e)]; exact h1, h2⟩
theorem tn_kept {rs : List (Option Nat)} {w w' : World} {s : Option Nat} (hg : Tn rs w w') (hl : Live w s) (ha : ApL s rs) : ∃ w2 : World, w.grownBy w2 none ∧ (∀ k, s = some k → w2.heap[k]? = w'.heap[k]?) := by
  refine ⟨w, ⟨rfl, rfl, rfl, Nat.le_refl _, fun _ _ _ => rfl⟩, fun k hk => ?_⟩
  exact (hg.block k (hl k hk) (fun r hr e => ha r hr k hk e)).symm
theorem Ow.tnk {base E w w' s xs rs} (h : Ow base E w s xs) (hg : Tn rs w w') (ha : ApL s.ownBlock rs) : Ow base E w' s xs := by
  refine ⟨h.1, ?_⟩
  rcases h.2 with hn | ⟨g, cap, cur, rfl, hb, hgg, rest⟩
  · exact .inl hn
  · refine .inr ⟨g, cap, cur, rfl, hb, ?_, rest⟩
    rw [hg.block g (Array.getElem?_eq_some_iff.1 hgg).1 (fun r hr e => ha r hr g rfl e)]
    exact hgg
theorem Rd.tnk {w w' : World} {s : Value} {xs : List Value} {rs : List (Option Nat)} (h : Rd w s xs) (hg : Tn rs w w') (ha : ApL s.ownBlock rs) : Rd w' s xs := by
  obtain ⟨p, c, h1, h2, h3, h4⟩ := h
  refine ⟨p, c, h1, h2, h3, fun i v hv => ?_⟩
  obtain ⟨b, o, hp, hc⟩ := h4 i v hv
  refine ⟨b, o, hp, ?_⟩
  have hlt : b < w.heap.size := by
    rcases Nat.lt_or_ge b w.heap.size with h' | h'
    · exact h'
    · simp [World.cell?, Array.getElem?_eq_none h'] at hc
  unfold World.cell? at *
  simp only at *
  rw [hg.block b hlt (fun r hr e => ha r hr b (by subst hp; subst h1; rfl) e)]; exact hc
theorem ApL.one {a r : Option Nat} (h : Ap a r) : ApL a [r] := fun q hq => by simp at hq; subst hq; exact h
theorem ApL.two {a r q : Option Nat} (h : Ap a r) (h' : Ap a q) : ApL a [r, q] := fun x hx => by
  simp at hx; rcases hx with rfl | rfl
  · exact h
  · exact h'
/-- Read, and there. -/
structure Rv (w : World) (s : Value) (xs : List Value) : Prop where
  rd : Rd w s xs
  live : Live w s.ownBlock
theorem Rv.ext {w w' s xs} (h : Rv w s xs) (he : Ext w w') : Rv w' s xs := ⟨h.rd.ext he, h.live.ext he.size⟩
theorem Rv.gbk {w w' s xs r} (h : Rv w s xs) (hg : w.grownBy w' r) (ha : Ap s.ownBlock r) : Rv w' s xs := ⟨h.rd.gbk hg ha, h.live.ext hg.size⟩
theorem Rv.tnk {w w' s xs rs} (h : Rv w s xs) (hg : Tn rs w w') (ha : ApL s.ownBlock rs) : Rv w' s xs := ⟨h.rd.tnk hg ha, h.live.ext hg.size⟩
theorem Ow.rv {base E w s xs} (h : Ow base E w s xs) : Rv w s xs := ⟨h.rd, h.live⟩
section
variable {P : Program} {N : Nat} {ds : List Deferred} {σ : Env} {w : World}
theorem own_det {base E sz w s n xs} (h : World.ownsRow w base E sz s n xs) : s = .slice none 0 0 ∨ ∃ g cap, s = .slice (some ⟨g, 0, none⟩) n cap ∧ ∃ cur, w.heap[g]? = some (.cells cur E (0, 0)) ∧ n ≤ cap ∧ cur.size = cap * sz := by
  rcases h.2 with ⟨h1, _⟩ | ⟨g, cap, cur, h1, h2, h3, h4, h5, h6, h7⟩
  · exact .inl h1
  · exact .inr ⟨g, cap, h1, cur, h3, h4, h6⟩
/-- Where a row that grows goes. -/
theorem append_sf {t ty e : TypeId} {i : TypeInfo} {z s : Value} {base n bytes : Nat} {w : World} {xs : List Value} (ht : P.underlying t = some (.slice e)) (hi : P.info? e = some i) (hz : i.zero = some z) (hi1 : i.size = 1) (hby : i.bytes = bytes)
    (hown : w.ownsRow base e 1 s n xs) (a : Addr) (m c : Nat) (news : List Value) (hl : news.length = m) (hnews : ∀ j u, news[j]? = some u → w.cell? (a.add j) = some u) (h1 : ∀ u ∈ news, u.oneCell' = true)
    (h63 : n + m ≤ maxLen) (hbytes : (n + m) * bytes ≤ 140737488355328) {v' : Value} {w' : World}
    (hr : (Builtin.append_ #[t, t] ty #[s, .slice (some a) m c]).run P w = .ok v' w') : SF w s.ownBlock v'.ownBlock := by
  have hsmall : n + m ≤ 9223372036854775807 := by simp only [maxLen] at h63; omega
  intro k hk
  rcases hown.2 with ⟨rfl, rfl⟩ | ⟨g, cap, cur, rfl, hbg, hg, hnc, hcm, hcs, htake⟩
  · by_cases hm : m = 0
    · subst hm
      have hn : news = [] := List.eq_nil_of_length_eq_zero hl
      subst hn
      have h2 : (Builtin.append_ #[t, t] ty #[.slice none 0 0, .slice (some a) 0 c]).run P w = .ok (.slice none 0 0) w := by
        simp [Builtin.append_, run_underlying ht, sizeOf, typeInfo, hi, Builtin.lenOf, Builtin.firstCells, loadCells, loadCellsFrom]
      rw [h2] at hr
      injection hr with h3 h4
      subst h3; cases hk
    · have h2 := run_append_nil (P := P) w t ty e i z ht hi hz a m c news (by rw [hl, hi1, Nat.mul_one]) hnews (by omega) (by omega) (by rw [hby]; have hb := hbytes; simp only [Nat.zero_add] at hb; omega)
      rw [h2] at hr
      injection hr with h3 h4
      subst h3
      simp [Value.ownBlock] at hk
      subst hk; exact .inr (Nat.le_refl _)
  · by_cases hroom : n + m ≤ cap
    · have h2 := run_append_room (P := P) w t ty e i ht hi g n cap cur hg a m c news (by rw [hl, hi1, Nat.mul_one]) hnews h1 hroom (by rw [hi1, hcs]; omega)
      rw [h2] at hr
      injection hr with h3 h4
      subst h3
      exact .inl (by simpa [Value.ownBlock] using hk)
    · have holds : ∀ j u, xs[j]? = some u → w.cell? ((⟨g, 0, none⟩ : Addr).add j) = some u := hown.cells (g := g) rfl
      have h2 := run_append_grow (P := P) w t ty e i z ht hi hz ⟨g, 0, none⟩ n cap xs (by rw [hown.1, hi1]) holds a m c news (by rw [hl, hi1, Nat.mul_one]) hnews (by omega) (by omega) (growslice_fits (by omega) (by rw [hby]; exact hbytes))
      rw [h2] at hr
      injection hr with h3 h4
      subst h3
      simp [Value.ownBlock] at hk
      subst hk; exact .inr (Nat.le_refl _)
theorem Ye.appendS {α : Type} {f : α → Value} {l m : List α} {ty t e x y s r z by' base} (hu : P.underlying t = some (.slice e)) (hz : TI P e z 1 by') (hz1 : z.cells.size = 1) (hby : Nat.blt 0 by' = true) (hx : ev σ x = some s) (hy : ev σ y = some r)
    (ho : Ow base e w s (l.map f)) (hr : Rd w r (m.map f)) (h1 : ∀ u, (f u).oneCell' = true) (hb : (l.length + m.length) * by' ≤ 140737488355328) (hbase : base ≤ w.heap.size) :
    Ye P σ (.call ⟨.builtin .append, #[x, y], #[t, t]⟩) ty w fun v w1 => Ow base e w1 v ((l ++ m).map f) ∧ w.grownBy w1 s.ownBlock ∧ SF w s.ownBlock v.ownBlock := by
  have hby' : 0 < by' := by simpa [Nat.blt_eq] using hby
  have hle : l.length + m.length ≤ (l.length + m.length) * by' := Nat.le_mul_of_pos_right _ hby'
  refine ye_bi (vs := [s, r]) (Builtin.append_ #[t, t] ty) (by simp [evs, hx, hy]) (fun _ _ => rfl) fun w' hs => ?_
  obtain ⟨j, hj, hj0, hj1, hj2⟩ := hz.out
  have ho' : w'.ownsRow base e 1 s (l.map f).length (l.map f) := Ow.ext ho hs.ext
  obtain ⟨p, c, rfl, h2, h3, h4⟩ := Rd.ext hr hs.ext
  have hgs : w.grownBy w' none := grown_ext hs.ext
  cases p with
  | none =>
    have hm0 : m = [] := by
      cases m with
      | nil => rfl
      | cons x l => obtain ⟨b, o, hp, _⟩ := h4 0 (f x) (by simp); cases hp
    subst hm0
    have hc := h3 rfl
    subst hc
    have hrun := run_append_owned_none (P := P) w' base t ty e j 1 hu hj s (l.map f).length (l.map f) ho'
    refine ⟨s, w', w', hrun, Same.refl _, ?_, ⟨hgs.os, hgs.tape, hgs.output, hgs.size, fun k hk _ => hgs.block k hk (by simp)⟩, fun k hk => .inl hk⟩
    rw [List.append_nil]; exact ho'
  | some ad =>
    have hone : ∀ v ∈ m.map f, v.oneCell' = true := fun v hv => by obtain ⟨u, _, rfl⟩ := List.mem_map.1 hv; exact h1 u
    have hnews : ∀ k u, (m.map f)[k]? = some u → w'.cell? (ad.add k) = some u := fun k u hku => by obtain ⟨b, o, hp, hc⟩ := h4 k u hku; cases hp; rw [add_at]; exact hc
    have h63 : (l.map f).length + (m.map f).length ≤ maxLen := by simp only [List.length_map]; unfold maxLen; omega
    have hbb : ((l.map f).length + (m.map f).length) * by' ≤ 140737488355328 := by simpa using hb
    obtain ⟨v', w2, hrun, h5, h6, _⟩ := run_append_own (P := P) w' base t ty e j z 1 by' hu hj hj0 hj1 hj2 hz1 (by omega) s (l.map f).length (l.map f) ho' ad (m.map f).length c (m.map f) (by simp)
      hnews hone h63 hbb (by rw [hs.heap]; exact hbase)
    have hsf := append_sf (P := P) hu hj hj0 hj1 hj2 ho' ad (m.map f).length c (m.map f) rfl hnews hone h63 hbb hrun
    refine ⟨v', w2, w2, hrun, Same.refl _, ?_, ⟨h6.os.trans hs.os, h6.tape.trans hs.tape, h6.output.trans hs.output, ?_, fun k hk hne => ?_⟩, ?_⟩
    · unfold Ow; rw [List.map_append, List.length_append]; exact h5
    · have := h6.size; rw [hs.heap] at this; exact this
    · rw [h6.block k (by rw [hs.heap]; exact hk) hne, hs.heap]
    · intro k hk; have := hsf k hk; rwa [hs.heap] at this
theorem Ye.appendZS {ty t t' e x y z by' base k n s xs} (hu : P.underlying t = some (.slice e)) (hu' : P.underlying t' = some (.int k)) (hz : TI P e z 1 by') (hz1 : z.cells = #[z]) (ho1 : z.oneCell' = true) (hby : Nat.blt 0 by' = true) (hx : ev σ x = some s) (hy : ev σ y = some (I n)) (ho : Ow base e w s xs) (hn : 0 ≤ n)
    (hb : ((xs.length : Int) + n) * by' ≤ 140737488355328) (hbase : base ≤ w.heap.size) :
    Ye P σ (.call ⟨.builtin .append, #[x, y], #[t, t']⟩) ty w fun v w1 => Ow base e w1 v (xs ++ List.replicate n.toNat z) ∧ w.grownBy w1 s.ownBlock ∧ SF w s.ownBlock v.ownBlock := by
  have hby' : 0 < by' := by simpa [Nat.blt_eq] using hby
  obtain ⟨m, rfl⟩ := Int.eq_ofNat_of_zero_le hn
  have hb' : (xs.length + m) * by' ≤ 140737488355328 := by
    have h5 : (((xs.length + m) * by' : Nat) : Int) ≤ 140737488355328 := by rw [Int.natCast_mul, Int.natCast_add]; exact hb
    omega
  have hle : xs.length + m ≤ (xs.length + m) * by' := Nat.le_mul_of_pos_right _ hby'
  by_cases hs0 : s = nilS
  · subst hs0
    have hx0 : xs = [] := by
      rcases ho.2 with ⟨_, h0⟩ | ⟨g, cap, cur, h, _⟩
      · exact List.eq_nil_of_length_eq_zero h0
      · cases h
    subst hx0
    refine (Ye.appendZ (P := P) (base := w.heap.size) hu hu' hz hz1 hby hx hy hn ?_ (Nat.le_refl _)).mono fun v w1 h => ⟨Ow.base h.1 hbase, grown_ext h.2, fun k hk => .inr (h.1.lt k hk).1⟩
    have h6 : m * by' ≤ 140737488355328 := by simpa using hb'
    have h7 : ((m * by' : Nat) : Int) ≤ 140737488355328 := by omega
    rw [Int.natCast_mul] at h7; exact h7
  refine ye_bi (vs := [s, I (m : Int)]) (Builtin.append_ #[t, t'] ty) (by simp [evs, hx, hy]) (fun _ _ => rfl) fun w' hs => ?_
  obtain ⟨j, hj, hj0, hj1, hj2⟩ := hz.out
  have ho' : Ow base e w' s xs := ho.ext hs.ext
  rcases id ho'.2 with ⟨rfl, h0⟩ | ⟨g, cap, cur, rfl, hbg, hg, hnc, hcm, hcs, htk⟩
  · exact absurd rfl hs0
  have hcs' : cur.size = cap := by simpa using hcs
  have htk' : cur.toList.take xs.length = xs := by simpa using htk
  have hw : IntKind.i64.wrap (m : Int) = m := wrap64_id (by omega) (by omega)
  have e1 : ¬ ((m : Int) < 0) := by omega
  have e2 : ¬ ((281474976710656 : Int) < (m : Int) * (by' : Int)) := by
    have h6 : m * by' ≤ (xs.length + m) * by' := Nat.mul_le_mul_right _ (by omega)
    have h7 : ((m * by' : Nat) : Int) ≤ 140737488355328 := by omega
    rw [Int.natCast_mul] at h7; omega
  by_cases hroom : xs.length + m ≤ cap
  · have hst := run_storeCells_at P g xs.length e (List.replicate m z) 0 cur w' hg (by simp; omega) (by intro v hv; rw [List.eq_of_mem_replicate hv]; exact ho1)
    simp only [Nat.add_zero, List.length_replicate] at hst
    refine ⟨.slice (some ⟨g, 0, none⟩) (xs.length + m) cap, w'.setRow g (cur.toList.take xs.length ++ List.replicate m z ++ cur.toList.drop (xs.length + m)).toArray, _, ?_, Same.refl _, ⟨by simp, .inr ⟨g, cap, _, by simp, hbg, setRow_heap w' g cur _ e _ hg, by simp; omega, hcm, ?_, ?_⟩⟩, ?_⟩
    · by_cases hm0 : m = 0
      · subst hm0
        have hw0 : IntKind.i64.wrap 0 = 0 := by decide
        have hst0 : (storeCells ⟨g, xs.length, none⟩ [] 0).run P w' = .ok () (w'.setRow g (cur.toList.take xs.length ++ cur.toList.drop xs.length).toArray) := by
          have h9 := hst
          simp only [List.replicate_zero, Nat.add_zero, List.append_nil] at h9
          exact h9
        simp [Builtin.append_, run_underlying hu, run_underlying hu', sizeOf, typeInfo, hj, hj0, hj1, hj2, hz1, asInt, asIntOf, hw0, hnc, add_at, -List.take_append_drop]
        rw [hst0]
        simp
      · simp [Builtin.append_, run_underlying hu, run_underlying hu', sizeOf, typeInfo, zeroValue, hj, hj0, hj1, hj2, hz1, asInt, asIntOf, hw, e1, e2, hroom, hm0, add_at, zeroCells_one]
        rw [hst]
        simp
    · simp; omega
    · show ((cur.toList.take xs.length ++ List.replicate m z ++ cur.toList.drop (xs.length + m) : List Value)).take ((xs ++ List.replicate m z).length * 1) = xs ++ List.replicate m z
      rw [htk', Nat.mul_one]
      exact List.take_left
    · exact ⟨⟨hs.os, hs.tape, hs.output, by simp [World.setRow, hs.heap], fun k _ hk => by rw [setRow_other w' g k _ (fun e => hk (by simp [Value.ownBlock, e])), hs.heap]⟩, fun k hk => .inl (by simpa [Value.ownBlock] using hk)⟩
  · have holds := ho'.rd
    have hold : (Builtin.firstCells j.size xs.length (.slice (some ⟨g, 0, none⟩) xs.length cap)).run P w'.drew = .ok xs.toArray w'.drew := by
      have hl := run_loadCells_list (P := P) w'.drew ⟨g, 0, none⟩ xs (fun i v hv => by
        obtain ⟨p, c, h1, _, _, h4⟩ := holds
        cases h1
        obtain ⟨b', o', hp, hc⟩ := h4 i v hv
        cases hp
        rw [add_at]; exact hc)
      simpa [Builtin.firstCells, hj1] using hl
    have hm0 : 0 < m := by omega
    have hfit := growslice_fits (old := cap) (by omega : cap < xs.length + m) (by rw [← hj2] at hb'; exact hb')
    have hr := Lib.run_append_grow_zeros (P := P) w' t t' ty e j z .i64 k hu hu' hj hj0 (some ⟨g, 0, none⟩) xs.length cap xs hold m hm0 (by omega) (by omega) (by omega) (by
      have h6 : m * j.bytes ≤ (xs.length + m) * j.bytes := Nat.mul_le_mul_right _ (by omega)
      rw [hj2] at h6 ⊢; omega) hfit
    refine ⟨_, _, _, hr, Same.refl _, ⟨by simp, .inr ⟨w'.heap.size, grownCap w' (xs.length + m) cap e, _, by simp, by rw [hs.heap]; exact hbase, heap_alloc_new w'.drew _, by simp; exact grownCap_ge w' _ cap e, grownCap_le_maxLen w' _ cap e (by unfold maxLen; omega), ?_, ?_⟩⟩, ?_⟩
    · have := grownCap_ge w' (xs.length + m) cap e
      rw [hz1]
      simp [zeroCells_one]; omega
    · rw [hz1]
      simp only [zeroCells_one, Int.toNat_natCast, List.append_toArray, Nat.mul_one]
      exact List.take_left
    · have h8 := World.grownBy_alloc w'.drew (.cells (xs.toArray ++ Builtin.zeroCells z.cells m ++ Builtin.zeroCells z.cells (grownCap w' (xs.length + m) cap e - (xs.length + m))) e) (some g)
      exact ⟨⟨h8.os.trans hs.os, h8.tape.trans hs.tape, h8.output.trans hs.output, by have := h8.size; rw [show w'.drew.heap = w'.heap from rfl, hs.heap] at this; exact this, fun k hk hne => by
        rw [h8.block k (by rw [show w'.drew.heap = w'.heap from rfl, hs.heap]; exact hk) hne, show w'.drew.heap = w'.heap from rfl, hs.heap]⟩, fun k hk => .inr (by rw [← hs.heap]; simp [Value.ownBlock] at hk; omega)⟩
/-- '[]byte(s)' -/
theorem Ye.strBytes {ty s d x e} {l : List UInt8} (hs : P.underlying s = some .string) (hd : P.underlying d = some (.slice e)) (he : P.underlying e = some (.int .u8)) (hx : ev σ x = some (Str l)) (hl : Nat.ble l.length 1000000 = true) :
    Ye P σ (.convert s d x) ty w fun v w1 => Rv w1 v (l.map fun x => B x) ∧ Fr w.heap.size v.ownBlock ∧ Ext w w1 := fun N ds a w' dst pos after g next Q hf hS hk => by
  have hl' : l.length ≤ 1000000 := Nat.le_of_ble_eq_true hl
  unfold Oper.wp
  have hr := Lib.run_convert_string_bytes (P := P) w' s d e ⟨l.toArray⟩ hs hd he
  have : (execOp a.eval ⟨dst, .convert s d x, ty, pos, after, g⟩).run P w' = .ok (.value (.slice (some ⟨w'.heap.size, 0, none⟩) (ByteArray.mk l.toArray).size (grownCap w' (ByteArray.mk l.toArray).size 0 e))) (Lib.bytesWorld w' e ⟨l.toArray⟩) := by
    simp only [execOp, hf.ev hx]
    rw [Sem.run_bind, hr]; rfl
  rw [this]
  have hsz : (ByteArray.mk l.toArray).size = l.length := by simp [ByteArray.size]
  have hext : Ext w' (Lib.bytesWorld w' e ⟨l.toArray⟩) := ⟨rfl, rfl, rfl, by rw [Lib.bytesWorld_size]; omega, fun k hk => Lib.bytesWorld_at_old w' e _ k hk⟩
  refine hk _ _ _ ⟨⟨?_, fun k hk => ?_⟩, fun k hk => ?_, hS.ext.trans hext⟩ (Same.refl _)
  · refine ⟨_, _, by rw [List.length_map, ← hsz], ⟨by rw [List.length_map, ← hsz]; exact grownCap_ge _ _ _ _, ?_⟩, fun h => (by cases h), fun i v hv => ⟨w'.heap.size, 0, rfl, ?_⟩⟩
    · have := grownCap_le_maxLen w' (ByteArray.mk l.toArray).size 0 e (by rw [hsz]; unfold maxLen; omega)
      unfold maxLen at this; exact this
    · have hi : i < l.length := by have := (List.getElem?_eq_some_iff.1 hv).1; simpa using this
      have := Lib.bytesWorld_cell w' e ⟨l.toArray⟩ i (by rw [hsz]; exact hi)
      rw [Nat.zero_add, this]
      rw [List.getElem?_map, List.getElem?_eq_getElem hi] at hv
      simp only [Option.map_some, Option.some.injEq] at hv
      rw [← hv]
      simp [List.getD_eq_getElem?_getD, List.getElem?_eq_getElem hi]
  · simp [Value.ownBlock] at hk; rw [Lib.bytesWorld_size]; omega
  · simp [Value.ownBlock] at hk; rw [← hS.heap]; omega
end
end Go.X

/-
  Structs built of what is known, literals of any length, and regions whose operations come up in whatever order, each told by what it leaves.
-/
set_option linter.unusedVariables false
set_option linter.unusedSimpArgs false
namespace Go.X
open Go.RowKit
/-! ### Structs -/
/-- Values that fill a struct's places one behind the other. -/
def OffOK (pl : List (Nat × Nat)) : Nat → Nat → List Value → Prop
  | _, _, [] => True
  | k, o, v :: r => pl[k]? = some (o, v.cells.size) ∧ OffOK pl (k + 1) (o + v.cells.size) r
def catV (vs : List Value) : List Value := vs.flatMap fun v => v.cells.toList
theorem splice_fold : ∀ (l : List Value) (o : Nat) (pre mid post : List Value), mid.length = l.length → o = pre.length →
    (l.zipIdx).foldl (fun (cs : Array Value) x => cs.setIfInBounds (o + x.2) x.1) (pre ++ mid ++ post).toArray = (pre ++ l ++ post).toArray := by
  intro l
  suffices h : ∀ (l : List Value) (k o : Nat) (pre mid post : List Value), mid.length = l.length → o + k = pre.length →
      (l.zipIdx k).foldl (fun (cs : Array Value) x => cs.setIfInBounds (o + x.2) x.1) (pre ++ mid ++ post).toArray = (pre ++ l ++ post).toArray from
    fun o pre mid post h1 h2 => h l 0 o pre mid post h1 (by omega)
  intro l
  induction l with
  | nil =>
    intro k o pre mid post h1 h2
    have : mid = [] := List.eq_nil_of_length_eq_zero h1
    subst this; rfl
  | cons v l ih =>
    intro k o pre mid post h1 h2
    cases mid with
    | nil => cases h1
    | cons m mid =>
      simp only [List.zipIdx_cons, List.foldl_cons]
      have e : (pre ++ m :: mid ++ post).toArray.setIfInBounds (o + k) v = ((pre ++ [v]) ++ mid ++ post).toArray := by
        rw [h2]; simp
      rw [e, ih (k + 1) o (pre ++ [v]) mid post (by simpa using h1) (by simp; omega)]
      simp
theorem fill_seq (pl : List (Nat × Nat)) : ∀ (vs : List Value) (k : Nat) (pre post : List Value), OffOK pl k pre.length vs → post.length = (catV vs).length →
    Instr.fill (pl.toArray[·]?) (pre ++ post).toArray ((List.range' k vs.length).zip vs) = some (pre ++ catV vs).toArray
  | [], k, pre, post, _, hl => by
    have : post = [] := List.eq_nil_of_length_eq_zero hl
    subst this; simp [Instr.fill, catV]
  | v :: vs, k, pre, post, ho, hl => by
    obtain ⟨h1, h2⟩ := ho
    have hcat : catV (v :: vs) = v.cells.toList ++ catV vs := by simp [catV]
    rw [hcat, List.length_append] at hl
    simp only [List.length_cons, List.range'_succ, List.zip_cons_cons, Instr.fill]
    have h1' : pl.toArray[k]? = some (pre.length, v.cells.size) := by simpa using h1
    rw [h1']
    have hc : ¬ ((decide (v.cells.size ≠ v.cells.size) || decide (pre.length + v.cells.size > (pre ++ post).toArray.size)) = true) := by
      simp at hl ⊢; omega
    simp only [hc, if_false]
    have hs : (v.cells.zipIdx.foldl (fun cs x => cs.setIfInBounds (pre.length + x.2) x.1) (pre ++ post).toArray) = ((pre ++ v.cells.toList) ++ post.drop v.cells.size).toArray := by
      have := splice_fold v.cells.toList pre.length pre (post.take v.cells.size) (post.drop v.cells.size) (by simp; simp at hl; omega) rfl
      rw [List.append_assoc pre, List.take_append_drop] at this
      rw [← this]
      rw [← Array.foldl_toList]; simp
    rw [hs]
    have ih := fill_seq pl vs (k + 1) (pre ++ v.cells.toList) (post.drop v.cells.size) (by simpa using h2) (by simp at hl ⊢; omega)
    rw [hcat, ← List.append_assoc]
    exact ih
theorem cells_agg (xs : Array Value) : (Value.agg xs).cells = xs := rfl
theorem cells_int (k : IntKind) (n : Int) : (Value.int k n).cells = #[.int k n] := rfl
theorem cells_ptr (p : Option Addr) : (Value.pointer p).cells = #[.pointer p] := rfl
theorem cells_bool (b : Bool) : (Value.bool b).cells = #[.bool b] := rfl
def segsOf : Nat → List (List Value) → Segs
  | _, [] => []
  | o, b :: r => (o, b.length, b) :: segsOf (o + b.length) r
theorem segsOf_ok : ∀ (bs : List (List Value)) (pre : List Value), SegAll (pre ++ bs.flatten) (segsOf pre.length bs)
  | [], pre => trivial
  | b :: r, pre => by
    refine ⟨⟨rfl, by simp, by simp⟩, ?_⟩
    have := segsOf_ok r (pre ++ b)
    simpa [List.append_assoc] using this
theorem box_segs (bs : List (List Value)) : SegAll bs.flatten (segsOf 0 bs) := by simpa using segsOf_ok bs []
section
variable {P : Program} {N : Nat} {ds : List Deferred} {σ : Env} {w : World} {Q : Exit → Act → World → Prop} {K : Act → World → Prop} {ops : Array Oper}
theorem Yd.buildV {ty t fs parts vs zt bt n pl} (hu : P.underlying t = some (.struct fs)) (hpl : places P fs = some pl) (ht : TI P t zt n bt) (hx : evs σ (parts.toList.map (·.2)) = some vs)
    (hi : parts.toList.map (·.1) = List.range' 0 vs.length) (ho : OffOK pl 0 0 vs) (hz : zt.cells.size = (catV vs).length) : Yd P σ (.build t parts) ty (.agg (catV vs).toArray) w :=
  Yd.buildS hu hpl ht hx (by
    rw [hi]
    have := fill_seq pl vs 0 [] zt.cells.toList ho (by simpa using hz)
    simpa using this)
theorem Cel.eq {w b T} {S S' : Segs} (h : Cel w b T S) (e : S = S') : Cel w b T S' := e ▸ h
theorem idx_u8 (x : UInt8) : 0 ≤ (x.toNat : Int) ∧ (x.toNat : Int) < ((256 : Nat) : Int) := by have := x.toNat_lt; omega
theorem idx_u8' (x : UInt8) : ((x.toNat : Int)).toNat < 256 := by have := x.toNat_lt; omega
theorem asl_eq {b o n l l' h h' : Nat} (e1 : l = l') (e2 : h = h') : asl b o n l h = asl b o n l' h' := by subst e1; subst e2; rfl
theorem Yd.sliceA4 {ty t x e n b o lo hi k k' l h} (hu : P.underlying t = some (.array n e)) {z by'} (hz : TI P e z 1 by') (hx : ev σ x = some (.pointer (some ⟨b, o, none⟩))) (hlo : ev σ lo = some (.int k l)) (hhi : ev σ hi = some (.int k' h)) (hb : 0 ≤ l ∧ l ≤ h ∧ h ≤ (n : Int)) :
    Yd P σ (.slice t x (some lo) (some hi) none) ty (asl b o n l.toNat h.toNat) w :=
  yd_v (fun ρ => Instr.sliceAt t (ρ x) (some (ρ lo)) (some (ρ hi)) none) (fun _ _ _ _ _ => rfl) fun N ds a w' hf he => by
    obtain ⟨j, hj, _, hj1, _⟩ := hz.out
    simp only [hf.ev hx, hf.ev hlo, hf.ev hhi]
    have b1 := run_sliceBound (P := P) w' k' h n .sliceAcap (by omega) (by omega)
    obtain ⟨h', rfl⟩ := Int.eq_ofNat_of_zero_le (show 0 ≤ h by omega)
    obtain ⟨l', rfl⟩ := Int.eq_ofNat_of_zero_le (show 0 ≤ l by omega)
    have c1 : ∀ c, (Instr.sliceBound (.int k' (h' : Int)) n c).run P w' = .ok h' w' := fun c => by have := run_sliceBound (P := P) w' k' (h' : Int) n c (by omega) (by omega); simpa using this
    have c2 : ∀ c, (Instr.sliceBound (.int k (l' : Int)) h' c).run P w' = .ok l' w' := fun c => by have := run_sliceBound (P := P) w' k (l' : Int) h' c (by omega) (by omega); simpa using this
    simp [Instr.sliceAt, run_underlying hu, Instr.sureAddr, Instr.sliceBounds, sizeOf, typeInfo, hj, hj1, add_at, asl, c1, c2]
theorem Yd.sliceAL {ty t x e n b o lo k l} (hu : P.underlying t = some (.array n e)) {z by'} (hz : TI P e z 1 by') (hx : ev σ x = some (.pointer (some ⟨b, o, none⟩))) (hlo : ev σ lo = some (.int k l)) (hb : 0 ≤ l ∧ l ≤ (n : Int)) :
    Yd P σ (.slice t x (some lo) none none) ty (asl b o n l.toNat n) w :=
  yd_v (fun ρ => Instr.sliceAt t (ρ x) (some (ρ lo)) none none) (fun _ _ _ _ _ => rfl) fun N ds a w' hf he => by
    obtain ⟨j, hj, _, hj1, _⟩ := hz.out
    simp only [hf.ev hx, hf.ev hlo]
    obtain ⟨l', rfl⟩ := Int.eq_ofNat_of_zero_le (show 0 ≤ l by omega)
    have c2 : ∀ c, (Instr.sliceBound (.int k (l' : Int)) n c).run P w' = .ok l' w' := fun c => by have := run_sliceBound (P := P) w' k (l' : Int) n c (by omega) (by omega); simpa using this
    simp [Instr.sliceAt, run_underlying hu, Instr.sureAddr, Instr.sliceBounds, sizeOf, typeInfo, hj, hj1, add_at, asl, c2]
theorem Yd.arrPB {ty t x n e s} {l : List UInt8} (hu : P.underlying t = some (.array n e)) (hx : ev σ x = some s) (h : Bs w s l) (hn : n ≤ l.length) : Yd P σ (.sliceToArrayPointer t x) ty (ptrOf s) w := Yd.arrP hu hx h (by simpa using hn)
theorem Yd.loadPB {ty t x s n z by'} {l : List UInt8} (ht : agg P t = true) (hz : TI P t z n by') (hx : ev σ x = some (ptrOf s)) (h : Bs w s l) (hn : n ≤ l.length) (h0 : Nat.blt 0 n = true) : Yd P σ (.load t x) ty (Ag (fun x : UInt8 => B x) (l.take n)) w :=
  Yd.cast (Yd.loadP ht hz hx h (by simpa using hn) h0) (by rw [← List.map_take])
theorem Ye.litM {α : Type} {f : α → Value} (l : List α) {ty t e n z by' base} {parts : Array (Nat × Operand)} (hu : P.underlying t = some (.slice e)) (hz : TI P e z 1 by') (hz1 : z.cells = #[z]) (hp : evs σ (parts.toList.map (·.2)) = some (l.map f))
    (hi : parts.toList.map (·.1) = List.range' 0 (l.map f).length) (hn : n = (l.map f).length) (hc : ∀ u, (f u).cells = #[f u]) (hn24 : Nat.ble n 16777216 = true) (hbase : base ≤ w.heap.size) : Ye P σ (.buildSlice t n parts) ty w fun v w1 => Ow base e w1 v (l.map f) ∧ Ext w w1 :=
  Ye.lit hu hz hz1 hp hi hn (fun v hv => by obtain ⟨u, _, rfl⟩ := List.mem_map.1 hv; exact hc u) hn24 hbase
/-- A literal's bytes as those of a string. -/
theorem Ye.mark {ty s d x e v xs base} (hs : P.underlying s = some (.slice e)) (hd : P.underlying d = some (.slice e)) (hsd : (s == d) = true) (he : P.underlying e = some (.int .u8)) (hx : ev σ x = some v) (ho : Ow base e w v xs) (h0 : Nat.blt 0 xs.length = true) :
    Ye P σ (.convert s d x) ty w fun u w1 => u = v ∧ Rv w1 v xs ∧ w.grownBy w1 v.ownBlock := fun N ds a w' dst pos after g next Q hf hS hk => by
  have h0' : 0 < xs.length := by simpa [Nat.blt_eq] using h0
  have ho' : Ow base e w' v xs := ho.ext hS.ext
  rcases id ho'.2 with ⟨_, h1⟩ | ⟨g0, cap, cur, rfl, hbg, hg, hnc, hcm, hcs, htk⟩
  · omega
  have hrd := ho'.rd
  have hconv : (convert s d (.slice (some ⟨g0, 0, none⟩) xs.length cap)).run P w' = .ok (.slice (some ⟨g0, 0, none⟩) xs.length cap) (w'.freeze ⟨g0, cur.size, none⟩ 1) := by
    simp [convert, run_underlying hs, run_underlying hd, run_underlying he, hsd, markStringish, World.shape?, hg]
  unfold Oper.wp
  have : (execOp a.eval ⟨dst, .convert s d x, ty, pos, after, g⟩).run P w' = .ok (.value (.slice (some ⟨g0, 0, none⟩) xs.length cap)) (w'.freeze ⟨g0, cur.size, none⟩ 1) := by
    simp only [execOp, hf.ev hx]
    rw [Sem.run_bind, hconv]; rfl
  rw [this]
  have hother : ∀ k, k ≠ g0 → (w'.freeze ⟨g0, cur.size, none⟩ 1).heap[k]? = w'.heap[k]? := fun k hk => by
    unfold World.freeze
    rw [if_neg (by decide)]
    simp only [Array.getElem?_modify]
    rw [if_neg (fun e => hk e.symm)]
  have hsz : (w'.freeze ⟨g0, cur.size, none⟩ 1).heap.size = w'.heap.size := by unfold World.freeze; rw [if_neg (by decide)]; simp
  have hcell : ∀ o, (w'.freeze ⟨g0, cur.size, none⟩ 1).cell? ⟨g0, o, none⟩ = w'.cell? ⟨g0, o, none⟩ := fun o => by
    unfold World.cell? World.freeze
    rw [if_neg (by decide)]
    simp [Array.getElem?_modify, hg]
  refine hk _ _ _ ⟨rfl, ⟨?_, fun k hk => ?_⟩, ?_⟩ (Same.refl _)
  · obtain ⟨p, c, h1, h2, h3, h4⟩ := hrd
    cases h1
    refine ⟨_, _, rfl, h2, h3, fun i u hu => ?_⟩
    obtain ⟨b, o, hp, hc⟩ := h4 i u hu
    cases hp
    exact ⟨_, _, rfl, by rw [hcell]; exact hc⟩
  · rw [hsz]; exact ho'.live k hk
  · refine ⟨?_, ?_, ?_, by rw [hsz, hS.heap]; exact Nat.le_refl _, fun k _ hne => ?_⟩
    · unfold World.freeze; rw [if_neg (by decide)]; exact hS.os
    · unfold World.freeze; rw [if_neg (by decide)]; exact hS.tape
    · unfold World.freeze; rw [if_neg (by decide)]; exact hS.output
    · rw [hother k (fun e => hne (by simp [Value.ownBlock, e])), hS.heap]
end
/-! ### Any order -/
structure Asr where
  slot : Nat
  ι : Type
  val : ι → Value
  Φ : ι → World → Prop
  stab : ∀ x w w', Φ x w → Ext w w' → Φ x w'
def Asr.holds (A : Asr) (a : Act) (w : World) : Prop := ∃ x, a.tmps.getD A.slot undef = A.val x ∧ A.Φ x w
abbrev Asr.v (t : Nat) (u : Value) : Asr := ⟨t, Unit, fun _ => u, fun _ _ => True, fun _ _ _ _ _ => trivial⟩
abbrev Asr.own (t base : Nat) (E : TypeId) (xs : List Value) : Asr := ⟨t, Value, fun v => v, fun v w => Ow base E w v xs, fun _ _ _ h he => Ow.ext h he⟩
abbrev Asr.rd (t : Nat) (xs : List Value) : Asr := ⟨t, Value, fun v => v, fun v w => Rd w v xs, fun _ _ _ h he => Rd.ext h he⟩
abbrev Asr.new (t n : Nat) (T : TypeId) (S : Segs) : Asr := ⟨t, Nat, fun b => .pointer (some ⟨b, 0, none⟩), fun b w => n ≤ b ∧ Cel w b T S, fun _ _ _ h he => ⟨h.1, h.2.ext he⟩⟩
abbrev Asr.rl (t : Nat) (vs : List Value) (ll : List (List UInt8)) : Asr := ⟨t, Value, fun v => v, fun v w => Rl w v vs ll, fun _ _ _ h he => Rl.ext h he⟩
def PremP (M : List (Nat × Asr)) : List Nat → Env → World → (Env → Prop) → Prop
  | [], σ, _, G => G σ
  | k :: r, σ, w, G => match M[k]? with
    | some p => ∀ x, p.2.Φ x w → PremP M r ((p.2.slot, p.2.val x) :: σ) w G
    | none => PremP M r σ w G
section
variable {P : Program} {N : Nat} {ds : List Deferred} {σ : Env} {w : World} {Q : Exit → Act → World → Prop} {K : Act → World → Prop} {ops : Array Oper}
theorem Fits.more {σ a} (h : Fits N ds σ a) {t : Nat} {v : Value} (hv : a.tmps.getD t undef = v) : Fits N ds ((t, v) :: σ) a := ⟨h.size, h.defers, fun u x hx => by
  rw [Env.get_cons] at hx
  split at hx
  · rename_i e; subst e; have e2 := Option.some.inj hx; subst e2; exact hv
  · exact h.vals _ _ hx⟩
theorem PremP.elim {M : List (Nat × Asr)} {a : Act} {G : Env → Prop} : ∀ (D : List Nat) (σ : Env), PremP M D σ w G → Fits N ds σ a → (∀ k ∈ D, ∀ p, M[k]? = some p → p.2.holds a w) → ∃ σ', Fits N ds σ' a ∧ G σ'
  | [], σ, h, hf, _ => ⟨σ, hf, h⟩
  | k :: r, σ, h, hf, hD => by
    unfold PremP at h
    cases hk : M[k]? with
    | none => rw [hk] at h; exact PremP.elim r σ h hf (fun j hj p hp => hD j (by simp [hj]) p hp)
    | some p =>
      rw [hk] at h
      obtain ⟨x, h1, h2⟩ := hD k (by simp) p hk
      exact PremP.elim r _ (h x h2) (hf.more h1) (fun j hj p hp => hD j (by simp [hj]) p hp)
theorem PremP.nil {M : List (Nat × Asr)} {G : Env → Prop} (h : G σ) : PremP M [] σ w G := h
theorem PremP.c {M : List (Nat × Asr)} {G : Env → Prop} {k : Nat} {r : List Nat} {p : Nat × Asr} (hk : M[k]? = some p) (h : ∀ x, p.2.Φ x w → PremP M r ((p.2.slot, p.2.val x) :: σ) w G) : PremP M (k :: r) σ w G := by
  unfold PremP; rw [hk]; exact h
theorem PremP.v {M : List (Nat × Asr)} {G : Env → Prop} {k i t : Nat} {r : List Nat} {u : Value} (hk : M[k]? = some (i, Asr.v t u)) (h : PremP M r ((t, u) :: σ) w G) : PremP M (k :: r) σ w G := PremP.c hk fun _ _ => h
theorem PremP.own {M : List (Nat × Asr)} {G : Env → Prop} {k i t base E : Nat} {r : List Nat} {xs : List Value} (hk : M[k]? = some (i, Asr.own t base E xs)) (h : ∀ v, Ow base E w v xs → PremP M r ((t, v) :: σ) w G) : PremP M (k :: r) σ w G := PremP.c hk fun x hx => h x hx
theorem PremP.rd {M : List (Nat × Asr)} {G : Env → Prop} {k i t : Nat} {r : List Nat} {xs : List Value} (hk : M[k]? = some (i, Asr.rd t xs)) (h : ∀ v, Rd w v xs → PremP M r ((t, v) :: σ) w G) : PremP M (k :: r) σ w G := PremP.c hk fun x hx => h x hx
theorem PremP.new {M : List (Nat × Asr)} {G : Env → Prop} {k i t n T : Nat} {r : List Nat} {S : Segs} (hk : M[k]? = some (i, Asr.new t n T S)) (h : ∀ b, n ≤ b → Cel w b T S → PremP M r ((t, .pointer (some ⟨b, 0, none⟩)) :: σ) w G) : PremP M (k :: r) σ w G := PremP.c hk fun x hx => h x hx.1 hx.2
theorem PremP.rl {M : List (Nat × Asr)} {G : Env → Prop} {k i t : Nat} {r : List Nat} {vs : List Value} {ll : List (List UInt8)} (hk : M[k]? = some (i, Asr.rl t vs ll)) (h : ∀ v, Rl w v vs ll → PremP M r ((t, v) :: σ) w G) : PremP M (k :: r) σ w G := PremP.c hk fun x hx => h x hx
/-- What an operation leaves, told by an assertion. -/
def OpYe (P : Program) (ops : Array Oper) (i : Nat) (A : Asr) (σ : Env) (w : World) : Prop :=
  ∃ op ty pos after g, ops[i]? = some ⟨some A.slot, op, ty, pos, after, g⟩ ∧ (g = none ∨ ∃ j b t, g = some (j, b) ∧ (ops[j]?).bind (·.dst) = some t ∧ σ.get t = some (.bool b) ∧ ∀ a : Act, Fits N ds σ a → yielded ops a.tmps j = some b) ∧
    Ye P σ op ty w fun v w1 => (∃ x, v = A.val x ∧ A.Φ x w1) ∧ Ext w w1
theorem OpYe.mk {i : Nat} {A : Asr} {op ty pos after} (h : ops[i]? = some ⟨some A.slot, op, ty, pos, after, none⟩) (hy : Ye P σ op ty w fun v w1 => (∃ x, v = A.val x ∧ A.Φ x w1) ∧ Ext w w1) : OpYe (N := N) (ds := ds) P ops i A σ w := ⟨_, _, _, _, _, h, .inl rfl, hy⟩
theorem OpYe.mkg {i : Nat} {A : Asr} {op ty pos after j t b} (h : ops[i]? = some ⟨some A.slot, op, ty, pos, after, some (j, b)⟩) (hj : (ops[j]?).bind (·.dst) = some t) (hg : σ.get t = some (.bool b)) (hN : Nat.blt t N = true)
    (hy : Ye P σ op ty w fun v w1 => (∃ x, v = A.val x ∧ A.Φ x w1) ∧ Ext w w1) : OpYe (N := N) (ds := ds) P ops i A σ w := ⟨_, _, _, _, _, h, .inr ⟨j, b, t, rfl, hj, hg, fun a hf => hf.yielded hj hg hN⟩, hy⟩
theorem OpYe.val {i : Nat} {t : Nat} {u : Value} {op ty pos after} (h : ops[i]? = some ⟨some t, op, ty, pos, after, none⟩) (hy : Yd P σ op ty u w) : OpYe (N := N) (ds := ds) P ops i (Asr.v t u) σ w :=
  OpYe.mk h (hy.ye.mono fun v w1 h => ⟨⟨(), h.1, trivial⟩, by rw [h.2]; exact Ext.refl _⟩)
theorem OpYe.valg {i : Nat} {t : Nat} {u : Value} {op ty pos after j s b} (h : ops[i]? = some ⟨some t, op, ty, pos, after, some (j, b)⟩) (hj : (ops[j]?).bind (·.dst) = some s) (hg : σ.get s = some (.bool b)) (hN : Nat.blt s N = true) (hy : Yd P σ op ty u w) : OpYe (N := N) (ds := ds) P ops i (Asr.v t u) σ w :=
  OpYe.mkg h hj hg hN (hy.ye.mono fun v w1 h => ⟨⟨(), h.1, trivial⟩, by rw [h.2]; exact Ext.refl _⟩)
def Prems (P : Program) (N : Nat) (ds : List Deferred) (ops : Array Oper) (M : List (Nat × Asr)) (σ : Env) (w : World) : List (Nat × Asr) → List (List Nat) → Prop
  | p :: r, D :: q => (∀ w1, Ext w w1 → PremP M D σ w1 fun σ' => OpYe (N := N) (ds := ds) P ops p.1 p.2 σ' w1) ∧ Prems P N ds ops M σ w r q
  | [], [] => True
  | _, _ => False
theorem Prems.get {M : List (Nat × Asr)} : ∀ {r : List (Nat × Asr)} {q : List (List Nat)} {k : Nat} {p D}, Prems P N ds ops M σ w r q → r[k]? = some p → q[k]? = some D → ∀ w1, Ext w w1 → PremP M D σ w1 fun σ' => OpYe (N := N) (ds := ds) P ops p.1 p.2 σ' w1
  | [], [], k, p, D, _, h, _ => by cases k <;> cases h
  | [], _ :: _, k, p, D, h, _, _ => h.elim
  | _ :: _, [], k, p, D, h, _, _ => h.elim
  | p :: r, D :: q, 0, p', D', h, h1, h2 => by cases h1; cases h2; exact h.1
  | p :: r, D :: q, k + 1, p', D', h, h1, h2 => Prems.get h.2 h1 h2
/-- The check: l1 in order; the others of M wait for what they are told to know; what is beyond waits for all of M. -/
def depsB (md : Region.Mode) (ops : Array Oper) (M : List Nat) : List Nat → List (List Nat) → Bool
  | i :: r, D :: q => (D.all fun k => match M[k]? with | some m => reach md ops ops.size i m | none => false) && depsB md ops M r q
  | [], [] => true
  | _, _ => false
theorem depsB_get {md : Region.Mode} {M : List Nat} : ∀ {r : List Nat} {q : List (List Nat)} {k : Nat} {i : Nat} {D : List Nat}, depsB md ops M r q = true → r[k]? = some i → q[k]? = some D → ∀ d ∈ D, ∃ m, M[d]? = some m ∧ reach md ops ops.size i m = true
  | [], [], k, i, D, _, h, _ => by cases k <;> cases h
  | [], _ :: _, k, i, D, h, _, _ => by cases h
  | _ :: _, [], k, i, D, h, _, _ => by cases h
  | j :: r, E :: q, 0, i, D, h, h1, h2 => by
    cases h1; cases h2
    unfold depsB at h
    rw [Bool.and_eq_true] at h
    intro d hd
    have := List.all_eq_true.1 h.1 d hd
    cases hm : M[d]? with
    | none => rw [hm] at this; cases this
    | some m => rw [hm] at this; exact ⟨m, rfl, this⟩
  | j :: r, E :: q, k + 1, i, D, h, h1, h2 => by
    unfold depsB at h
    rw [Bool.and_eq_true] at h
    exact depsB_get h.2 h1 h2
theorem depsB_len {md : Region.Mode} {M : List Nat} : ∀ {r : List Nat} {q : List (List Nat)}, depsB md ops M r q = true → q.length = r.length
  | [], [], _ => rfl
  | [], _ :: _, h => by cases h
  | _ :: _, [], h => by cases h
  | _ :: r, _ :: q, h => by
    unfold depsB at h
    rw [Bool.and_eq_true] at h
    simp [depsB_len h.2]
def nodupB : List Nat → Bool
  | [] => true
  | a :: r => !r.contains a && nodupB r
theorem nodup_of : ∀ {l : List Nat}, nodupB l = true → l.Nodup
  | [], _ => List.nodup_nil
  | a :: r, h => by
    unfold nodupB at h
    rw [Bool.and_eq_true] at h
    refine List.nodup_cons.2 ⟨?_, nodup_of h.2⟩
    intro hm
    have := h.1
    simp [hm] at this
def linB (md : Region.Mode) (ops : Array Oper) : List Nat → Array Bool → Bool
  | [], _ => true
  | i :: r, s => (Region.ready md ops s).contains i && linB md ops r (s.setIfInBounds i true)
theorem linB_ready {md : Region.Mode} : ∀ {r : List Nat} {s listed : Array Bool}, linB md ops r s = true → (∀ j, s.getD j false = true → listed.getD j false = true) → (∀ i ∈ r, i < listed.size) → (∃ i ∈ r, listed.getD i true = false) → Region.ready md ops listed ≠ []
  | [], s, listed, _, _, _, h => by obtain ⟨i, hi, _⟩ := h; cases hi
  | i :: r, s, listed, h, hs, hz, hu => by
    unfold linB at h
    rw [Bool.and_eq_true] at h
    have hr : i ∈ Region.ready md ops s := by simpa using h.1
    have hlt := hz i (by simp)
    cases hl : listed.getD i true with
    | false =>
      obtain ⟨_, o, ho, ha⟩ := mem_ready.1 hr
      have : i ∈ Region.ready md ops listed := mem_ready.2 ⟨hl, o, ho, fun e he hb => hs _ (ha e he hb)⟩
      intro e; rw [e] at this; cases this
    | true =>
      have hl' : listed.getD i false = true := by
        rw [Array.getD_eq_getD_getElem?, Array.getElem?_eq_getElem hlt] at hl ⊢; simpa using hl
      refine linB_ready h.2 (fun j hj => ?_) (fun k hk => hz k (by simp [hk])) ?_
      · by_cases hji : i = j
        · subst hji; exact hl'
        · rw [getD_set_ne false hji] at hj; exact hs j hj
      · obtain ⟨k, hk, hk2⟩ := hu
        rcases List.mem_cons.1 hk with rfl | hk
        · rw [hl] at hk2; cases hk2
        · exact ⟨k, hk, hk2⟩
def ordA (md : Region.Mode) (ops : Array Oper) (N : Nat) (l1 : List (Nat × Bool)) (M slots : List Nat) (D : List (List Nat)) (l3 : List (Nat × Bool)) : Bool :=
  let s0 := Array.replicate ops.size false
  let s1 := listAll s0 l1
  let s2 := listAll s1 (M.map fun i => (i, true))
  Region.noSelect ops && Nat.beq (l1.length + (M.length + l3.length)) ops.size && goodSeq md ops l1 s0 && waitsB md ops M s1 && depsB md ops M M D && linB md ops M s1 && nodupB M && nodupB slots && slots.all (fun t => Nat.blt t N) &&
  M.all (fun m => Nat.blt m ops.size && !s1.getD m true) && goodSeq md ops l3 s2 && decide (Region.ready md ops (listAll s2 l3) = [])
def left (M : List Nat) (listed : Array Bool) : Nat := (M.filter fun i => !listed.getD i false).length
theorem left_zero {M : List Nat} {listed : Array Bool} (h : left M listed = 0) : ∀ i ∈ M, listed.getD i false = true := by
  intro i hi
  have h1 := List.eq_nil_of_length_eq_zero h
  have := List.filter_eq_nil_iff.1 h1 i hi
  simpa using this
theorem left_set {M : List Nat} {listed : Array Bool} {i : Nat} (hn : M.Nodup) (hi : i ∈ M) (hu : listed.getD i true = false) : left M listed = left M (listed.setIfInBounds i true) + 1 := by
  have hlt : i < listed.size := by
    rcases Nat.lt_or_ge i listed.size with h | h
    · exact h
    · rw [Array.getD_eq_getD_getElem?, Array.getElem?_eq_none h] at hu; cases hu
  have hf : listed.getD i false = false := getD_both hu
  induction M with
  | nil => cases hi
  | cons a r ih =>
    obtain ⟨h1, h2⟩ := List.nodup_cons.1 hn
    by_cases ha : a = i
    · subst ha
      have e1 : (listed.setIfInBounds a true).getD a false = true := by simp [Array.getD_eq_getD_getElem?, hlt]
      have e2 : r.filter (fun i => !(listed.setIfInBounds a true).getD i false) = r.filter (fun i => !listed.getD i false) := by
        apply List.filter_congr
        intro x hx
        rw [getD_set_ne false (by intro e; subst e; exact h1 hx)]
      unfold left
      rw [List.filter_cons_of_pos (by simp [hf]), List.filter_cons_of_neg (by simp [e1]), e2]
      simp
    · have hi' : i ∈ r := by
        rcases List.mem_cons.1 hi with h | h
        · exact absurd h.symm ha
        · exact h
      have := ih h2 hi'
      unfold left at *
      have e1 : (listed.setIfInBounds i true).getD a false = listed.getD a false := getD_set_ne false (fun e => ha e.symm)
      by_cases hl : listed.getD a false = true
      · rw [List.filter_cons_of_neg (by simp [hl]), List.filter_cons_of_neg (by simp [e1, hl])]; exact this
      · rw [List.filter_cons_of_pos (by simpa using hl), List.filter_cons_of_pos (by rw [e1]; simpa using hl), List.length_cons, List.length_cons, this]
theorem put_getD {a : Act} {d t : Nat} {v : Value} (h : d ≠ t) : (a.put (some d) v).tmps.getD t undef = a.tmps.getD t undef := by
  simp [Act.put, Array.getD_eq_getD_getElem?, Array.getElem?_setIfInBounds_ne h]
theorem put_getD_self {a : Act} {d : Nat} {v : Value} (h : d < a.tmps.size) : (a.put (some d) v).tmps.getD d undef = v := by
  simp [Act.put, Array.getD_eq_getD_getElem?, h]
/-- What stays while those of M come up. -/
structure Mid (N : Nat) (ds : List Deferred) (ops : Array Oper) (M : List (Nat × Asr)) (σ : Env) (w : World) (start listed : Array Bool) (a : Act) (w' : World) : Prop where
  fits : Fits N ds σ a
  ext : Ext w w'
  closed : Inv .any ops [] #[] listed
  low : ∀ j, start.getD j false = true → listed.getD j false = true
  high : ∀ j, listed.getD j false = true → start.getD j false = true ∨ j ∈ M.map (·.1)
  size : listed.size = start.size
  told : ∀ p ∈ M, listed.getD p.1 false = true → p.2.holds a w'
theorem wpAnyM_asr {M : List (Nat × Asr)} {D : List (List Nat)} {start target : Array Bool} {T : Act → World → Prop} (hwait : Waits .any ops (M.map (·.1)) start) (hdeps : depsB .any ops (M.map (·.1)) (M.map (·.1)) D = true) (hlin : linB .any ops (M.map (·.1)) start = true) (hn : (M.map (·.1)).Nodup)
    (hs : (M.map (·.2.slot)).Nodup) (hsl : ∀ p ∈ M, p.2.slot < N) (hfresh : ∀ p ∈ M, σ.get p.2.slot = none) (hun : ∀ p ∈ M, p.1 < start.size ∧ start.getD p.1 true = false) (htarget : ∀ listed : Array Bool, listed.size = start.size → (∀ j, listed.getD j false = true ↔ start.getD j false = true ∨ j ∈ M.map (·.1)) → listed = target)
    (hP : Prems P N ds ops M σ w M D) (hT : ∀ a w', Fits N ds σ a → Ext w w' → (∀ p ∈ M, p.2.holds a w') → T a w') :
    ∀ (f : Nat) (listed : Array Bool) (a : Act) (w' : World), Mid N ds ops M σ w start listed a w' → left (M.map (·.1)) listed = f → wpAnyM P .any ops Q (fun _ _ => True) (M.map (·.1)) (fun listed' a' w' => listed' = target ∧ Inv .any ops [] #[] listed' ∧ T a' w') f listed a w' := by
  intro f
  induction f with
  | zero =>
    intro listed a w' mid hl
    have hall := left_zero hl
    refine ⟨htarget listed mid.size fun j => ⟨mid.high j, fun h => ?_⟩, mid.closed, hT a w' mid.fits mid.ext fun p hp => mid.told p hp (hall _ (List.mem_map.2 ⟨p, hp, rfl⟩))⟩
    rcases h with h | h
    · exact mid.low j h
    · exact hall j h
  | succ f ih =>
    intro listed a w' mid hl
    obtain ⟨i0, hi0, hu0⟩ : ∃ i ∈ M.map (·.1), listed.getD i true = false := by
      have h1 : (M.map (·.1)).filter (fun i => !listed.getD i false) ≠ [] := by
        intro e
        have h2 : ((M.map (·.1)).filter fun i => !listed.getD i false).length = f + 1 := hl
        rw [e] at h2; cases h2
      obtain ⟨i, hi⟩ := List.exists_mem_of_ne_nil _ h1
      rw [List.mem_filter] at hi
      refine ⟨i, hi.1, ?_⟩
      obtain ⟨p, hp, e⟩ := List.mem_map.1 hi.1
      have hlt := (hun p hp).1
      have e' : p.1 = i := e
      rw [e', ← mid.size] at hlt
      have h3 := hi.2
      rw [Array.getD_eq_getD_getElem?, Array.getElem?_eq_getElem hlt] at h3 ⊢
      simpa using h3
    have hinv : Inv .any ops (M.map (·.1)) start listed := ⟨mid.closed.closed⟩
    have step : ∀ i ∈ Region.ready .any ops listed, i ∈ M.map (·.1) ∧ wpOp P ops Q i (fun a' w2 => True ∧ wpAnyM P .any ops Q (fun _ _ => True) (M.map (·.1)) (fun listed' a' w' => listed' = target ∧ Inv .any ops [] #[] listed' ∧ T a' w') f (listed.setIfInBounds i true) a' w2) a w' := by
      intro i hi
      have hiM := hwait listed hinv mid.low i0 hi0 hu0 i hi
      refine ⟨hiM, ?_⟩
      obtain ⟨hunl, oi, hoi, hafter⟩ := mem_ready.1 hi
      obtain ⟨k, hk⟩ := List.getElem?_of_mem hiM
      have hkM : ∃ p, M[k]? = some p ∧ p.1 = i := by
        rw [List.getElem?_map] at hk
        cases hp : M[k]? with
        | none => rw [hp] at hk; cases hk
        | some p => rw [hp] at hk; exact ⟨p, rfl, Option.some.inj hk⟩
      obtain ⟨p, hp, hpi⟩ := hkM
      have hpM : p ∈ M := List.mem_of_getElem? hp
      have hDl := depsB_len hdeps
      have hkl : k < D.length := by rw [hDl]; exact (List.getElem?_eq_some_iff.1 hk).1
      have hprem := Prems.get hP hp (List.getElem?_eq_getElem hkl) w' mid.ext
      have hdep := depsB_get hdeps hk (List.getElem?_eq_getElem hkl)
      obtain ⟨σ', hf', op, ty, pos, after, g, hop, hg, hy⟩ := PremP.elim (N := N) (ds := ds) _ _ hprem mid.fits fun d hd q hq => by
        obtain ⟨m, hm, hr⟩ := hdep d hd
        have hm' : q.1 = m := by rw [List.getElem?_map, hq] at hm; exact Option.some.inj hm
        refine mid.told q (List.mem_of_getElem? hq) ?_
        rw [hm']
        exact reach_spec mid.closed.closed _ _ _ hr (fun o' ho' e he hb => by
          have : o' = oi := Option.some.inj (ho'.symm.trans hoi)
          subst this
          exact hafter e he hb)
      rw [hpi] at hop
      unfold wpOp
      rw [hop]
      simp only
      have hw : Region.wanted ⟨some p.2.slot, op, ty, pos, after, g⟩ (yielded ops a.tmps) = true := by
        rcases hg with rfl | ⟨j, b, t, rfl, hj, hgt, hyl⟩
        · simp [Region.wanted]
        · simp [Region.wanted, hyl a hf']
      rw [if_pos hw]
      refine .inl (hy N ds a w' _ _ _ _ _ _ hf' (Same.refl _) fun v w3 w2 hv hs2 => ⟨trivial, ?_⟩)
      obtain ⟨⟨x, rfl, hx⟩, hx2⟩ := hv
      have hx2' : Ext w' w2 := hx2.trans hs2.ext
      refine ih _ _ _ ⟨?_, mid.ext.trans hx2', mid.closed.set hi, fun j hj => getD_set_true (mid.low j hj), fun j hj => ?_, by rw [Array.size_setIfInBounds]; exact mid.size, fun q hq hql => ?_⟩ ?_
      · refine ⟨by simp [Act.put, mid.fits.size], by simp [Act.put, mid.fits.defers], fun t u ht => ?_⟩
        have hne : p.2.slot ≠ t := by intro e; rw [← e, hfresh p hpM] at ht; cases ht
        rw [put_getD hne]; exact mid.fits.vals t u ht
      · by_cases hji : i = j
        · subst hji; exact .inr hiM
        · rw [getD_set_ne false hji] at hj; exact mid.high j hj
      · by_cases hqi : q.1 = i
        · obtain ⟨kq, hkq⟩ := List.getElem?_of_mem hq
          have hkk : kq = k := by
            have h1 : (M.map (·.1))[kq]? = some i := by rw [List.getElem?_map, hkq]; exact congrArg some hqi
            have hlt1 := (List.getElem?_eq_some_iff.1 h1).1
            exact (List.getElem?_inj hlt1 hn).1 (h1.trans hk.symm)
          subst hkk
          rw [hp] at hkq
          have e := Option.some.inj hkq
          subst e
          exact ⟨x, put_getD_self (by rw [mid.fits.size]; exact hsl p hpM), p.2.stab _ _ _ hx hs2.ext⟩
        · rw [getD_set_ne false (fun e => hqi e.symm)] at hql
          obtain ⟨y, hy1, hy2⟩ := mid.told q hq hql
          have hne : p.2.slot ≠ q.2.slot := by
            intro e
            obtain ⟨kq, hkq⟩ := List.getElem?_of_mem hq
            have h1 : (M.map (·.2.slot))[kq]? = some q.2.slot := by rw [List.getElem?_map, hkq]; rfl
            have h2 : (M.map (·.2.slot))[k]? = some q.2.slot := by rw [List.getElem?_map, hp, ← e]; rfl
            have hkk : kq = k := (List.getElem?_inj (List.getElem?_eq_some_iff.1 h1).1 hs).1 (h1.trans h2.symm)
            subst hkk
            rw [hp] at hkq
            have e3 := Option.some.inj hkq
            subst e3
            exact hqi hpi
          exact ⟨y, by rw [put_getD hne]; exact hy1, q.2.stab _ _ _ hy2 hx2'⟩
      · have := left_set hn hiM hunl
        omega
    exact ⟨linB_ready hlin mid.low (fun i hi => by obtain ⟨p, hp, e⟩ := List.mem_map.1 hi; rw [mid.size, ← e]; exact (hun p hp).1) ⟨i0, hi0, hu0⟩, step⟩
theorem listAll_size : ∀ (l : List (Nat × Bool)) (s : Array Bool), (listAll s l).size = s.size
  | [], s => rfl
  | p :: r, s => by
    show (listAll (s.setIfInBounds p.1 true) r).size = _
    rw [listAll_size r, Array.size_setIfInBounds]
theorem listAll_get : ∀ (l : List Nat) (s : Array Bool) (j : Nat), (∀ i ∈ l, i < s.size) → ((listAll s (l.map fun i => (i, true))).getD j false = true ↔ s.getD j false = true ∨ j ∈ l)
  | [], s, j, _ => by simp [listAll]
  | i :: r, s, j, h => by
    have hi := h i (by simp)
    show (listAll (s.setIfInBounds i true) (r.map fun i => (i, true))).getD j false = true ↔ _
    rw [listAll_get r _ j (fun k hk => by rw [Array.size_setIfInBounds]; exact h k (by simp [hk]))]
    by_cases hij : i = j
    · subst hij
      have : (s.setIfInBounds i true).getD i false = true := by simp [Array.getD_eq_getD_getElem?, hi]
      simp [this]
    · rw [getD_set_ne false hij]
      constructor
      · rintro (h | h)
        · exact .inl h
        · exact .inr (by simp [h])
      · rintro (h | h)
        · exact .inl h
        · rcases List.mem_cons.1 h with e | h
          · exact absurd e.symm hij
          · exact .inr h
theorem bools_ext {a b : Array Bool} (hs : a.size = b.size) (h : ∀ j, a.getD j false = true ↔ b.getD j false = true) : a = b := by
  apply Array.ext hs
  intro i h1 h2
  have := h i
  rw [Array.getD_eq_getD_getElem?, Array.getD_eq_getD_getElem?, Array.getElem?_eq_getElem h1, Array.getElem?_eq_getElem h2] at this
  simp only [Option.getD_some] at this
  exact Bool.eq_iff_iff.2 this
/-- The walk ahead of those of M. -/
def AT (P : Program) (N : Nat) (ds : List Deferred) (ops : Array Oper) (M : List (Nat × Asr)) (D : List (List Nat)) (T : Act → World → Prop) (a : Act) (w : World) : Prop :=
  ∃ σ w0, Fits N ds σ a ∧ Same w0 w ∧ (∀ p ∈ M, σ.get p.2.slot = none) ∧ Prems P N ds ops M σ w0 M D ∧ ∀ w1, Ext w0 w1 → PremP M (List.range M.length) σ w1 fun σ' => J N ds σ' T w1
def freshB (σ : Env) : List Nat → Bool
  | [] => true
  | t :: r => !(σ.any fun p => Nat.beq p.1 t) && freshB σ r
theorem env_none {σ : Env} {t : Nat} (h : (σ.any fun p => Nat.beq p.1 t) = false) : σ.get t = none := by
  induction σ with
  | nil => rfl
  | cons p r ih =>
    obtain ⟨k, u⟩ := p
    simp only [List.any_cons, Bool.or_eq_false_iff] at h
    unfold Env.get
    rw [h.1]; exact ih h.2
theorem freshB_of {σ : Env} : ∀ {l : List Nat}, freshB σ l = true → ∀ t ∈ l, σ.get t = none
  | [], _, t, h => by cases h
  | a :: r, h, t, ht => by
    unfold freshB at h
    rw [Bool.and_eq_true] at h
    rcases List.mem_cons.1 ht with rfl | ht
    · exact env_none (by simpa using h.1)
    · exact freshB_of h.2 t ht
theorem J.a_in {M : List (Nat × Asr)} {D : List (List Nat)} {T : Act → World → Prop} (R : List Nat) (hR : List.range M.length = R) (hf : freshB σ (M.map (·.2.slot)) = true) (hp : Prems P N ds ops M σ w M D) (hT : ∀ w1, Ext w w1 → PremP M R σ w1 fun σ' => J N ds σ' T w1) :
    J N ds σ (AT P N ds ops M D T) w := by subst hR; exact fun a w' h hs => ⟨σ, w, h, hs, fun p hp => freshB_of hf _ (List.mem_map.2 ⟨p, hp, rfl⟩), hp, hT⟩
theorem J.regionA {id : Nat} {ops : Array Oper} (l1 : List (Nat × Bool)) (M : List (Nat × Asr)) (Mi Ms : List Nat) (D : List (List Nat)) (l3 : List (Nat × Bool)) (hMi : M.map (·.1) = Mi) (hMs : M.map (·.2.slot) = Ms) (hm : P.follows .mixedOrders = true) (hB : ordA .any ops N l1 Mi Ms D l3 = true)
    (h : J N ds σ (wpSeq P ops (NoPan Q) (AT P N ds ops M D (wpSeq P ops (NoPan Q) (NoPan Q .normal) l3)) l1) w) : J N ds σ ((Code.region id ops true).wp P Q) w := by
  subst hMi; subst hMs
  intro a w' hf hs
  have h := h a w'.drew hf (hs.trans (Same.drew w'))
  refine Code.wp_mono NoPan.imp ?_
  have hQ : ∀ c a w d v, NoPan Q (.panic c) (Act.put a d v) w → NoPan Q (.panic c) a w := fun _ _ _ _ _ h => h
  generalize NoPan Q = Q at *
  simp only [ordA, Bool.and_eq_true] at hB
  obtain ⟨⟨⟨⟨⟨⟨⟨⟨⟨⟨⟨hsel, hlen⟩, hg1⟩, hw⟩, hd⟩, hl⟩, hn⟩, hn2⟩, hN⟩, hun⟩, hg3⟩, hend⟩ := hB
  have hlen' : l1.length + ((M.map (·.1)).length + l3.length) = ops.size := Nat.eq_of_beq_eq_true hlen
  have inv0 : Inv .any ops [] #[] (Array.replicate ops.size false) := ⟨fun j oj _ hl => (by rw [getD_replicate_false] at hl; cases hl)⟩
  have hs1 : (listAll (Array.replicate ops.size false) l1).size = ops.size := by rw [listAll_size]; simp
  have hend' : Region.ready .any ops (listAll (listAll (listAll (Array.replicate ops.size false) l1) ((M.map (·.1)).map fun i => (i, true))) l3) = [] := by simpa using hend
  refine wp_region_any hm ?_
  suffices hh : wpAny P .any ops Q (l1.length + ((M.map (·.1)).length + l3.length)) (Array.replicate ops.size false) a w'.drew by rw [hlen'] at hh; exact hh
  refine wpAny_of_seq' (md := .any) (g := (M.map (·.1)).length + l3.length) hsel hQ l1 _ a w'.drew inv0 hg1 (fun a w inv1 hT => ?_) h
  obtain ⟨σ', w0, hf', hs', hfr, hP, hfin⟩ := hT
  generalize hS1 : listAll (Array.replicate ops.size false) l1 = s1 at *
  have hun' : ∀ p ∈ M, p.1 < s1.size ∧ s1.getD p.1 true = false := fun p hp => by
    have := List.all_eq_true.1 hun p.1 (List.mem_map.2 ⟨p, hp, rfl⟩)
    rw [Bool.and_eq_true] at this
    exact ⟨by rw [hs1]; simpa [Nat.blt_eq] using this.1, by simpa using this.2⟩
  have hleft : left (M.map (·.1)) s1 = (M.map (·.1)).length := by
    unfold left
    rw [List.filter_eq_self.2]
    intro i hi
    obtain ⟨p, hp, e⟩ := List.mem_map.1 hi
    have h3 := getD_both (hun' p hp).2
    have e' : p.1 = i := e
    rw [← e']; simp [h3]
  have hmid : Mid N ds ops M σ' w0 s1 s1 a w := ⟨hf', hs'.ext, inv1, fun _ h => h, fun _ h => .inl h, rfl, fun p hp h => by rw [getD_both (hun' p hp).2] at h; cases h⟩
  have htgt : ∀ listed : Array Bool, listed.size = s1.size → (∀ j, listed.getD j false = true ↔ s1.getD j false = true ∨ j ∈ M.map (·.1)) → listed = listAll s1 ((M.map (·.1)).map fun i => (i, true)) := fun listed h1 h2 =>
    bools_ext (by rw [h1, listAll_size]) fun j => by
      rw [h2, listAll_get _ _ _ (fun i hi => by obtain ⟨p, hp, e⟩ := List.mem_map.1 hi; have := (hun' p hp).1; have e' : p.1 = i := e; omega)]
  have H := wpAnyM_asr (P := P) (Q := Q) (T := fun a w => wpSeq P ops Q (Q .normal) l3 a w) (target := listAll s1 ((M.map (·.1)).map fun i => (i, true))) (waits_of hw) hd hl (nodup_of hn) (nodup_of hn2)
    (fun p hp => by have := List.all_eq_true.1 hN p.2.slot (List.mem_map.2 ⟨p, hp, rfl⟩); simpa [Nat.blt_eq] using this) hfr hun' htgt hP
    (fun a w1 hfa hx hall => by
      obtain ⟨σ'', hf2, hJ⟩ := PremP.elim (N := N) (ds := ds) _ _ (hfin w1 hx) hfa (fun k _ p hp => hall p (List.mem_of_getElem? hp))
      exact hJ a w1 hf2 (Same.refl _)) _ s1 a w hmid hleft
  refine wpAny_of_M (Q := Q) (g := l3.length) (fun listed a' w' hL => ?_) _ _ _ _ H
  obtain ⟨rfl, inv2, hT3⟩ := hL
  have := wpAny_of_seq' (md := .any) (g := 0) hsel hQ l3 _ a' w' inv2 hg3 (fun a w _ hT => ⟨hend', hT⟩) hT3
  simpa using this
end
end Go.X

/-
  copy into a row of the call's own; rows of values.
-/
set_option linter.unusedVariables false
set_option linter.unusedSimpArgs false
namespace Go.X
open Go.RowKit
section
variable {P : Program} {N : Nat} {ds : List Deferred} {σ : Env} {w : World}
/-! ### Guards that were not reached -/
theorem Fits.yielded_u {σ a} (h : Fits N ds σ a) {ops : Array Oper} {j t : Nat} (hj : (ops[j]?).bind (·.dst) = some t) (hg : σ.get t = some undef) (hN : Nat.blt t N = true) : Go.yielded ops a.tmps j = Option.none := by
  have ht : t < a.tmps.size := by rw [h.size]; simpa [Nat.blt_eq] using hN
  have hv := h.vals t _ hg
  unfold Go.yielded
  rw [hj]
  simp only [Option.bind_some, Array.getElem?_eq_getElem ht]
  rw [Array.getD_eq_getD_getElem?, Array.getElem?_eq_getElem ht] at hv
  simp only [Option.getD_some] at hv
  rw [hv]; rfl
variable {Q : Exit → Act → World → Prop} {ops : Array Oper} {rest : List Oper}
theorem J.not_u {op ty pos after d j t b} (hj : (ops[j]?).bind (·.dst) = some t) (hg : σ.get t = some undef) (hN : Nat.blt t N = true) (hd : Nat.blt d N = true) (h : J N ds ((d, undef) :: σ) (wpList P ops Q rest) w) :
    J N ds σ (wpList P ops Q (⟨some d, op, ty, pos, after, some (j, b)⟩ :: rest)) w := fun a w' hf hs => by
  unfold wpList
  rw [if_neg (by simp [Region.wanted, hf.yielded_u hj hg hN])]
  exact h _ _ (hf.put d hd undef) hs
theorem J.s_not_u {T : Act → World → Prop} {r : List (Nat × Bool)} {i : Nat} {op ty pos after d j t b} (ho : ops[i]? = some ⟨some d, op, ty, pos, after, some (j, b)⟩) (hj : (ops[j]?).bind (·.dst) = some t) (hg : σ.get t = some undef) (hN : Nat.blt t N = true)
    (hd : Nat.blt d N = true) (h : J N ds ((d, undef) :: σ) (wpSeq P ops Q T r) w) : J N ds σ (wpSeq P ops Q T ((i, true) :: r)) w := fun a w' hf hs =>
  ⟨_, undef, ho, .inr ⟨by simp [Region.wanted, hf.yielded_u hj hg hN], rfl⟩, h _ _ (hf.put d hd undef) hs⟩
theorem J.s_skip_u {T : Act → World → Prop} {r : List (Nat × Bool)} {i : Nat} {op ty pos after d j t b} (ho : ops[i]? = some ⟨some d, op, ty, pos, after, some (j, b)⟩) (hj : (ops[j]?).bind (·.dst) = some t) (hg : σ.get t = some undef) (hN : Nat.blt t N = true)
    (hd : Nat.blt d N = true) (h : J N ds ((d, undef) :: σ) (wpSeq P ops Q T r) w) : J N ds σ (wpSeq P ops Q T ((i, false) :: r)) w := fun a w' hf hs => by
  show wpOp P ops Q i _ a w'
  unfold wpOp
  simp only [ho]
  rw [if_neg (by simp [Region.wanted, hf.yielded_u hj hg hN])]
  exact h _ _ (hf.put d hd undef) hs
theorem J.o_not_u {T : Act → World → Prop} {r : List (Nat × Nat)} {i : Nat} {op ty pos after d j t b} (ho : ops[i]? = some ⟨some d, op, ty, pos, after, some (j, b)⟩) (hj : (ops[j]?).bind (·.dst) = some t) (hg : σ.get t = some undef) (hN : Nat.blt t N = true)
    (hd : Nat.blt d N = true) (h : J N ds ((d, undef) :: σ) (wpOrd P ops Q Ext T r) w) : J N ds σ (wpOrd P ops Q Ext T ((i, 1) :: r)) w := fun a w' hf hs =>
  ⟨_, undef, ho, .inr ⟨by simp [Region.wanted, hf.yielded_u hj hg hN], rfl⟩, h _ _ (hf.put d hd undef) hs⟩
theorem J.o_skip_u {T : Act → World → Prop} {r : List (Nat × Nat)} {i : Nat} {op ty pos after d j t b} (ho : ops[i]? = some ⟨some d, op, ty, pos, after, some (j, b)⟩) (hj : (ops[j]?).bind (·.dst) = some t) (hg : σ.get t = some undef) (hN : Nat.blt t N = true)
    (hd : Nat.blt d N = true) (h : J N ds ((d, undef) :: σ) (wpOrd P ops Q Ext T r) w) : J N ds σ (wpOrd P ops Q Ext T ((i, 0) :: r)) w := fun a w' hf hs => by
  show wpOp P ops Q i _ a w'
  unfold wpOp
  simp only [ho]
  rw [if_neg (by simp [Region.wanted, hf.yielded_u hj hg hN])]
  exact ⟨hs.symm.ext.trans hs.ext, h _ _ (hf.put d hd undef) hs⟩
theorem Ye.copyO {ty x y dT sT e base xs s r ys z by'} (hu : P.underlying dT = some (.slice e)) (hz : TI P e z 1 by') (hx : ev σ x = some s) (hy : ev σ y = some r) (ho : Ow base e w s xs) (hr : Rd w r ys) (h1 : ∀ v ∈ ys, v.oneCell' = true) :
    Ye P σ (.call ⟨.builtin .copy, #[x, y], #[dT, sT]⟩) ty w fun v w1 => v = I (min ys.length xs.length : Nat) ∧ Ow base e w1 s (ys.take xs.length ++ xs.drop (min ys.length xs.length)) ∧ w.grownBy w1 s.ownBlock :=
  ye_bi (vs := [s, r]) (Builtin.copy_ #[dT, sT] ty) (by simp [evs, hx, hy]) (fun _ _ => rfl) fun w' hs => by
    obtain ⟨j, hj, _, hj1, _⟩ := hz.out
    have hgs : w.grownBy w' none := grown_ext hs.ext
    have hgo : w.grownBy w' s.ownBlock := ⟨hgs.os, hgs.tape, hgs.output, hgs.size, fun k hk _ => hgs.block k hk (by simp)⟩
    have ho' : Ow base e w' s xs := ho.ext hs.ext
    obtain ⟨p, c, rfl, h7, h8, h9⟩ := hr.ext hs.ext
    rcases id ho'.2 with ⟨rfl, h0⟩ | ⟨g, cap, cur, rfl, hbg, hg, hnc, hcm, hcs, htk⟩
    · have hx0 : xs = [] := List.eq_nil_of_length_eq_zero h0
      subst hx0
      refine ⟨goInt 0, w', w', ?_, Same.refl _, by simp [goInt], ?_, hgo⟩
      · cases p <;> simp [Builtin.copy_, run_underlying hu, Builtin.lenOf, Builtin.firstCells, sizeOf, typeInfo, hj, hj1, storeCells, loadCells, loadCellsFrom]
      · simpa using ho'
    · have hcs' : cur.size = cap := by simpa using hcs
      have htk' : cur.toList.take xs.length = xs := by simpa using htk
      have hys : (ys.take xs.length).length = min ys.length xs.length := by simp; omega
      cases p with
      | none =>
        have : ys = [] := by
          cases ys with
          | nil => rfl
          | cons x l => obtain ⟨b, o, hp, _⟩ := h9 0 x (by simp); cases hp
        subst this
        have hc := h8 rfl
        subst hc
        exact ⟨_, w', w', copy_none hu hz _ _ _ _ w', Same.refl _, by simp [goInt], by simpa using ho', hgo⟩
      | some ad =>
        have hrow : Own w' g e cur.toList := hg
        have hcp := run_copy_row (P := P) w' dT sT ty e g 0 xs.length cap ad ys.length c cur.toList.toArray e (ys.take xs.length) hu (by rw [hj]; simp [hj1]) hrow (by rw [hys]) (fun i v hv => by
            have hi := (List.getElem?_eq_some_iff.1 hv).1
            rw [List.getElem?_take_of_lt (by simp at hi; omega)] at hv
            obtain ⟨b', o', hp, hc⟩ := h9 i v hv
            cases hp
            rw [add_at]; exact hc) (by simp; omega) (fun v hv => h1 v (List.mem_of_mem_take hv))
        refine ⟨_, _, _, hcp, Same.refl _, by rw [hys]; rfl, ⟨by simp, .inr ⟨g, cap, _, by simp; omega, hbg, setRow_heap w' g _ _ e _ hg, by simp; omega, hcm, ?_, ?_⟩⟩, ?_⟩
        · simp; omega
        · have hxs : xs = cur.toList.take xs.length := htk'.symm
          simp only [List.take_zero, List.nil_append, Nat.zero_add, Nat.mul_one, List.length_append, List.length_drop, hys]
          rw [show min ys.length xs.length + (xs.length - min ys.length xs.length) = xs.length by omega]
          rw [List.take_append, hys, List.take_of_length_le (by rw [hys]; omega)]
          congr 1
          rw [← List.drop_take, htk']
        · exact ⟨hs.os, hs.tape, hs.output, by simp [World.setRow, hs.heap], fun k _ hk => by rw [setRow_other w' g k _ (fun e => hk (by simp [Value.ownBlock, e])), hs.heap]⟩
end
end Go.X

/-
  Function values, longer literals of rows.
-/
set_option linter.unusedVariables false
set_option linter.unusedSimpArgs false
namespace Go.X
open Go.RowKit
theorem Rl.nil0 (w : World) : Rl w nilS [] [] := ⟨Rd.nil w, rfl, fun i hi => absurd hi (by simp)⟩
theorem Rl.three {w : World} {s v1 v2 v3 : Value} {l1 l2 l3 : List UInt8} (h : Rd w s [v1, v2, v3]) (h1 : Bs w v1 l1) (h2 : Bs w v2 l2) (h3 : Bs w v3 l3) : Rl w s [v1, v2, v3] [l1, l2, l3] :=
  ⟨h, rfl, fun i hi => by
    have hi' : i < 3 := hi
    rcases (by omega : i = 0 ∨ i = 1 ∨ i = 2) with rfl | rfl | rfl
    · exact h1
    · exact h2
    · exact h3⟩
theorem Rl.four {w : World} {s v1 v2 v3 v4 : Value} {l1 l2 l3 l4 : List UInt8} (h : Rd w s [v1, v2, v3, v4]) (h1 : Bs w v1 l1) (h2 : Bs w v2 l2) (h3 : Bs w v3 l3) (h4 : Bs w v4 l4) : Rl w s [v1, v2, v3, v4] [l1, l2, l3, l4] :=
  ⟨h, rfl, fun i hi => by
    have hi' : i < 4 := hi
    rcases (by omega : i = 0 ∨ i = 1 ∨ i = 2 ∨ i = 3) with rfl | rfl | rfl | rfl
    · exact h1
    · exact h2
    · exact h3
    · exact h4⟩
section
variable {P : Program} {N : Nat} {ds : List Deferred} {σ : Env} {w : World}
theorem Ye.litS3 {ty t e x y u z by' v1 v2 v3 l1 l2 l3} (hu : P.underlying t = some (.slice e)) (hz : TI P e z 1 by') (hz1 : z.cells = #[z]) (hx : ev σ x = some v1) (hy : ev σ y = some v2) (hu3 : ev σ u = some v3) (h1 : Bs w v1 l1) (h2 : Bs w v2 l2) (h3 : Bs w v3 l3) :
    Ye P σ (.buildSlice t 3 #[(0, x), (1, y), (2, u)]) ty w fun s w1 => Rl w1 s [v1, v2, v3] [l1, l2, l3] ∧ Ext w w1 :=
  (Ye.lit (base := w.heap.size) hu hz hz1 (vs := [v1, v2, v3]) (by simp [evs, hx, hy, hu3]) rfl rfl (by simpa using ⟨Rd.cells h1, Rd.cells h2, Rd.cells h3⟩) rfl (Nat.le_refl _)).mono fun s w1 ⟨ho, he⟩ => ⟨Rl.three ho.rd (h1.ext he) (h2.ext he) (h3.ext he), he⟩
theorem Ye.litS4 {ty t e x y u q z by' v1 v2 v3 v4 l1 l2 l3 l4} (hu : P.underlying t = some (.slice e)) (hz : TI P e z 1 by') (hz1 : z.cells = #[z]) (hx : ev σ x = some v1) (hy : ev σ y = some v2) (hu3 : ev σ u = some v3) (hu4 : ev σ q = some v4) (h1 : Bs w v1 l1) (h2 : Bs w v2 l2) (h3 : Bs w v3 l3) (h4 : Bs w v4 l4) :
    Ye P σ (.buildSlice t 4 #[(0, x), (1, y), (2, u), (3, q)]) ty w fun s w1 => Rl w1 s [v1, v2, v3, v4] [l1, l2, l3, l4] ∧ Ext w w1 :=
  (Ye.lit (base := w.heap.size) hu hz hz1 (vs := [v1, v2, v3, v4]) (by simp [evs, hx, hy, hu3, hu4]) rfl rfl (by simpa using ⟨Rd.cells h1, Rd.cells h2, Rd.cells h3, Rd.cells h4⟩) rfl (Nat.le_refl _)).mono fun s w1 ⟨ho, he⟩ => ⟨Rl.four ho.rd (h1.ext he) (h2.ext he) (h3.ext he) (h4.ext he), he⟩
theorem Yd.mkFunc {ty f vs} {fst : Array Operand} (hx : evs σ fst.toList = some vs) : Yd P σ (.makeFunc (.func f) fst #[]) ty (.func (.func f) vs.toArray #[]) w := fun N ds a w' dst pos after g hf he => by
  have hv : fst.map a.eval = vs.toArray := by rw [← hf.evs hx]; apply Array.toList_inj.1; simp
  simp [execOp, Instr.makeFunc, hv]
end
end Go.X

/-
  A region that draws its order and stores in it: what only reads comes ahead of the stores, whatever the order.
-/
set_option linter.unusedVariables false
set_option linter.unusedSimpArgs false
namespace Go.X
open Go.RowKit
section
variable {P : Program} {ops : Array Oper} {Q : Exit → Act → World → Prop} {md : Region.Mode}
/-- Whatever order is picked among those of M; but for those of St each leaves a world beyond. -/
def wpAnyX (P : Program) (md : Region.Mode) (ops : Array Oper) (Q : Exit → Act → World → Prop) (St M : List Nat) (L : Array Bool → Act → World → Prop) : Nat → Array Bool → Act → World → Prop
  | 0, listed, a, w => L listed a w
  | f + 1, listed, a, w =>
    Region.ready md ops listed ≠ [] ∧ ∀ i ∈ Region.ready md ops listed, i ∈ M ∧ wpOp P ops Q i (fun a' w' => (i ∉ St → Ext w w') ∧ wpAnyX P md ops Q St M L f (listed.setIfInBounds i true) a' w') a w
theorem wpAny_of_X {St M : List Nat} {g : Nat} {L : Array Bool → Act → World → Prop} (hL : ∀ listed a w, L listed a w → wpAny P md ops Q g listed a w) :
    ∀ (f : Nat) (listed : Array Bool) (a : Act) (w : World), wpAnyX P md ops Q St M L f listed a w → wpAny P md ops Q (f + g) listed a w
  | 0, listed, a, w, h => by rw [Nat.zero_add]; exact hL _ _ _ h
  | f + 1, listed, a, w, h => by
    rw [show f + 1 + g = (f + g) + 1 by omega]
    exact ⟨fun h0 => absurd h0 h.1, fun i hi => wpOp_mono (fun a' w' h' => wpAny_of_X hL f _ a' w' h'.2) (h.2 i hi).2⟩
theorem wpAnyX_first {S : World → World → Prop} {St M : List Nat} {start : Array Bool} {i : Nat} {oi : Oper} {v : Value} {L : Array Bool → Act → World → Prop} (hrefl : ∀ w, S w w) (htrans : ∀ a b c, S a b → S b c → S a c) (hS : ∀ listed, Inv md ops M start listed → listed.getD i true = false → ∀ j ∈ Region.ready md ops listed, j ≠ i → ∀ w w' : World, (j ∉ St → Ext w w') → S w w')
    (hi : ops[i]? = some oi) (hsel : ∀ (j : Nat) (o : Oper) cs b, ops[j]? = some o → o.op ≠ .select cs b)
    (hQ : ∀ c a w, Q (.panic c) (a.put oi.dst v) w → Q (.panic c) a w) (hwait : Waits md ops M start) (hin : i ∈ M)
    (hdone : ∀ listed a w, L listed a w → ∀ j ∈ Region.ready md ops listed, j ∉ M) :
    ∀ (f : Nat) (listed : Array Bool) (a : Act) (w : World), Inv md ops M start listed → (∀ j, start.getD j false = true → listed.getD j false = true) →
      (∀ j oj, ops[j]? = some oj → j ≠ i → listed.getD j true = false → (∀ e ∈ oj.after, Region.binds md e = true → e.on ≠ i) → oi.apart ops oj = true) →
      i ∈ Region.ready md ops listed → YieldsIf P ops (S w) oi v a →
      wpAnyX P md ops Q St M L f (listed.setIfInBounds i true) (a.put oi.dst v) w → wpAnyX P md ops Q St M L (f + 1) listed a w := by
  intro f
  induction f with
  | zero =>
    intro listed a w inv hst _ hr hy H
    have hun := (mem_ready.1 hr).1
    refine ⟨fun h => (by rw [h] at hr; cases hr), fun j hj => ?_⟩
    have hjn : j ∈ M := hwait listed inv hst i hin hun j hj
    refine ⟨hjn, ?_⟩
    by_cases hji : j = i
    · subst hji; exact hy.wpOp hi (hrefl w) ⟨fun _ => Ext.refl w, H⟩
    · exact absurd hjn (hdone _ _ _ H j (ready_mono hj hji))
  | succ f ih =>
    intro listed a w inv hst hfree hr hy H
    have hun := (mem_ready.1 hr).1
    refine ⟨fun h => (by rw [h] at hr; cases hr), fun j hj => ?_⟩
    have hjn : j ∈ M := hwait listed inv hst i hin hun j hj
    refine ⟨hjn, ?_⟩
    by_cases hji : j = i
    · subst hji; exact hy.wpOp hi (hrefl w) ⟨fun _ => Ext.refl w, H⟩
    · have h1 := (H.2 j (ready_mono hj hji)).2
      obtain ⟨hjun, oj, hoj, hall⟩ := mem_ready.1 hj
      have hnot : ∀ e ∈ oj.after, Region.binds md e = true → e.on ≠ i := fun e he hb heq => by
        have h1 := hall e he hb
        rw [heq, getD_both hun] at h1
        cases h1
      have h2 := wpOp_putIf hoj (hfree j oj hoj hji hjun hnot) (fun cs b => hsel i oi cs b hi) (fun cs b => hsel j oj cs b hoj) hQ hy h1
      have hfree' : ∀ k ok, ops[k]? = some ok → k ≠ i → (listed.setIfInBounds j true).getD k true = false →
          (∀ e ∈ ok.after, Region.binds md e = true → e.on ≠ i) → oi.apart ops ok = true := fun k ok hk hki hun hno => by
        refine hfree k ok hk hki ?_ hno
        by_cases hjk : j = k
        · subst hjk; exact hjun
        · rw [getD_set_ne true hjk] at hun; exact hun
      refine wpOp_mono (fun a' w' h3 => ⟨h3.2.1, ih (listed.setIfInBounds j true) a' w' (inv.set hj) (getD_start hst) hfree' (ready_mono hr (Ne.symm hji))
        (YieldsIf.weaken h3.1 fun w'' h => htrans _ _ _ (hS listed inv hun j hj hji _ _ h3.2.1) h) ?_⟩) h2
      rw [Array.setIfInBounds_comm _ _ hji]
      exact h3.2.2

def namesX (l : List (Nat × Nat)) : List (Nat × Bool) := l.map fun p => (p.1, true)
/-- The order chosen, checked: 0: alone; 1: taken first, it reads, and all stores wait for it; 2: alone, it stores; 3: taken first, it looks at no world. -/
def goodX (md : Region.Mode) (ops : Array Oper) (St M : List Nat) (target : Array Bool) : List (Nat × Nat) → Array Bool → Bool
  | [], listed => decide (listed = target)
  | (i, 0) :: r, listed => M.contains i && decide (Region.ready md ops listed = [i]) && goodX md ops St M target r (listed.setIfInBounds i true)
  | (i, 1) :: r, listed => M.contains i && ((Region.ready md ops listed).contains i && Region.free md ops listed i) && (St.all fun s => reach md ops ops.size s i) && goodX md ops St M target r (listed.setIfInBounds i true)
  | (i, 2) :: r, listed => M.contains i && St.contains i && decide (Region.ready md ops listed = [i]) && goodX md ops St M target r (listed.setIfInBounds i true)
  | (i, 3) :: r, listed => M.contains i && ((Region.ready md ops listed).contains i && Region.free md ops listed i) && goodX md ops St M target r (listed.setIfInBounds i true)
  | _ :: _, _ => false
/-- The walk in the order chosen. -/
def wpX (P : Program) (ops : Array Oper) (Q : Exit → Act → World → Prop) (T : Act → World → Prop) : List (Nat × Nat) → Act → World → Prop
  | [], a, w => T a w
  | (i, 0) :: r, a, w => wpOp P ops Q i (fun a' w' => Ext w w' ∧ wpX P ops Q T r a' w') a w
  | (i, 1) :: r, a, w => ∃ o v, ops[i]? = some o ∧ YieldsIf P ops (Ext w) o v a ∧ wpX P ops Q T r (a.put o.dst v) w
  | (i, 2) :: r, a, w => wpOp P ops Q i (wpX P ops Q T r) a w
  | (i, 3) :: r, a, w => ∃ o v, ops[i]? = some o ∧ YieldsIf P ops (fun _ => True) o v a ∧ wpX P ops Q T r (a.put o.dst v) w
  | _ :: _, _, _ => False
theorem wpAnyX_of {St M : List Nat} {start target : Array Bool} {T : Act → World → Prop} (hsel : Region.noSelect ops = true)
    (hQ : ∀ c a w d v, Q (.panic c) (Act.put a d v) w → Q (.panic c) a w) (hwait : Waits md ops M start) (htarget : ∀ m ∈ M, target.getD m false = true) :
    ∀ (l : List (Nat × Nat)) (listed : Array Bool) (a : Act) (w : World), Inv md ops M start listed → (∀ j, start.getD j false = true → listed.getD j false = true) → goodX md ops St M target l listed = true → wpX P ops Q T l a w →
      wpAnyX P md ops Q St M (fun listed' a' w' => listed' = target ∧ T a' w') l.length listed a w
  | [], listed, a, w, _, _, hB, h => ⟨by simpa [goodX] using hB, h⟩
  | (i, 0) :: r, listed, a, w, inv, hst, hB, h => by
    simp only [goodX, Bool.and_eq_true] at hB
    obtain ⟨⟨hin, hq⟩, hB'⟩ := hB
    have hq' : Region.ready md ops listed = [i] := by simpa using hq
    have hr' : i ∈ Region.ready md ops listed := by rw [hq']; simp
    refine ⟨by rw [hq']; simp, fun j hj => ?_⟩
    have hji : j = i := by rw [hq'] at hj; simpa using hj
    subst hji
    exact ⟨by simpa using hin, wpOp_mono (fun a' w' h' => ⟨fun _ => h'.1, wpAnyX_of hsel hQ hwait htarget r _ _ _ (inv.set hr') (getD_start hst) hB' h'.2⟩) h⟩
  | (i, 2) :: r, listed, a, w, inv, hst, hB, h => by
    simp only [goodX, Bool.and_eq_true] at hB
    obtain ⟨⟨⟨hin, hs⟩, hq⟩, hB'⟩ := hB
    have hq' : Region.ready md ops listed = [i] := by simpa using hq
    have hr' : i ∈ Region.ready md ops listed := by rw [hq']; simp
    refine ⟨by rw [hq']; simp, fun j hj => ?_⟩
    have hji : j = i := by rw [hq'] at hj; simpa using hj
    subst hji
    have hs' : j ∈ St := by simpa using hs
    exact ⟨by simpa using hin, wpOp_mono (fun a' w' h' => ⟨fun hn => absurd hs' hn, wpAnyX_of hsel hQ hwait htarget r _ _ _ (inv.set hr') (getD_start hst) hB' h'⟩) h⟩
  | (i, 1) :: r, listed, a, w, inv, hst, hB, h => by
    simp only [goodX, Bool.and_eq_true] at hB
    obtain ⟨⟨⟨hin, hr, hf⟩, hall⟩, hB'⟩ := hB
    have hr' : i ∈ Region.ready md ops listed := by simpa using hr
    obtain ⟨o, v, ho, hy, hK⟩ := h
    refine wpAnyX_first (S := Ext) Ext.refl (fun _ _ _ h k => h.trans k) (fun lst hinv hun j hj hji w w' hx => hx fun hjs => ?_) ho (Region.noSelect_spec hsel) (fun c a w => hQ c a w _ _) hwait (by simpa using hin) (fun listed' a' w' hL j hj hjM => by
        have h1 := getD_both (mem_ready.1 hj).1
        have h2 := htarget j hjM
        rw [hL.1, h2] at h1
        cases h1) r.length listed a w inv hst (Region.free_spec ho hf) hr' hy
      (wpAnyX_of hsel hQ hwait htarget r _ _ _ (inv.set hr') (getD_start hst) hB' hK)
    obtain ⟨_, oj, hoj, haf⟩ := mem_ready.1 hj
    have h3 := reach_spec hinv.closed _ _ _ (List.all_eq_true.1 hall j hjs) (fun o' ho' e he hb => by
      have : o' = oj := Option.some.inj (ho'.symm.trans hoj)
      subst this
      exact haf e he hb)
    rw [getD_both hun] at h3; cases h3
  | (i, 3) :: r, listed, a, w, inv, hst, hB, h => by
    simp only [goodX, Bool.and_eq_true] at hB
    obtain ⟨⟨hin, hr, hf⟩, hB'⟩ := hB
    have hr' : i ∈ Region.ready md ops listed := by simpa using hr
    obtain ⟨o, v, ho, hy, hK⟩ := h
    exact wpAnyX_first (S := fun _ _ => True) (fun _ => trivial) (fun _ _ _ _ _ => trivial) (fun _ _ _ _ _ _ _ _ _ => trivial) ho (Region.noSelect_spec hsel) (fun c a w => hQ c a w _ _) hwait (by simpa using hin) (fun listed' a' w' hL j hj hjM => by
        have h1 := getD_both (mem_ready.1 hj).1
        have h2 := htarget j hjM
        rw [hL.1, h2] at h1
        cases h1) r.length listed a w inv hst (Region.free_spec ho hf) hr' hy
      (wpAnyX_of hsel hQ hwait htarget r _ _ _ (inv.set hr') (getD_start hst) hB' hK)
  | (i, k + 4) :: r, listed, a, w, inv, hst, hB, h => by simp [goodX] at hB
theorem inv_X {St M : List Nat} {tgt : Array Bool} : ∀ (l : List (Nat × Nat)) (s : Array Bool), goodX md ops St M tgt l s = true → Inv md ops [] #[] s → Inv md ops [] #[] (listAll s (namesX l))
  | [], s, _, hi => hi
  | (i, 0) :: r, s, hg, hi => by
    simp only [goodX, Bool.and_eq_true] at hg
    have : Region.ready md ops s = [i] := by simpa using hg.1.2
    exact inv_X r _ hg.2 (hi.set (by rw [this]; simp))
  | (i, 1) :: r, s, hg, hi => by
    simp only [goodX, Bool.and_eq_true] at hg
    exact inv_X r _ hg.2 (hi.set (by simpa using hg.1.1.2.1))
  | (i, 2) :: r, s, hg, hi => by
    simp only [goodX, Bool.and_eq_true] at hg
    have : Region.ready md ops s = [i] := by simpa using hg.1.2
    exact inv_X r _ hg.2 (hi.set (by rw [this]; simp))
  | (i, 3) :: r, s, hg, hi => by
    simp only [goodX, Bool.and_eq_true] at hg
    exact inv_X r _ hg.2 (hi.set (by simpa using hg.1.2.1))
  | (i, k + 4) :: r, s, hg, hi => by simp [goodX] at hg
def stX (l : List (Nat × Nat)) : List Nat := (l.filter fun p => Nat.beq p.2 2).map (·.1)
def ordX (md : Region.Mode) (ops : Array Oper) (l1 : List (Nat × Bool)) (l2 : List (Nat × Nat)) (l3 : List (Nat × Bool)) : Bool :=
  let s0 := Array.replicate ops.size false
  let s1 := listAll s0 l1
  let s2 := listAll s1 (namesX l2)
  let M := (namesX l2).map (·.1)
  Region.noSelect ops && Nat.beq (l1.length + (l2.length + l3.length)) ops.size && goodSeq md ops l1 s0 && goodX md ops (stX l2) M s2 l2 s1 && waitsB md ops M s1 && M.all (fun m => s2.getD m false) &&
  goodSeq md ops l3 s2 && decide (Region.ready md ops (listAll s2 l3) = [])
theorem wp_region_X {id : Nat} {a : Act} {w : World} (l1 : List (Nat × Bool)) (l2 : List (Nat × Nat)) (l3 : List (Nat × Bool))
    (hm : P.follows .mixedOrders = true) (hB : ordX .any ops l1 l2 l3 = true)
    (h : wpSeq P ops (NoPan Q) (wpX P ops (NoPan Q) (wpSeq P ops (NoPan Q) (NoPan Q .normal) l3) l2) l1 a w.drew) : (Code.region id ops true).wp P Q a w := by
  refine Code.wp_mono NoPan.imp ?_
  have hQ : ∀ c a w d v, NoPan Q (.panic c) (Act.put a d v) w → NoPan Q (.panic c) a w := fun _ _ _ _ _ h => h
  generalize NoPan Q = Q at *
  simp only [ordX, Bool.and_eq_true] at hB
  obtain ⟨⟨⟨⟨⟨⟨⟨hsel, hlen⟩, hg1⟩, hg2⟩, hw⟩, ht⟩, hg3⟩, hend⟩ := hB
  have hlen' : l1.length + (l2.length + l3.length) = ops.size := Nat.eq_of_beq_eq_true hlen
  have inv0 : Inv .any ops [] #[] (Array.replicate ops.size false) := ⟨fun j oj _ hl => (by rw [getD_replicate_false] at hl; cases hl)⟩
  have hend' : Region.ready .any ops (listAll (listAll (listAll (Array.replicate ops.size false) l1) (namesX l2)) l3) = [] := by simpa using hend
  refine wp_region_any hm ?_
  suffices hh : wpAny P .any ops Q (l1.length + (l2.length + l3.length)) (Array.replicate ops.size false) a w.drew by rw [hlen'] at hh; exact hh
  refine wpAny_of_seq' (md := .any) (g := l2.length + l3.length) hsel hQ l1 _ a w.drew inv0 hg1 (fun a w inv1 hT => ?_) h
  have H := wpAnyX_of (md := .any) (start := listAll (Array.replicate ops.size false) l1) hsel hQ (waits_of hw)
    (fun m hm => List.all_eq_true.1 ht m hm) l2 _ a w ⟨inv1.closed⟩ (fun _ h => h) hg2 hT
  refine wpAny_of_X (Q := Q) (g := l3.length) (fun listed a' w' hL => ?_) _ _ _ _ H
  obtain ⟨rfl, hT3⟩ := hL
  have inv2 := inv_X l2 _ hg2 inv1
  have := wpAny_of_seq' (md := .any) (g := 0) hsel hQ l3 _ a' w' inv2 hg3 (fun a w _ hT => ⟨hend', hT⟩) hT3
  simpa using this
end
section
variable {P : Program} {N : Nat} {ds : List Deferred} {σ : Env} {w : World} {Q : Exit → Act → World → Prop} {K : Act → World → Prop} {ops : Array Oper}
theorem J.regionX {id : Nat} {ops : Array Oper} (l1 : List (Nat × Bool)) (l2 : List (Nat × Nat)) (l3 : List (Nat × Bool)) (hm : P.follows .mixedOrders = true) (hB : ordX .any ops l1 l2 l3 = true)
    (h : J N ds σ (wpSeq P ops (NoPan Q) (wpX P ops (NoPan Q) (wpSeq P ops (NoPan Q) (NoPan Q .normal) l3) l2) l1) w) : J N ds σ ((Code.region id ops true).wp P Q) w := fun a w' hf hs =>
  wp_region_X l1 l2 l3 hm hB (h a w'.drew hf (hs.trans (Same.drew w')))
theorem J.x_nil {T : Act → World → Prop} (h : J N ds σ T w) : J N ds σ (wpX P ops Q T []) w := h
theorem J.x_op {T : Act → World → Prop} {r : List (Nat × Nat)} {i : Nat} {op ty pos after v d} (ho : ops[i]? = some ⟨some d, op, ty, pos, after, none⟩) (hy : Yd P σ op ty v w) (hd : Nat.blt d N = true)
    (h : J N ds ((d, v) :: σ) (wpX P ops Q T r) w) : J N ds σ (wpX P ops Q T ((i, 1) :: r)) w := fun a w' hf hs =>
  ⟨_, v, ho, .inl ⟨by simp [Region.wanted], fun w'' he => hy N ds a w'' _ _ _ _ hf (hs.ext.trans he)⟩, h _ _ (hf.put d hd v) hs⟩
theorem J.x_plain {T : Act → World → Prop} {r : List (Nat × Nat)} {i : Nat} {op ty pos after v d} (ho : ops[i]? = some ⟨some d, op, ty, pos, after, none⟩) (hy : ∀ w, Yd P σ op ty v w) (hd : Nat.blt d N = true)
    (h : J N ds ((d, v) :: σ) (wpX P ops Q T r) w) : J N ds σ (wpX P ops Q T ((i, 3) :: r)) w := fun a w' hf hs =>
  ⟨_, v, ho, .inl ⟨by simp [Region.wanted], fun w'' _ => hy w'' N ds a w'' _ _ _ _ hf (Ext.refl _)⟩, h _ _ (hf.put d hd v) hs⟩
theorem J.x_store {T : Act → World → Prop} {r : List (Nat × Nat)} {i : Nat} {op ty pos after Φ} (ho : ops[i]? = some ⟨none, op, ty, pos, after, none⟩) (hy : Ye P σ op ty w Φ) (h : ∀ v w1, Φ v w1 → J N ds σ (wpX P ops Q T r) w1) :
    J N ds σ (wpX P ops Q T ((i, 2) :: r)) w := fun a w' hf hs => by
  show wpOp P ops Q i _ a w'
  unfold wpOp
  simp only [ho]
  rw [if_pos (by simp [Region.wanted])]
  exact .inl (hy N ds a w' _ _ _ _ _ _ hf hs fun v w3 w2 hp hs2 => h v w3 hp _ _ hf hs2)
end
end Go.X
