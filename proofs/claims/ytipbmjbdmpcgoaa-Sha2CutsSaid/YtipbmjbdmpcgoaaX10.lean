/-
  Arrays and structs built as values.
-/
import Derived.Test.YtipbmjbdmpcgoaaX9
set_option linter.unusedVariables false
set_option linter.unusedSimpArgs false
namespace Go.X
section
variable {P : Program} {N : Nat} {ds : List Deferred} {σ : Env} {w : World}
theorem parts_eval {N ds σ a} (hf : Fits N ds σ a) : ∀ {ps : List (Nat × Operand)} {vs : List Value}, evs σ (ps.map (·.2)) = some vs → ps.map (fun p => (p.1, a.eval p.2)) = (ps.map (·.1)).zip vs
  | [], vs, h => by simp [evs] at h; subst h; rfl
  | p :: r, vs, h => by
    have he := hf.evs h
    cases vs with
    | nil => simp at he
    | cons v vs =>
      have h1 : a.eval p.2 = v := by simpa using congrArg List.head? he
      have h2 : evs σ (r.map (·.2)) = some vs := by
        simp only [List.map_cons, evs] at h
        revert h
        cases ev σ p.2 <;> cases evs σ (r.map (·.2)) <;> simp
      simp only [List.map_cons, List.zip_cons_cons, h1, parts_eval hf h2]
/-- An array's elements of one cell each. -/
theorem Yd.buildA {ty t n e parts vs cells z zt by' bt} (hu : P.underlying t = some (.array n e)) (hz : TI P e z 1 by') (ht : TI P t zt n bt) (hx : evs σ (parts.toList.map (·.2)) = some vs)
    (hfill : Instr.fill (fun i => some (i * 1, 1)) zt.cells ((parts.toList.map (·.1)).zip vs) = some cells) : Yd P σ (.build t parts) ty (.agg cells) w :=
  yd_v (fun ρ => Instr.build t (parts.map fun (i, x) => (i, ρ x))) (fun _ _ _ _ _ => rfl) fun N ds a w' hf he => by
    obtain ⟨j, hj, _, hj1, _⟩ := hz.out
    obtain ⟨j', hj', hj0', _, _⟩ := ht.out
    have hp := parts_eval hf hx
    simp only [Instr.build, zeroValue, sizeOf, typeInfo]
    simp only [Array.toList_map, hp]
    simp only [Nat.mul_one] at hfill
    simp [hj', hj0', run_underlying hu, hj, hj1, hfill]
/-- The places of a struct's fields. -/
def places (P : Program) (fs : Array Field) : Option (List (Nat × Nat)) := fs.toList.mapM fun f => (P.info? f.type).map fun i => (f.offset, i.size)
def place1 (f : Field) : Sem (Nat × Nat) := do pure (f.offset, ← sizeOf f.type)
theorem run_place1 (w' : World) {f : Field} {i : TypeInfo} (hf : P.info? f.type = some i) : (place1 f).run P w' = .ok (f.offset, i.size) w' := by
  simp [place1, sizeOf, typeInfo, hf]
theorem run_places (w' : World) : ∀ (fs : List Field) (pl : List (Nat × Nat)), fs.mapM (fun f => (P.info? f.type).map fun i => (f.offset, i.size)) = some pl →
    (fs.mapM place1).run P w' = .ok pl w'
  | [], pl, h => by simp at h; subst h; rfl
  | f :: r, pl, h => by
    rw [List.mapM_cons] at h
    cases hf : P.info? f.type with
    | none => rw [hf] at h; simp at h
    | some i =>
      rw [hf] at h
      cases hr : r.mapM (fun f => (P.info? f.type).map fun i => (f.offset, i.size)) with
      | none => rw [hr] at h; simp at h
      | some q =>
        rw [hr] at h
        simp at h
        subst h
        have ih := run_places w' r q hr
        rw [List.mapM_cons, Sem.run_bind, run_place1 w' hf, Result.andThen_ok, Sem.run_bind, ih]
        rfl
theorem Yd.buildS {ty t fs parts vs cells zt bt n pl} (hu : P.underlying t = some (.struct fs)) (hpl : places P fs = some pl) (ht : TI P t zt n bt) (hx : evs σ (parts.toList.map (·.2)) = some vs)
    (hfill : Instr.fill (pl.toArray[·]?) zt.cells ((parts.toList.map (·.1)).zip vs) = some cells) : Yd P σ (.build t parts) ty (.agg cells) w :=
  yd_v (fun ρ => Instr.build t (parts.map fun (i, x) => (i, ρ x))) (fun _ _ _ _ _ => rfl) fun N ds a w' hf he => by
    obtain ⟨j', hj', hj0', _, _⟩ := ht.out
    have hp := parts_eval hf hx
    have hpr := run_places (P := P) w' fs.toList pl hpl
    have hpa : (fs.mapM place1 : Sem (Array (Nat × Nat))).run P w' = .ok pl.toArray w' := by
      rw [Array.mapM_eq_mapM_toList]
      simp only [Sem.run_map, hpr]
      rfl
    have hz : (zeroValue t).run P w' = .ok zt w' := by simp [zeroValue, typeInfo, hj', hj0']
    unfold Instr.build
    rw [Sem.run_bind, hz, Result.andThen_ok, Sem.run_bind, run_underlying hu, Result.andThen_ok]
    show ((fs.mapM place1 >>= fun places => _ : Sem Value)).run P w' = _
    rw [Sem.run_bind, hpa, Result.andThen_ok, Array.toList_map, hp, hfill]
    rfl
end
theorem one_M {α : Type} {f : α → Value} (l : List α) (h : ∀ u, (f u).oneCell' = true) : ∀ v ∈ l.map f, v.oneCell' = true := by
  intro v hv
  obtain ⟨u, _, rfl⟩ := List.mem_map.1 hv
  exact h u
end Go.X
