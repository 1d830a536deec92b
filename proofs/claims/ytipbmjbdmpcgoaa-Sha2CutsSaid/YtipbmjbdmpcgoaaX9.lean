/-
  More on blocks: what stays apart, copies, arrays as values, results in cells.
-/
import Derived.Test.YtipbmjbdmpcgoaaX8
set_option linter.unusedVariables false
set_option linter.unusedSimpArgs false
namespace Go.X
open Go.RowKit
theorem Ow.upd {base E w w' s xs b} (h : Ow base E w s xs) (hu : Upd b w w') (hne : s.ownBlock ≠ some b) : Ow base E w' s xs :=
  World.ownsRow.kept h (row := some b) ⟨hu.os, hu.tape, hu.output, by rw [hu.size]; exact Nat.le_refl _, fun k hk hne' => hu.block k (fun e => hne' (by rw [e]))⟩ (by
    cases hv : s.ownBlock with
    | none => simp
    | some k => rw [hv] at hne; simp; intro e; exact hne (by rw [e]))
theorem Ow.neLt {base E w s xs b} (h : Ow base E w s xs) (hb : w.heap.size ≤ b) : s.ownBlock ≠ some b := fun e => by have := (h.lt b e).2; omega
theorem Ow.neBase {base E w s xs b} (h : Ow base E w s xs) (hb : b < base) : s.ownBlock ≠ some b := fun e => by have := (h.lt b e).1; omega
theorem Ow.size {base E w s xs} (h : Ow base E w s xs) (hx : 0 < xs.length) : ∃ k, s.ownBlock = some k ∧ base ≤ k := by
  rcases id h.2 with ⟨_, h0⟩ | ⟨g, cap, cur, rfl, hb, _⟩
  · omega
  · exact ⟨g, rfl, hb⟩
theorem Rd.upd {w w' s xs b} (h : Rd w s xs) (hu : Upd b w w') (hne : ∀ p n c, s = .slice (some p) n c → p.block ≠ b) : Rd w' s xs := by
  obtain ⟨p, c, h1, h2, h3, h4⟩ := h
  refine ⟨p, c, h1, h2, h3, fun i v hv => ?_⟩
  obtain ⟨g, o, hp, hc⟩ := h4 i v hv
  refine ⟨g, o, hp, ?_⟩
  have : g ≠ b := by subst hp; exact hne _ _ _ h1
  unfold World.cell? at *
  simp only at *
  rw [hu.block g this]; exact hc
theorem Cel.cong {w b T o n} {α : Type} {f : α → Value} {l l' : List α} (h : Cel w b T [(o, n, l.map f)]) (e : l = l') : Cel w b T [(o, n, l'.map f)] := e ▸ h
/-- The pointer to a slice's first element. -/
def ptrOf : Value → Value
  | .slice p _ _ => .pointer p
  | v => v
/-- The elements of a list by index, the first k of them by g. -/
def fillU {α : Type} (g : Nat → α) (l : List α) (k : Nat) : List α := l.mapIdx fun j x => if j < k then g j else x
theorem fillU_len {α : Type} (g : Nat → α) (l : List α) (k : Nat) : (fillU g l k).length = l.length := by simp [fillU]
theorem fillU_zero {α : Type} (g : Nat → α) (l : List α) : fillU g l 0 = l := by
  apply List.ext_getElem
  · simp [fillU]
  · intro i h1 h2; simp [fillU]
theorem fillU_set {α : Type} (g : Nat → α) (l : List α) (k : Nat) : (fillU g l k).set k (g k) = fillU g l (k + 1) := by
  apply List.ext_getElem
  · simp [fillU]
  · intro i h1 h2
    simp only [fillU, List.getElem_set, List.getElem_mapIdx]
    by_cases h : k = i
    · subst h; simp
    · rw [if_neg h]
      by_cases h' : i < k
      · rw [if_pos h', if_pos (by omega)]
      · rw [if_neg h', if_neg (by omega)]
theorem fillU_get {α : Type} (g : Nat → α) (l : List α) (k i : Nat) (d : α) (h : k ≤ i) : (fillU g l k).getD i d = l.getD i d := by
  rw [List.getD_eq_getElem?_getD, List.getD_eq_getElem?_getD]
  simp only [fillU, List.getElem?_mapIdx]
  cases l[i]? with
  | none => rfl
  | some x => simp; intro h'; omega
theorem fillU_lt {α : Type} (g : Nat → α) (l : List α) (k i : Nat) (d : α) (h : i < k) (hl : i < l.length) : (fillU g l k).getD i d = g i := by
  rw [List.getD_eq_getElem?_getD]
  simp only [fillU, List.getElem?_mapIdx, List.getElem?_eq_getElem hl]
  simp [h]
theorem fillU_all {α : Type} (g : Nat → α) (l : List α) (k : Nat) (h : l.length ≤ k) : fillU g l k = (List.range l.length).map g := by
  apply List.ext_getElem
  · simp [fillU]
  · intro i h1 h2
    simp only [fillU_len] at h1
    simp only [fillU, List.getElem_mapIdx, List.getElem_map, List.getElem_range]
    rw [if_pos (by omega)]
theorem splice_in {L zs : List Value} {o n l : Nat} (h : o + n ≤ L.length) (hl : l + zs.length ≤ n) :
    ((L.take (o + l) ++ zs ++ L.drop (o + l + zs.length)).drop o).take n = ((L.drop o).take n).take l ++ zs ++ ((L.drop o).take n).drop (l + zs.length) := by
  have e1 : (L.take (o + l)).drop o = (L.drop o).take l := by rw [List.drop_take]; congr 1; omega
  rw [List.append_assoc, List.drop_append_of_le_length (by simp; omega), e1]
  have e2 : L.drop (o + l + zs.length) = (L.drop o).drop (l + zs.length) := by rw [List.drop_drop, Nat.add_assoc]
  have hD : n ≤ (L.drop o).length := by simp; omega
  rw [e2]
  generalize L.drop o = D at hD
  have a1 : List.take n (D.take l) = D.take l := List.take_of_length_le (by simp; omega)
  have a2 : (D.take l).length = l := by simp; omega
  have a3 : List.take (n - l) (zs ++ D.drop (l + zs.length)) = zs ++ (D.drop (l + zs.length)).take (n - l - zs.length) := by
    rw [List.take_append, List.take_of_length_le (by omega)]
  rw [List.take_append, a1, a2, a3, List.take_take, Nat.min_eq_left (by omega), List.drop_take, List.append_assoc, Nat.sub_sub]
section
variable {P : Program} {N : Nat} {ds : List Deferred} {σ : Env} {w : World}
theorem results_cell {fn : Func} {p : Tmp} {ty : TypeId} (h : fn.results = #[.cell p ty]) (tmps : Array Value) (w : World) :
    (results fn tmps).run P w = ((asAddr (tmps.getD p undef)).run P w).andThen fun a w₁ => (loadVar ty a).run P w₁ := by
  simp only [results, h]
  simp [Sem.run_bind, Result.andThen]
theorem J.ret1c {fn : Func} {R : Ending → World → Prop} {t ty b T S o n xs z by'} (hr : fn.results = #[.cell t ty]) (hg : σ.get t = some (.pointer (some ⟨b, o, none⟩))) (ht : agg P ty = true) (hz : TI P ty z n by') (hc : Cel w b T S) (k : Nat) (hk : S[k]? = some (o, n, xs)) (h : R (.returned (.agg xs.toArray)) w) : J N [] σ (Fin P fn R .ret) w := fun a w' hf hs =>
  ⟨hf.defers, _, by
    rw [results_cell hr, hf.vals _ _ hg]
    obtain ⟨j, hj, _, hj1, _⟩ := hz.out
    have h' := hc.ext hs.ext
    have hl := run_loadCells_list (P := P) w' ⟨b, o, none⟩ xs (fun i v hv => by rw [add_at]; exact h'.cell k hk hv)
    rw [hc.len k hk] at hl
    simp only [asAddr]
    simp [loadVar, run_isAgg_t ht, sizeOf, typeInfo, hj, hj1, hl], w, hs, h⟩
/-- A slice of an array of the call's own. -/
theorem Yd.sliceA {ty t x e n b o} (hu : P.underlying t = some (.array n e)) {z by'} (hz : TI P e z 1 by') (hx : ev σ x = some (.pointer (some ⟨b, o, none⟩))) : Yd P σ (.slice t x none none none) ty (asl b o n 0 n) w :=
  yd_v (fun ρ => Instr.sliceAt t (ρ x) none none none) (fun _ _ _ _ _ => rfl) fun N ds a w' hf he => by
    obtain ⟨j, hj, _, hj1, _⟩ := hz.out
    simp only [hf.ev hx]
    simp [Instr.sliceAt, run_underlying hu, Instr.sureAddr, Instr.sliceBounds, sizeOf, typeInfo, hj, hj1, add_at, asl]
theorem Yd.arrP {ty t x n e s xs} (hu : P.underlying t = some (.array n e)) (hx : ev σ x = some s) (h : Rd w s xs) (hn : n ≤ xs.length) : Yd P σ (.sliceToArrayPointer t x) ty (ptrOf s) w :=
  yd_v (fun ρ => Instr.arrayAt t (ρ x)) (fun _ _ _ _ _ => rfl) fun N ds a w' hf he => by
    obtain ⟨p, c, rfl, _⟩ := h
    simp only [hf.ev hx]
    have : ¬ xs.length < n := by omega
    simp [Instr.arrayAt, run_underlying hu, this, ptrOf]
theorem Yd.loadP {ty t x s xs n z by'} (ht : agg P t = true) (hz : TI P t z n by') (hx : ev σ x = some (ptrOf s)) (h : Rd w s xs) (hn : n ≤ xs.length) (h0 : Nat.blt 0 n = true) : Yd P σ (.load t x) ty (.agg (xs.take n).toArray) w :=
  yd_v (fun ρ => Instr.loadAt t (ρ x)) (fun _ _ _ _ _ => rfl) fun N ds a w' hf he => by
    obtain ⟨j, hj, _, hj1, _⟩ := hz.out
    have hn0 := Nat.le_of_ble_eq_true h0
    obtain ⟨p, c, rfl, _, _, h4⟩ := h.ext he
    obtain ⟨g, o, rfl, _⟩ := h4 0 xs[0] (List.getElem?_eq_getElem (by omega))
    have hl := run_loadCells_list (P := P) w' ⟨g, o, none⟩ (xs.take n) (fun i v hv => by
      have hi : i < n := by have := (List.getElem?_eq_some_iff.1 hv).1; simp at this; omega
      rw [List.getElem?_take_of_lt hi] at hv
      obtain ⟨g', o', hp, hc⟩ := h4 i v hv
      cases hp
      rw [add_at]; exact hc)
    rw [show (xs.take n).length = n by simp; omega] at hl
    simp only [hf.ev hx, ptrOf]
    simp only [Instr.loadAt, Instr.sureAddr, pure_bind, loadVar, Sem.run_bind, run_isAgg_t ht, Result.andThen_ok, if_true, sizeOf, typeInfo]
    simp [hj, hj1, hl]
/-- An array value's element. -/
theorem Yd.idxV {ty t x y n e k i xs v z by'} (hu : P.underlying t = some (.array n e)) (he : plain P e = true) (hz : TI P e z 1 by') (hx : ev σ x = some (.agg xs)) (hy : ev σ y = some (.int k i)) (hi : 0 ≤ i ∧ i < (n : Int)) (hv : xs[i.toNat]? = some v) : Yd P σ (.index t x y) ty v w :=
  yd_v (fun ρ => Instr.index t (ρ x) (ρ y)) (fun _ _ _ _ _ => rfl) fun N ds a w' hf _ => by
    obtain ⟨j, hj, _, hj1, _⟩ := hz.out
    simp only [hf.ev hx, hf.ev hy]
    simp [Instr.index, asIntOf, run_underlying hu, hi, sizeOf, typeInfo, hj, hj1, part, run_isAgg he, hv]
theorem Ag.get {α : Type} (f : α → Value) (l : List α) (d : α) {i : Nat} (h : i < l.length) : ((l.map f).toArray : Array Value)[i]? = some (f (l.getD i d)) := by
  rw [List.getElem?_toArray, List.getElem?_map, List.getElem?_eq_getElem h, List.getD_eq_getElem?_getD, List.getElem?_eq_getElem h]; rfl
/-- copy into an array of the call's own. -/
theorem copy_none {dT sT ty e : TypeId} {z by'} (hu : P.underlying dT = some (.slice e)) (hz : TI P e z 1 by') (a : Option Addr) (n c c' : Nat) (w' : World) :
    (Builtin.copy_ #[dT, sT] ty #[.slice a n c, .slice none 0 c']).run P w' = .ok (goInt 0) w' := by
  obtain ⟨j, hj, _, hj1, _⟩ := hz.out
  cases a <;> simp [Builtin.copy_, run_underlying hu, Builtin.lenOf, Builtin.firstCells, sizeOf, typeInfo, hj, hj1, storeCells]
theorem Ye.copyA {ty x y dT sT e b T S o n m xs s ys z by'} (hu : P.underlying dT = some (.slice e)) (hz : TI P e z 1 by') (h : Cel w b T S) (k : Nat) (hk : S[k]? = some (o, n, xs)) (hap : apart S k = true) {l : Nat} (hx : ev σ x = some (asl b o n l m)) (hlm : l ≤ m ∧ m ≤ n) (hln : l < n) (hy : ev σ y = some s) (hr : Rd w s ys) (h1 : ∀ v ∈ ys, v.oneCell' = true) :
    Ye P σ (.call ⟨.builtin .copy, #[x, y], #[dT, sT]⟩) ty w fun v w1 => v = I (min ys.length (m - l) : Nat) ∧ Cel w1 b T (S.set k (o, n, xs.take l ++ ys.take (m - l) ++ xs.drop (l + min ys.length (m - l)))) ∧ Upd b w w1 :=
  ye_bi (vs := [asl b o n l m, s]) (Builtin.copy_ #[dT, sT] ty) (by simp [evs, hx, hy]) (fun _ _ => rfl) fun w' hs => by
    obtain ⟨j, hj, _, hj1, _⟩ := hz.out
    have hxl := h.len k hk
    obtain ⟨L, h2, h3⟩ := h.ext hs.ext
    obtain ⟨h4, h5, h6⟩ := h3.get hk
    have h5' : o + n ≤ L.length := h5
    have h6' : (L.drop o).take n = xs := h6
    obtain ⟨p, c, rfl, h7, h8, h9⟩ := hr.ext hs.ext
    have hys : (ys.take (m - l)).length = min ys.length (m - l) := by simp; omega
    have hdst : asl b o n l m = .slice (some ⟨b, o + l, none⟩) (m - l) (n - l) := by unfold asl; rw [if_neg (by omega)]
    have hfin : SegAll (L.take (o + l) ++ ys.take (m - l) ++ L.drop (o + l + (ys.take (m - l)).length)) (S.set k (o, n, xs.take l ++ ys.take (m - l) ++ xs.drop (l + min ys.length (m - l)))) := by
      refine SegAll.set (o := o) (n := n) (by simp; omega) (fun i hi => splice_far L (ys.take (m - l)) (o + l) (by omega) i (by omega)) ⟨by simp; omega, by simp; omega, ?_⟩ h3 hk hap
      show ((L.take (o + l) ++ ys.take (m - l) ++ L.drop (o + l + (ys.take (m - l)).length)).drop o).take n = _
      rw [splice_in h5' (by omega), h6', hys]
    have hrow := h2.setRow (L.take (o + l) ++ ys.take (m - l) ++ L.drop (o + l + (ys.take (m - l)).length))
    cases p with
    | none =>
      have : ys = [] := by
        cases ys with
        | nil => rfl
        | cons x l => obtain ⟨b, o, hp, _⟩ := h9 0 x (by simp); cases hp
      subst this
      have hc := h8 rfl
      subst hc
      refine ⟨_, w', w', by rw [hdst]; exact copy_none hu hz _ _ _ _ w', Same.refl _, by simp [goInt], ⟨L, h2, ?_⟩, hs.os, hs.tape, hs.output, by rw [hs.heap], fun k _ => by rw [hs.heap]⟩
      simpa using hfin
    | some ad =>
      have hcp := run_copy_row (P := P) w' dT sT ty e b (o + l) (m - l) (n - l) ad ys.length c L.toArray T (ys.take (m - l)) hu (by rw [hj]; simp [hj1]) h2 (by simpa using hys) (fun i v hv => by
          have hi := (List.getElem?_eq_some_iff.1 hv).1
          rw [List.getElem?_take_of_lt (by simp at hi; omega)] at hv
          obtain ⟨b', o', hp, hc⟩ := h9 i v hv
          cases hp
          rw [add_at]; exact hc) (by simp; omega) (fun v hv => h1 v (List.mem_of_mem_take hv))
      refine ⟨_, _, _, by rw [hdst]; exact hcp, Same.refl _, by rw [hys]; rfl, ⟨_, hrow, hfin⟩, Upd.same hs (Upd.setRow w' b _)⟩
end
end Go.X
