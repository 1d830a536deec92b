import Derived.Test.YtmpfgiffpdackaaX24
import Derived.Lib.SliceRun
import Derived.Deep.DeepAppendRoom
import Derived.Maps.AppendAt
/-
  Rows whose elements are structs: each of so many cells.
-/
set_option linter.unusedVariables false
set_option linter.unusedSimpArgs false
namespace Go.X
open Go.RowKit
/-- How an element is laid in cells. -/
structure Shp (α : Type) where
  sz : Nat
  c : α → List Value
  len : ∀ x, (c x).length = sz
  pos : 0 < sz
variable {α : Type} {K : Shp α}
theorem fm_len (K : Shp α) : ∀ es : List α, (es.flatMap K.c).length = es.length * K.sz
  | [] => by simp
  | x :: es => by rw [List.flatMap_cons, List.length_append, K.len, fm_len K es, List.length_cons, Nat.add_mul, Nat.one_mul, Nat.add_comm]
theorem fm_drop (K : Shp α) : ∀ (es : List α) (k : Nat), (es.flatMap K.c).drop (k * K.sz) = (es.drop k).flatMap K.c
  | [], k => by simp
  | x :: es, 0 => by simp
  | x :: es, k + 1 => by
    rw [List.flatMap_cons, Nat.add_mul, Nat.one_mul, List.drop_succ_cons, Nat.add_comm, ← List.drop_drop, List.drop_left' (K.len x), fm_drop K es k]
theorem fm_take (K : Shp α) : ∀ (es : List α) (k : Nat), (es.flatMap K.c).take (k * K.sz) = (es.take k).flatMap K.c
  | [], k => by simp
  | x :: es, 0 => by simp
  | x :: es, k + 1 => by
    rw [List.flatMap_cons, Nat.add_mul, Nat.one_mul, List.take_succ_cons, List.flatMap_cons, Nat.add_comm, ← fm_take K es k, List.take_append, K.len, Nat.add_sub_cancel_left, List.take_of_length_le (by rw [K.len]; omega)]
theorem fm_get {es : List α} {i : Nat} {x : α} (h : es[i]? = some x) {j : Nat} (hj : j < K.sz) : (es.flatMap K.c)[i * K.sz + j]? = (K.c x)[j]? := by
  obtain ⟨hi, hx⟩ := List.getElem?_eq_some_iff.1 h
  rw [← List.getElem?_drop, fm_drop, List.drop_eq_getElem_cons hi, hx, List.flatMap_cons, List.getElem?_append_left (by rw [K.len]; exact hj)]
theorem fm_set {es : List α} {i : Nat} (hi : i < es.length) (x : α) : (es.flatMap K.c).take (i * K.sz) ++ K.c x ++ (es.flatMap K.c).drop (i * K.sz + K.sz) = (es.set i x).flatMap K.c := by
  rw [show i * K.sz + K.sz = (i + 1) * K.sz by rw [Nat.add_mul, Nat.one_mul], fm_take, fm_drop, List.set_eq_take_append_cons_drop, if_pos hi, List.flatMap_append, List.flatMap_cons, List.append_assoc]
/-- A slice that is nil or a row of the call's own. -/
def Es (K : Shp α) (base : Nat) (E : TypeId) (w : World) (s : Value) (es : List α) : Prop := w.ownsRow base E K.sz s es.length (es.flatMap K.c)
/-- A slice that reads so. -/
def Er (K : Shp α) (w : World) (s : Value) (es : List α) : Prop :=
  ∃ p c, s = .slice p es.length c ∧ (es.length ≤ c ∧ c ≤ 9223372036854775807) ∧ (p = none → c = 0) ∧ ∀ q v, (es.flatMap K.c)[q]? = some v → ∃ b o, p = some ⟨b, o, none⟩ ∧ w.cell? ⟨b, o + q, none⟩ = some v
theorem Es.nil (K : Shp α) (base E w) : Es K base E w nilS [] := World.ownsRow_nil w base E K.sz
theorem Er.nil (K : Shp α) (w : World) : Er K w nilS [] := ⟨none, 0, rfl, ⟨Nat.le_refl _, by decide⟩, fun _ => rfl, fun i v h => by simp at h⟩
theorem Er.ext {w w' : World} {s es} (h : Er K w s es) (he : Ext w w') : Er K w' s es := by
  obtain ⟨p, c, h1, h2, h3, h4⟩ := h
  exact ⟨p, c, h1, h2, h3, fun i v hv => let ⟨b, o, hp, hc⟩ := h4 i v hv; ⟨b, o, hp, he.cell hc⟩⟩
theorem Er.max {w : World} {s es} (h : Er K w s es) : es.length ≤ 9223372036854775807 := by obtain ⟨p, c, h1, ⟨h2, h3⟩, _⟩ := h; omega
section
variable {base0 : Nat} {E : TypeId} {w w' : World} {s : Value} {es : List α}
theorem Es.ext (h : Es K base0 E w s es) (he : Ext w w') : Es K base0 E w' s es := World.ownsRow.kept h (grown_ext he) (by cases hv : s.ownBlock <;> simp)
theorem Es.base {base'} (h : Es K base0 E w s es) (hb : base' ≤ base0) : Es K base' E w s es := by
  obtain ⟨h1, h2⟩ := h
  refine ⟨h1, ?_⟩
  rcases h2 with h2 | ⟨g, cap, cur, hv, hbg, r⟩
  · exact .inl h2
  · exact .inr ⟨g, cap, cur, hv, Nat.le_trans hb hbg, r⟩
theorem Es.lt (h : Es K base0 E w s es) : ∀ k, s.ownBlock = some k → base0 ≤ k ∧ k < w.heap.size := World.ownsRow.lt h
theorem Es.live (h : Es K base0 E w s es) : Live w s.ownBlock := fun k h1 => (h.lt k h1).2
theorem Es.fr (h : Es K base0 E w s es) : Fr base0 s.ownBlock := fun k h1 => (h.lt k h1).1
theorem Es.gbk {r} (h : Es K base0 E w s es) (hg : w.grownBy w' r) (ha : Ap s.ownBlock r) : Es K base0 E w' s es :=
  World.ownsRow.kept h hg (by
    cases hv : s.ownBlock with
    | none => simp
    | some k => right; intro e; exact ha k hv e.symm)
theorem Es.tnk {rs} (h : Es K base0 E w s es) (hg : Tn rs w w') (ha : ApL s.ownBlock rs) : Es K base0 E w' s es := by
  refine ⟨h.1, ?_⟩
  rcases h.2 with hn | ⟨g, cap, cur, rfl, hb, hgg, rest⟩
  · exact .inl hn
  · refine .inr ⟨g, cap, cur, rfl, hb, ?_, rest⟩
    rw [hg.block g (Array.getElem?_eq_some_iff.1 hgg).1 (fun r hr e => ha r hr g rfl e)]
    exact hgg
theorem Es.rd (h : Es K base0 E w s es) : Er K w s es := by
  obtain ⟨h1, h2⟩ := h
  rcases h2 with ⟨rfl, h2⟩ | ⟨g, cap, cur, rfl, hb, hg, hn, hm, hc, ht⟩
  · have : es = [] := List.eq_nil_of_length_eq_zero h2
    subst this; exact Er.nil K w
  · refine ⟨some ⟨g, 0, none⟩, cap, rfl, ⟨hn, by unfold maxLen at hm; exact hm⟩, (fun e => by cases e), fun q v hv => ⟨g, 0, rfl, ?_⟩⟩
    have hq : q < es.length * K.sz := by
      have := (List.getElem?_eq_some_iff.1 hv).1
      rwa [fm_len] at this
    rw [← ht, List.getElem?_take_of_lt hq] at hv
    simp only [World.cell?, Nat.zero_add, hg]
    simpa using hv
end
/-! ### What operations yield -/
section
variable {P : Program} {N : Nat} {ds : List Deferred} {σ : Env} {w : World}
theorem Yd.lenE {ty x t e s} {es : List α} (hu : P.underlying t = some (.slice e)) (hx : ev σ x = some s) (h : Er K w s es) : Yd P σ (.call ⟨.builtin .len, #[x], #[t]⟩) ty (I es.length) w :=
  yd_bi (vs := [s]) (Builtin.len_ #[t] ty) (by simp [evs, hx]) (fun _ _ => rfl) fun w' _ => by
    obtain ⟨p, c, rfl, _⟩ := h
    simp [Builtin.len_, run_underlying hu, goInt]
theorem Er.some_at {s} {es : List α} (h : Er K w s es) {i : Nat} (hi : i < es.length) : ∃ b o c, s = .slice (some ⟨b, o, none⟩) es.length c ∧ ∀ q v, (es.flatMap K.c)[q]? = some v → w.cell? ⟨b, o + q, none⟩ = some v := by
  obtain ⟨p, c, rfl, h2, h3, h4⟩ := h
  have hq : i * K.sz < (es.flatMap K.c).length := by rw [fm_len]; exact Nat.mul_lt_mul_of_pos_right hi K.pos
  obtain ⟨b, o, rfl, _⟩ := h4 _ _ (List.getElem?_eq_getElem hq)
  exact ⟨b, o, c, rfl, fun q v hv => by obtain ⟨b', o', hp, hc⟩ := h4 q v hv; cases hp; exact hc⟩
theorem Yd.idxE {ty x y t e s k i z by'} {es : List α} (hu : P.underlying t = some (.slice e)) (hz : TI P e z K.sz by') (hx : ev σ x = some s) (hy : ev σ y = some (.int k i)) (h : Er K w s es) (hi : 0 ≤ i ∧ i < es.length) :
    Yd P σ (.indexAddr t x y) ty (.pointer (some (adr s (i.toNat * K.sz)))) w :=
  yd_v (fun ρ => Instr.indexAt t (ρ x) (ρ y)) (fun _ _ _ _ _ => rfl) fun N ds a w' hf he => by
    obtain ⟨j, hj, hj0, hj1, _⟩ := hz.out
    obtain ⟨b, o, c, rfl, _⟩ := h.some_at (i := i.toNat) (by omega)
    simp [hf.ev hx, hf.ev hy, Instr.indexAt, asIntOf, run_underlying hu, hi.1, hi.2, sizeOf, typeInfo, hj, hj1, adr]
theorem Er.cell {s} {es : List α} (h : Er K w s es) {i : Nat} {x : α} (hx : es[i]? = some x) {j : Nat} {v : Value} (hv : (K.c x)[j]? = some v) : w.cell? (adr s (i * K.sz + j)) = some v := by
  obtain ⟨hi, _⟩ := List.getElem?_eq_some_iff.1 hx
  have hj : j < K.sz := by rw [← K.len x]; exact (List.getElem?_eq_some_iff.1 hv).1
  obtain ⟨b, o, c, rfl, h4⟩ := h.some_at hi
  show w.cell? (Addr.add ⟨b, o, none⟩ _) = some v
  rw [add_at]; exact h4 _ _ ((fm_get hx hj).trans hv)
theorem Er.shape {s} {es : List α} (h : Er K w s es) {i : Nat} (hi : i < es.length) : ∃ b o, ∀ q, adr s q = ⟨b, o + q, none⟩ := by
  obtain ⟨b, o, c, rfl, _⟩ := h.some_at hi
  exact ⟨b, o, fun q => by show Addr.add ⟨b, o, none⟩ q = _; rw [add_at]⟩
/-- An element read whole. -/
theorem Yd.loadE {ty t x s i z by'} {es : List α} {u : α} (ht : agg P t = true) (hz : TI P t z K.sz by') (hx : ev σ x = some (.pointer (some (adr s (i * K.sz))))) (h : Er K w s es) (hu : es[i]? = some u) : Yd P σ (.load t x) ty (.agg (K.c u).toArray) w :=
  yd_v (fun ρ => Instr.loadAt t (ρ x)) (fun _ _ _ _ _ => rfl) fun N ds a w' hf he => by
    obtain ⟨j, hj, _, hj1, _⟩ := hz.out
    have h' := h.ext he
    obtain ⟨b, o, ha⟩ := h.shape (List.getElem?_eq_some_iff.1 hu).1
    have hl := run_loadCells_list (P := P) w' (adr s (i * K.sz)) (K.c u) (fun q v hv => by have := h'.cell hu hv; rw [ha] at this ⊢; rw [add_at, Nat.add_assoc]; exact this)
    rw [K.len] at hl
    simp only [hf.ev hx, Instr.loadAt, Instr.sureAddr, pure_bind, loadVar, Sem.run_bind, run_isAgg_t ht, Result.andThen_ok, if_true, sizeOf, typeInfo]
    simp [hj, hj1, hl]
/-- A field of an element. -/
theorem Yd.fieldE {ty x t fs i fd s q z sz by'} {es : List α} (h : Er K w s es) (hlt : 0 < es.length) (hu : P.underlying t = some (.struct fs)) (hf' : fs[i]? = some fd) (hz : TI P fd.type z sz by') (hs : Nat.blt 0 sz = true) (hx : ev σ x = some (.pointer (some (adr s q)))) :
    Yd P σ (.fieldAddr t x i) ty (.pointer (some (adr s (q + fd.offset)))) w := by
  obtain ⟨b, o, ha⟩ := h.shape hlt
  rw [ha] at hx ⊢
  rw [← Nat.add_assoc]
  exact Yd.fieldA hu hf' hz hs hx
theorem Yd.loadF {ty t x s i j v} {es : List α} {u : α} (ht : plain P t = true) (hx : ev σ x = some (.pointer (some (adr s (i * K.sz + j))))) (h : Er K w s es) (hu : es[i]? = some u) (hv : (K.c u)[j]? = some v) : Yd P σ (.load t x) ty v w :=
  Yd.load ht hx (h.cell hu hv)
/-- An element written. -/
theorem take_splice (L ys : List Value) {o m N : Nat} (hm : o + ys.length = m) (hN : m ≤ N) (hL : N ≤ L.length) : (L.take o ++ ys ++ L.drop m).take N = (L.take N).take o ++ ys ++ (L.take N).drop m := by
  have h1 : (L.take o).length = o := by simp; omega
  have e1 : (L.take o ++ ys ++ L.drop m).take N = L.take o ++ ys ++ (L.drop m).take (N - m) := by
    rw [List.take_append (l₁ := L.take o ++ ys), List.take_of_length_le (by rw [List.length_append, h1]; omega), List.length_append, h1, hm]
  rw [e1, List.take_take, Nat.min_eq_left (by omega), List.drop_take]
theorem Ye.storeE {ty x y t e s z by' base i} {es : List α} {u : α} (hz : TI P t z K.sz by') (ho : Es K base e w s es) (hx : ev σ x = some (.pointer (some (adr s (i * K.sz))))) (hy : ev σ y = some (.agg (K.c u).toArray)) (hi : i < es.length) (h1 : ∀ v ∈ K.c u, v.oneCell' = true) :
    Ye P σ (.store t x y) ty w fun _ w1 => Es K base e w1 s (es.set i u) ∧ w.grownBy w1 s.ownBlock := by
  refine ye_store hx hy fun w' hs => ?_
  obtain ⟨j, hj, _, hj1, _⟩ := hz.out
  have ho' := ho.ext hs.ext
  obtain ⟨hl, h2⟩ := ho'
  rcases h2 with ⟨rfl, h2⟩ | ⟨g, cap, cur, rfl, hb, hg, hn, hm, hc, ht⟩
  · omega
  have hio : i * K.sz + K.sz ≤ es.length * K.sz := by rw [← Nat.succ_mul]; exact Nat.mul_le_mul_right _ hi
  have hcs : es.length * K.sz ≤ cap * K.sz := Nat.mul_le_mul_right _ hn
  have hst := run_storeCells_at P g (i * K.sz) e (K.c u) 0 cur w' hg (by rw [K.len]; omega) h1
  rw [K.len, Nat.add_zero] at hst
  have ha : adr (.slice (some ⟨g, 0, none⟩) es.length cap) (i * K.sz) = ⟨g, i * K.sz, none⟩ := by show Addr.add ⟨g, 0, none⟩ _ = _; rw [add_at, Nat.zero_add]
  refine ⟨w'.setRow g (cur.toList.take (i * K.sz) ++ K.c u ++ cur.toList.drop (i * K.sz + K.sz)).toArray, _, ?_, Same.refl _, ⟨by rw [fm_len], .inr ⟨g, cap, _, by rw [List.length_set], hb, setRow_heap w' g cur _ e _ hg, by rw [List.length_set]; exact hn, hm, ?_, ?_⟩⟩, ?_⟩
  · simp only [Instr.storeAt, Instr.sureAddr, pure_bind, storeVar, sizeOf, typeInfo]
    rw [ha]
    simpa [hj, hj1, Value.cells, K.len] using hst
  · simp only [List.size_toArray, List.length_append, List.length_take, List.length_drop, Array.length_toList, K.len, hc]; omega
  · rw [List.length_set, take_splice _ _ (by rw [K.len]) hio (by have h9 : cur.toList.length = cap * K.sz := hc; rw [h9]; exact hcs), ht, fm_set hi]
  · exact (Upd.same hs (Upd.setRow w' g _)).gb
/-! ### Slices of slices -/
def slE (K : Shp α) (s : Value) (l h : Nat) : Value :=
  match s with
  | .slice p n c => sliced p l h c K.sz
  | v => v
theorem slicedN (p : Option Addr) (l h c z : Nat) : sliced p l h c z = .slice (if c = l then p else p.map (·.add (l * z))) (h - l) (c - l) := rfl
theorem Er.slc {s} {es : List α} (hr : Er K w s es) {l h : Nat} (hl : l ≤ h) (hh : h ≤ es.length) : Er K w (slE K s l h) ((es.take h).drop l) := by
  obtain ⟨p, c, rfl, ⟨h2, h2'⟩, h3, h4⟩ := hr
  have hlen : ((es.take h).drop l).length = h - l := by simp; omega
  refine ⟨_, _, by show sliced p l h c K.sz = _; rw [slicedN, hlen], by rw [hlen]; omega, fun hn => ?_, fun q v hv => ?_⟩
  · by_cases hc : c = l
    · omega
    · rw [if_neg hc] at hn
      cases p with
      | none => have := h3 rfl; omega
      | some a => cases hn
  · have hq := (List.getElem?_eq_some_iff.1 hv).1
    rw [fm_len, hlen] at hq
    have hlh : l < h := by
      rcases Nat.lt_or_ge l h with h' | h'
      · exact h'
      · rw [show h - l = 0 by omega, Nat.zero_mul] at hq; omega
    have hv' : (es.flatMap K.c)[l * K.sz + q]? = some v := by
      rw [← fm_drop, List.getElem?_drop, ← fm_take, List.getElem?_take_of_lt] at hv
      · exact hv
      · rw [Nat.sub_mul] at hq; have := Nat.mul_le_mul_right K.sz hl; omega
    obtain ⟨b, o, rfl, hc⟩ := h4 _ v hv'
    refine ⟨b, o + l * K.sz, ?_, ?_⟩
    · rw [if_neg (by omega)]; simp [add_at]
    · rw [Nat.add_assoc]; exact hc
theorem run_sizeE {e : TypeId} {z by'} (hz : TI P e z K.sz by') (w' : World) : (sizeOf e).run P w' = .ok K.sz w' := by
  obtain ⟨j, hj, hj0, hj1, _⟩ := hz.out
  simp [sizeOf, typeInfo, hj, hj1]
theorem Yd.slE_h {ty x t e hi p n c kh h z by'} (hu : P.underlying t = some (.slice e)) (hz : TI P e z K.sz by') (hx : ev σ x = some (.slice p n c)) (hhi : ev σ hi = some (.int kh h)) (hb : 0 ≤ h ∧ h ≤ c) :
    Yd P σ (.slice t x none (some hi) none) ty (slE K (.slice p n c) 0 h.toNat) w :=
  yd_v (fun ρ => Instr.sliceAt t (ρ x) none (some (ρ hi)) none) (fun _ _ _ _ _ => rfl) fun N ds a w' hf he => by
    have hE : P.elem t = e := by simp [Program.elem, hu]
    have hu' : P.underlying t = some (.slice (P.elem t)) := by rw [hE]; exact hu
    rw [hf.ev hx, hf.ev hhi, run_sliceAt_slice _ _ _ _ _ _ hu', run_slice_h _ _ _ _ _ hu' kh h hb.1 hb.2, hE, run_sizeE hz]; rfl
theorem Yd.slE_l {ty x t e lo p n c kl l z by'} (hu : P.underlying t = some (.slice e)) (hz : TI P e z K.sz by') (hx : ev σ x = some (.slice p n c)) (hlo : ev σ lo = some (.int kl l)) (hb : 0 ≤ l ∧ l ≤ n) :
    Yd P σ (.slice t x (some lo) none none) ty (slE K (.slice p n c) l.toNat n) w :=
  yd_v (fun ρ => Instr.sliceAt t (ρ x) (some (ρ lo)) none none) (fun _ _ _ _ _ => rfl) fun N ds a w' hf he => by
    have hE : P.elem t = e := by simp [Program.elem, hu]
    have hu' : P.underlying t = some (.slice (P.elem t)) := by rw [hE]; exact hu
    rw [hf.ev hx, hf.ev hlo, run_sliceAt_slice _ _ _ _ _ _ hu', run_slice_l _ _ _ _ _ hu' kl l hb.1 hb.2, hE, run_sizeE hz]; rfl
theorem Yd.slE_lh {ty x t e lo hi p n c kl l kh h z by'} (hu : P.underlying t = some (.slice e)) (hz : TI P e z K.sz by') (hx : ev σ x = some (.slice p n c)) (hlo : ev σ lo = some (.int kl l)) (hhi : ev σ hi = some (.int kh h)) (hb : 0 ≤ l ∧ l ≤ h ∧ h ≤ c) :
    Yd P σ (.slice t x (some lo) (some hi) none) ty (slE K (.slice p n c) l.toNat h.toNat) w :=
  yd_v (fun ρ => Instr.sliceAt t (ρ x) (some (ρ lo)) (some (ρ hi)) none) (fun _ _ _ _ _ => rfl) fun N ds a w' hf he => by
    have hE : P.elem t = e := by simp [Program.elem, hu]
    have hu' : P.underlying t = some (.slice (P.elem t)) := by rw [hE]; exact hu
    rw [hf.ev hx, hf.ev hlo, hf.ev hhi, run_sliceAt_slice _ _ _ _ _ _ hu', run_slice_lh _ _ _ _ _ hu' kl kh l h hb.1 hb.2.1 hb.2.2, hE, run_sizeE hz]; rfl
theorem Yd.slE_lhm {ty x t e lo hi mx p n c kl l kh h km m z by'} (hu : P.underlying t = some (.slice e)) (hz : TI P e z K.sz by') (hx : ev σ x = some (.slice p n c)) (hlo : ev σ lo = some (.int kl l)) (hhi : ev σ hi = some (.int kh h)) (hmx : ev σ mx = some (.int km m)) (hb : 0 ≤ l ∧ l ≤ h ∧ h ≤ m ∧ m ≤ c) :
    Yd P σ (.slice t x (some lo) (some hi) (some mx)) ty (sliced p l.toNat h.toNat m.toNat K.sz) w :=
  yd_v (fun ρ => Instr.sliceAt t (ρ x) (some (ρ lo)) (some (ρ hi)) (some (ρ mx))) (fun _ _ _ _ _ => rfl) fun N ds a w' hf he => by
    have hE : P.elem t = e := by simp [Program.elem, hu]
    have hu' : P.underlying t = some (.slice (P.elem t)) := by rw [hE]; exact hu
    rw [hf.ev hx, hf.ev hlo, hf.ev hhi, hf.ev hmx, run_sliceAt_slice _ _ _ _ _ _ hu', run_slice_lhm _ _ _ _ _ hu' kl kh km l h m hb.1 hb.2.1 hb.2.2.1 hb.2.2.2, hE, run_sizeE hz]; rfl
/-! ### append, a literal, clear -/
theorem Ye.appendE {ty t e x y s r z by' base} {es fs : List α} (hu : P.underlying t = some (.slice e)) (hz : TI P e z K.sz by') (hz1 : z.cells.size = K.sz) (hby : Nat.blt 0 by' = true) (hx : ev σ x = some s) (hy : ev σ y = some r)
    (ho : Es K base e w s es) (hr : Er K w r fs) (h1 : ∀ x ∈ fs, ∀ v ∈ K.c x, v.oneCell' = true) (hb : (es.length + fs.length) * by' ≤ 140737488355328) (hbase : base ≤ w.heap.size) :
    Ye P σ (.call ⟨.builtin .append, #[x, y], #[t, t]⟩) ty w fun v w1 => Es K base e w1 v (es ++ fs) ∧ w.grownBy w1 s.ownBlock ∧ SF w s.ownBlock v.ownBlock := by
  have hby' : 0 < by' := by simpa [Nat.blt_eq] using hby
  have hle : es.length + fs.length ≤ (es.length + fs.length) * by' := Nat.le_mul_of_pos_right _ hby'
  refine ye_bi (vs := [s, r]) (Builtin.append_ #[t, t] ty) (by simp [evs, hx, hy]) (fun _ _ => rfl) fun w' hs => ?_
  obtain ⟨j, hj, hj0, hj1, hj2⟩ := hz.out
  have ho' : w'.ownsRow base e K.sz s es.length (es.flatMap K.c) := Es.ext ho hs.ext
  obtain ⟨p, c, rfl, h2, h3, h4⟩ := Er.ext hr hs.ext
  have hgs : w.grownBy w' none := grown_ext hs.ext
  cases p with
  | none =>
    have hm0 : fs = [] := by
      have hc := h3 rfl
      exact List.eq_nil_of_length_eq_zero (by omega)
    subst hm0
    have hc := h3 rfl
    subst hc
    have hrun := run_append_owned_none (P := P) w' base t ty e j K.sz hu hj s es.length (es.flatMap K.c) ho'
    refine ⟨s, w', w', hrun, Same.refl _, ?_, ⟨hgs.os, hgs.tape, hgs.output, hgs.size, fun k hk _ => hgs.block k hk (by simp)⟩, fun k hk => .inl hk⟩
    rw [List.append_nil]; exact ho'
  | some ad =>
    have hone : ∀ v ∈ fs.flatMap K.c, v.oneCell' = true := fun v hv => by obtain ⟨x, hx, hv⟩ := List.mem_flatMap.1 hv; exact h1 x hx v hv
    have hnews : ∀ k u, (fs.flatMap K.c)[k]? = some u → w'.cell? (ad.add k) = some u := fun k u hku => by obtain ⟨b, o, hp, hc⟩ := h4 k u hku; cases hp; rw [add_at]; exact hc
    obtain ⟨v', w2, hrun, h5, h6, _, h7⟩ := run_append_own_at (P := P) w' base t ty e j z K.sz by' hu hj hj0 hj1 hj2 hz1 K.pos s es.length (es.flatMap K.c) ho' ad fs.length c (fs.flatMap K.c) (fm_len K fs)
      hnews hone (by unfold maxLen; omega) hb (by rw [hs.heap]; exact hbase)
    refine ⟨v', w2, w2, hrun, Same.refl _, ?_, ⟨h6.os.trans hs.os, h6.tape.trans hs.tape, h6.output.trans hs.output, ?_, fun k hk hne => ?_⟩, ?_⟩
    · unfold Es; rw [List.length_append, List.flatMap_append]; exact h5
    · have := h6.size; rw [hs.heap] at this; exact this
    · rw [h6.block k (by rw [hs.heap]; exact hk) hne, hs.heap]
    · intro k hk
      rcases h7 with h7 | h7
      · rw [h7] at hk; exact .inl hk
      · rw [h7] at hk; right; rw [← hs.heap]; injection hk with hk; omega
/-- There is room: the row stays where it is. -/
theorem Ye.appendIn {ty t e x y r z by' base g c} {es fs : List α} (hu : P.underlying t = some (.slice e)) (hz : TI P e z K.sz by') (hx : ev σ x = some (.slice (some ⟨g, 0, none⟩) es.length c)) (hy : ev σ y = some r)
    (ho : Es K base e w (.slice (some ⟨g, 0, none⟩) es.length c) es) (hr : Er K w r fs) (hp : ∃ a m c', r = .slice (some a) m c') (h1 : ∀ x ∈ fs, ∀ v ∈ K.c x, v.oneCell' = true) (hroom : es.length + fs.length ≤ c) :
    Ye P σ (.call ⟨.builtin .append, #[x, y], #[t, t]⟩) ty w fun v w1 => v = .slice (some ⟨g, 0, none⟩) (es ++ fs).length c ∧ Es K base e w1 v (es ++ fs) ∧ w.grownBy w1 (some g) := by
  refine ye_bi (vs := [.slice (some ⟨g, 0, none⟩) es.length c, r]) (Builtin.append_ #[t, t] ty) (by simp [evs, hx, hy]) (fun _ _ => rfl) fun w' hs => ?_
  obtain ⟨j, hj, hj0, hj1, hj2⟩ := hz.out
  have ho' : w'.ownsRow base e K.sz (.slice (some ⟨g, 0, none⟩) es.length c) es.length (es.flatMap K.c) := Es.ext ho hs.ext
  obtain ⟨a, m, c', rfl⟩ := hp
  obtain ⟨p, c2, hr', h2, h3, h4⟩ := Er.ext hr hs.ext
  cases hr'
  have hone : ∀ v ∈ fs.flatMap K.c, v.oneCell' = true := fun v hv => by obtain ⟨x, hx, hv⟩ := List.mem_flatMap.1 hv; exact h1 x hx v hv
  have hnews : ∀ k u, (fs.flatMap K.c)[k]? = some u → w'.cell? (a.add k) = some u := fun k u hku => by obtain ⟨b, o, hp, hc⟩ := h4 k u hku; cases hp; rw [add_at]; exact hc
  obtain ⟨w2, hrun, h5, h6⟩ := run_append_own_spare (P := P) w' base t ty e j K.sz hu hj hj1 g es.length c (es.flatMap K.c) ho' a fs.length _ (fs.flatMap K.c) (fm_len K fs) hnews hone hroom
  refine ⟨_, w2, w2, hrun, Same.refl _, by rw [List.length_append], ?_, ⟨h6.os.trans hs.os, h6.tape.trans hs.tape, h6.output.trans hs.output, ?_, fun k hk hne => ?_⟩⟩
  · unfold Es; rw [List.length_append, List.flatMap_append]; exact h5
  · have := h6.size; rw [hs.heap] at this; exact this
  · rw [h6.block k (by rw [hs.heap]; exact hk) hne, hs.heap]
theorem fold_cells (o : Nat) : ∀ (vs pre post : List Value) (k : Nat), pre.length = o + k → post.length = vs.length → (vs.zipIdx k).foldl (fun cs p => cs.setIfInBounds (o + p.2) p.1) (pre ++ post).toArray = (pre ++ vs).toArray
  | [], pre, post, k, _, hl => by
    have : post = [] := List.eq_nil_of_length_eq_zero hl
    subst this; rfl
  | v :: vs, pre, [], k, _, hl => by cases hl
  | v :: vs, pre, p :: post, k, hp, hl => by
    rw [List.zipIdx_cons, List.foldl_cons]
    have : (pre ++ p :: post).toArray.setIfInBounds (o + k) v = ((pre ++ [v]) ++ post).toArray := by
      rw [← hp]; simp
    rw [this, fold_cells o vs (pre ++ [v]) post (k + 1) (by simp [hp]; omega) (by simpa using hl)]
    simp
/-- A row of one element. -/
theorem Ye.litE1 {ty t e x z by' base} {u : α} (hu : P.underlying t = some (.slice e)) (hz : TI P e z K.sz by') (hz1 : z.cells.size = K.sz) (h24 : Nat.ble K.sz 16777216 = true) (hx : ev σ x = some (.agg (K.c u).toArray)) (hbase : base ≤ w.heap.size) :
    Ye P σ (.buildSlice t 1 #[(0, x)]) ty w fun v w1 => Es K base e w1 v [u] ∧ Ext w w1 := fun N ds a w' dst pos after g next Q hf hs hk => by
  obtain ⟨j, hj, hj0, hj1, hj2⟩ := hz.out
  have h24' : K.sz ≤ 16777216 := by simpa using h24
  have hpos := K.pos
  have hrun : (Instr.buildSlice t 1 #[(0, a.eval x)]).run P w' = .ok (.slice (some ⟨w'.heap.size, 0, none⟩) 1 1) (w'.alloc (.cells (K.c u).toArray e)) := by
    have h0 : ¬ (K.sz = 0) := by omega
    have hgt : ¬ (16777216 < K.sz) := by omega
    have hfold := fold_cells 0 (K.c u) [] ((Array.range (1 * K.sz)).map (z.cells[· % z.cells.size]!)).toList 0 rfl (by simp [K.len])
    rw [hf.ev hx]
    simp only [List.nil_append, Array.toArray_toList] at hfold
    simp only [Nat.zero_add, Nat.one_mul] at hfold
    simp only [Instr.buildSlice, Sem.run_bind, run_underlying hu, Result.andThen_ok, sizeOf, typeInfo]
    have hcu : (Value.agg (K.c u).toArray).cells = (K.c u).toArray := rfl
    simp only [Instr.fill, hcu, List.size_toArray, K.len, Nat.one_mul, Nat.zero_mul, Nat.zero_add]
    simp [hj, hj0, hj1, h0, hgt, zeroValue, typeInfo, newRow, K.len, hfold]
  unfold Oper.wp
  have : (execOp a.eval ⟨dst, .buildSlice t 1 #[(0, x)], ty, pos, after, g⟩).run P w' = .ok (.value (.slice (some ⟨w'.heap.size, 0, none⟩) 1 1)) (w'.alloc (.cells (K.c u).toArray e)) := by
    simp only [execOp]
    rw [Sem.run_bind, show (#[(0, x)] : Array (Nat × Operand)).map (fun (i, x) => (i, a.eval x)) = #[(0, a.eval x)] from by simp, hrun]; rfl
  rw [this]
  refine hk _ _ _ ⟨?_, hs.ext.trans (ext_grown (World.grownBy_alloc w' _ none))⟩ (Same.refl _)
  refine ⟨by simp [K.len], .inr ⟨w'.heap.size, 1, (K.c u).toArray, rfl, by rw [hs.heap]; exact hbase, heap_alloc_new _ _, Nat.le_refl _, by decide, by simp [K.len], ?_⟩⟩
  simp [← K.len u]
/-- What lies behind a row is cleared. -/
theorem Ye.clearX {ty t e x z by' base g c m c'} {es : List α} (hu : P.underlying t = some (.slice e)) (hz : TI P e z K.sz by') (hz1 : z.cells.size = K.sz) (hz2 : ∀ v ∈ z.cells.toList, v.oneCell' = true) (ho : Es K base e w (.slice (some ⟨g, 0, none⟩) es.length c) es)
    (hx : ev σ x = some (.slice (some ⟨g, es.length * K.sz, none⟩) m c')) (hm : es.length + m ≤ c) :
    Ye P σ (.call ⟨.builtin .clear, #[x], #[t]⟩) ty w fun _ w1 => Es K base e w1 (.slice (some ⟨g, 0, none⟩) es.length c) es ∧ w.grownBy w1 (some g) := by
  refine ye_bi (vs := [.slice (some ⟨g, es.length * K.sz, none⟩) m c']) (Builtin.clear_ #[t] ty) (by simp [evs, hx]) (fun _ _ => rfl) fun w' hs => ?_
  obtain ⟨j, hj, hj0, hj1, hj2⟩ := hz.out
  have ho' := ho.ext hs.ext
  cases m with
  | zero =>
    refine ⟨.tuple #[], w', w', ?_, Same.refl _, ho', Ext.gb0 hs.ext _⟩
    simp [Builtin.clear_, run_underlying hu]
  | succ m =>
    obtain ⟨hl, h2⟩ := ho'
    rcases h2 with ⟨h2, _⟩ | ⟨g', cap, cur, hv, hb, hg, hn, hmx, hc, ht⟩
    · cases h2
    · cases hv
      have hzl : (Builtin.zeroCells z.cells (m + 1)).toList.length = (m + 1) * K.sz := by simp [Builtin.zeroCells, hz1]
      have hz3 : ∀ v ∈ (Builtin.zeroCells z.cells (m + 1)).toList, v.oneCell' = true := by
        intro v hv
        simp only [Builtin.zeroCells, Array.toList_map, List.mem_map] at hv
        obtain ⟨i, hi, rfl⟩ := hv
        have hlt : i % z.cells.size < z.cells.size := Nat.mod_lt _ (by rw [hz1]; exact K.pos)
        rw [getElem!_pos z.cells _ hlt]
        exact hz2 _ (by simp)
      have hfit : es.length * K.sz + (m + 1) * K.sz ≤ c * K.sz := by rw [← Nat.add_mul]; exact Nat.mul_le_mul_right _ hm
      have hst := run_storeCells_at P g (es.length * K.sz) e (Builtin.zeroCells z.cells (m + 1)).toList 0 cur w' hg (by rw [hzl, hc]; omega) hz3
      simp only [hzl, Nat.add_zero] at hst
      refine ⟨.tuple #[], w'.setRow g (cur.toList.take (es.length * K.sz) ++ (Builtin.zeroCells z.cells (m + 1)).toList ++ cur.toList.drop (es.length * K.sz + (m + 1) * K.sz)).toArray, _, ?_, Same.refl _, ⟨hl, .inr ⟨g, c, _, rfl, hb, setRow_heap w' g cur _ e _ hg, hn, hmx, ?_, ?_⟩⟩, (Upd.same hs (Upd.setRow w' g _)).gb⟩
      · simp [Builtin.clear_, run_underlying hu, zeroValue, typeInfo, hj, hj0, hst]
      · simp only [List.size_toArray, List.length_append, List.length_take, List.length_drop, Array.length_toList, hzl, hc]; omega
      · have hcl : cur.toList.length = c * K.sz := hc
        rw [List.append_assoc, List.take_left' (by simp; omega)]; exact ht
/-! ### Elements by their number -/
theorem getD_some {es : List α} {i : Nat} (d : α) (hi : i < es.length) : es[i]? = some (es.getD i d) := by
  rw [List.getD_eq_getElem?_getD, List.getElem?_eq_getElem hi]; rfl
theorem Yd.loadEd {ty t x s i z by'} {es : List α} (d : α) (ht : agg P t = true) (hz : TI P t z K.sz by') (hx : ev σ x = some (.pointer (some (adr s (i * K.sz))))) (h : Er K w s es) (hi : i < es.length) : Yd P σ (.load t x) ty (.agg (K.c (es.getD i d)).toArray) w :=
  Yd.loadE ht hz hx h (getD_some d hi)
theorem Yd.loadFd {ty t x s i j v} {es : List α} (d : α) (ht : plain P t = true) (hx : ev σ x = some (.pointer (some (adr s (i * K.sz + j))))) (h : Er K w s es) (hi : i < es.length) (hv : (K.c (es.getD i d))[j]? = some v) : Yd P σ (.load t x) ty v w :=
  Yd.loadF ht hx h (getD_some d hi) hv
/-! ### A row that is there -/
theorem Es.expl {base E s} {es : List α} (h : Es K base E w s es) (h0 : 0 < es.length) : ∃ g c, s = .slice (some ⟨g, 0, none⟩) es.length c ∧ es.length ≤ c := by
  rcases h.2 with ⟨_, h2⟩ | ⟨g, cap, cur, rfl, hb, hg, hn, _⟩
  · omega
  · exact ⟨g, cap, rfl, hn⟩
theorem Es.pre {base E g c} {es : List α} (h : Es K base E w (.slice (some ⟨g, 0, none⟩) es.length c) es) {i : Nat} (hi : i ≤ es.length) : Es K base E w (.slice (some ⟨g, 0, none⟩) (es.take i).length c) (es.take i) := by
  obtain ⟨hl, h2⟩ := h
  have hlen : (es.take i).length = i := by simp; omega
  rcases h2 with ⟨h2, _⟩ | ⟨g', cap, cur, hv, hb, hg, hn, hm, hc, ht⟩
  · cases h2
  · cases hv
    refine ⟨fm_len K _, .inr ⟨g, c, cur, rfl, hb, hg, by omega, hm, hc, ?_⟩⟩
    rw [hlen, ← fm_take, ← ht, List.take_take, Nat.min_eq_left (Nat.mul_le_mul_right _ hi)]
theorem slX_h {g c n i : Nat} {es : List α} (hi : i ≤ es.length) : slE K (.slice (some ⟨g, 0, none⟩) n c) 0 (i : Int).toNat = .slice (some ⟨g, 0, none⟩) (es.take i).length c := by
  show sliced _ 0 _ c K.sz = _
  rw [slicedN, Int.toNat_natCast, show (es.take i).length = i by simp; omega]
  simp [add_at]
theorem slX_lh {g c n l h : Nat} (hl : l < c) : slE K (.slice (some ⟨g, 0, none⟩) n c) (l : Int).toNat (h : Int).toNat = .slice (some ⟨g, l * K.sz, none⟩) (h - l) (c - l) := by
  show sliced _ _ _ c K.sz = _
  rw [slicedN, Int.toNat_natCast, Int.toNat_natCast, if_neg (by omega)]
  simp [add_at]
theorem slX_l {g c n l : Nat} (hl : l < c) : slE K (.slice (some ⟨g, 0, none⟩) n c) (l : Int).toNat n = .slice (some ⟨g, l * K.sz, none⟩) (n - l) (c - l) := by
  show sliced _ _ _ c K.sz = _
  rw [slicedN, Int.toNat_natCast, if_neg (by omega)]
  simp [add_at]
theorem slE_some {g c n l h : Nat} : ∃ a m c', slE K (.slice (some ⟨g, 0, none⟩) n c) l h = .slice (some a) m c' := by
  show ∃ a m c', sliced _ l h c K.sz = _
  rw [slicedN]
  split
  · exact ⟨_, _, _, rfl⟩
  · exact ⟨_, _, _, rfl⟩
theorem Es.room {base E g c} {es : List α} (h : Es K base E w (.slice (some ⟨g, 0, none⟩) es.length c) es) : es.length ≤ c ∧ c ≤ 9223372036854775807 := by
  rcases h.2 with ⟨h2, _⟩ | ⟨g', cap, cur, hv, hb, hg, hn, hm, hc, ht⟩
  · cases h2
  · cases hv; unfold maxLen at hm; exact ⟨hn, hm⟩
theorem Er.cells {s} {es : List α} (h : Er K w s es) : s.cells = #[s] := by obtain ⟨p, c, rfl, _⟩ := h; rfl
theorem Er.one {s} {es : List α} (h : Er K w s es) : s.oneCell' = true := by obtain ⟨p, c, rfl, _⟩ := h; rfl
theorem SF.le {w w1 : World} {a b : Option Nat} (h : SF w1 a b) (hs : w.heap.size ≤ w1.heap.size) : SF w a b := fun k hk => (h k hk).imp id (Nat.le_trans hs)
theorem SF.tr {w w1 : World} {a b c : Option Nat} (h0 : SF w a b) (h : SF w1 b c) (hs : w.heap.size ≤ w1.heap.size) : SF w a c := fun k hk => by
  rcases h k hk with h | h
  · exact h0 k h
  · exact .inr (Nat.le_trans hs h)
theorem SF.mem {w : World} {a b : Option Nat} {rs : List (Option Nat)} (h : SF w a b) (ha : a ∈ rs) : b ∈ rs ∨ Fr w.heap.size b := by
  cases b with
  | none => exact .inr fun k hk => by cases hk
  | some k =>
    rcases h k rfl with h | h
    · exact .inl (h ▸ ha)
    · exact .inr fun q hq => by cases hq; exact h
end
end Go.X
