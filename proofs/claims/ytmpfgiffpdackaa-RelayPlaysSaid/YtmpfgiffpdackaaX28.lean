import Derived.Test.YtmpfgiffpdackaaX26
import Derived.Maps.RangeRun
import Derived.Carry
import Derived.MapKept
import Derived.ChangeMaps5
/-
  Maps whose keys are strings: made, sought in, written, gone over.
-/
set_option linter.unusedVariables false
set_option linter.unusedSimpArgs false
namespace Go.X
open Go.RowKit Go.ChangeMaps
abbrev Key : Type := List UInt8
def mesF : Nat → List (Key × Value) → List MapEntry
  | _, [] => []
  | i, p :: r => ⟨Str p.1, p.2, i⟩ :: mesF (i + 1) r
theorem mesF_len : ∀ (m : List (Key × Value)) (i : Nat), (mesF i m).length = m.length
  | [], _ => rfl
  | p :: r, i => by simp [mesF, mesF_len r]
theorem mesF_get : ∀ (m : List (Key × Value)) (i j : Nat), (mesF i m)[j]? = (m[j]?).map fun p => ⟨Str p.1, p.2, i + j⟩
  | [], i, j => by simp [mesF]
  | p :: r, i, 0 => by simp [mesF]
  | p :: r, i, j + 1 => by
    simp only [mesF, List.getElem?_cons_succ, mesF_get r]
    rw [show i + 1 + j = i + (j + 1) by omega]
theorem mesF_app : ∀ (m n : List (Key × Value)) (i : Nat), mesF i (m ++ n) = mesF i m ++ mesF (i + m.length) n
  | [], n, i => by simp [mesF]
  | p :: r, n, i => by
    simp only [List.cons_append, mesF, mesF_app r, List.length_cons]
    rw [show i + 1 + r.length = i + (r.length + 1) by omega]
/-- A map's block. -/
def Mp (w : World) (b : Nat) (m : List (Key × Value)) : Prop := w.heap[b]? = some (.map (mesF 0 m).toArray m.length)
def mget : List (Key × Value) → Key → Option Value
  | [], _ => none
  | p :: r, k => if k = p.1 then some p.2 else mget r k
def mset (k : Key) (v : Value) : List (Key × Value) → List (Key × Value)
  | [] => [(k, v)]
  | p :: r => if k = p.1 then (p.1, v) :: r else p :: mset k v r
def mfind (k : Key) : List (Key × Value) → Nat → Option (Nat × Value)
  | [], _ => none
  | p :: r, j => if k = p.1 then some (j, p.2) else mfind k r (j + 1)
theorem mfind_get (k : Key) : ∀ (m : List (Key × Value)) (j : Nat), (mfind k m j).map (·.2) = mget m k
  | [], _ => rfl
  | p :: r, j => by
    unfold mfind mget
    split
    · rfl
    · exact mfind_get k r (j + 1)
theorem key_beq (k p : Key) : (ByteArray.mk k.toArray == ByteArray.mk p.toArray) = decide (k = p) := by
  show (k.toArray == p.toArray) = _
  by_cases h : k = p
  · subst h; simp
  · rw [decide_eq_false h]; simpa using h
theorem findNow_mes (k : Key) : ∀ (m : List (Key × Value)) (i j : Nat), Instr.findNow .string (Str k) (mesF i m) j = some (mfind k m j)
  | [], _, _ => rfl
  | p :: r, i, j => by
    unfold Instr.findNow mesF mfind
    simp only [Instr.sameNow, key_beq]
    by_cases h : k = p.1
    · rw [if_pos h, decide_eq_true h]
    · rw [if_neg h, decide_eq_false h]; exact findNow_mes k r (i + 1) (j + 1)
theorem Mp.lt {w : World} {b : Nat} {m : List (Key × Value)} (h : Mp w b m) : b < w.heap.size := (Array.getElem?_eq_some_iff.1 h).1
theorem Mp.live {w : World} {b : Nat} {m : List (Key × Value)} (h : Mp w b m) : Live w (some b) := fun k e => by cases e; exact h.lt
theorem Mp.ext {w w' : World} {b : Nat} {m : List (Key × Value)} (h : Mp w b m) (he : Ext w w') : Mp w' b m := (he.block b h.lt).trans h
theorem Mp.tnk {w w' : World} {b : Nat} {m : List (Key × Value)} {rs : List (Option Nat)} (h : Mp w b m) (hg : Tn rs w w') (ha : ApL (some b) rs) : Mp w' b m := (hg.block b h.lt fun r hr e => ha r hr b rfl e).trans h
theorem Mp.gbk {w w' : World} {b : Nat} {m : List (Key × Value)} {r : Option Nat} (h : Mp w b m) (hg : w.grownBy w' r) (ha : Ap (some b) r) : Mp w' b m := (hg.block b h.lt fun e => ha b rfl e.symm).trans h
/-- The walk over a map: which were seen. -/
def Mi (w : World) (r b n : Nat) (seen : List Nat) : Prop := w.heap[r]? = some (.mapIter (some b) n seen.toArray n)
theorem Mi.lt {w : World} {r b n : Nat} {seen : List Nat} (h : Mi w r b n seen) : r < w.heap.size := (Array.getElem?_eq_some_iff.1 h).1
theorem Mi.live {w : World} {r b n : Nat} {seen : List Nat} (h : Mi w r b n seen) : Live w (some r) := fun k e => by cases e; exact h.lt
theorem Mi.ext {w w' : World} {r b n : Nat} {seen : List Nat} (h : Mi w r b n seen) (he : Ext w w') : Mi w' r b n seen := (he.block r h.lt).trans h
theorem Mi.tnk {w w' : World} {r b n : Nat} {seen : List Nat} {rs : List (Option Nat)} (h : Mi w r b n seen) (hg : Tn rs w w') (ha : ApL (some r) rs) : Mi w' r b n seen := (hg.block r h.lt fun q hq e => ha q hq r rfl e).trans h
theorem Mi.gbk {w w' : World} {r b n : Nat} {seen : List Nat} {q : Option Nat} (h : Mi w r b n seen) (hg : w.grownBy w' q) (ha : Ap (some r) q) : Mi w' r b n seen := (hg.block r h.lt fun e => ha r rfl e.symm).trans h
theorem Same.mp {w w' : World} {b : Nat} {m : List (Key × Value)} (h : Mp w b m) (hs : Same w w') : Mp w' b m := h.ext hs.ext
section
variable {P : Program} {N : Nat} {ds : List Deferred} {σ : Env} {w : World}
theorem run_findKey_s {kt : TypeId} (hk : P.underlying kt = some .string) (k : Key) (m : List (Key × Value)) (w : World) : (Instr.findKey kt (Str k) (mesF 0 m)).run P w = .ok (mfind k m 0) w := by
  simp [Instr.findKey, run_underlying hk, findNow_mes]
theorem run_checkKey_s {kt : TypeId} (hk : P.underlying kt = some .string) (k : Key) (e : Bool) (n : Nat) (w : World) : (Instr.checkKey e (n + 1) kt (Str k)).run P w = .ok () w := by
  unfold Instr.checkKey
  simp [run_underlying hk]
theorem run_keyStays (k : Key) (w : World) : (Instr.keyThatStays (Str k) (Str k)).run P w = .ok (Str k) w := by
  simp [Instr.keyThatStays, Instr.sameBits, key_beq]
theorem Yd.lookupS {ty t kt e x y m b k z sz by'} (hu : P.underlying t = some (.map kt e)) (hk : P.underlying kt = some .string) (hz : TI P e z sz by') (hx : ev σ x = some (.map (some b))) (hy : ev σ y = some (Str k)) (h : Mp w b m) :
    Yd P σ (.lookup t x y false) ty ((mget m k).getD z) w :=
  yd_v (fun ρ => Instr.lookup t (ρ x) (ρ y) false) (fun _ _ _ _ _ => rfl) fun N ds a w' hf he => by
    obtain ⟨j, hj, hj0, hj1, _⟩ := hz.out
    have h' := h.ext he
    simp only [hf.ev hx, hf.ev hy]
    simp [Instr.lookup, run_underlying hu, MapKept.run_getObj_map h', run_checkKey_s hk, run_findKey_s hk, Result.andThen]
    rw [← mfind_get k m 0]
    cases mfind k m 0 with
    | none => simp [zeroValue, typeInfo, hj, hj0]
    | some p => simp
theorem Yd.lookup0 {ty t kt e x y k z sz by'} (hu : P.underlying t = some (.map kt e)) (hk : P.underlying kt = some .string) (hz : TI P e z sz by') (hx : ev σ x = some (.map none)) (hy : ev σ y = some (Str k)) :
    Yd P σ (.lookup t x y false) ty z w :=
  yd_v (fun ρ => Instr.lookup t (ρ x) (ρ y) false) (fun _ _ _ _ _ => rfl) fun N ds a w' hf he => by
    obtain ⟨j, hj, hj0, hj1, _⟩ := hz.out
    simp only [hf.ev hx, hf.ev hy]
    have e1 := run_findKey_s (P := P) hk k [] w'
    simp only [mesF, mfind] at e1
    simp [Instr.lookup, run_underlying hu, run_checkKey_s hk, e1, Result.andThen, zeroValue, typeInfo, hj, hj0]
theorem Ye.makeMap {ty t} : Ye P σ (.makeMap t none) ty w fun v w1 => ∃ b, v = .map (some b) ∧ w.heap.size ≤ b ∧ Mp w1 b [] ∧ Ext w w1 := fun N ds a w' dst pos after g next Q hf hs hk => by
  unfold Oper.wp
  have : (execOp a.eval ⟨dst, .makeMap t none, ty, pos, after, g⟩).run P w' = .ok (.value (.map (some w'.heap.size))) (w'.alloc (.map #[] 0)) := by
    simp only [execOp]
    rfl
  rw [this]
  exact hk _ _ _ ⟨_, rfl, by rw [hs.heap]; exact Nat.le_refl _, heap_alloc_new _ _, hs.ext.trans (ext_grown (World.grownBy_alloc w' _ none))⟩ (Same.refl _)
theorem mset_none {k : Key} {v : Value} : ∀ (m : List (Key × Value)) (j : Nat), mfind k m j = none → mset k v m = m ++ [(k, v)]
  | [], _, _ => rfl
  | p :: r, j, h => by
    unfold mfind at h
    unfold mset
    by_cases hp : k = p.1
    · rw [if_pos hp] at h; cases h
    · rw [if_neg hp] at h ⊢
      rw [mset_none r (j + 1) h]; rfl
theorem mset_some {k : Key} {v u : Value} : ∀ (m : List (Key × Value)) (i j q : Nat), mfind k m j = some (q, u) → ∃ d, q = j + d ∧ d < m.length ∧ (m[d]?).map (·.1) = some k ∧ (mesF i m).modify d (fun e => { e with key := Str k, val := v }) = mesF i (mset k v m)
  | [], _, _, _, h => by cases h
  | p :: r, i, j, q, h => by
    unfold mfind at h
    by_cases hp : k = p.1
    · rw [if_pos hp] at h; cases h
      exact ⟨0, rfl, by simp, by simp [hp], by unfold mset; rw [if_pos hp]; simp [mesF, List.modify, hp]⟩
    · rw [if_neg hp] at h
      obtain ⟨d, h1, h2, h3, h4⟩ := mset_some (v := v) r (i + 1) (j + 1) q h
      refine ⟨d + 1, by omega, by simp; omega, by simpa using h3, ?_⟩
      unfold mset
      rw [if_neg hp]
      simp only [mesF, List.modify_succ_cons, h4]
theorem mset_len {k : Key} {v u : Value} : ∀ (m : List (Key × Value)) (j q : Nat), mfind k m j = some (q, u) → (mset k v m).length = m.length
  | [], _, _, h => by cases h
  | p :: r, j, q, h => by
    unfold mfind at h
    unfold mset
    by_cases hp : k = p.1
    · rw [if_pos hp]; rfl
    · rw [if_neg hp] at h ⊢
      simp [mset_len r (j + 1) q h]
theorem set_gb {w w' : World} {b : Nat} {o o' : Obj} (hs : Same w w') (hb : w'.heap[b]? = some o) : w.grownBy (setBlock w' b o') (some b) :=
  ⟨hs.os, hs.tape, hs.output, by simp [setBlock, hs.heap], fun i hi hne => by
    have hne' : i ≠ b := fun e => hne (by rw [e])
    simp only [setBlock]
    rw [Array.getElem?_setIfInBounds_ne (fun e => hne' e.symm), hs.heap]⟩
theorem Ye.mapSet {ty t kt e x y z m b k v} (hu : P.underlying t = some (.map kt e)) (hk : P.underlying kt = some .string) (hx : ev σ x = some (.map (some b))) (hy : ev σ y = some (Str k)) (hv : ev σ z = some v) (h : Mp w b m) :
    Ye P σ (.mapUpdate t x y z) ty w fun _ w1 => Mp w1 b (mset k v m) ∧ w.grownBy w1 (some b) := fun N ds a w' dst pos after g next Q hf hs hK => by
  have h' : Mp w' b m := h.ext hs.ext
  have hlt := h'.lt
  have hrun : ∃ o, (Instr.mapUpdate t (.map (some b)) (Str k) v).run P w' = .ok () (setBlock w' b o) ∧ o = .map (mesF 0 (mset k v m)).toArray (mset k v m).length := by
    cases hfd : mfind k m 0 with
    | none =>
      refine ⟨_, ?_, rfl⟩
      rw [mset_none m 0 hfd, mesF_app]
      simp [Instr.mapUpdate, run_underlying hu, MapKept.run_getObj_map h', run_checkKey_s hk, run_findKey_s hk, hfd, MapKept.run_setObj_map _ h', Result.andThen, setBlock, mesF]
    | some p =>
      obtain ⟨q, u⟩ := p
      obtain ⟨d, h1, h2, h3, h4⟩ := mset_some (v := v) m 0 0 q hfd
      rw [Nat.zero_add] at h1
      subst h1
      refine ⟨_, ?_, rfl⟩
      have hget : ((mesF 0 m).toArray[q]?.map (·.key)).getD (Str k) = Str k := by
        rw [List.getElem?_toArray, mesF_get]
        cases hm : m[q]? with
        | none => rfl
        | some p => rw [hm] at h3; simp at h3 ⊢; rw [h3]
      rw [mset_len m 0 q hfd, ← h4, ← List.modify_toArray]
      simp only [Instr.mapUpdate, Sem.run_bind, run_underlying hu, Result.andThen, MapKept.run_getObj_map h', run_checkKey_s hk, run_findKey_s hk, hfd, hget, run_keyStays, MapKept.run_setObj_map _ h', setBlock]
  obtain ⟨o, hrun, ho⟩ := hrun
  unfold Oper.wp
  have : (execOp a.eval ⟨dst, .mapUpdate t x y z, ty, pos, after, g⟩).run P w' = .ok .skip (setBlock w' b o) := by
    simp only [execOp, hf.ev hx, hf.ev hy, hf.ev hv]
    rw [Sem.run_bind, hrun]; rfl
  rw [this]
  refine hK _ _ _ ⟨?_, set_gb hs h'⟩ (Same.refl _)
  subst ho
  unfold Mp setBlock
  simp [hlt]
/-! ### Gone over -/
theorem Ye.rangeM {ty t kt e x m b} (hu : P.underlying t = some (.map kt e)) (hx : ev σ x = some (.map (some b))) (h : Mp w b m) :
    Ye P σ (.range t x) ty w fun v w1 => ∃ r, v = .pointer (some ⟨r, 0, none⟩) ∧ w.heap.size ≤ r ∧ Mi w1 r b m.length [] ∧ Ext w w1 := fun N ds a w' dst pos after g next Q hf hs hK => by
  have h' : Mp w' b m := h.ext hs.ext
  unfold Oper.wp
  have : (execOp a.eval ⟨dst, .range t x, ty, pos, after, g⟩).run P w' = .ok (.value (.pointer (some ⟨w'.heap.size, 0, none⟩))) (w'.alloc (.mapIter (some b) m.length #[] m.length)) := by
    simp only [execOp, hf.ev hx]
    rw [Sem.run_bind, run_range_map w' t kt e b _ _ hu h']; rfl
  rw [this]
  exact hK _ _ _ ⟨_, rfl, by rw [hs.heap]; exact Nat.le_refl _, heap_alloc_new _ _, hs.ext.trans (ext_grown (World.grownBy_alloc w' _ none))⟩ (Same.refl _)
theorem mes_mem {m : List (Key × Value)} {e : MapEntry} (h : e ∈ (mesF 0 m).toArray.toList) : ∃ i p, m[i]? = some p ∧ e = ⟨Str p.1, p.2, i⟩ := by
  obtain ⟨i, hi⟩ := List.getElem?_of_mem (show e ∈ mesF 0 m by simpa using h)
  rw [mesF_get] at hi
  cases hm : m[i]? with
  | none => rw [hm] at hi; cases hi
  | some p => rw [hm] at hi; simp at hi; exact ⟨i, p, hm, hi.symm⟩
theorem Ye.nextM {ty x r b m seen} (hx : ev σ x = some (.pointer (some ⟨r, 0, none⟩))) (h : Mp w b m) (hi : Mi w r b m.length seen) :
    Ye P σ (.next x false) ty w fun v w1 => (v = .tuple #[.bool false] ∧ Ext w w1 ∧ ∀ i, i < m.length → i ∈ seen) ∨
      ∃ i p, m[i]? = some p ∧ i ∉ seen ∧ v = .tuple #[.bool true, Str p.1, p.2] ∧ Mi w1 r b m.length (seen ++ [i]) ∧ w.grownBy w1 (some r) := fun N ds a w' dst pos after g next Q hf hs hK => by
  have h' : Mp w' b m := h.ext hs.ext
  have hi' : Mi w' r b m.length seen := hi.ext hs.ext
  have hold : ∀ x ∈ (mesF 0 m).toArray.toList, x.born < m.length := fun x hx => by
    obtain ⟨i, p, h1, rfl⟩ := mes_mem hx
    exact (List.getElem?_eq_some_iff.1 h1).1
  unfold Oper.wp
  rcases run_next_at (P := P) w' ty r b m.length m.length seen.toArray _ m.length hi' h' hold (Nat.le_refl _) with ⟨h0, hrun⟩ | ⟨e, he, w1, hw1, hrun⟩
  · have : (execOp a.eval ⟨dst, .next x false, ty, pos, after, g⟩).run P w' = .ok (.value (.tuple #[.bool false])) w' := by
      simp only [execOp, hf.ev hx]
      rw [Sem.run_bind, hrun]; rfl
    rw [this]
    refine hK _ w' w' (.inl ⟨rfl, hs.ext, fun i hlt => ?_⟩) (Same.refl _)
    have := all_seen _ _ h0 ⟨Str (m[i]'hlt).1, (m[i]'hlt).2, i⟩ (by
      rw [List.toList_toArray]
      refine List.mem_of_getElem? (i := i) ?_
      rw [mesF_get, List.getElem?_eq_getElem hlt]; simp)
    simpa using this
  · have : (execOp a.eval ⟨dst, .next x false, ty, pos, after, g⟩).run P w' = .ok (.value (.tuple #[.bool true, e.key, e.val])) (setBlock w1 r (.mapIter (some b) m.length (seen.toArray.push e.born) m.length)) := by
      simp only [execOp, hf.ev hx]
      rw [Sem.run_bind, hrun]; rfl
    rw [this]
    obtain ⟨he1, he2⟩ := mem_left he
    obtain ⟨i, p, hp, rfl⟩ := mes_mem he1
    have hs1 : Same w w1 := by
      rcases hw1 with rfl | rfl
      · exact hs
      · exact hs.trans (Same.drew _)
    have hi1 : Mi w1 r b m.length seen := hi.ext hs1.ext
    refine hK _ _ _ (.inr ⟨i, p, hp, by simpa using he2, rfl, ?_, set_gb hs1 hi1⟩) (Same.refl _)
    have := hi1.lt
    unfold Mi setBlock
    simp [this]
theorem Ye.nextD {ty x r b m n seen} (hx : ev σ x = some (.pointer (some ⟨r, 0, none⟩))) (h : Mp w b m) (hn : m.length = n) (hi : Mi w r b n seen) (ha : ∀ i, i < n → i ∈ seen) :
    Ye P σ (.next x false) ty w fun v w1 => v = .tuple #[.bool false] ∧ Ext w w1 := by
  subst hn
  refine (Ye.nextM hx h hi).mono fun v w1 h1 => ?_
  rcases h1 with ⟨h2, h3, _⟩ | ⟨i, p, hp, hns, _⟩
  · exact ⟨h2, h3⟩
  · exact absurd (ha i (List.getElem?_eq_some_iff.1 hp).1) hns
theorem Ye.nextI {ty x r b m n seen} (hx : ev σ x = some (.pointer (some ⟨r, 0, none⟩))) (h : Mp w b m) (hn : m.length = n) (hi : Mi w r b n seen) (ha : ¬ ∀ i, i < n → i ∈ seen) :
    Ye P σ (.next x false) ty w fun v w1 => ∃ i p, m[i]? = some p ∧ i ∉ seen ∧ v = .tuple #[.bool true, Str p.1, p.2] ∧ Mi w1 r b n (seen ++ [i]) ∧ w.grownBy w1 (some r) := by
  subst hn
  refine (Ye.nextM hx h hi).mono fun v w1 h1 => ?_
  rcases h1 with ⟨h2, h3, h4⟩ | h1
  · exact absurd h4 ha
  · exact h1
theorem Yd.entryM {ty x r b m n seen i p} (hx : ev σ x = some (.pointer (some ⟨r, 0, none⟩))) (h : Mp w b m) (hn : m.length = n) (hi : Mi w r b n (seen ++ [i])) (hp : m[i]? = some p) : Yd P σ (.entry x) ty (.tuple #[Str p.1, p.2]) w :=
  yd_v (fun ρ => Instr.entry (ρ x)) (fun _ _ _ _ _ => rfl) fun N ds a w' hf he => by
    subst hn
    have h' := h.ext he
    have hi' : w'.heap[r]? = some (.mapIter (some b) m.length (seen.toArray.push i) m.length) := by have := hi.ext he; unfold Mi at this; rw [this]; simp
    rw [hf.ev hx]
    have hn : ((mesF 0 m).toArray.toList.map (·.born)).Nodup := by
      rw [List.toList_toArray]
      have key : ∀ (m : List (Key × Value)) (i : Nat), (mesF i m).map (·.born) = List.range' i m.length := by
        intro m
        induction m with
        | nil => intro i; rfl
        | cons p r ih => intro i; simp only [mesF, List.map_cons, ih, List.length_cons, List.range'_succ]
      rw [key]; exact List.nodup_range'
    exact run_entry_at w' r b m.length seen.toArray _ m.length ⟨Str p.1, p.2, i⟩ hi' h' (by
      rw [List.toList_toArray]
      refine List.mem_of_getElem? (i := i) ?_
      rw [mesF_get, hp]; simp) hn
theorem Yd.eqMn {ty t t' k e x y b} (hu : P.underlying t = some (.map k e)) (hx : ev σ x = some (.map (some b))) (hy : ev σ y = some (.map none)) : Yd P σ (.binOp .eql t x y t') ty (.bool false) w :=
  yd_bin hx hy rfl fun w' => by
    have h : ∀ d : Nat, (Op.equalIn (d + 1) t (.map (some b)) (.map none)).run P w' = .ok false w' := fun d => by simp [Op.equalIn, run_underlying hu]
    simp [binOp, Op.equal, Op.maxDepth, h 9999]
theorem J.ret2ca {fn : Func} {R : Ending → World → Prop} {t u ty b T S o n xs v z by'} (hr : fn.results = #[.cell t ty, .tmp u]) (hg : σ.get t = some (.pointer (some ⟨b, o, none⟩))) (ht : agg P ty = true) (hz : TI P ty z n by') (hc : Cel w b T S) (k : Nat) (hk : S[k]? = some (o, n, xs)) (hu : σ.get u = some v) (h : R (.returned (.tuple #[.agg xs.toArray, v])) w) : J N [] σ (Fin P fn R .ret) w := fun a w' hf hs =>
  ⟨hf.defers, _, by
    have hp := hf.vals _ _ hg
    have hv := hf.vals _ _ hu
    rw [Array.getD_eq_getD_getElem?] at hp hv
    obtain ⟨j, hj, _, hj1, _⟩ := hz.out
    have h' := hc.ext hs.ext
    have hl := run_loadCells_list (P := P) w' ⟨b, o, none⟩ xs (fun i v hv => by rw [add_at]; exact h'.cell k hk hv)
    rw [hc.len k hk] at hl
    simp only [results, hr]
    simp [Sem.run_bind, Result.andThen, hp, hv, asAddr, loadVar, run_isAgg_t ht, sizeOf, typeInfo, hj, hj1, hl], w, hs, h⟩
end
theorem Cel.j4 {w : World} {b T : Nat} {x y z v : Value} (h : Cel w b T [(0, 1, [x]), (1, 1, [y]), (2, 1, [z]), (3, 1, [v])]) : Cel w b T [(0, 4, [x, y, z, v])] := by
  obtain ⟨L, h1, h2, h3, h4, h5, _⟩ := h
  refine ⟨L, h1, ⟨rfl, h5.2.1, ?_⟩, trivial⟩
  obtain ⟨_, _, e0⟩ := h2
  obtain ⟨_, _, e1⟩ := h3
  obtain ⟨_, _, e2⟩ := h4
  obtain ⟨_, _, e3⟩ := h5
  simp only [] at e0 e1 e2 e3 ⊢
  match L, e0, e1, e2, e3 with
  | a :: b :: c :: d :: r, e0, e1, e2, e3 =>
    simp at e0 e1 e2 e3 ⊢
    exact ⟨e0, e1, e2, e3⟩
  | [], e0, _, _, _ => simp at e0
  | [a], _, e1, _, _ => simp at e1
  | [a, b], _, _, e2, _ => simp at e2
  | [a, b, c], _, _, _, e3 => simp at e3
end Go.X
