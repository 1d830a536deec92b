import Derived.Test.YtghklimejpmpnaaQn
import Derived.Test.YtghklimejpmpnaaX21
/-
  Boxes of pieces. No program here.
-/
set_option linter.unusedVariables false
namespace Go.X
/-- What lies in a box's row: bytes, or nothing where a piece wants; none of it in rs. -/
structure Els (rs : List (Option Nat)) (w : World) (vs : List Value) (ll : List (List UInt8)) : Prop where
  len : vs.length = ll.length
  at_ : ∀ i, i < ll.length → Bs w (vs.getD i nilS) (ll.getD i []) ∧ (ll.getD i [] = [] → vs.getD i nilS = nilS) ∧ ApL (vs.getD i nilS).ownBlock rs ∧ Live w (vs.getD i nilS).ownBlock
theorem Els.ext {rs w w' vs ll} (h : Els rs w vs ll) (he : Ext w w') : Els rs w' vs ll := ⟨h.len, fun i hi => by have := h.at_ i hi; exact ⟨this.1.ext he, this.2.1, this.2.2.1, this.2.2.2.ext he.size⟩⟩
theorem Els.tnk {rs qs w w' vs ll} (h : Els rs w vs ll) (hg : Tn qs w w') (hs : ∀ r ∈ qs, r ∈ rs) : Els rs w' vs ll := ⟨h.len, fun i hi => by have := h.at_ i hi; exact ⟨Rd.tnk this.1 hg (fun r hr => this.2.2.1 r (hs r hr)), this.2.1, this.2.2.1, this.2.2.2.ext hg.size⟩⟩
theorem Els.rl {rs w vs ll s} (h : Els rs w vs ll) (hr : Rd w s vs) : Rl w s vs ll := ⟨hr, h.len, fun i hi => (h.at_ i hi).1⟩
theorem Els.nil {rs w vs ll} (h : Els rs w vs ll) {i : Nat} (hi : i < ll.length) : isNilS (vs.getD i nilS) = decide (ll.getD i [] = []) := by
  have h1 := h.at_ i hi
  by_cases e : ll.getD i [] = []
  · rw [h1.2.1 e, decide_eq_true e]; rfl
  · rw [decide_eq_false e]
    cases hb : isNilS (vs.getD i nilS)
    · rfl
    · have := isNilS_nil h1.1 hb
      exact absurd (List.map_eq_nil_iff.1 this) e
theorem getD_set {α : Type} (l : List α) (i j : Nat) (x d : α) (hi : i < l.length) : (l.set i x).getD j d = if j = i then x else l.getD j d := by
  rw [List.getD_eq_getElem?_getD, List.getD_eq_getElem?_getD, List.getElem?_set]
  by_cases e : i = j
  · subst e; rw [if_pos rfl, if_pos hi, if_pos rfl]; rfl
  · rw [if_neg e, if_neg (fun h => e h.symm)]
theorem Els.set {rs w vs ll} (h : Els rs w vs ll) {i : Nat} (hi : i < ll.length) {v : Value} {l : List UInt8} (hv : Bs w v l) (hl : l ≠ []) (ha : ApL v.ownBlock rs) (hw : Live w v.ownBlock) : Els rs w (vs.set i v) (ll.set i l) := by
  refine ⟨by rw [List.length_set, List.length_set, h.len], fun j hj => ?_⟩
  rw [List.length_set] at hj
  rw [getD_set _ _ _ _ _ (by rw [h.len]; exact hi), getD_set _ _ _ _ _ hi]
  by_cases e : j = i
  · rw [if_pos e, if_pos e]; exact ⟨hv, fun h0 => absurd h0 hl, ha, hw⟩
  · rw [if_neg e, if_neg e]; exact h.at_ j hj
theorem Els.new (rs : List (Option Nat)) (w : World) (n : Nat) : Els rs w (List.replicate n nilS) (List.replicate n []) := by
  refine ⟨by simp, fun i hi => ?_⟩
  rw [List.length_replicate] at hi
  have e1 : (List.replicate n nilS).getD i nilS = nilS := by simp [List.getD_eq_getElem?_getD, hi]
  have e2 : (List.replicate n ([] : List UInt8)).getD i [] = [] := by simp [List.getD_eq_getElem?_getD, hi]
  rw [e1, e2]
  exact ⟨Rd.nilM _ _, fun _ => rfl, fun _ _ => Ap.nil_l, fun k e => by cases e⟩
theorem Els.one {rs w vs ll} (h : Els rs w vs ll) : ∀ v ∈ vs, v.oneCell' = true := fun v hv => by
  obtain ⟨i, hi, rfl⟩ := List.getElem_of_mem hv
  have := (h.at_ i (by rw [← h.len]; exact hi)).1
  rw [List.getD_eq_getElem?_getD, List.getElem?_eq_getElem hi] at this
  exact Rd.one this
/-- Which pieces want, of the first k. -/
def missK (ll : List (List UInt8)) (k : Nat) : List Int := ((List.range k).filter fun i => decide (ll.getD i [] = [])).map fun (i : Nat) => (i : Int)
def missL (ll : List (List UInt8)) : List Int := missK ll ll.length
theorem missK_succ (ll : List (List UInt8)) (k : Nat) : missK ll (k + 1) = missK ll k ++ (if ll.getD k [] = [] then [(k : Int)] else []) := by
  unfold missK
  rw [List.range_succ, List.filter_append, List.map_append]
  congr 1
  by_cases e : ll.getD k [] = []
  · rw [if_pos e, List.filter_cons_of_pos (by simpa using e)]; rfl
  · rw [if_neg e, List.filter_cons_of_neg (by simpa using e)]; rfl
theorem missK_len (ll : List (List UInt8)) (k : Nat) : (missK ll k).length ≤ k := by
  unfold missK
  rw [List.length_map]
  exact Nat.le_trans (List.length_filter_le _ _) (by rw [List.length_range]; exact Nat.le_refl _)
/-- A box's numbers: id, size, length; how many pieces. -/
structure BxN (id size len : Int) (n : Nat) : Prop where
  hid : 0 ≤ id ∧ id ≤ 1073741824
  hsz : 1 ≤ size ∧ size ≤ 10000
  hln : 1 ≤ len ∧ len ≤ 10000
  hn : (n : Int) = (len + size - 1) / size
theorem BxN.n1 {id size len n} (h : BxN id size len n) : 1 ≤ n ∧ n ≤ 10000 := by
  have h1 := h.hn; have h2 := h.hsz; have h3 := h.hln
  have a : 1 ≤ (len + size - 1) / size := by
    rw [Int.le_ediv_iff_mul_le (by omega)]; omega
  have b : (len + size - 1) / size ≤ 10000 := by
    have : (len + size - 1) / size < 10001 := by
      rw [Int.ediv_lt_iff_lt_mul (by omega)]
      have : 10001 * size = 10000 * size + size := by omega
      have : size * 10000 ≥ 10000 := by omega
      omega
    omega
  omega
theorem BxN.pos {id size len n} (h : BxN id size len n) {k : Nat} (hk : k < n) : (k : Int) * size < len ∧ 0 ≤ (k : Int) * size := by
  have h1 := h.hn; have h2 := h.hsz
  have a : (k : Int) + 1 ≤ (len + size - 1) / size := by omega
  rw [Int.le_ediv_iff_mul_le (by omega), Int.add_mul, Int.one_mul] at a
  exact ⟨by omega, Int.mul_nonneg (by omega) (by omega)⟩
theorem mulB {a b : Int} (ha : 0 ≤ a ∧ a ≤ 10000) (hb : 1 ≤ b ∧ b ≤ 10000) : 0 ≤ a * b ∧ a * b ≤ 100000000 := by
  have h1 := Int.mul_nonneg ha.1 (show (0 : Int) ≤ b by omega)
  have h2 := Int.mul_le_mul ha.2 hb.2 (by omega) (by omega)
  omega
/-- A piece that does not fit. -/
def badP (id size len : Int) (n : Nat) (x : Int × Int × Int) (dl : Nat) : Prop := ¬ (x.1 = id ∧ x.2.2 = (n : Int) ∧ (0 ≤ x.2.1 ∧ x.2.1 ≤ (n : Int) - 1) ∧ (dl : Int) = if len - x.2.1 * size < size then len - x.2.1 * size else size)
theorem getD_mem' {α : Type} {d : α} {es : List α} {j : Nat} (h : j < es.length) : es.getD j d ∈ es := by
  rw [List.getD_eq_getElem?_getD, List.getElem?_eq_getElem h]; exact List.getElem_mem h
theorem ints_no {l m : List Int} {k : Nat} (hl : l.length = m.length) (h : ¬ l.getD k 0 = m.getD k 0) : false = decide (l = m) := by
  symm; rw [decide_eq_false_iff_not]; intro e; subst e; exact h rfl
theorem ints_all {l m : List Int} (hl : l.length = m.length) (h : ∀ j, j < l.length → l.getD j 0 = m.getD j 0) : true = decide (l = m) := by
  symm; rw [decide_eq_true_iff]
  apply List.ext_getElem hl
  intro i h1 h2
  have := h i h1
  rwa [List.getD_eq_getElem?_getD, List.getD_eq_getElem?_getD, List.getElem?_eq_getElem h1, List.getElem?_eq_getElem h2] at this
theorem ints_len {l m : List Int} (h : (l.length : Int) ≠ (m.length : Int)) : false = decide (l = m) := by
  symm; rw [decide_eq_false_iff_not]; intro e; subst e; exact h rfl
/-- Any piece does not fit, or wants, or is there, or another is there. -/
theorem bx_cases (id size len : Int) (ll : List (List UInt8)) (X : Pc) (l : List UInt8) : badP id size len ll.length (X.1, X.2.1, X.2.2.1) l.length ∨
    (∃ k, k < ll.length ∧ ((l.length : Int) = if len - (k : Int) * size < size then len - (k : Int) * size else size) ∧ X = (id, (k : Int), (ll.length : Int), X.2.2.2) ∧ ll.getD k [] = []) ∨
    (∃ k, k < ll.length ∧ ((l.length : Int) = if len - (k : Int) * size < size then len - (k : Int) * size else size) ∧ X = (id, (k : Int), (ll.length : Int), X.2.2.2) ∧ ¬ ll.getD k [] = [] ∧ ll.getD k [] = l) ∨
    (∃ k, k < ll.length ∧ ((l.length : Int) = if len - (k : Int) * size < size then len - (k : Int) * size else size) ∧ X = (id, (k : Int), (ll.length : Int), X.2.2.2) ∧ ¬ ll.getD k [] = [] ∧ ¬ ll.getD k [] = l) := by
  by_cases hb : badP id size len ll.length (X.1, X.2.1, X.2.2.1) l.length
  · exact .inl hb
  · right
    unfold badP at hb
    obtain ⟨h1, h2, ⟨h3, h4⟩, h5⟩ := Classical.not_not.1 hb
    dsimp only at h1 h2 h3 h4 h5
    obtain ⟨k, hk⟩ := Int.eq_ofNat_of_zero_le h3
    have hk2 : k < ll.length := by omega
    rw [hk] at h5
    have hX : X = (id, (k : Int), (ll.length : Int), X.2.2.2) := by rw [← h1, ← h2]; obtain ⟨a, b, c, d⟩ := X; simp only at hk ⊢; rw [hk]
    by_cases e : ll.getD k [] = []
    · exact .inl ⟨k, hk2, h5, hX, e⟩
    · by_cases e2 : ll.getD k [] = l
      · exact .inr (.inl ⟨k, hk2, h5, hX, e, e2⟩)
      · exact .inr (.inr ⟨k, hk2, h5, hX, e, e2⟩)
theorem set_flat (l : List UInt8) : ∀ (ll : List (List UInt8)) (k : Nat), (ll.set k l).flatten.length ≤ ll.flatten.length + l.length
  | [], k => by simp
  | x :: ll, 0 => by simp only [List.set_cons_zero, List.flatten_cons, List.length_append]; omega
  | x :: ll, k + 1 => by
    have := set_flat l ll k
    simp only [List.set_cons_succ, List.flatten_cons, List.length_append]; omega
section
variable {P : Program} {σ : Env} {w : World}
theorem run_neNil {t e : TypeId} (hu : P.underlying t = some (.slice e)) (a : Option Addr) (n c : Nat) (w' : World) : (binOp .neq t (.slice a n c) (.slice none 0 0)).run P w' = .ok (.bool (!a.isNone)) w' := by
  have h : ∀ d : Nat, (Op.equalIn (d + 1) t (.slice a n c) (.slice none 0 0)).run P w' = .ok a.isNone w' := fun d => by
    cases a <;> simp [Op.equalIn, run_underlying hu]
  simp only [binOp]
  simp [Op.equal, Op.maxDepth, h 9999]
theorem Yd.neNil {ty t t' e x y s xs} (hu : P.underlying t = some (.slice e)) (hx : ev σ x = some s) (hy : ev σ y = some nilS) (h : Rd w s xs) : Yd P σ (.binOp .neq t x y t') ty (.bool (!isNilS s)) w := by
  obtain ⟨p, c, rfl, _⟩ := h
  have := yd_bin (P := P) (ty := ty) (t' := t') (op := .neq) (t := t) (w := w) hx hy rfl (fun w' => run_neNil hu p xs.length c w')
  cases p <;> exact this
/-- An empty row, and where it lies. -/
theorem Ye.lit0w {ty t e z by' base} (hu : P.underlying t = some (.slice e)) (hz : TI P e z 1 by') (hbase : base ≤ w.heap.size) :
    Ye P σ (.buildSlice t 0 #[]) ty w fun v w1 => v = .slice (some ⟨w.heap.size, 0, none⟩) 0 0 ∧ Ow base e w1 v [] ∧ Ext w w1 := fun N ds a w' dst pos after g next Q hf hs hk => by
  obtain ⟨j, hj, hj0, hj1, hj2⟩ := hz.out
  have hrun : (Instr.buildSlice t 0 #[]).run P w' = .ok (.slice (some ⟨w'.heap.size, 0, none⟩) 0 0) (w'.alloc (.cells #[] e)) := by
    have hr0 : Array.map (fun x : Nat => (default : Value)) (Array.range 0) = #[] := by simp
    simp [Instr.buildSlice, run_underlying hu, sizeOf, typeInfo, hj, newRow, Instr.fill, newObj, Sem.run]
    rw [hr0]
  unfold Oper.wp
  have : (execOp a.eval ⟨dst, .buildSlice t 0 #[], ty, pos, after, g⟩).run P w' = .ok (.value (.slice (some ⟨w'.heap.size, 0, none⟩) 0 0)) (w'.alloc (.cells #[] e)) := by
    simp only [execOp]
    have e0 : (Array.map (fun x : Nat × Operand => (x.1, a.eval x.2)) #[]) = #[] := by simp
    rw [e0, Sem.run_bind, hrun]; rfl
  rw [this]
  refine hk _ _ _ ⟨by rw [hs.heap], ?_, hs.ext.trans (ext_grown (World.grownBy_alloc w' _ none))⟩ (Same.refl _)
  have := World.ownsRow_lit (base := base) (e := e) (size := 1) w' #[] 0 (by rw [hs.heap]; exact hbase) (by unfold maxLen; omega) (by simp)
  unfold Ow
  rw [hs.heap] at this ⊢
  simpa using this
end
end Go.X
