import Derived.Test.YtmpfgiffpdackaaX32
/-
  append to a row without room: nothing that was there turns. No program here.
-/
set_option linter.unusedVariables false
namespace Go
section
variable {P : Program} (w : World)
theorem run_append_empty (base : Nat) (t ty e : TypeId) (i : TypeInfo) (z : Value) (size bytes : Nat) (ht : P.underlying t = some (.slice e)) (hi : P.info? e = some i) (hz : i.zero = some z)
    (hsize : i.size = size) (hby : i.bytes = bytes) (hzs : z.cells.size = size) (hsz : 0 < size)
    (g : Nat) (hown : w.ownsRow base e size (.slice (some ⟨g, 0, none⟩) 0 0) 0 [])
    (a : Addr) (m c : Nat) (news : List Value) (hl : news.length = m * size) (hnews : ∀ j u, news[j]? = some u → w.cell? (a.add j) = some u) (h1 : ∀ u ∈ news, u.oneCell' = true)
    (h63 : m ≤ maxLen) (hbytes : m * bytes ≤ 140737488355328) (hbase : base ≤ w.heap.size) :
    ∃ v' w', (Builtin.append_ #[t, t] ty #[.slice (some ⟨g, 0, none⟩) 0 0, .slice (some a) m c]).run P w = .ok v' w' ∧ w'.ownsRow base e size v' m news ∧ w.grownBy w' none := by
  subst hsize
  subst hby
  have hsmall : m ≤ 9223372036854775807 := by simp only [maxLen] at h63; omega
  have grown : 0 < m →
      (w.drew.alloc (.cells (([] : List Value).toArray ++ news.toArray ++ Builtin.zeroCells z.cells (grownCap w m 0 e - m)) e)).ownsRow base e i.size
        (.slice (some ⟨w.heap.size, 0, none⟩) m (grownCap w m 0 e)) m news ∧
      w.grownBy (w.drew.alloc (.cells (([] : List Value).toArray ++ news.toArray ++ Builtin.zeroCells z.cells (grownCap w m 0 e - m)) e)) none := by
    intro ho
    have hge := grownCap_ge w m 0 e
    have hcm : grownCap w m 0 e ≤ maxLen := grownCap_le_maxLen w m 0 e (by omega)
    refine ⟨⟨hl, .inr ⟨w.heap.size, _, _, rfl, hbase, heap_alloc_new w.drew _, hge, hcm, ?_, ?_⟩⟩, ⟨rfl, rfl, rfl, by simp, fun k hk _ => heap_alloc_old w.drew _ hk⟩⟩
    · simp only [Array.size_append, List.size_toArray, size_zeroCells, hzs, hl, List.length_nil, Nat.zero_add]
      rw [← Nat.add_mul]
      congr 1
      omega
    · simp only [Array.toList_append, List.nil_append]
      rw [← hl]
      exact List.take_left
  rcases hown.2 with ⟨h0, _⟩ | ⟨g', cap', cur, hv, hbg, hg, hnc, hcm, hcs, htake⟩
  · cases h0
  · cases hv
    by_cases hm : m = 0
    · subst hm
      have hn : news = [] := List.eq_nil_of_length_eq_zero (by simpa using hl)
      subst hn
      have hfit : 0 * i.size + ([] : List Value).length ≤ cur.size := by simp
      have hr := run_append_room (P := P) w t ty e i ht hi g 0 0 cur hg a 0 c [] hl hnews h1 (Nat.le_refl _) hfit
      have hcur : cur = #[] := by
        have : cur.size = 0 := by rw [hcs]; simp
        exact Array.eq_empty_of_size_eq_zero this
      subst hcur
      refine ⟨_, _, hr, ⟨by simp, .inr ⟨g, 0, _, rfl, hbg, setRow_heap w g _ _ e _ hg, Nat.le_refl _, by decide, ?_, ?_⟩⟩, ⟨rfl, rfl, rfl, by simp, fun k hk _ => ?_⟩⟩
      · simp
      · simp
      · by_cases e : k = g
        · subst e
          rw [setRow_heap w k _ _ _ _ hg, hg]
          simp
        · exact setRow_other w g k _ e
    · have holds : ∀ j u, ([] : List Value)[j]? = some u → w.cell? ((⟨g, 0, none⟩ : Addr).add j) = some u := fun j u h => by simp at h
      have hr := run_append_grow (P := P) w t ty e i z ht hi hz ⟨g, 0, none⟩ 0 0 [] (by simp) holds a m c news hl hnews (by omega) (by omega) (growslice_fits (by omega) (by rw [Nat.zero_add]; exact hbytes))
      have hgr := grown (by omega)
      simp only [Nat.zero_add] at hr hgr
      exact ⟨_, _, hr, hgr.1, hgr.2⟩
end
end Go
namespace Go.X
section
variable {P : Program} {σ : Env} {w : World} {α : Type} {K : Shp α}
def sl0 (g : Nat) : Value := .slice (some ⟨g, 0, none⟩) 0 0
theorem Ye.append0 {ty t e x y r z by' base g} {fs : List α} (hu : P.underlying t = some (.slice e)) (hz : TI P e z K.sz by') (hz1 : z.cells.size = K.sz) (hby : Nat.blt 0 by' = true) (hx : ev σ x = some (sl0 g)) (hy : ev σ y = some r)
    (ho : Es K base e w (sl0 g) []) (hr : Er K w r fs) (h1 : ∀ x ∈ fs, ∀ v ∈ K.c x, v.oneCell' = true) (hb : fs.length * by' ≤ 140737488355328) (hbase : base ≤ w.heap.size) :
    Ye P σ (.call ⟨.builtin .append, #[x, y], #[t, t]⟩) ty w fun v w1 => Es K base e w1 v fs ∧ Ext w w1 := by
  have hby' : 0 < by' := by simpa [Nat.blt_eq] using hby
  have hle : fs.length ≤ fs.length * by' := Nat.le_mul_of_pos_right _ hby'
  refine ye_bi (vs := [sl0 g, r]) (Builtin.append_ #[t, t] ty) (by simp [evs, hx, hy]) (fun _ _ => rfl) fun w' hs => ?_
  obtain ⟨j, hj, hj0, hj1, hj2⟩ := hz.out
  have ho' : w'.ownsRow base e K.sz (.slice (some ⟨g, 0, none⟩) 0 0) 0 [] := Es.ext ho hs.ext
  obtain ⟨p, c, rfl, h2, h3, h4⟩ := Er.ext hr hs.ext
  cases p with
  | none =>
    have hm0 : fs = [] := by
      have hc := h3 rfl
      exact List.eq_nil_of_length_eq_zero (by omega)
    subst hm0
    have hc := h3 rfl
    subst hc
    have hrun := run_append_owned_none (P := P) w' base t ty e j K.sz hu hj (sl0 g) 0 [] ho'
    exact ⟨sl0 g, w', w', hrun, Same.refl _, ho', hs.ext⟩
  | some ad =>
    have hone : ∀ v ∈ fs.flatMap K.c, v.oneCell' = true := fun v hv => by obtain ⟨x, hx, hv⟩ := List.mem_flatMap.1 hv; exact h1 x hx v hv
    have hnews : ∀ k u, (fs.flatMap K.c)[k]? = some u → w'.cell? (ad.add k) = some u := fun k u hku => by obtain ⟨b, o, hp, hc⟩ := h4 k u hku; cases hp; rw [add_at]; exact hc
    obtain ⟨v', w2, hrun, h5, h6⟩ := run_append_empty (P := P) w' base t ty e j z K.sz by' hu hj hj0 hj1 hj2 hz1 K.pos g ho' ad fs.length c (fs.flatMap K.c) (fm_len K fs)
      hnews hone (by unfold maxLen; omega) hb (by rw [hs.heap]; exact hbase)
    exact ⟨v', w2, w2, hrun, Same.refl _, h5, hs.ext.trans (ext_grown h6)⟩
theorem Ye.litE0x {ty t e z by' base} (hu : P.underlying t = some (.slice e)) (hz : TI P e z K.sz by') (hbase : base ≤ w.heap.size) :
    Ye P σ (.buildSlice t 0 #[]) ty w fun v w1 => (∃ g, v = sl0 g ∧ Es K base e w1 (sl0 g) []) ∧ Ext w w1 := fun N ds a w' dst pos after g next Q hf hs hk => by
  obtain ⟨j, hj, hj0, hj1, hj2⟩ := hz.out
  have hrun : (Instr.buildSlice t 0 #[]).run P w' = .ok (.slice (some ⟨w'.heap.size, 0, none⟩) 0 0) (w'.alloc (.cells #[] e)) := by
    have hr0 : Array.map (fun x : Nat => (default : Value)) (Array.range 0) = #[] := by simp
    simp [Instr.buildSlice, run_underlying hu, sizeOf, typeInfo, hj, newRow, Instr.fill, newObj, Sem.run]
    rw [hr0]
  unfold Oper.wp
  have : (execOp a.eval ⟨dst, .buildSlice t 0 #[], ty, pos, after, g⟩).run P w' = .ok (.value (.slice (some ⟨w'.heap.size, 0, none⟩) 0 0)) (w'.alloc (.cells #[] e)) := by
    simp only [execOp]
    have e0 : (Array.map (fun x : Nat × Operand => (x.1, a.eval x.2)) #[]) = #[] := by simp
    rw [e0, Sem.run_bind, hrun]; rfl
  rw [this]
  refine hk _ _ _ ⟨⟨w'.heap.size, rfl, ?_⟩, hs.ext.trans (ext_grown (World.grownBy_alloc w' _ none))⟩ (Same.refl _)
  have := World.ownsRow_lit (base := base) (e := e) (size := K.sz) w' #[] 0 (by rw [hs.heap]; exact hbase) (by unfold maxLen; omega) (by simp)
  unfold Es sl0
  rw [hs.heap] at this ⊢
  simpa using this
end
/-! ### Assertions of rows of structs -/
abbrev Asr.es {α : Type} (K : Shp α) (t base : Nat) (E : TypeId) (es : List α) : Asr := ⟨t, Value, fun v => v, fun v w => Es K base E w v es, fun _ _ _ h he => Es.ext h he⟩
abbrev Asr.e0 {α : Type} (K : Shp α) (t base : Nat) (E : TypeId) : Asr := ⟨t, Nat, fun g => sl0 g, fun g w => Es K base E w (sl0 g) [], fun _ _ _ h he => Es.ext h he⟩
theorem PremP.es {σ : Env} {w : World} {α : Type} {K : Shp α} {M : List (Nat × Asr)} {G : Env → Prop} {k i t base E : Nat} {r : List Nat} {es : List α} (hk : M[k]? = some (i, Asr.es K t base E es)) (h : ∀ v, Es K base E w v es → PremP M r ((t, v) :: σ) w G) : PremP M (k :: r) σ w G := PremP.c hk fun x hx => h x hx
theorem PremP.e0 {σ : Env} {w : World} {α : Type} {K : Shp α} {M : List (Nat × Asr)} {G : Env → Prop} {k i t base E : Nat} {r : List Nat} (hk : M[k]? = some (i, Asr.e0 K t base E)) (h : ∀ g, Es K base E w (sl0 g) [] → PremP M r ((t, sl0 g) :: σ) w G) : PremP M (k :: r) σ w G := PremP.c hk fun x hx => h x hx
end Go.X
