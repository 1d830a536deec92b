/-
  Slices of byte slices; literals of slices; appends of rows and of noughts; copies.
-/
import Derived.Test.YtipbmjbdmpcgoaaX5
set_option linter.unusedVariables false
set_option linter.unusedSimpArgs false
namespace Go.X
open Go.RowKit

/-- The slice value s reads in w as the byte slices vs, which read as ll. -/
structure Rl (w : World) (s : Value) (vs : List Value) (ll : List (List UInt8)) : Prop where
  rd : Rd w s vs
  len : vs.length = ll.length
  at_ : ∀ i, i < ll.length → Bs w (vs.getD i nilS) (ll.getD i [])
theorem Rl.ext {w w' s vs ll} (h : Rl w s vs ll) (he : Ext w w') : Rl w' s vs ll := ⟨h.rd.ext he, h.len, fun i hi => (h.at_ i hi).ext he⟩
theorem Rl.at' {w s vs ll} {i : Nat} (h : Rl w s vs ll) (hi : i < ll.length) : Bs w (vs.getD i nilS) (ll.getD i []) := h.at_ i hi
theorem Rl.cell {w s vs ll} (h : Rl w s vs ll) {i : Nat} (hi : i < ll.length) : w.cell? (adr s i) = some (vs.getD i nilS) := by
  have hi' : i < vs.length := by rw [h.len]; exact hi
  refine h.rd.cell ?_
  rw [List.getElem?_eq_getElem hi', List.getD_eq_getElem?_getD, List.getElem?_eq_getElem hi']; rfl

section
variable {P : Program} {N : Nat} {ds : List Deferred} {σ : Env} {w : World}
theorem Yd.len_l {ty x t e s vs ll} (hu : P.underlying t = some (.slice e)) (hx : ev σ x = some s) (h : Rl w s vs ll) : Yd P σ (.call ⟨.builtin .len, #[x], #[t]⟩) ty (I ll.length) w := by
  have := Yd.len (ty := ty) hu hx h.rd
  rwa [h.len] at this
theorem Yd.idx_l {ty x y t e s k i z by' vs ll} (hu : P.underlying t = some (.slice e)) (hz : TI P e z 1 by') (hx : ev σ x = some s) (hy : ev σ y = some (.int k i)) (h : Rl w s vs ll) (hi : 0 ≤ i ∧ i < ll.length) :
    Yd P σ (.indexAddr t x y) ty (.pointer (some (adr s i.toNat))) w := Yd.idx hu hz hx hy h.rd (by rw [h.len]; exact hi)
/-- Elements f u of a list. -/
theorem Yd.len_m {α} {f : α → Value} {l : List α} {ty x t e s} (hu : P.underlying t = some (.slice e)) (hx : ev σ x = some s) (h : Rd w s (l.map f)) : Yd P σ (.call ⟨.builtin .len, #[x], #[t]⟩) ty (I l.length) w := by
  have := Yd.len (ty := ty) hu hx h
  simpa using this
theorem Yd.idx_m {α} {f : α → Value} {l : List α} {ty x y t e s k i z by'} (hu : P.underlying t = some (.slice e)) (hz : TI P e z 1 by') (hx : ev σ x = some s) (hy : ev σ y = some (.int k i)) (h : Rd w s (l.map f)) (hi : 0 ≤ i ∧ i < l.length) :
    Yd P σ (.indexAddr t x y) ty (.pointer (some (adr s i.toNat))) w := Yd.idx hu hz hx hy h (by simpa using hi)
theorem Rd.cellM {α} {f : α → Value} {l : List α} {s} (h : Rd w s (l.map f)) {i : Nat} {u : α} (hu : l[i]? = some u) : w.cell? (adr s i) = some (f u) := h.cell (by rw [List.getElem?_map, hu]; rfl)
/-- .. of ints. -/
theorem Rd.cellI {l : List Int} {s} (h : Rd w s (l.map fun x => I x)) {i : Nat} (hi : i < l.length) : w.cell? (adr s i) = some (I (l.getD i 0)) :=
  Rd.cellM h (by rw [List.getElem?_eq_getElem hi, List.getD_eq_getElem?_getD, List.getElem?_eq_getElem hi]; rfl)

/-! ### append -/
theorem Ye.appendM {α} {f : α → Value} {l m : List α} {ty t e x y s r z by' base} (hu : P.underlying t = some (.slice e)) (hz : TI P e z 1 by') (hz1 : z.cells.size = 1) (hby : Nat.blt 0 by' = true) (hx : ev σ x = some s) (hy : ev σ y = some r)
    (ho : Ow base e w s (l.map f)) (hr : Rd w r (m.map f)) (h1 : ∀ u, (f u).oneCell' = true) (hb : (l.length + m.length) * by' ≤ 140737488355328) (hbase : base ≤ w.heap.size) :
    Ye P σ (.call ⟨.builtin .append, #[x, y], #[t, t]⟩) ty w fun v w1 => Ow base e w1 v ((l ++ m).map f) ∧ w.grownBy w1 s.ownBlock := by
  have hby' : 0 < by' := by simpa [Nat.blt_eq] using hby
  have hle : l.length + m.length ≤ (l.length + m.length) * by' := Nat.le_mul_of_pos_right _ hby'
  have h := Ye.append (P := P) (ty := ty) hu hz hz1 hx hy ho hr (fun v hv => by obtain ⟨u, _, rfl⟩ := List.mem_map.1 hv; exact h1 u) (by simp only [List.length_map]; unfold maxLen; omega) (by simpa using hb) hbase
  rwa [← List.map_append] at h

theorem Ow.nilM {α : Type} (f : α → Value) (base : Nat) (E : TypeId) (w : World) : Ow base E w nilS (([] : List α).map f) := Ow.nil _ _ _
theorem Rd.nilM {α : Type} (f : α → Value) (w : World) : Rd w nilS (([] : List α).map f) := Rd.nil _
theorem Rd.one {w : World} {s xs} (h : Rd w s xs) : s.oneCell' = true := by obtain ⟨p, c, rfl, _⟩ := h; rfl
theorem Rd.cells {w : World} {s xs} (h : Rd w s xs) : s.cells = #[s] := by obtain ⟨p, c, rfl, _⟩ := h; rfl

/-! ### Literals of slices -/
theorem fill_tail (sz : Nat → Option (Nat × Nat)) (hsz : ∀ i, sz i = some (i * 1, 1)) : ∀ (vs pre post : List Value), (∀ v ∈ vs, v.cells = #[v]) → post.length = vs.length →
    Instr.fill sz (pre ++ post).toArray ((vs.zipIdx pre.length).map fun p => (p.2, p.1)) = some (pre ++ vs).toArray
  | [], pre, post, _, hl => by
    have : post = [] := List.eq_nil_of_length_eq_zero hl
    subst this; rfl
  | v :: vs, pre, [], _, hl => by cases hl
  | v :: vs, pre, p :: post, hc, hl => by
    have h1 := hc v (by simp)
    simp only [List.zipIdx_cons, List.map_cons, Instr.fill, hsz]
    have hs : v.cells.size = 1 := by rw [h1]; rfl
    rw [if_neg (by simp [hs])]
    have : (v.cells.zipIdx.foldl (fun cs x => cs.setIfInBounds (pre.length * 1 + x.2) x.1) (pre ++ p :: post).toArray) = ((pre ++ [v]) ++ post).toArray := by
      rw [h1]
      simp
    rw [this]
    have ih := fill_tail sz hsz vs (pre ++ [v]) post (fun u hu => hc u (by simp [hu])) (by simpa using hl)
    simpa using ih
theorem parts_zip (ρ : Operand → Value) : ∀ (l : List (Nat × Operand)) (k : Nat) (vs : List Value), l.map (·.1) = List.range' k vs.length → l.map (fun p => ρ p.2) = vs → l.map (fun p => (p.1, ρ p.2)) = (vs.zipIdx k).map fun p => (p.2, p.1)
  | [], k, vs, _, h => by simp only [List.map_nil] at h; subst h; rfl
  | p :: l, k, [], _, h => by cases h
  | p :: l, k, v :: vs, hi, h => by
    simp only [List.map_cons, List.length_cons, List.range'_succ, List.cons.injEq] at hi h
    simp only [List.map_cons, List.zipIdx_cons, hi.1, h.1]
    rw [parts_zip ρ l (k + 1) vs hi.2 h.2]
theorem Ye.lit {ty t e n z by' base} {parts : Array (Nat × Operand)} {vs : List Value} (hu : P.underlying t = some (.slice e)) (hz : TI P e z 1 by') (hz1 : z.cells = #[z]) (hp : evs σ (parts.toList.map (·.2)) = some vs) (hi : parts.toList.map (·.1) = List.range' 0 vs.length) (hn : n = vs.length)
    (hc : ∀ v ∈ vs, v.cells = #[v]) (hn24 : Nat.ble n 16777216 = true) (hbase : base ≤ w.heap.size) : Ye P σ (.buildSlice t n parts) ty w fun v w1 => Ow base e w1 v vs ∧ Ext w w1 := fun N ds a w' dst pos after g next Q hf hs hk => by
  obtain ⟨j, hj, hj0, hj1, hj2⟩ := hz.out
  have hn24' : n ≤ 16777216 := by simpa using hn24
  have hparts : (parts.map fun (i, x) => (i, a.eval x)).toList = (vs.zipIdx 0).map fun p => (p.2, p.1) := by
    rw [Array.toList_map]
    exact parts_zip a.eval parts.toList 0 vs hi (by rw [← hf.evs hp, List.map_map]; rfl)
  have hfill := fill_tail (fun i => some (i * 1, 1)) (fun _ => rfl) vs [] (List.replicate n z) hc (by simp [hn])
  have hmade : (Array.range n).map (#[z][· % 1]!) = (List.replicate n z).toArray := by
    apply Array.toList_inj.1
    have := toList_madeCells_one z n
    simpa [madeCells] using this
  have hrun : (Instr.buildSlice t n (parts.map fun (i, x) => (i, a.eval x))).run P w' = .ok (.slice (some ⟨w'.heap.size, 0, none⟩) n n) (w'.alloc (.cells vs.toArray e)) := by
    simp only [List.nil_append, List.length_nil] at hfill
    rw [← hparts] at hfill
    by_cases h0 : n = 0
    · subst h0
      simp only [List.replicate_zero] at hfill
      have hr0 : Array.map (fun x : Nat => (default : Value)) (Array.range 0) = #[] := by simp
      simp [Instr.buildSlice, run_underlying hu, sizeOf, typeInfo, hj, hj1, newRow]
      simp at hfill
      rw [hr0, hfill]
      simp [newObj, Sem.run]
      try rfl
    · have hle : ¬ (16777216 < n) := by omega
      rw [← hmade] at hfill
      simp at hfill
      simp [Instr.buildSlice, run_underlying hu, sizeOf, typeInfo, zeroValue, hj, hj0, hj1, hz1, h0, hle, newRow, hfill]
  unfold Oper.wp
  have : (execOp a.eval ⟨dst, .buildSlice t n parts, ty, pos, after, g⟩).run P w' = .ok (.value (.slice (some ⟨w'.heap.size, 0, none⟩) n n)) (w'.alloc (.cells vs.toArray e)) := by
    simp only [execOp]
    rw [Sem.run_bind, hrun]; rfl
  rw [this]
  refine hk _ _ _ ⟨?_, hs.ext.trans (ext_grown (World.grownBy_alloc w' _ none))⟩ (Same.refl _)
  have := World.ownsRow_lit (base := base) (e := e) (size := 1) w' vs.toArray n (by rw [hs.heap]; exact hbase) (by unfold maxLen; omega) (by simp [hn])
  unfold Ow
  rw [← hn]
  simpa using this
theorem Ye.lit1 {α} {f : α → Value} {u : α} {ty t e x z by' base} (hu : P.underlying t = some (.slice e)) (hz : TI P e z 1 by') (hz1 : z.cells = #[z]) (hx : ev σ x = some (f u)) (hc : ∀ u, (f u).cells = #[f u]) (hbase : base ≤ w.heap.size) :
    Ye P σ (.buildSlice t 1 #[(0, x)]) ty w fun v w1 => Ow base e w1 v ([u].map f) ∧ Ext w w1 :=
  Ye.lit hu hz hz1 (vs := [f u]) (by simp [evs, hx]) rfl rfl (by simpa using hc u) rfl hbase
theorem Ye.lit2 {α} {f : α → Value} {u v : α} {ty t e x y z by' base} (hu : P.underlying t = some (.slice e)) (hz : TI P e z 1 by') (hz1 : z.cells = #[z]) (hx : ev σ x = some (f u)) (hy : ev σ y = some (f v)) (hc : ∀ u, (f u).cells = #[f u]) (hbase : base ≤ w.heap.size) :
    Ye P σ (.buildSlice t 2 #[(0, x), (1, y)]) ty w fun s w1 => Ow base e w1 s ([u, v].map f) ∧ Ext w w1 :=
  Ye.lit hu hz hz1 (vs := [f u, f v]) (by simp [evs, hx, hy]) rfl rfl (by simp [hc]) rfl hbase
theorem Ye.lit0 {α} {f : α → Value} {ty t e z by' base} (hu : P.underlying t = some (.slice e)) (hz : TI P e z 1 by') (hz1 : z.cells = #[z]) (hbase : base ≤ w.heap.size) :
    Ye P σ (.buildSlice t 0 #[]) ty w fun s w1 => Ow base e w1 s (([] : List α).map f) ∧ Ext w w1 :=
  Ye.lit hu hz hz1 (vs := []) rfl rfl rfl (by simp) rfl hbase
/-- A row of noughts appended to nil. -/
theorem Ye.appendZ {ty t t' e x y z by' base k n} (hu : P.underlying t = some (.slice e)) (hu' : P.underlying t' = some (.int k)) (hz : TI P e z 1 by') (hz1 : z.cells = #[z]) (hby : Nat.blt 0 by' = true) (hx : ev σ x = some nilS) (hy : ev σ y = some (I n)) (hn : 0 ≤ n) (hb : n * by' ≤ 140737488355328) (hbase : base ≤ w.heap.size) :
    Ye P σ (.call ⟨.builtin .append, #[x, y], #[t, t']⟩) ty w fun v w1 => Ow base e w1 v (List.replicate n.toNat z) ∧ Ext w w1 :=
  ye_bi (vs := [nilS, I n]) (Builtin.append_ #[t, t'] ty) (by simp [evs, hx, hy]) (fun _ _ => rfl) fun w' hs => by
    obtain ⟨j, hj, hj0, hj1, hj2⟩ := hz.out
    have hby' : 0 < by' := by simpa [Nat.blt_eq] using hby
    obtain ⟨m, rfl⟩ := Int.eq_ofNat_of_zero_le hn
    have hb' : m * by' ≤ 140737488355328 := by
      have h5 : ((m * by' : Nat) : Int) ≤ 140737488355328 := by rw [Int.natCast_mul]; exact hb
      omega
    have hle : m ≤ m * by' := Nat.le_mul_of_pos_right _ hby'
    have hw : IntKind.i64.wrap (m : Int) = m := wrap64_id (by omega) (by omega)
    have hw0 : IntKind.i64.wrap 0 = 0 := by decide
    by_cases h0 : m = 0
    · subst h0
      refine ⟨nilS, w', w', ?_, Same.refl _, Ow.nil _ _ _, hs.ext⟩
      simp [nilS, Builtin.append_, run_underlying hu, run_underlying hu', sizeOf, typeInfo, hj, hj1, asInt, asIntOf, hw0]
    · have e1 : ¬ ((m : Int) < 0) := by omega
      have e2 : ¬ ((281474976710656 : Int) < (m : Int) * (by' : Int)) := by
        have h5 : ((m * by' : Nat) : Int) ≤ 140737488355328 := by omega
        rw [Int.natCast_mul] at h5; omega
      have e3 : ¬ (9223372036854775807 < (m : Int)) := by omega
      have e4 : ¬ (281474976710656 < Builtin.nextslicecap m 0 * by') := by rw [nextslicecap_zero (by omega)]; omega
      refine ⟨.slice (some ⟨w'.heap.size, 0, none⟩) m (grownCap w' m 0 e), w'.drew.alloc (.cells (Builtin.zeroCells #[z] m ++ Builtin.zeroCells #[z] (grownCap w' m 0 e - m)) e), _, ?_, Same.refl _, ?_, ?_⟩
      · simp [nilS, Builtin.append_, run_underlying hu, run_underlying hu', sizeOf, typeInfo, zeroValue, hj, hj0, hj1, hj2, hz1, asInt, asIntOf, hw, e1, e2, e3, e4, h0, Question.forced, Builtin.firstCells, newRow, grownCap]
      · have hz0 : ∀ q, Builtin.zeroCells #[z] q = (List.replicate q z).toArray := fun q => by
          apply Array.toList_inj.1
          have := toList_madeCells_one z q
          simpa [madeCells, Builtin.zeroCells] using this
        have hge := grownCap_ge w' m 0 e
        have hcm : grownCap w' m 0 e ≤ maxLen := grownCap_le_maxLen w' m 0 e (by unfold maxLen; omega)
        refine ⟨by simp, .inr ⟨w'.heap.size, grownCap w' m 0 e, _, by simp, by rw [hs.heap]; exact hbase, heap_alloc_new w'.drew _, by simp; exact hge, hcm, ?_, ?_⟩⟩
        · simp [hz0]; omega
        · simp [hz0]
      · exact hs.ext.trans ((Same.drew w').ext.trans (ext_grown (World.grownBy_alloc w'.drew _ none)))
theorem Yd.cap_nil {ty x t e} (hu : P.underlying t = some (.slice e)) (hx : ev σ x = some nilS) : Yd P σ (.call ⟨.builtin .cap, #[x], #[t]⟩) ty (I 0) w :=
  yd_bi (vs := [nilS]) (Builtin.cap_ #[t] ty) (by simp [evs, hx]) (fun _ _ => rfl) fun w' _ => by
    simp [nilS, Builtin.cap_, run_underlying hu, goInt]
theorem Yd.len_nil {ty x t e} (hu : P.underlying t = some (.slice e)) (hx : ev σ x = some nilS) : Yd P σ (.call ⟨.builtin .len, #[x], #[t]⟩) ty (I 0) w := Yd.len hu hx (Rd.nil w)
/-- The first k of a row of the call's own. -/
theorem Ow.slc0 {base E s xs} (h : Ow base E w s xs) (k : Nat) (hk : k ≤ xs.length) : Ow base E w (slc s 0 k) (xs.take k) := by
  obtain ⟨h1, h2⟩ := h
  rcases h2 with ⟨rfl, h2⟩ | ⟨g, cap, cur, rfl, hb, hg, hn, hm, hc, ht⟩
  · have : xs = [] := List.eq_nil_of_length_eq_zero h2
    subst this
    have : k = 0 := by simpa using hk
    subst this
    exact Ow.nil _ _ _
  · have hv : slc (.slice (some ⟨g, 0, none⟩) xs.length cap) 0 k = .slice (some ⟨g, 0, none⟩) k cap := by
      show sliced _ 0 k cap 1 = _
      rw [sliced_eq]
      simp [Addr.add]
    rw [hv]
    have hlen : (xs.take k).length = k := by simp; omega
    refine ⟨by simp, .inr ⟨g, cap, cur, by rw [hlen], hb, hg, by rw [hlen]; omega, hm, hc, ?_⟩⟩
    rw [hlen, Nat.mul_one, ← ht, List.take_take, Nat.mul_one, Nat.min_eq_left hk]
/-- Is it nil? -/
def isNilS : Value → Bool
  | .slice none _ _ => true
  | _ => false
theorem run_eqNil {t e : TypeId} (hu : P.underlying t = some (.slice e)) (a : Option Addr) (n c : Nat) (w' : World) : (binOp .eql t (.slice a n c) (.slice none 0 0)).run P w' = .ok (.bool a.isNone) w' := by
  have h : ∀ d : Nat, (Op.equalIn (d + 1) t (.slice a n c) (.slice none 0 0)).run P w' = .ok a.isNone w' := fun d => by
    cases a <;> simp [Op.equalIn, run_underlying hu]
  simp only [binOp]
  simp [Op.equal, Op.maxDepth, h 9999]
theorem Yd.eqNil {ty t t' e x y s xs} (hu : P.underlying t = some (.slice e)) (hx : ev σ x = some s) (hy : ev σ y = some nilS) (h : Rd w s xs) : Yd P σ (.binOp .eql t x y t') ty (.bool (isNilS s)) w := by
  obtain ⟨p, c, rfl, _⟩ := h
  have := yd_bin (P := P) (ty := ty) (t' := t') (op := .eql) (t := t) (w := w) hx hy rfl (fun w' => run_eqNil hu p xs.length c w')
  cases p <;> exact this
theorem isNilS_nil {s : Value} {xs : List Value} (h : Rd w s xs) (hn : isNilS s = true) : xs = [] := by
  obtain ⟨p, c, rfl, h1, h2, _⟩ := h
  cases p with
  | none => have := h2 rfl; exact List.eq_nil_of_length_eq_zero (by omega)
  | some a => cases hn
end
end Go.X
namespace Go.X
theorem GB.refl (w : World) (r : Option Nat) : w.grownBy w r := ⟨rfl, rfl, rfl, Nat.le_refl _, fun _ _ _ => rfl⟩
theorem GB.trans {a b c : World} {r : Option Nat} (h : a.grownBy b r) (k : b.grownBy c r) : a.grownBy c r :=
  ⟨k.os.trans h.os, k.tape.trans h.tape, k.output.trans h.output, Nat.le_trans h.size k.size, fun i hi hne => (k.block i (Nat.lt_of_lt_of_le hi h.size) hne).trans (h.block i hi hne)⟩
theorem someI {a b : Int} (h : a = b) : some (I a) = some (I b) := by rw [h]
end Go.X
namespace Go.X
section
variable {P : Program} {N : Nat} {ds : List Deferred} {σ : Env} {w : World}
theorem Rl.one {w : World} {s v : Value} {l : List UInt8} (h : Rd w s [v]) (h1 : Bs w v l) : Rl w s [v] [l] :=
  ⟨h, rfl, fun i hi => by have : i = 0 := by simpa using hi
                          subst this; exact h1⟩
theorem Rl.two {w : World} {s v1 v2 : Value} {l1 l2 : List UInt8} (h : Rd w s [v1, v2]) (h1 : Bs w v1 l1) (h2 : Bs w v2 l2) : Rl w s [v1, v2] [l1, l2] :=
  ⟨h, rfl, fun i hi => by
    have hi' : i < 2 := hi
    rcases (by omega : i = 0 ∨ i = 1) with rfl | rfl
    · exact h1
    · exact h2⟩
theorem Ye.litS1 {ty t e x z by' v l} (hu : P.underlying t = some (.slice e)) (hz : TI P e z 1 by') (hz1 : z.cells = #[z]) (hx : ev σ x = some v) (h1 : Bs w v l) :
    Ye P σ (.buildSlice t 1 #[(0, x)]) ty w fun s w1 => Rl w1 s [v] [l] ∧ Ext w w1 :=
  (Ye.lit (base := w.heap.size) hu hz hz1 (vs := [v]) (by simp [evs, hx]) rfl rfl (by simpa using Rd.cells h1) rfl (Nat.le_refl _)).mono fun s w1 ⟨ho, he⟩ => ⟨Rl.one ho.rd (h1.ext he), he⟩
theorem Ye.litS2 {ty t e x y z by' v1 v2 l1 l2} (hu : P.underlying t = some (.slice e)) (hz : TI P e z 1 by') (hz1 : z.cells = #[z]) (hx : ev σ x = some v1) (hy : ev σ y = some v2) (h1 : Bs w v1 l1) (h2 : Bs w v2 l2) :
    Ye P σ (.buildSlice t 2 #[(0, x), (1, y)]) ty w fun s w1 => Rl w1 s [v1, v2] [l1, l2] ∧ Ext w w1 :=
  (Ye.lit (base := w.heap.size) hu hz hz1 (vs := [v1, v2]) (by simp [evs, hx, hy]) rfl rfl (by simpa using ⟨Rd.cells h1, Rd.cells h2⟩) rfl (Nat.le_refl _)).mono fun s w1 ⟨ho, he⟩ => ⟨Rl.two ho.rd (h1.ext he) (h2.ext he), he⟩
end
end Go.X
