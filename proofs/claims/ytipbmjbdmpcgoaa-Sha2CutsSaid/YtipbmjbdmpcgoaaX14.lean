/-
  What stays apart, told of footprints: blocks and the blocks of slices. A row that grows stays where it is or goes to a new block.
-/
import Derived.Test.YtipbmjbdmpcgoaaX13
import Derived.Lib.ConvBytes
set_option linter.unusedVariables false
set_option linter.unusedSimpArgs false
namespace Go.X
open Go.RowKit
/-- Two footprints have no block in common. -/
def Ap (a b : Option Nat) : Prop := ∀ k, a = some k → b = some k → False
/-- It is there. -/
def Live (w : World) (a : Option Nat) : Prop := ∀ k, a = some k → k < w.heap.size
/-- It came behind n blocks. -/
def Fr (n : Nat) (a : Option Nat) : Prop := ∀ k, a = some k → n ≤ k
/-- The same, or new. -/
def SF (w : World) (a b : Option Nat) : Prop := ∀ k, b = some k → a = some k ∨ w.heap.size ≤ k
theorem Ap.symm {a b : Option Nat} (h : Ap a b) : Ap b a := fun k h1 h2 => h k h2 h1
theorem Ap.none_l {b : Option Nat} : Ap none b := fun k h => by cases h
theorem Ap.none_r {b : Option Nat} : Ap b none := fun k _ h => by cases h
theorem Ap.nil_l {b : Option Nat} : Ap nilS.ownBlock b := fun k h => by cases h
theorem Ap.nil_r {b : Option Nat} : Ap b nilS.ownBlock := fun k _ h => by cases h
theorem Ap.mk {w : World} {a b : Option Nat} (h : Live w a) (h' : Fr w.heap.size b) : Ap a b := fun k h1 h2 => by have := h k h1; have := h' k h2; omega
theorem Ap.sf {w : World} {x a b : Option Nat} (h : Ap x a) (hl : Live w x) (hs : SF w a b) : Ap x b := fun k h1 h2 => by
  rcases hs k h2 with h3 | h3
  · exact h k h1 h3
  · have := hl k h1; omega
theorem Ap.ne {s : Option Nat} {b : Nat} (h : Ap s (some b)) : s ≠ some b := fun e => h b e rfl
theorem Ap.blk {s : Option Nat} {b : Nat} (h : s ≠ some b) : Ap s (some b) := fun k h1 h2 => h (by rw [h1, h2])
theorem Ap.slc {s : Value} {l h : Nat} {b : Option Nat} (hp : Ap s.ownBlock b) : Ap (Go.X.slc s l h).ownBlock b := by rw [slc_own]; exact hp
theorem Fr.sf {w : World} {n : Nat} {a b : Option Nat} (h : Fr n a) (hs : SF w a b) (hn : n ≤ w.heap.size) : Fr n b := fun k h1 => by
  rcases hs k h1 with h3 | h3
  · exact h k h3
  · omega
theorem Fr.le {m n : Nat} {a : Option Nat} (h : Fr n a) (hn : m ≤ n) : Fr m a := fun k h1 => Nat.le_trans hn (h k h1)
theorem Fr.blk {n b : Nat} (h : n ≤ b) : Fr n (some b) := fun k h1 => by cases h1; exact h
theorem Fr.nil {n : Nat} : Fr n nilS.ownBlock := fun k h => by cases h
theorem Cel.live {w b T S} (h : Cel w b T S) : Live w (some b) := fun k h1 => by cases h1; exact h.lt
theorem Ow.live {base E w s xs} (h : Ow base E w s xs) : Live w s.ownBlock := fun k h1 => (h.lt k h1).2
theorem Ow.fr {base E w s xs} (h : Ow base E w s xs) : Fr base s.ownBlock := fun k h1 => (h.lt k h1).1
theorem Ow.frl {base E w s xs n} (h : Ow base E w s xs) (hn : n ≤ base) : Fr n s.ownBlock := fun k h1 => Nat.le_trans hn (h.lt k h1).1
theorem Live.ext {w w' : World} {a : Option Nat} (h : Live w a) (he : w.heap.size ≤ w'.heap.size) : Live w' a := fun k h1 => Nat.lt_of_lt_of_le (h k h1) he
theorem Upd.gb {b : Nat} {w w' : World} (h : Upd b w w') : w.grownBy w' (some b) := ⟨h.os, h.tape, h.output, by rw [h.size]; exact Nat.le_refl _, fun k _ hk => h.block k (fun e => hk (by rw [e]))⟩
theorem Ext.gb0 {w w' : World} (h : Ext w w') (r : Option Nat) : w.grownBy w' r := ⟨h.os, h.tape, h.output, h.size, fun k hk _ => h.block k hk⟩
theorem Cel.gbk {w w' b T S r} (h : Cel w b T S) (hg : w.grownBy w' r) (ha : Ap (some b) r) : Cel w' b T S := Cel.grown h hg (fun e => ha b rfl e)
theorem Ow.gbk {base E w w' s xs r} (h : Ow base E w s xs) (hg : w.grownBy w' r) (ha : Ap s.ownBlock r) : Ow base E w' s xs :=
  World.ownsRow.kept h hg (by
    cases hv : s.ownBlock with
    | none => simp
    | some k => right; intro e; exact ha k hv e.symm)
theorem Rd.gbk {w w' : World} {s : Value} {xs : List Value} {r : Option Nat} (h : Rd w s xs) (hg : w.grownBy w' r) (ha : Ap s.ownBlock r) : Rd w' s xs := by
  obtain ⟨p, c, h1, h2, h3, h4⟩ := h
  refine ⟨p, c, h1, h2, h3, fun i v hv => ?_⟩
  obtain ⟨b, o, hp, hc⟩ := h4 i v hv
  refine ⟨b, o, hp, ?_⟩
  have hb : some b ≠ r := by
    intro e; subst hp; subst h1; exact ha b rfl e.symm
  have hlt : b < w.heap.size := by
    rcases Nat.lt_or_ge b w.heap.size with h' | h'
    · exact h'
    · simp [World.cell?, Array.getElem?_eq_none h'] at hc
  unfold World.cell? at *
  simp only at *
  rw [hg.block b hlt hb]; exact hc
theorem Ext.gbk {W w w' : World} {r : Option Nat} (h : Ext W w) (hf : Fr W.heap.size r) (hg : w.grownBy w' r) : Ext W w' :=
  ⟨hg.os.trans h.os, hg.tape.trans h.tape, hg.output.trans h.output, Nat.le_trans h.size hg.size, fun k hk => (hg.block k (Nat.lt_of_lt_of_le hk h.size) (fun e => by
    have := hf k e.symm
    omega)).trans (h.block k hk)⟩
theorem GB.gbk {W w w' : World} {q r : Option Nat} (h : W.grownBy w q) (hf : Fr W.heap.size r) (hg : w.grownBy w' r) : W.grownBy w' q :=
  ⟨hg.os.trans h.os, hg.tape.trans h.tape, hg.output.trans h.output, Nat.le_trans h.size hg.size, fun k hk hr => (hg.block k (Nat.lt_of_lt_of_le hk h.size) (fun e => by
    have := hf k e.symm
    omega)).trans (h.block k hk hr)⟩
/-! ### Several blocks that may turn -/
structure Tn (rs : List (Option Nat)) (w w' : World) : Prop where
  os : w'.os = w.os
  tape : w'.tape = w.tape
  output : w'.output = w.output
  size : w.heap.size ≤ w'.heap.size
  block : ∀ k, k < w.heap.size → (∀ r ∈ rs, r ≠ some k) → w'.heap[k]? = w.heap[k]?
theorem Tn.refl (rs : List (Option Nat)) (w : World) : Tn rs w w := ⟨rfl, rfl, rfl, Nat.le_refl _, fun _ _ _ => rfl⟩
theorem Tn.trans {rs : List (Option Nat)} {a b c : World} (h : Tn rs a b) (k : Tn rs b c) : Tn rs a c :=
  ⟨k.os.trans h.os, k.tape.trans h.tape, k.output.trans h.output, Nat.le_trans h.size k.size, fun i hi hr => (k.block i (Nat.lt_of_lt_of_le hi h.size) hr).trans (h.block i hi hr)⟩
theorem Ext.tn {w w' : World} (h : Ext w w') (rs : List (Option Nat)) : Tn rs w w' := ⟨h.os, h.tape, h.output, h.size, fun k hk _ => h.block k hk⟩
theorem Tn.ext {rs : List (Option Nat)} {a b c : World} (h : Tn rs a b) (k : Ext b c) : Tn rs a c := h.trans (k.tn rs)
theorem Tn.ofGB {w w' : World} {r : Option Nat} (h : w.grownBy w' r) : Tn [r] w w' := ⟨h.os, h.tape, h.output, h.size, fun k hk hr => h.block k hk (fun e => hr r (by simp) e.symm)⟩
theorem Tn.gb {w w' : World} {r : Option Nat} (h : Tn [r] w w') : w.grownBy w' r := ⟨h.os, h.tape, h.output, h.size, fun k hk hr => h.block k hk (fun q hq => by simp at hq; subst hq; exact fun e => hr e.symm)⟩
theorem Tn.nil {w w' : World} (h : Tn [] w w') : Ext w w' := ⟨h.os, h.tape, h.output, h.size, fun k hk => h.block k hk (by simp)⟩
theorem Tn.mono {rs rs' : List (Option Nat)} {w w' : World} (h : Tn rs w w') (hs : ∀ r ∈ rs, r ∈ rs') : Tn rs' w w' := ⟨h.os, h.tape, h.output, h.size, fun k hk hr => h.block k hk (fun r h1 => hr r (hs r h1))⟩
/-- What turned is of those, or came behind. -/
theorem Tn.gbk {rs : List (Option Nat)} {W w w' : World} {r : Option Nat} (h : Tn rs W w) (hf : r ∈ rs ∨ Fr W.heap.size r) (hg : w.grownBy w' r) : Tn rs W w' :=
  ⟨hg.os.trans h.os, hg.tape.trans h.tape, hg.output.trans h.output, Nat.le_trans h.size hg.size, fun k hk hr => (hg.block k (Nat.lt_of_lt_of_le hk h.size) (fun e => by
    rcases hf with hf | hf
    · exact hr r hf e.symm
    · have := hf k e.symm
      omega)).trans (h.block k hk hr)⟩
theorem Tn.tnk {rs qs : List (Option Nat)} {W w w' : World} (h : Tn rs W w) (hf : ∀ q ∈ qs, q ∈ rs ∨ Fr W.heap.size q) (hg : Tn qs w w') : Tn rs W w' :=
  ⟨hg.os.trans h.os, hg.tape.trans h.tape, hg.output.trans h.output, Nat.le_trans h.size hg.size, fun k hk hr => (hg.block k (Nat.lt_of_lt_of_le hk h.size) (fun q hq e => by
    rcases hf q hq with hf | hf
    · exact hr q hf e
    · have := hf k e
      omega)).trans (h.block k hk hr)⟩
theorem Ext.tnk {qs : List (Option Nat)} {W w w' : World} (h : Ext W w) (hf : ∀ q ∈ qs, Fr W.heap.size q) (hg : Tn qs w w') : Ext W w' := ((h.tn []).tnk (fun q hq => .inr (hf q hq)) hg).nil
def ApL (a : Option Nat) (rs : List (Option Nat)) : Prop := ∀ r ∈ rs, Ap a r
theorem Cel.tnk {w w' b T S rs} (h : Cel w b T S) (hg : Tn rs w w') (ha : ApL (some b) rs) : Cel w' b T S :=
  let ⟨L, h1, h2⟩ := h
  ⟨L, by unfold Own at *; rw [hg.block b (Cel.lt ⟨L, h1, h2⟩) (fun r hr e => ha r hr b rfl e)]; exact h1, h2⟩
theorem tn_kept {rs : List (Option Nat)} {w w' : World} {s : Option Nat} (hg : Tn rs w w') (hl : Live w s) (ha : ApL s rs) : ∃ w2 : World, w.grownBy w2 none ∧ (∀ k, s = some k → w2.heap[k]? = w'.heap[k]?) := by
  refine ⟨w, ⟨rfl, rfl, rfl, Nat.le_refl _, fun _ _ _ => rfl⟩, fun k hk => ?_⟩
  exact (hg.block k (hl k hk) (fun r hr e => ha r hr k hk e)).symm
theorem Ow.tnk {base E w w' s xs rs} (h : Ow base E w s xs) (hg : Tn rs w w') (ha : ApL s.ownBlock rs) : Ow base E w' s xs := by
  refine ⟨h.1, ?_⟩
  rcases h.2 with hn | ⟨g, cap, cur, rfl, hb, hgg, rest⟩
  · exact .inl hn
  · refine .inr ⟨g, cap, cur, rfl, hb, ?_, rest⟩
    rw [hg.block g (Array.getElem?_eq_some_iff.1 hgg).1 (fun r hr e => ha r hr g rfl e)]
    exact hgg
theorem Rd.tnk {w w' : World} {s : Value} {xs : List Value} {rs : List (Option Nat)} (h : Rd w s xs) (hg : Tn rs w w') (ha : ApL s.ownBlock rs) : Rd w' s xs := by
  obtain ⟨p, c, h1, h2, h3, h4⟩ := h
  refine ⟨p, c, h1, h2, h3, fun i v hv => ?_⟩
  obtain ⟨b, o, hp, hc⟩ := h4 i v hv
  refine ⟨b, o, hp, ?_⟩
  have hlt : b < w.heap.size := by
    rcases Nat.lt_or_ge b w.heap.size with h' | h'
    · exact h'
    · simp [World.cell?, Array.getElem?_eq_none h'] at hc
  unfold World.cell? at *
  simp only at *
  rw [hg.block b hlt (fun r hr e => ha r hr b (by subst hp; subst h1; rfl) e)]; exact hc
theorem ApL.one {a r : Option Nat} (h : Ap a r) : ApL a [r] := fun q hq => by simp at hq; subst hq; exact h
theorem ApL.two {a r q : Option Nat} (h : Ap a r) (h' : Ap a q) : ApL a [r, q] := fun x hx => by
  simp at hx; rcases hx with rfl | rfl
  · exact h
  · exact h'
/-- Read, and there. -/
structure Rv (w : World) (s : Value) (xs : List Value) : Prop where
  rd : Rd w s xs
  live : Live w s.ownBlock
theorem Rv.ext {w w' s xs} (h : Rv w s xs) (he : Ext w w') : Rv w' s xs := ⟨h.rd.ext he, h.live.ext he.size⟩
theorem Rv.gbk {w w' s xs r} (h : Rv w s xs) (hg : w.grownBy w' r) (ha : Ap s.ownBlock r) : Rv w' s xs := ⟨h.rd.gbk hg ha, h.live.ext hg.size⟩
theorem Rv.tnk {w w' s xs rs} (h : Rv w s xs) (hg : Tn rs w w') (ha : ApL s.ownBlock rs) : Rv w' s xs := ⟨h.rd.tnk hg ha, h.live.ext hg.size⟩
theorem Ow.rv {base E w s xs} (h : Ow base E w s xs) : Rv w s xs := ⟨h.rd, h.live⟩
section
variable {P : Program} {N : Nat} {ds : List Deferred} {σ : Env} {w : World}
theorem own_det {base E sz w s n xs} (h : World.ownsRow w base E sz s n xs) : s = .slice none 0 0 ∨ ∃ g cap, s = .slice (some ⟨g, 0, none⟩) n cap ∧ ∃ cur, w.heap[g]? = some (.cells cur E (0, 0)) ∧ n ≤ cap ∧ cur.size = cap * sz := by
  rcases h.2 with ⟨h1, _⟩ | ⟨g, cap, cur, h1, h2, h3, h4, h5, h6, h7⟩
  · exact .inl h1
  · exact .inr ⟨g, cap, h1, cur, h3, h4, h6⟩
/-- Where a row that grows goes. -/
theorem append_sf {t ty e : TypeId} {i : TypeInfo} {z s : Value} {base n bytes : Nat} {w : World} {xs : List Value} (ht : P.underlying t = some (.slice e)) (hi : P.info? e = some i) (hz : i.zero = some z) (hi1 : i.size = 1) (hby : i.bytes = bytes)
    (hown : w.ownsRow base e 1 s n xs) (a : Addr) (m c : Nat) (news : List Value) (hl : news.length = m) (hnews : ∀ j u, news[j]? = some u → w.cell? (a.add j) = some u) (h1 : ∀ u ∈ news, u.oneCell' = true)
    (h63 : n + m ≤ maxLen) (hbytes : (n + m) * bytes ≤ 140737488355328) {v' : Value} {w' : World}
    (hr : (Builtin.append_ #[t, t] ty #[s, .slice (some a) m c]).run P w = .ok v' w') : SF w s.ownBlock v'.ownBlock := by
  have hsmall : n + m ≤ 9223372036854775807 := by simp only [maxLen] at h63; omega
  intro k hk
  rcases hown.2 with ⟨rfl, rfl⟩ | ⟨g, cap, cur, rfl, hbg, hg, hnc, hcm, hcs, htake⟩
  · by_cases hm : m = 0
    · subst hm
      have hn : news = [] := List.eq_nil_of_length_eq_zero hl
      subst hn
      have h2 : (Builtin.append_ #[t, t] ty #[.slice none 0 0, .slice (some a) 0 c]).run P w = .ok (.slice none 0 0) w := by
        simp [Builtin.append_, run_underlying ht, sizeOf, typeInfo, hi, Builtin.lenOf, Builtin.firstCells, loadCells, loadCellsFrom]
      rw [h2] at hr
      injection hr with h3 h4
      subst h3; cases hk
    · have h2 := run_append_nil (P := P) w t ty e i z ht hi hz a m c news (by rw [hl, hi1, Nat.mul_one]) hnews (by omega) (by omega) (by rw [hby]; have hb := hbytes; simp only [Nat.zero_add] at hb; omega)
      rw [h2] at hr
      injection hr with h3 h4
      subst h3
      simp [Value.ownBlock] at hk
      subst hk; exact .inr (Nat.le_refl _)
  · by_cases hroom : n + m ≤ cap
    · have h2 := run_append_room (P := P) w t ty e i ht hi g n cap cur hg a m c news (by rw [hl, hi1, Nat.mul_one]) hnews h1 hroom (by rw [hi1, hcs]; omega)
      rw [h2] at hr
      injection hr with h3 h4
      subst h3
      exact .inl (by simpa [Value.ownBlock] using hk)
    · have holds : ∀ j u, xs[j]? = some u → w.cell? ((⟨g, 0, none⟩ : Addr).add j) = some u := hown.cells (g := g) rfl
      have h2 := run_append_grow (P := P) w t ty e i z ht hi hz ⟨g, 0, none⟩ n cap xs (by rw [hown.1, hi1]) holds a m c news (by rw [hl, hi1, Nat.mul_one]) hnews (by omega) (by omega) (growslice_fits (by omega) (by rw [hby]; exact hbytes))
      rw [h2] at hr
      injection hr with h3 h4
      subst h3
      simp [Value.ownBlock] at hk
      subst hk; exact .inr (Nat.le_refl _)
theorem Ye.appendS {α : Type} {f : α → Value} {l m : List α} {ty t e x y s r z by' base} (hu : P.underlying t = some (.slice e)) (hz : TI P e z 1 by') (hz1 : z.cells.size = 1) (hby : Nat.blt 0 by' = true) (hx : ev σ x = some s) (hy : ev σ y = some r)
    (ho : Ow base e w s (l.map f)) (hr : Rd w r (m.map f)) (h1 : ∀ u, (f u).oneCell' = true) (hb : (l.length + m.length) * by' ≤ 140737488355328) (hbase : base ≤ w.heap.size) :
    Ye P σ (.call ⟨.builtin .append, #[x, y], #[t, t]⟩) ty w fun v w1 => Ow base e w1 v ((l ++ m).map f) ∧ w.grownBy w1 s.ownBlock ∧ SF w s.ownBlock v.ownBlock := by
  have hby' : 0 < by' := by simpa [Nat.blt_eq] using hby
  have hle : l.length + m.length ≤ (l.length + m.length) * by' := Nat.le_mul_of_pos_right _ hby'
  refine ye_bi (vs := [s, r]) (Builtin.append_ #[t, t] ty) (by simp [evs, hx, hy]) (fun _ _ => rfl) fun w' hs => ?_
  obtain ⟨j, hj, hj0, hj1, hj2⟩ := hz.out
  have ho' : w'.ownsRow base e 1 s (l.map f).length (l.map f) := Ow.ext ho hs.ext
  obtain ⟨p, c, rfl, h2, h3, h4⟩ := Rd.ext hr hs.ext
  have hgs : w.grownBy w' none := grown_ext hs.ext
  cases p with
  | none =>
    have hm0 : m = [] := by
      cases m with
      | nil => rfl
      | cons x l => obtain ⟨b, o, hp, _⟩ := h4 0 (f x) (by simp); cases hp
    subst hm0
    have hc := h3 rfl
    subst hc
    have hrun := run_append_owned_none (P := P) w' base t ty e j 1 hu hj s (l.map f).length (l.map f) ho'
    refine ⟨s, w', w', hrun, Same.refl _, ?_, ⟨hgs.os, hgs.tape, hgs.output, hgs.size, fun k hk _ => hgs.block k hk (by simp)⟩, fun k hk => .inl hk⟩
    rw [List.append_nil]; exact ho'
  | some ad =>
    have hone : ∀ v ∈ m.map f, v.oneCell' = true := fun v hv => by obtain ⟨u, _, rfl⟩ := List.mem_map.1 hv; exact h1 u
    have hnews : ∀ k u, (m.map f)[k]? = some u → w'.cell? (ad.add k) = some u := fun k u hku => by obtain ⟨b, o, hp, hc⟩ := h4 k u hku; cases hp; rw [add_at]; exact hc
    have h63 : (l.map f).length + (m.map f).length ≤ maxLen := by simp only [List.length_map]; unfold maxLen; omega
    have hbb : ((l.map f).length + (m.map f).length) * by' ≤ 140737488355328 := by simpa using hb
    obtain ⟨v', w2, hrun, h5, h6, _⟩ := run_append_own (P := P) w' base t ty e j z 1 by' hu hj hj0 hj1 hj2 hz1 (by omega) s (l.map f).length (l.map f) ho' ad (m.map f).length c (m.map f) (by simp)
      hnews hone h63 hbb (by rw [hs.heap]; exact hbase)
    have hsf := append_sf (P := P) hu hj hj0 hj1 hj2 ho' ad (m.map f).length c (m.map f) rfl hnews hone h63 hbb hrun
    refine ⟨v', w2, w2, hrun, Same.refl _, ?_, ⟨h6.os.trans hs.os, h6.tape.trans hs.tape, h6.output.trans hs.output, ?_, fun k hk hne => ?_⟩, ?_⟩
    · unfold Ow; rw [List.map_append, List.length_append]; exact h5
    · have := h6.size; rw [hs.heap] at this; exact this
    · rw [h6.block k (by rw [hs.heap]; exact hk) hne, hs.heap]
    · intro k hk; have := hsf k hk; rwa [hs.heap] at this
theorem Ye.appendZS {ty t t' e x y z by' base k n s xs} (hu : P.underlying t = some (.slice e)) (hu' : P.underlying t' = some (.int k)) (hz : TI P e z 1 by') (hz1 : z.cells = #[z]) (ho1 : z.oneCell' = true) (hby : Nat.blt 0 by' = true) (hx : ev σ x = some s) (hy : ev σ y = some (I n)) (ho : Ow base e w s xs) (hn : 0 ≤ n)
    (hb : ((xs.length : Int) + n) * by' ≤ 140737488355328) (hbase : base ≤ w.heap.size) :
    Ye P σ (.call ⟨.builtin .append, #[x, y], #[t, t']⟩) ty w fun v w1 => Ow base e w1 v (xs ++ List.replicate n.toNat z) ∧ w.grownBy w1 s.ownBlock ∧ SF w s.ownBlock v.ownBlock := by
  have hby' : 0 < by' := by simpa [Nat.blt_eq] using hby
  obtain ⟨m, rfl⟩ := Int.eq_ofNat_of_zero_le hn
  have hb' : (xs.length + m) * by' ≤ 140737488355328 := by
    have h5 : (((xs.length + m) * by' : Nat) : Int) ≤ 140737488355328 := by rw [Int.natCast_mul, Int.natCast_add]; exact hb
    omega
  have hle : xs.length + m ≤ (xs.length + m) * by' := Nat.le_mul_of_pos_right _ hby'
  by_cases hs0 : s = nilS
  · subst hs0
    have hx0 : xs = [] := by
      rcases ho.2 with ⟨_, h0⟩ | ⟨g, cap, cur, h, _⟩
      · exact List.eq_nil_of_length_eq_zero h0
      · cases h
    subst hx0
    refine (Ye.appendZ (P := P) (base := w.heap.size) hu hu' hz hz1 hby hx hy hn ?_ (Nat.le_refl _)).mono fun v w1 h => ⟨Ow.base h.1 hbase, grown_ext h.2, fun k hk => .inr (h.1.lt k hk).1⟩
    have h6 : m * by' ≤ 140737488355328 := by simpa using hb'
    have h7 : ((m * by' : Nat) : Int) ≤ 140737488355328 := by omega
    rw [Int.natCast_mul] at h7; exact h7
  refine ye_bi (vs := [s, I (m : Int)]) (Builtin.append_ #[t, t'] ty) (by simp [evs, hx, hy]) (fun _ _ => rfl) fun w' hs => ?_
  obtain ⟨j, hj, hj0, hj1, hj2⟩ := hz.out
  have ho' : Ow base e w' s xs := ho.ext hs.ext
  rcases id ho'.2 with ⟨rfl, h0⟩ | ⟨g, cap, cur, rfl, hbg, hg, hnc, hcm, hcs, htk⟩
  · exact absurd rfl hs0
  have hcs' : cur.size = cap := by simpa using hcs
  have htk' : cur.toList.take xs.length = xs := by simpa using htk
  have hw : IntKind.i64.wrap (m : Int) = m := wrap64_id (by omega) (by omega)
  have e1 : ¬ ((m : Int) < 0) := by omega
  have e2 : ¬ ((281474976710656 : Int) < (m : Int) * (by' : Int)) := by
    have h6 : m * by' ≤ (xs.length + m) * by' := Nat.mul_le_mul_right _ (by omega)
    have h7 : ((m * by' : Nat) : Int) ≤ 140737488355328 := by omega
    rw [Int.natCast_mul] at h7; omega
  by_cases hroom : xs.length + m ≤ cap
  · have hst := run_storeCells_at P g xs.length e (List.replicate m z) 0 cur w' hg (by simp; omega) (by intro v hv; rw [List.eq_of_mem_replicate hv]; exact ho1)
    simp only [Nat.add_zero, List.length_replicate] at hst
    refine ⟨.slice (some ⟨g, 0, none⟩) (xs.length + m) cap, w'.setRow g (cur.toList.take xs.length ++ List.replicate m z ++ cur.toList.drop (xs.length + m)).toArray, _, ?_, Same.refl _, ⟨by simp, .inr ⟨g, cap, _, by simp, hbg, setRow_heap w' g cur _ e _ hg, by simp; omega, hcm, ?_, ?_⟩⟩, ?_⟩
    · by_cases hm0 : m = 0
      · subst hm0
        have hw0 : IntKind.i64.wrap 0 = 0 := by decide
        have hst0 : (storeCells ⟨g, xs.length, none⟩ [] 0).run P w' = .ok () (w'.setRow g (cur.toList.take xs.length ++ cur.toList.drop xs.length).toArray) := by
          have h9 := hst
          simp only [List.replicate_zero, Nat.add_zero, List.append_nil] at h9
          exact h9
        simp [Builtin.append_, run_underlying hu, run_underlying hu', sizeOf, typeInfo, hj, hj0, hj1, hj2, hz1, asInt, asIntOf, hw0, hnc, add_at, -List.take_append_drop]
        rw [hst0]
        simp
      · simp [Builtin.append_, run_underlying hu, run_underlying hu', sizeOf, typeInfo, zeroValue, hj, hj0, hj1, hj2, hz1, asInt, asIntOf, hw, e1, e2, hroom, hm0, add_at, zeroCells_one]
        rw [hst]
        simp
    · simp; omega
    · show ((cur.toList.take xs.length ++ List.replicate m z ++ cur.toList.drop (xs.length + m) : List Value)).take ((xs ++ List.replicate m z).length * 1) = xs ++ List.replicate m z
      rw [htk', Nat.mul_one]
      exact List.take_left
    · exact ⟨⟨hs.os, hs.tape, hs.output, by simp [World.setRow, hs.heap], fun k _ hk => by rw [setRow_other w' g k _ (fun e => hk (by simp [Value.ownBlock, e])), hs.heap]⟩, fun k hk => .inl (by simpa [Value.ownBlock] using hk)⟩
  · have holds := ho'.rd
    have hold : (Builtin.firstCells j.size xs.length (.slice (some ⟨g, 0, none⟩) xs.length cap)).run P w'.drew = .ok xs.toArray w'.drew := by
      have hl := run_loadCells_list (P := P) w'.drew ⟨g, 0, none⟩ xs (fun i v hv => by
        obtain ⟨p, c, h1, _, _, h4⟩ := holds
        cases h1
        obtain ⟨b', o', hp, hc⟩ := h4 i v hv
        cases hp
        rw [add_at]; exact hc)
      simpa [Builtin.firstCells, hj1] using hl
    have hm0 : 0 < m := by omega
    have hfit := growslice_fits (old := cap) (by omega : cap < xs.length + m) (by rw [← hj2] at hb'; exact hb')
    have hr := Lib.run_append_grow_zeros (P := P) w' t t' ty e j z .i64 k hu hu' hj hj0 (some ⟨g, 0, none⟩) xs.length cap xs hold m hm0 (by omega) (by omega) (by omega) (by
      have h6 : m * j.bytes ≤ (xs.length + m) * j.bytes := Nat.mul_le_mul_right _ (by omega)
      rw [hj2] at h6 ⊢; omega) hfit
    refine ⟨_, _, _, hr, Same.refl _, ⟨by simp, .inr ⟨w'.heap.size, grownCap w' (xs.length + m) cap e, _, by simp, by rw [hs.heap]; exact hbase, heap_alloc_new w'.drew _, by simp; exact grownCap_ge w' _ cap e, grownCap_le_maxLen w' _ cap e (by unfold maxLen; omega), ?_, ?_⟩⟩, ?_⟩
    · have := grownCap_ge w' (xs.length + m) cap e
      rw [hz1]
      simp [zeroCells_one]; omega
    · rw [hz1]
      simp only [zeroCells_one, Int.toNat_natCast, List.append_toArray, Nat.mul_one]
      exact List.take_left
    · have h8 := World.grownBy_alloc w'.drew (.cells (xs.toArray ++ Builtin.zeroCells z.cells m ++ Builtin.zeroCells z.cells (grownCap w' (xs.length + m) cap e - (xs.length + m))) e) (some g)
      exact ⟨⟨h8.os.trans hs.os, h8.tape.trans hs.tape, h8.output.trans hs.output, by have := h8.size; rw [show w'.drew.heap = w'.heap from rfl, hs.heap] at this; exact this, fun k hk hne => by
        rw [h8.block k (by rw [show w'.drew.heap = w'.heap from rfl, hs.heap]; exact hk) hne, show w'.drew.heap = w'.heap from rfl, hs.heap]⟩, fun k hk => .inr (by rw [← hs.heap]; simp [Value.ownBlock] at hk; omega)⟩
/-- '[]byte(s)' -/
theorem Ye.strBytes {ty s d x e} {l : List UInt8} (hs : P.underlying s = some .string) (hd : P.underlying d = some (.slice e)) (he : P.underlying e = some (.int .u8)) (hx : ev σ x = some (Str l)) (hl : Nat.ble l.length 1000000 = true) :
    Ye P σ (.convert s d x) ty w fun v w1 => Rv w1 v (l.map fun x => B x) ∧ Fr w.heap.size v.ownBlock ∧ Ext w w1 := fun N ds a w' dst pos after g next Q hf hS hk => by
  have hl' : l.length ≤ 1000000 := Nat.le_of_ble_eq_true hl
  unfold Oper.wp
  have hr := Lib.run_convert_string_bytes (P := P) w' s d e ⟨l.toArray⟩ hs hd he
  have : (execOp a.eval ⟨dst, .convert s d x, ty, pos, after, g⟩).run P w' = .ok (.value (.slice (some ⟨w'.heap.size, 0, none⟩) (ByteArray.mk l.toArray).size (grownCap w' (ByteArray.mk l.toArray).size 0 e))) (Lib.bytesWorld w' e ⟨l.toArray⟩) := by
    simp only [execOp, hf.ev hx]
    rw [Sem.run_bind, hr]; rfl
  rw [this]
  have hsz : (ByteArray.mk l.toArray).size = l.length := by simp [ByteArray.size]
  have hext : Ext w' (Lib.bytesWorld w' e ⟨l.toArray⟩) := ⟨rfl, rfl, rfl, by rw [Lib.bytesWorld_size]; omega, fun k hk => Lib.bytesWorld_at_old w' e _ k hk⟩
  refine hk _ _ _ ⟨⟨?_, fun k hk => ?_⟩, fun k hk => ?_, hS.ext.trans hext⟩ (Same.refl _)
  · refine ⟨_, _, by rw [List.length_map, ← hsz], ⟨by rw [List.length_map, ← hsz]; exact grownCap_ge _ _ _ _, ?_⟩, fun h => (by cases h), fun i v hv => ⟨w'.heap.size, 0, rfl, ?_⟩⟩
    · have := grownCap_le_maxLen w' (ByteArray.mk l.toArray).size 0 e (by rw [hsz]; unfold maxLen; omega)
      unfold maxLen at this; exact this
    · have hi : i < l.length := by have := (List.getElem?_eq_some_iff.1 hv).1; simpa using this
      have := Lib.bytesWorld_cell w' e ⟨l.toArray⟩ i (by rw [hsz]; exact hi)
      rw [Nat.zero_add, this]
      rw [List.getElem?_map, List.getElem?_eq_getElem hi] at hv
      simp only [Option.map_some, Option.some.injEq] at hv
      rw [← hv]
      simp [List.getD_eq_getElem?_getD, List.getElem?_eq_getElem hi]
  · simp [Value.ownBlock] at hk; rw [Lib.bytesWorld_size]; omega
  · simp [Value.ownBlock] at hk; rw [← hS.heap]; omega
end
end Go.X
