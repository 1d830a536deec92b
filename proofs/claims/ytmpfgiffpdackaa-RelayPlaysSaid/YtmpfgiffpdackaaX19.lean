import Derived.Test.YtmpfgiffpdackaaXB
/-
  Rows of rows of one's own: each element is a row that nobody else holds.
-/
set_option linter.unusedVariables false
set_option linter.unusedSimpArgs false
namespace Go.X
open Go.RowKit
/-- Ahead of a number. -/
def Lo (n : Nat) (a : Option Nat) : Prop := ∀ k, a = some k → k < n
theorem Live.lo {w : World} {a : Option Nat} (h : Live w a) : Lo w.heap.size a := h
theorem Lo.le {m n : Nat} {a : Option Nat} (h : Lo m a) (hn : m ≤ n) : Lo n a := fun k h1 => Nat.lt_of_lt_of_le (h k h1) hn
theorem Lo.ap {n : Nat} {a b : Option Nat} (h : Lo n a) (hb : Fr n b) : Ap b a := fun k h1 h2 => by have := h k h2; have := hb k h1; omega
def LoL (n : Nat) (rs : List (Option Nat)) : Prop := ∀ r ∈ rs, Lo n r
theorem LoL.one {n : Nat} {r : Option Nat} (h : Lo n r) : LoL n [r] := fun q hq => by simp at hq; subst hq; exact h
theorem LoL.two {n : Nat} {r q : Option Nat} (h : Lo n r) (h' : Lo n q) : LoL n [r, q] := fun x hx => by
  simp at hx
  rcases hx with rfl | rfl
  · exact h
  · exact h'
theorem LoL.nil {n : Nat} : LoL n [] := fun _ h => by cases h
theorem LoL.apl {n : Nat} {rs : List (Option Nat)} {b : Option Nat} (h : LoL n rs) (hb : Fr n b) : ApL b rs := fun r hr => (h r hr).ap hb
/-- A row of rows of one's own. -/
structure Rw (base ES E : Nat) (w : World) (s : Value) (vs : List Value) (ll : List (List UInt8)) : Prop where
  row : Ow base ES w s vs
  len : vs.length = ll.length
  at_ : ∀ i, i < ll.length → Ow base E w (vs.getD i nilS) ((ll.getD i []).map fun x => B x) ∧ Ap (vs.getD i nilS).ownBlock s.ownBlock
theorem Rw.nil (base ES E : Nat) (w : World) : Rw base ES E w nilS [] [] := ⟨Ow.nil _ _ _, rfl, fun i h => absurd h (by simp)⟩
theorem Rw.ext {base ES E w w' s vs ll} (h : Rw base ES E w s vs ll) (he : Ext w w') : Rw base ES E w' s vs ll := ⟨h.row.ext he, h.len, fun i hi => ⟨(h.at_ i hi).1.ext he, (h.at_ i hi).2⟩⟩
theorem Rw.base {base base' ES E w s vs ll} (h : Rw base ES E w s vs ll) (hb : base' ≤ base) : Rw base' ES E w s vs ll := ⟨h.row.base hb, h.len, fun i hi => ⟨(h.at_ i hi).1.base hb, (h.at_ i hi).2⟩⟩
theorem Rw.rl {base ES E w s vs ll} (h : Rw base ES E w s vs ll) : Rl w s vs ll := ⟨h.row.rd, h.len, fun i hi => (h.at_ i hi).1.rd⟩
theorem Rw.tnk {base ES E w w' s vs ll rs} (h : Rw base ES E w s vs ll) (hg : Tn rs w w') (hl : LoL base rs) : Rw base ES E w' s vs ll :=
  ⟨h.row.tnk hg (hl.apl h.row.fr), h.len, fun i hi => ⟨(h.at_ i hi).1.tnk hg (hl.apl (h.at_ i hi).1.fr), (h.at_ i hi).2⟩⟩
theorem Rw.gbk {base ES E w w' s vs ll r} (h : Rw base ES E w s vs ll) (hg : w.grownBy w' r) (hl : Lo base r) : Rw base ES E w' s vs ll := h.tnk (Tn.ofGB hg) (LoL.one hl)
theorem Rw.live {base ES E w s vs ll} (h : Rw base ES E w s vs ll) : Live w s.ownBlock := h.row.live
theorem getD_snoc {α : Type} (l : List α) (x d : α) (i : Nat) : (l ++ [x]).getD i d = if i < l.length then l.getD i d else if i = l.length then x else d := by
  simp only [List.getD_eq_getElem?_getD, List.getElem?_append]
  split
  · rfl
  · split
    · next h => subst h; simp
    · next h h' => rw [List.getElem?_eq_none (by simp; omega)]; rfl
theorem Rw.push {base ES E w w' s s' vs ll v l} (h : Rw base ES E w s vs ll) (hv : Ow base E w v (List.map (fun x => B x) l)) (ha : Ap v.ownBlock s.ownBlock) (hg : w.grownBy w' s.ownBlock) (hs : SF w s.ownBlock s'.ownBlock) (hn : Ow base ES w' s' (vs ++ [v])) :
    Rw base ES E w' s' (vs ++ [v]) (ll ++ [l]) := by
  refine ⟨hn, by simp [h.len], fun i hi => ?_⟩
  rw [getD_snoc, getD_snoc, h.len]
  by_cases hk : i < ll.length
  · rw [if_pos hk, if_pos hk]
    have h1 := h.at_ i hk
    exact ⟨h1.1.gbk hg h1.2, Ap.sf h1.2 h1.1.live hs⟩
  · have hi' : i = ll.length := by simp at hi; omega
    rw [if_neg hk, if_neg hk, if_pos hi', if_pos hi']
    exact ⟨hv.gbk hg ha, Ap.sf ha hv.live hs⟩
section
variable {P : Program} {N : Nat} {ds : List Deferred} {σ : Env} {w : World}
theorem Ye.appendR {l m : List Value} {ty t e x y s r z by' base} (hu : P.underlying t = some (.slice e)) (hz : TI P e z 1 by') (hz1 : z.cells.size = 1) (hby : Nat.blt 0 by' = true) (hx : ev σ x = some s) (hy : ev σ y = some r)
    (ho : Ow base e w s (l)) (hr : Rd w r (m)) (h1 : ∀ v ∈ m, v.oneCell' = true) (hb : (l.length + m.length) * by' ≤ 140737488355328) (hbase : base ≤ w.heap.size) :
    Ye P σ (.call ⟨.builtin .append, #[x, y], #[t, t]⟩) ty w fun v w1 => Ow base e w1 v (l ++ m) ∧ w.grownBy w1 s.ownBlock ∧ SF w s.ownBlock v.ownBlock := by
  have hby' : 0 < by' := by simpa [Nat.blt_eq] using hby
  have hle : l.length + m.length ≤ (l.length + m.length) * by' := Nat.le_mul_of_pos_right _ hby'
  refine ye_bi (vs := [s, r]) (Builtin.append_ #[t, t] ty) (by simp [evs, hx, hy]) (fun _ _ => rfl) fun w' hs => ?_
  obtain ⟨j, hj, hj0, hj1, hj2⟩ := hz.out
  have ho' : w'.ownsRow base e 1 s (l).length (l) := Ow.ext ho hs.ext
  obtain ⟨p, c, rfl, h2, h3, h4⟩ := Rd.ext hr hs.ext
  have hgs : w.grownBy w' none := grown_ext hs.ext
  cases p with
  | none =>
    have hm0 : m = [] := by
      cases m with
      | nil => rfl
      | cons x l => obtain ⟨b, o, hp, _⟩ := h4 0 x (by simp); cases hp
    subst hm0
    have hc := h3 rfl
    subst hc
    have hrun := run_append_owned_none (P := P) w' base t ty e j 1 hu hj s (l).length (l) ho'
    refine ⟨s, w', w', hrun, Same.refl _, ?_, ⟨hgs.os, hgs.tape, hgs.output, hgs.size, fun k hk _ => hgs.block k hk (by simp)⟩, fun k hk => .inl hk⟩
    rw [List.append_nil]; exact ho'
  | some ad =>
    have hone : ∀ v ∈ m, v.oneCell' = true := h1
    have hnews : ∀ k u, (m)[k]? = some u → w'.cell? (ad.add k) = some u := fun k u hku => by obtain ⟨b, o, hp, hc⟩ := h4 k u hku; cases hp; rw [add_at]; exact hc
    have h63 : (l).length + (m).length ≤ maxLen := by unfold maxLen; omega
    have hbb : ((l).length + (m).length) * by' ≤ 140737488355328 := by simpa using hb
    obtain ⟨v', w2, hrun, h5, h6, _⟩ := run_append_own (P := P) w' base t ty e j z 1 by' hu hj hj0 hj1 hj2 hz1 (by omega) s (l).length (l) ho' ad (m).length c (m) (by simp)
      hnews hone h63 hbb (by rw [hs.heap]; exact hbase)
    have hsf := append_sf (P := P) hu hj hj0 hj1 hj2 ho' ad (m).length c (m) rfl hnews hone h63 hbb hrun
    refine ⟨v', w2, w2, hrun, Same.refl _, ?_, ⟨h6.os.trans hs.os, h6.tape.trans hs.tape, h6.output.trans hs.output, ?_, fun k hk hne => ?_⟩, ?_⟩
    · unfold Ow; rw [List.length_append]; exact h5
    · have := h6.size; rw [hs.heap] at this; exact this
    · rw [h6.block k (by rw [hs.heap]; exact hk) hne, hs.heap]
    · intro k hk; have := hsf k hk; rwa [hs.heap] at this
end
end Go.X
