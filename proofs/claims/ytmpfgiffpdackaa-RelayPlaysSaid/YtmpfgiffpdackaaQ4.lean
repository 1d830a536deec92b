import Derived.Test.YtmpfgiffpdackaaQr
import Derived.Test.YtmpfgiffpdackaaX32
/-
  A relay and the document's, side by side. No program here.
-/
set_option linter.unusedVariables false
namespace Go.X
/-- The document's frame: its number, from whom, for whom, when it came, the frame. -/
abbrev Ri : Type := Int × Key × Key × Int × Value
abbrev R5 : Type := Int × Key × Key × Int × List UInt8
def riS : Shp Ri := ⟨5, fun x => [I x.1, Str x.2.1, Str x.2.2.1, I x.2.2.2.1, x.2.2.2.2], fun _ => rfl, by decide⟩
def riD : Ri := (0, [], [], 0, nilS)
def r5D : R5 := (0, [], [], 0, [])
def KI (w0 : World) (x : Ri) (y : R5) : Prop := x.1 = y.1 ∧ x.2.1 = y.2.1 ∧ x.2.2.1 = y.2.2.1 ∧ x.2.2.2.1 = y.2.2.2.1 ∧ ∀ W, Ext w0 W → Bs W x.2.2.2.2 y.2.2.2.2
def strp (y : R5) : It := (y.1, y.2.1, y.2.2.2.1, y.2.2.2.2)
def toB (k : Key) (y : R5) : Bool := decide (y.2.2.1 = k)
def toR (k : Key) (y : Ri) : Bool := decide (y.2.2.1 = k)
def agR (now ex : Int) (x : R5) : Bool := decide (now - x.2.2.2.1 ≥ ex)
def agRi (now ex : Int) (x : Ri) : Bool := decide (now - x.2.2.2.1 ≥ ex)
def QR (q : List (Key × List It)) (R : List R5) : Prop := ∀ k, qget q k = (R.filter (toB k)).map strp
theorem ri_one {es : List Ri} (h : ∀ x ∈ es, x.2.2.2.2.oneCell' = true) : ∀ x ∈ es, ∀ v ∈ riS.c x, v.oneCell' = true := fun x hx v hv => by
  simp only [riS, List.mem_cons, List.mem_nil_iff, or_false] at hv
  rcases hv with rfl | rfl | rfl | rfl | rfl
  · rfl
  · rfl
  · rfl
  · rfl
  · exact h x hx
theorem ki_one {w0 w : World} {es : List Ri} {L : List R5} (h : R2 (KI w0) es L) (he : Ext w0 w) : ∀ x ∈ es, x.2.2.2.2.oneCell' = true := fun x hx => by
  obtain ⟨y, _, hy⟩ := R2.mem h hx; exact Rd.one (hy.2.2.2.2 w he)
theorem flt_takeG {α : Type} (d : α) {p : α → Bool} {l : List α} {i : Nat} (hi : i < l.length) : (l.take (i + 1)).filter p = (l.take i).filter p ++ (if p (l.getD i d) = true then [l.getD i d] else []) := by
  rw [take_succD d hi, List.filter_append]
  congr 1
  cases h : p (l.getD i d)
  · rw [List.filter_cons_of_neg (by rw [h]; decide)]; rfl
  · rw [List.filter_cons_of_pos h]; rfl
/-! ### One queue as part of the row -/
theorem QR.nil : QR [] [] := fun k => rfl
theorem QR.put {q R} (h : QR q R) (to fr : Key) (id now : Int) (l : List UInt8) : QR (qset to (qget q to ++ [((id, fr, now, l) : It)]) q) (R ++ [((id, fr, to, now, l) : R5)]) := fun k => by
  rw [qget_set, List.filter_append, List.map_append, ← h k]
  by_cases e : k = to
  · subst e
    rw [if_pos rfl, List.filter_cons_of_pos (by unfold toB; exact decide_eq_true rfl)]; rfl
  · rw [if_neg e, List.filter_cons_of_neg (by unfold toB; simp; exact fun h => e h.symm)]; simp
theorem qget_map (f : It → Bool) (k : Key) : ∀ q : List (Key × List It), qget (q.map fun p => (p.1, p.2.filter f)) k = (qget q k).filter f
  | [] => rfl
  | p :: r => by
    show (if k = p.1 then p.2.filter f else qget (r.map fun p => (p.1, p.2.filter f)) k) = (if k = p.1 then p.2 else qget r k).filter f
    split
    · rfl
    · exact qget_map f k r
theorem QR.tick {q R} (h : QR q R) (now ex : Int) : QR (q.map fun p => (p.1, p.2.filter fun x => !agP now ex x)) (R.filter fun x => !agR now ex x) := fun k => by
  rw [qget_map, h k, List.filter_map, List.filter_filter, List.filter_filter]
  congr 1
  apply List.filter_congr
  intro x _
  exact Bool.and_comm _ _
theorem rmG_flt {id : Int} : ∀ {l : List It}, l.Pairwise (fun a b => a.1 < b.1) → rmG (eqP id) l = l.filter fun x => !eqP id x
  | [], _ => rfl
  | a :: l, h => by
    have h1 := List.pairwise_cons.1 h
    cases ha : eqP id a
    · rw [List.filter_cons_of_pos (by rw [ha]; rfl), ← rmG_flt h1.2]
      unfold rmG
      rw [List.findIdx?_cons, ha]
      cases hf : l.findIdx? (eqP id) with
      | none => rfl
      | some k => rfl
    · rw [List.filter_cons_of_neg (by rw [ha]; decide)]
      have e : a.1 = id := of_decide_eq_true ha
      rw [List.filter_eq_self.2 (fun x hx => by have := h1.1 x hx; unfold eqP; rw [decide_eq_false (by omega)]; rfl)]
      unfold rmG
      rw [List.findIdx?_cons, ha]
      simp
theorem acks_inc : ∀ (ids : List Int) {l : List It}, l.Pairwise (fun a b => a.1 < b.1) → acks eqP ids l = l.filter fun x => !decide (x.1 ∈ ids)
  | [], l, _ => (List.filter_eq_self.2 (fun x _ => by simp)).symm
  | id :: ids, l, h => by
    show acks eqP ids (rmG (eqP id) l) = _
    rw [rmG_flt h, acks_inc ids (h.filter _), List.filter_filter]
    apply List.filter_congr
    intro x _
    unfold eqP
    by_cases e : x.1 = id
    · simp [e]
    · simp [e]
/-! ### What is known of the row -/
structure GR (i : Nat) (c : Int × Int × Int) (R : List R5) : Prop where
  inc : R.Pairwise fun a b => a.1 < b.1
  bd : ∀ x ∈ R, x.1 ≤ c.2.2 ∧ (0 ≤ x.2.2.2.1 ∧ x.2.2.2.1 ≤ c.2.1) ∧ x.2.2.2.2.length ≤ 6000
  len : R.length ≤ i
  lb : 0 ≤ c.2.2 ∧ c.2.2 ≤ (i : Int)
  nb : 0 ≤ c.2.1 ∧ c.2.1 ≤ 1099511627776
  ex : 1 ≤ c.1 ∧ c.1 ≤ 1099511627776
theorem GR.init (t : Int) : GR 0 (exI t, 0, 0) [] := ⟨List.Pairwise.nil, (fun x hx => by cases hx), Nat.le_refl _, (show (0 : Int) ≤ 0 ∧ (0 : Int) ≤ ((0 : Nat) : Int) from by decide), (show (0 : Int) ≤ 0 ∧ (0 : Int) ≤ 1099511627776 from by decide), exI_ok t⟩
theorem GR.up {i c R} (h : GR i c R) : GR (i + 1) c R := ⟨h.inc, h.bd, by have := h.len; omega, by have := h.lb; omega, h.nb, h.ex⟩
theorem strp_inc {R : List R5} (h : R.Pairwise fun a b => a.1 < b.1) (k : Key) : ((R.filter (toB k)).map strp).Pairwise fun a b => a.1 < b.1 := by
  rw [List.pairwise_map]; exact h.filter _
theorem QR.bd {q R i c} (h : QR q R) (hg : GR i c R) (k : Key) : ∀ x ∈ qget q k, (0 ≤ x.2.2.1 ∧ x.2.2.1 ≤ 1099511627776) ∧ x.2.2.2.length ≤ 6000 := fun x hx => by
  rw [h k] at hx
  obtain ⟨y, hy, rfl⟩ := List.mem_map.1 hx
  have h1 := hg.bd y (List.mem_filter.1 hy).1
  have h2 := hg.nb
  exact ⟨⟨h1.2.1.1, by show y.2.2.2.1 ≤ _; omega⟩, h1.2.2⟩
theorem QR.len {q R i c} (h : QR q R) (hg : GR i c R) (k : Key) : (qget q k).length ≤ i := by
  rw [h k, List.length_map]; exact Nat.le_trans (List.length_filter_le _ _) hg.len
/-! ### Names each once -/
theorem qget_at : ∀ {q : List (Key × List It)} {p : Key × List It}, (q.map (·.1)).Nodup → p ∈ q → qget q p.1 = p.2
  | [], p, _, h => by cases h
  | y :: q, p, hn, h => by
    rw [List.map_cons, List.nodup_cons] at hn
    rcases List.mem_cons.1 h with rfl | h
    · show (if p.1 = p.1 then p.2 else qget q p.1) = p.2; rw [if_pos rfl]
    · show (if p.1 = y.1 then y.2 else qget q p.1) = p.2
      rw [if_neg (fun e => hn.1 (by rw [← e]; exact List.mem_map.2 ⟨p, h, rfl⟩)), qget_at hn.2 h]
theorem qget_no {k : Key} : ∀ {q : List (Key × List It)}, k ∉ q.map (·.1) → qget q k = []
  | [], _ => rfl
  | y :: q, h => by
    rw [List.map_cons, List.mem_cons, not_or] at h
    show (if k = y.1 then y.2 else qget q k) = []
    rw [if_neg h.1, qget_no h.2]
theorem flt_not {α : Type} (p : α → Bool) : ∀ l : List α, l.length = (l.filter p).length + (l.filter fun x => !p x).length
  | [] => rfl
  | a :: l => by
    have ih := flt_not p l
    cases h : p a
    · rw [List.filter_cons_of_neg (by rw [h]; decide), List.filter_cons_of_pos (p := fun x => !p x) (by rw [h]; rfl), List.length_cons, List.length_cons]; omega
    · rw [List.filter_cons_of_pos h, List.filter_cons_of_neg (p := fun x => !p x) (by rw [h]; decide), List.length_cons, List.length_cons]; omega
theorem QR_tot : ∀ {q : List (Key × List It)} {R : List R5}, (q.map (·.1)).Nodup → QR q R → tot q = R.length
  | [], R, _, h => by
    cases R with
    | nil => rfl
    | cons y R =>
      have := h y.2.2.1
      rw [List.filter_cons_of_pos (by unfold toB; exact decide_eq_true rfl)] at this
      cases this
  | p :: q, R, hn, h => by
    rw [List.map_cons, List.nodup_cons] at hn
    have h0 := h p.1
    have hp : qget (p :: q) p.1 = p.2 := by show (if p.1 = p.1 then p.2 else qget q p.1) = p.2; rw [if_pos rfl]
    rw [hp] at h0
    have ih := QR_tot (R := R.filter fun x => !toB p.1 x) hn.2 (fun k => by
      by_cases e : k = p.1
      · subst e
        rw [qget_no hn.1, List.filter_filter, List.filter_eq_nil_iff.2 (fun x _ => by simp)]; rfl
      · have hk := h k
        have hq : qget (p :: q) k = qget q k := by show (if k = p.1 then p.2 else qget q k) = _; rw [if_neg e]
        rw [hq] at hk
        rw [hk, List.filter_filter]
        congr 1
        apply List.filter_congr
        intro x _
        unfold toB
        by_cases e2 : x.2.2.1 = k
        · simp [e2, e]
        · simp [e2])
    have h1 := flt_not (toB p.1) R
    show p.2.length + tot q = _
    rw [ih, h0, List.length_map]; omega
/-! ### The document's steps -/
def putM (c : Int × Int × Int) (R : List R5) (fr to : Key) (l : List UInt8) : Int × Int × (Int × Int × Int) × List R5 :=
  if nameB fr = true ∧ nameB to = true then
    if 6000 < l.length then (0, 11, c, R) else if 30 ≤ (R.filter (toB to)).length then (0, 9, c, R) else (c.2.2 + 1, 0, (c.1, c.2.1, c.2.2 + 1), R ++ [((c.2.2 + 1, fr, to, c.2.1, l) : R5)])
  else (0, 1, c, R)
def ackM (R : List R5) (to : Key) (ids : List Int) : List R5 := R.filter fun x => !(toB to x && decide (x.1 ∈ ids))
def tickM (c : Int × Int × Int) (R : List R5) (n : Int) : (Int × Int × Int) × List R5 := if n < 1 then (c, R) else ((c.1, tkI c.2.1 n, c.2.2), R.filter fun x => !agR (tkI c.2.1 n) c.1 x)
theorem GR.put {i c R} (h : GR i c R) (fr to : Key) (l : List UInt8) : GR (i + 1) (putM c R fr to l).2.2.1 (putM c R fr to l).2.2.2 := by
  unfold putM
  split
  · split
    · exact h.up
    · split
      · exact h.up
      · next hl _ =>
        refine ⟨List.pairwise_append.2 ⟨h.inc, List.pairwise_singleton _ _, fun a ha b hb => ?_⟩, fun x hx => ?_, ?_, ?_, h.nb, h.ex⟩
        · rw [List.mem_singleton] at hb; subst hb
          have := (h.bd a ha).1
          show a.1 < c.2.2 + 1; omega
        · rcases List.mem_append.1 hx with hx | hx
          · have := h.bd x hx
            exact ⟨by show x.1 ≤ c.2.2 + 1; omega, this.2⟩
          · rw [List.mem_singleton] at hx; subst hx
            exact ⟨Int.le_refl _, ⟨h.nb.1, Int.le_refl _⟩, by show l.length ≤ 6000; omega⟩
        · rw [List.length_append]; have := h.len; show R.length + 1 ≤ i + 1; omega
        · have := h.lb; show 0 ≤ c.2.2 + 1 ∧ c.2.2 + 1 ≤ ((i + 1 : Nat) : Int); omega
  · exact h.up
theorem GR.ack {i c R} (h : GR i c R) (to : Key) (ids : List Int) : GR (i + 1) c (ackM R to ids) :=
  ⟨h.inc.filter _, fun x hx => h.bd x (List.mem_filter.1 hx).1, by have := List.length_filter_le (fun x => !(toB to x && decide (x.1 ∈ ids))) R; have := h.len; unfold ackM; omega, by have := h.lb; omega, h.nb, h.ex⟩
theorem GR.tick {i c R} (h : GR i c R) (n : Int) : GR (i + 1) (tickM c R n).1 (tickM c R n).2 := by
  unfold tickM
  split
  · exact h.up
  · next hn =>
    have hk := tkI_ok h.nb (show 1 ≤ n by omega)
    refine ⟨h.inc.filter _, fun x hx => ?_, ?_, ?_, ?_, h.ex⟩
    · have := h.bd x (List.mem_filter.1 hx).1
      exact ⟨this.1, ⟨this.2.1.1, by show x.2.2.2.1 ≤ tkI c.2.1 n; omega⟩, this.2.2⟩
    · have := List.length_filter_le (fun x => !agR (tkI c.2.1 n) c.1 x) R; have := h.len; show (R.filter _).length ≤ i + 1; omega
    · have := h.lb; show 0 ≤ c.2.2 ∧ c.2.2 ≤ ((i + 1 : Nat) : Int); omega
    · have := h.nb; show 0 ≤ tkI c.2.1 n ∧ tkI c.2.1 n ≤ 1099511627776; omega
theorem QR.ack {q q' R i c} {to : Key} {ids : List Int} (h : QR q R) (hg : GR i c R) (hq : ∀ k, qget q' k = if k = to then acks eqP ids (qget q to) else qget q k) : QR q' (ackM R to ids) := fun k => by
  rw [hq k]
  unfold ackM
  by_cases e : k = to
  · subst e
    rw [if_pos rfl, h k, acks_inc ids (strp_inc hg.inc k), List.filter_map, List.filter_filter, List.filter_filter]
    congr 1
    apply List.filter_congr
    intro x _
    show ((!decide ((strp x).1 ∈ ids)) && toB k x) = (toB k x && !(toB k x && decide (x.1 ∈ ids)))
    show ((!decide (x.1 ∈ ids)) && toB k x) = (toB k x && !(toB k x && decide (x.1 ∈ ids)))
    cases toB k x <;> cases decide (x.1 ∈ ids) <;> rfl
  · rw [if_neg e, h k, List.filter_filter]
    congr 1
    apply List.filter_congr
    intro x _
    unfold toB
    by_cases e2 : x.2.2.1 = k
    · have e3 : ¬ x.2.2.1 = to := fun h => e (e2.symm.trans h)
      simp [e2, e]
    · simp [e2]
theorem ack_len (p r : R5 → Bool) : ∀ R : List R5, ((R.filter p).length : Int) - (((R.filter p).filter fun x => !r x).length : Int) = (R.length : Int) - ((R.filter fun x => !(p x && r x)).length : Int)
  | [] => rfl
  | a :: R => by
    have ih := ack_len p r R
    cases hp : p a
    · rw [List.filter_cons_of_neg (by rw [hp]; decide), List.filter_cons_of_pos (p := fun x => !(p x && r x)) (by simp [hp]), List.length_cons, List.length_cons]; omega
    · cases hr : r a
      · rw [List.filter_cons_of_pos hp, List.filter_cons_of_pos (p := fun x => !r x) (by simp [hr]), List.filter_cons_of_pos (p := fun x => !(p x && r x)) (by simp [hp, hr])]
        simp only [List.length_cons]; omega
      · rw [List.filter_cons_of_pos hp, List.filter_cons_of_neg (p := fun x => !r x) (by simp [hr]), List.filter_cons_of_neg (p := fun x => !(p x && r x)) (by simp [hp, hr])]
        simp only [List.length_cons]; omega
theorem QR.ackn {q R i c} {to : Key} {ids : List Int} (h : QR q R) (hg : GR i c R) : ((qget q to).length : Int) - ((acks eqP ids (qget q to)).length : Int) = (R.length : Int) - ((ackM R to ids).length : Int) := by
  rw [h to, acks_inc ids (strp_inc hg.inc to), List.filter_map, List.length_map, List.length_map]
  exact ack_len (toB to) (fun x => decide (x.1 ∈ ids)) R
/-! ### Side by side -/
structure RTK (TR TI T2 : TypeId) (xs : List (Option Nat)) (K : Nat → Prop) (w0 w : World) (b : Nat) (c : Int × Int × Int) (q : List (Key × List It)) (R : List R5) (b2 : Nat) (d : Int × Int × Int) (s2 : Value) (es2 : List Ri) (R' : List R5) : Prop where
  rq : Rq TR TI w0.heap.size K w b c q
  qr : QR q R
  c2 : Cel w b2 T2 [(0, 1, [I d.1]), (1, 1, [I d.2.1]), (2, 1, [I d.2.2]), (3, 1, [s2])]
  r2 : Er riS w s2 es2
  l2 : Live w s2.ownBlock
  ob : Out K (some b2)
  os : Out K s2.ownBlock
  fb : w0.heap.size ≤ b2
  ap : Ap (some b2) s2.ownBlock
  a2 : R2 (KI w0) es2 R'
  e : Ext w0 w
  ox : ∀ q ∈ xs, Out K q ∧ Ap q (some b2) ∧ Live w q
def RT (TR TI T2 : TypeId) (xs : List (Option Nat)) (w0 w : World) (b : Nat) (c : Int × Int × Int) (R : List R5) (b2 : Nat) (d : Int × Int × Int) (R' : List R5) : Prop := ∃ K q s2 es2, RTK TR TI T2 xs K w0 w b c q R b2 d s2 es2 R'
section
variable {TR TI T2 : TypeId} {xs : List (Option Nat)} {K : Nat → Prop} {w0 w w' : World} {b b2 : Nat} {c d c' d' : Int × Int × Int} {q q' : List (Key × List It)} {R R' R1 : List R5} {s2 s3 : Value} {es2 es3 : List Ri}
theorem RTK.ext (h : RTK TR TI T2 xs K w0 w b c q R b2 d s2 es2 R') (he : Ext w w') : RTK TR TI T2 xs K w0 w' b c q R b2 d s2 es2 R' :=
  ⟨h.rq.ext he, h.qr, h.c2.ext he, h.r2.ext he, h.l2.ext he.size, h.ob, h.os, h.fb, h.ap, h.a2, h.e.trans he, fun q hq => ⟨(h.ox q hq).1, (h.ox q hq).2.1, (h.ox q hq).2.2.ext he.size⟩⟩
theorem RT.ext (h : RT TR TI T2 xs w0 w b c R b2 d R') (he : Ext w w') : RT TR TI T2 xs w0 w' b c R b2 d R' := by
  obtain ⟨K, q, s2, es2, h⟩ := h; exact ⟨K, q, s2, es2, h.ext he⟩
theorem RT.e (h : RT TR TI T2 xs w0 w b c R b2 d R') : Ext w0 w := by obtain ⟨K, q, s2, es2, h⟩ := h; exact RTK.e h
/-- The relay has turned. -/
theorem RTK.impl (h : RTK TR TI T2 xs K w0 w b c q R b2 d s2 es2 R') (hp : RqP TR TI w0.heap.size K w w' b c' q') (hq : QR q' R1) : RT TR TI T2 xs w0 w' b c' R1 b2 d R' ∧ Tx w0.heap.size xs w w' := by
  obtain ⟨K', hr, hkk, hth⟩ := hp
  have hth0 := hth
  have hb := h.rq.bb
  obtain ⟨rs, h1, h2⟩ := hth
  have hx : ∀ {a}, Out K a → ApL a rs := fun {a} ha x hx' k e1 e2 => by
    rcases h1 x hx' with rfl | h3
    · cases e2; exact ha _ e1 hb
    · exact ha k e1 (h3 k e2)
  have hfr : ∀ x ∈ rs, Fr w0.heap.size x := fun x hx' k e => by
    rcases h1 x hx' with rfl | h3
    · cases e; exact (h.rq.kb _ hb).1
    · exact (h.rq.kb k (h3 k e)).1
  refine ⟨⟨K', q', s2, es2, hr, hq, h.c2.tnk h2 (hx h.ob), h.r2.tnk h2 (hx h.os), h.l2.ext h2.size, h.ob.kk (Cel.live h.c2) hkk, h.os.kk h.l2 hkk, h.fb, h.ap, h.a2, Ext.tnk h.e hfr h2, fun x hx' => ⟨(h.ox x hx').1.kk (h.ox x hx').2.2 hkk, (h.ox x hx').2.1, (h.ox x hx').2.2.ext h2.size⟩⟩, rs, h2, fun x hx' => hx (h.ox x hx').1, hfr⟩
/-- The document's has turned. -/
theorem RTK.ref (h : RTK TR TI T2 xs K w0 w b c q R b2 d s2 es2 R') (ht : Tn [some b2] w w') (hc : Cel w' b2 T2 [(0, 1, [I d'.1]), (1, 1, [I d'.2.1]), (2, 1, [I d'.2.2]), (3, 1, [s3])]) (hr : Er riS w' s3 es3) (hl : Live w' s3.ownBlock) (hf : SF w s2.ownBlock s3.ownBlock) (ha : R2 (KI w0) es3 R1) : RT TR TI T2 xs w0 w' b c R b2 d' R1 ∧ Tx w0.heap.size xs w w' := by
  have hlt := Cel.lt h.c2
  refine ⟨⟨K, q, s3, es3, h.rq.tnk ht (fun x hx k e hk => by rw [List.mem_singleton] at hx; subst hx; exact h.ob k e hk), h.qr, hc, hr, hl, h.ob, fun k e hk => ?_, h.fb, fun k e1 e2 => ?_, ha, Ext.tnk h.e (fun q hq k e => ?_) ht, fun q hq => ⟨(h.ox q hq).1, (h.ox q hq).2.1, (h.ox q hq).2.2.ext ht.size⟩⟩, ⟨_, ht, (fun q hq => ApL.one (h.ox q hq).2.1), fun q hq k e => ?_⟩⟩
  · rcases hf k e with h1 | h1
    · exact h.os k h1 hk
    · have := (h.rq.kb k hk).2; omega
  · cases e1
    rcases hf _ e2 with h1 | h1
    · exact h.ap _ rfl h1
    · omega
  · rw [List.mem_singleton] at hq
    subst hq; cases e; exact h.fb
  · rw [List.mem_singleton] at hq
    subst hq; cases e; exact h.fb
/-- What is new may be told to stand. -/
theorem RT.more {a : Option Nat} (h : RT TR TI T2 xs w0 w b c R b2 d R') (he : Ext w w') (hf : Fr w.heap.size a) (hl : Live w' a) : RT TR TI T2 (a :: xs) w0 w' b c R b2 d R' := by
  obtain ⟨K, q, s2, es2, h⟩ := h
  have g := h.ext he
  have hlt := Cel.lt h.c2
  refine ⟨K, q, s2, es2, g.rq, g.qr, g.c2, g.r2, g.l2, g.ob, g.os, g.fb, g.ap, g.a2, g.e, fun p hp => ?_⟩
  rcases List.mem_cons.1 hp with rfl | hp
  · exact ⟨h.rq.out hf, fun k e1 e2 => by cases e2; have := hf _ e1; omega, hl⟩
  · exact g.ox p hp
theorem RT.less {a : Option Nat} (h : RT TR TI T2 (a :: xs) w0 w b c R b2 d R') : RT TR TI T2 xs w0 w b c R b2 d R' := by
  obtain ⟨K, q, s2, es2, h⟩ := h
  exact ⟨K, q, s2, es2, h.rq, h.qr, h.c2, h.r2, h.l2, h.ob, h.os, h.fb, h.ap, h.a2, RTK.e h, fun p hp => h.ox p (List.mem_cons_of_mem _ hp)⟩
/-- Both hold nothing. -/
theorem RT.init {t : Int} {wb : World} (hr : Rq TR TI w0.heap.size K wb b (exI t, 0, 0) []) (he : Ext wb w) (hb : wb.heap.size ≤ b2) (hc : Cel w b2 T2 [(0, 1, [I (exI t)]), (1, 1, [I 0]), (2, 1, [I 0]), (3, 1, [nilS])]) (e : Ext w0 w) (hs : w0.heap.size ≤ wb.heap.size) : RT TR TI T2 [] w0 w b (exI t, 0, 0) [] b2 (exI t, 0, 0) [] :=
  ⟨K, [], nilS, [], hr.ext he, QR.nil, hc, Er.nil _ _, (fun k e => by cases e), hr.out (Fr.blk hb), (fun k e => by cases e), by omega, Ap.nil_r, trivial, e, fun q hq => by cases hq⟩
end
/-! ### What is listed -/
def Eq6 (w : World) (a : Option Nat) (x : Itm) (y : It) : Prop := Eq3 w x y ∧ Live w x.2.2.2.ownBlock ∧ Ap a x.2.2.2.ownBlock
def LsR (w : World) (a : Option Nat) (es : List Itm) (l : List It) : Prop := R2 (Eq6 w a) es l
theorem LsR.ext {w w' : World} {a : Option Nat} {es l} (h : LsR w a es l) (he : Ext w w') : LsR w' a es l := R2.imp (fun _ _ h => ⟨h.1.ext he, h.2.1.ext he.size, h.2.2⟩) h
theorem LsR.app {w w' : World} {a a' : Option Nat} {es l} {x : Itm} {y : It} (h : LsR w a es l) (hg : w.grownBy w' a) (hs : SF w a a') (hx : Eq3 w' x y) (hl : Live w' x.2.2.2.ownBlock) (hp : Ap a' x.2.2.2.ownBlock) : LsR w' a' (es ++ [x]) (l ++ [y]) :=
  R2.app (R2.imp (fun u v h => ⟨⟨h.1.1, h.1.2.1, h.1.2.2.1, Rd.tnk h.1.2.2.2 (Tn.ofGB hg) (ApL.one h.2.2.symm)⟩, h.2.1.ext (Tn.ofGB hg).size, (Ap.sf h.2.2.symm h.2.1 hs).symm⟩) h) (R2.one ⟨hx, hl, hp⟩)
theorem LsR.new {w : World} {a r : Option Nat} {es l} (h : LsR w a es l) (hf : Fr w.heap.size r) : ∀ x ∈ es, Ap r x.2.2.2.ownBlock := fun x hx k e1 e2 => by
  obtain ⟨y, _, hy⟩ := R2.mem h hx
  have := hy.2.1 k e2
  have := hf k e1
  omega
theorem LsR.gbk {w w' : World} {a r : Option Nat} {es l} (h : LsR w a es l) (hg : w.grownBy w' r) (hr : ∀ x ∈ es, Ap r x.2.2.2.ownBlock) : LsR w' a es l := by
  have key : ∀ {es : List Itm} {l : List It}, R2 (Eq6 w a) es l → (∀ x ∈ es, Ap r x.2.2.2.ownBlock) → R2 (Eq6 w' a) es l := by
    intro es
    induction es with
    | nil => intro l h _; cases l; exact trivial; exact h.elim
    | cons u es ih =>
      intro l h hr
      cases l with
      | nil => exact h.elim
      | cons v l =>
        exact ⟨⟨⟨h.1.1.1, h.1.1.2.1, h.1.1.2.2.1, Rd.tnk h.1.1.2.2.2 (Tn.ofGB hg) (ApL.one (hr u (by simp)).symm)⟩, h.1.2.1.ext (Tn.ofGB hg).size, h.1.2.2⟩, ih h.2 fun x hx => hr x (by simp [hx])⟩
  exact key h hr
def LsB (w : World) (es : List Itm) (l : List It) : Prop := R2 (Eq3 w) es l
theorem LsB.ext {w w' : World} {es l} (h : LsB w es l) (he : Ext w w') : LsB w' es l := R2.imp (fun _ _ h => h.ext he) h
theorem LsR.b {w : World} {a : Option Nat} {es l} (h : LsR w a es l) : LsB w es l := R2.imp (fun _ _ h => h.1) h
theorem inc_idx {l : List It} (h : l.Pairwise fun a b => a.1 < b.1) {j : Nat} {n : Int} (hj : j < l.length) (he : (l.getD j itD0).1 = n) : idxI (eqP n) l = (j : Int) := by
  refine idxI_at itD0 hj (by unfold eqP; exact decide_eq_true he) fun k hk => ?_
  have := List.pairwise_iff_getElem.1 h k j (by omega) hj hk
  unfold eqP
  rw [List.getD_eq_getElem?_getD, List.getElem?_eq_getElem hj] at he
  rw [List.getD_eq_getElem?_getD, List.getElem?_eq_getElem (show k < l.length by omega)]
  simp only [Option.getD_some] at he ⊢
  exact decide_eq_false (by omega)
theorem idx_nd {l : List It} {n : Int} {j : Nat} (hj : j < l.length) (he : ¬ (l.getD j itD0).1 = n) : idxI (eqP n) l ≠ (j : Int) := by
  intro h
  unfold idxI at h
  cases hf : l.findIdx? (eqP n) with
  | none => rw [hf] at h; simp only at h; omega
  | some k =>
    rw [hf] at h
    have h1 : k = j := by simp only at h; omega
    subst h1
    obtain ⟨g1, g2, _⟩ := List.findIdx?_eq_some_iff_getElem.1 hf
    apply he
    rw [List.getD_eq_getElem?_getD, List.getElem?_eq_getElem hj]
    exact of_decide_eq_true g2
theorem idxI_bd {α : Type} {p : α → Bool} {es : List α} : idxI p es < es.length ∧ -1 ≤ idxI p es := by
  unfold idxI
  cases h : es.findIdx? p with
  | none => exact ⟨by simp only; omega, by simp only; omega⟩
  | some i =>
    have := (List.findIdx?_eq_some_iff_getElem.1 h).1
    exact ⟨by simp only; omega, by simp only; omega⟩
/-- What Get tells. -/
def gtI (l : List It) (n : Int) : It := if idxI (eqP n) l ≥ 0 then l.getD (idxI (eqP n) l).toNat itD0 else itD0
def gtE (l : List It) (n : Int) : Int := if idxI (eqP n) l ≥ 0 then 0 else 7
def wnt (l : List It) (n : Int) (i : Nat) : Int := if 0 ≤ idxI (eqP n) l ∧ idxI (eqP n) l < (i : Int) then 0 else 7
theorem wnt_0 (l : List It) (n : Int) : wnt l n 0 = 7 := by unfold wnt; rw [if_neg (by omega)]
theorem wnt_all (l : List It) (n : Int) : wnt l n l.length = gtE l n := by
  have := idxI_bd (p := eqP n) (es := l)
  unfold wnt gtE
  by_cases h : idxI (eqP n) l ≥ 0
  · rw [if_pos ⟨h, by omega⟩, if_pos h]
  · rw [if_neg (by omega), if_neg h]
theorem wnt_yes {l : List It} {n : Int} {j : Nat} (h : idxI (eqP n) l = (j : Int)) : wnt l n (j + 1) = 0 := by unfold wnt; rw [if_pos (by omega)]
theorem wnt_no {l : List It} {n : Int} {j : Nat} (h : idxI (eqP n) l ≠ (j : Int)) : wnt l n (j + 1) = wnt l n j := by
  unfold wnt
  by_cases h1 : 0 ≤ idxI (eqP n) l ∧ idxI (eqP n) l < (j : Int)
  · rw [if_pos h1, if_pos (by omega)]
  · rw [if_neg h1, if_neg (by omega)]
theorem gtI_at {l : List It} {n : Int} {j : Nat} (h : idxI (eqP n) l = (j : Int)) : gtI l n = l.getD j itD0 := by unfold gtI; rw [if_pos (by omega), h]; rfl
theorem gtI_no {l : List It} {n : Int} (h : gtE l n ≠ 0) : gtI l n = itD0 := by
  unfold gtE at h
  unfold gtI
  by_cases h1 : idxI (eqP n) l ≥ 0
  · rw [if_pos h1] at h; exact absurd rfl h
  · rw [if_neg h1]
end Go.X
