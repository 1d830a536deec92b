import Derived.Test.YtfefphcmfhabiaaQk
/-
  A store of keys as a list: what is told of it behind each call. No program here.
-/
set_option linter.unusedVariables false
namespace Go.X
/-- Two rows agree, place by place. -/
def All2 {α β : Type} (R : α → β → Prop) : List α → List β → Prop
  | [], [] => True
  | a :: as, b :: bs => R a b ∧ All2 R as bs
  | _, _ => False
section
variable {α β : Type} {R S : α → β → Prop}
theorem All2.len : ∀ {as : List α} {bs : List β}, All2 R as bs → as.length = bs.length
  | [], [], _ => rfl
  | _ :: as, _ :: bs, h => by rw [List.length_cons, List.length_cons, All2.len h.2]
  | [], _ :: _, h => h.elim
  | _ :: _, [], h => h.elim
theorem All2.mono (hm : ∀ a b, R a b → S a b) : ∀ {as : List α} {bs : List β}, All2 R as bs → All2 S as bs
  | [], [], _ => trivial
  | _ :: as, _ :: bs, h => ⟨hm _ _ h.1, All2.mono hm h.2⟩
  | [], _ :: _, h => h.elim
  | _ :: _, [], h => h.elim
theorem All2.app : ∀ {as : List α} {bs : List β} {cs ds}, All2 R as bs → All2 R cs ds → All2 R (as ++ cs) (bs ++ ds)
  | [], [], _, _, _, h => h
  | _ :: as, _ :: bs, _, _, h, h' => ⟨h.1, All2.app h.2 h'⟩
  | [], _ :: _, _, _, h, _ => h.elim
  | _ :: _, [], _, _, h, _ => h.elim
theorem All2.one {a : α} {b : β} (h : R a b) : All2 R [a] [b] := ⟨h, trivial⟩
theorem All2.take : ∀ (k : Nat) {as : List α} {bs : List β}, All2 R as bs → All2 R (as.take k) (bs.take k)
  | 0, _, _, _ => by simp [All2]
  | k + 1, [], [], _ => trivial
  | k + 1, _ :: as, _ :: bs, h => ⟨h.1, All2.take k h.2⟩
  | k + 1, [], _ :: _, h => h.elim
  | k + 1, _ :: _, [], h => h.elim
theorem All2.drop : ∀ (k : Nat) {as : List α} {bs : List β}, All2 R as bs → All2 R (as.drop k) (bs.drop k)
  | 0, _, _, h => by simpa using h
  | k + 1, [], [], _ => trivial
  | k + 1, _ :: as, _ :: bs, h => All2.drop k h.2
  | k + 1, [], _ :: _, h => h.elim
  | k + 1, _ :: _, [], h => h.elim
theorem All2.get (d : α) (d' : β) : ∀ (k : Nat) {as : List α} {bs : List β}, All2 R as bs → k < as.length → R (as.getD k d) (bs.getD k d')
  | 0, _ :: as, _ :: bs, h, _ => h.1
  | k + 1, _ :: as, _ :: bs, h, hk => All2.get d d' k h.2 (by simpa using hk)
  | _, [], _, _, hk => absurd hk (Nat.not_lt_zero _)
  | _, _ :: _, [], h, _ => h.elim
theorem All2.filter {p : α → Bool} {q : β → Bool} (hpq : ∀ a b, R a b → p a = q b) : ∀ {as : List α} {bs : List β}, All2 R as bs → All2 R (as.filter p) (bs.filter q)
  | [], [], _ => trivial
  | a :: as, b :: bs, h => by
    have h2 := All2.filter hpq h.2
    rw [List.filter_cons, List.filter_cons, hpq a b h.1]
    split
    · exact ⟨h.1, h2⟩
    · exact h2
  | [], _ :: _, h => h.elim
  | _ :: _, [], h => h.elim
theorem All2.mem : ∀ {as : List α} {bs : List β}, All2 R as bs → ∀ a ∈ as, ∃ b, b ∈ bs ∧ R a b
  | [], [], _, _, h => by cases h
  | a :: as, b :: bs, h, x, hx => by
    rcases List.mem_cons.1 hx with rfl | hx
    · exact ⟨b, by simp, h.1⟩
    · obtain ⟨c, h1, h2⟩ := All2.mem h.2 x hx
      exact ⟨c, by simp [h1], h2⟩
  | [], _ :: _, h, _, _ => h.elim
  | _ :: _, [], h, _, _ => h.elim
theorem All2.find {p : α → Bool} {q : β → Bool} (hpq : ∀ a b, R a b → p a = q b) : ∀ {as : List α} {bs : List β}, All2 R as bs → as.findIdx? p = bs.findIdx? q
  | [], [], _ => rfl
  | a :: as, b :: bs, h => by
    rw [List.findIdx?_cons, List.findIdx?_cons, hpq a b h.1, All2.find hpq h.2]
  | [], _ :: _, h => h.elim
  | _ :: _, [], h => h.elim
theorem All2.idx {p : α → Bool} {q : β → Bool} (hpq : ∀ a b, R a b → p a = q b) {as : List α} {bs : List β} (h : All2 R as bs) : idxI p as = idxI q bs := by
  unfold idxI; rw [All2.find hpq h]
end
/-- A key that is kept: chain, number, bytes. -/
abbrev Key : Type := Int × Int × List UInt8
def kD : Key := (0, 0, [])
def eqK (i j : Int) (x : Key) : Bool := decide (x.1 = i) && decide (x.2.1 = j)
def ltK (m : Int) (x : Key) : Bool := decide (x.1 < m)
/-- An entry of the store and the key that it holds. -/
structure KR (w : World) (b : Nat) (s : Option Nat) (base : Nat) (x : Ent) (y : Key) : Prop where
  c : x.1 = y.1
  m : x.2.1 = y.2.1
  bs : Bs w x.2.2 y.2.2
  live : Live w x.2.2.ownBlock
  fr : Fr base x.2.2.ownBlock
  apb : Ap (some b) x.2.2.ownBlock
  aps : Ap x.2.2.ownBlock s
section
variable {w w' : World} {b base : Nat} {s s' : Option Nat} {x : Ent} {y : Key}
theorem KR.ext (h : KR w b s base x y) (he : Ext w w') : KR w' b s base x y := ⟨h.c, h.m, h.bs.ext he, h.live.ext he.size, h.fr, h.apb, h.aps⟩
theorem KR.tnk (h : KR w b s base x y) (hs : SF w s s') (he : Tn [some b, s] w w') : KR w' b s' base x y :=
  ⟨h.c, h.m, Rd.tnk h.bs he (ApL.two h.apb.symm h.aps), h.live.ext he.size, h.fr, h.apb, Ap.sf h.aps h.live hs⟩
theorem KR.eq (h : KR w b s base x y) (i j : Int) : eqE i j x = eqK i j y := by unfold eqE eqK; rw [h.c, h.m]
theorem KR.lt (h : KR w b s base x y) (i : Int) : ltE i x = ltK i y := by unfold ltE ltK; rw [h.c]
end
/-- The store: so many at most, these keys, the eldest first. -/
def Sk (TS ES base : Nat) (w : World) (b : Nat) (n : Int) (L : List Key) : Prop :=
  ∃ s es, base ≤ b ∧ Cel w b TS [(0, 1, [I n]), (1, 1, [s])] ∧ Es entS 0 ES w s es ∧ Fr base s.ownBlock ∧ Ap (some b) s.ownBlock ∧ All2 (KR w b s.ownBlock base) es L
/-- Nothing below turned. -/
def Th (base : Nat) (w w' : World) : Prop := ∃ rs, (∀ q ∈ rs, Fr base q) ∧ Tn rs w w'
theorem Ext.th {w0 w w' : World} (h : Ext w0 w) (ht : Th w0.heap.size w w') : Ext w0 w' := by
  obtain ⟨rs, h1, h2⟩ := ht; exact Ext.tnk h h1 h2
section
variable {TS ES base : Nat} {w w' : World} {b : Nat} {n : Int} {L : List Key}
theorem Sk.ext (h : Sk TS ES base w b n L) (he : Ext w w') : Sk TS ES base w' b n L := by
  obtain ⟨s, es, h1, h2, h3, h4, h5, h6⟩ := h
  exact ⟨s, es, h1, h2.ext he, h3.ext he, h4, h5, h6.mono fun a b h => h.ext he⟩
theorem Sk.le {base'} (h : Sk TS ES base w b n L) (hb : base' ≤ base) : Sk TS ES base' w b n L := by
  obtain ⟨s, es, h1, h2, h3, h4, h5, h6⟩ := h
  exact ⟨s, es, Nat.le_trans hb h1, h2, h3, h4.le hb, h5, h6.mono fun a b h => ⟨h.c, h.m, h.bs, h.live, h.fr.le hb, h.apb, h.aps⟩⟩
theorem Sk.new (hb : base ≤ b) (hc : Cel w b TS [(0, 1, [I n]), (1, 1, [nilS])]) : Sk TS ES base w b n [] :=
  ⟨nilS, [], hb, hc, Es.nil _ _ _ _, Fr.nil, Ap.nil_r, trivial⟩
theorem sk_one {s : Option Nat} {es : List Ent} (h : All2 (KR w b s base) es L) : ∀ x ∈ es, x.2.2.oneCell' = true := fun x hx => by
  obtain ⟨y, _, hy⟩ := h.mem x hx; exact Rd.one hy.bs
theorem th_two {s : Option Nat} (hb : base ≤ b) (hf : Fr base s) (ht : Tn [some b, s] w w') : Th base w w' :=
  ⟨_, fun q hq => by
    simp only [List.mem_cons, List.mem_nil_iff, or_false] at hq
    rcases hq with rfl | rfl
    · exact Fr.blk hb
    · exact hf, ht⟩
end
/-- One more; beyond so many the eldest goes. -/
def psh (n : Int) (L : List Key) (e : Key) : List Key := if (L.length : Int) < n then L ++ [e] else (L ++ [e]).drop 1
def pshR (n : Int) (L : List Key) : Int := if (L.length : Int) < n then 0 else 1
theorem idx_neg {α : Type} {p : α → Bool} {es : List α} (h : ∀ x ∈ es, p x = false) : decide (idxI p es ≥ 0) = false := by rw [idxI_no h]; decide
theorem eqK_no {i j : Int} {y : Key} (h : ¬ (y.1 = i ∧ y.2.1 = j)) : eqK i j y = false := by
  unfold eqK
  by_cases h1 : y.1 = i
  · by_cases h2 : y.2.1 = j
    · exact absurd ⟨h1, h2⟩ h
    · simp [h2]
  · simp [h1]
/-! ### The last ones -/
def fK (k : Nat) : Key := (0, (k : Int), blkL 32 k)
def LO (n i : Nat) : List Key := ((List.range i).map fK).drop (i - n)
theorem LO_zero {n : Nat} : LO n 0 = [] := by simp [LO]
theorem LO_len {n i : Nat} : (LO n i).length = i - (i - n) := by simp [LO]
theorem LO_psh {n i : Nat} (hn : 1 ≤ n) : psh (n : Int) (LO n i) (0, (i : Int), blkL 32 i) = LO n (i + 1) := by
  unfold psh
  have e : (List.range (i + 1)).map fK = (List.range i).map fK ++ [fK i] := by rw [List.range_succ, List.map_append]; rfl
  by_cases h : i < n
  · rw [if_pos (by rw [LO_len]; omega)]
    unfold LO
    rw [e, show i - n = 0 by omega, show i + 1 - n = 0 by omega]; rfl
  · rw [if_neg (by rw [LO_len]; omega)]
    unfold LO
    rw [e, List.drop_append (l₁ := (List.range i).map fK) (i := i + 1 - n)]
    have h1 : i - n < ((List.range i).map fK).length := by simp; omega
    rw [List.drop_append (i := 1), List.drop_drop, show i - n + 1 = i + 1 - n by omega]
    have h2 : (((List.range i).map fK).drop (i - n)).length = n := by simp; omega
    rw [h2, show ((List.range i).map fK).length = i by simp, show i + 1 - n - i = 0 by omega, show 1 - n = 0 by omega]; rfl
theorem pshR_LO {n i : Nat} : pshR (n : Int) (LO n i) = if (i : Int) < (n : Int) then 0 else 1 := by
  unfold pshR
  rw [LO_len]
  by_cases h : i < n
  · rw [if_pos (by omega), if_pos (by omega)]
  · rw [if_neg (by omega), if_neg (by omega)]
theorem LO_no {n i : Nat} : ∀ y ∈ LO n i, ¬ (y.1 = 0 ∧ y.2.1 = (i : Int)) := fun y hy h => by
  have h1 := List.mem_of_mem_drop hy
  rw [List.mem_map] at h1
  obtain ⟨k, hk, rfl⟩ := h1
  rw [List.mem_range] at hk
  have h2 : (k : Int) = (i : Int) := h.2
  omega
/-- What is left behind i of them. -/
def LTk (n m i : Nat) : List Key := ((List.range m).map fK).drop (max i (m - n))
theorem LT_zero {n m : Nat} : LTk n m 0 = LO n m := by unfold LTk LO; rw [Nat.max_eq_right (Nat.zero_le _)]
theorem LT_len {n m i : Nat} : (LTk n m i).length = m - max i (m - n) := by simp [LTk]
theorem LT_cons {n m i : Nat} (h : m - n ≤ i) (hi : i < m) : LTk n m i = fK i :: LTk n m (i + 1) := by
  unfold LTk
  rw [Nat.max_eq_left h, Nat.max_eq_left (by omega), List.drop_eq_getElem_cons (by simpa using hi)]
  simp
theorem LT_pos {n m i : Nat} (h : (m : Int) - n ≤ i) (hi : i < m) : 0 < (LTk n m i).length := by rw [LT_cons (by omega) hi]; simp
theorem LT_idx {n m i : Nat} (h : (m : Int) - n ≤ i) (hi : i < m) : idxI (eqK 0 (i : Int)) (LTk n m i) = ((0 : Nat) : Int) :=
  idxI_at kD (LT_pos h hi) (by rw [LT_cons (by omega) hi]; simp [eqK, fK]) (fun j hj => absurd hj (Nat.not_lt_zero _))
theorem LT_get {n m i : Nat} (h : (m : Int) - n ≤ i) (hi : i < m) : ((LTk n m i).getD 0 kD).2.2 = blkL 32 i := by rw [LT_cons (by omega) hi, List.getD_cons_zero, fK]
theorem LT_next {n m i : Nat} (h : (m : Int) - n ≤ i) (hi : i < m) : (LTk n m i).take 0 ++ (LTk n m i).drop (0 + 1) = LTk n m (i + 1) := by rw [LT_cons (by omega) hi, List.take_zero, List.nil_append, List.drop_succ_cons, List.drop_zero]
theorem LT_keep {n m i : Nat} (h : ¬ (m : Int) - n ≤ i) : LTk n m (i + 1) = LTk n m i := by unfold LTk; rw [Nat.max_eq_right (by omega), Nat.max_eq_right (by omega)]
theorem LT_no {n m i : Nat} (h : ¬ (m : Int) - n ≤ i) : idxI (eqK 0 (i : Int)) (LTk n m i) = -1 := idxI_no fun y hy => eqK_no fun h2 => by
  unfold LTk at hy
  rw [Nat.max_eq_right (by omega)] at hy
  obtain ⟨k, hk, rfl⟩ := List.getElem_of_mem hy
  rw [List.getElem_drop, List.getElem_map, List.getElem_range] at h2
  have h3 : ((m - n + k : Nat) : Int) = (i : Int) := h2.2
  omega
/-! ### Old epochs -/
def fF (xs : List Int) (k : Nat) : Key := (xs.getD k 0 % 10, (k : Int), blkL 32 k)
def LF (xs : List Int) (i : Nat) : List Key := (List.range i).map (fF xs)
theorem LF_zero {xs : List Int} : LF xs 0 = [] := rfl
theorem LF_len {xs : List Int} {i : Nat} : (LF xs i).length = i := by simp [LF]
theorem LF_succ {xs : List Int} {i : Nat} : LF xs (i + 1) = LF xs i ++ [fF xs i] := by unfold LF; rw [List.range_succ, List.map_append]; rfl
theorem LF_psh {xs : List Int} {i : Nat} (h : i < 100) : psh 100 (LF xs i) (xs.getD i 0 % 10, (i : Int), blkL 32 i) = LF xs (i + 1) := by
  unfold psh; rw [if_pos (by rw [LF_len]; omega), LF_succ, fF]
theorem LF_mem {xs : List Int} {i : Nat} {y : Key} (h : y ∈ LF xs i) : ∃ k, k < i ∧ y = fF xs k := by
  unfold LF at h
  rw [List.mem_map] at h
  obtain ⟨k, hk, rfl⟩ := h
  exact ⟨k, List.mem_range.1 hk, rfl⟩
theorem LF_no {xs : List Int} {i : Nat} {q : Int} : ∀ y ∈ LF xs i, ¬ (y.1 = q ∧ y.2.1 = (i : Int)) := fun y hy h => by
  obtain ⟨k, hk, rfl⟩ := LF_mem hy
  have h2 : (k : Int) = (i : Int) := h.2
  omega
def DF (xs : List Int) (m : Int) (i : Nat) : Int := (i : Int) - (((LF xs i).filter fun x => !ltK m x).length : Int)
theorem DF_bd (xs : List Int) (m : Int) (i : Nat) : 0 ≤ DF xs m i ∧ DF xs m i ≤ i := by
  have h := List.length_filter_le (fun x => !ltK m x) (LF xs i)
  rw [LF_len] at h
  unfold DF; omega
theorem DF_lt {xs : List Int} {m : Int} {i : Nat} (h : xs.getD i 0 % 10 < m) : DF xs m (i + 1) = DF xs m i + 1 := by
  unfold DF
  rw [LF_succ, List.filter_append, List.filter_cons_of_neg (by simp [ltK, fF]; simpa using h), List.filter_nil, List.append_nil]
  omega
theorem DF_ge {xs : List Int} {m : Int} {i : Nat} (h : ¬ xs.getD i 0 % 10 < m) : DF xs m (i + 1) = DF xs m i := by
  unfold DF
  rw [LF_succ, List.filter_append, List.filter_cons_of_pos (by simp [ltK, fF]; simpa using h), List.filter_nil, List.length_append, List.length_singleton]
  omega
theorem flt_idem {α : Type} (p : α → Bool) (l : List α) : (l.filter p).filter p = l.filter p := by simp
theorem idx_pos {α : Type} {p : α → Bool} {es : List α} {x : α} (hx : x ∈ es) (hp : p x = true) : idxI p es ≥ 0 := by
  unfold idxI
  split
  · omega
  · rename_i h
    rw [List.findIdx?_eq_none_iff] at h
    rw [h x hx] at hp; cases hp
theorem LG_has {xs : List Int} {m : Int} {i n : Nat} (hi : i < n) : decide (idxI (eqK (xs.getD i 0 % 10) (i : Int)) ((LF xs n).filter fun x => !ltK m x) ≥ 0) = decide (xs.getD i 0 % 10 ≥ m) := by
  by_cases h : xs.getD i 0 % 10 ≥ m
  · rw [decide_eq_true h, decide_eq_true]
    refine idx_pos (x := fF xs i) (List.mem_filter.2 ⟨List.mem_map.2 ⟨i, List.mem_range.2 hi, rfl⟩, ?_⟩) ?_
    · unfold ltK; rw [decide_eq_false (by show ¬ xs.getD i 0 % 10 < m; omega)]; rfl
    · unfold eqK fF; rw [decide_eq_true rfl, decide_eq_true rfl]; rfl
  · rw [decide_eq_false h]
    refine idx_neg fun y hy => eqK_no fun h2 => ?_
    obtain ⟨h3, h4⟩ := List.mem_filter.1 hy
    obtain ⟨k, hk, rfl⟩ := LF_mem h3
    have h5 : (k : Int) = (i : Int) := h2.2
    have h6 : k = i := by omega
    subst h6
    rw [show ltK m (fF xs k) = true from decide_eq_true (by show xs.getD k 0 % 10 < m; omega)] at h4
    cases h4
end Go.X
