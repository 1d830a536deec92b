import Derived.Test.YtfefphcmfhabiaaQm
import Derived.Test.YtfefphcmfhabiaaQy
/-
  The skipped keys as bytes, and bytes as skipped keys. No program here.
-/
set_option linter.unusedVariables false
namespace Go.X
/-! ### What turns beside a store -/
theorem Tn.th {base : Nat} {rs : List (Option Nat)} {w w1 w2 : World} (h : Tn rs w w1) (ht : Th base w1 w2) (hb : w.heap.size ≤ base) : Tn rs w w2 := by
  obtain ⟨qs, h1, h2⟩ := ht; exact Tn.tnk h (fun q hq => .inr (Fr.le (h1 q hq) hb)) h2
theorem Cel.th {base : Nat} {w w' : World} {c T S} (h : Cel w c T S) (ht : Th base w w') (hc : c < base) : Cel w' c T S := by
  obtain ⟨rs, h1, h2⟩ := ht; exact h.tnk h2 (fun q hq k e1 e2 => by cases e1; have := h1 q hq _ e2; omega)
theorem Rd.th {base : Nat} {w w' : World} {s xs} (h : Rd w s xs) (ht : Th base w w') (hl : Lo base s.ownBlock) : Rd w' s xs := by
  obtain ⟨rs, h1, h2⟩ := ht; exact Rd.tnk h h2 (fun q hq k e1 e2 => by have := h1 q hq _ e2; have := hl k e1; omega)
theorem Ow.th {base base0 E : Nat} {w w' : World} {s xs} (h : Ow base0 E w s xs) (ht : Th base w w') (hl : Lo base s.ownBlock) : Ow base0 E w' s xs := by
  obtain ⟨rs, h1, h2⟩ := ht; exact Ow.tnk h h2 (fun q hq k e1 e2 => by have := h1 q hq _ e2; have := hl k e1; omega)
theorem Rdr.th {TR base : Nat} {K : Nat → Prop} {w w' : World} {b : Nat} {l : List UInt8} (h : Rdr TR K w b l) (ht : Th base w w') (hk : ∀ k, K k → k < base) : Rdr TR K w' b l := by
  obtain ⟨rs, h1, h2⟩ := ht; exact Rdr.tnk h h2 (fun q hq k e hk2 => by have := h1 q hq _ e; have := hk k hk2; omega)
theorem Th.thb {base b : Nat} {w w' : World} (h : Th base w w') : Thb (Ge base) b w w' := by
  obtain ⟨rs, h1, h2⟩ := h; exact ⟨rs, fun q hq => .inr (h1 q hq), h2⟩
theorem Thb.one {K : Nat → Prop} {b : Nat} {w w' : World} (h : Tn [some b] w w') : Thb K b w w' := ⟨_, fun q hq => by rw [List.mem_singleton] at hq; exact .inl hq, h⟩
theorem Th.size {base : Nat} {w w' : World} (h : Th base w w') : w.heap.size ≤ w'.heap.size := by obtain ⟨rs, _, h2⟩ := h; exact h2.size
theorem Th.refl (base : Nat) (w : World) : Th base w w := ⟨[], (fun _ h => by cases h), Tn.refl _ _⟩
theorem Ext.Th {base : Nat} {w w' : World} (h : Ext w w') : Th base w w' := ⟨[], (fun _ h => by cases h), h.tn _⟩
theorem KR.lo {w w' : World} {b base : Nat} {s : Option Nat} {x : Ent} {y : Key} {rs : List (Option Nat)} (h : KR w b s base x y) (ht : Tn rs w w') (hrs : LoL base rs) : KR w' b s base x y :=
  ⟨h.c, h.m, Rd.tnk h.bs ht (fun q hq k e1 e2 => by have := h.fr k e1; have := hrs q hq k e2; omega), h.live.ext ht.size, h.fr, h.apb, h.aps⟩
theorem Sk.lo {TS ES base b : Nat} {w w' : World} {n : Int} {L : List Key} {rs : List (Option Nat)} (h : Sk TS ES base w b n L) (ht : Tn rs w w') (hrs : LoL base rs) : Sk TS ES base w' b n L := by
  obtain ⟨s, es, h1, h2, h3, h4, h5, h6⟩ := h
  exact ⟨s, es, h1, h2.tnk ht (fun q hq k e1 e2 => by cases e1; have := hrs q hq _ e2; omega), h3.tnk ht (fun q hq k e1 e2 => by have := h4 k e1; have := hrs q hq _ e2; omega), h4, h5, h6.mono fun a b h => h.lo ht hrs⟩
theorem LoL.of1 {base b : Nat} (h : b < base) : LoL base [some b] := LoL.one (fun k e => by cases e; exact h)
/-! ### A store as bytes -/
def encK (y : Key) : List UInt8 := putN (UInt64.ofNat y.1.toNat) ++ putN (UInt64.ofNat y.2.1.toNat) ++ y.2.2
def KOK (L : List Key) : Prop := ∀ y ∈ L, wiK y.1 ∧ wiK y.2.1 ∧ y.2.2.length = 32
def savB (n : Int) (L : List Key) : List UInt8 := [] ++ putN (UInt64.ofNat n.toNat) ++ putN (UInt64.ofNat L.length) ++ L.flatMap encK
theorem encK_len {y : Key} (h : y.2.2.length = 32) : (encK y).length ≤ 52 := by
  have h1 := putN_len (UInt64.ofNat y.1.toNat)
  have h2 := putN_len (UInt64.ofNat y.2.1.toNat)
  simp only [encK, List.length_append]; omega
theorem encKs_len : ∀ {L : List Key}, KOK L → (L.flatMap encK).length ≤ 52 * L.length
  | [], _ => by simp
  | y :: L, h => by
    have h1 := encK_len (h y (by simp)).2.2
    have h2 := encKs_len (L := L) (fun z hz => h z (by simp [hz]))
    simp only [List.flatMap_cons, List.length_append, List.length_cons]; omega
theorem KOK.app {L M : List Key} (h : KOK L) (k : KOK M) : KOK (L ++ M) := fun y hy => (List.mem_append.1 hy).elim (h y) (k y)
theorem KOK.take {L : List Key} (h : KOK L) (i : Nat) : KOK (L.take i) := fun y hy => h y (List.mem_of_mem_take hy)
theorem KOK.drop {L : List Key} (h : KOK L) (i : Nat) : KOK (L.drop i) := fun y hy => h y (List.mem_of_mem_drop hy)
theorem KOK.filter {L : List Key} (h : KOK L) (p : Key → Bool) : KOK (L.filter p) := fun y hy => h y (List.mem_filter.1 hy).1
theorem KOK.one {i j : Int} {l : List UInt8} (h : wiK i ∧ wiK j ∧ l.length = 32) : KOK [((i, j, l) : Key)] := fun y hy => by rw [List.mem_singleton] at hy; subst hy; exact h
theorem encK_take {L : List Key} {i : Nat} (hi : i < L.length) : (L.take (i + 1)).flatMap encK = (L.take i).flatMap encK ++ encK (L.getD i kD) := by
  rw [take_succD kD hi, List.flatMap_append]; simp
theorem savB_len {n : Int} {L : List Key} (h : KOK L) : (savB n L).length ≤ 20 + 52 * L.length := by
  have h1 := putN_len (UInt64.ofNat n.toNat)
  have h2 := putN_len (UInt64.ofNat L.length)
  have h3 := encKs_len h
  simp only [savB, List.length_append, List.length_nil]; omega
/-! ### One key more -/
def putV (n : Int) (L : List Key) (i j : Int) (l : List UInt8) : Int × Int × List Key :=
  if wiK i ∧ wiK j ∧ l.length = 32 then (if idxI (eqK i j) L ≥ 0 then (0, 8, L) else (pshR n L, 0, psh n L (i, j, l))) else (0, 1, L)
theorem idx_all {i j : Int} {L : List Key} (h : ¬ idxI (eqK i j) L ≥ 0) : ∀ y ∈ L, ¬ (y.1 = i ∧ y.2.1 = j) := fun y hy h2 => h (idx_pos hy (by unfold eqK; simp [h2]))
/-! ### Bytes as a store -/
def rdKs (m : Int) : Nat → List Key → List UInt8 → Option (List Key × List UInt8)
  | 0, L, c => some (L, c)
  | n + 1, L, c =>
    match rdT 1099511627776 c with
    | none => none
    | some (e, c1) =>
      match rdT 1099511627776 c1 with
      | none => none
      | some (i, c2) => if 32 ≤ c2.length ∧ ¬ idxI (eqK (e : Int) (i : Int)) L ≥ 0 ∧ (L.length : Int) < m then rdKs m n (L ++ [((e : Int), (i : Int), c2.take 32)]) (c2.drop 32) else none
theorem rdKs_no1 {m : Int} {n : Nat} {L : List Key} {c : List UInt8} (h : rdT 1099511627776 c = none) : rdKs m (n + 1) L c = none := by
  unfold rdKs; rw [h]
theorem rdKs_no2 {m : Int} {n e : Nat} {L : List Key} {c c1 : List UInt8} (h : rdT 1099511627776 c = some (e, c1)) (h2 : rdT 1099511627776 c1 = none) : rdKs m (n + 1) L c = none := by
  unfold rdKs; rw [h]; simp only; rw [h2]
theorem rdKs_step {m : Int} {n e i : Nat} {L : List Key} {c c1 c2 : List UInt8} (h : rdT 1099511627776 c = some (e, c1)) (h2 : rdT 1099511627776 c1 = some (i, c2)) : rdKs m (n + 1) L c = if 32 ≤ c2.length ∧ ¬ idxI (eqK (e : Int) (i : Int)) L ≥ 0 ∧ (L.length : Int) < m then rdKs m n (L ++ [((e : Int), (i : Int), c2.take 32)]) (c2.drop 32) else none := by
  rw [rdKs]; rw [h]; simp only; rw [h2]
theorem rdKs_back {m : Int} : ∀ {n : Nat} {L L' : List Key} {c r : List UInt8}, rdKs m n L c = some (L', r) → ∃ E : List Key, L' = L ++ E ∧ c = E.flatMap encK ++ r ∧ E.length = n ∧ KOK E ∧ (n = 0 ∨ (L'.length : Int) ≤ m)
  | 0, L, L', c, r, h => by
    rw [rdKs] at h; cases h
    exact ⟨[], by simp, by simp, rfl, (fun y hy => by cases hy), .inl rfl⟩
  | n + 1, L, L', c, r, h => by
    cases h1 : rdT 1099511627776 c with
    | none => rw [rdKs_no1 h1] at h; cases h
    | some p =>
      obtain ⟨e, c1⟩ := p
      cases h2 : rdT 1099511627776 c1 with
      | none => rw [rdKs_no2 h1 h2] at h; cases h
      | some p2 =>
        obtain ⟨i, c2⟩ := p2
        rw [rdKs_step h1 h2] at h
        split at h
        · next hc =>
          obtain ⟨E, h3, h4, h5, h6, h7⟩ := rdKs_back h
          obtain ⟨_, _, _, _, a1, _, a2, _⟩ := rdT_some h1
          obtain ⟨_, _, _, _, b1, _, b2, _⟩ := rdT_some h2
          refine ⟨((e : Int), (i : Int), c2.take 32) :: E, by rw [h3, List.append_assoc]; rfl, ?_, by rw [List.length_cons, h5], ?_, .inr ?_⟩
          · rw [a2, b2, List.flatMap_cons]
            simp only [encK, Int.toNat_natCast, List.append_assoc]
            rw [← h4, List.take_append_drop]
          · intro y hy
            rcases List.mem_cons.1 hy with rfl | hy
            · exact ⟨⟨by show (0 : Int) ≤ (e : Int); omega, by show (e : Int) ≤ 1099511627776; omega⟩, ⟨by show (0 : Int) ≤ (i : Int); omega, by show (i : Int) ≤ 1099511627776; omega⟩, by show (c2.take 32).length = 32; rw [List.length_take]; omega⟩
            · exact h6 y hy
          · rcases h7 with h7 | h7
            · have e0 : E = [] := List.length_eq_zero_iff.1 (by omega)
              rw [h3, e0]
              simp only [List.append_nil, List.length_append, List.length_singleton]
              omega
            · exact h7
        · cases h
/-- The store whose bytes they are. -/
def skR (b : List UInt8) : Option (Int × List Key) :=
  match rdT 1000 b with
  | none => none
  | some (m, c1) =>
    match rdT 1000 c1 with
    | none => none
    | some (n, c2) => if 1 ≤ m ∧ n ≤ m then (match rdKs (m : Int) n [] c2 with | some (L, []) => some ((m : Int), L) | _ => none) else none
/-- What the program's reader does: so many at most, so many keys, what is left. -/
def ldR (b : List UInt8) : Option (Int × List Key × List UInt8) :=
  match rdT 1099511627776 b with
  | none => none
  | some (m, c1) =>
    if 1 ≤ m ∧ m ≤ 1000 then
      (match rdT 1099511627776 c1 with
      | none => none
      | some (n, c2) => match rdKs (m : Int) n [] c2 with | some (L, r) => some ((m : Int), L, r) | none => none)
    else none
theorem rdT_more {t t' : Nat} {l r : List UInt8} {n : Nat} (h : rdT t l = some (n, r)) (ht : n ≤ t') : rdT t' l = some (n, r) := by
  obtain ⟨q, k, h1, h2, _, h4, _, _⟩ := rdT_some h
  unfold rdT; rw [h1]; simp only; rw [if_pos (by omega), h2, h4]
theorem ld_sk {b : List UInt8} {m : Int} {L : List Key} (h : ldR b = some (m, L, [])) : skR b = some (m, L) ∧ (1 ≤ m ∧ m ≤ 1000) ∧ (L.length : Int) ≤ m ∧ KOK L ∧ b = savB m L := by
  unfold ldR at h
  cases h1 : rdT 1099511627776 b with
  | none => rw [h1] at h; cases h
  | some p =>
    obtain ⟨m0, c1⟩ := p
    rw [h1] at h; simp only at h
    split at h
    · next hm =>
      cases h2 : rdT 1099511627776 c1 with
      | none => rw [h2] at h; cases h
      | some p2 =>
        obtain ⟨n, c2⟩ := p2
        rw [h2] at h; simp only at h
        cases h3 : rdKs (m0 : Int) n [] c2 with
        | none => rw [h3] at h; cases h
        | some p3 =>
          obtain ⟨L0, r⟩ := p3
          rw [h3] at h
          cases h
          obtain ⟨E, e1, e2, e3, e4, e5⟩ := rdKs_back h3
          rw [List.nil_append] at e1
          subst e1
          have hn : n ≤ m0 := by
            rcases e5 with e5 | e5
            · omega
            · omega
          have g1 := rdT_more h1 (show m0 ≤ 1000 by omega)
          have g2 := rdT_more h2 (show n ≤ 1000 by omega)
          refine ⟨?_, by omega, by omega, e4, ?_⟩
          · unfold skR
            rw [g1]; simp only; rw [g2]; simp only; rw [if_pos ⟨hm.1, hn⟩, h3]
          · obtain ⟨_, _, _, _, _, _, a2, _⟩ := rdT_some h1
            obtain ⟨_, _, _, _, _, _, b2, _⟩ := rdT_some h2
            rw [List.append_nil] at e2
            unfold savB
            rw [a2, b2, e2, e3, Int.toNat_natCast]; simp
    · cases h
theorem sk_ld {b : List UInt8} {m : Int} {L : List Key} (h : skR b = some (m, L)) : ldR b = some (m, L, []) := by
  unfold skR at h
  cases h1 : rdT 1000 b with
  | none => rw [h1] at h; cases h
  | some p =>
    obtain ⟨m0, c1⟩ := p
    rw [h1] at h; simp only at h
    cases h2 : rdT 1000 c1 with
    | none => rw [h2] at h; cases h
    | some p2 =>
      obtain ⟨n, c2⟩ := p2
      rw [h2] at h; simp only at h
      split at h
      · next hm =>
        cases h3 : rdKs (m0 : Int) n [] c2 with
        | none => rw [h3] at h; cases h
        | some p3 =>
          obtain ⟨L0, r⟩ := p3
          rw [h3] at h
          cases r with
          | cons x r => cases h
          | nil =>
            cases h
            obtain ⟨_, _, _, _, a1, _⟩ := rdT_some h1
            obtain ⟨_, _, _, _, b1, _⟩ := rdT_some h2
            unfold ldR
            rw [rdT_more h1 (show m0 ≤ 1099511627776 by omega)]; simp only
            rw [if_pos ⟨hm.1, a1⟩, rdT_more h2 (show n ≤ 1099511627776 by omega)]; simp only
            rw [h3]
      · cases h
theorem sk_no {b : List UInt8} (h : ∀ m L, ldR b ≠ some (m, L, [])) : skR b = none := by
  cases h1 : skR b with
  | none => rfl
  | some p => exact absurd (sk_ld (m := p.1) (L := p.2) h1) (h _ _)
/-! ### Writers -/
theorem Wr.mono {TW E : Nat} {K K' : Nat → Prop} {w : World} {b : Nat} {l : List UInt8} (h : Wr TW E K w b l) (hk : ∀ k, K k → K' k) : Wr TW E K' w b l := by
  obtain ⟨s, h2, h3, h4, h5⟩ := h; exact ⟨s, h2, h3, fun k e => hk k (h4 k e), h5⟩
theorem Wr.ge {TW E n m : Nat} {w : World} {b : Nat} {l : List UInt8} (h : Wr TW E (Ge n) w b l) (hm : m ≤ n) : Wr TW E (Ge m) w b l := h.mono fun k hk => Nat.le_trans hm hk
theorem Wr.kge {TW E n : Nat} {w w' : World} {a : Option Nat} {b : Nat} {l : List UInt8} (h : Wr TW E (Kn w a) w' b l) (hn : n ≤ w.heap.size) (ha : Fr n a) : Wr TW E (Ge n) w' b l := h.mono fun k hk => hk.elim (fun e => ha k e) (fun e => Nat.le_trans hn e)
theorem Cel.s3 {w : World} {b T : Nat} {x y z : Value} (h : Cel w b T [(0, 3, [x, y, z])]) : Cel w b T [(0, 1, [x]), (1, 1, [y]), (2, 1, [z])] := by
  obtain ⟨L, h1, h2, _⟩ := h
  obtain ⟨_, h3, e0⟩ := h2
  simp only [] at e0
  match L, e0, h3 with
  | a :: b :: c :: r, e0, h3 =>
    simp at e0
    obtain ⟨rfl, rfl, rfl⟩ := e0
    exact ⟨_, h1, ⟨rfl, by simp, by simp⟩, ⟨rfl, by simp, by simp⟩, ⟨rfl, by simp, by simp⟩, trivial⟩
  | [], e0, _ => simp at e0
  | [a], e0, _ => simp at e0
  | [a, b], e0, _ => simp at e0
/-! ### Cases of what is read -/
theorem ldR_yes {b : List UInt8} {m : Int} {L : List Key} {r : List UInt8} (h : ldR b = some (m, L, r)) : ∃ m0 c1 n c2, rdT 1099511627776 b = some (m0, c1) ∧ (1 ≤ m0 ∧ m0 ≤ 1000) ∧ rdT 1099511627776 c1 = some (n, c2) ∧ rdKs (m0 : Int) n [] c2 = some (L, r) ∧ m = (m0 : Int) := by
  unfold ldR at h
  cases h1 : rdT 1099511627776 b with
  | none => rw [h1] at h; cases h
  | some p =>
    obtain ⟨m0, c1⟩ := p
    rw [h1] at h; simp only at h
    split at h
    · next hm =>
      cases h2 : rdT 1099511627776 c1 with
      | none => rw [h2] at h; cases h
      | some p2 =>
        obtain ⟨n, c2⟩ := p2
        rw [h2] at h; simp only at h
        cases h3 : rdKs (m0 : Int) n [] c2 with
        | none => rw [h3] at h; cases h
        | some p3 =>
          obtain ⟨L0, r0⟩ := p3
          rw [h3] at h
          cases h
          exact ⟨m0, c1, n, c2, rfl, hm, h2, h3, rfl⟩
    · cases h
theorem ldR_no {b : List UInt8} (h : ldR b = none) : rdT 1099511627776 b = none ∨ (∃ m0 c1, rdT 1099511627776 b = some (m0, c1) ∧ ¬ 1 ≤ m0) ∨ (∃ m0 c1, rdT 1099511627776 b = some (m0, c1) ∧ ¬ m0 ≤ 1000) ∨ (∃ m0 c1, rdT 1099511627776 b = some (m0, c1) ∧ (1 ≤ m0 ∧ m0 ≤ 1000) ∧ rdT 1099511627776 c1 = none) ∨
    ∃ m0 c1 n c2, rdT 1099511627776 b = some (m0, c1) ∧ (1 ≤ m0 ∧ m0 ≤ 1000) ∧ rdT 1099511627776 c1 = some (n, c2) ∧ rdKs (m0 : Int) n [] c2 = none := by
  unfold ldR at h
  cases h1 : rdT 1099511627776 b with
  | none => exact .inl rfl
  | some p =>
    obtain ⟨m0, c1⟩ := p
    rw [h1] at h; simp only at h
    by_cases hm : 1 ≤ m0
    · by_cases hm2 : m0 ≤ 1000
      · rw [if_pos ⟨hm, hm2⟩] at h
        cases h2 : rdT 1099511627776 c1 with
        | none => exact .inr (.inr (.inr (.inl ⟨m0, c1, rfl, ⟨hm, hm2⟩, h2⟩)))
        | some p2 =>
          obtain ⟨n, c2⟩ := p2
          rw [h2] at h; simp only at h
          cases h3 : rdKs (m0 : Int) n [] c2 with
          | none => exact .inr (.inr (.inr (.inr ⟨m0, c1, n, c2, rfl, ⟨hm, hm2⟩, h2, h3⟩)))
          | some p3 => rw [h3] at h; cases h
      · exact .inr (.inr (.inl ⟨m0, c1, rfl, hm2⟩))
    · exact .inr (.inl ⟨m0, c1, rfl, hm⟩)
theorem rdKs_yes {m : Int} {n j : Nat} {L : List Key} {c : List UInt8} {R : List Key × List UInt8} (hj : j < n) (h : rdKs m (n - j) L c = some R) : ∃ e i c1 c2, rdT 1099511627776 c = some (e, c1) ∧ rdT 1099511627776 c1 = some (i, c2) ∧ (32 ≤ c2.length ∧ ¬ idxI (eqK (e : Int) (i : Int)) L ≥ 0 ∧ (L.length : Int) < m) ∧ rdKs m (n - (j + 1)) (L ++ [((e : Int), (i : Int), c2.take 32)]) (c2.drop 32) = some R := by
  rw [show n - j = (n - (j + 1)) + 1 by omega] at h
  cases h1 : rdT 1099511627776 c with
  | none => rw [rdKs_no1 h1] at h; cases h
  | some p =>
    obtain ⟨e, c1⟩ := p
    cases h2 : rdT 1099511627776 c1 with
    | none => rw [rdKs_no2 h1 h2] at h; cases h
    | some p2 =>
      obtain ⟨i, c2⟩ := p2
      rw [rdKs_step h1 h2] at h
      split at h
      · next hc => exact ⟨e, i, c1, c2, rfl, h2, hc, h⟩
      · cases h
theorem rdKs_not {m : Int} {n j : Nat} {L : List Key} {c : List UInt8} (hj : j < n) (h : rdKs m (n - j) L c = none) : rdT 1099511627776 c = none ∨ (∃ e c1, rdT 1099511627776 c = some (e, c1) ∧ rdT 1099511627776 c1 = none) ∨
    (∃ e i c1 c2, rdT 1099511627776 c = some (e, c1) ∧ rdT 1099511627776 c1 = some (i, c2) ∧ ¬ 32 ≤ c2.length) ∨ (∃ e i c1 c2, rdT 1099511627776 c = some (e, c1) ∧ rdT 1099511627776 c1 = some (i, c2) ∧ 32 ≤ c2.length ∧ idxI (eqK (e : Int) (i : Int)) L ≥ 0) ∨
    (∃ e i c1 c2, rdT 1099511627776 c = some (e, c1) ∧ rdT 1099511627776 c1 = some (i, c2) ∧ 32 ≤ c2.length ∧ ¬ idxI (eqK (e : Int) (i : Int)) L ≥ 0 ∧ ¬ (L.length : Int) < m) ∨
    (∃ e i c1 c2, rdT 1099511627776 c = some (e, c1) ∧ rdT 1099511627776 c1 = some (i, c2) ∧ (32 ≤ c2.length ∧ ¬ idxI (eqK (e : Int) (i : Int)) L ≥ 0 ∧ (L.length : Int) < m) ∧ rdKs m (n - (j + 1)) (L ++ [((e : Int), (i : Int), c2.take 32)]) (c2.drop 32) = none) := by
  rw [show n - j = (n - (j + 1)) + 1 by omega] at h
  cases h1 : rdT 1099511627776 c with
  | none => exact .inl rfl
  | some p =>
    obtain ⟨e, c1⟩ := p
    right
    cases h2 : rdT 1099511627776 c1 with
    | none => exact .inl ⟨e, c1, rfl, h2⟩
    | some p2 =>
      obtain ⟨i, c2⟩ := p2
      right
      rw [rdKs_step h1 h2] at h
      by_cases a : 32 ≤ c2.length
      · right
        by_cases b : idxI (eqK (e : Int) (i : Int)) L ≥ 0
        · exact .inl ⟨e, i, c1, c2, rfl, h2, a, b⟩
        · right
          by_cases d : (L.length : Int) < m
          · rw [if_pos ⟨a, b, d⟩] at h
            exact .inr ⟨e, i, c1, c2, rfl, h2, ⟨a, b, d⟩, h⟩
          · exact .inl ⟨e, i, c1, c2, rfl, h2, a, b, d⟩
      · exact .inl ⟨e, i, c1, c2, rfl, h2, a⟩
section
variable {n : Int} {L : List Key} {i j : Int} {l : List UInt8}
theorem putV_bad (h : ¬ (wiK i ∧ wiK j ∧ l.length = 32)) : putV n L i j l = (0, 1, L) := by unfold putV; rw [if_neg h]
theorem putV_dup (h : wiK i ∧ wiK j ∧ l.length = 32) (h2 : idxI (eqK i j) L ≥ 0) : putV n L i j l = (0, 8, L) := by unfold putV; rw [if_pos h, if_pos h2]
theorem putV_new (h : wiK i ∧ wiK j ∧ l.length = 32) (h2 : ¬ idxI (eqK i j) L ≥ 0) : putV n L i j l = (pshR n L, 0, psh n L (i, j, l)) := by unfold putV; rw [if_pos h, if_neg h2]
theorem putV_add (h : wiK i ∧ wiK j ∧ l.length = 32) (h2 : ¬ idxI (eqK i j) L ≥ 0) (h3 : (L.length : Int) < n) : putV n L i j l = (0, 0, L ++ [(i, j, l)]) := by rw [putV_new h h2]; unfold pshR psh; rw [if_pos h3, if_pos h3]
theorem putV_over (h : wiK i ∧ wiK j ∧ l.length = 32) (h2 : ¬ idxI (eqK i j) L ≥ 0) (h3 : ¬ (L.length : Int) < n) : putV n L i j l = (1, 0, (L ++ [(i, j, l)]).drop 1) := by rw [putV_new h h2]; unfold pshR psh; rw [if_neg h3, if_neg h3]
theorem putV_KOK (hK : KOK L) : KOK (putV n L i j l).2.2 := by
  by_cases h : wiK i ∧ wiK j ∧ l.length = 32
  · by_cases h2 : idxI (eqK i j) L ≥ 0
    · rw [putV_dup h h2]; exact hK
    · rw [putV_new h h2]
      show KOK (psh n L (i, j, l))
      unfold psh
      split
      · exact hK.app (KOK.one h)
      · exact (hK.app (KOK.one h)).drop 1
  · rw [putV_bad h]; exact hK
theorem putV_len (hn : 1 ≤ n) (hL : (L.length : Int) ≤ n) : ((putV n L i j l).2.2.length : Int) ≤ n := by
  by_cases h : wiK i ∧ wiK j ∧ l.length = 32
  · by_cases h2 : idxI (eqK i j) L ≥ 0
    · rw [putV_dup h h2]; exact hL
    · rw [putV_new h h2]
      show ((psh n L (i, j, l)).length : Int) ≤ n
      unfold psh
      split
      · rw [List.length_append, List.length_singleton]; omega
      · rw [List.length_drop, List.length_append, List.length_singleton]; omega
  · rw [putV_bad h]; exact hL
end
theorem wiN {e : Nat} (h : e ≤ 1099511627776) : wiK (e : Int) := ⟨by omega, by omega⟩
theorem ld_cases (l : List UInt8) : (ldR l = none ∧ skR l = none) ∨ (∃ m L r, ldR l = some (m, L, r) ∧ ¬ r.length = 0 ∧ skR l = none) ∨ (∃ m L, ldR l = some (m, L, []) ∧ skR l = some (m, L) ∧ (1 ≤ m ∧ m ≤ 1000) ∧ (L.length : Int) ≤ m ∧ KOK L ∧ l = savB m L) := by
  cases h : ldR l with
  | none => exact .inl ⟨rfl, sk_no fun m L h2 => by rw [h] at h2; cases h2⟩
  | some p =>
    obtain ⟨m, L, r⟩ := p
    cases r with
    | nil => obtain ⟨h1, h2, h3, h4, h5⟩ := ld_sk h; exact .inr (.inr ⟨m, L, rfl, h1, h2, h3, h4, h5⟩)
    | cons x r => exact .inr (.inl ⟨m, L, _, rfl, by simp, sk_no fun m' L' h2 => by rw [h] at h2; cases h2⟩)
/-- How the document reads a store. -/
theorem skR_cases (l : List UInt8) : (skR l = none ∧ rdT 1000 l = none) ∨ (∃ m c1, skR l = none ∧ rdT 1000 l = some (m, c1) ∧ rdT 1000 c1 = none) ∨ (∃ m c1 n c2, skR l = none ∧ rdT 1000 l = some (m, c1) ∧ rdT 1000 c1 = some (n, c2) ∧ m < 1) ∨ (∃ m c1 n c2, skR l = none ∧ rdT 1000 l = some (m, c1) ∧ rdT 1000 c1 = some (n, c2) ∧ 1 ≤ m ∧ m < n) ∨
    (∃ m c1 n c2, skR l = none ∧ rdT 1000 l = some (m, c1) ∧ rdT 1000 c1 = some (n, c2) ∧ (1 ≤ m ∧ n ≤ m) ∧ rdKs (m : Int) n [] c2 = none) ∨ (∃ m c1 n c2 L r, skR l = none ∧ rdT 1000 l = some (m, c1) ∧ rdT 1000 c1 = some (n, c2) ∧ (1 ≤ m ∧ n ≤ m) ∧ rdKs (m : Int) n [] c2 = some (L, r) ∧ ¬ r.length = 0) ∨
    (∃ (m : Nat) (c1 : List UInt8) (n : Nat) (c2 : List UInt8) (L : List Key), skR l = some ((m : Int), L) ∧ rdT 1000 l = some (m, c1) ∧ rdT 1000 c1 = some (n, c2) ∧ (1 ≤ m ∧ n ≤ m) ∧ rdKs (m : Int) n [] c2 = some (L, [])) := by
  cases h1 : rdT 1000 l with
  | none => exact .inl ⟨by unfold skR; rw [h1], rfl⟩
  | some p =>
    obtain ⟨m, c1⟩ := p
    right
    cases h2 : rdT 1000 c1 with
    | none => exact .inl ⟨m, c1, by unfold skR; rw [h1]; simp only; rw [h2], rfl, h2⟩
    | some p2 =>
      obtain ⟨n, c2⟩ := p2
      right
      by_cases a : m < 1
      · exact .inl ⟨m, c1, n, c2, by unfold skR; rw [h1]; simp only; rw [h2]; simp only; rw [if_neg (by omega)], rfl, h2, a⟩
      · right
        by_cases b : m < n
        · exact .inl ⟨m, c1, n, c2, by unfold skR; rw [h1]; simp only; rw [h2]; simp only; rw [if_neg (by omega)], rfl, h2, by omega, b⟩
        · right
          have hc : 1 ≤ m ∧ n ≤ m := by omega
          cases h3 : rdKs (m : Int) n [] c2 with
          | none => exact .inl ⟨m, c1, n, c2, by unfold skR; rw [h1]; simp only; rw [h2]; simp only; rw [if_pos hc, h3], rfl, h2, hc, h3⟩
          | some p3 =>
            obtain ⟨L, r⟩ := p3
            right
            cases r with
            | nil => exact .inr ⟨m, c1, n, c2, L, by unfold skR; rw [h1]; simp only; rw [h2]; simp only; rw [if_pos hc, h3], rfl, h2, hc, h3⟩
            | cons x r => exact .inl ⟨m, c1, n, c2, L, x :: r, by unfold skR; rw [h1]; simp only; rw [h2]; simp only; rw [if_pos hc, h3], rfl, h2, hc, h3, by simp⟩
/-- An entry of the document's and a key. -/
def KE (x : Ent) (y : Key) : Prop := x.1 = y.1 ∧ x.2.1 = y.2.1
theorem KE.eq {x : Ent} {y : Key} (h : KE x y) (i j : Int) : eqE i j x = eqK i j y := by unfold eqE eqK; rw [h.1, h.2]
theorem rdKs_bad {m : Int} {n j : Nat} {L : List Key} {c : List UInt8} (hj : j < n) (hL : (L.length : Int) < m) (h : rdKs m (n - j) L c = none) : rdT 1099511627776 c = none ∨ (∃ e c1, rdT 1099511627776 c = some (e, c1) ∧ rdT 1099511627776 c1 = none) ∨
    (∃ e i c1 c2, rdT 1099511627776 c = some (e, c1) ∧ rdT 1099511627776 c1 = some (i, c2) ∧ ¬ 32 ≤ c2.length) ∨ (∃ e i c1 c2, rdT 1099511627776 c = some (e, c1) ∧ rdT 1099511627776 c1 = some (i, c2) ∧ 32 ≤ c2.length ∧ idxI (eqK (e : Int) (i : Int)) L ≥ 0) ∨
    (∃ e i c1 c2, rdT 1099511627776 c = some (e, c1) ∧ rdT 1099511627776 c1 = some (i, c2) ∧ (32 ≤ c2.length ∧ ¬ idxI (eqK (e : Int) (i : Int)) L ≥ 0 ∧ (L.length : Int) < m) ∧ rdKs m (n - (j + 1)) (L ++ [((e : Int), (i : Int), c2.take 32)]) (c2.drop 32) = none) := by
  rcases rdKs_not hj h with h | h | h | h | ⟨_, _, _, _, _, _, _, _, h⟩ | h
  · exact .inl h
  · exact .inr (.inl h)
  · exact .inr (.inr (.inl h))
  · exact .inr (.inr (.inr (.inl h)))
  · exact absurd hL h
  · exact .inr (.inr (.inr (.inr h)))
end Go.X
