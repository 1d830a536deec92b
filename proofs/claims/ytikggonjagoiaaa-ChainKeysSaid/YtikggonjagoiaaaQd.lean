import Derived.Test.YtikggonjagoiaaaPB
import Derived.Test.YtikggonjagoiaaaX20
/-
  Plain functions of chains of keys. No program here.
-/
set_option linter.unusedVariables false
set_option maxRecDepth 100000
namespace Go.X
/-- The key behind so many steps. -/
def chK (key : List UInt8) : Nat → List UInt8
  | 0 => key
  | n + 1 => macL (chK key n) [2]
/-- The message key of an index. -/
def chM (key : List UInt8) (n : Nat) : List UInt8 := macL (chK key n) [1]
theorem chM_len (key : List UInt8) (n : Nat) : (chM key n).length = 32 := macL_len _ _
theorem chK_len (key : List UInt8) (h : key.length = 32) : ∀ n, (chK key n).length = 32
  | 0 => h
  | n + 1 => macL_len _ _
theorem chK_add (key : List UInt8) (n : Nat) : ∀ m, chK (chK key n) m = chK key (n + m)
  | 0 => rfl
  | m + 1 => by show macL (chK (chK key n) m) [2] = macL (chK key (n + m)) [2]; rw [chK_add key n m]
theorem chM_add (key : List UInt8) (n m : Nat) : chM (chK key n) m = chM key (n + m) := by unfold chM; rw [chK_add]
/-- The message keys from one to another. -/
def chR (key : List UInt8) (n m : Nat) : List (List UInt8) := (List.range m).map fun i => chM key (n + i)
theorem chR_len (key : List UInt8) (n m : Nat) : (chR key n m).length = m := by simp [chR]
theorem chR_succ (key : List UInt8) (n m : Nat) : chR key n (m + 1) = chR key n m ++ [chM key (n + m)] := by simp [chR, List.range_succ]
theorem chR_get (key : List UInt8) (n m i : Nat) (h : i < m) : (chR key n m).getD i [] = chM key (n + i) := by
  rw [chR, List.getD_eq_getElem?_getD, List.getElem?_map, List.getElem?_range h]; rfl
/-- A chain in memory. -/
def chS (s : Value) (n : Nat) : Segs := [(0, 1, [s]), (1, 1, [I (n : Int)])]
theorem Bs.live {w : World} {s : Value} {l : List UInt8} (h : Bs w s l) (hl : 0 < l.length) : Live w s.ownBlock := fun k hk => Rd.own_lt h (by simpa using hl) hk
/-- A key in memory that is younger than a world. -/
def KeyF (base TK TH E : Nat) (w : World) (bk : Nat) (key : List UInt8) : Prop :=
  ∃ bi si bo so, Cel w bk TK [(0, 1, [.pointer (some ⟨bi, 0, none⟩)]), (1, 1, [.pointer (some ⟨bo, 0, none⟩)])] ∧ Cel w bi TH (hseg (padL 54 key) si) ∧ Ob base E w si (restL (padL 54 key)) ∧ Ap (some bi) si.ownBlock ∧ Cel w bo TH (hseg (padL 92 key) so) ∧ Ob base E w so (restL (padL 92 key)) ∧ Ap (some bo) so.ownBlock ∧ Fr base (some bk) ∧ Fr base (some bi) ∧ Fr base (some bo)
theorem KeyF.p {base TK TH E w bk key} (h : KeyF base TK TH E w bk key) : KeyP TK TH E w bk key := by
  obtain ⟨bi, si, bo, so, h1, h2, h3, h4, h5, h6, h7, _⟩ := h
  exact ⟨bi, si, bo, so, h1, h2, h3.base (Nat.zero_le _), h4, h5, h6.base (Nat.zero_le _), h7⟩
theorem KeyF.ext {base TK TH E w w' bk key} (h : KeyF base TK TH E w bk key) (he : Ext w w') : KeyF base TK TH E w' bk key := by
  obtain ⟨bi, si, bo, so, h1, h2, h3, h4, h5, h6, h7, h8⟩ := h
  exact ⟨bi, si, bo, so, h1.ext he, h2.ext he, h3.ext he, h4, h5.ext he, h6.ext he, h7, h8⟩
theorem KeyF.tnk {base TK TH E w w' bk key rs} (h : KeyF base TK TH E w bk key) (hg : Tn rs w w') (hl : LoL base rs) : KeyF base TK TH E w' bk key := by
  obtain ⟨bi, si, bo, so, h1, h2, h3, h4, h5, h6, h7, h8, h9, h10⟩ := h
  exact ⟨bi, si, bo, so, h1.tnk hg (hl.apl h8), h2.tnk hg (hl.apl h9), h3.tnk hg (hl.apl h3.fr), h4, h5.tnk hg (hl.apl h10), h6.tnk hg (hl.apl h6.fr), h7, h8, h9, h10⟩
theorem KeyF.gbk {base TK TH E w w' bk key r} (h : KeyF base TK TH E w bk key) (hg : w.grownBy w' r) (hl : Lo base r) : KeyF base TK TH E w' bk key := h.tnk (Tn.ofGB hg) (LoL.one hl)
/-- Why an index may not be asked. -/
def mayK (n k : Int) : Int := if k < n then 5 else if k > n + 40 then 6 else 0
theorem mayK_old {n k : Int} (h : k < n) : mayK n k = 5 := if_pos h
theorem mayK_far {n k : Int} (h : ¬ k < n) (h2 : k > n + 40) : mayK n k = 6 := by rw [mayK, if_neg h, if_pos h2]
theorem mayK_ok {n k : Int} (h : ¬ k < n) (h2 : ¬ k > n + 40) : mayK n k = 0 := by rw [mayK, if_neg h, if_neg h2]
theorem mayK_zero {n k : Int} (h : mayK n k = 0) : n ≤ k ∧ k ≤ n + 40 := by
  unfold mayK at h
  split at h
  · cases h
  · split at h
    · cases h
    · omega
theorem same_no {ll mm : List (List UInt8)} {k : Nat} (hl : ll.length = mm.length) (h : ¬ ll.getD k [] = mm.getD k []) : false = decide (ll = mm) := by
  symm; rw [decide_eq_false_iff_not]; intro e; subst e; exact h rfl
theorem same_all {ll mm : List (List UInt8)} (hl : ll.length = mm.length) (h : ∀ j, j < ll.length → ll.getD j [] = mm.getD j []) : true = decide (ll = mm) := by
  symm; rw [decide_eq_true_iff]
  apply List.ext_getElem hl
  intro i h1 h2
  have := h i h1
  rwa [List.getD_eq_getElem?_getD, List.getD_eq_getElem?_getD, List.getElem?_eq_getElem h1, List.getElem?_eq_getElem h2] at this
theorem same_len {ll mm : List (List UInt8)} (h : (ll.length : Int) ≠ (mm.length : Int)) : false = decide (ll = mm) := by
  symm; rw [decide_eq_false_iff_not]; intro e; subst e; exact h rfl
end Go.X
