import Derived.Test.YtphebleabcoakaaPA
import Derived.Test.YtphebleabcoakaaXB
/-
  Rows of rows: each laid over by one byte; whether they are the same. No program here.
-/
set_option linter.unusedVariables false
namespace Go.X
theorem same_no {ll mm : List (List UInt8)} {k : Nat} (hl : ll.length = mm.length) (h : ¬ ll.getD k [] = mm.getD k []) : false = decide (ll = mm) := by
  symm; rw [decide_eq_false_iff_not]; intro e; subst e; exact h rfl
theorem same_all {ll mm : List (List UInt8)} (hl : ll.length = mm.length) (h : ∀ j, j < ll.length → ll.getD j [] = mm.getD j []) : true = decide (ll = mm) := by
  symm; rw [decide_eq_true_iff]
  apply List.ext_getElem hl
  intro i h1 h2
  have := h i h1
  rwa [List.getD_eq_getElem?_getD, List.getD_eq_getElem?_getD, List.getElem?_eq_getElem h1, List.getElem?_eq_getElem h2] at this
theorem same_len {ll mm : List (List UInt8)} (h : (ll.length : Int) ≠ (mm.length : Int)) : false = decide (ll = mm) := by
  symm; rw [decide_eq_false_iff_not]; intro e; subst e; exact h rfl
def turnF (m : UInt8) (l : List UInt8) (j : Nat) : UInt8 := l.getD j 0 ^^^ m
/-- Each byte laid over. -/
def turnL (m : UInt8) (l : List UInt8) : List UInt8 := fillU (turnF m l) l l.length
theorem turnL_len (m : UInt8) (l : List UInt8) : (turnL m l).length = l.length := fillU_len _ _ _
theorem turnL_get (m : UInt8) {l : List UInt8} {j : Nat} (h : j < l.length) : (turnL m l).getD j 0 = l.getD j 0 ^^^ m := fillU_lt _ _ _ _ _ h h
theorem takeMap_succ (G : List UInt8 → List UInt8) {ll : List (List UInt8)} {k : Nat} (h : k < ll.length) : (ll.take (k + 1)).map G = (ll.take k).map G ++ [G (ll.getD (k : Int).toNat [])] := by
  rw [Int.toNat_natCast, List.take_succ_eq_append_getElem h, List.map_append, List.getD_eq_getElem?_getD, List.getElem?_eq_getElem h]; rfl
theorem mapG_get (G : List UInt8 → List UInt8) {ll : List (List UInt8)} {k : Nat} (h : k < ll.length) : (ll.map G).getD k [] = G (ll.getD k []) := by
  rw [List.getD_eq_getElem?_getD, List.getD_eq_getElem?_getD, List.getElem?_map, List.getElem?_eq_getElem h]; rfl
theorem flat_get {ll : List (List UInt8)} {k : Nat} (h : k < ll.length) : (ll.getD k []).length ≤ ll.flatten.length := by
  have h1 := flat_step ll k h
  have h2 := flat_le ll (k + 1)
  omega
end Go.X
