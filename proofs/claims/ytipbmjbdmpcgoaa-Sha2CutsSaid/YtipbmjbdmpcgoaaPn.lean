/-
  A row of pieces of one row of bytes.
-/
import Derived.Test.YtipbmjbdmpcgoaaX16
import Derived.Test.YtipbmjbdmpcgoaaPy
set_option linter.unusedVariables false
set_option maxRecDepth 100000
namespace Go.X
def slcF (a : Value) (pq : Nat × Nat) : Value := match a with
  | .slice p n c => slc (.slice p n c) pq.1 pq.2
  | _ => nilS
theorem slcF_one (a : Value) (u : Nat × Nat) : (slcF a u).oneCell' = true := by cases a <;> rfl
theorem slcF_eq {w : World} {a : Value} {xs : List Value} (h : Rd w a xs) (p q : Nat) : slcF a (p, q) = slc a p q := by
  obtain ⟨b, c, rfl, _⟩ := h; rfl
def cutL (l : List UInt8) (pq : Nat × Nat) : List UInt8 := (l.take pq.2).drop pq.1
def CutP (l : List UInt8) (L : List (Nat × Nat)) (p : Nat) : Prop :=
  (∀ x ∈ L, x.1 ≤ x.2 ∧ x.2 ≤ l.length) ∧ (L.map (cutL l)).flatten = l.take p ∧ p ≤ l.length
theorem CutP.nil (l : List UInt8) : CutP l [] 0 := ⟨by simp, by simp, by omega⟩
theorem CutP.step {l : List UInt8} {L : List (Nat × Nat)} {p q : Nat} (h : CutP l L p) (hp : p ≤ q) (hq : q ≤ l.length) : CutP l (L ++ [(p, q)]) q := by
  refine ⟨?_, ?_, hq⟩
  · intro x hx
    rcases List.mem_append.1 hx with h1 | h1
    · exact h.1 x h1
    · rw [List.mem_singleton.1 h1]; exact ⟨hp, hq⟩
  · rw [List.map_append, List.flatten_append, h.2.1]
    simp only [List.map_cons, List.map_nil, List.flatten_cons, List.flatten_nil, List.append_nil, cutL]
    have h9 := List.take_append_drop p (l.take q)
    rw [List.take_take, Nat.min_eq_left hp] at h9
    exact h9
theorem CutP.all {l : List UInt8} {L : List (Nat × Nat)} (h : CutP l L l.length) : (L.map (cutL l)).flatten = l := by rw [h.2.1, List.take_length]
theorem CutP.rl {w : World} {a s : Value} {l : List UInt8} {L : List (Nat × Nat)} {p : Nat} (ha : Bs w a l) (h : CutP l L p) (hs : Rd w s (L.map (slcF a))) : Rl w s (L.map (slcF a)) (L.map (cutL l)) := by
  refine ⟨hs, by simp, fun i hi => ?_⟩
  rw [List.length_map] at hi
  have e1 : (L.map (slcF a)).getD i nilS = slcF a (L[i].1, L[i].2) := by simp [hi]
  have e2 : (L.map (cutL l)).getD i [] = cutL l (L[i].1, L[i].2) := by simp [hi]
  have h3 := h.1 L[i] (List.getElem_mem hi)
  rw [e1, e2, slcF_eq ha]
  exact Bs.slc ha h3.1 h3.2
end Go.X
