/-
  Small laws beside X4: bytes in rows of the call's own, negated tests.
-/
import Derived.Test.YtipbmjbdmpcgoaaX4
set_option linter.unusedVariables false
set_option linter.unusedSimpArgs false
namespace Go.X
open Go.RowKit
abbrev BB : UInt8 → Value := fun x => B x
/-- A row of bytes of the call's own. -/
abbrev Ob (base : Nat) (E : TypeId) (w : World) (s : Value) (l : List UInt8) : Prop := Ow base E w s (l.map fun x => B x)
theorem rep_B (n : Nat) : List.replicate n (Value.int .u8 0) = (List.replicate n (0 : UInt8)).map fun x => B x := by simp
theorem one_B (l : List UInt8) : ∀ v ∈ l.map (fun x => B x), v.oneCell' = true := by
  intro v hv
  obtain ⟨x, _, rfl⟩ := List.mem_map.1 hv
  rfl
section
variable {P : Program} {N : Nat} {ds : List Deferred} {σ : Env} {w : World}
theorem Yd.not_dec {ty t x p} [Decidable p] (hx : ev σ x = some (.bool (decide p))) : Yd P σ (.unOp .not t x) ty (.bool (decide (¬ p))) w := by
  have h := Yd.not (P := P) (w := w) (ty := ty) (t := t) hx
  rwa [show (!decide p) = decide (¬ p) by by_cases h : p <;> simp [h]] at h
theorem Ye.storeOwM {ty x y t e s z by' base i} {α : Type} {f : α → Value} {l : List α} {u : α} (ht : TI P t z 1 by') (ho : Ow base e w s (l.map f)) (hx : ev σ x = some (.pointer (some (adr s i)))) (hy : ev σ y = some (f u)) (hi : i < l.length)
    (hv : ∀ u, (f u).cells = #[f u]) (h1 : ∀ u, (f u).oneCell' = true) :
    Ye P σ (.store t x y) ty w fun _ w1 => Ow base e w1 s ((l.set i u).map f) ∧ w.grownBy w1 s.ownBlock := by
  have h := Ye.storeOw (P := P) (ty := ty) ht hx hy ho (by simpa using hi) (hv u) (h1 u)
  rwa [← List.map_set] at h
/-- Yields what it yields under another spelling. -/
theorem Yd.cast {op ty v v'} (h : Yd P σ op ty v w) (e : v = v') : Yd P σ op ty v' w := e ▸ h
theorem Ye.mono {op ty} {Φ Φ' : Value → World → Prop} (h : Ye P σ op ty w Φ) (hm : ∀ v w1, Φ v w1 → Φ' v w1) : Ye P σ op ty w Φ' := fun N ds a w' dst pos after g next Q hf hs hk =>
  h N ds a w' dst pos after g next Q hf hs fun v w3 w2 hp => hk v w3 w2 (hm _ _ hp)
end
end Go.X
