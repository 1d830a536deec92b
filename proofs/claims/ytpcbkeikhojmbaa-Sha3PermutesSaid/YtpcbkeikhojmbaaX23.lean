/-
  Arrays of numbers that are the same array compared.
-/
import Derived.Test.YtpcbkeikhojmbaaX21
import Derived.ChangeKeysEq
import Derived.Laws.StructEq
set_option linter.unusedVariables false
namespace Go.X
variable {P : Program} {σ : Env} {w : World}
theorem run_eqItems_same {e : TypeId} {k' : IntKind} (d : Nat) (hu : P.underlying e = some (.int k')) {α : Type} {f : α → Value} (hf : ∀ x, ∃ k m, f x = .int k m) {l : List α} : ∀ (is : List Nat), (∀ i ∈ is, i < l.length) → ∀ w', (Op.eqItems (d + 1) e 1 (l.map f).toArray (l.map f).toArray is).run P w' = .ok true w'
  | [], _, w' => by simp [Op.eqItems]
  | i :: is, h, w' => by
    have hi : i < l.length := h i (by simp)
    have hp : (part e (l.map f).toArray (i * 1)).run P w' = .ok (f l[i]) w' := by
      have ha : plain P e = true := by unfold plain; rw [hu]
      simp [part, run_isAgg ha, hi]
    obtain ⟨k, m, hx⟩ := hf l[i]
    have he : (Op.equalIn (d + 1) e (f l[i]) (f l[i])).run P w' = .ok true w' := by rw [hx, run_equalIn_int w' d e k k' m m hu]; simp
    simp only [Op.eqItems, Sem.run_bind, hp, he, Result.andThen_ok, Bool.not_true, Bool.false_eq_true, if_false]
    exact run_eqItems_same d hu hf is (fun j hj => h j (by simp [hj])) w'
theorem Yd.eqlA {ty t t' e x y} {n : Nat} {k' : IntKind} {z : Value} {by' : Nat} {α : Type} {f : α → Value} {l : List α} (ht : P.underlying t = some (.array n e)) (hu : P.underlying e = some (.int k')) (hz : TI P e z 1 by') (hg : P.eqGuardType P.depth t = false)
    (hf : ∀ x, ∃ k m, f x = .int k m) (hl : l.length = n) (hx : ev σ x = some (Ag f l)) (hy : ev σ y = some (Ag f l)) : Yd P σ (.binOp .eql t x y t') ty (.bool true) w :=
  have ⟨i, hi, _, hsz, _⟩ := hz.out
  have hc : P.cellsOf e = 1 := by simp [Program.cellsOf, hi, hsz]
  yd_v (fun ρ => do eqGuard .eql t x y (ρ x) (ρ y); binOp .eql t (ρ x) (ρ y)) (fun _ _ _ _ _ => rfl) fun N ds a w' hF he => by
    simp only [hF.ev hx, hF.ev hy]
    have h1 : (eqGuard .eql t x y (Ag f l) (Ag f l)).run P w' = .ok () w' := by simp [eqGuard, hg]
    have h2 : (Op.equal t (Ag f l) (Ag f l)).run P w' = .ok true w' := by
      unfold Op.equal Op.maxDepth
      rw [show (10000 : Nat) = 9999 + 1 from rfl, run_equalIn_array w' 9999 _ _ ht hi, hc, show (9999 : Nat) = 9998 + 1 from rfl]
      exact run_eqItems_same 9998 hu hf _ (fun j hj => by rw [List.mem_range] at hj; omega) w'
    simp [binOp, Sem.run_bind, h1, h2]
theorem Rd.cellW {l : List UInt64} {s} (h : Rd w s (l.map fun x => W64 x)) {i : Nat} (hi : i < l.length) : w.cell? (adr s i) = some (W64 (l.getD i 0)) :=
  Rd.cellM h (by rw [List.getElem?_eq_getElem hi, List.getD_eq_getElem?_getD, List.getElem?_eq_getElem hi]; rfl)
end Go.X
