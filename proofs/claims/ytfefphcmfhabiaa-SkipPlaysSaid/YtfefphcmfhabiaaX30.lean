import Derived.Test.YtfefphcmfhabiaaX26
/-
  Results: a cell of cells, and a value.
-/
set_option linter.unusedVariables false
set_option linter.unusedSimpArgs false
namespace Go.X
open Go.RowKit
section
variable {P : Program} {N : Nat} {ds : List Deferred} {σ : Env} {w : World} {Q : Exit → Act → World → Prop}
theorem J.ret2cb {fn : Func} {R : Ending → World → Prop} {t u ty b T S o n xs v z by'} (hr : fn.results = #[.cell t ty, .tmp u]) (hg : σ.get t = some (.pointer (some ⟨b, o, none⟩))) (ht : agg P ty = true) (hz : TI P ty z n by') (hc : Cel w b T S) (k : Nat) (hk : S[k]? = some (o, n, xs)) (hu : σ.get u = some v) (h : R (.returned (.tuple #[.agg xs.toArray, v])) w) : J N [] σ (Fin P fn R .ret) w := fun a w' hf hs =>
  ⟨hf.defers, _, by
    have hp := hf.vals _ _ hg
    have hv := hf.vals _ _ hu
    rw [Array.getD_eq_getD_getElem?] at hp hv
    obtain ⟨j, hj, _, hj1, _⟩ := hz.out
    have h' := hc.ext hs.ext
    have hl := run_loadCells_list (P := P) w' ⟨b, o, none⟩ xs (fun i v hv => by rw [add_at]; exact h'.cell k hk hv)
    rw [hc.len k hk] at hl
    simp only [results, hr]
    simp [Sem.run_bind, Result.andThen, hp, hv, asAddr, loadVar, run_isAgg_t ht, sizeOf, typeInfo, hj, hj1, hl], w, hs, h⟩
end
end Go.X
