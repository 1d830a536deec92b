/-
  Function values, longer literals of rows.
-/
import Derived.Test.YtgglilhdmioelaaX16
set_option linter.unusedVariables false
set_option linter.unusedSimpArgs false
namespace Go.X
open Go.RowKit
theorem Rl.nil0 (w : World) : Rl w nilS [] [] := ⟨Rd.nil w, rfl, fun i hi => absurd hi (by simp)⟩
theorem Rl.three {w : World} {s v1 v2 v3 : Value} {l1 l2 l3 : List UInt8} (h : Rd w s [v1, v2, v3]) (h1 : Bs w v1 l1) (h2 : Bs w v2 l2) (h3 : Bs w v3 l3) : Rl w s [v1, v2, v3] [l1, l2, l3] :=
  ⟨h, rfl, fun i hi => by
    have hi' : i < 3 := hi
    rcases (by omega : i = 0 ∨ i = 1 ∨ i = 2) with rfl | rfl | rfl
    · exact h1
    · exact h2
    · exact h3⟩
theorem Rl.four {w : World} {s v1 v2 v3 v4 : Value} {l1 l2 l3 l4 : List UInt8} (h : Rd w s [v1, v2, v3, v4]) (h1 : Bs w v1 l1) (h2 : Bs w v2 l2) (h3 : Bs w v3 l3) (h4 : Bs w v4 l4) : Rl w s [v1, v2, v3, v4] [l1, l2, l3, l4] :=
  ⟨h, rfl, fun i hi => by
    have hi' : i < 4 := hi
    rcases (by omega : i = 0 ∨ i = 1 ∨ i = 2 ∨ i = 3) with rfl | rfl | rfl | rfl
    · exact h1
    · exact h2
    · exact h3
    · exact h4⟩
section
variable {P : Program} {N : Nat} {ds : List Deferred} {σ : Env} {w : World}
theorem Ye.litS3 {ty t e x y u z by' v1 v2 v3 l1 l2 l3} (hu : P.underlying t = some (.slice e)) (hz : TI P e z 1 by') (hz1 : z.cells = #[z]) (hx : ev σ x = some v1) (hy : ev σ y = some v2) (hu3 : ev σ u = some v3) (h1 : Bs w v1 l1) (h2 : Bs w v2 l2) (h3 : Bs w v3 l3) :
    Ye P σ (.buildSlice t 3 #[(0, x), (1, y), (2, u)]) ty w fun s w1 => Rl w1 s [v1, v2, v3] [l1, l2, l3] ∧ Ext w w1 :=
  (Ye.lit (base := w.heap.size) hu hz hz1 (vs := [v1, v2, v3]) (by simp [evs, hx, hy, hu3]) rfl rfl (by simpa using ⟨Rd.cells h1, Rd.cells h2, Rd.cells h3⟩) rfl (Nat.le_refl _)).mono fun s w1 ⟨ho, he⟩ => ⟨Rl.three ho.rd (h1.ext he) (h2.ext he) (h3.ext he), he⟩
theorem Ye.litS4 {ty t e x y u q z by' v1 v2 v3 v4 l1 l2 l3 l4} (hu : P.underlying t = some (.slice e)) (hz : TI P e z 1 by') (hz1 : z.cells = #[z]) (hx : ev σ x = some v1) (hy : ev σ y = some v2) (hu3 : ev σ u = some v3) (hu4 : ev σ q = some v4) (h1 : Bs w v1 l1) (h2 : Bs w v2 l2) (h3 : Bs w v3 l3) (h4 : Bs w v4 l4) :
    Ye P σ (.buildSlice t 4 #[(0, x), (1, y), (2, u), (3, q)]) ty w fun s w1 => Rl w1 s [v1, v2, v3, v4] [l1, l2, l3, l4] ∧ Ext w w1 :=
  (Ye.lit (base := w.heap.size) hu hz hz1 (vs := [v1, v2, v3, v4]) (by simp [evs, hx, hy, hu3, hu4]) rfl rfl (by simpa using ⟨Rd.cells h1, Rd.cells h2, Rd.cells h3, Rd.cells h4⟩) rfl (Nat.le_refl _)).mono fun s w1 ⟨ho, he⟩ => ⟨Rl.four ho.rd (h1.ext he) (h2.ext he) (h3.ext he) (h4.ext he), he⟩
theorem Yd.mkFunc {ty f vs} {fst : Array Operand} (hx : evs σ fst.toList = some vs) : Yd P σ (.makeFunc (.func f) fst #[]) ty (.func (.func f) vs.toArray #[]) w := fun N ds a w' dst pos after g hf he => by
  have hv : fst.map a.eval = vs.toArray := by rw [← hf.evs hx]; apply Array.toList_inj.1; simp
  simp [execOp, Instr.makeFunc, hv]
end
end Go.X
