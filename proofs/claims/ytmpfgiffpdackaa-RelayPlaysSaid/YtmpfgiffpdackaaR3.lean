import Derived.Test.YtmpfgiffpdackaaR2
import Derived.Test.YtmpfgiffpdackaaX28
/-
  Rows of steps as the row's form reads them: a kind, two names, bytes, numbers, a number.
-/
set_option linter.unusedVariables false
namespace Go.X
open Go.RowKit Go.ChangeShapes
abbrev Stp : Type := Int × Key × Key × Value × Value × Int
def stS : Shp Stp := ⟨6, fun x => [I x.1, Str x.2.1, Str x.2.2.1, x.2.2.2.1, x.2.2.2.2.1, I x.2.2.2.2.2], fun _ => rfl, by decide⟩
def stD : Stp := (0, [], [], nilS, nilS, 0)
def StQ (w : World) (u : Stp) : Prop := (∃ l : List UInt8, Bs w u.2.2.2.1 l) ∧ ∃ ids : List Int, Rd w u.2.2.2.2.1 (ids.map fun x => I x)
theorem StQ.one {w : World} {u : Stp} (h : StQ w u) : ∀ v ∈ stS.c u, v.oneCell' = true := fun v hv => by
  simp only [stS, List.mem_cons, List.mem_nil_iff, or_false] at hv
  obtain ⟨⟨l, h1⟩, ids, h2⟩ := h
  rcases hv with rfl | rfl | rfl | rfl | rfl | rfl
  · rfl
  · rfl
  · rfl
  · exact Rd.one h1
  · exact Rd.one h2
  · rfl
theorem Cel.s6 {w : World} {b T : Nat} {a0 a1 a2 a3 a4 a5 : Value} (h : Cel w b T [(0, 6, [a0, a1, a2, a3, a4, a5])]) : Cel w b T [(0, 1, [a0]), (1, 1, [a1]), (2, 1, [a2]), (3, 1, [a3]), (4, 1, [a4]), (5, 1, [a5])] := by
  obtain ⟨L, h1, h2, _⟩ := h
  obtain ⟨_, hl, e0⟩ := h2
  refine ⟨L, h1, ?_⟩
  have e : L = [a0, a1, a2, a3, a4, a5] ++ L.drop 6 := by
    simp only [List.drop_zero] at e0
    rw [← e0, List.take_append_drop]
  rw [e]
  simp [SegAll, SegOK]
section
variable {H : Type} {enc : TypeId × Value → H} {P : Program} {w : World} {held : Bool}
/-- Numbers in a cell. -/
theorem ints_cell {t e : TypeId} {fuel : Nat} {cs : List Value} {x : DataW H × List MemPlace} (ht : P.underlying t = some (.slice e)) (he : P.underlying e = some (.int .i64)) (hc : P.cellsOf e = 1)
    (h : DataW.trod enc P w 0 (fun _ => true) held fuel t cs = some x) : ∃ (v : Value) (l : List Int), cs = [v] ∧ Rd w v (l.map fun x => I x) := by
  rcases open_ints ht he hc h with ⟨hcs, _⟩ | ⟨a, len, cap, zs, hcs, _, hl, hm, hz, _, hcell, hwz⟩
  · exact ⟨_, [], hcs, Rd.nilM _ _⟩
  · exact ⟨_, _, hcs, rd_open hl hm (by simpa using hz) hcell⟩
theorem step_open {e eb ei : TypeId} {f0 f1 f2 f3 f4 f5 : Field} (he : P.underlying e = some (.struct #[f0, f1, f2, f3, f4, f5])) (o0 : f0.offset = 0) (o1 : f1.offset = 1) (o2 : f2.offset = 2) (o3 : f3.offset = 3) (o4 : f4.offset = 4) (o5 : f5.offset = 5)
    (c0 : P.cellsOf f0.type = 1) (c1 : P.cellsOf f1.type = 1) (c2 : P.cellsOf f2.type = 1) (c3 : P.cellsOf f3.type = 1) (c4 : P.cellsOf f4.type = 1) (c5 : P.cellsOf f5.type = 1) (ce : P.cellsOf e = 6)
    (h0 : P.underlying f0.type = some (.int .i64)) (h1 : P.underlying f1.type = some .string) (h2 : P.underlying f2.type = some .string) (h3 : P.underlying f3.type = some (.slice eb)) (h4 : P.underlying f4.type = some (.slice ei)) (h5 : P.underlying f5.type = some (.int .i64))
    (hb : P.underlying eb = some (.int .u8)) (cb : P.cellsOf eb = 1) (hi : P.underlying ei = some (.int .i64)) (ci : P.cellsOf ei = 1)
    {cs : List Value} {n : Nat} {y : DataW H × List MemPlace} (h : DataW.trod enc P w 0 (fun _ => true) held n e cs = some y) : ∃ u : Stp, cs = stS.c u ∧ StQ w u := by
  obtain ⟨xs, k, _, _, hl, hlen, hf⟩ := DataW.trod_struct he h
  rw [ce] at hl
  match cs, hl with
  | [v0, v1, v2, v3, v4, v5], _ =>
    match xs, hlen with
    | [y0, y1, y2, y3, y4, y5], _ =>
      have g0 := hf 0 f0 rfl
      have g1 := hf 1 f1 rfl
      have g2 := hf 2 f2 rfl
      have g3 := hf 3 f3 rfl
      have g4 := hf 4 f4 rfl
      have g5 := hf 5 f5 rfl
      simp [o0, o1, o2, o3, o4, o5, c0, c1, c2, c3, c4, c5] at g0 g1 g2 g3 g4 g5
      obtain ⟨z0, e0, _, w0⟩ := DataW.trod_int h0 g0
      obtain ⟨z1, e1, _, _⟩ := DataW.trod_string h1 g1
      obtain ⟨z2, e2, _, _⟩ := DataW.trod_string h2 g2
      obtain ⟨b, l, e3, hbs⟩ := bytes_cell h3 hb cb g3
      obtain ⟨r, ids, e4, hrd⟩ := ints_cell h4 hi ci g4
      obtain ⟨z5, e5, _, w5⟩ := DataW.trod_int h5 g5
      cases e0; cases e1; cases e2; cases e3; cases e4; cases e5
      obtain ⟨d1⟩ := z1
      obtain ⟨d2⟩ := z2
      exact ⟨(z0, d1.toList, d2.toList, _, _, z5), rfl, ⟨l, hbs⟩, ids, hrd⟩
end
end Go.X
