import Derived.Test.YtmpfgiffpdackaaR1
import Derived.Test.YtmpfgiffpdackaaX25
import Derived.Deep.SlicePairs
import Derived.Deep.Grids
/-
  Rows of structs as the row's form reads them.
-/
set_option linter.unusedVariables false
namespace Go.X
open Go.RowKit Go.ChangeShapes
variable {H : Type} {enc : TypeId × Value → H} {P : Program} {w : World} {held : Bool}
/-- A slice of structs, opened: each element told by Q. -/
theorem rows_open {α : Type} {K : Shp α} {Q : α → Prop} {t e : TypeId} {fuel : Nat} {s : Value} {cs : List Value} {x : DataW H × List MemPlace} (ht : P.underlying t = some (.slice e)) (ce : P.cellsOf e = K.sz)
    (hQ : ∀ cs n y, DataW.trod enc P w 0 (fun _ => true) held n e cs = some y → ∃ u : α, cs = K.c u ∧ Q u) (hs : cs = [s]) (h : DataW.trod enc P w 0 (fun _ => true) held fuel t cs = some x) :
    ∃ es : List α, Er K w s es ∧ ∀ u ∈ es, Q u := by
  rcases Go.Deep.open_slice ht h with ⟨h0, _⟩ | ⟨a, len, cap, m, n, D, Pl, hc0, hb, hl, hm, hmm, _, hx⟩
  · rw [hs] at h0
    cases h0
    exact ⟨[], Er.nil K w, fun u hu => by cases hu⟩
  · rw [hs] at hc0
    cases hc0
    simp only [if_true] at hmm
    have each : ∀ i, i < len → ∃ u : α, (∀ j v, (K.c u)[j]? = some v → w.cell? ((a.add (i * K.sz)).add j) = some v) ∧ Q u := fun i hi => by
      obtain ⟨cs', h1, h2⟩ := hx i (by omega)
      rw [ce] at h1
      obtain ⟨u, rfl, hu⟩ := hQ _ _ _ h2
      obtain ⟨_, hlen, hcell⟩ := World.cells?_some h1
      refine ⟨u, fun j v hv => ?_, hu⟩
      have hj := (List.getElem?_eq_some_iff.1 hv).1
      rw [hcell j (by omega), hv]
    let g : Nat → Option α := fun i => if hi : i < len then some (Classical.choose (each i hi)) else none
    have hg : ∀ i (hi : i < len), ∃ u, g i = some u ∧ (∀ j v, (K.c u)[j]? = some v → w.cell? ((a.add (i * K.sz)).add j) = some v) ∧ Q u := fun i hi =>
      ⟨_, by simp only [g, hi, dif_pos], Classical.choose_spec (each i hi)⟩
    have hlen : ((List.range len).filterMap g).length = len ∧ ∀ i, i < len → ((List.range len).filterMap g)[i]? = g i := by
      have key : ∀ k, k ≤ len → ((List.range k).filterMap g).length = k ∧ ∀ i, i < k → ((List.range k).filterMap g)[i]? = g i := by
        intro k
        induction k with
        | zero => intro _; exact ⟨rfl, fun i hi => by omega⟩
        | succ k ih =>
          intro hk
          obtain ⟨ih1, ih2⟩ := ih (by omega)
          obtain ⟨u, hu, _⟩ := hg k (by omega)
          have e1 : (List.range (k + 1)).filterMap g = (List.range k).filterMap g ++ [u] := by
            rw [List.range_succ, List.filterMap_append]
            congr 1
            simp [hu]
          refine ⟨by rw [e1, List.length_append, ih1]; rfl, fun i hi => ?_⟩
          rw [e1]
          rcases Nat.lt_or_ge i k with h1 | h1
          · rw [List.getElem?_append_left (by omega), ih2 i h1]
          · have e2 : i = k := by omega
            subst e2
            rw [List.getElem?_append_right (by omega), ih1, Nat.sub_self, hu]; rfl
      exact key len (Nat.le_refl _)
    refine ⟨(List.range len).filterMap g, ⟨some a, cap, by rw [hlen.1], by rw [hlen.1]; unfold maxLen at hm; exact ⟨hl, hm⟩, fun h => (by cases h), fun q v hv => ?_⟩, fun u hu => ?_⟩
    · have hq := (List.getElem?_eq_some_iff.1 hv).1
      rw [fm_len, hlen.1] at hq
      have hsz := K.pos
      have hi : q / K.sz < len := Nat.div_lt_of_lt_mul (by rw [Nat.mul_comm]; exact hq)
      have hj : q % K.sz < K.sz := Nat.mod_lt _ hsz
      have hqe : q = q / K.sz * K.sz + q % K.sz := by rw [Nat.mul_comm]; exact (Nat.div_add_mod q K.sz).symm
      obtain ⟨u, hu, hc, _⟩ := hg _ hi
      have hel : ((List.range len).filterMap g)[q / K.sz]? = some u := by rw [hlen.2 _ hi, hu]
      have hv2 := fm_get (K := K) hel hj
      rw [← hqe, hv] at hv2
      have hcell := hc _ v hv2.symm
      obtain ⟨b, o, sp⟩ := a
      rw [Go.Deep.add_add, ← hqe] at hcell
      have hsp0 : sp = none := by
        obtain ⟨u0, _, hc0, _⟩ := hg 0 (Nat.lt_of_le_of_lt (Nat.zero_le _) hi)
        have h9 := hc0 0 ((K.c u0)[0]'(by rw [K.len]; exact K.pos)) (List.getElem?_eq_getElem _)
        have := World.cell?_spot h9
        simpa [Addr.add] using this
      subst hsp0
      rw [add_at] at hcell
      exact ⟨b, o, rfl, hcell⟩
    · rw [List.mem_filterMap] at hu
      obtain ⟨i, hi, hgi⟩ := hu
      obtain ⟨u', hu', _, hq'⟩ := hg i (List.mem_range.1 hi)
      rw [hu'] at hgi
      cases hgi; exact hq'
/-- A slice of bools, opened. -/
theorem bools_open {t e : TypeId} {fuel : Nat} {s : Value} {x : DataW H × List MemPlace} (ht : P.underlying t = some (.slice e)) (he : P.underlying e = some .bool) (hc : P.cellsOf e = 1)
    (h : DataW.trod enc P w 0 (fun _ => true) held fuel t [s] = some x) : ∃ l : List Bool, Rd w s (l.map fun b => Value.bool b) := by
  rcases Go.Deep.open_bools ht he hc h with ⟨hcs, _⟩ | ⟨a, len, cap, B, hcs, _, hl, hm, _, hcell⟩
  · cases hcs; exact ⟨[], Rd.nilM _ _⟩
  · cases hcs
    refine ⟨(List.range len).map B, ?_⟩
    have hlen : (((List.range len).map B).map fun b => Value.bool b).length = len := by simp
    refine ⟨some a, cap, by rw [hlen], by rw [hlen]; unfold maxLen at hm; exact ⟨hl, hm⟩, fun h => (by cases h), fun i v hv => ?_⟩
    have hi : i < len := by rw [← hlen]; exact (List.getElem?_eq_some_iff.1 hv).1
    have hc' := hcell i (by omega)
    obtain ⟨b, o, sp⟩ := a
    have hsp0 : sp = none := by
      have := World.cell?_spot (hcell 0 (by omega))
      simpa [Addr.add] using this
    subst hsp0
    rw [add_at] at hc'
    refine ⟨b, o, rfl, ?_⟩
    rw [hc', ← hv]
    simp [List.getElem?_map, List.getElem?_range hi]
/-- Bytes in a cell. -/
theorem bytes_cell {t e : TypeId} {fuel : Nat} {cs : List Value} {x : DataW H × List MemPlace} (ht : P.underlying t = some (.slice e)) (he : P.underlying e = some (.int .u8)) (hc : P.cellsOf e = 1)
    (h : DataW.trod enc P w 0 (fun _ => true) held fuel t cs = some x) : ∃ v l, cs = [v] ∧ Bs w v l := by
  rcases open_ints ht he hc h with ⟨hcs, _⟩ | ⟨a, len, cap, zs, hcs, _, hl, hm, hz, _, hcell, hwz⟩
  · exact ⟨_, [], hcs, Rd.nilM _ _⟩
  · obtain ⟨l, hl2⟩ := bs_of (rd_open hl hm (by simpa using hz) hcell) (fun n hn => hwz n (List.mem_of_mem_take hn))
    exact ⟨_, l, hcs, hl2⟩
/-- Rows of bytes in a cell. -/
theorem rows_cell {t e q : TypeId} {fuel : Nat} {cs : List Value} {x : DataW H × List MemPlace} (ht : P.underlying t = some (.slice e)) (he : P.underlying e = some (.slice q)) (hq : P.underlying q = some (.int .u8)) (ce : P.cellsOf e = 1) (cq : P.cellsOf q = 1)
    (h : DataW.trod enc P w 0 (fun _ => true) held fuel t cs = some x) : ∃ v vs ll, cs = [v] ∧ Rl w v vs ll := by
  rcases Go.Deep.open_int_rows ht he hq ce cq h with ⟨hcs, _⟩ | ⟨a, len, cap, A, L, C, Z, hcs, _, hl, hm, _, hrow⟩
  · exact ⟨_, [], [], hcs, Rd.nil _, rfl, fun i hi => absurd hi (by simp)⟩
  · obtain ⟨vs, ll, hr⟩ := rl_of hl hm hrow
    exact ⟨_, vs, ll, hcs, hr⟩
/-! ### Items: a kind, a number, bytes, rows of bytes -/
abbrev Item : Type := Int × UInt64 × (Value × List UInt8) × (Value × List Value × List (List UInt8))
def itS : Shp Item := ⟨4, fun x => [I x.1, W64 x.2.1, x.2.2.1.1, x.2.2.2.1], fun _ => rfl, by decide⟩
def itD : Item := (0, 0, (nilS, []), (nilS, [], []))
def itQ (w : World) (x : Item) : Prop := Bs w x.2.2.1.1 x.2.2.1.2 ∧ Rl w x.2.2.2.1 x.2.2.2.2.1 x.2.2.2.2.2
theorem item_open {e tb tr eb : TypeId} {f0 f1 f2 f3 : Field} (he : P.underlying e = some (.struct #[f0, f1, f2, f3])) (o0 : f0.offset = 0) (o1 : f1.offset = 1) (o2 : f2.offset = 2) (o3 : f3.offset = 3)
    (c0 : P.cellsOf f0.type = 1) (c1 : P.cellsOf f1.type = 1) (c2 : P.cellsOf f2.type = 1) (c3 : P.cellsOf f3.type = 1) (ce : P.cellsOf e = 4)
    (h0 : P.underlying f0.type = some (.int .i64)) (h1 : P.underlying f1.type = some (.int .u64)) (h2 : P.underlying f2.type = some (.slice eb)) (h3 : P.underlying f3.type = some (.slice tr)) (h4 : P.underlying tr = some (.slice tb)) (hb : P.underlying eb = some (.int .u8)) (hb2 : P.underlying tb = some (.int .u8)) (cb : P.cellsOf eb = 1) (cb2 : P.cellsOf tb = 1) (ct : P.cellsOf tr = 1) :
    ∀ cs n (y : DataW H × List MemPlace), DataW.trod enc P w 0 (fun _ => true) held n e cs = some y → ∃ u : Item, cs = itS.c u ∧ itQ w u := fun cs n y h => by
  obtain ⟨xs, k, _, _, hl, hlen, hf⟩ := DataW.trod_struct he h
  rw [ce] at hl
  match cs, hl with
  | [v0, v1, v2, v3], _ =>
    match xs, hlen with
    | [y0, y1, y2, y3], _ =>
      have g0 := hf 0 f0 rfl
      have g1 := hf 1 f1 rfl
      have g2 := hf 2 f2 rfl
      have g3 := hf 3 f3 rfl
      simp [o0, o1, o2, o3, c0, c1, c2, c3] at g0 g1 g2 g3
      obtain ⟨z0, e0, _, _⟩ := DataW.trod_int h0 g0
      obtain ⟨z1, e1, _, w1⟩ := DataW.trod_int h1 g1
      obtain ⟨b, l, e2, hbs⟩ := bytes_cell h2 hb cb g2
      obtain ⟨r, vs, ll, e3, hrl⟩ := rows_cell h3 h4 hb2 ct cb2 g3
      obtain ⟨q1, rfl⟩ := wf_u64 w1
      cases e0; cases e1; cases e2; cases e3
      exact ⟨(z0, q1, (_, l), (_, vs, ll)), rfl, hbs, hrl⟩
/-! ### Pieces: three numbers and bytes -/
def pcS' : Shp (Int × Int × Int × Value) := ⟨4, fun x => [I x.1, I x.2.1, I x.2.2.1, x.2.2.2], fun _ => rfl, by decide⟩
theorem piece_open {e eb : TypeId} {f0 f1 f2 f3 : Field} (he : P.underlying e = some (.struct #[f0, f1, f2, f3])) (o0 : f0.offset = 0) (o1 : f1.offset = 1) (o2 : f2.offset = 2) (o3 : f3.offset = 3)
    (c0 : P.cellsOf f0.type = 1) (c1 : P.cellsOf f1.type = 1) (c2 : P.cellsOf f2.type = 1) (c3 : P.cellsOf f3.type = 1) (ce : P.cellsOf e = 4)
    (h0 : P.underlying f0.type = some (.int .i64)) (h1 : P.underlying f1.type = some (.int .i64)) (h2 : P.underlying f2.type = some (.int .i64)) (h3 : P.underlying f3.type = some (.slice eb)) (hb : P.underlying eb = some (.int .u8)) (cb : P.cellsOf eb = 1)
    {cs : List Value} {n : Nat} {y : DataW H × List MemPlace} (h : DataW.trod enc P w 0 (fun _ => true) held n e cs = some y) : ∃ (u : Int × Int × Int × Value) (l : List UInt8), cs = pcS'.c u ∧ Bs w u.2.2.2 l ∧ (-9223372036854775808 ≤ u.1 ∧ u.1 ≤ 9223372036854775807) ∧ (-9223372036854775808 ≤ u.2.1 ∧ u.2.1 ≤ 9223372036854775807) ∧ (-9223372036854775808 ≤ u.2.2.1 ∧ u.2.2.1 ≤ 9223372036854775807) := by
  obtain ⟨xs, k, _, _, hl, hlen, hf⟩ := DataW.trod_struct he h
  rw [ce] at hl
  match cs, hl with
  | [v0, v1, v2, v3], _ =>
    match xs, hlen with
    | [y0, y1, y2, y3], _ =>
      have g0 := hf 0 f0 rfl
      have g1 := hf 1 f1 rfl
      have g2 := hf 2 f2 rfl
      have g3 := hf 3 f3 rfl
      simp [o0, o1, o2, o3, c0, c1, c2, c3] at g0 g1 g2 g3
      obtain ⟨z0, e0, _, w0⟩ := DataW.trod_int h0 g0
      obtain ⟨z1, e1, _, w1⟩ := DataW.trod_int h1 g1
      obtain ⟨z2, e2, _, w2⟩ := DataW.trod_int h2 g2
      obtain ⟨b, l, e3, hbs⟩ := bytes_cell h3 hb cb g3
      cases e0; cases e1; cases e2; cases e3
      have b0 := bounds_i64 w0
      have b1 := bounds_i64 w1
      have b2 := bounds_i64 w2
      exact ⟨(z0, z1, z2, _), l, rfl, hbs, by omega, by omega, by omega⟩
end Go.X
