/-
  Noughts put behind a row of the call's own; a copy into one.
-/
import Derived.Test.YtipbmjbdmpcgoaaX11
import Derived.Lib.AppendZerosOnto
set_option linter.unusedVariables false
set_option linter.unusedSimpArgs false
namespace Go.X
open Go.RowKit
theorem Bs.tail {w : World} {s : Value} {x : List UInt8} (h : Bs w s x) {l n : Nat} (hl : l ≤ x.length) (hn : n = x.length) : Bs w (Go.X.slc s l n) (x.drop l) := by
  subst hn
  have := Bs.slc h hl (Nat.le_refl _)
  rwa [List.take_of_length_le (Nat.le_refl _)] at this
theorem slc_own (s : Value) (l h : Nat) : (slc s l h).ownBlock = s.ownBlock := by
  cases s with
  | slice p n c =>
    show (sliced p l h c 1).ownBlock = _
    rw [sliced_eq]
    cases p with
    | none => split <;> rfl
    | some a =>
      split
      · rfl
      · simp only [Option.map_some, Value.ownBlock, Addr.add]; split <;> rfl
  | _ => rfl
theorem Rd.updN {w w' : World} {s : Value} {xs : List Value} {b : Nat} (h : Rd w s xs) (hu : Upd b w w') (hne : s.ownBlock ≠ some b) : Rd w' s xs :=
  h.upd hu fun p n c e hb => hne (by rw [e, ← hb]; rfl)
section
variable {P : Program} {N : Nat} {ds : List Deferred} {σ : Env} {w : World}
theorem zeroCells_one (z : Value) (q : Nat) : Builtin.zeroCells #[z] q = (List.replicate q z).toArray := by
  apply Array.toList_inj.1
  have := toList_madeCells_one z q
  simpa [madeCells, Builtin.zeroCells] using this
theorem Ye.appendZO {ty t t' e x y z by' base k n s xs} (hu : P.underlying t = some (.slice e)) (hu' : P.underlying t' = some (.int k)) (hz : TI P e z 1 by') (hz1 : z.cells = #[z]) (ho1 : z.oneCell' = true) (hby : Nat.blt 0 by' = true) (hx : ev σ x = some s) (hy : ev σ y = some (I n)) (ho : Ow base e w s xs) (hn : 0 ≤ n)
    (hb : ((xs.length : Int) + n) * by' ≤ 140737488355328) (hbase : base ≤ w.heap.size) :
    Ye P σ (.call ⟨.builtin .append, #[x, y], #[t, t']⟩) ty w fun v w1 => Ow base e w1 v (xs ++ List.replicate n.toNat z) ∧ w.grownBy w1 s.ownBlock := by
  have hby' : 0 < by' := by simpa [Nat.blt_eq] using hby
  obtain ⟨m, rfl⟩ := Int.eq_ofNat_of_zero_le hn
  have hb' : (xs.length + m) * by' ≤ 140737488355328 := by
    have h5 : (((xs.length + m) * by' : Nat) : Int) ≤ 140737488355328 := by rw [Int.natCast_mul, Int.natCast_add]; exact hb
    omega
  have hle : xs.length + m ≤ (xs.length + m) * by' := Nat.le_mul_of_pos_right _ hby'
  by_cases hs0 : s = nilS
  · subst hs0
    have hx0 : xs = [] := by
      rcases ho.2 with ⟨_, h0⟩ | ⟨g, cap, cur, h, _⟩
      · exact List.eq_nil_of_length_eq_zero h0
      · cases h
    subst hx0
    refine (Ye.appendZ (P := P) (base := base) hu hu' hz hz1 hby hx hy hn ?_ hbase).mono fun v w1 h => ⟨h.1, grown_ext h.2⟩
    have h6 : m * by' ≤ 140737488355328 := by simpa using hb'
    have h7 : ((m * by' : Nat) : Int) ≤ 140737488355328 := by omega
    rw [Int.natCast_mul] at h7; exact h7
  refine ye_bi (vs := [s, I (m : Int)]) (Builtin.append_ #[t, t'] ty) (by simp [evs, hx, hy]) (fun _ _ => rfl) fun w' hs => ?_
  obtain ⟨j, hj, hj0, hj1, hj2⟩ := hz.out
  have ho' : Ow base e w' s xs := ho.ext hs.ext
  rcases id ho'.2 with ⟨rfl, h0⟩ | ⟨g, cap, cur, rfl, hbg, hg, hnc, hcm, hcs, htk⟩
  · exact absurd rfl hs0
  have hcs' : cur.size = cap := by simpa using hcs
  have htk' : cur.toList.take xs.length = xs := by simpa using htk
  have hw : IntKind.i64.wrap (m : Int) = m := wrap64_id (by omega) (by omega)
  have e1 : ¬ ((m : Int) < 0) := by omega
  have e2 : ¬ ((281474976710656 : Int) < (m : Int) * (by' : Int)) := by
    have h6 : m * by' ≤ (xs.length + m) * by' := Nat.mul_le_mul_right _ (by omega)
    have h7 : ((m * by' : Nat) : Int) ≤ 140737488355328 := by omega
    rw [Int.natCast_mul] at h7; omega
  by_cases hroom : xs.length + m ≤ cap
  · have hst := run_storeCells_at P g xs.length e (List.replicate m z) 0 cur w' hg (by simp; omega) (by intro v hv; rw [List.eq_of_mem_replicate hv]; exact ho1)
    simp only [Nat.add_zero, List.length_replicate] at hst
    refine ⟨.slice (some ⟨g, 0, none⟩) (xs.length + m) cap, w'.setRow g (cur.toList.take xs.length ++ List.replicate m z ++ cur.toList.drop (xs.length + m)).toArray, _, ?_, Same.refl _, ⟨by simp, .inr ⟨g, cap, _, by simp, hbg, setRow_heap w' g cur _ e _ hg, by simp; omega, hcm, ?_, ?_⟩⟩, ?_⟩
    · by_cases hm0 : m = 0
      · subst hm0
        have hw0 : IntKind.i64.wrap 0 = 0 := by decide
        have hst0 : (storeCells ⟨g, xs.length, none⟩ [] 0).run P w' = .ok () (w'.setRow g (cur.toList.take xs.length ++ cur.toList.drop xs.length).toArray) := by
          have h9 := hst
          simp only [List.replicate_zero, Nat.add_zero, List.append_nil] at h9
          exact h9
        simp [Builtin.append_, run_underlying hu, run_underlying hu', sizeOf, typeInfo, hj, hj0, hj1, hj2, hz1, asInt, asIntOf, hw0, hnc, add_at, -List.take_append_drop]
        rw [hst0]
        simp
      · simp [Builtin.append_, run_underlying hu, run_underlying hu', sizeOf, typeInfo, zeroValue, hj, hj0, hj1, hj2, hz1, asInt, asIntOf, hw, e1, e2, hroom, hm0, add_at, zeroCells_one]
        rw [hst]
        simp
    · simp; omega
    · show ((cur.toList.take xs.length ++ List.replicate m z ++ cur.toList.drop (xs.length + m) : List Value)).take ((xs ++ List.replicate m z).length * 1) = xs ++ List.replicate m z
      rw [htk', Nat.mul_one]
      exact List.take_left
    · exact ⟨hs.os, hs.tape, hs.output, by simp [World.setRow, hs.heap], fun k _ hk => by rw [setRow_other w' g k _ (fun e => hk (by simp [Value.ownBlock, e])), hs.heap]⟩
  · have holds := ho'.rd
    have hold : (Builtin.firstCells j.size xs.length (.slice (some ⟨g, 0, none⟩) xs.length cap)).run P w'.drew = .ok xs.toArray w'.drew := by
      have hl := run_loadCells_list (P := P) w'.drew ⟨g, 0, none⟩ xs (fun i v hv => by
        obtain ⟨p, c, h1, _, _, h4⟩ := holds
        cases h1
        obtain ⟨b', o', hp, hc⟩ := h4 i v hv
        cases hp
        rw [add_at]; exact hc)
      simpa [Builtin.firstCells, hj1] using hl
    have hm0 : 0 < m := by omega
    have hfit := growslice_fits (old := cap) (by omega : cap < xs.length + m) (by rw [← hj2] at hb'; exact hb')
    have hr := Lib.run_append_grow_zeros (P := P) w' t t' ty e j z .i64 k hu hu' hj hj0 (some ⟨g, 0, none⟩) xs.length cap xs hold m hm0 (by omega) (by omega) (by omega) (by
      have h6 : m * j.bytes ≤ (xs.length + m) * j.bytes := Nat.mul_le_mul_right _ (by omega)
      rw [hj2] at h6 ⊢; omega) hfit
    refine ⟨_, _, _, hr, Same.refl _, ⟨by simp, .inr ⟨w'.heap.size, grownCap w' (xs.length + m) cap e, _, by simp, by rw [hs.heap]; exact hbase, heap_alloc_new w'.drew _, by simp; exact grownCap_ge w' _ cap e, grownCap_le_maxLen w' _ cap e (by unfold maxLen; omega), ?_, ?_⟩⟩, ?_⟩
    · have := grownCap_ge w' (xs.length + m) cap e
      rw [hz1]
      simp [zeroCells_one]; omega
    · rw [hz1]
      simp only [zeroCells_one, Int.toNat_natCast, List.append_toArray, Nat.mul_one]
      exact List.take_left
    · have h8 := World.grownBy_alloc w'.drew (.cells (xs.toArray ++ Builtin.zeroCells z.cells m ++ Builtin.zeroCells z.cells (grownCap w' (xs.length + m) cap e - (xs.length + m))) e) (some g)
      exact ⟨h8.os.trans hs.os, h8.tape.trans hs.tape, h8.output.trans hs.output, by have := h8.size; rw [show w'.drew.heap = w'.heap from rfl, hs.heap] at this; exact this, fun k hk hne => by
        rw [h8.block k (by rw [show w'.drew.heap = w'.heap from rfl, hs.heap]; exact hk) hne, show w'.drew.heap = w'.heap from rfl, hs.heap]⟩
end
end Go.X
