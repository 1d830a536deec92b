import Derived.Test.YtfefphcmfhabiaaX21
/-
  A region as a row of parts: one by one, or a set of operations whose order is open.
-/
set_option linter.unusedVariables false
set_option linter.unusedSimpArgs false
namespace Go.X
open Go.RowKit
section
variable {P : Program} {N : Nat} {ds : List Deferred} {σ : Env} {w : World} {Q : Exit → Act → World → Prop} {K : Act → World → Prop} {ops : Array Oper}
def blkB (md : Region.Mode) (ops : Array Oper) (N : Nat) (M slots : List Nat) (D Z : List (List Nat)) (mus : List Nat) (s1 : Array Bool) : Bool :=
  waitsB md ops M s1 && depsB md ops M M D && linB md ops M s1 && nodupB M && nodupB slots && slots.all (fun t => Nat.blt t N) && M.all (fun m => Nat.blt m ops.size && !s1.getD m true) && befB md ops mus M Z
theorem wpAny_of_blk {g : Nat} {M : List (Nat × AsrT)} {Mi Ms : List Nat} {D Z : List (List Nat)} {mu : Mus} {mus : List Nat} {s1 : Array Bool} {T : Act → World → Prop} {a : Act} {w : World} (hMi : M.map (·.1) = Mi) (hMs : M.map (·.2.slot) = Ms) (hmu : mu.map (·.1) = mus) (hmr : MuOK mu M) (hs1 : s1.size = ops.size)
    (hB : blkB .any ops N Mi Ms D Z mus s1 = true) (inv1 : Inv .any ops [] #[] s1) (hcont : ∀ a w, Inv .any ops [] #[] (listAll s1 (Mi.map fun i => (i, true))) → T a w → wpAny P .any ops Q g (listAll s1 (Mi.map fun i => (i, true))) a w)
    (hT : ATT P N ds ops mu M D Z T a w) : wpAny P .any ops Q (Mi.length + g) s1 a w := by
  subst hMi; subst hMs; subst hmu
  simp only [blkB, Bool.and_eq_true] at hB
  obtain ⟨⟨⟨⟨⟨⟨⟨hw, hd⟩, hl⟩, hn⟩, hn2⟩, hN⟩, hun⟩, hZ⟩ := hB
  obtain ⟨σ', w0, hf', hs', hfr, hP, hfin⟩ := hT
  have hun' : ∀ p ∈ M, p.1 < s1.size ∧ s1.getD p.1 true = false := fun p hp => by
    have := List.all_eq_true.1 hun p.1 (List.mem_map.2 ⟨p, hp, rfl⟩)
    rw [Bool.and_eq_true] at this
    exact ⟨by rw [hs1]; simpa [Nat.blt_eq] using this.1, by simpa using this.2⟩
  have hleft : left (M.map (·.1)) s1 = (M.map (·.1)).length := by
    unfold left
    rw [List.filter_eq_self.2]
    intro i hi
    obtain ⟨p, hp, e⟩ := List.mem_map.1 hi
    have h3 := getD_both (hun' p hp).2
    have e' : p.1 = i := e
    rw [← e']; simp [h3]
  have hmid : MidT N ds ops mu M σ' w0 s1 s1 a w := ⟨hf', hs'.ext.tn _, inv1, fun _ h => h, fun _ h => .inl h, rfl, fun p hp h => by rw [getD_both (hun' p hp).2] at h; cases h⟩
  have htgt : ∀ listed : Array Bool, listed.size = s1.size → (∀ j, listed.getD j false = true ↔ s1.getD j false = true ∨ j ∈ M.map (·.1)) → listed = listAll s1 ((M.map (·.1)).map fun i => (i, true)) := fun listed h1 h2 =>
    bools_ext (by rw [h1, listAll_size]) fun j => by
      rw [h2, listAll_get _ _ _ (fun i hi => by obtain ⟨p, hp, e⟩ := List.mem_map.1 hi; have := (hun' p hp).1; have e' : p.1 = i := e; omega)]
  have H := wpAnyM_asrT (mu := mu) (P := P) (Q := Q) (T := T) (target := listAll s1 ((M.map (·.1)).map fun i => (i, true))) hmr (waits_of hw) hd hZ hl (nodup_of hn) (nodup_of hn2)
    (fun p hp => by have := List.all_eq_true.1 hN p.2.slot (List.mem_map.2 ⟨p, hp, rfl⟩); simpa [Nat.blt_eq] using this) hfr hun' htgt hP
    (fun a w1 hfa hx hall => by
      obtain ⟨σ'', hf2, hJ⟩ := PremT.elim (N := N) (ds := ds) _ _ (hfin w1 hx) hfa (fun k _ p hp => hall p (List.mem_of_getElem? hp))
      exact hJ a w1 hf2 (Same.refl _)) _ s1 a w hmid hleft
  refine wpAny_of_M (Q := Q) (g := g) (fun listed a' w' hL => ?_) _ _ _ _ H
  obtain ⟨rfl, inv2, hT3⟩ := hL
  exact hcont a' w' inv2 hT3
/-- What is left of a region when those of s came up. -/
def RG (P : Program) (ops : Array Oper) (Q : Exit → Act → World → Prop) (s : Array Bool) (n : Nat) (a : Act) (w : World) : Prop := Region.noSelect ops = true → s.size = ops.size → Inv .any ops [] #[] s → (∀ c a w d v, Q (.panic c) (Act.put a d v) w → Q (.panic c) a w) → wpAny P .any ops Q n s a w
theorem J.regionR {id : Nat} {ops : Array Oper} (hm : P.follows .mixedOrders = true) (hsel : Region.noSelect ops = true) {n : Nat} (hn : ops.size = n) (h : J N ds σ (RG P ops (NoPan Q) (Array.replicate n false) n) w) : J N ds σ ((Code.region id ops true).wp P Q) w := by
  subst hn
  intro a w' hf hs
  have h := h a w'.drew hf (hs.trans (Same.drew w'))
  refine Code.wp_mono NoPan.imp ?_
  have hQ : ∀ c a w d v, NoPan Q (.panic c) (Act.put a d v) w → NoPan Q (.panic c) a w := fun _ _ _ _ _ h => h
  refine wp_region_any hm ?_
  exact h hsel (by simp) ⟨fun j oj _ hl => (by rw [getD_replicate_false] at hl; cases hl)⟩ hQ
theorem J.rg_nil {s : Array Bool} (hr : decide (Region.ready .any ops s = []) = true) (h : J N ds σ (Q .normal) w) : J N ds σ (RG P ops Q s 0) w := fun a w' hf hs _ _ _ _ => ⟨by simpa using hr, h a w' hf hs⟩
theorem J.rg_seq {s : Array Bool} {n m : Nat} (l : List (Nat × Bool)) (hn : l.length + m = n) (hg : goodSeq .any ops l s = true) (h : J N ds σ (wpSeq P ops Q (RG P ops Q (listAll s l) m) l) w) : J N ds σ (RG P ops Q s n) w := by
  subst hn
  exact fun a w' hf hs hsel hz inv hQ => wpAny_of_seq' (md := .any) (g := m) hsel hQ l s a w' inv hg (fun a w inv1 hT => hT hsel (by rw [listAll_size]; exact hz) inv1 hQ) (h a w' hf hs)
theorem J.rg_blk {s : Array Bool} {n m : Nat} (M : List (Nat × AsrT)) (Mi Ms : List Nat) (D Z : List (List Nat)) (mu : Mus) (mus : List Nat) (hn : Mi.length + m = n) (hMi : M.map (·.1) = Mi) (hMs : M.map (·.2.slot) = Ms) (hmu : mu.map (·.1) = mus) (hmr : MuOK mu M) (hB : blkB .any ops N Mi Ms D Z mus s = true)
    (h : J N ds σ (ATT P N ds ops mu M D Z (RG P ops Q (listAll s (Mi.map fun i => (i, true))) m)) w) : J N ds σ (RG P ops Q s n) w := by
  subst hn
  exact fun a w' hf hs hsel hz inv hQ => wpAny_of_blk hMi hMs hmu hmr hz hB inv (fun a w inv1 hT => hT hsel (by rw [listAll_size]; exact hz) inv1 hQ) (h a w' hf hs)
def ordMB (ops : Array Oper) (l : List (Nat × Nat)) (s : Array Bool) : Bool :=
  let M := (namesOrd l).map (·.1)
  let s2 := listAll s (namesOrd l)
  goodOrder .any ops M s2 l s && waitsB .any ops M s && M.all fun m => s2.getD m false
theorem J.rg_ord {s : Array Bool} {n m : Nat} (rs : List (Option Nat)) (l : List (Nat × Nat)) (hn : lenOrd l + m = n) (hB : ordMB ops l s = true) (h : J N ds σ (wpOrd P ops Q (Tn rs) (RG P ops Q (listAll s (namesOrd l)) m) l) w) : J N ds σ (RG P ops Q s n) w := by
  subst hn
  intro a w' hf hs hsel hz inv hQ
  simp only [ordMB, Bool.and_eq_true] at hB
  obtain ⟨⟨hg2, hw⟩, ht⟩ := hB
  have H := wpAnyM_of_ord (md := .any) (start := s) (Tn.refl rs) (fun _ _ _ h k => h.trans k) hsel hQ (waits_of hw) (fun m hm => List.all_eq_true.1 ht m hm) l s a w' ⟨inv.closed⟩ (fun _ h => h) hg2 (h a w' hf hs)
  refine wpAny_of_M (Q := Q) (g := m) (fun listed a' w' hL => ?_) _ _ _ _ H
  obtain ⟨rfl, hT3⟩ := hL
  exact hT3 hsel (by rw [listAll_size]; exact hz) (inv_ord l _ hg2 inv) hQ
end
end Go.X
