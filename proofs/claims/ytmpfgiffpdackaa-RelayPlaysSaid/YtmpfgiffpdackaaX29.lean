import Derived.Test.YtmpfgiffpdackaaX21
import Derived.Test.YtmpfgiffpdackaaQw
/-
  A region that draws its order, in which what turns is told by a relation of one's own.
-/
set_option linter.unusedVariables false
set_option linter.unusedSimpArgs false
namespace Go.X
open Go.RowKit
class RelOK (R : World → World → Prop) : Prop where
  refl : ∀ w, R w w
  trans : ∀ {a b c}, R a b → R b c → R a c
  ext : ∀ {a b}, Ext a b → R a b
instance (K : Nat → Prop) (b : Nat) : RelOK (Thb K b) := ⟨fun w => Thb.refl K b w, fun h k => Thb.trans h k, fun h => Thb.ext (Thb.refl K b _) h⟩
section
variable {P : Program} {N : Nat} {ds : List Deferred} {σ : Env} {w : World} {Q : Exit → Act → World → Prop} {K : Act → World → Prop} {ops : Array Oper} {R : World → World → Prop} [RelOK R]
theorem J.regionG {id : Nat} {ops : Array Oper} (R : World → World → Prop) [RelOK R] (l1 : List (Nat × Bool)) (l2 : List (Nat × Nat)) (l3 : List (Nat × Bool)) (hm : P.follows .mixedOrders = true) (hB : ordB .any ops l1 l2 l3 = true)
    (h : J N ds σ (wpSeq P ops (NoPan Q) (wpOrd P ops (NoPan Q) R (wpSeq P ops (NoPan Q) (NoPan Q .normal) l3) l2) l1) w) : J N ds σ ((Code.region id ops true).wp P Q) w := fun a w' hf hs =>
  wp_region_ord l1 l2 l3 RelOK.refl (fun _ _ _ h k => RelOK.trans h k) hm hB (h a w'.drew hf (hs.trans (Same.drew w')))
omit [RelOK R] in
theorem J.g_nil {T : Act → World → Prop} (h : J N ds σ T w) : J N ds σ (wpOrd P ops Q R T []) w := h
theorem J.g_op {T : Act → World → Prop} {r : List (Nat × Nat)} {i : Nat} {op ty pos after v d} (ho : ops[i]? = some ⟨some d, op, ty, pos, after, none⟩) (hy : ∀ w1, R w w1 → Yd P σ op ty v w1) (hd : Nat.blt d N = true)
    (h : J N ds ((d, v) :: σ) (wpOrd P ops Q R T r) w) : J N ds σ (wpOrd P ops Q R T ((i, 1) :: r)) w := fun a w' hf hs =>
  ⟨_, v, ho, .inl ⟨by simp [Region.wanted], fun w'' he => hy w'' (RelOK.trans (RelOK.ext hs.ext) he) N ds a w'' _ _ _ _ hf (Ext.refl _)⟩, h _ _ (hf.put d hd v) hs⟩
theorem J.g_op_g {T : Act → World → Prop} {r : List (Nat × Nat)} {i : Nat} {op ty pos after v d j t b} (ho : ops[i]? = some ⟨some d, op, ty, pos, after, some (j, b)⟩) (hj : (ops[j]?).bind (·.dst) = some t) (hg : σ.get t = some (.bool b)) (hN : Nat.blt t N = true)
    (hy : ∀ w1, R w w1 → Yd P σ op ty v w1) (hd : Nat.blt d N = true) (h : J N ds ((d, v) :: σ) (wpOrd P ops Q R T r) w) : J N ds σ (wpOrd P ops Q R T ((i, 1) :: r)) w := fun a w' hf hs =>
  ⟨_, v, ho, .inl ⟨by simp [Region.wanted, hf.yielded hj hg hN], fun w'' he => hy w'' (RelOK.trans (RelOK.ext hs.ext) he) N ds a w'' _ _ _ _ hf (Ext.refl _)⟩, h _ _ (hf.put d hd v) hs⟩
omit [RelOK R] in
theorem J.g_not_g {T : Act → World → Prop} {r : List (Nat × Nat)} {i : Nat} {op ty pos after d j t b b'} (ho : ops[i]? = some ⟨some d, op, ty, pos, after, some (j, b)⟩) (hj : (ops[j]?).bind (·.dst) = some t) (hg : σ.get t = some (.bool b')) (hN : Nat.blt t N = true)
    (hb : (b' == b) = false) (hd : Nat.blt d N = true) (h : J N ds ((d, undef) :: σ) (wpOrd P ops Q R T r) w) : J N ds σ (wpOrd P ops Q R T ((i, 1) :: r)) w := fun a w' hf hs =>
  ⟨_, undef, ho, .inr ⟨by simp [Region.wanted, hf.yielded hj hg hN, hb], rfl⟩, h _ _ (hf.put d hd undef) hs⟩
theorem J.g_w {T : Act → World → Prop} {r : List (Nat × Nat)} {i : Nat} {op ty pos after Φ dst g} (ho : ops[i]? = some ⟨dst, op, ty, pos, after, g⟩) (hw : ∀ a, Fits N ds σ a → Region.wanted ⟨dst, op, ty, pos, after, g⟩ (yielded ops a.tmps) = true) (hy : Ye P σ op ty w Φ)
    (he : ∀ v w1, Φ v w1 → R w w1) (h : ∀ v w1 a w2, Φ v w1 → Fits N ds σ a → Same w1 w2 → wpOrd P ops Q R T r (a.put dst v) w2) : J N ds σ (wpOrd P ops Q R T ((i, 0) :: r)) w := fun a w' hf hs => by
  show wpOp P ops Q i _ a w'
  unfold wpOp
  simp only [ho]
  rw [if_pos (hw a hf)]
  exact .inl (hy N ds a w' _ _ _ _ _ _ hf hs fun v w3 w2 hp hs2 => ⟨RelOK.trans (RelOK.ext hs.symm.ext) (RelOK.trans (he v w3 hp) (RelOK.ext hs2.ext)), h v w3 a w2 hp hf hs2⟩)
theorem J.g_eff {T : Act → World → Prop} {r : List (Nat × Nat)} {i : Nat} {op ty pos after Φ d} (ho : ops[i]? = some ⟨some d, op, ty, pos, after, none⟩) (hy : Ye P σ op ty w Φ) (hd : Nat.blt d N = true)
    (he : ∀ v w1, Φ v w1 → R w w1) (h : ∀ v w1, Φ v w1 → J N ds ((d, v) :: σ) (wpOrd P ops Q R T r) w1) : J N ds σ (wpOrd P ops Q R T ((i, 0) :: r)) w :=
  J.g_w ho (fun _ _ => by simp [Region.wanted]) hy he fun v w1 a w2 hp hf hs => h v w1 hp _ _ (hf.put d hd v) hs
theorem J.g_eff0 {T : Act → World → Prop} {r : List (Nat × Nat)} {i : Nat} {op ty pos after Φ} (ho : ops[i]? = some ⟨none, op, ty, pos, after, none⟩) (hy : Ye P σ op ty w Φ)
    (he : ∀ v w1, Φ v w1 → R w w1) (h : ∀ v w1, Φ v w1 → J N ds σ (wpOrd P ops Q R T r) w1) : J N ds σ (wpOrd P ops Q R T ((i, 0) :: r)) w :=
  J.g_w ho (fun _ _ => by simp [Region.wanted]) hy he fun v w1 a w2 hp hf hs => h v w1 hp _ _ (hf.none v) hs
theorem J.g_eff_g {T : Act → World → Prop} {r : List (Nat × Nat)} {i : Nat} {op ty pos after Φ d j t b} (ho : ops[i]? = some ⟨some d, op, ty, pos, after, some (j, b)⟩) (hj : (ops[j]?).bind (·.dst) = some t) (hg : σ.get t = some (.bool b)) (hN : Nat.blt t N = true)
    (hy : Ye P σ op ty w Φ) (hd : Nat.blt d N = true) (he : ∀ v w1, Φ v w1 → R w w1) (h : ∀ v w1, Φ v w1 → J N ds ((d, v) :: σ) (wpOrd P ops Q R T r) w1) : J N ds σ (wpOrd P ops Q R T ((i, 0) :: r)) w :=
  J.g_w ho (fun _ hf => by simp [Region.wanted, hf.yielded hj hg hN]) hy he fun v w1 a w2 hp hf hs => h v w1 hp _ _ (hf.put d hd v) hs
theorem J.g_skip_g {T : Act → World → Prop} {r : List (Nat × Nat)} {i : Nat} {op ty pos after d j t b b'} (ho : ops[i]? = some ⟨some d, op, ty, pos, after, some (j, b)⟩) (hj : (ops[j]?).bind (·.dst) = some t) (hg : σ.get t = some (.bool b')) (hN : Nat.blt t N = true)
    (hb : (b' == b) = false) (hd : Nat.blt d N = true) (h : J N ds ((d, undef) :: σ) (wpOrd P ops Q R T r) w) : J N ds σ (wpOrd P ops Q R T ((i, 0) :: r)) w := fun a w' hf hs => by
  show wpOp P ops Q i _ a w'
  unfold wpOp
  simp only [ho]
  rw [if_neg (by simp [Region.wanted, hf.yielded hj hg hN, hb])]
  exact ⟨RelOK.refl _, h _ _ (hf.put d hd undef) hs⟩
theorem J.g_one {T : Act → World → Prop} {r : List (Nat × Nat)} {i : Nat} {op ty pos after v d} (ho : ops[i]? = some ⟨some d, op, ty, pos, after, none⟩) (hy : Yd P σ op ty v w) (hd : Nat.blt d N = true)
    (h : J N ds ((d, v) :: σ) (wpOrd P ops Q R T r) w) : J N ds σ (wpOrd P ops Q R T ((i, 0) :: r)) w := J.g_eff ho hy.ye hd (fun _ _ h => h.2 ▸ RelOK.refl _) fun _ _ ⟨h1, h2⟩ => by subst h1; subst h2; exact h
theorem J.g_one_g {T : Act → World → Prop} {r : List (Nat × Nat)} {i : Nat} {op ty pos after v d j t b} (ho : ops[i]? = some ⟨some d, op, ty, pos, after, some (j, b)⟩) (hj : (ops[j]?).bind (·.dst) = some t) (hg : σ.get t = some (.bool b)) (hN : Nat.blt t N = true) (hy : Yd P σ op ty v w) (hd : Nat.blt d N = true)
    (h : J N ds ((d, v) :: σ) (wpOrd P ops Q R T r) w) : J N ds σ (wpOrd P ops Q R T ((i, 0) :: r)) w := J.g_eff_g ho hj hg hN hy.ye hd (fun _ _ h => h.2 ▸ RelOK.refl _) fun _ _ ⟨h1, h2⟩ => by subst h1; subst h2; exact h
end
end Go.X
