import Derived.Test.YtmpfgiffpdackaaX19
/-
  A region that draws its order, in which blocks that were there may turn: those of a list alone.
-/
set_option linter.unusedVariables false
set_option linter.unusedSimpArgs false
namespace Go.X
open Go.RowKit
section
variable {P : Program} {N : Nat} {ds : List Deferred} {σ : Env} {w : World} {Q : Exit → Act → World → Prop} {K : Act → World → Prop} {ops : Array Oper} {rs : List (Option Nat)}
theorem J.regionT {id : Nat} {ops : Array Oper} (rs : List (Option Nat)) (l1 : List (Nat × Bool)) (l2 : List (Nat × Nat)) (l3 : List (Nat × Bool)) (hm : P.follows .mixedOrders = true) (hB : ordB .any ops l1 l2 l3 = true)
    (h : J N ds σ (wpSeq P ops (NoPan Q) (wpOrd P ops (NoPan Q) (Tn rs) (wpSeq P ops (NoPan Q) (NoPan Q .normal) l3) l2) l1) w) : J N ds σ ((Code.region id ops true).wp P Q) w := fun a w' hf hs =>
  wp_region_ord l1 l2 l3 (Tn.refl rs) (fun _ _ _ h k => h.trans k) hm hB (h a w'.drew hf (hs.trans (Same.drew w')))
theorem J.t_nil {T : Act → World → Prop} (h : J N ds σ T w) : J N ds σ (wpOrd P ops Q (Tn rs) T []) w := h
theorem J.t_op {T : Act → World → Prop} {r : List (Nat × Nat)} {i : Nat} {op ty pos after v d} (ho : ops[i]? = some ⟨some d, op, ty, pos, after, none⟩) (hy : ∀ w1, Tn rs w w1 → Yd P σ op ty v w1) (hd : Nat.blt d N = true)
    (h : J N ds ((d, v) :: σ) (wpOrd P ops Q (Tn rs) T r) w) : J N ds σ (wpOrd P ops Q (Tn rs) T ((i, 1) :: r)) w := fun a w' hf hs =>
  ⟨_, v, ho, .inl ⟨by simp [Region.wanted], fun w'' he => hy w'' ((hs.ext.tn rs).trans he) N ds a w'' _ _ _ _ hf (Ext.refl _)⟩, h _ _ (hf.put d hd v) hs⟩
theorem J.t_op_g {T : Act → World → Prop} {r : List (Nat × Nat)} {i : Nat} {op ty pos after v d j t b} (ho : ops[i]? = some ⟨some d, op, ty, pos, after, some (j, b)⟩) (hj : (ops[j]?).bind (·.dst) = some t) (hg : σ.get t = some (.bool b)) (hN : Nat.blt t N = true)
    (hy : ∀ w1, Tn rs w w1 → Yd P σ op ty v w1) (hd : Nat.blt d N = true) (h : J N ds ((d, v) :: σ) (wpOrd P ops Q (Tn rs) T r) w) : J N ds σ (wpOrd P ops Q (Tn rs) T ((i, 1) :: r)) w := fun a w' hf hs =>
  ⟨_, v, ho, .inl ⟨by simp [Region.wanted, hf.yielded hj hg hN], fun w'' he => hy w'' ((hs.ext.tn rs).trans he) N ds a w'' _ _ _ _ hf (Ext.refl _)⟩, h _ _ (hf.put d hd v) hs⟩
theorem J.t_not_g {T : Act → World → Prop} {r : List (Nat × Nat)} {i : Nat} {op ty pos after d j t b b'} (ho : ops[i]? = some ⟨some d, op, ty, pos, after, some (j, b)⟩) (hj : (ops[j]?).bind (·.dst) = some t) (hg : σ.get t = some (.bool b')) (hN : Nat.blt t N = true)
    (hb : (b' == b) = false) (hd : Nat.blt d N = true) (h : J N ds ((d, undef) :: σ) (wpOrd P ops Q (Tn rs) T r) w) : J N ds σ (wpOrd P ops Q (Tn rs) T ((i, 1) :: r)) w := fun a w' hf hs =>
  ⟨_, undef, ho, .inr ⟨by simp [Region.wanted, hf.yielded hj hg hN, hb], rfl⟩, h _ _ (hf.put d hd undef) hs⟩
theorem J.t_w {T : Act → World → Prop} {r : List (Nat × Nat)} {i : Nat} {op ty pos after Φ dst g} (ho : ops[i]? = some ⟨dst, op, ty, pos, after, g⟩) (hw : ∀ a, Fits N ds σ a → Region.wanted ⟨dst, op, ty, pos, after, g⟩ (yielded ops a.tmps) = true) (hy : Ye P σ op ty w Φ)
    (he : ∀ v w1, Φ v w1 → Tn rs w w1) (h : ∀ v w1 a w2, Φ v w1 → Fits N ds σ a → Same w1 w2 → wpOrd P ops Q (Tn rs) T r (a.put dst v) w2) : J N ds σ (wpOrd P ops Q (Tn rs) T ((i, 0) :: r)) w := fun a w' hf hs => by
  show wpOp P ops Q i _ a w'
  unfold wpOp
  simp only [ho]
  rw [if_pos (hw a hf)]
  exact .inl (hy N ds a w' _ _ _ _ _ _ hf hs fun v w3 w2 hp hs2 => ⟨(hs.symm.ext.tn rs).trans ((he v w3 hp).ext hs2.ext), h v w3 a w2 hp hf hs2⟩)
theorem J.t_eff {T : Act → World → Prop} {r : List (Nat × Nat)} {i : Nat} {op ty pos after Φ d} (ho : ops[i]? = some ⟨some d, op, ty, pos, after, none⟩) (hy : Ye P σ op ty w Φ) (hd : Nat.blt d N = true)
    (he : ∀ v w1, Φ v w1 → Tn rs w w1) (h : ∀ v w1, Φ v w1 → J N ds ((d, v) :: σ) (wpOrd P ops Q (Tn rs) T r) w1) : J N ds σ (wpOrd P ops Q (Tn rs) T ((i, 0) :: r)) w :=
  J.t_w ho (fun _ _ => by simp [Region.wanted]) hy he fun v w1 a w2 hp hf hs => h v w1 hp _ _ (hf.put d hd v) hs
theorem J.t_eff0 {T : Act → World → Prop} {r : List (Nat × Nat)} {i : Nat} {op ty pos after Φ} (ho : ops[i]? = some ⟨none, op, ty, pos, after, none⟩) (hy : Ye P σ op ty w Φ)
    (he : ∀ v w1, Φ v w1 → Tn rs w w1) (h : ∀ v w1, Φ v w1 → J N ds σ (wpOrd P ops Q (Tn rs) T r) w1) : J N ds σ (wpOrd P ops Q (Tn rs) T ((i, 0) :: r)) w :=
  J.t_w ho (fun _ _ => by simp [Region.wanted]) hy he fun v w1 a w2 hp hf hs => h v w1 hp _ _ (hf.none v) hs
theorem J.t_eff_g {T : Act → World → Prop} {r : List (Nat × Nat)} {i : Nat} {op ty pos after Φ d j t b} (ho : ops[i]? = some ⟨some d, op, ty, pos, after, some (j, b)⟩) (hj : (ops[j]?).bind (·.dst) = some t) (hg : σ.get t = some (.bool b)) (hN : Nat.blt t N = true)
    (hy : Ye P σ op ty w Φ) (hd : Nat.blt d N = true) (he : ∀ v w1, Φ v w1 → Tn rs w w1) (h : ∀ v w1, Φ v w1 → J N ds ((d, v) :: σ) (wpOrd P ops Q (Tn rs) T r) w1) : J N ds σ (wpOrd P ops Q (Tn rs) T ((i, 0) :: r)) w :=
  J.t_w ho (fun _ hf => by simp [Region.wanted, hf.yielded hj hg hN]) hy he fun v w1 a w2 hp hf hs => h v w1 hp _ _ (hf.put d hd v) hs
theorem J.t_skip_g {T : Act → World → Prop} {r : List (Nat × Nat)} {i : Nat} {op ty pos after d j t b b'} (ho : ops[i]? = some ⟨some d, op, ty, pos, after, some (j, b)⟩) (hj : (ops[j]?).bind (·.dst) = some t) (hg : σ.get t = some (.bool b')) (hN : Nat.blt t N = true)
    (hb : (b' == b) = false) (hd : Nat.blt d N = true) (h : J N ds ((d, undef) :: σ) (wpOrd P ops Q (Tn rs) T r) w) : J N ds σ (wpOrd P ops Q (Tn rs) T ((i, 0) :: r)) w := fun a w' hf hs => by
  show wpOp P ops Q i _ a w'
  unfold wpOp
  simp only [ho]
  rw [if_neg (by simp [Region.wanted, hf.yielded hj hg hN, hb])]
  exact ⟨Tn.refl _ _, h _ _ (hf.put d hd undef) hs⟩
theorem J.t_one {T : Act → World → Prop} {r : List (Nat × Nat)} {i : Nat} {op ty pos after v d} (ho : ops[i]? = some ⟨some d, op, ty, pos, after, none⟩) (hy : Yd P σ op ty v w) (hd : Nat.blt d N = true)
    (h : J N ds ((d, v) :: σ) (wpOrd P ops Q (Tn rs) T r) w) : J N ds σ (wpOrd P ops Q (Tn rs) T ((i, 0) :: r)) w := J.t_eff ho hy.ye hd (fun _ _ h => h.2 ▸ Tn.refl _ _) fun _ _ ⟨h1, h2⟩ => by subst h1; subst h2; exact h
theorem J.t_one_g {T : Act → World → Prop} {r : List (Nat × Nat)} {i : Nat} {op ty pos after v d j t b} (ho : ops[i]? = some ⟨some d, op, ty, pos, after, some (j, b)⟩) (hj : (ops[j]?).bind (·.dst) = some t) (hg : σ.get t = some (.bool b)) (hN : Nat.blt t N = true) (hy : Yd P σ op ty v w) (hd : Nat.blt d N = true)
    (h : J N ds ((d, v) :: σ) (wpOrd P ops Q (Tn rs) T r) w) : J N ds σ (wpOrd P ops Q (Tn rs) T ((i, 0) :: r)) w := J.t_eff_g ho hj hg hN hy.ye hd (fun _ _ h => h.2 ▸ Tn.refl _ _) fun _ _ ⟨h1, h2⟩ => by subst h1; subst h2; exact h
theorem results_tmp3 {fn : Func} {t u x : Tmp} (h : fn.results = #[.tmp t, .tmp u, .tmp x]) (tmps : Array Value) (P : Program) (w : World) :
    (results fn tmps).run P w = .ok (.tuple #[tmps.getD t undef, tmps.getD u undef, tmps.getD x undef]) w := by
  simp [results, h]
theorem J.ret3 {fn : Func} {R : Ending → World → Prop} {t u y : Nat} {v x z : Value} (hr : fn.results = #[.tmp t, .tmp u, .tmp y]) (hg : σ.get t = some v) (hx : σ.get u = some x) (hz : σ.get y = some z) (h : R (.returned (.tuple #[v, x, z])) w) : J N [] σ (Fin P fn R .ret) w := fun a w' hf hs =>
  ⟨hf.defers, _, by rw [results_tmp3 hr, hf.vals _ _ hg, hf.vals _ _ hx, hf.vals _ _ hz], w, hs, h⟩
end
end Go.X
