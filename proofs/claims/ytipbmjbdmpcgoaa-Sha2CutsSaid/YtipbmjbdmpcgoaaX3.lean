/-
  What one operation of the text yields, in the frame σ and in every world beyond w: integers, tests, copies; and the steps of a region.
-/
import Derived.Test.YtipbmjbdmpcgoaaX2
set_option linter.unusedVariables false
set_option linter.unusedSimpArgs false
namespace Go.X
open Go.RowKit

abbrev I (n : Int) : Value := .int .i64 n
abbrev B (x : UInt8) : Value := .int .u8 (x.toNat : Int)
abbrev W32 (x : UInt32) : Value := .int .u32 (x.toNat : Int)
abbrev W64 (x : UInt64) : Value := .int .u64 (x.toNat : Int)

/-- op yields v, in every world beyond w, and leaves that world as it is. -/
def Yd (P : Program) (σ : Env) (op : Op) (ty : TypeId) (v : Value) (w : World) : Prop :=
  ∀ (N : Nat) (ds : List Deferred) (a : Act) (w' : World) (dst : Option Tmp) (pos : String) (after : Array Edge) (g : Option (Nat × Bool)),
    Fits N ds σ a → Ext w w' → (execOp a.eval ⟨dst, op, ty, pos, after, g⟩).run P w' = .ok (.value v) w'

/-- op leaves v and a world of which Φ tells. -/
def Ye (P : Program) (σ : Env) (op : Op) (ty : TypeId) (w : World) (Φ : Value → World → Prop) : Prop :=
  ∀ (N : Nat) (ds : List Deferred) (a : Act) (w' : World) (dst : Option Tmp) (pos : String) (after : Array Edge) (g : Option (Nat × Bool)) (next : Act → World → Prop) (Q : Exit → Act → World → Prop),
    Fits N ds σ a → Same w w' → (∀ v w3 w2, Φ v w3 → Same w3 w2 → next (a.put dst v) w2) → Oper.wp P ⟨dst, op, ty, pos, after, g⟩ a w' next Q

section
variable {P : Program} {N : Nat} {ds : List Deferred} {σ : Env} {w : World} {Q : Exit → Act → World → Prop} {K : Act → World → Prop} {ops : Array Oper} {rest : List Oper}

theorem Yd.ye {op ty v} (h : Yd P σ op ty v w) : Ye P σ op ty w fun u w' => u = v ∧ w' = w := fun N ds a w' dst pos after g next Q hf hs hk => by
  unfold Oper.wp
  rw [h N ds a w' dst pos after g hf hs.ext, Oper.upon_value]
  exact hk _ _ _ ⟨rfl, rfl⟩ hs

theorem Yd.at {op ty v w1} (h : Yd P σ op ty v w) (he : Ext w w1) : Yd P σ op ty v w1 := fun N ds a w' dst pos after g hf hs => h N ds a w' dst pos after g hf (he.trans hs)

theorem Env.get_cons (t : Nat) (v : Value) (σ : Env) (u : Nat) : Env.get ((t, v) :: σ) u = if t = u then some v else σ.get u := by
  show (bif Nat.beq t u then some v else Env.get σ u) = _
  by_cases h : t = u
  · subst h; simp
  · have : Nat.beq t u = false := by cases hb : Nat.beq t u with | true => exact absurd (Nat.eq_of_beq_eq_true hb) h | false => rfl
    rw [this, if_neg h]; rfl
theorem J.know {t : Nat} {v v' : Value} (hg : σ.get t = some v) (hv : v = v') (h : J N ds ((t, v') :: σ) K w) : J N ds σ K w := fun a w' hf hs => by
  refine h a w' ⟨hf.size, hf.defers, fun u x hx => ?_⟩ hs
  rw [Env.get_cons] at hx
  split at hx
  · rename_i e
    subst e
    have e2 := Option.some.inj hx
    subst e2; subst hv
    exact hf.vals _ _ hg
  · exact hf.vals _ _ hx

/-- A guard's answer parts the walk. -/
theorem J.split {t : Nat} {b : Bool} (hg : σ.get t = some (.bool b)) (ht : b = true → J N ds ((t, .bool true) :: σ) K w) (hf : b = false → J N ds ((t, .bool false) :: σ) K w) : J N ds σ K w := by
  cases b with
  | true => exact J.know hg rfl (ht rfl)
  | false => exact J.know hg rfl (hf rfl)
theorem J.split_dec {t : Nat} {p : Prop} [Decidable p] (hg : σ.get t = some (.bool (decide p))) (ht : p → J N ds ((t, .bool true) :: σ) K w) (hf : ¬ p → J N ds ((t, .bool false) :: σ) K w) : J N ds σ K w :=
  J.split hg (fun h => ht (of_decide_eq_true h)) (fun h => hf (of_decide_eq_false h))

theorem Fits.yielded {N ds σ a} (h : Fits N ds σ a) {ops : Array Oper} {j t : Nat} {b : Bool} (hj : (ops[j]?).bind (·.dst) = some t) (hg : σ.get t = some (.bool b)) (hN : Nat.blt t N = true) : Go.yielded ops a.tmps j = some b := by
  have ht : t < a.tmps.size := by rw [h.size]; simpa [Nat.blt_eq] using hN
  have hv := h.vals t _ hg
  unfold Go.yielded
  rw [hj]
  simp only [Option.bind_some, Array.getElem?_eq_getElem ht]
  rw [Array.getD_eq_getD_getElem?, Array.getElem?_eq_getElem ht] at hv
  simp only [Option.getD_some] at hv
  rw [hv]

/-! ### The steps of a region in the text's order -/
theorem J.nil (h : J N ds σ (Q .normal) w) : J N ds σ (wpList P ops Q []) w := h
theorem J.region {id : Nat} {l : List Oper} (h : J N ds σ (wpList P l.toArray Q l) w) : J N ds σ ((Code.region id l.toArray false).wp P Q) w := fun a w' hf hs => wp_region_lit (h a w' hf hs)

theorem J.eff {op ty pos after Φ d} (hy : Ye P σ op ty w Φ) (hd : Nat.blt d N = true) (h : ∀ v w1, Φ v w1 → J N ds ((d, v) :: σ) (wpList P ops Q rest) w1) :
    J N ds σ (wpList P ops Q (⟨some d, op, ty, pos, after, none⟩ :: rest)) w := fun a w' hf hs => by
  unfold wpList
  rw [if_pos (by simp [Region.wanted])]
  exact .inl (hy N ds a w' _ _ _ _ _ _ hf hs fun v w3 w2 hp hs2 => h v w3 hp _ _ (hf.put d hd v) hs2)
theorem J.eff0 {op ty pos after Φ} (hy : Ye P σ op ty w Φ) (h : ∀ v w1, Φ v w1 → J N ds σ (wpList P ops Q rest) w1) :
    J N ds σ (wpList P ops Q (⟨none, op, ty, pos, after, none⟩ :: rest)) w := fun a w' hf hs => by
  unfold wpList
  rw [if_pos (by simp [Region.wanted])]
  exact .inl (hy N ds a w' _ _ _ _ _ _ hf hs fun v w3 w2 hp hs2 => h v w3 hp _ _ (hf.none v) hs2)
theorem J.op {op ty pos after v d} (hy : Yd P σ op ty v w) (hd : Nat.blt d N = true) (h : J N ds ((d, v) :: σ) (wpList P ops Q rest) w) :
    J N ds σ (wpList P ops Q (⟨some d, op, ty, pos, after, none⟩ :: rest)) w := J.eff hy.ye hd fun _ _ ⟨h1, h2⟩ => by subst h1; subst h2; exact h
/-- A guarded operation: its guard's answer is known. -/
theorem J.eff_g {op ty pos after Φ d j t b} (hj : (ops[j]?).bind (·.dst) = some t) (hg : σ.get t = some (.bool b)) (hN : Nat.blt t N = true) (hy : Ye P σ op ty w Φ) (hd : Nat.blt d N = true) (h : ∀ v w1, Φ v w1 → J N ds ((d, v) :: σ) (wpList P ops Q rest) w1) :
    J N ds σ (wpList P ops Q (⟨some d, op, ty, pos, after, some (j, b)⟩ :: rest)) w := fun a w' hf hs => by
  unfold wpList
  rw [if_pos (by simp [Region.wanted, hf.yielded hj hg hN])]
  exact .inl (hy N ds a w' _ _ _ _ _ _ hf hs fun v w3 w2 hp hs2 => h v w3 hp _ _ (hf.put d hd v) hs2)
theorem J.op_g {op ty pos after v d j t b} (hj : (ops[j]?).bind (·.dst) = some t) (hg : σ.get t = some (.bool b)) (hN : Nat.blt t N = true) (hy : Yd P σ op ty v w) (hd : Nat.blt d N = true) (h : J N ds ((d, v) :: σ) (wpList P ops Q rest) w) :
    J N ds σ (wpList P ops Q (⟨some d, op, ty, pos, after, some (j, b)⟩ :: rest)) w := J.eff_g hj hg hN hy.ye hd fun _ _ ⟨h1, h2⟩ => by subst h1; subst h2; exact h
theorem J.not_g {op ty pos after d j t b b'} (hj : (ops[j]?).bind (·.dst) = some t) (hg : σ.get t = some (.bool b')) (hN : Nat.blt t N = true) (hb : (b' == b) = false) (hd : Nat.blt d N = true) (h : J N ds ((d, undef) :: σ) (wpList P ops Q rest) w) :
    J N ds σ (wpList P ops Q (⟨some d, op, ty, pos, after, some (j, b)⟩ :: rest)) w := fun a w' hf hs => by
  unfold wpList
  rw [if_neg (by simp [Region.wanted, hf.yielded hj hg hN, hb])]
  exact h _ _ (hf.put d hd undef) hs

/-! ### The steps of a region that draws its order -/
theorem J.regionO {id : Nat} {ops : Array Oper} (l1 : List (Nat × Bool)) (l2 : List (Nat × Nat)) (l3 : List (Nat × Bool)) (hm : P.follows .mixedOrders = true) (hB : ordB .any ops l1 l2 l3 = true)
    (h : J N ds σ (wpSeq P ops (NoPan Q) (wpOrd P ops (NoPan Q) Ext (wpSeq P ops (NoPan Q) (NoPan Q .normal) l3) l2) l1) w) : J N ds σ ((Code.region id ops true).wp P Q) w := fun a w' hf hs =>
  wp_region_ord l1 l2 l3 Ext.refl (fun _ _ _ h k => h.trans k) hm hB (h a w'.drew hf (hs.trans (Same.drew w')))

theorem J.s_nil {T : Act → World → Prop} (h : J N ds σ T w) : J N ds σ (wpSeq P ops Q T []) w := h
theorem J.s_op {T : Act → World → Prop} {r : List (Nat × Bool)} {i : Nat} {op ty pos after v d} (ho : ops[i]? = some ⟨some d, op, ty, pos, after, none⟩) (hy : ∀ w, Yd P σ op ty v w) (hd : Nat.blt d N = true)
    (h : J N ds ((d, v) :: σ) (wpSeq P ops Q T r) w) : J N ds σ (wpSeq P ops Q T ((i, true) :: r)) w := fun a w' hf hs =>
  ⟨_, v, ho, .inl ⟨by simp [Region.wanted], fun w'' => hy w'' N ds a w'' _ _ _ _ hf (Ext.refl _)⟩, h _ _ (hf.put d hd v) hs⟩
theorem J.s_op_g {T : Act → World → Prop} {r : List (Nat × Bool)} {i : Nat} {op ty pos after v d j t b} (ho : ops[i]? = some ⟨some d, op, ty, pos, after, some (j, b)⟩) (hj : (ops[j]?).bind (·.dst) = some t) (hg : σ.get t = some (.bool b)) (hN : Nat.blt t N = true)
    (hy : ∀ w, Yd P σ op ty v w) (hd : Nat.blt d N = true) (h : J N ds ((d, v) :: σ) (wpSeq P ops Q T r) w) : J N ds σ (wpSeq P ops Q T ((i, true) :: r)) w := fun a w' hf hs =>
  ⟨_, v, ho, .inl ⟨by simp [Region.wanted, hf.yielded hj hg hN], fun w'' => hy w'' N ds a w'' _ _ _ _ hf (Ext.refl _)⟩, h _ _ (hf.put d hd v) hs⟩
theorem J.s_not_g {T : Act → World → Prop} {r : List (Nat × Bool)} {i : Nat} {op ty pos after d j t b b'} (ho : ops[i]? = some ⟨some d, op, ty, pos, after, some (j, b)⟩) (hj : (ops[j]?).bind (·.dst) = some t) (hg : σ.get t = some (.bool b')) (hN : Nat.blt t N = true)
    (hb : (b' == b) = false) (hd : Nat.blt d N = true) (h : J N ds ((d, undef) :: σ) (wpSeq P ops Q T r) w) : J N ds σ (wpSeq P ops Q T ((i, true) :: r)) w := fun a w' hf hs =>
  ⟨_, undef, ho, .inr ⟨by simp [Region.wanted, hf.yielded hj hg hN, hb], rfl⟩, h _ _ (hf.put d hd undef) hs⟩
theorem J.s_skip_g {T : Act → World → Prop} {r : List (Nat × Bool)} {i : Nat} {op ty pos after d j t b b'} (ho : ops[i]? = some ⟨some d, op, ty, pos, after, some (j, b)⟩) (hj : (ops[j]?).bind (·.dst) = some t) (hg : σ.get t = some (.bool b')) (hN : Nat.blt t N = true)
    (hb : (b' == b) = false) (hd : Nat.blt d N = true) (h : J N ds ((d, undef) :: σ) (wpSeq P ops Q T r) w) : J N ds σ (wpSeq P ops Q T ((i, false) :: r)) w := fun a w' hf hs => by
  show wpOp P ops Q i _ a w'
  unfold wpOp
  simp only [ho]
  rw [if_neg (by simp [Region.wanted, hf.yielded hj hg hN, hb])]
  exact h _ _ (hf.put d hd undef) hs
theorem J.s_eff_w {T : Act → World → Prop} {r : List (Nat × Bool)} {i : Nat} {op ty pos after Φ dst g} (ho : ops[i]? = some ⟨dst, op, ty, pos, after, g⟩) (hw : ∀ a, Fits N ds σ a → Region.wanted ⟨dst, op, ty, pos, after, g⟩ (yielded ops a.tmps) = true) (hy : Ye P σ op ty w Φ)
    (h : ∀ v w1 a w2, Φ v w1 → Fits N ds σ a → Same w1 w2 → wpSeq P ops Q T r (a.put dst v) w2) : J N ds σ (wpSeq P ops Q T ((i, false) :: r)) w := fun a w' hf hs => by
  show wpOp P ops Q i _ a w'
  unfold wpOp
  simp only [ho]
  rw [if_pos (hw a hf)]
  exact .inl (hy N ds a w' _ _ _ _ _ _ hf hs fun v w3 w2 hp hs2 => h v w3 a w2 hp hf hs2)
theorem J.s_eff {T : Act → World → Prop} {r : List (Nat × Bool)} {i : Nat} {op ty pos after Φ d} (ho : ops[i]? = some ⟨some d, op, ty, pos, after, none⟩) (hy : Ye P σ op ty w Φ) (hd : Nat.blt d N = true)
    (h : ∀ v w1, Φ v w1 → J N ds ((d, v) :: σ) (wpSeq P ops Q T r) w1) : J N ds σ (wpSeq P ops Q T ((i, false) :: r)) w :=
  J.s_eff_w ho (fun _ _ => by simp [Region.wanted]) hy fun v w1 a w2 hp hf hs => h v w1 hp _ _ (hf.put d hd v) hs
theorem J.s_eff0 {T : Act → World → Prop} {r : List (Nat × Bool)} {i : Nat} {op ty pos after Φ} (ho : ops[i]? = some ⟨none, op, ty, pos, after, none⟩) (hy : Ye P σ op ty w Φ)
    (h : ∀ v w1, Φ v w1 → J N ds σ (wpSeq P ops Q T r) w1) : J N ds σ (wpSeq P ops Q T ((i, false) :: r)) w :=
  J.s_eff_w ho (fun _ _ => by simp [Region.wanted]) hy fun v w1 a w2 hp hf hs => h v w1 hp _ _ (hf.none v) hs
theorem J.s_eff_g {T : Act → World → Prop} {r : List (Nat × Bool)} {i : Nat} {op ty pos after Φ d j t b} (ho : ops[i]? = some ⟨some d, op, ty, pos, after, some (j, b)⟩) (hj : (ops[j]?).bind (·.dst) = some t) (hg : σ.get t = some (.bool b)) (hN : Nat.blt t N = true) (hy : Ye P σ op ty w Φ) (hd : Nat.blt d N = true)
    (h : ∀ v w1, Φ v w1 → J N ds ((d, v) :: σ) (wpSeq P ops Q T r) w1) : J N ds σ (wpSeq P ops Q T ((i, false) :: r)) w :=
  J.s_eff_w ho (fun _ hf => by simp [Region.wanted, hf.yielded hj hg hN]) hy fun v w1 a w2 hp hf hs => h v w1 hp _ _ (hf.put d hd v) hs
/-- One that comes up alone and yields. -/
theorem J.s_one {T : Act → World → Prop} {r : List (Nat × Bool)} {i : Nat} {op ty pos after v d} (ho : ops[i]? = some ⟨some d, op, ty, pos, after, none⟩) (hy : Yd P σ op ty v w) (hd : Nat.blt d N = true)
    (h : J N ds ((d, v) :: σ) (wpSeq P ops Q T r) w) : J N ds σ (wpSeq P ops Q T ((i, false) :: r)) w := J.s_eff ho hy.ye hd fun _ _ ⟨h1, h2⟩ => by subst h1; subst h2; exact h
theorem J.s_one_g {T : Act → World → Prop} {r : List (Nat × Bool)} {i : Nat} {op ty pos after v d j t b} (ho : ops[i]? = some ⟨some d, op, ty, pos, after, some (j, b)⟩) (hj : (ops[j]?).bind (·.dst) = some t) (hg : σ.get t = some (.bool b)) (hN : Nat.blt t N = true) (hy : Yd P σ op ty v w) (hd : Nat.blt d N = true)
    (h : J N ds ((d, v) :: σ) (wpSeq P ops Q T r) w) : J N ds σ (wpSeq P ops Q T ((i, false) :: r)) w := J.s_eff_g ho hj hg hN hy.ye hd fun _ _ ⟨h1, h2⟩ => by subst h1; subst h2; exact h
theorem J.o_nil {T : Act → World → Prop} (h : J N ds σ T w) : J N ds σ (wpOrd P ops Q Ext T []) w := h
theorem J.o_op {T : Act → World → Prop} {r : List (Nat × Nat)} {i : Nat} {op ty pos after v d} (ho : ops[i]? = some ⟨some d, op, ty, pos, after, none⟩) (hy : Yd P σ op ty v w) (hd : Nat.blt d N = true)
    (h : J N ds ((d, v) :: σ) (wpOrd P ops Q Ext T r) w) : J N ds σ (wpOrd P ops Q Ext T ((i, 1) :: r)) w := fun a w' hf hs =>
  ⟨_, v, ho, .inl ⟨by simp [Region.wanted], fun w'' he => hy N ds a w'' _ _ _ _ hf (hs.ext.trans he)⟩, h _ _ (hf.put d hd v) hs⟩
theorem J.o_op_g {T : Act → World → Prop} {r : List (Nat × Nat)} {i : Nat} {op ty pos after v d j t b} (ho : ops[i]? = some ⟨some d, op, ty, pos, after, some (j, b)⟩) (hj : (ops[j]?).bind (·.dst) = some t) (hg : σ.get t = some (.bool b)) (hN : Nat.blt t N = true)
    (hy : Yd P σ op ty v w) (hd : Nat.blt d N = true) (h : J N ds ((d, v) :: σ) (wpOrd P ops Q Ext T r) w) : J N ds σ (wpOrd P ops Q Ext T ((i, 1) :: r)) w := fun a w' hf hs =>
  ⟨_, v, ho, .inl ⟨by simp [Region.wanted, hf.yielded hj hg hN], fun w'' he => hy N ds a w'' _ _ _ _ hf (hs.ext.trans he)⟩, h _ _ (hf.put d hd v) hs⟩
theorem J.o_not_g {T : Act → World → Prop} {r : List (Nat × Nat)} {i : Nat} {op ty pos after d j t b b'} (ho : ops[i]? = some ⟨some d, op, ty, pos, after, some (j, b)⟩) (hj : (ops[j]?).bind (·.dst) = some t) (hg : σ.get t = some (.bool b')) (hN : Nat.blt t N = true)
    (hb : (b' == b) = false) (hd : Nat.blt d N = true) (h : J N ds ((d, undef) :: σ) (wpOrd P ops Q Ext T r) w) : J N ds σ (wpOrd P ops Q Ext T ((i, 1) :: r)) w := fun a w' hf hs =>
  ⟨_, undef, ho, .inr ⟨by simp [Region.wanted, hf.yielded hj hg hN, hb], rfl⟩, h _ _ (hf.put d hd undef) hs⟩
/-- One operation alone, beyond whose world the next one lies. -/
def op1 (P : Program) (ops : Array Oper) (Q : Exit → Act → World → Prop) (i : Nat) (K : Act → World → Prop) (a : Act) (w : World) : Prop := wpOp P ops Q i (fun a1 w1 => Ext w w1 ∧ K a1 w1) a w
theorem J.one_w {i : Nat} {op ty pos after Φ dst g} (ho : ops[i]? = some ⟨dst, op, ty, pos, after, g⟩) (hw : ∀ a, Fits N ds σ a → Region.wanted ⟨dst, op, ty, pos, after, g⟩ (yielded ops a.tmps) = true) (hy : Ye P σ op ty w Φ)
    (he : ∀ v w1, Φ v w1 → Ext w w1) (h : ∀ v w1 a w2, Φ v w1 → Fits N ds σ a → Same w1 w2 → K (a.put dst v) w2) : J N ds σ (op1 P ops Q i K) w := fun a w' hf hs => by
  unfold op1 wpOp
  simp only [ho]
  rw [if_pos (hw a hf)]
  exact .inl (hy N ds a w' _ _ _ _ _ _ hf hs fun v w3 w2 hp hs2 => ⟨hs.symm.ext.trans ((he v w3 hp).trans hs2.ext), h v w3 a w2 hp hf hs2⟩)
theorem J.one_eff {i : Nat} {op ty pos after Φ d} (ho : ops[i]? = some ⟨some d, op, ty, pos, after, none⟩) (hy : Ye P σ op ty w Φ) (hd : Nat.blt d N = true)
    (he : ∀ v w1, Φ v w1 → Ext w w1) (h : ∀ v w1, Φ v w1 → J N ds ((d, v) :: σ) K w1) : J N ds σ (op1 P ops Q i K) w :=
  J.one_w ho (fun _ _ => by simp [Region.wanted]) hy he fun v w1 a w2 hp hf hs => h v w1 hp _ _ (hf.put d hd v) hs
theorem J.one_eff0 {i : Nat} {op ty pos after Φ} (ho : ops[i]? = some ⟨none, op, ty, pos, after, none⟩) (hy : Ye P σ op ty w Φ)
    (he : ∀ v w1, Φ v w1 → Ext w w1) (h : ∀ v w1, Φ v w1 → J N ds σ K w1) : J N ds σ (op1 P ops Q i K) w :=
  J.one_w ho (fun _ _ => by simp [Region.wanted]) hy he fun v w1 a w2 hp hf hs => h v w1 hp _ _ (hf.none v) hs
theorem J.one_eff_g {i : Nat} {op ty pos after Φ d j t b} (ho : ops[i]? = some ⟨some d, op, ty, pos, after, some (j, b)⟩) (hj : (ops[j]?).bind (·.dst) = some t) (hg : σ.get t = some (.bool b)) (hN : Nat.blt t N = true) (hy : Ye P σ op ty w Φ) (hd : Nat.blt d N = true)
    (he : ∀ v w1, Φ v w1 → Ext w w1) (h : ∀ v w1, Φ v w1 → J N ds ((d, v) :: σ) K w1) : J N ds σ (op1 P ops Q i K) w :=
  J.one_w ho (fun _ hf => by simp [Region.wanted, hf.yielded hj hg hN]) hy he fun v w1 a w2 hp hf hs => h v w1 hp _ _ (hf.put d hd v) hs
theorem J.one_skip_g {i : Nat} {op ty pos after d j t b b'} (ho : ops[i]? = some ⟨some d, op, ty, pos, after, some (j, b)⟩) (hj : (ops[j]?).bind (·.dst) = some t) (hg : σ.get t = some (.bool b')) (hN : Nat.blt t N = true)
    (hb : (b' == b) = false) (hd : Nat.blt d N = true) (h : J N ds ((d, undef) :: σ) K w) : J N ds σ (op1 P ops Q i K) w := fun a w' hf hs => by
  unfold op1 wpOp
  simp only [ho]
  rw [if_neg (by simp [Region.wanted, hf.yielded hj hg hN, hb])]
  exact ⟨Ext.refl _, h _ _ (hf.put d hd undef) hs⟩
theorem J.o_alone {T : Act → World → Prop} {r : List (Nat × Nat)} {i : Nat} (h : J N ds σ (op1 P ops Q i (wpOrd P ops Q Ext T r)) w) : J N ds σ (wpOrd P ops Q Ext T ((i, 0) :: r)) w := h
theorem J.o_both {T : Act → World → Prop} {r : List (Nat × Nat)} {i j : Nat} {ι : Type} (σI : ι → Env) (R : ι → World → Prop)
    (h1 : J N ds σ (op1 P ops Q i (op1 P ops Q j (At N ds σI R))) w) (h2 : J N ds σ (op1 P ops Q j (op1 P ops Q i (At N ds σI R))) w)
    (h : ∀ x w', R x w' → J N ds (σI x) (wpOrd P ops Q Ext T r) w') : J N ds σ (wpOrd P ops Q Ext T ((i, j + 2) :: r)) w := fun a w' hf hs => by
  have go : ∀ a w', At N ds σI R a w' → wpOrd P ops Q Ext T r a w' := fun a w' ⟨x, w0, hf, hs, hr⟩ => h x w0 hr a w' hf hs
  exact ⟨wpOp_mono (fun a1 w1 k1 => ⟨k1.1, wpOp_mono (fun a2 w2 k2 => ⟨k2.1, go _ _ k2.2⟩) k1.2⟩) (h1 a w' hf hs), wpOp_mono (fun a1 w1 k1 => ⟨k1.1, wpOp_mono (fun a2 w2 k2 => ⟨k2.1, go _ _ k2.2⟩) k1.2⟩) (h2 a w' hf hs)⟩
theorem J.o_eff {T : Act → World → Prop} {r : List (Nat × Nat)} {i : Nat} {op ty pos after Φ d} (ho : ops[i]? = some ⟨some d, op, ty, pos, after, none⟩) (hy : Ye P σ op ty w Φ) (hd : Nat.blt d N = true)
    (he : ∀ v w1, Φ v w1 → Ext w w1) (h : ∀ v w1, Φ v w1 → J N ds ((d, v) :: σ) (wpOrd P ops Q Ext T r) w1) : J N ds σ (wpOrd P ops Q Ext T ((i, 0) :: r)) w := J.one_eff ho hy hd he h
theorem J.o_eff0 {T : Act → World → Prop} {r : List (Nat × Nat)} {i : Nat} {op ty pos after Φ} (ho : ops[i]? = some ⟨none, op, ty, pos, after, none⟩) (hy : Ye P σ op ty w Φ)
    (he : ∀ v w1, Φ v w1 → Ext w w1) (h : ∀ v w1, Φ v w1 → J N ds σ (wpOrd P ops Q Ext T r) w1) : J N ds σ (wpOrd P ops Q Ext T ((i, 0) :: r)) w := J.one_eff0 ho hy he h
theorem J.o_eff_g {T : Act → World → Prop} {r : List (Nat × Nat)} {i : Nat} {op ty pos after Φ d j t b} (ho : ops[i]? = some ⟨some d, op, ty, pos, after, some (j, b)⟩) (hj : (ops[j]?).bind (·.dst) = some t) (hg : σ.get t = some (.bool b)) (hN : Nat.blt t N = true)
    (hy : Ye P σ op ty w Φ) (hd : Nat.blt d N = true) (he : ∀ v w1, Φ v w1 → Ext w w1) (h : ∀ v w1, Φ v w1 → J N ds ((d, v) :: σ) (wpOrd P ops Q Ext T r) w1) : J N ds σ (wpOrd P ops Q Ext T ((i, 0) :: r)) w := J.one_eff_g ho hj hg hN hy hd he h
theorem J.o_skip_g {T : Act → World → Prop} {r : List (Nat × Nat)} {i : Nat} {op ty pos after d j t b b'} (ho : ops[i]? = some ⟨some d, op, ty, pos, after, some (j, b)⟩) (hj : (ops[j]?).bind (·.dst) = some t) (hg : σ.get t = some (.bool b')) (hN : Nat.blt t N = true)
    (hb : (b' == b) = false) (hd : Nat.blt d N = true) (h : J N ds ((d, undef) :: σ) (wpOrd P ops Q Ext T r) w) : J N ds σ (wpOrd P ops Q Ext T ((i, 0) :: r)) w := J.one_skip_g ho hj hg hN hb hd h
theorem J.o_one {T : Act → World → Prop} {r : List (Nat × Nat)} {i : Nat} {op ty pos after v d} (ho : ops[i]? = some ⟨some d, op, ty, pos, after, none⟩) (hy : Yd P σ op ty v w) (hd : Nat.blt d N = true)
    (h : J N ds ((d, v) :: σ) (wpOrd P ops Q Ext T r) w) : J N ds σ (wpOrd P ops Q Ext T ((i, 0) :: r)) w := J.o_eff ho hy.ye hd (fun _ _ h => h.2 ▸ Ext.refl _) fun _ _ ⟨h1, h2⟩ => by subst h1; subst h2; exact h
theorem J.o_one_g {T : Act → World → Prop} {r : List (Nat × Nat)} {i : Nat} {op ty pos after v d j t b} (ho : ops[i]? = some ⟨some d, op, ty, pos, after, some (j, b)⟩) (hj : (ops[j]?).bind (·.dst) = some t) (hg : σ.get t = some (.bool b)) (hN : Nat.blt t N = true) (hy : Yd P σ op ty v w) (hd : Nat.blt d N = true)
    (h : J N ds ((d, v) :: σ) (wpOrd P ops Q Ext T r) w) : J N ds σ (wpOrd P ops Q Ext T ((i, 0) :: r)) w := J.o_eff_g ho hj hg hN hy.ye hd (fun _ _ h => h.2 ▸ Ext.refl _) fun _ _ ⟨h1, h2⟩ => by subst h1; subst h2; exact h

/-! ### Calls -/
def callable (P : Program) (f : FuncId) : Bool :=
  match P.funcs[f]? with
  | some fn => !(fn.name == "runtime.NumGoroutine") && fn.body.isSome
  | none => false

theorem run_callFunc {P : Program} {f : FuncId} (h : callable P f = true) (args : Array Value) (w : World) : (callFunc f args).run P w = .ok (.enter f args) w := by
  unfold callable at h
  cases hf : P.funcs[f]? with
  | none => rw [hf] at h; cases h
  | some fn =>
    rw [hf] at h
    simp only [Bool.and_eq_true, Bool.not_eq_true'] at h
    obtain ⟨h1, h2⟩ := h
    have h3 : fn.body.isNone = false := by cases hb : fn.body <;> simp [hb] at h2 ⊢
    unfold callFunc
    simp only [Sem.run_bind, run_program, Result.andThen_ok, hf, h1, h3, Bool.false_eq_true, if_false]
    rfl

theorem run_enter {f fst} {cap args : Array Value} (hc : callable P f = true) (w' : World) : ((Deferred.ofValue (.func (.func f) fst cap) args) >>= fun d => invoke d.target d.args).run P w' = .ok (.enter f (fst ++ args ++ cap)) w' := by
  simp only [Deferred.ofValue, pure_bind, invoke]
  exact run_callFunc hc _ _

theorem run_call {o : Oper} {a : Act} {f x args tys fst cap} (hc : callable P f = true) (ho : o.op = .call ⟨.value x, args, tys⟩) (hx : a.eval x = .func (.func f) fst cap) (w' : World) :
    (execOp a.eval o).run P w' = .ok (.enter f (fst ++ args.map a.eval ++ cap)) w' := by
  have e : execOp a.eval o = ((Deferred.ofValue (.func (.func f) fst cap) (args.map a.eval)) >>= fun d => invoke d.target d.args) := by
    unfold execOp; rw [ho]; simp only [resolve, hx]
  rw [e]; exact run_enter hc w'

theorem Ye.callv {ty f x args tys fst cap vs R} (hc : callable P f = true) (hx : ev σ x = some (.func (.func f) fst cap)) (ha : evs σ args.toList = some vs) (h : C P f (fst.toList ++ vs ++ cap.toList) w (Ret R)) : Ye P σ (.call ⟨.value x, args, tys⟩) ty w R :=
  fun N ds a w' dst pos after g next Q hf hs hk => by
    have hv : fst ++ args.map a.eval ++ cap = (fst.toList ++ vs ++ cap.toList).toArray := by
      rw [← hf.evs ha]
      apply Array.toList_inj.1
      simp
    unfold Oper.wp
    rw [run_call hc rfl (hf.ev hx) w', hv, Oper.upon_enter]
    refine (h w' hs).mono fun e w2 ⟨w3, hs2, v, he, hR⟩ => ?_
    subst he
    exact hk v w3 w2 hR hs2
theorem Ye.call {ty f args tys vs R} (hc : callable P f = true) (ha : evs σ args.toList = some vs) (h : C P f vs w (Ret R)) : Ye P σ (.call ⟨.value (.func f), args, tys⟩) ty w R :=
  Ye.callv hc (show ev σ (.func f) = some (.func (.func f) #[] #[]) from rfl) ha (by simpa using h)

/-! ### Plain operations -/
theorem Yd.move {ty x v} (hx : ev σ x = some v) : Yd P σ (.move x) ty v w := fun N ds a w' dst pos after g hf he => by simp [execOp, hf.ev hx]
theorem Yd.assign {ty x v} (hx : ev σ x = some v) : Yd P σ (.assign x) ty v w := fun N ds a w' dst pos after g hf he => by simp [execOp, hf.ev hx]
theorem Yd.pick_t {ty c x y v} (hc : ev σ c = some (.bool true)) (hx : ev σ x = some v) : Yd P σ (.pick c x y) ty v w := fun N ds a w' dst pos after g hf he => by simp [execOp, asBool, hf.ev hx, hf.ev hc]
theorem Yd.pick_f {ty c x y v} (hc : ev σ c = some (.bool false)) (hy : ev σ y = some v) : Yd P σ (.pick c x y) ty v w := fun N ds a w' dst pos after g hf he => by simp [execOp, asBool, hf.ev hy, hf.ev hc]
theorem Yd.extract {ty x i vs v} (hx : ev σ x = some (.tuple vs)) (hv : vs[i]? = some v) : Yd P σ (.extract x i) ty v w := fun N ds a w' dst pos after g hf he => by
  simp only [execOp, Instr.extract, hf.ev hx, hv]; rfl
theorem Yd.nilCheck {ty x a} (hx : ev σ x = some (.pointer (some a))) : Yd P σ (.nilCheck x) ty (.pointer (some a)) w := fun N ds a w' dst pos after g hf he => by
  simp [execOp, hf.ev hx]
theorem Yd.nilCheck_fn {ty x f fst cap} (hx : ev σ x = some (.func (.func f) fst cap)) : Yd P σ (.nilCheck x) ty (.func (.func f) fst cap) w := fun N ds a w' dst pos after g hf he => by
  simp [execOp, hf.ev hx]
theorem Yd.not {ty t x b} (hx : ev σ x = some (.bool b)) : Yd P σ (.unOp .not t x) ty (.bool (!b)) w := fun N ds a w' dst pos after g hf he => by
  simp only [execOp, Op.unary, hf.ev hx]; rfl

theorem yd_v {op : Op} {ty : TypeId} {v : Value} (f : (Operand → Value) → Sem Value) (hop : ∀ ρ dst pos after g, execOp ρ ⟨dst, op, ty, pos, after, g⟩ = (do pure (.value (← f ρ)) : Sem Next))
    (h : ∀ (N : Nat) (ds : List Deferred) (a : Act) (w' : World), Fits N ds σ a → Ext w w' → (f a.eval).run P w' = .ok v w') : Yd P σ op ty v w := fun N ds a w' dst pos after g hf he => by
  rw [hop, Sem.run_bind, h N ds a w' hf he]; rfl
theorem yd_bin {ty op t x y t' u v r} (hx : ev σ x = some u) (hy : ev σ y = some v) (hg : eqGuard op t x y u v = pure ()) (hr : ∀ w', (binOp op t u v).run P w' = .ok r w') : Yd P σ (.binOp op t x y t') ty r w :=
  yd_v (fun ρ => do eqGuard op t x y (ρ x) (ρ y); binOp op t (ρ x) (ρ y)) (fun _ _ _ _ _ => rfl) fun N ds a w' hf he => by
    simp only [hf.ev hx, hf.ev hy, hg, pure_bind]; exact hr w'
theorem guard_int (op : BinOp) (t : TypeId) (x y : Operand) (k k' : IntKind) (m n : Int) : eqGuard op t x y (.int k m) (.int k' n) = pure () := by
  cases op <;> rfl
theorem guard_bool (op : BinOp) (t : TypeId) (x y : Operand) (m n : Bool) : eqGuard op t x y (.bool m) (.bool n) = pure () := by
  cases op <;> rfl
theorem yd_int {ty op t x y t' k m n r} (hx : ev σ x = some (.int k m)) (hy : ev σ y = some (.int k n)) (hr : ∀ w', (binOp op t (.int k m) (.int k n)).run P w' = .ok r w') : Yd P σ (.binOp op t x y t') ty r w :=
  yd_bin hx hy (guard_int _ _ _ _ _ _ _ _) hr

/-! ### int -/
theorem wrap64_id {n : Int} (h0 : -9223372036854775808 ≤ n) (h1 : n ≤ 9223372036854775807) : IntKind.i64.wrap n = n := by
  unfold IntKind.wrap
  simp only [IntKind.bits, IntKind.signed, Bool.true_and, decide_eq_true_eq, ge_iff_le]
  split <;> omega
theorem Yd.add {ty t t' x y m n} (hx : ev σ x = some (I m)) (hy : ev σ y = some (I n)) (h : -9223372036854775808 ≤ m + n ∧ m + n ≤ 9223372036854775807) : Yd P σ (.binOp .add t x y t') ty (I (m + n)) w :=
  yd_int hx hy fun w' => by simp [binOp, Op.intArith, wrap64_id h.1 h.2]
theorem Yd.sub {ty t t' x y m n} (hx : ev σ x = some (I m)) (hy : ev σ y = some (I n)) (h : -9223372036854775808 ≤ m - n ∧ m - n ≤ 9223372036854775807) : Yd P σ (.binOp .sub t x y t') ty (I (m - n)) w :=
  yd_int hx hy fun w' => by simp [binOp, Op.intArith, wrap64_id h.1 h.2]
theorem Yd.mul {ty t t' x y m n} (hx : ev σ x = some (I m)) (hy : ev σ y = some (I n)) (h : -9223372036854775808 ≤ m * n ∧ m * n ≤ 9223372036854775807) : Yd P σ (.binOp .mul t x y t') ty (I (m * n)) w :=
  yd_int hx hy fun w' => by simp [binOp, Op.intArith, wrap64_id h.1 h.2]
theorem Yd.quo {ty t t' x y m n} (hx : ev σ x = some (I m)) (hy : ev σ y = some (I n)) (h0 : 0 ≤ m) (h1 : m ≤ 9223372036854775807) (hn : 1 ≤ n) : Yd P σ (.binOp .quo t x y t') ty (I (m / n)) w := by
    have hne : n ≠ 0 := by omega
    have e : m.tdiv n = m / n := Int.tdiv_eq_ediv_of_nonneg h0
    have hd0 : 0 ≤ m / n := Int.ediv_nonneg h0 (by omega)
    have hd1 : m / n ≤ m := Int.ediv_le_self n h0
    exact yd_int hx hy fun w' => by simp [binOp, Op.intDiv, hne, e, wrap64_id (show -9223372036854775808 ≤ m / n by omega) (show m / n ≤ 9223372036854775807 by omega)]
theorem Yd.rem {ty t t' x y m n} (hx : ev σ x = some (I m)) (hy : ev σ y = some (I n)) (h0 : 0 ≤ m) (hn : 1 ≤ n) : Yd P σ (.binOp .rem t x y t') ty (I (m % n)) w := by
    have hne : n ≠ 0 := by omega
    have e : m.tmod n = m % n := Int.tmod_eq_emod_of_nonneg h0
    exact yd_int hx hy fun w' => by simp [binOp, Op.intDiv, hne, e]
theorem Yd.tmod {ty t t' x y m n} (hx : ev σ x = some (I m)) (hy : ev σ y = some (I n)) (hn : 1 ≤ n) : Yd P σ (.binOp .rem t x y t') ty (I (m.tmod n)) w := by
    have hne : n ≠ 0 := by omega
    exact yd_int hx hy fun w' => by simp [binOp, Op.intDiv, hne]
/-- min, max -/
theorem Yd.mini {ty x y tys k m n} (hx : ev σ x = some (.int k m)) (hy : ev σ y = some (.int k n)) : Yd P σ (.call ⟨.builtin .min, #[x, y], tys⟩) ty (.int k (if n < m then n else m)) w :=
  fun N ds a w' dst pos after g hf he => by simp [execOp, resolve, invoke, builtin, Builtin.min_, Builtin.min2, hf.ev hx, hf.ev hy]
theorem Yd.maxi {ty x y tys k m n} (hx : ev σ x = some (.int k m)) (hy : ev σ y = some (.int k n)) : Yd P σ (.call ⟨.builtin .max, #[x, y], tys⟩) ty (.int k (if m < n then n else m)) w :=
  fun N ds a w' dst pos after g hf he => by simp [execOp, resolve, invoke, builtin, Builtin.max_, Builtin.max2, hf.ev hx, hf.ev hy]

/-! ### Tests on integers of one kind -/
theorem Yd.lss {ty t t' x y k m n} (hx : ev σ x = some (.int k m)) (hy : ev σ y = some (.int k n)) : Yd P σ (.binOp .lss t x y t') ty (.bool (decide (m < n))) w :=
  yd_int hx hy fun w' => by simp [binOp, Op.intCmp]
theorem Yd.leq {ty t t' x y k m n} (hx : ev σ x = some (.int k m)) (hy : ev σ y = some (.int k n)) : Yd P σ (.binOp .leq t x y t') ty (.bool (decide (m ≤ n))) w :=
  yd_int hx hy fun w' => by simp [binOp, Op.intCmp]
theorem Yd.gtr {ty t t' x y k m n} (hx : ev σ x = some (.int k m)) (hy : ev σ y = some (.int k n)) : Yd P σ (.binOp .gtr t x y t') ty (.bool (decide (n < m))) w :=
  yd_int hx hy fun w' => by simp [binOp, Op.intCmp]
theorem Yd.geq {ty t t' x y k m n} (hx : ev σ x = some (.int k m)) (hy : ev σ y = some (.int k n)) : Yd P σ (.binOp .geq t x y t') ty (.bool (decide (n ≤ m))) w :=
  yd_int hx hy fun w' => by simp [binOp, Op.intCmp]
theorem Yd.eql {ty t t' x y k m n} (hx : ev σ x = some (.int k m)) (hy : ev σ y = some (.int k n)) : Yd P σ (.binOp .eql t x y t') ty (.bool (decide (m = n))) w := by
    have : (m == n) = decide (m = n) := rfl
    exact yd_int hx hy fun w' => by simp [binOp, Op.intCmp, this]
theorem Yd.neq {ty t t' x y k m n} (hx : ev σ x = some (.int k m)) (hy : ev σ y = some (.int k n)) : Yd P σ (.binOp .neq t x y t') ty (.bool (decide (m ≠ n))) w := by
    have : (m != n) = decide (m ≠ n) := by by_cases h : m = n <;> simp [h]
    exact yd_int hx hy fun w' => by simp [binOp, Op.intCmp, this]
theorem Yd.eqlb {ty t t' x y m n} (hx : ev σ x = some (.bool m)) (hy : ev σ y = some (.bool n)) (ht : P.underlying t = some .bool) : Yd P σ (.binOp .eql t x y t') ty (.bool (decide (m = n))) w := by
    refine yd_bin hx hy (guard_bool _ _ _ _ _ _) (fun w' => ?_)
    simp only [binOp, Sem.run_bind, run_equal_bool w' t m n ht]
    cases m <;> cases n <;> rfl
theorem Yd.neqb {ty t t' x y m n} (hx : ev σ x = some (.bool m)) (hy : ev σ y = some (.bool n)) (ht : P.underlying t = some .bool) : Yd P σ (.binOp .neq t x y t') ty (.bool (decide (m ≠ n))) w := by
    refine yd_bin hx hy (guard_bool _ _ _ _ _ _) (fun w' => ?_)
    simp only [binOp, Sem.run_bind, run_equal_bool w' t m n ht]
    cases m <;> cases n <;> rfl

/-! ### UInt8 -/
theorem wrap_u8 (n : Nat) : IntKind.wrap .u8 (n : Int) = ((UInt8.ofNat n).toNat : Int) := by
  unfold IntKind.wrap
  simp only [IntKind.bits, IntKind.signed, Bool.false_and, UInt8.toNat_ofNat']
  simp
theorem wrap_u8_self (x : UInt8) : IntKind.wrap .u8 (x.toNat : Int) = (x.toNat : Int) := by rw [wrap_u8, UInt8.ofNat_toNat]
theorem ofInt_u8 (x : UInt8) : BitVec.ofInt 8 (x.toNat : Int) = x.toBitVec := by rw [BitVec.ofInt_natCast]; apply BitVec.eq_of_toNat_eq; simp
theorem Yd.add_u8 {ty t t' x y m n} (hx : ev σ x = some (B m)) (hy : ev σ y = some (B n)) : Yd P σ (.binOp .add t x y t') ty (B (m + n)) w := by
    have e : IntKind.wrap .u8 ((m.toNat : Int) + (n.toNat : Int)) = ((m + n).toNat : Int) := by
      rw [show (m.toNat : Int) + (n.toNat : Int) = ((m.toNat + n.toNat : Nat) : Int) by simp, wrap_u8]; simp
    exact yd_int hx hy fun w' => by simp [binOp, Op.intArith, e]
theorem Yd.mul_u8 {ty t t' x y m n} (hx : ev σ x = some (B m)) (hy : ev σ y = some (B n)) : Yd P σ (.binOp .mul t x y t') ty (B (m * n)) w := by
    have e : IntKind.wrap .u8 ((m.toNat : Int) * (n.toNat : Int)) = ((m * n).toNat : Int) := by
      rw [show (m.toNat : Int) * (n.toNat : Int) = ((m.toNat * n.toNat : Nat) : Int) by simp, wrap_u8]; simp
    exact yd_int hx hy fun w' => by simp [binOp, Op.intArith, e]
theorem Yd.sub_u8 {ty t t' x y m n} (hx : ev σ x = some (B m)) (hy : ev σ y = some (B n)) : Yd P σ (.binOp .sub t x y t') ty (B (m - n)) w := by
    have e : IntKind.wrap .u8 ((m.toNat : Int) - (n.toNat : Int)) = ((m - n).toNat : Int) := by
      unfold IntKind.wrap
      simp only [IntKind.bits, IntKind.signed, Bool.false_and, UInt8.toNat_sub]
      have h1 := m.toNat_lt
      have h2 := n.toNat_lt
      simp only [Bool.false_eq_true, if_false, Int.natCast_emod]
      omega
    exact yd_int hx hy fun w' => by simp [binOp, Op.intArith, e]
theorem Yd.and_u8 {ty t t' x y m n} (hx : ev σ x = some (B m)) (hy : ev σ y = some (B n)) : Yd P σ (.binOp .and t x y t') ty (B (m &&& n)) w := by
    have e : IntKind.wrap .u8 (((BitVec.ofInt 8 (m.toNat : Int) &&& BitVec.ofInt 8 (n.toNat : Int)).toNat : Nat) : Int) = ((m &&& n).toNat : Int) := by
      rw [ofInt_u8, ofInt_u8]; exact wrap_u8_self (m &&& n)
    have e' : ∀ r : Int, r = ((m &&& n).toNat : Int) → Value.int .u8 r = B (m &&& n) := fun r h => by rw [h]
    exact yd_int hx hy fun w' => congrArg (fun r => (Result.ok (Value.int .u8 r) w' : Result Value)) e
theorem Yd.or_u8 {ty t t' x y m n} (hx : ev σ x = some (B m)) (hy : ev σ y = some (B n)) : Yd P σ (.binOp .or t x y t') ty (B (m ||| n)) w := by
    have e : IntKind.wrap .u8 (((BitVec.ofInt 8 (m.toNat : Int) ||| BitVec.ofInt 8 (n.toNat : Int)).toNat : Nat) : Int) = ((m ||| n).toNat : Int) := by
      rw [ofInt_u8, ofInt_u8]; exact wrap_u8_self (m ||| n)
    have e' : ∀ r : Int, r = ((m ||| n).toNat : Int) → Value.int .u8 r = B (m ||| n) := fun r h => by rw [h]
    exact yd_int hx hy fun w' => congrArg (fun r => (Result.ok (Value.int .u8 r) w' : Result Value)) e
theorem Yd.xor_u8 {ty t t' x y m n} (hx : ev σ x = some (B m)) (hy : ev σ y = some (B n)) : Yd P σ (.binOp .xor t x y t') ty (B (m ^^^ n)) w := by
    have e : IntKind.wrap .u8 (((BitVec.ofInt 8 (m.toNat : Int) ^^^ BitVec.ofInt 8 (n.toNat : Int)).toNat : Nat) : Int) = ((m ^^^ n).toNat : Int) := by
      rw [ofInt_u8, ofInt_u8]; exact wrap_u8_self (m ^^^ n)
    have e' : ∀ r : Int, r = ((m ^^^ n).toNat : Int) → Value.int .u8 r = B (m ^^^ n) := fun r h => by rw [h]
    exact yd_int hx hy fun w' => congrArg (fun r => (Result.ok (Value.int .u8 r) w' : Result Value)) e
theorem Yd.andNot_u8 {ty t t' x y m n} (hx : ev σ x = some (B m)) (hy : ev σ y = some (B n)) : Yd P σ (.binOp .andNot t x y t') ty (B (m &&& ~~~n)) w := by
    have e : IntKind.wrap .u8 (((BitVec.ofInt 8 (m.toNat : Int) &&& ~~~ BitVec.ofInt 8 (n.toNat : Int)).toNat : Nat) : Int) = ((m &&& ~~~n).toNat : Int) := by
      rw [ofInt_u8, ofInt_u8]; exact wrap_u8_self (m &&& ~~~n)
    exact yd_int hx hy fun w' => congrArg (fun r => (Result.ok (Value.int .u8 r) w' : Result Value)) e
/-- Shifted to the left, to the right, by any number of bits. -/
def shl_u8 (x : UInt8) (n : Nat) : UInt8 := UInt8.ofNat (x.toNat * 2 ^ n)
def shr_u8 (x : UInt8) (n : Nat) : UInt8 := UInt8.ofNat (x.toNat / 2 ^ n)
theorem shl_u8_min (x : UInt8) (n : Nat) : shl_u8 x (min n 8) = shl_u8 x n := by
  unfold shl_u8
  rcases Nat.le_total n 8 with h | h
  · rw [Nat.min_eq_left h]
  · rw [Nat.min_eq_right h]
    apply UInt8.toNat_inj.1
    simp only [UInt8.toNat_ofNat']
    obtain ⟨k, rfl⟩ := Nat.le.dest h
    rw [Nat.pow_add, ← Nat.mul_assoc, Nat.mul_right_comm, Nat.mul_mod_left, Nat.mul_mod_left]
theorem shr_u8_min (x : UInt8) (n : Nat) : shr_u8 x (min n 8) = shr_u8 x n := by
  unfold shr_u8
  rcases Nat.le_total n 8 with h | h
  · rw [Nat.min_eq_left h]
  · rw [Nat.min_eq_right h]
    have hx := x.toNat_lt
    obtain ⟨k, rfl⟩ := Nat.le.dest h
    rw [Nat.pow_add, Nat.div_eq_of_lt (by simpa using hx), Nat.div_eq_of_lt (Nat.lt_of_lt_of_le (by simpa using hx) (Nat.le_mul_of_pos_right _ (Nat.two_pow_pos k)))]
theorem Yd.shl_u8 {ty t t' x y m k n} (hx : ev σ x = some (B m)) (hy : ev σ y = some (.int k n)) (hn : 0 ≤ n) : Yd P σ (.binOp .shl t x y t') ty (B (Go.X.shl_u8 m n.toNat)) w := by
    have e : IntKind.wrap .u8 ((m.toNat : Int) * 2 ^ (min n.toNat 8)) = ((Go.X.shl_u8 m n.toNat).toNat : Int) := by
      rw [← Go.X.shl_u8_min]
      rw [show (m.toNat : Int) * 2 ^ (min n.toNat 8) = ((m.toNat * 2 ^ (min n.toNat 8) : Nat) : Int) by simp, wrap_u8]; rfl
    have hn' : ¬ n < 0 := by omega
    refine yd_bin hx hy (guard_int _ _ _ _ _ _ _ _) fun w' => ?_
    simp only [binOp, Op.shift, IntKind.bits, hn', if_false, e]
    rfl
theorem Yd.shr_u8 {ty t t' x y m k n} (hx : ev σ x = some (B m)) (hy : ev σ y = some (.int k n)) (hn : 0 ≤ n) : Yd P σ (.binOp .shr t x y t') ty (B (Go.X.shr_u8 m n.toNat)) w := by
    have e : ((m.toNat : Int)).fdiv (2 ^ (min n.toNat 8)) = ((Go.X.shr_u8 m n.toNat).toNat : Int) := by
      rw [← Go.X.shr_u8_min]
      unfold Go.X.shr_u8
      rw [UInt8.toNat_ofNat', Nat.mod_eq_of_lt (Nat.lt_of_le_of_lt (Nat.div_le_self _ _) (by simpa using m.toNat_lt))]
      rw [Int.fdiv_eq_ediv_of_nonneg _ (by exact_mod_cast Nat.zero_le (2 ^ _))]
      simp
    have hn' : ¬ n < 0 := by omega
    refine yd_bin hx hy (guard_int _ _ _ _ _ _ _ _) fun w' => ?_
    simp only [binOp, Op.shift, IntKind.bits, hn', if_false, e]
    rfl
theorem Yd.xor1_u8 {ty t x m} (hx : ev σ x = some (B m)) : Yd P σ (.unOp .xor t x) ty (B (~~~ m)) w :=
  fun N ds a w' dst pos after g hf he => by
    have e : IntKind.wrap .u8 (((BitVec.ofInt 8 (if IntKind.signed .u8 then -1 else IntKind.max .u8) ^^^ BitVec.ofInt 8 (m.toNat : Int)).toNat : Nat) : Int) = ((~~~m).toNat : Int) := by
      rw [show BitVec.ofInt 8 (if IntKind.signed .u8 then -1 else IntKind.max .u8) = BitVec.allOnes 8 from by decide +kernel, ofInt_u8, BitVec.allOnes_xor]
      exact wrap_u8_self (~~~m)
    simp only [execOp, Op.unary, hf.ev hx]
    exact congrArg (fun r => (Result.ok (Next.value (Value.int .u8 r)) w' : Result Next)) e

/-! ### UInt32 -/
theorem wrap_u32 (n : Nat) : IntKind.wrap .u32 (n : Int) = ((UInt32.ofNat n).toNat : Int) := by
  unfold IntKind.wrap
  simp only [IntKind.bits, IntKind.signed, Bool.false_and, UInt32.toNat_ofNat']
  simp
theorem wrap_u32_self (x : UInt32) : IntKind.wrap .u32 (x.toNat : Int) = (x.toNat : Int) := by rw [wrap_u32, UInt32.ofNat_toNat]
theorem ofInt_u32 (x : UInt32) : BitVec.ofInt 32 (x.toNat : Int) = x.toBitVec := by rw [BitVec.ofInt_natCast]; apply BitVec.eq_of_toNat_eq; simp
theorem Yd.add_u32 {ty t t' x y m n} (hx : ev σ x = some (W32 m)) (hy : ev σ y = some (W32 n)) : Yd P σ (.binOp .add t x y t') ty (W32 (m + n)) w := by
    have e : IntKind.wrap .u32 ((m.toNat : Int) + (n.toNat : Int)) = ((m + n).toNat : Int) := by
      rw [show (m.toNat : Int) + (n.toNat : Int) = ((m.toNat + n.toNat : Nat) : Int) by simp, wrap_u32]; simp
    exact yd_int hx hy fun w' => by simp [binOp, Op.intArith, e]
theorem Yd.mul_u32 {ty t t' x y m n} (hx : ev σ x = some (W32 m)) (hy : ev σ y = some (W32 n)) : Yd P σ (.binOp .mul t x y t') ty (W32 (m * n)) w := by
    have e : IntKind.wrap .u32 ((m.toNat : Int) * (n.toNat : Int)) = ((m * n).toNat : Int) := by
      rw [show (m.toNat : Int) * (n.toNat : Int) = ((m.toNat * n.toNat : Nat) : Int) by simp, wrap_u32]; simp
    exact yd_int hx hy fun w' => by simp [binOp, Op.intArith, e]
theorem Yd.sub_u32 {ty t t' x y m n} (hx : ev σ x = some (W32 m)) (hy : ev σ y = some (W32 n)) : Yd P σ (.binOp .sub t x y t') ty (W32 (m - n)) w := by
    have e : IntKind.wrap .u32 ((m.toNat : Int) - (n.toNat : Int)) = ((m - n).toNat : Int) := by
      unfold IntKind.wrap
      simp only [IntKind.bits, IntKind.signed, Bool.false_and, UInt32.toNat_sub]
      have h1 := m.toNat_lt
      have h2 := n.toNat_lt
      simp only [Bool.false_eq_true, if_false, Int.natCast_emod]
      omega
    exact yd_int hx hy fun w' => by simp [binOp, Op.intArith, e]
theorem Yd.and_u32 {ty t t' x y m n} (hx : ev σ x = some (W32 m)) (hy : ev σ y = some (W32 n)) : Yd P σ (.binOp .and t x y t') ty (W32 (m &&& n)) w := by
    have e : IntKind.wrap .u32 (((BitVec.ofInt 32 (m.toNat : Int) &&& BitVec.ofInt 32 (n.toNat : Int)).toNat : Nat) : Int) = ((m &&& n).toNat : Int) := by
      rw [ofInt_u32, ofInt_u32]; exact wrap_u32_self (m &&& n)
    have e' : ∀ r : Int, r = ((m &&& n).toNat : Int) → Value.int .u32 r = W32 (m &&& n) := fun r h => by rw [h]
    exact yd_int hx hy fun w' => congrArg (fun r => (Result.ok (Value.int .u32 r) w' : Result Value)) e
theorem Yd.or_u32 {ty t t' x y m n} (hx : ev σ x = some (W32 m)) (hy : ev σ y = some (W32 n)) : Yd P σ (.binOp .or t x y t') ty (W32 (m ||| n)) w := by
    have e : IntKind.wrap .u32 (((BitVec.ofInt 32 (m.toNat : Int) ||| BitVec.ofInt 32 (n.toNat : Int)).toNat : Nat) : Int) = ((m ||| n).toNat : Int) := by
      rw [ofInt_u32, ofInt_u32]; exact wrap_u32_self (m ||| n)
    have e' : ∀ r : Int, r = ((m ||| n).toNat : Int) → Value.int .u32 r = W32 (m ||| n) := fun r h => by rw [h]
    exact yd_int hx hy fun w' => congrArg (fun r => (Result.ok (Value.int .u32 r) w' : Result Value)) e
theorem Yd.xor_u32 {ty t t' x y m n} (hx : ev σ x = some (W32 m)) (hy : ev σ y = some (W32 n)) : Yd P σ (.binOp .xor t x y t') ty (W32 (m ^^^ n)) w := by
    have e : IntKind.wrap .u32 (((BitVec.ofInt 32 (m.toNat : Int) ^^^ BitVec.ofInt 32 (n.toNat : Int)).toNat : Nat) : Int) = ((m ^^^ n).toNat : Int) := by
      rw [ofInt_u32, ofInt_u32]; exact wrap_u32_self (m ^^^ n)
    have e' : ∀ r : Int, r = ((m ^^^ n).toNat : Int) → Value.int .u32 r = W32 (m ^^^ n) := fun r h => by rw [h]
    exact yd_int hx hy fun w' => congrArg (fun r => (Result.ok (Value.int .u32 r) w' : Result Value)) e
theorem Yd.andNot_u32 {ty t t' x y m n} (hx : ev σ x = some (W32 m)) (hy : ev σ y = some (W32 n)) : Yd P σ (.binOp .andNot t x y t') ty (W32 (m &&& ~~~n)) w := by
    have e : IntKind.wrap .u32 (((BitVec.ofInt 32 (m.toNat : Int) &&& ~~~ BitVec.ofInt 32 (n.toNat : Int)).toNat : Nat) : Int) = ((m &&& ~~~n).toNat : Int) := by
      rw [ofInt_u32, ofInt_u32]; exact wrap_u32_self (m &&& ~~~n)
    exact yd_int hx hy fun w' => congrArg (fun r => (Result.ok (Value.int .u32 r) w' : Result Value)) e
/-- Shifted to the left, to the right, by any number of bits. -/
def shl_u32 (x : UInt32) (n : Nat) : UInt32 := UInt32.ofNat (x.toNat * 2 ^ n)
def shr_u32 (x : UInt32) (n : Nat) : UInt32 := UInt32.ofNat (x.toNat / 2 ^ n)
theorem shl_u32_min (x : UInt32) (n : Nat) : shl_u32 x (min n 32) = shl_u32 x n := by
  unfold shl_u32
  rcases Nat.le_total n 32 with h | h
  · rw [Nat.min_eq_left h]
  · rw [Nat.min_eq_right h]
    apply UInt32.toNat_inj.1
    simp only [UInt32.toNat_ofNat']
    obtain ⟨k, rfl⟩ := Nat.le.dest h
    rw [Nat.pow_add, ← Nat.mul_assoc, Nat.mul_right_comm, Nat.mul_mod_left, Nat.mul_mod_left]
theorem shr_u32_min (x : UInt32) (n : Nat) : shr_u32 x (min n 32) = shr_u32 x n := by
  unfold shr_u32
  rcases Nat.le_total n 32 with h | h
  · rw [Nat.min_eq_left h]
  · rw [Nat.min_eq_right h]
    have hx := x.toNat_lt
    obtain ⟨k, rfl⟩ := Nat.le.dest h
    rw [Nat.pow_add, Nat.div_eq_of_lt (by simpa using hx), Nat.div_eq_of_lt (Nat.lt_of_lt_of_le (by simpa using hx) (Nat.le_mul_of_pos_right _ (Nat.two_pow_pos k)))]
theorem Yd.shl_u32 {ty t t' x y m k n} (hx : ev σ x = some (W32 m)) (hy : ev σ y = some (.int k n)) (hn : 0 ≤ n) : Yd P σ (.binOp .shl t x y t') ty (W32 (Go.X.shl_u32 m n.toNat)) w := by
    have e : IntKind.wrap .u32 ((m.toNat : Int) * 2 ^ (min n.toNat 32)) = ((Go.X.shl_u32 m n.toNat).toNat : Int) := by
      rw [← Go.X.shl_u32_min]
      rw [show (m.toNat : Int) * 2 ^ (min n.toNat 32) = ((m.toNat * 2 ^ (min n.toNat 32) : Nat) : Int) by simp, wrap_u32]; rfl
    have hn' : ¬ n < 0 := by omega
    refine yd_bin hx hy (guard_int _ _ _ _ _ _ _ _) fun w' => ?_
    simp only [binOp, Op.shift, IntKind.bits, hn', if_false, e]
    rfl
theorem Yd.shr_u32 {ty t t' x y m k n} (hx : ev σ x = some (W32 m)) (hy : ev σ y = some (.int k n)) (hn : 0 ≤ n) : Yd P σ (.binOp .shr t x y t') ty (W32 (Go.X.shr_u32 m n.toNat)) w := by
    have e : ((m.toNat : Int)).fdiv (2 ^ (min n.toNat 32)) = ((Go.X.shr_u32 m n.toNat).toNat : Int) := by
      rw [← Go.X.shr_u32_min]
      unfold Go.X.shr_u32
      rw [UInt32.toNat_ofNat', Nat.mod_eq_of_lt (Nat.lt_of_le_of_lt (Nat.div_le_self _ _) (by simpa using m.toNat_lt))]
      rw [Int.fdiv_eq_ediv_of_nonneg _ (by exact_mod_cast Nat.zero_le (2 ^ _))]
      simp
    have hn' : ¬ n < 0 := by omega
    refine yd_bin hx hy (guard_int _ _ _ _ _ _ _ _) fun w' => ?_
    simp only [binOp, Op.shift, IntKind.bits, hn', if_false, e]
    rfl
theorem Yd.xor1_u32 {ty t x m} (hx : ev σ x = some (W32 m)) : Yd P σ (.unOp .xor t x) ty (W32 (~~~ m)) w :=
  fun N ds a w' dst pos after g hf he => by
    have e : IntKind.wrap .u32 (((BitVec.ofInt 32 (if IntKind.signed .u32 then -1 else IntKind.max .u32) ^^^ BitVec.ofInt 32 (m.toNat : Int)).toNat : Nat) : Int) = ((~~~m).toNat : Int) := by
      rw [show BitVec.ofInt 32 (if IntKind.signed .u32 then -1 else IntKind.max .u32) = BitVec.allOnes 32 from by decide +kernel, ofInt_u32, BitVec.allOnes_xor]
      exact wrap_u32_self (~~~m)
    simp only [execOp, Op.unary, hf.ev hx]
    exact congrArg (fun r => (Result.ok (Next.value (Value.int .u32 r)) w' : Result Next)) e

/-! ### UInt64 -/
theorem wrap_u64 (n : Nat) : IntKind.wrap .u64 (n : Int) = ((UInt64.ofNat n).toNat : Int) := by
  unfold IntKind.wrap
  simp only [IntKind.bits, IntKind.signed, Bool.false_and, UInt64.toNat_ofNat']
  simp
theorem wrap_u64_self (x : UInt64) : IntKind.wrap .u64 (x.toNat : Int) = (x.toNat : Int) := by rw [wrap_u64, UInt64.ofNat_toNat]
theorem ofInt_u64 (x : UInt64) : BitVec.ofInt 64 (x.toNat : Int) = x.toBitVec := by rw [BitVec.ofInt_natCast]; apply BitVec.eq_of_toNat_eq; simp
theorem Yd.add_u64 {ty t t' x y m n} (hx : ev σ x = some (W64 m)) (hy : ev σ y = some (W64 n)) : Yd P σ (.binOp .add t x y t') ty (W64 (m + n)) w := by
    have e : IntKind.wrap .u64 ((m.toNat : Int) + (n.toNat : Int)) = ((m + n).toNat : Int) := by
      rw [show (m.toNat : Int) + (n.toNat : Int) = ((m.toNat + n.toNat : Nat) : Int) by simp, wrap_u64]; simp
    exact yd_int hx hy fun w' => by simp [binOp, Op.intArith, e]
theorem Yd.mul_u64 {ty t t' x y m n} (hx : ev σ x = some (W64 m)) (hy : ev σ y = some (W64 n)) : Yd P σ (.binOp .mul t x y t') ty (W64 (m * n)) w := by
    have e : IntKind.wrap .u64 ((m.toNat : Int) * (n.toNat : Int)) = ((m * n).toNat : Int) := by
      rw [show (m.toNat : Int) * (n.toNat : Int) = ((m.toNat * n.toNat : Nat) : Int) by simp, wrap_u64]; simp
    exact yd_int hx hy fun w' => by simp [binOp, Op.intArith, e]
theorem Yd.sub_u64 {ty t t' x y m n} (hx : ev σ x = some (W64 m)) (hy : ev σ y = some (W64 n)) : Yd P σ (.binOp .sub t x y t') ty (W64 (m - n)) w := by
    have e : IntKind.wrap .u64 ((m.toNat : Int) - (n.toNat : Int)) = ((m - n).toNat : Int) := by
      unfold IntKind.wrap
      simp only [IntKind.bits, IntKind.signed, Bool.false_and, UInt64.toNat_sub]
      have h1 := m.toNat_lt
      have h2 := n.toNat_lt
      simp only [Bool.false_eq_true, if_false, Int.natCast_emod]
      omega
    exact yd_int hx hy fun w' => by simp [binOp, Op.intArith, e]
theorem Yd.and_u64 {ty t t' x y m n} (hx : ev σ x = some (W64 m)) (hy : ev σ y = some (W64 n)) : Yd P σ (.binOp .and t x y t') ty (W64 (m &&& n)) w := by
    have e : IntKind.wrap .u64 (((BitVec.ofInt 64 (m.toNat : Int) &&& BitVec.ofInt 64 (n.toNat : Int)).toNat : Nat) : Int) = ((m &&& n).toNat : Int) := by
      rw [ofInt_u64, ofInt_u64]; exact wrap_u64_self (m &&& n)
    have e' : ∀ r : Int, r = ((m &&& n).toNat : Int) → Value.int .u64 r = W64 (m &&& n) := fun r h => by rw [h]
    exact yd_int hx hy fun w' => congrArg (fun r => (Result.ok (Value.int .u64 r) w' : Result Value)) e
theorem Yd.or_u64 {ty t t' x y m n} (hx : ev σ x = some (W64 m)) (hy : ev σ y = some (W64 n)) : Yd P σ (.binOp .or t x y t') ty (W64 (m ||| n)) w := by
    have e : IntKind.wrap .u64 (((BitVec.ofInt 64 (m.toNat : Int) ||| BitVec.ofInt 64 (n.toNat : Int)).toNat : Nat) : Int) = ((m ||| n).toNat : Int) := by
      rw [ofInt_u64, ofInt_u64]; exact wrap_u64_self (m ||| n)
    have e' : ∀ r : Int, r = ((m ||| n).toNat : Int) → Value.int .u64 r = W64 (m ||| n) := fun r h => by rw [h]
    exact yd_int hx hy fun w' => congrArg (fun r => (Result.ok (Value.int .u64 r) w' : Result Value)) e
theorem Yd.xor_u64 {ty t t' x y m n} (hx : ev σ x = some (W64 m)) (hy : ev σ y = some (W64 n)) : Yd P σ (.binOp .xor t x y t') ty (W64 (m ^^^ n)) w := by
    have e : IntKind.wrap .u64 (((BitVec.ofInt 64 (m.toNat : Int) ^^^ BitVec.ofInt 64 (n.toNat : Int)).toNat : Nat) : Int) = ((m ^^^ n).toNat : Int) := by
      rw [ofInt_u64, ofInt_u64]; exact wrap_u64_self (m ^^^ n)
    have e' : ∀ r : Int, r = ((m ^^^ n).toNat : Int) → Value.int .u64 r = W64 (m ^^^ n) := fun r h => by rw [h]
    exact yd_int hx hy fun w' => congrArg (fun r => (Result.ok (Value.int .u64 r) w' : Result Value)) e
theorem Yd.andNot_u64 {ty t t' x y m n} (hx : ev σ x = some (W64 m)) (hy : ev σ y = some (W64 n)) : Yd P σ (.binOp .andNot t x y t') ty (W64 (m &&& ~~~n)) w := by
    have e : IntKind.wrap .u64 (((BitVec.ofInt 64 (m.toNat : Int) &&& ~~~ BitVec.ofInt 64 (n.toNat : Int)).toNat : Nat) : Int) = ((m &&& ~~~n).toNat : Int) := by
      rw [ofInt_u64, ofInt_u64]; exact wrap_u64_self (m &&& ~~~n)
    exact yd_int hx hy fun w' => congrArg (fun r => (Result.ok (Value.int .u64 r) w' : Result Value)) e
/-- Shifted to the left, to the right, by any number of bits. -/
def shl_u64 (x : UInt64) (n : Nat) : UInt64 := UInt64.ofNat (x.toNat * 2 ^ n)
def shr_u64 (x : UInt64) (n : Nat) : UInt64 := UInt64.ofNat (x.toNat / 2 ^ n)
theorem shl_u64_min (x : UInt64) (n : Nat) : shl_u64 x (min n 64) = shl_u64 x n := by
  unfold shl_u64
  rcases Nat.le_total n 64 with h | h
  · rw [Nat.min_eq_left h]
  · rw [Nat.min_eq_right h]
    apply UInt64.toNat_inj.1
    simp only [UInt64.toNat_ofNat']
    obtain ⟨k, rfl⟩ := Nat.le.dest h
    rw [Nat.pow_add, ← Nat.mul_assoc, Nat.mul_right_comm, Nat.mul_mod_left, Nat.mul_mod_left]
theorem shr_u64_min (x : UInt64) (n : Nat) : shr_u64 x (min n 64) = shr_u64 x n := by
  unfold shr_u64
  rcases Nat.le_total n 64 with h | h
  · rw [Nat.min_eq_left h]
  · rw [Nat.min_eq_right h]
    have hx := x.toNat_lt
    obtain ⟨k, rfl⟩ := Nat.le.dest h
    rw [Nat.pow_add, Nat.div_eq_of_lt (by simpa using hx), Nat.div_eq_of_lt (Nat.lt_of_lt_of_le (by simpa using hx) (Nat.le_mul_of_pos_right _ (Nat.two_pow_pos k)))]
theorem Yd.shl_u64 {ty t t' x y m k n} (hx : ev σ x = some (W64 m)) (hy : ev σ y = some (.int k n)) (hn : 0 ≤ n) : Yd P σ (.binOp .shl t x y t') ty (W64 (Go.X.shl_u64 m n.toNat)) w := by
    have e : IntKind.wrap .u64 ((m.toNat : Int) * 2 ^ (min n.toNat 64)) = ((Go.X.shl_u64 m n.toNat).toNat : Int) := by
      rw [← Go.X.shl_u64_min]
      rw [show (m.toNat : Int) * 2 ^ (min n.toNat 64) = ((m.toNat * 2 ^ (min n.toNat 64) : Nat) : Int) by simp, wrap_u64]; rfl
    have hn' : ¬ n < 0 := by omega
    refine yd_bin hx hy (guard_int _ _ _ _ _ _ _ _) fun w' => ?_
    simp only [binOp, Op.shift, IntKind.bits, hn', if_false, e]
    rfl
theorem Yd.shr_u64 {ty t t' x y m k n} (hx : ev σ x = some (W64 m)) (hy : ev σ y = some (.int k n)) (hn : 0 ≤ n) : Yd P σ (.binOp .shr t x y t') ty (W64 (Go.X.shr_u64 m n.toNat)) w := by
    have e : ((m.toNat : Int)).fdiv (2 ^ (min n.toNat 64)) = ((Go.X.shr_u64 m n.toNat).toNat : Int) := by
      rw [← Go.X.shr_u64_min]
      unfold Go.X.shr_u64
      rw [UInt64.toNat_ofNat', Nat.mod_eq_of_lt (Nat.lt_of_le_of_lt (Nat.div_le_self _ _) (by simpa using m.toNat_lt))]
      rw [Int.fdiv_eq_ediv_of_nonneg _ (by exact_mod_cast Nat.zero_le (2 ^ _))]
      simp
    have hn' : ¬ n < 0 := by omega
    refine yd_bin hx hy (guard_int _ _ _ _ _ _ _ _) fun w' => ?_
    simp only [binOp, Op.shift, IntKind.bits, hn', if_false, e]
    rfl
theorem Yd.xor1_u64 {ty t x m} (hx : ev σ x = some (W64 m)) : Yd P σ (.unOp .xor t x) ty (W64 (~~~ m)) w :=
  fun N ds a w' dst pos after g hf he => by
    have e : IntKind.wrap .u64 (((BitVec.ofInt 64 (if IntKind.signed .u64 then -1 else IntKind.max .u64) ^^^ BitVec.ofInt 64 (m.toNat : Int)).toNat : Nat) : Int) = ((~~~m).toNat : Int) := by
      rw [show BitVec.ofInt 64 (if IntKind.signed .u64 then -1 else IntKind.max .u64) = BitVec.allOnes 64 from by decide +kernel, ofInt_u64, BitVec.allOnes_xor]
      exact wrap_u64_self (~~~m)
    simp only [execOp, Op.unary, hf.ev hx]
    exact congrArg (fun r => (Result.ok (Next.value (Value.int .u64 r)) w' : Result Next)) e

/-! ### Conversions -/
theorem run_conv (src dst : TypeId) {kd ks : IntKind} {n : Int} (w' : World) {d : TypeDesc} (hs : P.underlying src = some (.int ks)) (h : P.underlying dst = some (.int kd)) : (convert src dst (.int ks n)).run P w' = .ok (.int kd (kd.wrap n)) w' := by
  simp [convert, run_underlying hs, run_underlying h, Conv.intToInt]
theorem Yd.conv {ty s d x ks kd n m} (hs : P.underlying s = some (.int ks)) (hd : P.underlying d = some (.int kd)) (hx : ev σ x = some (.int ks n)) (hm : kd.wrap n = m) : Yd P σ (.convert s d x) ty (.int kd m) w :=
  fun N ds a w' dst pos after g hf he => by
    simp [execOp, hf.ev hx, run_conv s d w' (d := .bool) hs hd, hm]
theorem wrap_u8_lt (n : Nat) (h : n < 256) : IntKind.wrap .u8 (n : Int) = (n : Int) := by
  rw [wrap_u8]; simp [UInt8.toNat_ofNat', Nat.mod_eq_of_lt h]
theorem cv_8_64 (x : UInt8) : IntKind.u64.wrap (x.toNat : Int) = (x.toUInt64.toNat : Int) := by
  rw [wrap_u64]; have := x.toNat_lt; simp [UInt64.toNat_ofNat', Nat.mod_eq_of_lt (show x.toNat < 18446744073709551616 by omega)]
theorem cv_8_32 (x : UInt8) : IntKind.u32.wrap (x.toNat : Int) = (x.toUInt32.toNat : Int) := by
  rw [wrap_u32]; have := x.toNat_lt; simp [UInt32.toNat_ofNat', Nat.mod_eq_of_lt (show x.toNat < 4294967296 by omega)]
theorem cv_32_64 (x : UInt32) : IntKind.u64.wrap (x.toNat : Int) = (x.toUInt64.toNat : Int) := by
  rw [wrap_u64]; have := x.toNat_lt; simp [UInt64.toNat_ofNat', Nat.mod_eq_of_lt (show x.toNat < 18446744073709551616 by omega)]
theorem cv_64_32 (x : UInt64) : IntKind.u32.wrap (x.toNat : Int) = (x.toUInt32.toNat : Int) := by
  rw [wrap_u32]; simp [UInt32.toNat_ofNat', UInt64.toNat_toUInt32]
theorem cv_64_8 (x : UInt64) : IntKind.u8.wrap (x.toNat : Int) = (x.toUInt8.toNat : Int) := by
  rw [wrap_u8]; simp [UInt8.toNat_ofNat', UInt64.toNat_toUInt8]
theorem cv_32_8 (x : UInt32) : IntKind.u8.wrap (x.toNat : Int) = (x.toUInt8.toNat : Int) := by
  rw [wrap_u8]; simp [UInt8.toNat_ofNat', UInt32.toNat_toUInt8]
theorem cv_8_i (x : UInt8) : IntKind.i64.wrap (x.toNat : Int) = (x.toNat : Int) := by have := x.toNat_lt; exact wrap64_id (by omega) (by omega)
theorem cv_32_i (x : UInt32) : IntKind.i64.wrap (x.toNat : Int) = (x.toNat : Int) := by have := x.toNat_lt; exact wrap64_id (by omega) (by omega)
theorem cv_i_64 {n : Int} (h : 0 ≤ n) : IntKind.u64.wrap n = ((UInt64.ofNat n.toNat).toNat : Int) := by
  obtain ⟨k, rfl⟩ := Int.eq_ofNat_of_zero_le h; exact wrap_u64 k
theorem cv_i_32 {n : Int} (h : 0 ≤ n) : IntKind.u32.wrap n = ((UInt32.ofNat n.toNat).toNat : Int) := by
  obtain ⟨k, rfl⟩ := Int.eq_ofNat_of_zero_le h; exact wrap_u32 k
theorem cv_i_8 {n : Int} (h : 0 ≤ n) : IntKind.u8.wrap n = ((UInt8.ofNat n.toNat).toNat : Int) := by
  obtain ⟨k, rfl⟩ := Int.eq_ofNat_of_zero_le h; exact wrap_u8 k
theorem Yd.cv_8_64 {ty s d x m} (hs : P.underlying s = some (.int .u8)) (hd : P.underlying d = some (.int .u64)) (hx : ev σ x = some (B m)) : Yd P σ (.convert s d x) ty (W64 m.toUInt64) w := .conv hs hd hx (Go.X.cv_8_64 m)
theorem Yd.cv_8_32 {ty s d x m} (hs : P.underlying s = some (.int .u8)) (hd : P.underlying d = some (.int .u32)) (hx : ev σ x = some (B m)) : Yd P σ (.convert s d x) ty (W32 m.toUInt32) w := .conv hs hd hx (Go.X.cv_8_32 m)
theorem Yd.cv_32_64 {ty s d x m} (hs : P.underlying s = some (.int .u32)) (hd : P.underlying d = some (.int .u64)) (hx : ev σ x = some (W32 m)) : Yd P σ (.convert s d x) ty (W64 m.toUInt64) w := .conv hs hd hx (Go.X.cv_32_64 m)
theorem Yd.cv_64_32 {ty s d x m} (hs : P.underlying s = some (.int .u64)) (hd : P.underlying d = some (.int .u32)) (hx : ev σ x = some (W64 m)) : Yd P σ (.convert s d x) ty (W32 m.toUInt32) w := .conv hs hd hx (Go.X.cv_64_32 m)
theorem Yd.cv_64_8 {ty s d x m} (hs : P.underlying s = some (.int .u64)) (hd : P.underlying d = some (.int .u8)) (hx : ev σ x = some (W64 m)) : Yd P σ (.convert s d x) ty (B m.toUInt8) w := .conv hs hd hx (Go.X.cv_64_8 m)
theorem Yd.cv_32_8 {ty s d x m} (hs : P.underlying s = some (.int .u32)) (hd : P.underlying d = some (.int .u8)) (hx : ev σ x = some (W32 m)) : Yd P σ (.convert s d x) ty (B m.toUInt8) w := .conv hs hd hx (Go.X.cv_32_8 m)
theorem Yd.cv_8_i {ty s d x m} (hs : P.underlying s = some (.int .u8)) (hd : P.underlying d = some (.int .i64)) (hx : ev σ x = some (B m)) : Yd P σ (.convert s d x) ty (I m.toNat) w := .conv hs hd hx (Go.X.cv_8_i m)
theorem Yd.cv_32_i {ty s d x m} (hs : P.underlying s = some (.int .u32)) (hd : P.underlying d = some (.int .i64)) (hx : ev σ x = some (W32 m)) : Yd P σ (.convert s d x) ty (I m.toNat) w := .conv hs hd hx (Go.X.cv_32_i m)
theorem Yd.cv_64_i {ty s d x m} (hs : P.underlying s = some (.int .u64)) (hd : P.underlying d = some (.int .i64)) (hx : ev σ x = some (W64 m)) (h : (m.toNat : Int) ≤ 9223372036854775807) : Yd P σ (.convert s d x) ty (I m.toNat) w := .conv hs hd hx (wrap64_id (by omega) h)
theorem Yd.cv_i_64 {ty s d x n} (hs : P.underlying s = some (.int .i64)) (hd : P.underlying d = some (.int .u64)) (hx : ev σ x = some (I n)) (h : 0 ≤ n) : Yd P σ (.convert s d x) ty (W64 (UInt64.ofNat n.toNat)) w := .conv hs hd hx (Go.X.cv_i_64 h)
theorem Yd.cv_i_32 {ty s d x n} (hs : P.underlying s = some (.int .i64)) (hd : P.underlying d = some (.int .u32)) (hx : ev σ x = some (I n)) (h : 0 ≤ n) : Yd P σ (.convert s d x) ty (W32 (UInt32.ofNat n.toNat)) w := .conv hs hd hx (Go.X.cv_i_32 h)
theorem Yd.cv_i_8 {ty s d x n} (hs : P.underlying s = some (.int .i64)) (hd : P.underlying d = some (.int .u8)) (hx : ev σ x = some (I n)) (h : 0 ≤ n) : Yd P σ (.convert s d x) ty (B (UInt8.ofNat n.toNat)) w := .conv hs hd hx (Go.X.cv_i_8 h)
/-- between kinds of int -/
theorem Yd.cv_i_i {ty s d x n} (hs : P.underlying s = some (.int .i64)) (hd : P.underlying d = some (.int .i64)) (hx : ev σ x = some (I n)) (h : -9223372036854775808 ≤ n ∧ n ≤ 9223372036854775807) : Yd P σ (.convert s d x) ty (I n) w := .conv hs hd hx (wrap64_id h.1 h.2)

/-! ### The function's end -/
theorem J.ret1 {fn : Func} {R : Ending → World → Prop} {t : Nat} {v : Value} (hr : fn.results = #[.tmp t]) (hg : σ.get t = some v) (h : R (.returned v) w) : J N [] σ (Fin P fn R .ret) w := fun a w' hf hs =>
  ⟨hf.defers, v, by rw [results_tmp hr, hf.vals _ _ hg], w, hs, h⟩
theorem J.ret2 {fn : Func} {R : Ending → World → Prop} {t u : Nat} {v x : Value} (hr : fn.results = #[.tmp t, .tmp u]) (hg : σ.get t = some v) (hx : σ.get u = some x) (h : R (.returned (.tuple #[v, x])) w) : J N [] σ (Fin P fn R .ret) w := fun a w' hf hs =>
  ⟨hf.defers, _, by rw [results_tmp2 hr, hf.vals _ _ hg, hf.vals _ _ hx], w, hs, h⟩
theorem J.ret0 {fn : Func} {R : Ending → World → Prop} (hr : fn.results = #[]) (h : R (.returned (.tuple #[])) w) : J N [] σ (Fin P fn R .ret) w := fun a w' hf hs =>
  ⟨hf.defers, _, by rw [results_none hr], w, hs, h⟩
theorem J.end0 {fn : Func} {R : Ending → World → Prop} (hr : fn.results = #[]) (h : R (.returned (.tuple #[])) w) : J N [] σ (Fin P fn R .normal) w := fun a w' hf hs =>
  ⟨hf.defers, _, by rw [results_none hr], w, hs, h⟩
end
end Go.X
