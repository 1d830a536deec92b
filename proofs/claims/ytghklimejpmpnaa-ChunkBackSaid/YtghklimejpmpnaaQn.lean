import Derived.Test.YtghklimejpmpnaaPA
import Derived.Test.YtghklimejpmpnaaX27
/-
  Bytes in pieces. No program here.
-/
set_option linter.unusedVariables false
namespace Go.X
/-! ### A slice with three numbers -/
def slc3 (s : Value) (l h m : Nat) : Value :=
  match s with
  | .slice p n c => sliced p l h m 1
  | v => v
theorem Rd.slc3 {w : World} {s xs} (hr : Rd w s xs) {l h m : Nat} (hl : l ≤ h) (hm : h ≤ m) (hh : m ≤ xs.length) : Rd w (Go.X.slc3 s l h m) ((xs.take h).drop l) := by
  obtain ⟨p, c, rfl, ⟨h2, h2'⟩, h3, h4⟩ := hr
  have hlen : ((xs.take h).drop l).length = h - l := by simp; omega
  refine ⟨_, _, by show sliced p l h m 1 = _; rw [sliced_eq, hlen], by rw [hlen]; omega, fun hn => ?_, fun q v hv => ?_⟩
  · by_cases hc : m = l
    · omega
    · rw [if_neg hc] at hn
      cases p with
      | none => have := h3 rfl; omega
      | some a => cases hn
  · have hq := (List.getElem?_eq_some_iff.1 hv).1
    rw [hlen] at hq
    rw [List.getElem?_drop, List.getElem?_take_of_lt (by omega)] at hv
    obtain ⟨b, o, rfl, hc⟩ := h4 _ v hv
    refine ⟨b, o + l, ?_, ?_⟩
    · rw [if_neg (by omega)]; simp [add_at]
    · rw [Nat.add_assoc]; exact hc
theorem Bs.slc3 {w : World} {s} {x : List UInt8} (h : Bs w s x) {l k m : Nat} (hl : l ≤ k) (hk : k ≤ m) (hm : m ≤ x.length) : Bs w (Go.X.slc3 s l k m) ((x.take k).drop l) := by
  have := Rd.slc3 h hl hk (by rw [List.length_map]; exact hm)
  rw [← List.map_take, ← List.map_drop] at this
  exact this
theorem slc3_own (s : Value) (l h m : Nat) : (slc3 s l h m).ownBlock = s.ownBlock := by
  cases s with
  | slice p n c =>
    show (sliced p l h m 1).ownBlock = _
    rw [sliced_eq]
    cases p with
    | none => split <;> rfl
    | some a =>
      split
      · rfl
      · simp only [Option.map_some, Value.ownBlock, Addr.add]; split <;> rfl
  | _ => rfl
def byteS : Shp UInt8 := ⟨1, fun x => [B x], fun _ => rfl, by decide⟩
theorem Yd.slc3 {P : Program} {σ : Env} {w : World} {ty x t e lo hi mx s kl l kh h km m z by'} {x0 : List UInt8} (hu : P.underlying t = some (.slice e)) (hz : TI P e z 1 by') (hx : ev σ x = some s) (hr : Bs w s x0) (hlo : ev σ lo = some (.int kl l)) (hhi : ev σ hi = some (.int kh h)) (hmx : ev σ mx = some (.int km m)) (hb : 0 ≤ l ∧ l ≤ h ∧ h ≤ m ∧ m ≤ x0.length) :
    Yd P σ (.slice t x (some lo) (some hi) (some mx)) ty (Go.X.slc3 s l.toNat h.toNat m.toNat) w := by
  obtain ⟨p, c, rfl, ⟨h2, _⟩, _, _⟩ := hr
  rw [List.length_map] at h2
  exact Yd.slE_lhm (K := byteS) hu hz hx hlo hhi hmx ⟨hb.1, hb.2.1, hb.2.2.1, by omega⟩
/-! ### Pieces -/
abbrev Pc : Type := Int × Int × Int × Value
def pcS : Shp Pc := ⟨4, fun x => [I x.1, I x.2.1, I x.2.2.1, x.2.2.2], fun _ => rfl, by decide⟩
def pcD : Pc := (0, 0, 0, nilS)
/-- Piece i of so many bytes. -/
def chV (s : Value) (n len i : Nat) : Value := slc3 s (i * n) (i * n + min n (len - i * n)) (i * n + min n (len - i * n))
def pcL (id : Int) (s : Value) (n len : Nat) (c : Int) (k : Nat) : List Pc := (List.range k).map fun (i : Nat) => (id, (i : Int), c, chV s n len i)
theorem pcL_len {id s n len c k} : (pcL id s n len c k).length = k := by simp [pcL]
theorem pcL_succ {id s n len c k} : pcL id s n len c (k + 1) = pcL id s n len c k ++ [(id, (k : Int), c, chV s n len k)] := by unfold pcL; rw [List.range_succ, List.map_append]; rfl
theorem pcL_get {id s n len c k i} (h : i < k) : (pcL id s n len c k).getD i pcD = (id, (i : Int), c, chV s n len i) := by
  unfold pcL
  rw [List.getD_eq_getElem?_getD, List.getElem?_map, List.getElem?_range h]; rfl
theorem chV_bs {w : World} {s : Value} {l : List UInt8} {n i : Nat} (h : Bs w s l) (hi : i * n < l.length) : Bs w (chV s n l.length i) ((l.drop (i * n)).take n) := by
  have h1 := Bs.slc3 h (l := i * n) (k := i * n + min n (l.length - i * n)) (m := i * n + min n (l.length - i * n)) (by omega) (Nat.le_refl _) (by omega)
  have e : (l.take (i * n + min n (l.length - i * n))).drop (i * n) = (l.drop (i * n)).take n := by
    rw [List.drop_take, Nat.add_sub_cancel_left, ← List.take_eq_take_min.symm] <;> simp [List.take_eq_take_iff]
  rw [e] at h1; exact h1
theorem chV_own (s : Value) (n len i : Nat) : (chV s n len i).ownBlock = s.ownBlock := slc3_own _ _ _ _
theorem pc_one {v : Value} {a b c : Int} (h : v.oneCell' = true) : ∀ x ∈ [((a, b, c, v) : Pc)], ∀ u ∈ pcS.c x, u.oneCell' = true := fun x hx u hu => by
  rw [List.mem_singleton] at hx
  subst hx
  simp only [pcS, List.mem_cons, List.mem_nil_iff, or_false] at hu
  rcases hu with rfl | rfl | rfl | rfl
  · rfl
  · rfl
  · rfl
  · exact h
/-- How many pieces. -/
def nPc (len n : Nat) : Nat := (len + n - 1) / n
theorem nPc_lt {len n i : Nat} (hn : 1 ≤ n) : i < nPc len n ↔ i * n < len := by
  unfold nPc
  rw [Nat.lt_iff_add_one_le, Nat.le_div_iff_mul_le (by omega), Nat.add_mul, Nat.one_mul]
  omega
/-! ### What a loop over a function turns beside -/
def Dk (w : World) (d : Nat) : Prop := w.heap[d]? = some (.deferred (some []))
theorem Dk.ext {w w' : World} {d : Nat} (h : Dk w d) (he : Ext w w') : Dk w' d := (he.block d (Array.getElem?_eq_some_iff.1 h).1).trans h
theorem Dk.gbk {w w' : World} {d : Nat} {r : Option Nat} (h : Dk w d) (hg : w.grownBy w' r) (ha : Ap (some d) r) : Dk w' d := (hg.block d (Array.getElem?_eq_some_iff.1 h).1 (fun e => ha d rfl e.symm)).trans h
theorem Dk.tnk {w w' : World} {d : Nat} {rs : List (Option Nat)} (h : Dk w d) (hg : Tn rs w w') (ha : ApL (some d) rs) : Dk w' d := (hg.block d (Array.getElem?_eq_some_iff.1 h).1 (fun r hr e => ha r hr d rfl e)).trans h
theorem Dk.live {w : World} {d : Nat} (h : Dk w d) : Live w (some d) := fun k e => by cases e; exact (Array.getElem?_eq_some_iff.1 h).1
theorem wi_yes {n lo hi : Int} (h : lo ≤ n) : decide (n ≤ hi) = decide (lo ≤ n ∧ n ≤ hi) := decide_eq_decide.2 ⟨fun h2 => ⟨h, h2⟩, fun h2 => h2.2⟩
theorem wi_no {n lo hi : Int} (h : ¬ lo ≤ n) : false = decide (lo ≤ n ∧ n ≤ hi) := (decide_eq_false fun h2 => h h2.1).symm
theorem if_min {a b : Int} : (if b < a then b else a) = min a b := by
  rcases Int.lt_or_le b a with h | h
  · rw [if_pos h, Int.min_eq_right (by omega)]
  · rw [if_neg (by omega), Int.min_eq_left h]
theorem if_minN {a b : Nat} : (if (b : Int) < (a : Int) then (b : Int) else (a : Int)) = ((min a b : Nat) : Int) := by
  rcases Nat.lt_or_ge b a with h | h
  · rw [if_pos (by omega), Nat.min_eq_right (by omega)]
  · rw [if_neg (by omega), Nat.min_eq_left h]
theorem chV_eq {s : Value} {n len i p a b c : Nat} (hp : p = i * n) (ha : a = p := by omega) (hb : b = p + min n (len - p) := by omega) (hc : c = p + min n (len - p) := by omega) : slc3 s a b c = chV s n len i := by
  subst ha; subst hb; subst hc; subst hp; rfl
theorem nf {p : Prop} [Decidable p] (h : p) : Value.bool (!decide p) = .bool false := by rw [decide_eq_true h]; rfl
theorem nt {p : Prop} [Decidable p] (h : ¬ p) : Value.bool (!decide p) = .bool true := by rw [decide_eq_false h]; rfl
/-- What stands between two rounds of Split. -/
def SpI (TP EP T3 TA TB E : Nat) (w0 w : World) (b6 b3 bA bB : Nat) (a : Value) (l : List UInt8) (id : Int) (n lr i : Nat) (W : World) : Prop :=
  ∃ s, (w.heap.size ≤ lr - 1 ∧ 1 ≤ lr) ∧ Ext w0 W ∧ Cel W b6 TP [(0, 1, [s])] ∧ Es pcS 0 EP W s (pcL id a n l.length 0 i) ∧ Cel W b3 T3 [(0, 1, [I id])] ∧ Cel W bA TA [(0, 1, [a])] ∧ Cel W bB TB [(0, 1, [I (n : Int)])] ∧ Ob w0.heap.size E W a l ∧
    Fr w0.heap.size s.ownBlock ∧ Ap (some b6) s.ownBlock ∧ Ap (some b3) s.ownBlock ∧ Ap (some bA) s.ownBlock ∧ Ap (some bB) s.ownBlock ∧ Ap a.ownBlock s.ownBlock ∧ Ap s.ownBlock (some lr) ∧ Ap s.ownBlock (some (lr - 1))
theorem ap_lr {b lr n : Nat} (hb : b < n) (hl : n ≤ lr - 1) : Ap (some b) (some lr) ∧ Ap (some b) (some (lr - 1)) := ⟨fun k e1 e2 => by cases e1; cases e2; omega, fun k e1 e2 => by cases e1; cases e2; omega⟩
theorem ap_lrO {a : Option Nat} {lr n : Nat} (hb : Lo n a) (hl : n ≤ lr - 1) : Ap a (some lr) ∧ Ap a (some (lr - 1)) := ⟨fun k e1 e2 => by have := hb k e1; cases e2; omega, fun k e1 e2 => by have := hb k e1; cases e2; omega⟩
theorem SpI.gbk {TP EP T3 TA TB E : Nat} {w0 w : World} {b6 b3 bA bB : Nat} {a : Value} {l : List UInt8} {id : Int} {n lr i : Nat} {W W' : World} (hw : w0.heap.size ≤ w.heap.size) (h6 : b6 < w.heap.size) (h3 : b3 < w.heap.size) (hA : bA < w.heap.size) (hB : bB < w.heap.size) (ha : Lo w.heap.size a.ownBlock)
    (h : SpI TP EP T3 TA TB E w0 w b6 b3 bA bB a l id n lr i W) (hg : W.grownBy W' (some lr)) : SpI TP EP T3 TA TB E w0 w b6 b3 bA bB a l id n lr i W' := by
  obtain ⟨s, ⟨q1, q2⟩, q3, q4, q5, q6, q7, q8, q9, r⟩ := h
  obtain ⟨r1, r2, r3, r4, r5, r6, r7, r8⟩ := r
  exact ⟨s, ⟨q1, q2⟩, Ext.gbk q3 (Fr.blk (by omega)) hg, q4.gbk hg (ap_lr h6 q1).1, q5.gbk hg r7, q6.gbk hg (ap_lr h3 q1).1, q7.gbk hg (ap_lr hA q1).1, q8.gbk hg (ap_lr hB q1).1, Ow.gbk q9 hg (ap_lrO ha q1).1, r1, r2, r3, r4, r5, r6, r7, r8⟩
/-- The pieces, so many of which know how many they are. -/
def pcM (id : Int) (s : Value) (n len k j : Nat) : List Pc := (List.range k).map fun (i : Nat) => (id, (i : Int), (if i < j then (k : Int) else 0), chV s n len i)
theorem pcM_len {id s n len k j} : (pcM id s n len k j).length = k := by simp [pcM]
theorem pcM_zero {id s n len k} : pcM id s n len k 0 = pcL id s n len 0 k := by unfold pcM pcL; simp
theorem pcM_all {id s n len k} : pcM id s n len k k = pcL id s n len k k := by
  unfold pcM pcL
  apply List.map_congr_left
  intro i hi
  rw [if_pos (List.mem_range.1 hi)]
theorem pcM_get {id s n len k j i} (h : i < k) : (pcM id s n len k j).getD i pcD = (id, (i : Int), (if i < j then (k : Int) else 0), chV s n len i) := by
  unfold pcM
  rw [List.getD_eq_getElem?_getD, List.getElem?_map, List.getElem?_range h]; rfl
theorem pcM_set {id s n len k j} (h : j < k) : (pcM id s n len k j).set j (id, (j : Int), (k : Int), chV s n len j) = pcM id s n len k (j + 1) := by
  apply List.ext_getElem?
  intro q
  rw [List.getElem?_set]
  unfold pcM
  split
  · next h1 =>
    subst h1
    rw [if_pos (by simpa using h), List.getElem?_map, List.getElem?_range h]
    simp
  · next h1 =>
    rw [List.getElem?_map, List.getElem?_map]
    rcases Nat.lt_or_ge q k with h2 | h2
    · rw [List.getElem?_range h2]
      simp only [Option.map_some]
      by_cases h3 : q < j
      · rw [if_pos h3, if_pos (by omega)]
      · rw [if_neg h3, if_neg (by omega)]
    · rw [List.getElem?_eq_none (by simpa using h2)]; rfl
theorem nPc_le (len n : Nat) (h : 1 ≤ n := by omega) (h1 : 1 ≤ len := by omega) : nPc len n ≤ len := by
  unfold nPc
  rw [Nat.div_le_iff_le_mul_add_pred (by omega)]
  have : len * 1 ≤ n * len := by rw [Nat.mul_comm n]; exact Nat.mul_le_mul_left _ h
  omega
theorem nPc_eq {len n i : Nat} (hn : 1 ≤ n) (h1 : len ≤ i * n) (h2 : i = 0 ∨ (i - 1) * n < len) : i = nPc len n := by
  have a1 : ¬ i < nPc len n := fun h => by have := (nPc_lt hn).1 h; omega
  rcases h2 with h2 | h2
  · omega
  · have a2 := (nPc_lt hn).2 h2
    omega
theorem nPc_int {len n : Nat} (hn : 1 ≤ n) : ((nPc len n : Nat) : Int) = ((len : Int) + (n : Int) - 1) / (n : Int) := by
  unfold nPc
  rw [Int.natCast_ediv]
  congr 1
  omega
theorem pc_take {l : List UInt8} {n i : Nat} : l.take (i * n) ++ (l.drop (i * n)).take n = l.take ((i + 1) * n) := by
  rw [Nat.succ_mul, List.take_add]
theorem pc_len {l : List UInt8} {n i : Nat} : ((l.drop (i * n)).take n).length = min n (l.length - i * n) := by
  rw [List.length_take, List.length_drop]
theorem nPc_mul {len n : Nat} (hn : 1 ≤ n) : len ≤ nPc len n * n := by
  rcases Nat.lt_or_ge (nPc len n * n) len with h | h
  · have := (nPc_lt hn).2 h; omega
  · exact h
theorem Cel.j4 {w : World} {b T : Nat} {x y z v : Value} (h : Cel w b T [(0, 1, [x]), (1, 1, [y]), (2, 1, [z]), (3, 1, [v])]) : Cel w b T [(0, 4, [x, y, z, v])] := by
  obtain ⟨L, h1, h2, h3, h4, h5, _⟩ := h
  refine ⟨L, h1, ⟨rfl, h5.2.1, ?_⟩, trivial⟩
  obtain ⟨_, _, e0⟩ := h2
  obtain ⟨_, _, e1⟩ := h3
  obtain ⟨_, _, e2⟩ := h4
  obtain ⟨_, _, e3⟩ := h5
  simp only [] at e0 e1 e2 e3 ⊢
  match L, e0, e1, e2, e3 with
  | a :: b :: c :: d :: r, e0, e1, e2, e3 =>
    simp at e0 e1 e2 e3 ⊢
    exact ⟨e0, e1, e2, e3⟩
  | [], e0, _, _, _ => simp at e0
  | [a], _, e1, _, _ => simp at e1
  | [a, b], _, _, e2, _ => simp at e2
  | [a, b, c], _, _, _, e3 => simp at e3
end Go.X
