import Derived.Test.YtfefphcmfhabiaaQw
import Derived.Test.YtfefphcmfhabiaaR2
/-
  Items that are written in a row. No program here.
-/
set_option linter.unusedVariables false
namespace Go.X
theorem refb (q : UInt64) : ((q &&& 127) ||| 128).toUInt8 = q.toUInt8 ||| 128 := by
  apply UInt8.toNat_inj.1
  rw [UInt8.toNat_or, toU8_nat, toU8_nat, UInt64.toNat_or, UInt64.toNat_and]
  have e1 : q.toNat &&& (127 : UInt64).toNat = q.toNat % 128 := Nat.and_two_pow_sub_one_eq_mod q.toNat 7
  rw [e1, show (128 : UInt64).toNat = 128 from rfl, show (128 : UInt8).toNat = 128 from rfl]
  have h1 : q.toNat % 128 < 2 ^ 7 := Nat.mod_lt _ (by decide)
  have k1 := Nat.two_pow_add_eq_or_of_lt h1 1
  have k2 : 128 * (q.toNat / 128 % 2) ||| (q.toNat % 128) = 128 * (q.toNat / 128 % 2) + q.toNat % 128 := (Nat.two_pow_add_eq_or_of_lt h1 _).symm
  have e2 : q.toNat % 256 = 128 * (q.toNat / 128 % 2) + q.toNat % 128 := by omega
  rw [e2, ← k2, Nat.or_comm (q.toNat % 128) 128]
  rw [Nat.mul_one] at k1
  have k3 : (128 : Nat) ||| q.toNat % 128 = 128 + q.toNat % 128 := k1.symm
  rw [k3]
  have hb : q.toNat / 128 % 2 = 0 ∨ q.toNat / 128 % 2 = 1 := by omega
  rcases hb with hb | hb
  · rw [hb, Nat.mul_zero, Nat.zero_or, Nat.or_comm, k3]; omega
  · rw [hb, Nat.mul_one, Nat.or_comm 128 (q.toNat % 128), Nat.or_assoc, Nat.or_self, Nat.or_comm, k3]; omega
/-- Bytes behind how many they are. -/
def bF (m : List UInt8) : List UInt8 := putN (UInt64.ofNat m.length) ++ m
theorem bF_len (m : List UInt8) : (bF m).length ≤ 10 + m.length := by
  unfold bF
  have := putN_len (UInt64.ofNat m.length)
  rw [List.length_append]; omega
theorem bFs_len : ∀ ll : List (List UInt8), (ll.flatMap bF).length ≤ 10 * ll.length + ll.flatten.length
  | [] => by simp
  | m :: ll => by
    have h1 := bF_len m
    have h2 := bFs_len ll
    simp only [List.flatMap_cons, List.length_append, List.length_cons, List.flatten_cons]; omega
/-- What an item is written as. -/
def wF (x : Item) : List UInt8 :=
  if x.1 = 1 then putN x.2.1 else if x.1 = 2 then bF x.2.2.1.2 else if x.1 = 3 then putN (UInt64.ofNat x.2.2.2.2.2.length) ++ x.2.2.2.2.2.flatMap bF else if x.1 = 4 then x.2.2.1.2 else []
/-- How much an item weighs. -/
def wt (x : Item) : Nat := x.2.2.1.2.length + (x.2.2.2.2.2.flatten.length + x.2.2.2.2.2.length) + 1
theorem wF_len (x : Item) : (wF x).length ≤ 10 * wt x := by
  unfold wF wt
  have h1 := putN_len x.2.1
  have h2 := bF_len x.2.2.1.2
  have h3 := bFs_len x.2.2.2.2.2
  have h4 := putN_len (UInt64.ofNat x.2.2.2.2.2.length)
  split
  · omega
  · split
    · omega
    · split
      · rw [List.length_append]; omega
      · split
        · omega
        · simp
def wts (es : List Item) : Nat := (es.map wt).sum
theorem wFs_len : ∀ es : List Item, (es.flatMap wF).length ≤ 10 * wts es
  | [] => by simp [wts]
  | x :: es => by
    have h1 := wF_len x
    have h2 := wFs_len es
    simp only [List.flatMap_cons, List.length_append, wts, List.map_cons, List.sum_cons] at h2 ⊢
    omega
theorem wts_snoc (es : List Item) (x : Item) : wts (es ++ [x]) = wts es + wt x := by simp [wts]
theorem wts_take {es : List Item} {i : Nat} (h : i < es.length) : wts (es.take (i + 1)) = wts (es.take i) + wt (es.getD i itD) := by
  rw [List.take_succ_eq_append_getElem h, wts_snoc, List.getD_eq_getElem?_getD, List.getElem?_eq_getElem h]; rfl
theorem wF_take {es : List Item} {i : Nat} (h : i < es.length) : (es.take (i + 1)).flatMap wF = (es.take i).flatMap wF ++ wF (es.getD i itD) := by
  rw [List.take_succ_eq_append_getElem h, List.flatMap_append, List.getD_eq_getElem?_getD, List.getElem?_eq_getElem h]
  simp
theorem wts_le (es : List Item) (i : Nat) : wts (es.take i) ≤ wts es := by
  have h : wts es = wts (es.take i) + wts (es.drop i) := by
    unfold wts
    rw [← List.sum_append, ← List.map_append, List.take_append_drop]
  omega
theorem it_mem {es : List Item} {i : Nat} (h : i < es.length) : es.getD i itD ∈ es := by
  rw [List.getD_eq_getElem?_getD, List.getElem?_eq_getElem h]; exact List.getElem_mem h
theorem bF_take {ll : List (List UInt8)} {i : Nat} (h : i < ll.length) : (ll.take (i + 1)).flatMap bF = (ll.take i).flatMap bF ++ bF (ll.getD i []) := by
  rw [List.take_succ_eq_append_getElem h, List.flatMap_append, List.getD_eq_getElem?_getD, List.getElem?_eq_getElem h]
  simp
theorem bF_takelen (ll : List (List UInt8)) (i : Nat) : (ll.take i).length ≤ ll.length ∧ (ll.take i).flatten.length ≤ ll.flatten.length := by
  refine ⟨by rw [List.length_take]; omega, ?_⟩
  have h : ll.flatten.length = (ll.take i).flatten.length + (ll.drop i).flatten.length := by
    rw [← List.length_append, ← List.flatten_append, List.take_append_drop]
  omega
theorem ll_get_len {ll : List (List UInt8)} {i : Nat} (h : i < ll.length) : (ll.getD i []).length ≤ ll.flatten.length := by
  have h1 := (bF_takelen ll (i + 1)).2
  rw [List.take_succ_eq_append_getElem h, List.flatten_append, List.length_append] at h1
  rw [List.getD_eq_getElem?_getD, List.getElem?_eq_getElem h]
  simp at h1 ⊢
  omega
theorem take_getD {ll : List (List UInt8)} {i : Nat} (h : i < ll.length) : ll.take (i + 1) = ll.take i ++ [ll.getD i []] := by
  rw [List.take_succ_eq_append_getElem h, List.getD_eq_getElem?_getD, List.getElem?_eq_getElem h]; rfl
theorem bF_drop {ll : List (List UInt8)} {i : Nat} (r : List UInt8) (h : i < ll.length) : (ll.drop i).flatMap bF ++ r = bF (ll.getD i []) ++ ((ll.drop (i + 1)).flatMap bF ++ r) := by
  rw [List.drop_eq_getElem_cons h, List.flatMap_cons, List.append_assoc, List.getD_eq_getElem?_getD, List.getElem?_eq_getElem h]; rfl
theorem wF_drop {es : List Item} {i : Nat} (h : i < es.length) : (es.drop i).flatMap wF = wF (es.getD i itD) ++ (es.drop (i + 1)).flatMap wF := by
  rw [List.drop_eq_getElem_cons h, List.flatMap_cons, List.getD_eq_getElem?_getD, List.getElem?_eq_getElem h]; rfl
theorem bFd_len (ll : List (List UInt8)) (i : Nat) : ((ll.drop i).flatMap bF).length ≤ 10 * ll.length + ll.flatten.length := by
  have h1 := bFs_len (ll.drop i)
  have h2 : ll.flatten.length = (ll.take i).flatten.length + (ll.drop i).flatten.length := by
    rw [← List.length_append, ← List.flatten_append, List.take_append_drop]
  have h3 : (ll.drop i).length ≤ ll.length := by rw [List.length_drop]; omega
  omega
theorem wFd_len (es : List Item) (i : Nat) : ((es.drop i).flatMap wF).length ≤ 10 * wts es := by
  have h1 := wFs_len (es.drop i)
  have h2 : wts es = wts (es.take i) + wts (es.drop i) := by
    unfold wts
    rw [← List.sum_append, ← List.map_append, List.take_append_drop]
  omega
theorem wt_le {es : List Item} {i : Nat} (h : i < es.length) : wt (es.getD i itD) ≤ wts es := by
  have h1 := wts_take h
  have h2 := wts_le es (i + 1)
  omega
section
variable {P : Program} {σ : Env} {w : World}
theorem Yd.nePS {ty t t' e x y b o z n by'} (hu : P.underlying t = some (.pointer e)) (hz : TI P e z (n + 1) by') (hx : ev σ x = some (.pointer (some ⟨b, o, none⟩))) (hy : ev σ y = some (.pointer (some ⟨b, o, none⟩))) : Yd P σ (.binOp .neq t x y t') ty (.bool false) w :=
  yd_bin hx hy (guard_ptr _ _ _ _ _ _) fun w' => by
    obtain ⟨j, hj, _, hj1, _⟩ := hz.out
    have h : ∀ d : Nat, (Op.equalIn (d + 1) t (.pointer (some ⟨b, o, none⟩)) (.pointer (some ⟨b, o, none⟩))).run P w' = .ok true w' := fun d => by simp [Op.equalIn, run_underlying hu, sizeOf, typeInfo, hj, sameAddr]
    simp [binOp, Op.equal, Op.maxDepth, h 9999]
theorem itQ.ext {w w' : World} {x : Item} (h : itQ w x) (he : Ext w w') : itQ w' x := ⟨h.1.ext he, h.2.ext he⟩
end
end Go.X
