/-
  Calls of functions without a body (the model's own entries), and more operations on int.
-/
import Derived.Test.YtipbmjbdmpcgoaaX6
import Derived.Laws.Externs
import Derived.Lib.Bytealg
set_option linter.unusedVariables false
namespace Go.X
section
variable {P : Program} {N : Nat} {ds : List Deferred} {σ : Env} {w : World}
/-- A call of an entry that yields a value and leaves the world. -/
theorem Yd.ext {ty f fn args tys vs v} {e : Array Value → Sem Value} (hf : P.funcs[f]? = some fn) (hname : (fn.name == "runtime.NumGoroutine") = false) (hb : fn.body.isNone = true)
    (hn : Extern.findNext fn = none) (he : Extern.find fn = some e) (ha : evs σ args.toList = some vs) (hr : ∀ w', (e vs.toArray).run P w' = .ok v w') : Yd P σ (.call ⟨.value (.func f), args, tys⟩) ty v w :=
  fun N ds a w' dst pos after g hfit hext => by
    have ef : a.eval (.func f) = .func (.func f) #[] #[] := rfl
    have hv : args.map a.eval = vs.toArray := by
      rw [← hfit.evs ha]
      apply Array.toList_inj.1
      simp
    unfold execOp
    simp only [resolve, Deferred.ofValue, pure_bind, invoke, ef, Array.empty_append, Array.append_empty, hv]
    rw [run_callFunc_extern hf hname hb hn he, hr]
    rfl
theorem Yd.shl_i {ty t t' x y m k n} (hx : ev σ x = some (I m)) (hy : ev σ y = some (.int k n)) (hn : 0 ≤ n ∧ n ≤ 63) (h : -9223372036854775808 ≤ m * 2 ^ n.toNat ∧ m * 2 ^ n.toNat ≤ 9223372036854775807) : Yd P σ (.binOp .shl t x y t') ty (I (m * 2 ^ n.toNat)) w := by
  have hn' : ¬ n < 0 := by omega
  refine yd_bin hx hy (guard_int _ _ _ _ _ _ _ _) fun w' => ?_
  simp only [binOp, Op.shift, IntKind.bits, hn', if_false]
  rw [Nat.min_eq_left (show n.toNat ≤ 64 by omega), wrap64_id h.1 h.2]
  rfl
theorem Yd.shr_i {ty t t' x y m k n} (hx : ev σ x = some (I m)) (hy : ev σ y = some (.int k n)) (hn : 0 ≤ n ∧ n ≤ 63) : Yd P σ (.binOp .shr t x y t') ty (I (m / 2 ^ n.toNat)) w := by
  have hn' : ¬ n < 0 := by omega
  refine yd_bin hx hy (guard_int _ _ _ _ _ _ _ _) fun w' => ?_
  simp only [binOp, Op.shift, IntKind.bits, hn', if_false]
  rw [Nat.min_eq_left (show n.toNat ≤ 64 by omega), Int.fdiv_eq_ediv_of_nonneg _ (Int.pow_nonneg (by decide))]
  rfl
theorem ofInt_nat64 (m : Int) (h : 0 ≤ m) (h' : m < 9223372036854775808) : (BitVec.ofInt 64 m).toNat = m.toNat := by
  rw [BitVec.toNat_ofInt]; omega
theorem or_lt63 {a b : Nat} (ha : a < 2 ^ 63) (hb : b < 2 ^ 63) : a ||| b < 2 ^ 63 := Nat.or_lt_two_pow ha hb
theorem Yd.or_i {ty t t' x y m n} (hx : ev σ x = some (I m)) (hy : ev σ y = some (I n)) (hm : 0 ≤ m ∧ m < 9223372036854775808) (hn : 0 ≤ n ∧ n < 9223372036854775808) : Yd P σ (.binOp .or t x y t') ty (I ((m.toNat ||| n.toNat : Nat) : Int)) w := by
  have e : IntKind.wrap .i64 (((BitVec.ofInt 64 m ||| BitVec.ofInt 64 n).toNat : Nat) : Int) = ((m.toNat ||| n.toNat : Nat) : Int) := by
    rw [BitVec.toNat_or, ofInt_nat64 m hm.1 hm.2, ofInt_nat64 n hn.1 hn.2]
    have := or_lt63 (show m.toNat < 2 ^ 63 by omega) (show n.toNat < 2 ^ 63 by omega)
    exact wrap64_id (by omega) (by omega)
  exact yd_int hx hy fun w' => congrArg (fun r => (Result.ok (Value.int .i64 r) w' : Result Value)) e
theorem Yd.and_i {ty t t' x y m n} (hx : ev σ x = some (I m)) (hy : ev σ y = some (I n)) (hm : 0 ≤ m ∧ m < 9223372036854775808) (hn : 0 ≤ n ∧ n < 9223372036854775808) : Yd P σ (.binOp .and t x y t') ty (I ((m.toNat &&& n.toNat : Nat) : Int)) w := by
  have e : IntKind.wrap .i64 (((BitVec.ofInt 64 m &&& BitVec.ofInt 64 n).toNat : Nat) : Int) = ((m.toNat &&& n.toNat : Nat) : Int) := by
    rw [BitVec.toNat_and, ofInt_nat64 m hm.1 hm.2, ofInt_nat64 n hn.1 hn.2]
    have : m.toNat &&& n.toNat ≤ m.toNat := Nat.and_le_left
    exact wrap64_id (by omega) (by omega)
  exact yd_int hx hy fun w' => congrArg (fun r => (Result.ok (Value.int .i64 r) w' : Result Value)) e
/-- strings.IndexByte's entry. -/
theorem Yd.indexByte {ty f fn args tys} {l : List UInt8} {c : UInt8} (hf : P.funcs[f]? = some fn) (hname : (fn.name == "runtime.NumGoroutine") = false) (hb : fn.body.isNone = true)
    (hn : Extern.findNext fn = none) (he : Extern.find fn = some Extern.BytealgIndexByte.indexByte) (ha : evs σ args.toList = some [Str l, B c]) : Yd P σ (.call ⟨.value (.func f), args, tys⟩) ty (I (Lib.indexByte l c)) w :=
  Yd.ext hf hname hb hn he ha fun w' => by
    have := Lib.run_indexByteString (P := P) ⟨l.toArray⟩ (c.toNat : Int) w'
    rw [show ((c.toNat : Int).toNat.toUInt8) = c by simp] at this
    exact this
end
end Go.X
