import Derived.Test.YtmpfgiffpdackaaX21
/-
  Function values that hold blocks, and whether a function value is none.
-/
set_option linter.unusedVariables false
namespace Go.X
variable {P : Program} {σ : Env} {w : World}
theorem Yd.mkFuncC {ty f us vs} {fst cap : Array Operand} (hx : evs σ fst.toList = some us) (hy : evs σ cap.toList = some vs) : Yd P σ (.makeFunc (.func f) fst cap) ty (.func (.func f) us.toArray vs.toArray) w := fun N ds a w' dst pos after g hf he => by
  have hv : fst.map a.eval = us.toArray := by rw [← hf.evs hx]; apply Array.toList_inj.1; simp
  have hu : cap.map a.eval = vs.toArray := by rw [← hf.evs hy]; apply Array.toList_inj.1; simp
  simp [execOp, Instr.makeFunc, hv, hu]
theorem guard_fn (op : BinOp) (t : TypeId) (x y : Operand) (f : Fn) (a b : Array Value) : eqGuard op t x y (.func f a b) .nilFunc = pure () := by cases op <;> rfl
theorem guard_fn0 (op : BinOp) (t : TypeId) (x y : Operand) : eqGuard op t x y .nilFunc .nilFunc = pure () := by cases op <;> rfl
theorem Yd.eqFn {ty t t' x y f a b p q r} (hu : P.underlying t = some (.func p q r)) (hx : ev σ x = some (.func f a b)) (hy : ev σ y = some .nilFunc) : Yd P σ (.binOp .eql t x y t') ty (.bool false) w :=
  yd_bin hx hy (guard_fn _ _ _ _ _ _ _) fun w' => by
    have h : ∀ d : Nat, (Op.equalIn (d + 1) t (.func f a b) .nilFunc).run P w' = .ok false w' := fun d => by simp [Op.equalIn, run_underlying hu]
    simp [binOp, Op.equal, Op.maxDepth, h 9999]
theorem Yd.eqFn0 {ty t t' x y p q r} (hu : P.underlying t = some (.func p q r)) (hx : ev σ x = some .nilFunc) (hy : ev σ y = some .nilFunc) : Yd P σ (.binOp .eql t x y t') ty (.bool true) w :=
  yd_bin hx hy (guard_fn0 _ _ _ _) fun w' => by
    have h : ∀ d : Nat, (Op.equalIn (d + 1) t .nilFunc .nilFunc).run P w' = .ok true w' := fun d => by simp [Op.equalIn, run_underlying hu]
    simp [binOp, Op.equal, Op.maxDepth, h 9999]
end Go.X
