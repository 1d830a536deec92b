/-
  Worlds in which one block that was there may have turned.
-/
import Derived.Test.YtipbmjbdmpcgoaaX12
set_option linter.unusedVariables false
set_option linter.unusedSimpArgs false
namespace Go.X
open Go.RowKit
theorem GB.ext {a b c : World} {r : Option Nat} (h : a.grownBy b r) (k : Ext b c) : a.grownBy c r :=
  ⟨k.os.trans h.os, k.tape.trans h.tape, k.output.trans h.output, Nat.le_trans h.size k.size, fun i hi hr => (k.block i (Nat.lt_of_lt_of_le hi h.size)).trans (h.block i hi hr)⟩
theorem GB.upd {a b c : World} {g : Nat} (h : a.grownBy b (some g)) (k : Upd g b c) : a.grownBy c (some g) :=
  ⟨k.os.trans h.os, k.tape.trans h.tape, k.output.trans h.output, by rw [k.size]; exact h.size, fun i hi hr => (k.block i (fun e => hr (by rw [e]))).trans (h.block i hi hr)⟩
theorem GB.updN {a b c : World} {r : Option Nat} {g : Nat} (h : a.grownBy b r) (hg : a.heap.size ≤ g) (k : Upd g b c) : a.grownBy c r :=
  ⟨k.os.trans h.os, k.tape.trans h.tape, k.output.trans h.output, by rw [k.size]; exact h.size, fun i hi hr => (k.block i (by omega)).trans (h.block i hi hr)⟩
theorem GB.grown {a b c : World} {r : Option Nat} {base E s xs} (h : a.grownBy b r) (ho : Ow base E b s xs) (hb : a.heap.size ≤ base) (k : b.grownBy c s.ownBlock) : a.grownBy c r :=
  ⟨k.os.trans h.os, k.tape.trans h.tape, k.output.trans h.output, Nat.le_trans h.size k.size, fun i hi hr => (k.block i (Nat.lt_of_lt_of_le hi h.size) (fun e => by
    have := (ho.lt i e.symm).1
    omega)).trans (h.block i hi hr)⟩
theorem GB.gb {a b c : World} {r : Option Nat} {g : Nat} (h : a.grownBy b r) (hg : a.heap.size ≤ g) (k : b.grownBy c (some g)) : a.grownBy c r :=
  ⟨k.os.trans h.os, k.tape.trans h.tape, k.output.trans h.output, Nat.le_trans h.size k.size, fun i hi hr => (k.block i (Nat.lt_of_lt_of_le hi h.size) (fun e => by
    have : i = g := by simpa using e
    omega)).trans (h.block i hi hr)⟩
theorem Rd.gb {w w' : World} {s : Value} {xs : List Value} {g : Nat} (h : Rd w s xs) (hg : w.grownBy w' (some g)) (hne : s.ownBlock ≠ some g) : Rd w' s xs := by
  obtain ⟨p, c, h1, h2, h3, h4⟩ := h
  refine ⟨p, c, h1, h2, h3, fun i v hv => ?_⟩
  obtain ⟨b, o, hp, hc⟩ := h4 i v hv
  refine ⟨b, o, hp, ?_⟩
  have hb : b ≠ g := by
    intro e; subst hp; subst h1; exact hne (by rw [← e]; rfl)
  have hlt : b < w.heap.size := by
    rcases Nat.lt_or_ge b w.heap.size with h' | h'
    · exact h'
    · simp [World.cell?, Array.getElem?_eq_none h'] at hc
  unfold World.cell? at *
  simp only at *
  rw [hg.block b hlt (fun e => hb (by simpa using e))]; exact hc
theorem Ext.gb {W w w' : World} {g : Nat} (h : Ext W w) (hb : W.heap.size ≤ g) (hg : w.grownBy w' (some g)) : Ext W w' :=
  ⟨hg.os.trans h.os, hg.tape.trans h.tape, hg.output.trans h.output, Nat.le_trans h.size hg.size, fun k hk => (hg.block k (Nat.lt_of_lt_of_le hk h.size) (fun e => by
    have : k = g := by simpa using e
    omega)).trans (h.block k hk)⟩
theorem Rd.own_lt {w : World} {s : Value} {xs : List Value} {k : Nat} (h : Rd w s xs) (hx : 0 < xs.length) (hk : s.ownBlock = some k) : k < w.heap.size := by
  obtain ⟨p, c, h1, h2, h3, h4⟩ := h
  obtain ⟨b, o, hp, hc⟩ := h4 0 xs[0] (List.getElem?_eq_getElem hx)
  subst hp; subst h1
  have : b = k := by simpa [Value.ownBlock] using hk
  subst this
  rcases Nat.lt_or_ge b w.heap.size with h' | h'
  · exact h'
  · simp [World.cell?, Array.getElem?_eq_none h'] at hc
section
variable {P : Program} {σ : Env} {w : World}
theorem guard_ptr (op : BinOp) (t : TypeId) (x y : Operand) (p q : Option Addr) : eqGuard op t x y (.pointer p) (.pointer q) = pure () := by cases op <;> rfl
theorem Yd.eqPn {ty t t' e x y p} (hu : P.underlying t = some (.pointer e)) (hx : ev σ x = some (.pointer p)) (hy : ev σ y = some (.pointer none)) : Yd P σ (.binOp .eql t x y t') ty (.bool p.isNone) w :=
  yd_bin hx hy (guard_ptr _ _ _ _ _ _) fun w' => by
    have h : ∀ d : Nat, (Op.equalIn (d + 1) t (.pointer p) (.pointer none)).run P w' = .ok p.isNone w' := fun d => by cases p <;> simp [Op.equalIn, run_underlying hu]
    simp [binOp, Op.equal, Op.maxDepth, h 9999]
theorem Yd.nePn {ty t t' e x y p} (hu : P.underlying t = some (.pointer e)) (hx : ev σ x = some (.pointer p)) (hy : ev σ y = some (.pointer none)) : Yd P σ (.binOp .neq t x y t') ty (.bool (!p.isNone)) w :=
  yd_bin hx hy (guard_ptr _ _ _ _ _ _) fun w' => by
    have h : ∀ d : Nat, (Op.equalIn (d + 1) t (.pointer p) (.pointer none)).run P w' = .ok p.isNone w' := fun d => by cases p <;> simp [Op.equalIn, run_underlying hu]
    simp [binOp, Op.equal, Op.maxDepth, h 9999]
end
end Go.X
