import Derived.Test.YtghklimejpmpnaaT
import Derived.Test.YtghklimejpmpnaaW7
set_option linter.unusedVariables false
set_option linter.unusedSimpArgs false
set_option maxRecDepth 100000
set_option maxHeartbeats 4000000
namespace Go.Proofs
open Go.X Go.RowKit
namespace Ytghklimejpmpnaa
theorem WBytes_ok {base : Nat → Prop} {b : Nat} {l : List UInt8} {w : World} {a : Value} {m : List UInt8} (hw : Wr 79 5 base w b l) (hbw : Hb base w) (ha : ∀ w', Thb base b w w' → Bs w' a m) (hm : l.length + m.length ≤ 100000000) : C Try.prog 33 [.pointer (some ⟨b, 0, none⟩), a] w (Ret fun u w' => u = .pointer (some ⟨b, 0, none⟩) ∧ Wr 79 5 base w' b (l ++ putN (UInt64.ofNat m.length) ++ m) ∧ Thb base b w w') := by
  have h10 := putN_len (UInt64.ofNat m.length)
  have e0 := Thb.refl base b w
  refine C.enter Try.func33 rfl Try.ntmps33 rfl ?_
  refine J.seq ?_
  refine J.region ?_
  refine J.op (Yd.assign rfl) rfl ?_
  refine J.nil ?_
  refine J.n_then ?_
  refine J.seq ?_
  refine J.region ?_
  refine J.op (Yd.move rfl) rfl ?_
  refine J.op (Yd.move rfl) rfl ?_
  refine J.op (Yd.len_b Try.underlying22 rfl (ha _ e0)) rfl ?_
  refine J.op (Yd.cv_i_64 Try.underlying3 Try.underlying81 rfl (by first | omega | exact idx_u8' _ | (simp only [Int.toNat_natCast]; omega) | (simp only [List.length_map, List.length_drop, List.length_take, List.length_append, List.length_replicate]; omega) | (simp <;> omega))) rfl ?_
  refine J.eff (Ye.call cl32 rfl (WNum_ok hw hbw  (by omega))) rfl ?_
  rintro _ w1 ⟨rfl, hw2, x1⟩
  have e0 := Thb.trans e0 x1
  have hbw := Hb.le hbw x1.size
  replace hw := hw2
  clear hw2 x1
  refine J.op (Yd.move rfl) rfl ?_
  refine J.eff (Ye.call cl47 rfl (WFixed_ok hw hbw (ha _ e0) (by simp only [List.length_append, Int.toNat_natCast]; omega))) rfl ?_
  rintro _ w2 ⟨rfl, hw2, x1⟩
  have e0 := Thb.trans e0 x1
  have hbw := Hb.le hbw x1.size
  replace hw := hw2
  clear hw2 x1
  refine J.op (Yd.assign rfl) rfl ?_
  refine J.nil ?_
  refine J.n_then ?_
  refine J.ret ?_
  exact J.ret1 rfl rfl (⟨_, rfl, rfl, (by rw [Int.toNat_natCast] at hw; exact hw), e0⟩)
end Ytghklimejpmpnaa
end Go.Proofs
