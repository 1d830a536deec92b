import Derived.Test.YtpkpicnldpbomaaT
import Derived.Test.YtpkpicnldpbomaaQ3
set_option linter.unusedVariables false
set_option linter.unusedSimpArgs false
set_option maxRecDepth 100000
set_option maxHeartbeats 4000000
namespace Go.Proofs
open Go.X Go.RowKit
namespace Ytpkpicnldpbomaa
theorem Seal_yes {a u v z : Value} {key nonce data text : List UInt8} {w : World} (hk : Bs w a key) (ho : Bs w u nonce) (hd : Bs w v data) (ht : Bs w z text) (hl : key.length = 32) : C Try.prog 8 [a, u, v, z] w (Ret fun x w' => ∃ s, x = .tuple #[s, I (sealE key nonce data text)] ∧ Bs w' s (sealL key nonce data text) ∧ Ext w w') := by
  have e0 := Ext.refl w
  refine C.enter Try.func8 rfl Try.ntmps8 rfl ?_
  refine J.seq ?_
  refine J.region ?_
  refine J.op (Yd.assign rfl) rfl ?_
  refine J.op (Yd.assign rfl) rfl ?_
  refine J.nil ?_
  refine J.n_then ?_
  refine J.seq ?_
  refine J.region ?_
  refine J.op (Yd.move rfl) rfl ?_
  refine J.eff (Ye.call cl12 rfl (NewBox_yes hk hl)) rfl ?_
  rintro _ w1 ⟨b14_1, rfl, kb14_1, x1⟩
  have e0 := e0.trans x1
  clear x1
  refine J.op (Yd.move rfl) rfl ?_
  refine J.op (Yd.extract rfl rfl) rfl ?_
  refine J.op (Yd.extract rfl rfl) rfl ?_
  refine J.op (Yd.assign rfl) rfl ?_
  refine J.op (Yd.assign rfl) rfl ?_
  refine J.nil ?_
  refine J.n_then ?_
  refine J.seq ?_
  refine J.seq ?_
  refine J.region ?_
  refine J.op (Yd.move rfl) rfl ?_
  refine J.op (Yd.neq rfl rfl) rfl ?_
  refine J.nil ?_
  refine J.n_then ?_
  refine J.know (t := 18) (v' := .bool false) rfl (ff (by decide)) ?_
  refine J.cond_false rfl ?_
  refine J.skip ?_
  refine J.n_then ?_
  refine J.seq ?_
  refine J.region ?_
  refine J.op (Yd.move rfl) rfl ?_
  refine J.op (Yd.move rfl) rfl ?_
  refine J.op (Yd.move rfl) rfl ?_
  refine J.op (Yd.move rfl) rfl ?_
  refine J.eff (Ye.call cl13 rfl (BSeal_ok kb14_1 (Rd.ext ho e0) (Rd.ext hd e0) (Rd.ext ht e0))) rfl ?_
  rintro _ w2 ⟨s24_2, rfl, os24_2, x1⟩
  have fr_s24_2 : Fr w.heap.size s24_2.ownBlock := Fr.le (Ow.fr os24_2) e0.size
  replace os24_2 := Ow.base os24_2 e0.size
  have e0 := e0.trans x1
  have kb14_1 := kb14_1.ext x1
  clear x1
  refine J.op (Yd.extract rfl rfl) rfl ?_
  refine J.op (Yd.extract rfl rfl) rfl ?_
  refine J.op (Yd.assign rfl) rfl ?_
  refine J.op (Yd.assign rfl) rfl ?_
  refine J.nil ?_
  refine J.n_then ?_
  refine J.ret ?_
  exact J.ret2 rfl rfl rfl (⟨_, rfl, s24_2, (by rw [show sealE key nonce data text = mayE nonce data text 65536 from if_pos hl]; try rfl), (by rw [show sealL key nonce data text = seQ key nonce data text from if_pos hl]; exact (Ow.rd os24_2)), e0⟩)

theorem Seal_no {a u v z : Value} {key nonce data text : List UInt8} {w : World} (hk : Bs w a key) (ho : Bs w u nonce) (hd : Bs w v data) (ht : Bs w z text) (hl : key.length ≠ 32) : C Try.prog 8 [a, u, v, z] w (Ret fun x w' => ∃ s, x = .tuple #[s, I (sealE key nonce data text)] ∧ Bs w' s (sealL key nonce data text) ∧ Ext w w') := by
  have e0 := Ext.refl w
  refine C.enter Try.func8 rfl Try.ntmps8 rfl ?_
  refine J.seq ?_
  refine J.region ?_
  refine J.op (Yd.assign rfl) rfl ?_
  refine J.op (Yd.assign rfl) rfl ?_
  refine J.nil ?_
  refine J.n_then ?_
  refine J.seq ?_
  refine J.region ?_
  refine J.op (Yd.move rfl) rfl ?_
  refine J.eff (Ye.call cl12 rfl (NewBox_no hk hl)) rfl ?_
  rintro _ w1 ⟨rfl, x1⟩
  have e0 := e0.trans x1
  clear x1
  refine J.op (Yd.move rfl) rfl ?_
  refine J.op (Yd.extract rfl rfl) rfl ?_
  refine J.op (Yd.extract rfl rfl) rfl ?_
  refine J.op (Yd.assign rfl) rfl ?_
  refine J.op (Yd.assign rfl) rfl ?_
  refine J.nil ?_
  refine J.n_then ?_
  refine J.seq ?_
  refine J.seq ?_
  refine J.region ?_
  refine J.op (Yd.move rfl) rfl ?_
  refine J.op (Yd.neq rfl rfl) rfl ?_
  refine J.nil ?_
  refine J.n_then ?_
  refine J.know (t := 18) (v' := .bool true) rfl (tt (by decide)) ?_
  refine J.cond_true rfl ?_
  refine J.seq ?_
  refine J.region ?_
  refine J.op (Yd.move rfl) rfl ?_
  refine J.op (Yd.assign rfl) rfl ?_
  refine J.op (Yd.assign rfl) rfl ?_
  refine J.nil ?_
  refine J.n_then ?_
  refine J.ret ?_
  refine J.r_then ?_
  exact J.ret2 rfl rfl rfl (⟨_, rfl, nilS, (by rw [show sealE key nonce data text = 1 from if_neg hl]; try rfl), (by rw [show sealL key nonce data text = [] from if_neg hl]; exact Rd.nilM _ _), e0⟩)

theorem Seal_ok {a u v z : Value} {key nonce data text : List UInt8} {w : World} (hk : Bs w a key) (ho : Bs w u nonce) (hd : Bs w v data) (ht : Bs w z text) : C Try.prog 8 [a, u, v, z] w (Ret fun x w' => ∃ s, x = .tuple #[s, I (sealE key nonce data text)] ∧ Bs w' s (sealL key nonce data text) ∧ Ext w w') := by
  by_cases hl : key.length = 32
  · exact Seal_yes hk ho hd ht hl
  · exact Seal_no hk ho hd ht hl

theorem Open_yes {a u v z : Value} {key nonce data text : List UInt8} {w : World} (hk : Bs w a key) (ho : Bs w u nonce) (hd : Bs w v data) (ht : Bs w z text) (hl : key.length = 32) : C Try.prog 10 [a, u, v, z] w (Ret fun x w' => ∃ s, x = .tuple #[s, I (openE key nonce data text)] ∧ Bs w' s (openL key nonce data text) ∧ Ext w w') := by
  have e0 := Ext.refl w
  refine C.enter Try.func10 rfl Try.ntmps10 rfl ?_
  refine J.seq ?_
  refine J.region ?_
  refine J.op (Yd.assign rfl) rfl ?_
  refine J.op (Yd.assign rfl) rfl ?_
  refine J.nil ?_
  refine J.n_then ?_
  refine J.seq ?_
  refine J.region ?_
  refine J.op (Yd.move rfl) rfl ?_
  refine J.eff (Ye.call cl12 rfl (NewBox_yes hk hl)) rfl ?_
  rintro _ w1 ⟨b14_1, rfl, kb14_1, x1⟩
  have e0 := e0.trans x1
  clear x1
  refine J.op (Yd.move rfl) rfl ?_
  refine J.op (Yd.extract rfl rfl) rfl ?_
  refine J.op (Yd.extract rfl rfl) rfl ?_
  refine J.op (Yd.assign rfl) rfl ?_
  refine J.op (Yd.assign rfl) rfl ?_
  refine J.nil ?_
  refine J.n_then ?_
  refine J.seq ?_
  refine J.seq ?_
  refine J.region ?_
  refine J.op (Yd.move rfl) rfl ?_
  refine J.op (Yd.neq rfl rfl) rfl ?_
  refine J.nil ?_
  refine J.n_then ?_
  refine J.know (t := 18) (v' := .bool false) rfl (ff (by decide)) ?_
  refine J.cond_false rfl ?_
  refine J.skip ?_
  refine J.n_then ?_
  refine J.seq ?_
  refine J.region ?_
  refine J.op (Yd.move rfl) rfl ?_
  refine J.op (Yd.move rfl) rfl ?_
  refine J.op (Yd.move rfl) rfl ?_
  refine J.op (Yd.move rfl) rfl ?_
  refine J.eff (Ye.call cl14 rfl (BOpen_ok kb14_1 (Rd.ext ho e0) (Rd.ext hd e0) (Rd.ext ht e0))) rfl ?_
  rintro _ w2 ⟨s24_2, rfl, rs24_2, x1⟩
  have e0 := e0.trans x1
  have kb14_1 := kb14_1.ext x1
  clear x1
  refine J.op (Yd.extract rfl rfl) rfl ?_
  refine J.op (Yd.extract rfl rfl) rfl ?_
  refine J.op (Yd.assign rfl) rfl ?_
  refine J.op (Yd.assign rfl) rfl ?_
  refine J.nil ?_
  refine J.n_then ?_
  refine J.ret ?_
  exact J.ret2 rfl rfl rfl (⟨_, rfl, s24_2, (by rw [show openE key nonce data text = opE key nonce data text from if_pos hl]; try rfl), (by rw [show openL key nonce data text = opQ key nonce data text from if_pos hl]; exact rs24_2), e0⟩)

theorem Open_no {a u v z : Value} {key nonce data text : List UInt8} {w : World} (hk : Bs w a key) (ho : Bs w u nonce) (hd : Bs w v data) (ht : Bs w z text) (hl : key.length ≠ 32) : C Try.prog 10 [a, u, v, z] w (Ret fun x w' => ∃ s, x = .tuple #[s, I (openE key nonce data text)] ∧ Bs w' s (openL key nonce data text) ∧ Ext w w') := by
  have e0 := Ext.refl w
  refine C.enter Try.func10 rfl Try.ntmps10 rfl ?_
  refine J.seq ?_
  refine J.region ?_
  refine J.op (Yd.assign rfl) rfl ?_
  refine J.op (Yd.assign rfl) rfl ?_
  refine J.nil ?_
  refine J.n_then ?_
  refine J.seq ?_
  refine J.region ?_
  refine J.op (Yd.move rfl) rfl ?_
  refine J.eff (Ye.call cl12 rfl (NewBox_no hk hl)) rfl ?_
  rintro _ w1 ⟨rfl, x1⟩
  have e0 := e0.trans x1
  clear x1
  refine J.op (Yd.move rfl) rfl ?_
  refine J.op (Yd.extract rfl rfl) rfl ?_
  refine J.op (Yd.extract rfl rfl) rfl ?_
  refine J.op (Yd.assign rfl) rfl ?_
  refine J.op (Yd.assign rfl) rfl ?_
  refine J.nil ?_
  refine J.n_then ?_
  refine J.seq ?_
  refine J.seq ?_
  refine J.region ?_
  refine J.op (Yd.move rfl) rfl ?_
  refine J.op (Yd.neq rfl rfl) rfl ?_
  refine J.nil ?_
  refine J.n_then ?_
  refine J.know (t := 18) (v' := .bool true) rfl (tt (by decide)) ?_
  refine J.cond_true rfl ?_
  refine J.seq ?_
  refine J.region ?_
  refine J.op (Yd.move rfl) rfl ?_
  refine J.op (Yd.assign rfl) rfl ?_
  refine J.op (Yd.assign rfl) rfl ?_
  refine J.nil ?_
  refine J.n_then ?_
  refine J.ret ?_
  refine J.r_then ?_
  exact J.ret2 rfl rfl rfl (⟨_, rfl, nilS, (by rw [show openE key nonce data text = 1 from if_neg hl]; try rfl), (by rw [show openL key nonce data text = [] from if_neg hl]; exact Rd.nilM _ _), e0⟩)

theorem Open_ok {a u v z : Value} {key nonce data text : List UInt8} {w : World} (hk : Bs w a key) (ho : Bs w u nonce) (hd : Bs w v data) (ht : Bs w z text) : C Try.prog 10 [a, u, v, z] w (Ret fun x w' => ∃ s, x = .tuple #[s, I (openE key nonce data text)] ∧ Bs w' s (openL key nonce data text) ∧ Ext w w') := by
  by_cases hl : key.length = 32
  · exact Open_yes hk ho hd ht hl
  · exact Open_no hk ho hd ht hl
end Ytpkpicnldpbomaa
end Go.Proofs
