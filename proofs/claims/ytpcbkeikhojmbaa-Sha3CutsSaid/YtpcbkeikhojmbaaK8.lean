import Derived.Test.YtpcbkeikhojmbaaT
import Derived.Test.YtpcbkeikhojmbaaQe
import Derived.Test.YtpcbkeikhojmbaaK7
set_option linter.unusedVariables false
set_option linter.unusedSimpArgs false
set_option maxRecDepth 100000
set_option maxHeartbeats 4000000
namespace Go.Proofs
open Go.X Go.RowKit
namespace Ytpcbkeikhojmbaa
theorem RSha3_ok {R : Nat} {a : Value} {l : List UInt8} {n : Int} {w : World} (hR : 0 < R ∧ R ≤ 200) (hr : 200 - 2 * n = (R : Int)) (ha : Bs w a l) (hl : l.length ≤ 1000000) (hn : n ≤ 1000000) : C Try.prog 15 [I n, a] w (Ret fun v w' => Ob w.heap.size 5 w' v (sqL (soakK R 6 l) R n.toNat) ∧ Ext w w') := by
  have e0 := Ext.refl w
  refine C.enter Try.func15 rfl Try.ntmps15 rfl ?_
  refine J.seq ?_
  refine J.region ?_
  refine J.op (Yd.assign rfl) rfl ?_
  refine J.nil ?_
  refine J.n_then ?_
  refine J.seq ?_
  refine J.region ?_
  refine J.op (Yd.move rfl) rfl ?_
  refine J.op (Yd.mul rfl rfl (by first | omega | exact idx_u8' _ | (simp only [Int.toNat_natCast]; omega) | (simp only [List.length_map, List.length_drop, List.length_take, List.length_append, List.length_replicate]; omega) | (simp <;> omega))) rfl ?_
  refine J.op (Yd.cast (Yd.sub rfl rfl (by omega)) (congrArg (fun x => I x) hr)) rfl ?_
  refine J.op (Yd.move rfl) rfl ?_
  refine J.op (Yd.move rfl) rfl ?_
  refine J.eff (Ye.call cl29 rfl (RSponge_ok (e := 6) hR ha hl hn)) rfl ?_
  rintro s10_1 w1 ⟨os10_1, x1⟩
  have fr_s10_1 : Fr w.heap.size s10_1.ownBlock := Fr.le (Ow.fr os10_1) e0.size
  replace os10_1 := Ow.base os10_1 e0.size
  have e0 := e0.trans x1
  clear x1
  refine J.op (Yd.assign rfl) rfl ?_
  refine J.nil ?_
  refine J.n_then ?_
  refine J.ret ?_
  exact J.ret1 rfl rfl (⟨_, rfl, os10_1, e0⟩)

theorem RShake_ok {R : Nat} {a : Value} {l : List UInt8} {s n : Int} {w : World} (hR : 0 < R ∧ R ≤ 200) (hr : 200 - 2 * s = (R : Int)) (ha : Bs w a l) (hl : l.length ≤ 1000000) : C Try.prog 18 [I s, I n, a] w (Ret fun v w' => Ob w.heap.size 5 w' v (sqL (soakK R 31 l) R (shN n)) ∧ Ext w w') := by
  have e0 := Ext.refl w
  refine C.enter Try.func18 rfl Try.ntmps18 rfl ?_
  refine J.seq ?_
  refine J.region ?_
  refine J.op (Yd.assign rfl) rfl ?_
  refine J.nil ?_
  refine J.n_then ?_
  refine J.seq ?_
  refine J.seq ?_
  refine J.region ?_
  refine J.op (Yd.move rfl) rfl ?_
  refine J.op (Yd.lss rfl rfl) rfl ?_
  refine J.nil ?_
  refine J.n_then ?_
  refine J.cond_dec rfl (fun hc0 => ?_) (fun hc0 => ?_)
  · skip
    refine J.seq ?_
    refine J.region ?_
    refine J.op (Yd.assign rfl) rfl ?_
    refine J.nil ?_
    refine J.n_then ?_
    refine J.ret ?_
    refine J.r_then ?_
    exact J.ret1 rfl rfl (⟨_, rfl, (by rw [shN_no (by omega)]; exact Ow.nil _ _ _), e0⟩)
  · skip
    refine J.skip ?_
    refine J.n_then ?_
    refine J.seq ?_
    refine J.region ?_
    refine J.op (Yd.move rfl) rfl ?_
    refine J.op (Yd.mul rfl rfl (by first | omega | exact idx_u8' _ | (simp only [Int.toNat_natCast]; omega) | (simp only [List.length_map, List.length_drop, List.length_take, List.length_append, List.length_replicate]; omega) | (simp <;> omega))) rfl ?_
    refine J.op (Yd.cast (Yd.sub rfl rfl (by omega)) (congrArg (fun x => I x) hr)) rfl ?_
    refine J.op (Yd.move rfl) rfl ?_
    refine J.op (Yd.move rfl) rfl ?_
    refine J.op (Yd.mini rfl rfl) rfl ?_
    refine J.eff (Ye.call cl29 rfl (RSponge_ok (e := 31) hR ha hl (by split <;> omega))) rfl ?_
    rintro s15_1 w1 ⟨os15_1, x1⟩
    have fr_s15_1 : Fr w.heap.size s15_1.ownBlock := Fr.le (Ow.fr os15_1) e0.size
    replace os15_1 := Ow.base os15_1 e0.size
    have e0 := e0.trans x1
    clear x1
    refine J.op (Yd.assign rfl) rfl ?_
    refine J.nil ?_
    refine J.n_then ?_
    refine J.ret ?_
    exact J.ret1 rfl rfl (⟨_, rfl, (by have h9 := os15_1; rw [shk_n] at h9; exact h9), e0⟩)

theorem awake1 {l : List UInt8} {w : World} (h0 : ∀ w, C Try.prog 14 [nilS] w (Ret fun v w' => Ob w.heap.size 5 w' v l ∧ Ext w w')) (h1 : l.length = 32) (h2 : l.take 3 = [167, 255, 198]) : C Try.prog 11 [] w (Ret fun v w' => v = .bool true ∧ Ext w w') := by
  have e0 := Ext.refl w
  refine C.enter Try.func11 rfl Try.ntmps11 rfl ?_
  refine J.seq ?_
  refine J.region ?_
  refine J.op (Yd.assign rfl) rfl ?_
  refine J.nil ?_
  refine J.n_then ?_
  refine J.seq ?_
  refine J.region ?_
  refine J.eff (Ye.call cl14 rfl ((h0 _))) rfl ?_
  rintro s2_1 w1 ⟨os2_1, x1⟩
  have fr_s2_1 : Fr w.heap.size s2_1.ownBlock := Fr.le (Ow.fr os2_1) e0.size
  replace os2_1 := Ow.base os2_1 e0.size
  have e0 := e0.trans x1
  clear x1
  refine J.op (Yd.assign rfl) rfl ?_
  refine J.nil ?_
  refine J.n_then ?_
  refine J.seq ?_
  refine J.region ?_
  refine J.op (Yd.move rfl) rfl ?_
  refine J.op (Yd.len_b Try.underlying31 rfl (Ow.rd os2_1)) rfl ?_
  refine J.op (Yd.eql rfl rfl) rfl ?_
  refine J.op (Yd.move rfl) rfl ?_
  refine J.know (t := 6) (v' := .bool true) rfl (tt (by rw [h1]; rfl)) ?_
  refine J.op_g rfl rfl rfl (Yd.move rfl) rfl ?_
  refine J.op_g rfl rfl rfl (Yd.slcH Try.underlying31 ti5 rfl (Ow.rd os2_1) rfl (by first | omega | (simp only [List.length_map]; omega))) rfl ?_
  refine J.op_g rfl rfl rfl (Yd.bstr Try.underlying31 Try.underlying5 Try.underlying9 rfl (Bs.slc (Ow.rd os2_1) (by first | omega | (simp only [List.length_map]; omega)) (by first | omega | (simp only [List.length_map]; omega)))) rfl ?_
  refine J.op_g rfl rfl rfl (Yd.seq rfl rfl) rfl ?_
  refine J.op (Yd.pick_t rfl rfl) rfl ?_
  refine J.op (Yd.assign rfl) rfl ?_
  refine J.nil ?_
  refine J.n_then ?_
  refine J.ret ?_
  exact J.ret1 rfl rfl (⟨_, rfl, congrArg Value.bool (decide_eq_true (by exact h2)), e0⟩)

theorem awake_ok {w : World} : C Try.prog 11 [] w (Ret fun v w' => v = .bool true ∧ Ext w w') := awake1 (l := sqL (soakK 136 6 ([] : List (List UInt8)).flatten) 136 32) (fun _ => Sum256_ok (Rl.nil0 _) (by decide)) (sqL_len _ _ _) k_aw
end Ytpcbkeikhojmbaa
end Go.Proofs
