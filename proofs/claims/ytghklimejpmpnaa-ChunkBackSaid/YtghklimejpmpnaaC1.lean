import Derived.Test.YtghklimejpmpnaaT
import Derived.Test.YtghklimejpmpnaaQn
import Derived.Test.YtghklimejpmpnaaF5
set_option linter.unusedVariables false
set_option linter.unusedSimpArgs false
set_option maxRecDepth 100000
set_option maxHeartbeats 4000000
namespace Go.Proofs
open Go.X Go.RowKit
namespace Ytghklimejpmpnaa
theorem Within_ok {n lo hi : Int} {w : World} : C Try.prog 27 [I n, I lo, I hi] w (Ret fun v w' => v = .bool (decide (lo ≤ n ∧ n ≤ hi)) ∧ Ext w w') := by
  have e0 := Ext.refl w
  refine C.enter Try.func27 rfl Try.ntmps27 rfl ?_
  refine J.seq ?_
  refine J.region ?_
  refine J.op (Yd.assign rfl) rfl ?_
  refine J.nil ?_
  refine J.n_then ?_
  refine J.seq ?_
  refine J.region ?_
  refine J.op (Yd.move rfl) rfl ?_
  refine J.op (Yd.move rfl) rfl ?_
  refine J.op (Yd.leq rfl rfl) rfl ?_
  refine J.op (Yd.move rfl) rfl ?_
  refine J.split_dec (t := 10) rfl (fun h1 => ?_) (fun h1 => ?_)
  · skip
    refine J.op_g rfl rfl rfl (Yd.move rfl) rfl ?_
    refine J.op_g rfl rfl rfl (Yd.move rfl) rfl ?_
    refine J.op_g rfl rfl rfl (Yd.leq rfl rfl) rfl ?_
    refine J.op (Yd.pick_t rfl rfl) rfl ?_
    refine J.op (Yd.assign rfl) rfl ?_
    refine J.nil ?_
    refine J.n_then ?_
    refine J.ret ?_
    exact J.ret1 rfl rfl (⟨_, rfl, (by first | exact congrArg Value.bool (wi_yes h1) | exact congrArg Value.bool (wi_no h1)), e0⟩)
  · skip
    refine J.not_g rfl rfl rfl rfl rfl ?_
    refine J.not_g rfl rfl rfl rfl rfl ?_
    refine J.not_g rfl rfl rfl rfl rfl ?_
    refine J.op (Yd.pick_f rfl rfl) rfl ?_
    refine J.op (Yd.assign rfl) rfl ?_
    refine J.nil ?_
    refine J.n_then ?_
    refine J.ret ?_
    exact J.ret1 rfl rfl (⟨_, rfl, (by first | exact congrArg Value.bool (wi_yes h1) | exact congrArg Value.bool (wi_no h1)), e0⟩)

theorem Clone_ok {a : Value} {l : List UInt8} {w : World} (ha : Bs w a l) (hl : l.length ≤ 70368744177664) : C Try.prog 29 [a] w (Ret fun v w' => Ob w.heap.size 5 w' v l ∧ Ext w w') := by
  have e0 := Ext.refl w
  refine C.enter Try.func29 rfl Try.ntmps29 rfl ?_
  refine J.seq ?_
  refine J.region ?_
  refine J.op (Yd.assign rfl) rfl ?_
  refine J.nil ?_
  refine J.n_then ?_
  refine J.seq ?_
  refine J.seq ?_
  refine J.region ?_
  refine J.op (Yd.move rfl) rfl ?_
  refine J.op (Yd.eqNil Try.underlying22 rfl rfl ha) rfl ?_
  refine J.nil ?_
  refine J.n_then ?_
  refine J.cond rfl (fun hc0 => ?_) (fun hc0 => ?_)
  · skip
    refine J.seq ?_
    refine J.region ?_
    refine J.op (Yd.assign rfl) rfl ?_
    refine J.nil ?_
    refine J.n_then ?_
    refine J.ret ?_
    refine J.r_then ?_
    exact J.ret1 rfl rfl (⟨_, rfl, by have h9 := isNilS_nil ha hc0; simp at h9; subst h9; exact Ow.nil _ _ _, e0⟩)
  · skip
    refine J.skip ?_
    refine J.n_then ?_
    refine J.seq ?_
    refine J.region ?_
    refine J.eff (Ye.lit0 (base := w.heap.size) (f := (fun x : UInt8 => B x)) Try.underlying22 ti5 rfl (Nat.le_refl _)) rfl ?_
    rintro s5_1 w1 ⟨o5_1, x1⟩
    have fr_s5_1 : Fr w.heap.size s5_1.ownBlock := Fr.le (Ow.fr o5_1) e0.size
    replace o5_1 := Ow.base o5_1 e0.size
    have e0 := e0.trans x1
    clear x1
    refine J.op (Yd.move rfl) rfl ?_
    refine J.eff (Ye.appendS Try.underlying22 ti5 rfl rfl rfl rfl o5_1 (Rd.ext ha e0) (fun _ => rfl) (by first | omega | exact idx_u8' _ | (simp only [Int.toNat_natCast]; omega) | (simp only [List.length_map, List.length_drop, List.length_take, List.length_append, List.length_replicate]; omega) | (simp <;> omega)) e0.size) rfl ?_
    rintro s7_2 w2 ⟨o7_2, hg, hsf⟩
    have fr_s7_2 : Fr w.heap.size s7_2.ownBlock := Fr.sf fr_s5_1 hsf e0.size
    have e0 := Ext.gbk e0 fr_s5_1 hg
    clear hg hsf
    rw [List.nil_append] at o7_2
    refine J.op (Yd.assign rfl) rfl ?_
    refine J.nil ?_
    refine J.n_then ?_
    refine J.ret ?_
    exact J.ret1 rfl rfl (⟨_, rfl, o7_2, e0⟩)

theorem Chunk_ok {a : Value} {l : List UInt8} {n : Int} {w : World} (ha : Bs w a l) (hn : 1 ≤ n) : C Try.prog 28 [a, I n] w (Ret fun u w' => ∃ x y, u = .func (.func 44) #[] #[.pointer (some ⟨x, 0, none⟩), .pointer (some ⟨y, 0, none⟩)] ∧ w.heap.size ≤ x ∧ w.heap.size ≤ y ∧ Ap (some x) (some y) ∧ Cel w' x 22 [(0, 1, [a])] ∧ Cel w' y 3 [(0, 1, [I n])] ∧ Ext w w') := by
  have hcS := Rd.cells ha
  have e0 := Ext.refl w
  refine C.enter Try.func28 rfl Try.ntmps28 rfl ?_
  refine J.seq ?_
  refine J.region ?_
  refine J.eff (Ye.box (S := [(0, 1, [a])]) rfl (by simp [SegAll, SegOK, hcS])) rfl ?_
  rintro _ w1 ⟨b2_0, rfl, hb_, c2_0, x1⟩
  have fr_b2_0 : Fr w.heap.size (some b2_0) := Fr.le (Fr.blk hb_) e0.size
  have e0 := e0.trans x1
  clear x1 hb_
  refine J.eff (Ye.box (S := [(0, 1, [I n])]) rfl (by simp [SegAll, SegOK, Value.cells])) rfl ?_
  rintro _ w2 ⟨b3_1, rfl, hb_, c3_1, x1⟩
  have ap_b2_0_b3_1 : Ap (some b2_0) (some b3_1) := Ap.mk (Cel.live c2_0) (Fr.blk hb_)
  have fr_b3_1 : Fr w.heap.size (some b3_1) := Fr.le (Fr.blk hb_) e0.size
  have e0 := e0.trans x1
  have c2_0 := c2_0.ext x1
  clear x1 hb_
  refine J.op (Yd.assign rfl) rfl ?_
  refine J.nil ?_
  refine J.n_then ?_
  refine J.seq ?_
  refine J.seq ?_
  refine J.region ?_
  refine J.op (Yd.load pl3 rfl (Cel.cell1 c3_1 0 rfl)) rfl ?_
  refine J.op (Yd.lss rfl rfl) rfl ?_
  refine J.nil ?_
  refine J.n_then ?_
  refine J.know (t := 6) (v' := .bool false) rfl (ff (by omega)) ?_
  refine J.cond_false rfl ?_
  refine J.skip ?_
  refine J.n_then ?_
  refine J.seq ?_
  refine J.region ?_
  refine J.op (Yd.mkFuncC rfl rfl) rfl ?_
  refine J.op (Yd.assign rfl) rfl ?_
  refine J.nil ?_
  refine J.n_then ?_
  refine J.ret ?_
  exact J.ret1 rfl rfl (⟨_, rfl, b2_0, b3_1, rfl, fr_b2_0 _ rfl, fr_b3_1 _ rfl, ap_b2_0_b3_1, c2_0, c3_1, e0⟩)

theorem Chunk1_ok {lr b1 b2 n M : Nat} {s : Value} {l : List UInt8} {Inv : Nat → World → Prop} {w : World} (hF : ∀ i W, Inv i W → Cel W b1 22 [(0, 1, [s])] ∧ Cel W b2 3 [(0, 1, [I (n : Int)])] ∧ Bs W s l) (hn : 1 ≤ n ∧ n ≤ 1000) (hl : l.length ≤ 1000000) (hM : ∀ i, l.length ≤ i * n → (i = 0 ∨ (i - 1) * n < l.length) → i = M) (hY : ∀ i W, Inv i W → i * n < l.length → YieldT Try.prog lr [chV s n l.length i] W (Inv (i + 1))) (h0 : Inv 0 w) : C Try.prog 44 [.func (.yield lr) #[] #[], .pointer (some ⟨b1, 0, none⟩), .pointer (some ⟨b2, 0, none⟩)] w (Ret fun _ w' => Inv M w') := by
  obtain ⟨h1, h2, hs⟩ := hF _ _ h0
  have e0 : True := trivial
  refine C.enter Try.func44 rfl Try.ntmps44 rfl ?_
  refine J.seq ?_
  refine J.region ?_
  refine J.op (Yd.assign rfl) rfl ?_
  refine J.nil ?_
  refine J.n_then ?_
  refine J.block ?_
  refine J.loop (ι := Nat × Nat) (fun i => [(0, .func (.yield lr) #[] #[]), (4, I (i.2 : Int)), (1, .pointer (some ⟨b1, 0, none⟩)), (2, .pointer (some ⟨b2, 0, none⟩))]) (fun i w' => i.2 = i.1 * n ∧ (i.1 = 0 ∨ (i.1 - 1) * n < l.length) ∧ Inv i.1 w' ∧ True) (fun i => l.length + 1 - i.2) ((0, 0)) ⟨rfl, rfl, rfl, rfl, trivial⟩ (⟨(Nat.zero_mul n).symm, .inl rfl, h0, e0⟩) ?_
  rintro ⟨i, p⟩ w1 ⟨hpos, hprev, hI, e0⟩
  dsimp only at *
  obtain ⟨h1, h2, hs⟩ := hF _ _ hI
  refine J.seq ?_
  refine J.seq ?_
  refine J.region ?_
  refine J.op (Yd.move rfl) rfl ?_
  refine J.op (Yd.load pl22 rfl (Cel.cell1 h1 0 rfl)) rfl ?_
  refine J.op (Yd.len_b Try.underlying22 rfl hs) rfl ?_
  refine J.op (Yd.lss rfl rfl) rfl ?_
  refine J.nil ?_
  refine J.n_then ?_
  refine J.cond_dec rfl (fun hc0 => ?_) (fun hc0 => ?_)
  · skip
    refine J.skip ?_
    refine J.n_then ?_
    refine J.seq ?_
    refine J.block ?_
    refine J.seq ?_
    refine J.regionO [(2, true)] [(0, 1), (1, 1), (3, 1), (4, 1)] [(5, true), (6, true)] mix (by kernel_rfl) ?_
    refine J.s_op rfl (fun _ => Yd.move rfl) rfl ?_
    refine J.s_nil ?_
    refine J.o_op rfl (Yd.load pl3 rfl (Cel.cell1 h2 0 rfl)) rfl ?_
    refine J.o_op rfl (Yd.load pl22 rfl (Cel.cell1 h1 0 rfl)) rfl ?_
    refine J.o_op rfl (Yd.slcL Try.underlying22 ti5 rfl hs rfl (by first | omega | exact idx_u8' _ | (simp only [Int.toNat_natCast]; omega) | (simp only [List.length_map, List.length_drop, List.length_take, List.length_append, List.length_replicate]; omega) | (simp <;> omega))) rfl ?_
    refine J.o_op rfl (Yd.cast (Yd.len_b Try.underlying22 rfl (Bs.slc hs (by first | omega | exact idx_u8' _ | (simp only [Int.toNat_natCast]; omega) | (simp only [List.length_map, List.length_drop, List.length_take, List.length_append, List.length_replicate]; omega) | (simp <;> omega)) (by first | omega | exact idx_u8' _ | (simp only [Int.toNat_natCast]; omega) | (simp only [List.length_map, List.length_drop, List.length_take, List.length_append, List.length_replicate]; omega) | (simp <;> omega)))) (congrArg (fun z : Nat => I (z : Int)) (show _ = l.length - p by rw [List.length_drop, List.length_take, List.length_map, Int.toNat_natCast, Nat.min_self]))) rfl ?_
    refine J.o_nil ?_
    refine J.s_op rfl (fun _ => Yd.cast (Yd.mini rfl rfl) (congrArg (fun z => I z) if_minN)) rfl ?_
    refine J.s_op rfl (fun _ => Yd.assign rfl) rfl ?_
    refine J.s_nil ?_
    refine J.n_np ?_
    refine J.n_then ?_
    refine J.seq ?_
    refine J.wide (J.iregion (ro := none) ?_)
    refine J.i_op rfl (Yd.move rfl) rfl ?_
    refine J.i_op rfl (Yd.load pl22 rfl (Cel.cell1 h1 0 rfl)) rfl ?_
    refine J.i_op rfl (Yd.move rfl) rfl ?_
    refine J.i_op rfl (Yd.move rfl) rfl ?_
    refine J.i_op rfl (Yd.move rfl) rfl ?_
    refine J.i_op rfl (Yd.add rfl rfl (by first | omega | exact idx_u8' _ | (simp only [Int.toNat_natCast]; omega) | (simp only [List.length_map, List.length_drop, List.length_take, List.length_append, List.length_replicate]; omega) | (simp <;> omega))) rfl ?_
    refine J.i_op rfl (Yd.move rfl) rfl ?_
    refine J.i_op rfl (Yd.move rfl) rfl ?_
    refine J.i_op rfl (Yd.add rfl rfl (by first | omega | exact idx_u8' _ | (simp only [Int.toNat_natCast]; omega) | (simp only [List.length_map, List.length_drop, List.length_take, List.length_append, List.length_replicate]; omega) | (simp <;> omega))) rfl ?_
    refine J.i_op rfl (Yd.cast (Yd.slc3 Try.underlying22 ti5 rfl hs rfl rfl rfl (by omega)) (chV_eq (len := l.length) hpos)) rfl ?_
    refine J.yield rfl rfl (hY _ _ hI (by rw [← hpos]; omega)) rfl ?_
    intro w2 hI
    obtain ⟨h1, h2, hs⟩ := hF _ _ hI
    refine J.i_op rfl (Yd.not rfl) rfl ?_
    refine J.i_nil ?_
    refine J.n_then ?_
    refine J.cond_false rfl ?_
    refine J.skip ?_
    refine J.n_block ?_
    refine J.n_then ?_
    refine J.region ?_
    refine J.op (Yd.move rfl) rfl ?_
    refine J.op (Yd.load pl3 rfl (Cel.cell1 h2 0 rfl)) rfl ?_
    refine J.op (Yd.add rfl rfl (by first | omega | exact idx_u8' _ | (simp only [Int.toNat_natCast]; omega) | (simp only [List.length_map, List.length_drop, List.length_take, List.length_append, List.length_replicate]; omega) | (simp <;> omega))) rfl ?_
    refine J.op (Yd.assign rfl) rfl ?_
    refine J.nil ?_
    refine J.n_then ?_
    exact J.round ((i + 1, p + n)) ⟨rfl, rfl, rfl, rfl, trivial⟩ (⟨(by show p + n = (i + 1) * n; rw [Nat.succ_mul]; omega), (.inr (by show (i + 1 - 1) * n < l.length; rw [Nat.add_sub_cancel]; omega)), hI, e0⟩) (by show l.length + 1 - (p + n) < l.length + 1 - p; omega)
  · skip
    refine J.exit ?_
    refine J.x_then ?_
    refine J.x_then ?_
    refine J.x_block ?_
    exact J.end0 rfl (⟨_, rfl, (by rw [← hM i (by rw [← hpos]; omega) (by omega)]; exact hI)⟩)
end Ytghklimejpmpnaa
end Go.Proofs
