import Derived.Test.YtphebleabcoakaaT
import Derived.Test.YtphebleabcoakaaV1
set_option linter.unusedVariables false
set_option linter.unusedSimpArgs false
set_option maxRecDepth 100000
set_option maxHeartbeats 4000000
namespace Go.Proofs
open Go.X Go.RowKit
namespace Ytphebleabcoakaa
theorem TwoT {b7 b8 b5 b4 b3 b9 k : Nat} {n q : Int} {v9 : Value} {w : World} (h7 : Cel w b7 3 [(0, 1, [I n])]) (h8 : Cel w b8 23 [(0, 1, [.func (.func 8) #[] #[.pointer (some ⟨b7, 0, none⟩), .pointer (some ⟨b8, 0, none⟩), .pointer (some ⟨b5, 0, none⟩), .pointer (some ⟨b4, 0, none⟩)]])]) (h5 : Cel w b5 4 [(0, 1, [.bool true])]) (h4 : Cel w b4 3 [(0, 1, [I q])]) (h3 : Cel w b3 3 [(0, 1, [I (k : Int)])]) (h9 : Cel w b9 24 [(0, 1, [v9])]) (a78 : Ap (some b7) (some b8)) (a75 : Ap (some b7) (some b5)) (a74 : Ap (some b7) (some b4)) (a73 : Ap (some b7) (some b3)) (a79 : Ap (some b7) (some b9)) (hn : 0 ≤ n ∧ n + (k : Int) ≤ 1000) (hq : ¬ q = 0) : C Try.prog 10 [.pointer (some ⟨b8, 0, none⟩), .pointer (some ⟨b3, 0, none⟩), .pointer (some ⟨b9, 0, none⟩)] w (Pan fun ch w' => ch = [{ v := .iface 9 (Str [111, 116, 104, 101, 114]), recovered := false }, { v := .iface 9 (Str [111, 116, 104, 101, 114]), recovered := true }] ∧ Cel w' b7 3 [(0, 1, [I (n + (k : Int) + 1)])] ∧ Tn [some b7] w w') := by
  have e0 := Tn.refl [(some b7)] w
  refine C.enter Try.func10 rfl Try.ntmps10 rfl ?_
  refine J.region ?_
  refine J.op (Yd.mkFuncC rfl rfl) rfl ?_
  refine J.pan (Yp.call cl11 rfl (Read_oth (f := 12) (fst := #[]) (cap := #[.pointer (some ⟨b8, 0, none⟩), .pointer (some ⟨b3, 0, none⟩)]) (rs := [some b7]) (l := []) (Φ := fun w' => Cel w' b7 3 [(0, 1, [I (n + (k : Int) + 1)])]) cl12 (LoL.one (Cel.live h7)) (Rd.nilM (fun x : UInt8 => B x) _) (by decide) (fun w1 be br hx hbe hlt hr => (CbT (br := br) (h7.ext hx) (h8.ext hx) (h5.ext hx) (h4.ext hx) (h3.ext hx) a78 a75 a74 a73 hn).pan fun ch w2 h => ⟨h.1, h.2.2.mono (fun r hr => List.mem_cons_of_mem _ hr), fun w3 ht => h.2.1.tnk ht (ApL.one (Ap.mk (Cel.live h7) (Fr.blk hbe)))⟩))) ?_
  rintro _ w1 ⟨rfl, x1, h7'⟩
  have e0 := Tn.tnk e0 (fun q hq => by simp only [List.mem_singleton] at hq; subst hq; exact .inl (by simp)) x1
  exact J.fin_p (⟨_, rfl, rfl, h7', e0⟩)

theorem RecoversT {k : Nat} {q : Int} {w : World} (hk : k ≤ 50) (hq : 1 ≤ q ∧ q ≤ 13) : C Try.prog 3 [I (k : Int), I q, .bool true] w (Ret fun v w' => v = .bool true ∧ Ext w w') := by
  have e0 := Ext.refl w
  refine C.enter Try.func3 rfl Try.ntmps3 rfl ?_
  refine J.seq ?_
  refine J.region ?_
  refine J.eff (Ye.box (S := [(0, 1, [I (k : Int)])]) rfl (by simp [SegAll, SegOK, Value.cells])) rfl ?_
  rintro _ w1 ⟨b3_0, rfl, hb_, c3_0, x1⟩
  have fr_b3_0 : Fr w.heap.size (some b3_0) := Fr.le (Fr.blk hb_) e0.size
  have e0 := e0.trans x1
  clear x1 hb_
  refine J.eff (Ye.box (S := [(0, 1, [I q])]) rfl (by simp [SegAll, SegOK, Value.cells])) rfl ?_
  rintro _ w2 ⟨b4_1, rfl, hb_, c4_1, x1⟩
  have ap_b3_0_b4_1 : Ap (some b3_0) (some b4_1) := Ap.mk (Cel.live c3_0) (Fr.blk hb_)
  have fr_b4_1 : Fr w.heap.size (some b4_1) := Fr.le (Fr.blk hb_) e0.size
  have e0 := e0.trans x1
  have c3_0 := c3_0.ext x1
  clear x1 hb_
  refine J.eff (Ye.box (S := [(0, 1, [.bool true])]) rfl (by simp [SegAll, SegOK, Value.cells])) rfl ?_
  rintro _ w3 ⟨b5_2, rfl, hb_, c5_2, x1⟩
  have ap_b3_0_b5_2 : Ap (some b3_0) (some b5_2) := Ap.mk (Cel.live c3_0) (Fr.blk hb_)
  have ap_b4_1_b5_2 : Ap (some b4_1) (some b5_2) := Ap.mk (Cel.live c4_1) (Fr.blk hb_)
  have fr_b5_2 : Fr w.heap.size (some b5_2) := Fr.le (Fr.blk hb_) e0.size
  have e0 := e0.trans x1
  have c3_0 := c3_0.ext x1
  have c4_1 := c4_1.ext x1
  clear x1 hb_
  refine J.op (Yd.assign rfl) rfl ?_
  refine J.nil ?_
  refine J.n_then ?_
  refine J.seq ?_
  refine J.seq ?_
  refine J.region ?_
  refine J.op (Yd.load pl3 rfl (Cel.cell1 c3_0 0 rfl)) rfl ?_
  refine J.op (Yd.lss rfl rfl) rfl ?_
  refine J.op (Yd.move rfl) rfl ?_
  refine J.know (t := 13) (v' := .bool false) rfl (ff (by omega)) ?_
  refine J.op_g rfl rfl rfl (Yd.load pl3 rfl (Cel.cell1 c3_0 0 rfl)) rfl ?_
  refine J.op_g rfl rfl rfl (Yd.gtr rfl rfl) rfl ?_
  refine J.op (Yd.pick_f rfl rfl) rfl ?_
  refine J.op (Yd.move rfl) rfl ?_
  refine J.know (t := 17) (v' := .bool false) rfl (ff (by omega)) ?_
  refine J.op_g rfl rfl rfl (Yd.load pl3 rfl (Cel.cell1 c4_1 0 rfl)) rfl ?_
  refine J.op_g rfl rfl rfl (Yd.lss rfl rfl) rfl ?_
  refine J.op (Yd.pick_f rfl rfl) rfl ?_
  refine J.op (Yd.move rfl) rfl ?_
  refine J.know (t := 21) (v' := .bool false) rfl (ff (by omega)) ?_
  refine J.op_g rfl rfl rfl (Yd.load pl3 rfl (Cel.cell1 c4_1 0 rfl)) rfl ?_
  refine J.op_g rfl rfl rfl (Yd.gtr rfl rfl) rfl ?_
  refine J.op (Yd.pick_f rfl rfl) rfl ?_
  refine J.nil ?_
  refine J.n_then ?_
  refine J.know (t := 24) (v' := .bool false) rfl (ff (by omega)) ?_
  refine J.cond_false rfl ?_
  refine J.skip ?_
  refine J.n_then ?_
  refine J.seq ?_
  refine J.region ?_
  refine J.eff (Ye.alloc ti3 (S := [(0, 1, [.int .i64 0])]) (by simp [SegAll, SegOK, Value.cells])) rfl ?_
  rintro _ w4 ⟨b7_3, rfl, hb_, c7_3, x1⟩
  have ap_b3_0_b7_3 : Ap (some b3_0) (some b7_3) := Ap.mk (Cel.live c3_0) (Fr.blk hb_)
  have ap_b4_1_b7_3 : Ap (some b4_1) (some b7_3) := Ap.mk (Cel.live c4_1) (Fr.blk hb_)
  have ap_b5_2_b7_3 : Ap (some b5_2) (some b7_3) := Ap.mk (Cel.live c5_2) (Fr.blk hb_)
  have fr_b7_3 : Fr w.heap.size (some b7_3) := Fr.le (Fr.blk hb_) e0.size
  have e0 := e0.trans x1
  have c3_0 := c3_0.ext x1
  have c4_1 := c4_1.ext x1
  have c5_2 := c5_2.ext x1
  clear x1 hb_
  refine J.eff0 (Ye.store1 ti3 c7_3 0 rfl rfl rfl rfl rfl rfl) ?_
  rintro _ w5 ⟨cX, hu⟩
  simp only [List.set_cons_zero, List.set_cons_succ] at cX
  have hg := hu.gb
  have c3_0 := Cel.gbk c3_0 hg ap_b3_0_b7_3
  have c4_1 := Cel.gbk c4_1 hg ap_b4_1_b7_3
  have c5_2 := Cel.gbk c5_2 hg ap_b5_2_b7_3
  have e0 := Ext.gbk e0 fr_b7_3 hg
  clear hg
  replace c7_3 := cX
  clear cX hu
  refine J.nil ?_
  refine J.n_then ?_
  refine J.seq ?_
  refine J.region ?_
  refine J.eff (Ye.alloc ti23 (S := [(0, 1, [.nilFunc])]) (by simp [SegAll, SegOK, Value.cells])) rfl ?_
  rintro _ w6 ⟨b8_5, rfl, hb_, c8_5, x1⟩
  have ap_b3_0_b8_5 : Ap (some b3_0) (some b8_5) := Ap.mk (Cel.live c3_0) (Fr.blk hb_)
  have ap_b4_1_b8_5 : Ap (some b4_1) (some b8_5) := Ap.mk (Cel.live c4_1) (Fr.blk hb_)
  have ap_b5_2_b8_5 : Ap (some b5_2) (some b8_5) := Ap.mk (Cel.live c5_2) (Fr.blk hb_)
  have ap_b7_3_b8_5 : Ap (some b7_3) (some b8_5) := Ap.mk (Cel.live c7_3) (Fr.blk hb_)
  have fr_b8_5 : Fr w.heap.size (some b8_5) := Fr.le (Fr.blk hb_) e0.size
  have e0 := e0.trans x1
  have c3_0 := c3_0.ext x1
  have c4_1 := c4_1.ext x1
  have c5_2 := c5_2.ext x1
  have c7_3 := c7_3.ext x1
  clear x1 hb_
  refine J.nil ?_
  refine J.n_then ?_
  refine J.seq ?_
  refine J.region ?_
  refine J.op (Yd.mkFuncC rfl rfl) rfl ?_
  refine J.eff0 (Ye.store1 ti23 c8_5 0 rfl rfl rfl rfl rfl rfl) ?_
  rintro _ w7 ⟨cX, hu⟩
  simp only [List.set_cons_zero, List.set_cons_succ] at cX
  have hg := hu.gb
  have c3_0 := Cel.gbk c3_0 hg ap_b3_0_b8_5
  have c4_1 := Cel.gbk c4_1 hg ap_b4_1_b8_5
  have c5_2 := Cel.gbk c5_2 hg ap_b5_2_b8_5
  have c7_3 := Cel.gbk c7_3 hg ap_b7_3_b8_5
  have e0 := Ext.gbk e0 fr_b8_5 hg
  clear hg
  replace c8_5 := cX
  clear cX hu
  refine J.nil ?_
  refine J.n_then ?_
  refine J.seq ?_
  refine J.region ?_
  refine J.eff (Ye.alloc ti24 (S := [(0, 1, [.int .i64 0])]) (by simp [SegAll, SegOK, Value.cells])) rfl ?_
  rintro _ w8 ⟨b9_7, rfl, hb_, c9_7, x1⟩
  have ap_b3_0_b9_7 : Ap (some b3_0) (some b9_7) := Ap.mk (Cel.live c3_0) (Fr.blk hb_)
  have ap_b4_1_b9_7 : Ap (some b4_1) (some b9_7) := Ap.mk (Cel.live c4_1) (Fr.blk hb_)
  have ap_b5_2_b9_7 : Ap (some b5_2) (some b9_7) := Ap.mk (Cel.live c5_2) (Fr.blk hb_)
  have ap_b7_3_b9_7 : Ap (some b7_3) (some b9_7) := Ap.mk (Cel.live c7_3) (Fr.blk hb_)
  have ap_b8_5_b9_7 : Ap (some b8_5) (some b9_7) := Ap.mk (Cel.live c8_5) (Fr.blk hb_)
  have fr_b9_7 : Fr w.heap.size (some b9_7) := Fr.le (Fr.blk hb_) e0.size
  have e0 := e0.trans x1
  have c3_0 := c3_0.ext x1
  have c4_1 := c4_1.ext x1
  have c5_2 := c5_2.ext x1
  have c7_3 := c7_3.ext x1
  have c8_5 := c8_5.ext x1
  clear x1 hb_
  refine J.nil ?_
  refine J.n_then ?_
  refine J.seq ?_
  refine J.region ?_
  refine J.op (Yd.mkFuncC rfl rfl) rfl ?_
  refine J.eff (Ye.call cl9 rfl (Pn_oth (f := 10) (fst := #[]) (cap := #[.pointer (some ⟨b8_5, 0, none⟩), .pointer (some ⟨b3_0, 0, none⟩), .pointer (some ⟨b9_7, 0, none⟩)]) (rs := [some b7_3]) (Φ := fun w' => Cel w' b7_3 3 [(0, 1, [I (0 + (k : Int) + 1)])]) cl10 (LoL.one (Cel.live c7_3)) (fun w1 bc hx hbc hlt => (TwoT (c7_3.ext hx) (c8_5.ext hx) (c5_2.ext hx) (c4_1.ext hx) (c3_0.ext hx) (c9_7.ext hx) ap_b7_3_b8_5 (Ap.symm ap_b5_2_b7_3) (Ap.symm ap_b4_1_b7_3) (Ap.symm ap_b3_0_b7_3) ap_b7_3_b9_7 (by omega) (by omega)).pan fun ch w2 h => ⟨h.1, h.2.2, fun w3 ht => h.2.1.tnk ht (ApL.one (Ap.mk (Cel.live c7_3) (Fr.blk hbc)))⟩))) rfl ?_
  rintro _ w9 ⟨rfl, x1, hb7⟩
  have c3_0 := Cel.tnk c3_0 x1 (ApL.one ap_b3_0_b7_3)
  have c4_1 := Cel.tnk c4_1 x1 (ApL.one ap_b4_1_b7_3)
  have c5_2 := Cel.tnk c5_2 x1 (ApL.one ap_b5_2_b7_3)
  have c8_5 := Cel.tnk c8_5 x1 (ApL.one (Ap.symm ap_b7_3_b8_5))
  have c9_7 := Cel.tnk c9_7 x1 (ApL.one (Ap.symm ap_b7_3_b9_7))
  have e0 := Ext.tnk e0 (fun q hq => by simp only [List.mem_singleton] at hq; subst hq; exact fr_b7_3) x1
  clear x1
  replace c7_3 := hb7
  refine J.op (Yd.assign rfl) rfl ?_
  refine J.nil ?_
  refine J.n_then ?_
  refine J.seq ?_
  refine J.seq ?_
  refine J.region ?_
  refine J.op (Yd.load pl4 rfl (Cel.cell1 c5_2 0 rfl)) rfl ?_
  refine J.nil ?_
  refine J.n_then ?_
  refine J.know (t := 29) (v' := .bool true) rfl (rfl) ?_
  refine J.cond_true rfl ?_
  refine J.seq ?_
  refine J.region ?_
  refine J.op (Yd.move rfl) rfl ?_
  refine J.op (Yd.eql rfl rfl) rfl ?_
  refine J.op (Yd.move rfl) rfl ?_
  refine J.know (t := 32) (v' := .bool true) rfl (tt (by decide)) ?_
  refine J.op_g rfl rfl rfl (Yd.load pl3 rfl (Cel.cell1 c7_3 0 rfl)) rfl ?_
  refine J.op_g rfl rfl rfl (Yd.load pl3 rfl (Cel.cell1 c3_0 0 rfl)) rfl ?_
  refine J.op_g rfl rfl rfl (Yd.add rfl rfl (by first | omega | exact idx_u8' _ | (simp only [Int.toNat_natCast]; omega) | (simp only [List.length_map, List.length_drop, List.length_take, List.length_append, List.length_replicate]; omega) | (simp <;> omega))) rfl ?_
  refine J.op_g rfl rfl rfl (Yd.eql rfl rfl) rfl ?_
  refine J.op (Yd.pick_t rfl rfl) rfl ?_
  refine J.op (Yd.move rfl) rfl ?_
  refine J.know (t := 38) (v' := .bool true) rfl (tt (by omega)) ?_
  refine J.eff_g rfl rfl rfl (Ye.call cl7 rfl (Awake_ok)) rfl ?_
  rintro _ w10 ⟨rfl, x1⟩
  have e0 := e0.trans x1
  have c3_0 := c3_0.ext x1
  have c4_1 := c4_1.ext x1
  have c5_2 := c5_2.ext x1
  have c7_3 := c7_3.ext x1
  have c8_5 := c8_5.ext x1
  have c9_7 := c9_7.ext x1
  clear x1
  refine J.op (Yd.pick_t rfl rfl) rfl ?_
  refine J.op (Yd.assign rfl) rfl ?_
  refine J.nil ?_
  refine J.n_then ?_
  refine J.ret ?_
  refine J.r_then ?_
  exact J.ret1 rfl rfl (⟨_, rfl, rfl, e0⟩)

theorem TwoF {b7 b8 b5 b4 b3 b9 k : Nat} {n q : Int} {v9 : Value} {w : World} (h7 : Cel w b7 3 [(0, 1, [I n])]) (h8 : Cel w b8 23 [(0, 1, [.func (.func 8) #[] #[.pointer (some ⟨b7, 0, none⟩), .pointer (some ⟨b8, 0, none⟩), .pointer (some ⟨b5, 0, none⟩), .pointer (some ⟨b4, 0, none⟩)]])]) (h5 : Cel w b5 4 [(0, 1, [.bool false])]) (h4 : Cel w b4 3 [(0, 1, [I q])]) (h3 : Cel w b3 3 [(0, 1, [I (k : Int)])]) (h9 : Cel w b9 24 [(0, 1, [v9])]) (a78 : Ap (some b7) (some b8)) (a75 : Ap (some b7) (some b5)) (a74 : Ap (some b7) (some b4)) (a73 : Ap (some b7) (some b3)) (a79 : Ap (some b7) (some b9)) (hn : 0 ≤ n ∧ n + (k : Int) ≤ 1000) (hq : ¬ q = 0) : C Try.prog 10 [.pointer (some ⟨b8, 0, none⟩), .pointer (some ⟨b3, 0, none⟩), .pointer (some ⟨b9, 0, none⟩)] w (Ret fun _ w' => Cel w' b7 3 [(0, 1, [I (n + (k : Int) + 1)])] ∧ Cel w' b9 24 [(0, 1, [I q])] ∧ Tn [some b7, some b9] w w') := by
  have e0 := Tn.refl [(some b7), (some b9)] w
  refine C.enter Try.func10 rfl Try.ntmps10 rfl ?_
  refine J.region ?_
  refine J.op (Yd.mkFuncC rfl rfl) rfl ?_
  refine J.eff (Ye.call cl11 rfl (Read_err (f := 12) (fst := #[]) (cap := #[.pointer (some ⟨b8, 0, none⟩), .pointer (some ⟨b3, 0, none⟩)]) (rs := [some b7]) (l := []) (Φ := fun w' => Cel w' b7 3 [(0, 1, [I (n + (k : Int) + 1)])]) cl12 (LoL.one (Cel.live h7)) (Rd.nilM (fun x : UInt8 => B x) _) (by decide) hq (fun w1 be br hx hbe hlt hr => (CbF (br := br) (h7.ext hx) (h8.ext hx) (h5.ext hx) (h4.ext hx) (h3.ext hx) a78 a75 a74 a73 hn).pan fun ch w2 h => ⟨h.1, h.2.2.mono (fun r hr => List.mem_cons_of_mem _ hr), fun w3 ht => h.2.1.tnk ht (ApL.one (Ap.mk (Cel.live h7) (Fr.blk hbe)))⟩))) rfl ?_
  rintro _ w1 ⟨rfl, x1, h7'⟩
  have h8 := Cel.tnk h8 x1 (ApL.one (Ap.symm a78))
  have h5 := Cel.tnk h5 x1 (ApL.one (Ap.symm a75))
  have h4 := Cel.tnk h4 x1 (ApL.one (Ap.symm a74))
  have h3 := Cel.tnk h3 x1 (ApL.one (Ap.symm a73))
  have h9 := Cel.tnk h9 x1 (ApL.one (Ap.symm a79))
  have e0 := Tn.tnk e0 (fun q hq => by simp only [List.mem_singleton] at hq; subst hq; exact .inl (by simp)) x1
  clear x1
  replace h7 := h7'
  clear h7'
  refine J.eff0 (Ye.store1 ti24 h9 0 rfl rfl rfl rfl rfl rfl) ?_
  rintro _ w2 ⟨cX, hu⟩
  simp only [List.set_cons_zero, List.set_cons_succ] at cX
  have hg := hu.gb
  have h7 := Cel.gbk h7 hg a79
  have e0 := Tn.gbk e0 (.inl (by simp)) hg
  clear hg
  replace h9 := cX
  clear cX hu
  refine J.nil ?_
  exact J.end0 rfl (⟨_, rfl, h7, h9, e0⟩)

theorem RecoversF {k : Nat} {q : Int} {w : World} (hk : k ≤ 50) (hq : 1 ≤ q ∧ q ≤ 13) : C Try.prog 3 [I (k : Int), I q, .bool false] w (Ret fun v w' => v = .bool true ∧ Ext w w') := by
  have e0 := Ext.refl w
  refine C.enter Try.func3 rfl Try.ntmps3 rfl ?_
  refine J.seq ?_
  refine J.region ?_
  refine J.eff (Ye.box (S := [(0, 1, [I (k : Int)])]) rfl (by simp [SegAll, SegOK, Value.cells])) rfl ?_
  rintro _ w1 ⟨b3_0, rfl, hb_, c3_0, x1⟩
  have fr_b3_0 : Fr w.heap.size (some b3_0) := Fr.le (Fr.blk hb_) e0.size
  have e0 := e0.trans x1
  clear x1 hb_
  refine J.eff (Ye.box (S := [(0, 1, [I q])]) rfl (by simp [SegAll, SegOK, Value.cells])) rfl ?_
  rintro _ w2 ⟨b4_1, rfl, hb_, c4_1, x1⟩
  have ap_b3_0_b4_1 : Ap (some b3_0) (some b4_1) := Ap.mk (Cel.live c3_0) (Fr.blk hb_)
  have fr_b4_1 : Fr w.heap.size (some b4_1) := Fr.le (Fr.blk hb_) e0.size
  have e0 := e0.trans x1
  have c3_0 := c3_0.ext x1
  clear x1 hb_
  refine J.eff (Ye.box (S := [(0, 1, [.bool false])]) rfl (by simp [SegAll, SegOK, Value.cells])) rfl ?_
  rintro _ w3 ⟨b5_2, rfl, hb_, c5_2, x1⟩
  have ap_b3_0_b5_2 : Ap (some b3_0) (some b5_2) := Ap.mk (Cel.live c3_0) (Fr.blk hb_)
  have ap_b4_1_b5_2 : Ap (some b4_1) (some b5_2) := Ap.mk (Cel.live c4_1) (Fr.blk hb_)
  have fr_b5_2 : Fr w.heap.size (some b5_2) := Fr.le (Fr.blk hb_) e0.size
  have e0 := e0.trans x1
  have c3_0 := c3_0.ext x1
  have c4_1 := c4_1.ext x1
  clear x1 hb_
  refine J.op (Yd.assign rfl) rfl ?_
  refine J.nil ?_
  refine J.n_then ?_
  refine J.seq ?_
  refine J.seq ?_
  refine J.region ?_
  refine J.op (Yd.load pl3 rfl (Cel.cell1 c3_0 0 rfl)) rfl ?_
  refine J.op (Yd.lss rfl rfl) rfl ?_
  refine J.op (Yd.move rfl) rfl ?_
  refine J.know (t := 13) (v' := .bool false) rfl (ff (by omega)) ?_
  refine J.op_g rfl rfl rfl (Yd.load pl3 rfl (Cel.cell1 c3_0 0 rfl)) rfl ?_
  refine J.op_g rfl rfl rfl (Yd.gtr rfl rfl) rfl ?_
  refine J.op (Yd.pick_f rfl rfl) rfl ?_
  refine J.op (Yd.move rfl) rfl ?_
  refine J.know (t := 17) (v' := .bool false) rfl (ff (by omega)) ?_
  refine J.op_g rfl rfl rfl (Yd.load pl3 rfl (Cel.cell1 c4_1 0 rfl)) rfl ?_
  refine J.op_g rfl rfl rfl (Yd.lss rfl rfl) rfl ?_
  refine J.op (Yd.pick_f rfl rfl) rfl ?_
  refine J.op (Yd.move rfl) rfl ?_
  refine J.know (t := 21) (v' := .bool false) rfl (ff (by omega)) ?_
  refine J.op_g rfl rfl rfl (Yd.load pl3 rfl (Cel.cell1 c4_1 0 rfl)) rfl ?_
  refine J.op_g rfl rfl rfl (Yd.gtr rfl rfl) rfl ?_
  refine J.op (Yd.pick_f rfl rfl) rfl ?_
  refine J.nil ?_
  refine J.n_then ?_
  refine J.know (t := 24) (v' := .bool false) rfl (ff (by omega)) ?_
  refine J.cond_false rfl ?_
  refine J.skip ?_
  refine J.n_then ?_
  refine J.seq ?_
  refine J.region ?_
  refine J.eff (Ye.alloc ti3 (S := [(0, 1, [.int .i64 0])]) (by simp [SegAll, SegOK, Value.cells])) rfl ?_
  rintro _ w4 ⟨b7_3, rfl, hb_, c7_3, x1⟩
  have ap_b3_0_b7_3 : Ap (some b3_0) (some b7_3) := Ap.mk (Cel.live c3_0) (Fr.blk hb_)
  have ap_b4_1_b7_3 : Ap (some b4_1) (some b7_3) := Ap.mk (Cel.live c4_1) (Fr.blk hb_)
  have ap_b5_2_b7_3 : Ap (some b5_2) (some b7_3) := Ap.mk (Cel.live c5_2) (Fr.blk hb_)
  have fr_b7_3 : Fr w.heap.size (some b7_3) := Fr.le (Fr.blk hb_) e0.size
  have e0 := e0.trans x1
  have c3_0 := c3_0.ext x1
  have c4_1 := c4_1.ext x1
  have c5_2 := c5_2.ext x1
  clear x1 hb_
  refine J.eff0 (Ye.store1 ti3 c7_3 0 rfl rfl rfl rfl rfl rfl) ?_
  rintro _ w5 ⟨cX, hu⟩
  simp only [List.set_cons_zero, List.set_cons_succ] at cX
  have hg := hu.gb
  have c3_0 := Cel.gbk c3_0 hg ap_b3_0_b7_3
  have c4_1 := Cel.gbk c4_1 hg ap_b4_1_b7_3
  have c5_2 := Cel.gbk c5_2 hg ap_b5_2_b7_3
  have e0 := Ext.gbk e0 fr_b7_3 hg
  clear hg
  replace c7_3 := cX
  clear cX hu
  refine J.nil ?_
  refine J.n_then ?_
  refine J.seq ?_
  refine J.region ?_
  refine J.eff (Ye.alloc ti23 (S := [(0, 1, [.nilFunc])]) (by simp [SegAll, SegOK, Value.cells])) rfl ?_
  rintro _ w6 ⟨b8_5, rfl, hb_, c8_5, x1⟩
  have ap_b3_0_b8_5 : Ap (some b3_0) (some b8_5) := Ap.mk (Cel.live c3_0) (Fr.blk hb_)
  have ap_b4_1_b8_5 : Ap (some b4_1) (some b8_5) := Ap.mk (Cel.live c4_1) (Fr.blk hb_)
  have ap_b5_2_b8_5 : Ap (some b5_2) (some b8_5) := Ap.mk (Cel.live c5_2) (Fr.blk hb_)
  have ap_b7_3_b8_5 : Ap (some b7_3) (some b8_5) := Ap.mk (Cel.live c7_3) (Fr.blk hb_)
  have fr_b8_5 : Fr w.heap.size (some b8_5) := Fr.le (Fr.blk hb_) e0.size
  have e0 := e0.trans x1
  have c3_0 := c3_0.ext x1
  have c4_1 := c4_1.ext x1
  have c5_2 := c5_2.ext x1
  have c7_3 := c7_3.ext x1
  clear x1 hb_
  refine J.nil ?_
  refine J.n_then ?_
  refine J.seq ?_
  refine J.region ?_
  refine J.op (Yd.mkFuncC rfl rfl) rfl ?_
  refine J.eff0 (Ye.store1 ti23 c8_5 0 rfl rfl rfl rfl rfl rfl) ?_
  rintro _ w7 ⟨cX, hu⟩
  simp only [List.set_cons_zero, List.set_cons_succ] at cX
  have hg := hu.gb
  have c3_0 := Cel.gbk c3_0 hg ap_b3_0_b8_5
  have c4_1 := Cel.gbk c4_1 hg ap_b4_1_b8_5
  have c5_2 := Cel.gbk c5_2 hg ap_b5_2_b8_5
  have c7_3 := Cel.gbk c7_3 hg ap_b7_3_b8_5
  have e0 := Ext.gbk e0 fr_b8_5 hg
  clear hg
  replace c8_5 := cX
  clear cX hu
  refine J.nil ?_
  refine J.n_then ?_
  refine J.seq ?_
  refine J.region ?_
  refine J.eff (Ye.alloc ti24 (S := [(0, 1, [.int .i64 0])]) (by simp [SegAll, SegOK, Value.cells])) rfl ?_
  rintro _ w8 ⟨b9_7, rfl, hb_, c9_7, x1⟩
  have ap_b3_0_b9_7 : Ap (some b3_0) (some b9_7) := Ap.mk (Cel.live c3_0) (Fr.blk hb_)
  have ap_b4_1_b9_7 : Ap (some b4_1) (some b9_7) := Ap.mk (Cel.live c4_1) (Fr.blk hb_)
  have ap_b5_2_b9_7 : Ap (some b5_2) (some b9_7) := Ap.mk (Cel.live c5_2) (Fr.blk hb_)
  have ap_b7_3_b9_7 : Ap (some b7_3) (some b9_7) := Ap.mk (Cel.live c7_3) (Fr.blk hb_)
  have ap_b8_5_b9_7 : Ap (some b8_5) (some b9_7) := Ap.mk (Cel.live c8_5) (Fr.blk hb_)
  have fr_b9_7 : Fr w.heap.size (some b9_7) := Fr.le (Fr.blk hb_) e0.size
  have e0 := e0.trans x1
  have c3_0 := c3_0.ext x1
  have c4_1 := c4_1.ext x1
  have c5_2 := c5_2.ext x1
  have c7_3 := c7_3.ext x1
  have c8_5 := c8_5.ext x1
  clear x1 hb_
  refine J.nil ?_
  refine J.n_then ?_
  refine J.seq ?_
  refine J.region ?_
  refine J.op (Yd.mkFuncC rfl rfl) rfl ?_
  refine J.eff (Ye.call cl9 rfl (Pn_ret (f := 10) (fst := #[]) (cap := #[.pointer (some ⟨b8_5, 0, none⟩), .pointer (some ⟨b3_0, 0, none⟩), .pointer (some ⟨b9_7, 0, none⟩)]) (rs := [some b7_3, some b9_7]) (Φ := fun w' => Cel w' b7_3 3 [(0, 1, [I (0 + (k : Int) + 1)])] ∧ Cel w' b9_7 24 [(0, 1, [I q])]) cl10 (LoL.two (Cel.live c7_3) (Cel.live c9_7)) (fun w1 bc hx hbc hlt => (TwoF (c7_3.ext hx) (c8_5.ext hx) (c5_2.ext hx) (c4_1.ext hx) (c3_0.ext hx) (c9_7.ext hx) ap_b7_3_b8_5 (Ap.symm ap_b5_2_b7_3) (Ap.symm ap_b4_1_b7_3) (Ap.symm ap_b3_0_b7_3) ap_b7_3_b9_7 (by omega) (by omega)).ret fun _ w2 h => ⟨h.2.2, fun w3 ht => ⟨h.1.tnk ht (ApL.one (Ap.mk (Cel.live c7_3) (Fr.blk hbc))), h.2.1.tnk ht (ApL.one (Ap.mk (Cel.live c9_7) (Fr.blk hbc)))⟩⟩))) rfl ?_
  rintro _ w9 ⟨rfl, x1, hb7, hb9⟩
  have c3_0 := Cel.tnk c3_0 x1 (ApL.two ap_b3_0_b7_3 ap_b3_0_b9_7)
  have c4_1 := Cel.tnk c4_1 x1 (ApL.two ap_b4_1_b7_3 ap_b4_1_b9_7)
  have c5_2 := Cel.tnk c5_2 x1 (ApL.two ap_b5_2_b7_3 ap_b5_2_b9_7)
  have c8_5 := Cel.tnk c8_5 x1 (ApL.two (Ap.symm ap_b7_3_b8_5) ap_b8_5_b9_7)
  have e0 := Ext.tnk e0 (fun q hq => by simp only [List.mem_cons, List.mem_nil_iff, or_false] at hq; rcases hq with rfl | rfl; exact fr_b7_3; exact fr_b9_7) x1
  clear x1
  replace c7_3 := hb7
  replace c9_7 := hb9
  refine J.op (Yd.assign rfl) rfl ?_
  refine J.nil ?_
  refine J.n_then ?_
  refine J.seq ?_
  refine J.seq ?_
  refine J.region ?_
  refine J.op (Yd.load pl4 rfl (Cel.cell1 c5_2 0 rfl)) rfl ?_
  refine J.nil ?_
  refine J.n_then ?_
  refine J.know (t := 29) (v' := .bool false) rfl (rfl) ?_
  refine J.cond_false rfl ?_
  refine J.skip ?_
  refine J.n_then ?_
  refine J.seq ?_
  refine J.region ?_
  refine J.op (Yd.move rfl) rfl ?_
  refine J.op (Yd.eql rfl rfl) rfl ?_
  refine J.op (Yd.move rfl) rfl ?_
  refine J.know (t := 43) (v' := .bool true) rfl (tt (by decide)) ?_
  refine J.op_g rfl rfl rfl (Yd.load pl24 rfl (Cel.cell1 c9_7 0 rfl)) rfl ?_
  refine J.op_g rfl rfl rfl (Yd.load pl3 rfl (Cel.cell1 c4_1 0 rfl)) rfl ?_
  refine J.op_g rfl rfl rfl (Yd.eql rfl rfl) rfl ?_
  refine J.op (Yd.pick_t rfl rfl) rfl ?_
  refine J.op (Yd.move rfl) rfl ?_
  refine J.know (t := 48) (v' := .bool true) rfl (tt (by rfl)) ?_
  refine J.op_g rfl rfl rfl (Yd.load pl3 rfl (Cel.cell1 c7_3 0 rfl)) rfl ?_
  refine J.op_g rfl rfl rfl (Yd.load pl3 rfl (Cel.cell1 c3_0 0 rfl)) rfl ?_
  refine J.op_g rfl rfl rfl (Yd.add rfl rfl (by first | omega | exact idx_u8' _ | (simp only [Int.toNat_natCast]; omega) | (simp only [List.length_map, List.length_drop, List.length_take, List.length_append, List.length_replicate]; omega) | (simp <;> omega))) rfl ?_
  refine J.op_g rfl rfl rfl (Yd.eql rfl rfl) rfl ?_
  refine J.op (Yd.pick_t rfl rfl) rfl ?_
  refine J.op (Yd.move rfl) rfl ?_
  refine J.know (t := 54) (v' := .bool true) rfl (tt (by omega)) ?_
  refine J.eff_g rfl rfl rfl (Ye.call cl7 rfl (Awake_ok)) rfl ?_
  rintro _ w10 ⟨rfl, x1⟩
  have e0 := e0.trans x1
  have c3_0 := c3_0.ext x1
  have c4_1 := c4_1.ext x1
  have c5_2 := c5_2.ext x1
  have c7_3 := c7_3.ext x1
  have c8_5 := c8_5.ext x1
  have c9_7 := c9_7.ext x1
  clear x1
  refine J.op (Yd.pick_t rfl rfl) rfl ?_
  refine J.op (Yd.assign rfl) rfl ?_
  refine J.nil ?_
  refine J.n_then ?_
  refine J.ret ?_
  exact J.ret1 rfl rfl (⟨_, rfl, rfl, e0⟩)

theorem RecoversOut {k q : Int} {o : Bool} {w : World} (hb : ¬ (0 ≤ k ∧ k ≤ 50 ∧ 1 ≤ q ∧ q ≤ 13)) : C Try.prog 3 [I k, I q, .bool o] w (Ret fun v w' => v = .bool true ∧ Ext w w') := by
  have e0 := Ext.refl w
  refine C.enter Try.func3 rfl Try.ntmps3 rfl ?_
  refine J.seq ?_
  refine J.region ?_
  refine J.eff (Ye.box (S := [(0, 1, [I k])]) rfl (by simp [SegAll, SegOK, Value.cells])) rfl ?_
  rintro _ w1 ⟨b3_0, rfl, hb_, c3_0, x1⟩
  have fr_b3_0 : Fr w.heap.size (some b3_0) := Fr.le (Fr.blk hb_) e0.size
  have e0 := e0.trans x1
  clear x1 hb_
  refine J.eff (Ye.box (S := [(0, 1, [I q])]) rfl (by simp [SegAll, SegOK, Value.cells])) rfl ?_
  rintro _ w2 ⟨b4_1, rfl, hb_, c4_1, x1⟩
  have ap_b3_0_b4_1 : Ap (some b3_0) (some b4_1) := Ap.mk (Cel.live c3_0) (Fr.blk hb_)
  have fr_b4_1 : Fr w.heap.size (some b4_1) := Fr.le (Fr.blk hb_) e0.size
  have e0 := e0.trans x1
  have c3_0 := c3_0.ext x1
  clear x1 hb_
  refine J.eff (Ye.box (S := [(0, 1, [.bool o])]) rfl (by simp [SegAll, SegOK, Value.cells])) rfl ?_
  rintro _ w3 ⟨b5_2, rfl, hb_, c5_2, x1⟩
  have ap_b3_0_b5_2 : Ap (some b3_0) (some b5_2) := Ap.mk (Cel.live c3_0) (Fr.blk hb_)
  have ap_b4_1_b5_2 : Ap (some b4_1) (some b5_2) := Ap.mk (Cel.live c4_1) (Fr.blk hb_)
  have fr_b5_2 : Fr w.heap.size (some b5_2) := Fr.le (Fr.blk hb_) e0.size
  have e0 := e0.trans x1
  have c3_0 := c3_0.ext x1
  have c4_1 := c4_1.ext x1
  clear x1 hb_
  refine J.op (Yd.assign rfl) rfl ?_
  refine J.nil ?_
  refine J.n_then ?_
  refine J.seq ?_
  refine J.seq ?_
  refine J.region ?_
  refine J.op (Yd.load pl3 rfl (Cel.cell1 c3_0 0 rfl)) rfl ?_
  refine J.op (Yd.lss rfl rfl) rfl ?_
  refine J.op (Yd.move rfl) rfl ?_
  refine J.split_dec (t := 13) rfl (fun hg1 => ?_) (fun hg1 => ?_)
  · skip
    refine J.not_g rfl rfl rfl rfl rfl ?_
    refine J.not_g rfl rfl rfl rfl rfl ?_
    refine J.op (Yd.pick_t rfl rfl) rfl ?_
    refine J.op (Yd.move rfl) rfl ?_
    refine J.not_g rfl rfl rfl rfl rfl ?_
    refine J.not_g rfl rfl rfl rfl rfl ?_
    refine J.op (Yd.pick_t rfl rfl) rfl ?_
    refine J.op (Yd.move rfl) rfl ?_
    refine J.not_g rfl rfl rfl rfl rfl ?_
    refine J.not_g rfl rfl rfl rfl rfl ?_
    refine J.op (Yd.pick_t rfl rfl) rfl ?_
    refine J.nil ?_
    refine J.n_then ?_
    refine J.cond_true rfl ?_
    refine J.seq ?_
    refine J.region ?_
    refine J.eff (Ye.call cl7 rfl (Awake_ok)) rfl ?_
    rintro _ w4 ⟨rfl, x1⟩
    have e0 := e0.trans x1
    have c3_0 := c3_0.ext x1
    have c4_1 := c4_1.ext x1
    have c5_2 := c5_2.ext x1
    clear x1
    refine J.op (Yd.assign rfl) rfl ?_
    refine J.nil ?_
    refine J.n_then ?_
    refine J.ret ?_
    refine J.r_then ?_
    exact J.ret1 rfl rfl (⟨_, rfl, rfl, e0⟩)
  · skip
    refine J.op_g rfl rfl rfl (Yd.load pl3 rfl (Cel.cell1 c3_0 0 rfl)) rfl ?_
    refine J.op_g rfl rfl rfl (Yd.gtr rfl rfl) rfl ?_
    refine J.op (Yd.pick_f rfl rfl) rfl ?_
    refine J.op (Yd.move rfl) rfl ?_
    refine J.split_dec (t := 17) rfl (fun hg2 => ?_) (fun hg2 => ?_)
    · skip
      refine J.not_g rfl rfl rfl rfl rfl ?_
      refine J.not_g rfl rfl rfl rfl rfl ?_
      refine J.op (Yd.pick_t rfl rfl) rfl ?_
      refine J.op (Yd.move rfl) rfl ?_
      refine J.not_g rfl rfl rfl rfl rfl ?_
      refine J.not_g rfl rfl rfl rfl rfl ?_
      refine J.op (Yd.pick_t rfl rfl) rfl ?_
      refine J.nil ?_
      refine J.n_then ?_
      refine J.cond_true rfl ?_
      refine J.seq ?_
      refine J.region ?_
      refine J.eff (Ye.call cl7 rfl (Awake_ok)) rfl ?_
      rintro _ w5 ⟨rfl, x1⟩
      have e0 := e0.trans x1
      have c3_0 := c3_0.ext x1
      have c4_1 := c4_1.ext x1
      have c5_2 := c5_2.ext x1
      clear x1
      refine J.op (Yd.assign rfl) rfl ?_
      refine J.nil ?_
      refine J.n_then ?_
      refine J.ret ?_
      refine J.r_then ?_
      exact J.ret1 rfl rfl (⟨_, rfl, rfl, e0⟩)
    · skip
      refine J.op_g rfl rfl rfl (Yd.load pl3 rfl (Cel.cell1 c4_1 0 rfl)) rfl ?_
      refine J.op_g rfl rfl rfl (Yd.lss rfl rfl) rfl ?_
      refine J.op (Yd.pick_f rfl rfl) rfl ?_
      refine J.op (Yd.move rfl) rfl ?_
      refine J.split_dec (t := 21) rfl (fun hg3 => ?_) (fun hg3 => ?_)
      · skip
        refine J.not_g rfl rfl rfl rfl rfl ?_
        refine J.not_g rfl rfl rfl rfl rfl ?_
        refine J.op (Yd.pick_t rfl rfl) rfl ?_
        refine J.nil ?_
        refine J.n_then ?_
        refine J.cond_true rfl ?_
        refine J.seq ?_
        refine J.region ?_
        refine J.eff (Ye.call cl7 rfl (Awake_ok)) rfl ?_
        rintro _ w6 ⟨rfl, x1⟩
        have e0 := e0.trans x1
        have c3_0 := c3_0.ext x1
        have c4_1 := c4_1.ext x1
        have c5_2 := c5_2.ext x1
        clear x1
        refine J.op (Yd.assign rfl) rfl ?_
        refine J.nil ?_
        refine J.n_then ?_
        refine J.ret ?_
        refine J.r_then ?_
        exact J.ret1 rfl rfl (⟨_, rfl, rfl, e0⟩)
      · skip
        refine J.op_g rfl rfl rfl (Yd.load pl3 rfl (Cel.cell1 c4_1 0 rfl)) rfl ?_
        refine J.op_g rfl rfl rfl (Yd.gtr rfl rfl) rfl ?_
        refine J.op (Yd.pick_f rfl rfl) rfl ?_
        refine J.nil ?_
        refine J.n_then ?_
        refine J.know (t := 24) (v' := .bool true) rfl (tt (by omega)) ?_
        refine J.cond_true rfl ?_
        refine J.seq ?_
        refine J.region ?_
        refine J.eff (Ye.call cl7 rfl (Awake_ok)) rfl ?_
        rintro _ w7 ⟨rfl, x1⟩
        have e0 := e0.trans x1
        have c3_0 := c3_0.ext x1
        have c4_1 := c4_1.ext x1
        have c5_2 := c5_2.ext x1
        clear x1
        refine J.op (Yd.assign rfl) rfl ?_
        refine J.nil ?_
        refine J.n_then ?_
        refine J.ret ?_
        refine J.r_then ?_
        exact J.ret1 rfl rfl (⟨_, rfl, rfl, e0⟩)

theorem Recovers_ok {k q : Int} {o : Bool} {w : World} : C Try.prog 3 [I k, I q, .bool o] w (Ret fun v w' => v = .bool true ∧ Ext w w') := by
  by_cases hb : 0 ≤ k ∧ k ≤ 50 ∧ 1 ≤ q ∧ q ≤ 13
  · obtain ⟨a, rfl⟩ := Int.eq_ofNat_of_zero_le hb.1
    cases o
    · exact RecoversF (by omega) (by omega)
    · exact RecoversT (by omega) (by omega)
  · exact RecoversOut hb
end Ytphebleabcoakaa
end Go.Proofs
