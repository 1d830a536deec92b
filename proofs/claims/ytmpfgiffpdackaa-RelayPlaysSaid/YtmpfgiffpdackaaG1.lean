import Derived.Test.YtmpfgiffpdackaaT
import Derived.Test.YtmpfgiffpdackaaQr
import Derived.Test.YtmpfgiffpdackaaF5
set_option linter.unusedVariables false
set_option linter.unusedSimpArgs false
set_option maxRecDepth 100000
set_option maxHeartbeats 4000000
namespace Go.Proofs
open Go.X Go.RowKit
namespace Ytmpfgiffpdackaa
theorem Name_ok {s : Key} {w : World} (hs : s.length ≤ 1000000) : C Try.prog 26 [Str s] w (Ret fun v w' => v = .bool (nameB s) ∧ Ext w w') := by
  have e0 := Ext.refl w
  refine C.enter Try.func26 rfl Try.ntmps26 rfl ?_
  refine J.seq ?_
  refine J.region ?_
  refine J.op (Yd.assign rfl) rfl ?_
  refine J.nil ?_
  refine J.n_then ?_
  refine J.seq ?_
  refine J.seq ?_
  refine J.region ?_
  refine J.op (Yd.move rfl) rfl ?_
  refine J.op (Yd.slen Try.underlying9 rfl) rfl ?_
  refine J.op (Yd.move rfl) rfl ?_
  refine J.nil ?_
  refine J.n_then ?_
  refine J.block ?_
  refine J.loop (ι := Nat) (fun i => [(0, Str s), (6, I (s.length : Int)), (7, I (i : Int))]) (fun i w' => i ≤ s.length ∧ (∀ j, j < i → okB (s.getD j 0) = true) ∧ Ext w w') (fun i => s.length - i) (0) ⟨rfl, rfl, rfl, trivial⟩ (⟨Nat.zero_le _, fun j hj => absurd hj (Nat.not_lt_zero _), e0⟩) ?_
  rintro i w1 ⟨hk, hall, e0⟩
  refine J.seq ?_
  refine J.region ?_
  refine J.op (Yd.lss rfl rfl) rfl ?_
  refine J.nil ?_
  refine J.n_then ?_
  refine J.seq ?_
  refine J.cond_dec rfl (fun hc0 => ?_) (fun hc0 => ?_)
  · skip
    refine J.skip ?_
    refine J.n_then ?_
    refine J.seq ?_
    refine J.block ?_
    refine J.seq ?_
    refine J.region ?_
    refine J.op (Yd.move rfl) rfl ?_
    refine J.op (Yd.assign rfl) rfl ?_
    refine J.nil ?_
    refine J.n_then ?_
    refine J.seq ?_
    refine J.region ?_
    refine J.op (Yd.move rfl) rfl ?_
    refine J.op (Yd.move rfl) rfl ?_
    refine J.op (Yd.sidx Try.underlying9 rfl rfl (by first | omega | exact idx_u8' _ | (simp only [Int.toNat_natCast]; omega) | (simp only [List.length_map, List.length_drop, List.length_take, List.length_append, List.length_replicate]; omega) | (simp <;> omega))) rfl ?_
    refine J.op (Yd.assign rfl) rfl ?_
    refine J.nil ?_
    refine J.n_then ?_
    refine J.seq ?_
    refine J.region ?_
    refine J.op (Yd.move rfl) rfl ?_
    refine J.op (Yd.geq rfl rfl) rfl ?_
    refine J.op (Yd.move rfl) rfl ?_
    refine J.split_dec (t := 15) rfl (fun h1 => ?_) (fun h1 => ?_)
    · skip
      refine J.op_g rfl rfl rfl (Yd.move rfl) rfl ?_
      refine J.op_g rfl rfl rfl (Yd.leq rfl rfl) rfl ?_
      refine J.op (Yd.pick_t rfl rfl) rfl ?_
      refine J.op (Yd.move rfl) rfl ?_
      refine J.split_dec (t := 19) rfl (fun h2 => ?_) (fun h2 => ?_)
      · skip
        refine J.not_g rfl rfl rfl rfl rfl ?_
        refine J.not_g rfl rfl rfl rfl rfl ?_
        refine J.not_g rfl rfl rfl rfl rfl ?_
        refine J.not_u rfl rfl rfl rfl ?_
        refine J.not_u rfl rfl rfl rfl ?_
        refine J.not_g rfl rfl rfl rfl rfl ?_
        refine J.op (Yd.pick_t rfl rfl) rfl ?_
        refine J.op (Yd.not rfl) rfl ?_
        refine J.nil ?_
        refine J.n_then ?_
        refine J.cond_false rfl ?_
        refine J.skip ?_
        refine J.n_block ?_
        refine J.n_then ?_
        refine J.region ?_
        refine J.op (Yd.add rfl rfl (by first | omega | exact idx_u8' _ | (simp only [Int.toNat_natCast]; omega) | (simp only [List.length_map, List.length_drop, List.length_take, List.length_append, List.length_replicate]; omega) | (simp <;> omega))) rfl ?_
        refine J.op (Yd.move rfl) rfl ?_
        refine J.nil ?_
        refine J.n_then ?_
        exact J.round (i + 1) ⟨rfl, rfl, rfl, trivial⟩ (⟨by omega, fun j hj => by rcases (show j < i ∨ j = i by omega) with h | rfl; exact hall j h; exact okB_yes (by simp only [Int.toNat_natCast] at *; omega), e0⟩) (by omega)
      · skip
        refine J.op_g rfl rfl rfl (Yd.move rfl) rfl ?_
        refine J.op_g rfl rfl rfl (Yd.geq rfl rfl) rfl ?_
        refine J.op_g rfl rfl rfl (Yd.move rfl) rfl ?_
        refine J.split_dec (t := 22) rfl (fun h3 => ?_) (fun h3 => ?_)
        · skip
          refine J.op_g rfl rfl rfl (Yd.move rfl) rfl ?_
          refine J.op_g rfl rfl rfl (Yd.leq rfl rfl) rfl ?_
          refine J.op_g rfl rfl rfl (Yd.pick_t rfl rfl) rfl ?_
          refine J.op (Yd.pick_f rfl rfl) rfl ?_
          refine J.op (Yd.not_dec rfl) rfl ?_
          refine J.nil ?_
          refine J.n_then ?_
          refine J.cond_dec rfl (fun hc1 => ?_) (fun hc1 => ?_)
          · skip
            refine J.seq ?_
            refine J.region ?_
            refine J.op (Yd.assign rfl) rfl ?_
            refine J.nil ?_
            refine J.n_then ?_
            refine J.ret ?_
            refine J.r_block ?_
            refine J.r_then ?_
            refine J.r_then ?_
            refine J.r_block ?_
            refine J.r_then ?_
            exact J.ret1 rfl rfl (⟨_, rfl, congrArg Value.bool (by first | exact name_yes (fun j hj => hall j (by omega)) h5 | exact name_nil h5 | exact name_no (k := i) (by omega) (okB_no (by simp only [Int.toNat_natCast] at *; omega))), e0⟩)
          · skip
            refine J.skip ?_
            refine J.n_block ?_
            refine J.n_then ?_
            refine J.region ?_
            refine J.op (Yd.add rfl rfl (by first | omega | exact idx_u8' _ | (simp only [Int.toNat_natCast]; omega) | (simp only [List.length_map, List.length_drop, List.length_take, List.length_append, List.length_replicate]; omega) | (simp <;> omega))) rfl ?_
            refine J.op (Yd.move rfl) rfl ?_
            refine J.nil ?_
            refine J.n_then ?_
            exact J.round (i + 1) ⟨rfl, rfl, rfl, trivial⟩ (⟨by omega, fun j hj => by rcases (show j < i ∨ j = i by omega) with h | rfl; exact hall j h; exact okB_yes (by simp only [Int.toNat_natCast] at *; omega), e0⟩) (by omega)
        · skip
          refine J.not_g rfl rfl rfl rfl rfl ?_
          refine J.not_g rfl rfl rfl rfl rfl ?_
          refine J.op_g rfl rfl rfl (Yd.pick_f rfl rfl) rfl ?_
          refine J.op (Yd.pick_f rfl rfl) rfl ?_
          refine J.op (Yd.not rfl) rfl ?_
          refine J.nil ?_
          refine J.n_then ?_
          refine J.cond_true rfl ?_
          refine J.seq ?_
          refine J.region ?_
          refine J.op (Yd.assign rfl) rfl ?_
          refine J.nil ?_
          refine J.n_then ?_
          refine J.ret ?_
          refine J.r_block ?_
          refine J.r_then ?_
          refine J.r_then ?_
          refine J.r_block ?_
          refine J.r_then ?_
          exact J.ret1 rfl rfl (⟨_, rfl, congrArg Value.bool (by first | exact name_yes (fun j hj => hall j (by omega)) h5 | exact name_nil h5 | exact name_no (k := i) (by omega) (okB_no (by simp only [Int.toNat_natCast] at *; omega))), e0⟩)
    · skip
      refine J.not_g rfl rfl rfl rfl rfl ?_
      refine J.not_g rfl rfl rfl rfl rfl ?_
      refine J.op (Yd.pick_f rfl rfl) rfl ?_
      refine J.op (Yd.move rfl) rfl ?_
      refine J.op_g rfl rfl rfl (Yd.move rfl) rfl ?_
      refine J.op_g rfl rfl rfl (Yd.geq rfl rfl) rfl ?_
      refine J.op_g rfl rfl rfl (Yd.move rfl) rfl ?_
      refine J.split_dec (t := 22) rfl (fun h3 => ?_) (fun h3 => ?_)
      · skip
        refine J.op_g rfl rfl rfl (Yd.move rfl) rfl ?_
        refine J.op_g rfl rfl rfl (Yd.leq rfl rfl) rfl ?_
        refine J.op_g rfl rfl rfl (Yd.pick_t rfl rfl) rfl ?_
        refine J.op (Yd.pick_f rfl rfl) rfl ?_
        refine J.op (Yd.not_dec rfl) rfl ?_
        refine J.nil ?_
        refine J.n_then ?_
        refine J.cond_dec rfl (fun hc1 => ?_) (fun hc1 => ?_)
        · skip
          refine J.seq ?_
          refine J.region ?_
          refine J.op (Yd.assign rfl) rfl ?_
          refine J.nil ?_
          refine J.n_then ?_
          refine J.ret ?_
          refine J.r_block ?_
          refine J.r_then ?_
          refine J.r_then ?_
          refine J.r_block ?_
          refine J.r_then ?_
          exact J.ret1 rfl rfl (⟨_, rfl, congrArg Value.bool (by first | exact name_yes (fun j hj => hall j (by omega)) h5 | exact name_nil h5 | exact name_no (k := i) (by omega) (okB_no (by simp only [Int.toNat_natCast] at *; omega))), e0⟩)
        · skip
          refine J.skip ?_
          refine J.n_block ?_
          refine J.n_then ?_
          refine J.region ?_
          refine J.op (Yd.add rfl rfl (by first | omega | exact idx_u8' _ | (simp only [Int.toNat_natCast]; omega) | (simp only [List.length_map, List.length_drop, List.length_take, List.length_append, List.length_replicate]; omega) | (simp <;> omega))) rfl ?_
          refine J.op (Yd.move rfl) rfl ?_
          refine J.nil ?_
          refine J.n_then ?_
          exact J.round (i + 1) ⟨rfl, rfl, rfl, trivial⟩ (⟨by omega, fun j hj => by rcases (show j < i ∨ j = i by omega) with h | rfl; exact hall j h; exact okB_yes (by simp only [Int.toNat_natCast] at *; omega), e0⟩) (by omega)
      · skip
        refine J.not_g rfl rfl rfl rfl rfl ?_
        refine J.not_g rfl rfl rfl rfl rfl ?_
        refine J.op_g rfl rfl rfl (Yd.pick_f rfl rfl) rfl ?_
        refine J.op (Yd.pick_f rfl rfl) rfl ?_
        refine J.op (Yd.not rfl) rfl ?_
        refine J.nil ?_
        refine J.n_then ?_
        refine J.cond_true rfl ?_
        refine J.seq ?_
        refine J.region ?_
        refine J.op (Yd.assign rfl) rfl ?_
        refine J.nil ?_
        refine J.n_then ?_
        refine J.ret ?_
        refine J.r_block ?_
        refine J.r_then ?_
        refine J.r_then ?_
        refine J.r_block ?_
        refine J.r_then ?_
        exact J.ret1 rfl rfl (⟨_, rfl, congrArg Value.bool (by first | exact name_yes (fun j hj => hall j (by omega)) h5 | exact name_nil h5 | exact name_no (k := i) (by omega) (okB_no (by simp only [Int.toNat_natCast] at *; omega))), e0⟩)
  · skip
    refine J.exit ?_
    refine J.x_then ?_
    refine J.x_then ?_
    refine J.x_block ?_
    refine J.n_then ?_
    refine J.seq ?_
    refine J.region ?_
    refine J.op (Yd.move rfl) rfl ?_
    refine J.op (Yd.sne rfl rfl) rfl ?_
    refine J.op (Yd.move rfl) rfl ?_
    refine J.split_dec (t := 31) rfl (fun h5 => ?_) (fun h5 => ?_)
    · skip
      refine J.op_g rfl rfl rfl (Yd.move rfl) rfl ?_
      refine J.op_g rfl rfl rfl (Yd.slen Try.underlying9 rfl) rfl ?_
      refine J.op_g rfl rfl rfl (Yd.leq rfl rfl) rfl ?_
      refine J.op (Yd.pick_t rfl rfl) rfl ?_
      refine J.op (Yd.assign rfl) rfl ?_
      refine J.nil ?_
      refine J.n_then ?_
      refine J.ret ?_
      exact J.ret1 rfl rfl (⟨_, rfl, congrArg Value.bool (by first | exact name_yes (fun j hj => hall j (by omega)) h5 | exact name_nil h5 | exact name_no (k := i) (by omega) (okB_no (by simp only [Int.toNat_natCast] at *; omega))), e0⟩)
    · skip
      refine J.not_g rfl rfl rfl rfl rfl ?_
      refine J.not_g rfl rfl rfl rfl rfl ?_
      refine J.not_g rfl rfl rfl rfl rfl ?_
      refine J.op (Yd.pick_f rfl rfl) rfl ?_
      refine J.op (Yd.assign rfl) rfl ?_
      refine J.nil ?_
      refine J.n_then ?_
      refine J.ret ?_
      exact J.ret1 rfl rfl (⟨_, rfl, congrArg Value.bool (by first | exact name_yes (fun j hj => hall j (by omega)) h5 | exact name_nil h5 | exact name_no (k := i) (by omega) (okB_no (by simp only [Int.toNat_natCast] at *; omega))), e0⟩)

theorem Clone_ok {a : Value} {l : List UInt8} {w : World} (ha : Bs w a l) (hl : l.length ≤ 70368744177664) : C Try.prog 27 [a] w (Ret fun v w' => Ob w.heap.size 5 w' v l ∧ Ext w w') := by
  have e0 := Ext.refl w
  refine C.enter Try.func27 rfl Try.ntmps27 rfl ?_
  refine J.seq ?_
  refine J.region ?_
  refine J.op (Yd.assign rfl) rfl ?_
  refine J.nil ?_
  refine J.n_then ?_
  refine J.seq ?_
  refine J.seq ?_
  refine J.region ?_
  refine J.op (Yd.move rfl) rfl ?_
  refine J.op (Yd.eqNil Try.underlying34 rfl rfl ha) rfl ?_
  refine J.nil ?_
  refine J.n_then ?_
  refine J.cond rfl (fun hc0 => ?_) (fun hc0 => ?_)
  · skip
    refine J.seq ?_
    refine J.region ?_
    refine J.op (Yd.assign rfl) rfl ?_
    refine J.nil ?_
    refine J.n_then ?_
    refine J.ret ?_
    refine J.r_then ?_
    exact J.ret1 rfl rfl (⟨_, rfl, by have h9 := isNilS_nil ha hc0; simp at h9; subst h9; exact Ow.nil _ _ _, e0⟩)
  · skip
    refine J.skip ?_
    refine J.n_then ?_
    refine J.seq ?_
    refine J.region ?_
    refine J.eff (Ye.lit0 (base := w.heap.size) (f := (fun x : UInt8 => B x)) Try.underlying34 ti5 rfl (Nat.le_refl _)) rfl ?_
    rintro s5_1 w1 ⟨o5_1, x1⟩
    have fr_s5_1 : Fr w.heap.size s5_1.ownBlock := Fr.le (Ow.fr o5_1) e0.size
    replace o5_1 := Ow.base o5_1 e0.size
    have e0 := e0.trans x1
    clear x1
    refine J.op (Yd.move rfl) rfl ?_
    refine J.eff (Ye.appendS Try.underlying34 ti5 rfl rfl rfl rfl o5_1 (Rd.ext ha e0) (fun _ => rfl) (by first | omega | exact idx_u8' _ | (simp only [Int.toNat_natCast]; omega) | (simp only [List.length_map, List.length_drop, List.length_take, List.length_append, List.length_replicate]; omega) | (simp <;> omega)) e0.size) rfl ?_
    rintro s7_2 w2 ⟨o7_2, hg, hsf⟩
    have fr_s7_2 : Fr w.heap.size s7_2.ownBlock := Fr.sf fr_s5_1 hsf e0.size
    have e0 := Ext.gbk e0 fr_s5_1 hg
    clear hg hsf
    rw [List.nil_append] at o7_2
    refine J.op (Yd.assign rfl) rfl ?_
    refine J.nil ?_
    refine J.n_then ?_
    refine J.ret ?_
    exact J.ret1 rfl rfl (⟨_, rfl, o7_2, e0⟩)

theorem Own_ok {x : Itm} {l : List UInt8} {w : World} (ha : Bs w x.2.2.2 l) (hl : l.length ≤ 1000000) : C Try.prog 30 [.agg (itmS.c x).toArray] w (Ret fun u w' => ∃ d, u = .agg (itmS.c (x.1, x.2.1, x.2.2.1, d)).toArray ∧ Ob w.heap.size 5 w' d l ∧ Ext w w') := by
  have e0 := Ext.refl w
  refine C.enter Try.func30 rfl Try.ntmps30 rfl ?_
  refine J.seq ?_
  refine J.region ?_
  refine J.eff (Ye.box (S := [(0, 1, [I x.1]), (1, 1, [Str x.2.1]), (2, 1, [I x.2.2.1]), (3, 1, [x.2.2.2])]) rfl (by simp [SegAll, SegOK, Value.cells, itmS])) rfl ?_
  rintro _ w1 ⟨b1_0, rfl, hb_, c1_0, x1⟩
  have fr_b1_0 : Fr w.heap.size (some b1_0) := Fr.le (Fr.blk hb_) e0.size
  have e0 := e0.trans x1
  clear x1 hb_
  refine J.eff (Ye.alloc ti36 (S := [(0, 4, [I 0, Str [], I 0, nilS])]) (by simp [SegAll, SegOK, Value.cells, nilS])) rfl ?_
  rintro _ w2 ⟨b2_1, rfl, hb_, c2_1, x1⟩
  have ap_b1_0_b2_1 : Ap (some b1_0) (some b2_1) := Ap.mk (Cel.live c1_0) (Fr.blk hb_)
  have fr_b2_1 : Fr w.heap.size (some b2_1) := Fr.le (Fr.blk hb_) e0.size
  have e0 := e0.trans x1
  have c1_0 := c1_0.ext x1
  clear x1 hb_
  refine J.nil ?_
  refine J.n_then ?_
  refine J.seq ?_
  refine J.region ?_
  refine J.op (Yd.cast (Yd.fieldA Try.underlying36 rfl ti34 rfl rfl) (show _ = Value.pointer (some ⟨b1_0, 3, none⟩) from rfl)) rfl ?_
  refine J.op (Yd.load pl34 rfl (Cel.cell1 c1_0 3 rfl)) rfl ?_
  refine J.eff (Ye.call cl27 rfl (Clone_ok (Rd.ext ha e0) (by omega))) rfl ?_
  rintro s5_3 w3 ⟨os5_3, x1⟩
  have ap_b1_0_s5_3 : Ap (some b1_0) s5_3.ownBlock := Ap.mk (Cel.live c1_0) (Ow.fr os5_3)
  have ap_b2_1_s5_3 : Ap (some b2_1) s5_3.ownBlock := Ap.mk (Cel.live c2_1) (Ow.fr os5_3)
  have fr_s5_3 : Fr w.heap.size s5_3.ownBlock := Fr.le (Ow.fr os5_3) e0.size
  replace os5_3 := Ow.base os5_3 e0.size
  have e0 := e0.trans x1
  have c1_0 := c1_0.ext x1
  have c2_1 := c2_1.ext x1
  clear x1
  refine J.op (Yd.cast (Yd.fieldA Try.underlying36 rfl ti34 rfl rfl) (show _ = Value.pointer (some ⟨b1_0, 3, none⟩) from rfl)) rfl ?_
  refine J.eff0 (Ye.store1 ti34 c1_0 3 rfl rfl rfl rfl (Rd.cells (Ow.rd os5_3)) (Rd.one (Ow.rd os5_3))) ?_
  rintro _ w4 ⟨cX, hu⟩
  simp only [List.set_cons_zero, List.set_cons_succ] at cX
  have hg := hu.gb
  have c2_1 := Cel.gbk c2_1 hg (Ap.symm ap_b1_0_b2_1)
  have os5_3 := Ow.gbk os5_3 hg (Ap.symm ap_b1_0_s5_3)
  have e0 := Ext.gbk e0 fr_b1_0 hg
  clear hg
  replace c1_0 := cX
  clear cX hu
  refine J.nil ?_
  refine J.n_then ?_
  refine J.seq ?_
  refine J.region ?_
  refine J.op (Yd.cast (Yd.loadA ag36 ti36 rfl (Cel.j4 c1_0) 0 rfl) (show _ = .agg (itmS.c (x.1, x.2.1, x.2.2.1, s5_3)).toArray from rfl)) rfl ?_
  refine J.eff0 (Ye.storeA (ys := itmS.c (x.1, x.2.1, x.2.2.1, s5_3)) ti36 c2_1 0 rfl rfl rfl rfl (by rfl) (itm_one1 (x := (x.1, x.2.1, x.2.2.1, s5_3)) (Rd.one (Ow.rd os5_3)) _ (List.mem_singleton.2 rfl))) ?_
  rintro _ w5 ⟨cX, hu⟩
  simp only [List.set_cons_zero, List.set_cons_succ] at cX
  have hg := hu.gb
  have c1_0 := Cel.gbk c1_0 hg ap_b1_0_b2_1
  have os5_3 := Ow.gbk os5_3 hg (Ap.symm ap_b2_1_s5_3)
  have e0 := Ext.gbk e0 fr_b2_1 hg
  clear hg
  replace c2_1 := cX
  clear cX hu
  refine J.nil ?_
  refine J.n_then ?_
  refine J.ret ?_
  exact J.ret1c rfl rfl ag36 ti36 c2_1 0 rfl (⟨_, rfl, s5_3, rfl, os5_3, e0⟩)

theorem AtC_ok {b1 : Nat} {id : Int} {x : Itm} {w : World} (h1 : Cel w b1 3 [(0, 1, [I id])]) : C Try.prog 35 [.agg (itmS.c x).toArray, .pointer (some ⟨b1, 0, none⟩)] w (Ret fun v w' => v = .bool (eqI id x) ∧ Ext w w') := by
  have e0 := Ext.refl w
  refine C.enter Try.func35 rfl Try.ntmps35 rfl ?_
  refine J.seq ?_
  refine J.region ?_
  refine J.eff (Ye.box (S := [(0, 1, [I x.1]), (1, 1, [Str x.2.1]), (2, 1, [I x.2.2.1]), (3, 1, [x.2.2.2])]) rfl (by simp [SegAll, SegOK, Value.cells, itmS])) rfl ?_
  rintro _ w1 ⟨b2_0, rfl, hb_, c2_0, x1⟩
  have fr_b2_0 : Fr w.heap.size (some b2_0) := Fr.le (Fr.blk hb_) e0.size
  have e0 := e0.trans x1
  clear x1 hb_
  refine J.op (Yd.assign rfl) rfl ?_
  refine J.nil ?_
  refine J.n_then ?_
  refine J.seq ?_
  refine J.region ?_
  refine J.op (Yd.cast (Yd.fieldA Try.underlying36 rfl ti3 rfl rfl) (show _ = Value.pointer (some ⟨b2_0, 0, none⟩) from rfl)) rfl ?_
  refine J.op (Yd.load pl3 rfl (Cel.cell1 c2_0 0 rfl)) rfl ?_
  refine J.op (Yd.load pl3 rfl (Cel.cell1 (Cel.ext h1 e0) 0 rfl)) rfl ?_
  refine J.op (Yd.eql rfl rfl) rfl ?_
  refine J.op (Yd.assign rfl) rfl ?_
  refine J.nil ?_
  refine J.n_then ?_
  refine J.ret ?_
  exact J.ret1 rfl rfl (⟨_, rfl, rfl, e0⟩)

theorem IdxAt_ok {b1 : Nat} {id : Int} {s : Value} {es : List Itm} {w : World} (hr : Er itmS w s es) (h1 : Cel w b1 3 [(0, 1, [I id])]) : C Try.prog 34 [s, .func (.func 35) #[] #[.pointer (some ⟨b1, 0, none⟩)]] w (Ret fun v w' => v = I (idxI ((eqI id)) es) ∧ Ext w w') := by
  have hmx := Er.max hr
  have e0 := Ext.refl w
  refine C.enter Try.func34 rfl Try.ntmps34 rfl ?_
  refine J.seq ?_
  refine J.region ?_
  refine J.op (Yd.assign rfl) rfl ?_
  refine J.nil ?_
  refine J.n_then ?_
  refine J.seq ?_
  refine J.seq ?_
  refine J.region ?_
  refine J.op (Yd.move rfl) rfl ?_
  refine J.op (Yd.lenE (K := itmS) Try.underlying31 rfl (Er.ext hr e0)) rfl ?_
  refine J.op (Yd.move rfl) rfl ?_
  refine J.nil ?_
  refine J.n_then ?_
  refine J.block ?_
  refine J.loop (ι := Nat) (fun i => [(0, s), (1, .func (.func 35) #[] #[.pointer (some ⟨b1, 0, none⟩)]), (7, I (es.length : Int)), (8, I (i : Int))]) (fun i w' => i ≤ es.length ∧ (∀ q, q < i → (eqI id) (es.getD q itmD) = false) ∧ Ext w w') (fun i => es.length - i) (0) ⟨rfl, rfl, rfl, rfl, trivial⟩ (⟨Nat.zero_le _, (fun q hq => absurd hq (Nat.not_lt_zero _)), e0⟩) ?_
  rintro k w1 ⟨hk, hno, e0⟩
  refine J.seq ?_
  refine J.region ?_
  refine J.op (Yd.lss rfl rfl) rfl ?_
  refine J.nil ?_
  refine J.n_then ?_
  refine J.seq ?_
  refine J.cond_dec rfl (fun hc0 => ?_) (fun hc0 => ?_)
  · skip
    refine J.skip ?_
    refine J.n_then ?_
    refine J.seq ?_
    refine J.block ?_
    refine J.seq ?_
    refine J.region ?_
    refine J.op (Yd.move rfl) rfl ?_
    refine J.op (Yd.assign rfl) rfl ?_
    refine J.nil ?_
    refine J.n_then ?_
    refine J.seq ?_
    refine J.region ?_
    refine J.op (Yd.move rfl) rfl ?_
    refine J.op (Yd.move rfl) rfl ?_
    refine J.op (Yd.move rfl) rfl ?_
    refine J.op (Yd.idxE (K := itmS) Try.underlying31 ti36 rfl rfl (Er.ext hr e0) (by first | omega | exact idx_u8' _ | (simp only [Int.toNat_natCast]; omega) | (simp only [List.length_map, List.length_drop, List.length_take, List.length_append, List.length_replicate]; omega) | (simp <;> omega))) rfl ?_
    refine J.op (Yd.loadEd (K := itmS) itmD ag36 ti36 rfl (Er.ext hr e0) (by first | omega | exact idx_u8' _ | (simp only [Int.toNat_natCast]; omega) | (simp only [List.length_map, List.length_drop, List.length_take, List.length_append, List.length_replicate]; omega) | (simp <;> omega))) rfl ?_
    refine J.eff (Ye.callv cl35 rfl rfl (AtC_ok (Cel.ext h1 e0))) rfl ?_
    rintro _ w2 ⟨rfl, x1⟩
    have e0 := e0.trans x1
    clear x1
    refine J.nil ?_
    refine J.n_then ?_
    refine J.cond rfl (fun hc1 => ?_) (fun hc1 => ?_)
    · skip
      refine J.seq ?_
      refine J.region ?_
      refine J.op (Yd.move rfl) rfl ?_
      refine J.op (Yd.assign rfl) rfl ?_
      refine J.nil ?_
      refine J.n_then ?_
      refine J.ret ?_
      refine J.r_block ?_
      refine J.r_then ?_
      refine J.r_then ?_
      refine J.r_block ?_
      refine J.r_then ?_
      exact J.ret1 rfl rfl (⟨_, rfl, (by first | exact congrArg (fun z => I z) (idxI_none itmD (fun q hq => hno q (by omega))).symm | exact congrArg (fun z => I z) (idxI_at itmD (k := k) (by omega) (by simpa using hc1) hno).symm), e0⟩)
    · skip
      refine J.skip ?_
      refine J.n_block ?_
      refine J.n_then ?_
      refine J.region ?_
      refine J.op (Yd.add rfl rfl (by first | omega | exact idx_u8' _ | (simp only [Int.toNat_natCast]; omega) | (simp only [List.length_map, List.length_drop, List.length_take, List.length_append, List.length_replicate]; omega) | (simp <;> omega))) rfl ?_
      refine J.op (Yd.move rfl) rfl ?_
      refine J.nil ?_
      refine J.n_then ?_
      exact J.round (k + 1) ⟨rfl, rfl, rfl, rfl, trivial⟩ (⟨by omega, (fun q hq => by rcases (show q < k ∨ q = k by omega) with h | rfl; exact hno q h; simpa using hc1), e0⟩) (by omega)
  · skip
    refine J.exit ?_
    refine J.x_then ?_
    refine J.x_then ?_
    refine J.x_block ?_
    refine J.n_then ?_
    refine J.seq ?_
    refine J.region ?_
    refine J.op (Yd.assign rfl) rfl ?_
    refine J.nil ?_
    refine J.n_then ?_
    refine J.ret ?_
    exact J.ret1 rfl rfl (⟨_, rfl, (by first | exact congrArg (fun z => I z) (idxI_none itmD (fun q hq => hno q (by omega))).symm | exact congrArg (fun z => I z) (idxI_at itmD (k := k) (by omega) (by simpa using hc1) hno).symm), e0⟩)
end Ytmpfgiffpdackaa
end Go.Proofs
