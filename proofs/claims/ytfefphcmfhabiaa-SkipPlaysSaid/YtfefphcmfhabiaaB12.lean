import Derived.Test.YtfefphcmfhabiaaT
import Derived.Test.YtfefphcmfhabiaaR2
import Derived.Test.YtfefphcmfhabiaaJ11
import Derived.Test.YtfefphcmfhabiaaB9
set_option linter.unusedVariables false
set_option linter.unusedSimpArgs false
set_option maxRecDepth 100000
set_option maxHeartbeats 4000000
namespace Go.Proofs
open Go.X Go.RowKit
namespace Ytfefphcmfhabiaa
theorem Does_ok {xs : List (Option Nat)} {w0 w : World} {b b2 : Nat} {n : Int} {L : List Key} {x : Int × Int × Int × Value} {lk : List UInt8} (h : Two 56 60 46 xs w0 w b n L b2 L) (hkx : ∀ W, Ext w0 W → Bs W x.2.2.2 lk) (hn : 1 ≤ n ∧ n ≤ 1000) (hL : (L.length : Int) ≤ n) : C Try.prog 21 [.pointer (some ⟨b, 0, none⟩), .pointer (some ⟨b2, 0, none⟩), .agg (pcS'.c x).toArray] w (Ret fun u w' => u = .bool true ∧ Two 56 60 46 xs w0 w' b n (stL n L x lk) b2 (stL n L x lk) ∧ Tx w0.heap.size xs w w') := by
  have hq := h
  have e0 := h.e
  refine C.enter Try.func21 rfl Try.ntmps21 rfl ?_
  refine J.seq ?_
  refine J.region ?_
  refine J.eff (Ye.box (S := [(0, 1, [I x.1]), (1, 1, [I x.2.1]), (2, 1, [I x.2.2.1]), (3, 1, [x.2.2.2])]) rfl (by simp [SegAll, SegOK, Value.cells, pcS'])) rfl ?_
  rintro _ w1 ⟨b5, rfl, hb5, c5, x1⟩
  have hq := Two.more hq x1 (Fr.blk hb5) (Cel.live c5)
  have htx : Tx w0.heap.size xs w _ := x1.tx
  have e0 := hq.e
  clear x1
  refine J.op (Yd.assign rfl) rfl ?_
  refine J.nil ?_
  refine J.n_then ?_
  refine J.seq ?_
  refine J.seq ?_
  refine J.region ?_
  refine J.op (Yd.cast (Yd.fieldA Try.underlying52 rfl ti3 rfl rfl) (show _ = Value.pointer (some ⟨b5, 0, none⟩) from rfl)) rfl ?_
  refine J.op (Yd.load pl3 rfl (Cel.cell1 c5 0 rfl)) rfl ?_
  refine J.nil ?_
  refine J.n_then ?_
  refine J.block ?_
  refine J.seq ?_
  refine J.region ?_
  refine J.op (Yd.eql rfl rfl) rfl ?_
  refine J.op (Yd.assign rfl) rfl ?_
  refine J.nil ?_
  refine J.n_then ?_
  refine J.cond_dec rfl (fun k1 => ?_) (fun k1 => ?_)
  · skip
    refine J.seq ?_
    refine J.region ?_
    refine J.op (Yd.move rfl) rfl ?_
    refine J.op (Yd.cast (Yd.fieldA Try.underlying52 rfl ti3 rfl rfl) (show _ = Value.pointer (some ⟨b5, 1, none⟩) from rfl)) rfl ?_
    refine J.op (Yd.load pl3 rfl (Cel.cell1 c5 1 rfl)) rfl ?_
    refine J.op (Yd.cast (Yd.fieldA Try.underlying52 rfl ti3 rfl rfl) (show _ = Value.pointer (some ⟨b5, 2, none⟩) from rfl)) rfl ?_
    refine J.op (Yd.load pl3 rfl (Cel.cell1 c5 2 rfl)) rfl ?_
    refine J.op (Yd.cast (Yd.fieldA Try.underlying52 rfl ti29 rfl rfl) (show _ = Value.pointer (some ⟨b5, 3, none⟩) from rfl)) rfl ?_
    refine J.op (Yd.load pl29 rfl (Cel.cell1 c5 3 rfl)) rfl ?_
    refine J.eff (Ye.call cl10 rfl (TPut1 hq hkx hn (by omega))) rfl ?_
    rintro _ w2 ⟨rfl, hq2, ht⟩
    have c5 := Cel.tx c5 ht (by simp)
    have htx := Tx.trans htx (Tx.less ht)
    replace hq := hq2
    clear hq2 ht
    have e0 := hq.e
    refine J.op (Yd.move rfl) rfl ?_
    refine J.op (Yd.extract rfl rfl) rfl ?_
    refine J.op (Yd.extract rfl rfl) rfl ?_
    refine J.op (Yd.assign rfl) rfl ?_
    refine J.op (Yd.assign rfl) rfl ?_
    refine J.nil ?_
    refine J.n_then ?_
    refine J.seq ?_
    refine J.region ?_
    refine J.op (Yd.move rfl) rfl ?_
    refine J.op (Yd.cast (Yd.fieldA Try.underlying52 rfl ti3 rfl rfl) (show _ = Value.pointer (some ⟨b5, 1, none⟩) from rfl)) rfl ?_
    refine J.op (Yd.load pl3 rfl (Cel.cell1 c5 1 rfl)) rfl ?_
    refine J.op (Yd.cast (Yd.fieldA Try.underlying52 rfl ti3 rfl rfl) (show _ = Value.pointer (some ⟨b5, 2, none⟩) from rfl)) rfl ?_
    refine J.op (Yd.load pl3 rfl (Cel.cell1 c5 2 rfl)) rfl ?_
    refine J.op (Yd.cast (Yd.fieldA Try.underlying52 rfl ti29 rfl rfl) (show _ = Value.pointer (some ⟨b5, 3, none⟩) from rfl)) rfl ?_
    refine J.op (Yd.load pl29 rfl (Cel.cell1 c5 3 rfl)) rfl ?_
    refine J.eff (Ye.call cl40 rfl (TPut2 hq hkx hn (by omega))) rfl ?_
    rintro _ w3 ⟨rfl, hq2, ht⟩
    have c5 := Cel.tx c5 ht (by simp)
    have htx := Tx.trans htx (Tx.less ht)
    replace hq := hq2
    clear hq2 ht
    have e0 := hq.e
    refine J.op (Yd.move rfl) rfl ?_
    refine J.op (Yd.extract rfl rfl) rfl ?_
    refine J.op (Yd.extract rfl rfl) rfl ?_
    refine J.op (Yd.assign rfl) rfl ?_
    refine J.op (Yd.assign rfl) rfl ?_
    refine J.nil ?_
    refine J.n_then ?_
    refine J.seq ?_
    refine J.region ?_
    refine J.op (Yd.move rfl) rfl ?_
    refine J.op (Yd.move rfl) rfl ?_
    refine J.op (Yd.eql rfl rfl) rfl ?_
    refine J.op (Yd.move rfl) rfl ?_
    refine J.know (t := 45) (v' := .bool true) rfl (tt (by rfl)) ?_
    refine J.op_g rfl rfl rfl (Yd.move rfl) rfl ?_
    refine J.op_g rfl rfl rfl (Yd.move rfl) rfl ?_
    refine J.op_g rfl rfl rfl (Yd.eql rfl rfl) rfl ?_
    refine J.op (Yd.pick_t rfl rfl) rfl ?_
    refine J.op (Yd.assign rfl) rfl ?_
    refine J.nil ?_
    refine J.n_then ?_
    refine J.ret ?_
    refine J.r_block ?_
    refine J.r_then ?_
    exact J.ret1 rfl rfl ((by first | exact ⟨_, rfl, congrArg Value.bool (decide_eq_true rfl), (by unfold stL; rw [if_pos k1]; exact Two.less hq), htx⟩ | exact ⟨_, rfl, congrArg Value.bool (decide_eq_true rfl), (by unfold stL; rw [if_neg k1, if_pos k2]; exact Two.less hq), htx⟩ | exact ⟨_, rfl, congrArg Value.bool (decide_eq_true rfl), (by unfold stL; rw [if_neg k1, if_neg k2, if_pos k3]; exact Two.less hq), htx⟩ | exact ⟨_, rfl, rfl, (by unfold stL; rw [if_neg k1, if_neg k2, if_neg k3]; exact Two.less hq), htx⟩))
  · skip
    refine J.seq ?_
    refine J.region ?_
    refine J.op (Yd.eql rfl rfl) rfl ?_
    refine J.op (Yd.assign rfl) rfl ?_
    refine J.nil ?_
    refine J.n_then ?_
    refine J.cond_dec rfl (fun k2 => ?_) (fun k2 => ?_)
    · skip
      refine J.seq ?_
      refine J.region ?_
      refine J.op (Yd.move rfl) rfl ?_
      refine J.op (Yd.cast (Yd.fieldA Try.underlying52 rfl ti3 rfl rfl) (show _ = Value.pointer (some ⟨b5, 1, none⟩) from rfl)) rfl ?_
      refine J.op (Yd.load pl3 rfl (Cel.cell1 c5 1 rfl)) rfl ?_
      refine J.op (Yd.cast (Yd.fieldA Try.underlying52 rfl ti3 rfl rfl) (show _ = Value.pointer (some ⟨b5, 2, none⟩) from rfl)) rfl ?_
      refine J.op (Yd.load pl3 rfl (Cel.cell1 c5 2 rfl)) rfl ?_
      refine J.eff (Ye.call cl16 rfl (THas1 hq rfl)) rfl ?_
      rintro _ w4 ⟨rfl, x1⟩
      have hq := hq.ext x1
      have htx := Tx.trans htx x1.tx
      have e0 := e0.trans x1
      have c5 := c5.ext x1
      clear x1
      refine J.op (Yd.assign rfl) rfl ?_
      refine J.nil ?_
      refine J.n_then ?_
      refine J.seq ?_
      refine J.seq ?_
      refine J.region ?_
      refine J.op (Yd.move rfl) rfl ?_
      refine J.op (Yd.move rfl) rfl ?_
      refine J.op (Yd.cast (Yd.fieldA Try.underlying52 rfl ti3 rfl rfl) (show _ = Value.pointer (some ⟨b5, 1, none⟩) from rfl)) rfl ?_
      refine J.op (Yd.load pl3 rfl (Cel.cell1 c5 1 rfl)) rfl ?_
      refine J.op (Yd.cast (Yd.fieldA Try.underlying52 rfl ti3 rfl rfl) (show _ = Value.pointer (some ⟨b5, 2, none⟩) from rfl)) rfl ?_
      refine J.op (Yd.load pl3 rfl (Cel.cell1 c5 2 rfl)) rfl ?_
      refine J.eff (Ye.call cl41 rfl (THas2 hq)) rfl ?_
      rintro _ w5 ⟨rfl, x1⟩
      have hq := hq.ext x1
      have htx := Tx.trans htx x1.tx
      have e0 := e0.trans x1
      have c5 := c5.ext x1
      clear x1
      refine J.op (Yd.neqb rfl rfl Try.underlying4) rfl ?_
      refine J.nil ?_
      refine J.n_then ?_
      refine J.know (t := 65) (v' := .bool false) rfl (ff (by exact fun h => h rfl)) ?_
      refine J.cond_false rfl ?_
      refine J.skip ?_
      refine J.n_then ?_
      refine J.seq ?_
      refine J.region ?_
      refine J.op (Yd.move rfl) rfl ?_
      refine J.op (Yd.cast (Yd.fieldA Try.underlying52 rfl ti3 rfl rfl) (show _ = Value.pointer (some ⟨b5, 1, none⟩) from rfl)) rfl ?_
      refine J.op (Yd.load pl3 rfl (Cel.cell1 c5 1 rfl)) rfl ?_
      refine J.op (Yd.cast (Yd.fieldA Try.underlying52 rfl ti3 rfl rfl) (show _ = Value.pointer (some ⟨b5, 2, none⟩) from rfl)) rfl ?_
      refine J.op (Yd.load pl3 rfl (Cel.cell1 c5 2 rfl)) rfl ?_
      refine J.eff (Ye.call cl12 rfl (TTake1 hq)) rfl ?_
      rintro _ w6 ⟨v1, rfl, hv1, hq2, ht⟩
      have c5 := Cel.tx c5 ht (by simp)
      have htx := Tx.trans htx (Tx.less ht)
      replace hq := hq2
      clear hq2 ht
      have e0 := hq.e
      refine J.op (Yd.move rfl) rfl ?_
      refine J.op (Yd.extract rfl rfl) rfl ?_
      refine J.op (Yd.extract rfl rfl) rfl ?_
      refine J.op (Yd.assign rfl) rfl ?_
      refine J.op (Yd.assign rfl) rfl ?_
      refine J.nil ?_
      refine J.n_then ?_
      refine J.seq ?_
      refine J.region ?_
      refine J.op (Yd.move rfl) rfl ?_
      refine J.op (Yd.cast (Yd.fieldA Try.underlying52 rfl ti3 rfl rfl) (show _ = Value.pointer (some ⟨b5, 1, none⟩) from rfl)) rfl ?_
      refine J.op (Yd.load pl3 rfl (Cel.cell1 c5 1 rfl)) rfl ?_
      refine J.op (Yd.cast (Yd.fieldA Try.underlying52 rfl ti3 rfl rfl) (show _ = Value.pointer (some ⟨b5, 2, none⟩) from rfl)) rfl ?_
      refine J.op (Yd.load pl3 rfl (Cel.cell1 c5 2 rfl)) rfl ?_
      refine J.eff (Ye.call cl42 rfl (TTake2 hq (by omega))) rfl ?_
      rintro _ w7 ⟨v2, rfl, hb2, hTn, hq2, ht⟩
      have hb1 := hv1 _ hTn
      have c5 := Cel.tx c5 ht (by simp)
      have htx := Tx.trans htx (Tx.less ht)
      replace hq := hq2
      clear hq2 ht
      have e0 := hq.e
      refine J.op (Yd.move rfl) rfl ?_
      refine J.op (Yd.extract rfl rfl) rfl ?_
      refine J.op (Yd.extract rfl rfl) rfl ?_
      refine J.op (Yd.assign rfl) rfl ?_
      refine J.op (Yd.assign rfl) rfl ?_
      refine J.nil ?_
      refine J.n_then ?_
      refine J.seq ?_
      refine J.region ?_
      refine J.op (Yd.move rfl) rfl ?_
      refine J.op (Yd.bstr Try.underlying29 Try.underlying5 Try.underlying9 rfl hb1) rfl ?_
      refine J.op (Yd.move rfl) rfl ?_
      refine J.op (Yd.bstr Try.underlying29 Try.underlying5 Try.underlying9 rfl hb2) rfl ?_
      refine J.op (Yd.seq rfl rfl) rfl ?_
      refine J.op (Yd.move rfl) rfl ?_
      refine J.know (t := 89) (v' := .bool true) rfl (tt (by rfl)) ?_
      refine J.op_g rfl rfl rfl (Yd.move rfl) rfl ?_
      refine J.op_g rfl rfl rfl (Yd.move rfl) rfl ?_
      refine J.op_g rfl rfl rfl (Yd.eql rfl rfl) rfl ?_
      refine J.op (Yd.pick_t rfl rfl) rfl ?_
      refine J.op (Yd.assign rfl) rfl ?_
      refine J.nil ?_
      refine J.n_then ?_
      refine J.ret ?_
      refine J.r_block ?_
      refine J.r_then ?_
      exact J.ret1 rfl rfl ((by first | exact ⟨_, rfl, congrArg Value.bool (decide_eq_true rfl), (by unfold stL; rw [if_pos k1]; exact Two.less hq), htx⟩ | exact ⟨_, rfl, congrArg Value.bool (decide_eq_true rfl), (by unfold stL; rw [if_neg k1, if_pos k2]; exact Two.less hq), htx⟩ | exact ⟨_, rfl, congrArg Value.bool (decide_eq_true rfl), (by unfold stL; rw [if_neg k1, if_neg k2, if_pos k3]; exact Two.less hq), htx⟩ | exact ⟨_, rfl, rfl, (by unfold stL; rw [if_neg k1, if_neg k2, if_neg k3]; exact Two.less hq), htx⟩))
    · skip
      refine J.seq ?_
      refine J.region ?_
      refine J.op (Yd.eql rfl rfl) rfl ?_
      refine J.op (Yd.assign rfl) rfl ?_
      refine J.nil ?_
      refine J.n_then ?_
      refine J.cond_dec rfl (fun k3 => ?_) (fun k3 => ?_)
      · skip
        refine J.seq ?_
        refine J.regionG (Tx w0.heap.size (some b5 :: xs)) [(0, true), (1, true), (4, true), (5, true)] [(2, 1), (6, 1), (3, 0)] [(7, false), (8, true), (9, true)] mix (by kernel_rfl) ?_
        refine J.s_op rfl (fun _ => Yd.move rfl) rfl ?_
        refine J.s_op rfl (fun _ => Yd.cast (Yd.fieldA Try.underlying52 rfl ti3 rfl rfl) (show _ = Value.pointer (some ⟨b5, 1, none⟩) from rfl)) rfl ?_
        refine J.s_op rfl (fun _ => Yd.move rfl) rfl ?_
        refine J.s_op rfl (fun _ => Yd.cast (Yd.fieldA Try.underlying52 rfl ti3 rfl rfl) (show _ = Value.pointer (some ⟨b5, 1, none⟩) from rfl)) rfl ?_
        refine J.s_nil ?_
        refine J.g_op rfl (fun w1 ht => Yd.load pl3 rfl (Cel.cell1 (Cel.tx c5 ht (by simp)) 1 rfl)) rfl ?_
        refine J.g_op rfl (fun w1 ht => Yd.load pl3 rfl (Cel.cell1 (Cel.tx c5 ht (by simp)) 1 rfl)) rfl ?_
        refine J.g_eff rfl (Ye.call cl15 rfl (TForget1 (m2 := 0) hq)) rfl (fun _ _ h => h.2.2) ?_
        rintro _ w8 ⟨rfl, hq2, ht⟩
        have c5 := Cel.tx c5 ht (by simp)
        have htx := Tx.trans htx (Tx.less ht)
        replace hq := hq2
        clear hq2 ht
        have e0 := hq.e
        refine J.g_nil ?_
        refine J.s_eff rfl (Ye.call cl43 rfl (TForget2 (m2 := 0) hq (by omega))) rfl ?_
        rintro _ w9 ⟨rfl, hq2, ht⟩
        have c5 := Cel.tx c5 ht (by simp)
        have htx := Tx.trans htx (Tx.less ht)
        replace hq := hq2
        clear hq2 ht
        have e0 := hq.e
        refine J.s_op rfl (fun _ => Yd.eql rfl rfl) rfl ?_
        refine J.s_op rfl (fun _ => Yd.assign rfl) rfl ?_
        refine J.s_nil ?_
        refine J.n_np ?_
        refine J.n_then ?_
        refine J.ret ?_
        refine J.r_block ?_
        refine J.r_then ?_
        exact J.ret1 rfl rfl ((by first | exact ⟨_, rfl, congrArg Value.bool (decide_eq_true rfl), (by unfold stL; rw [if_pos k1]; exact Two.less hq), htx⟩ | exact ⟨_, rfl, congrArg Value.bool (decide_eq_true rfl), (by unfold stL; rw [if_neg k1, if_pos k2]; exact Two.less hq), htx⟩ | exact ⟨_, rfl, congrArg Value.bool (decide_eq_true rfl), (by unfold stL; rw [if_neg k1, if_neg k2, if_pos k3]; exact Two.less hq), htx⟩ | exact ⟨_, rfl, rfl, (by unfold stL; rw [if_neg k1, if_neg k2, if_neg k3]; exact Two.less hq), htx⟩))
      · skip
        refine J.skip ?_
        refine J.n_block ?_
        refine J.n_then ?_
        refine J.seq ?_
        refine J.region ?_
        refine J.op (Yd.assign rfl) rfl ?_
        refine J.nil ?_
        refine J.n_then ?_
        refine J.ret ?_
        exact J.ret1 rfl rfl ((by first | exact ⟨_, rfl, congrArg Value.bool (decide_eq_true rfl), (by unfold stL; rw [if_pos k1]; exact Two.less hq), htx⟩ | exact ⟨_, rfl, congrArg Value.bool (decide_eq_true rfl), (by unfold stL; rw [if_neg k1, if_pos k2]; exact Two.less hq), htx⟩ | exact ⟨_, rfl, congrArg Value.bool (decide_eq_true rfl), (by unfold stL; rw [if_neg k1, if_neg k2, if_pos k3]; exact Two.less hq), htx⟩ | exact ⟨_, rfl, rfl, (by unfold stL; rw [if_neg k1, if_neg k2, if_neg k3]; exact Two.less hq), htx⟩))

theorem Small_ok {s : Value} {es : List (Int × Int × Int × Value)} {w : World} (hr : Er pcS' w s es) (hq : ∀ u ∈ es, ∃ l : List UInt8, Bs w u.2.2.2 l) : C Try.prog 20 [s] w (Ret fun u w' => ∃ t : Bool, u = .bool t ∧ Ext w w') := by
  have hmx := hr.max
  have e0 := Ext.refl w
  refine C.enter Try.func20 rfl Try.ntmps20 rfl ?_
  refine J.seq ?_
  refine J.region ?_
  refine J.op (Yd.assign rfl) rfl ?_
  refine J.nil ?_
  refine J.n_then ?_
  refine J.seq ?_
  refine J.region ?_
  refine J.op (Yd.assign rfl) rfl ?_
  refine J.nil ?_
  refine J.n_then ?_
  refine J.seq ?_
  refine J.seq ?_
  refine J.region ?_
  refine J.op (Yd.assign rfl) rfl ?_
  refine J.nil ?_
  refine J.n_then ?_
  refine J.block ?_
  refine J.loop (ι := Nat × Int) (fun i => [(0, s), (3, I i.2), (4, I (i.1 : Int))]) (fun i w' => i.1 ≤ es.length ∧ (0 ≤ i.2 ∧ i.2 ≤ 1099511627776) ∧ Ext w w') (fun i => es.length - i.1) ((0, (0 : Int))) ⟨rfl, rfl, rfl, trivial⟩ (⟨Nat.zero_le _, by decide, e0⟩) ?_
  rintro ⟨i, v⟩ w1 ⟨hk, hb, e0⟩
  dsimp only at *
  refine J.seq ?_
  refine J.seq ?_
  refine J.region ?_
  refine J.op (Yd.move rfl) rfl ?_
  refine J.op (Yd.move rfl) rfl ?_
  refine J.op (Yd.lenE (K := pcS') Try.underlying48 rfl (Er.ext hr e0)) rfl ?_
  refine J.op (Yd.lss rfl rfl) rfl ?_
  refine J.op (Yd.move rfl) rfl ?_
  refine J.split_dec (t := 9) rfl (fun hg => ?_) (fun hg => ?_)
  · skip
    refine J.op_g rfl rfl rfl (Yd.move rfl) rfl ?_
    refine J.op_g rfl rfl rfl (Yd.leq rfl rfl) rfl ?_
    refine J.op (Yd.pick_t rfl rfl) rfl ?_
    refine J.nil ?_
    refine J.n_then ?_
    refine J.cond_dec rfl (fun hc0 => ?_) (fun hc0 => ?_)
    · skip
      refine J.skip ?_
      refine J.n_then ?_
      refine J.seq ?_
      refine J.block ?_
      refine J.region ?_
      refine J.op (Yd.move rfl) rfl ?_
      refine J.op (Yd.move rfl) rfl ?_
      refine J.op (Yd.move rfl) rfl ?_
      refine J.op (Yd.idxE (K := pcS') Try.underlying48 ti52 rfl rfl (Er.ext hr e0) (by first | omega | exact idx_u8' _ | (simp only [Int.toNat_natCast]; omega) | (simp only [List.length_map, List.length_drop, List.length_take, List.length_append, List.length_replicate]; omega) | (simp <;> omega))) rfl ?_
      refine J.op (Yd.fieldE (K := pcS') (Er.ext hr e0) (by omega) Try.underlying52 rfl ti29 rfl rfl) rfl ?_
      obtain ⟨lx, hlx⟩ := hq _ (getD_memE ((0, 0, 0, nilS) : Int × Int × Int × Value) (show (i : Int).toNat < es.length by omega))
      have hmx2 := Rd.max (hlx.ext e0)
      rw [List.length_map] at hmx2
      refine J.op (Yd.cast (Yd.loadFd (K := pcS') ((0, 0, 0, nilS) : Int × Int × Int × Value) pl29 rfl (Er.ext hr e0) (by first | omega | exact idx_u8' _ | (simp only [Int.toNat_natCast]; omega) | (simp only [List.length_map, List.length_drop, List.length_take, List.length_append, List.length_replicate]; omega) | (simp <;> omega)) rfl) (show _ = (es.getD (i : Int).toNat ((0, 0, 0, nilS) : Int × Int × Int × Value)).2.2.2 from rfl)) rfl ?_
      refine J.op (Yd.len_b Try.underlying29 rfl (Rd.ext hlx e0)) rfl ?_
      refine J.eff (Ye.litM (base := w1.heap.size) (f := fun x : Int => I x) [(lx.length : Int), 1] Try.underlying35 ti3 rfl rfl rfl rfl (fun _ => rfl) rfl (Nat.le_refl _)) rfl ?_
      rintro s22_2 w2 ⟨o22_2, x1⟩
      have fr_s22_2 : Fr w.heap.size s22_2.ownBlock := Fr.le (Ow.fr o22_2) e0.size
      replace o22_2 := Ow.base o22_2 e0.size
      have e0 := e0.trans x1
      clear x1
      refine J.eff (Ye.call cl39 rfl (Sum_ok (Ow.rd o22_2) (by omega) (by intro x hx; simp only [List.mem_cons, List.not_mem_nil, or_false] at hx; omega))) rfl ?_
      rintro _ w3 ⟨r, rfl, hr_, hsum, x1⟩
      have e0 := e0.trans x1
      have o22_2 := o22_2.ext x1
      clear x1
      refine J.op (Yd.assign rfl) rfl ?_
      refine J.nil ?_
      refine J.n_block ?_
      refine J.n_then ?_
      refine J.region ?_
      refine J.op (Yd.move rfl) rfl ?_
      refine J.op (Yd.add rfl rfl (by first | omega | exact idx_u8' _ | (simp only [Int.toNat_natCast]; omega) | (simp only [List.length_map, List.length_drop, List.length_take, List.length_append, List.length_replicate]; omega) | (simp <;> omega))) rfl ?_
      refine J.op (Yd.assign rfl) rfl ?_
      refine J.nil ?_
      refine J.n_then ?_
      exact J.round ((i + 1, r)) ⟨rfl, rfl, rfl, trivial⟩ (⟨by show i + 1 ≤ es.length; omega, hr_, e0⟩) (by show es.length - (i + 1) < es.length - i; omega)
    · skip
      refine J.exit ?_
      refine J.x_then ?_
      refine J.x_then ?_
      refine J.x_block ?_
      refine J.n_then ?_
      refine J.seq ?_
      refine J.region ?_
      refine J.op (Yd.move rfl) rfl ?_
      refine J.op (Yd.leq rfl rfl) rfl ?_
      refine J.op (Yd.move rfl) rfl ?_
      refine J.split_dec (t := 26) rfl (fun hg2 => ?_) (fun hg2 => ?_)
      · skip
        refine J.op_g rfl rfl rfl (Yd.move rfl) rfl ?_
        refine J.op_g rfl rfl rfl (Yd.lenE (K := pcS') Try.underlying48 rfl (Er.ext hr e0)) rfl ?_
        refine J.op_g rfl rfl rfl (Yd.leq rfl rfl) rfl ?_
        refine J.op (Yd.pick_t rfl rfl) rfl ?_
        refine J.op (Yd.assign rfl) rfl ?_
        refine J.nil ?_
        refine J.n_then ?_
        refine J.ret ?_
        exact J.ret1 rfl rfl (⟨_, rfl, _, rfl, e0⟩)
      · skip
        refine J.not_g rfl rfl rfl rfl rfl ?_
        refine J.not_g rfl rfl rfl rfl rfl ?_
        refine J.not_g rfl rfl rfl rfl rfl ?_
        refine J.op (Yd.pick_f rfl rfl) rfl ?_
        refine J.op (Yd.assign rfl) rfl ?_
        refine J.nil ?_
        refine J.n_then ?_
        refine J.ret ?_
        exact J.ret1 rfl rfl (⟨_, rfl, _, rfl, e0⟩)
  · skip
    refine J.not_g rfl rfl rfl rfl rfl ?_
    refine J.not_g rfl rfl rfl rfl rfl ?_
    refine J.op (Yd.pick_f rfl rfl) rfl ?_
    refine J.nil ?_
    refine J.n_then ?_
    refine J.cond_false rfl ?_
    refine J.exit ?_
    refine J.x_then ?_
    refine J.x_then ?_
    refine J.x_block ?_
    refine J.n_then ?_
    refine J.seq ?_
    refine J.region ?_
    refine J.op (Yd.move rfl) rfl ?_
    refine J.op (Yd.leq rfl rfl) rfl ?_
    refine J.op (Yd.move rfl) rfl ?_
    refine J.split_dec (t := 26) rfl (fun hg2 => ?_) (fun hg2 => ?_)
    · skip
      refine J.op_g rfl rfl rfl (Yd.move rfl) rfl ?_
      refine J.op_g rfl rfl rfl (Yd.lenE (K := pcS') Try.underlying48 rfl (Er.ext hr e0)) rfl ?_
      refine J.op_g rfl rfl rfl (Yd.leq rfl rfl) rfl ?_
      refine J.op (Yd.pick_t rfl rfl) rfl ?_
      refine J.op (Yd.assign rfl) rfl ?_
      refine J.nil ?_
      refine J.n_then ?_
      refine J.ret ?_
      exact J.ret1 rfl rfl (⟨_, rfl, _, rfl, e0⟩)
    · skip
      refine J.not_g rfl rfl rfl rfl rfl ?_
      refine J.not_g rfl rfl rfl rfl rfl ?_
      refine J.not_g rfl rfl rfl rfl rfl ?_
      refine J.op (Yd.pick_f rfl rfl) rfl ?_
      refine J.op (Yd.assign rfl) rfl ?_
      refine J.nil ?_
      refine J.n_then ?_
      refine J.ret ?_
      exact J.ret1 rfl rfl (⟨_, rfl, _, rfl, e0⟩)

theorem New_inv {n : Int} {w : World} (hn : ¬ (1 ≤ n ∧ n ≤ 1000)) : C Try.prog 9 [I n] w (Ret fun v w' => v = .tuple #[.pointer none, I 1] ∧ Ext w w') := by
  have e0 := Ext.refl w
  refine C.enter Try.func9 rfl Try.ntmps9 rfl ?_
  refine J.seq ?_
  refine J.region ?_
  refine J.op (Yd.assign rfl) rfl ?_
  refine J.op (Yd.assign rfl) rfl ?_
  refine J.nil ?_
  refine J.n_then ?_
  refine J.seq ?_
  refine J.seq ?_
  refine J.region ?_
  refine J.op (Yd.move rfl) rfl ?_
  refine J.op (Yd.lss rfl rfl) rfl ?_
  refine J.op (Yd.move rfl) rfl ?_
  refine J.split_dec (t := 6) rfl (fun g1 => ?_) (fun g1 => ?_)
  · skip
    refine J.not_g rfl rfl rfl rfl rfl ?_
    refine J.not_g rfl rfl rfl rfl rfl ?_
    refine J.op (Yd.pick_t rfl rfl) rfl ?_
    refine J.nil ?_
    refine J.n_then ?_
    refine J.cond_true rfl ?_
    refine J.seq ?_
    refine J.region ?_
    refine J.op (Yd.assign rfl) rfl ?_
    refine J.op (Yd.assign rfl) rfl ?_
    refine J.nil ?_
    refine J.n_then ?_
    refine J.ret ?_
    refine J.r_then ?_
    exact J.ret2 rfl rfl rfl (⟨_, rfl, rfl, e0⟩)
  · skip
    refine J.op_g rfl rfl rfl (Yd.move rfl) rfl ?_
    refine J.op_g rfl rfl rfl (Yd.gtr rfl rfl) rfl ?_
    refine J.op (Yd.pick_f rfl rfl) rfl ?_
    refine J.nil ?_
    refine J.n_then ?_
    refine J.know (t := 9) (v' := .bool true) rfl (tt (by omega)) ?_
    refine J.cond_true rfl ?_
    refine J.seq ?_
    refine J.region ?_
    refine J.op (Yd.assign rfl) rfl ?_
    refine J.op (Yd.assign rfl) rfl ?_
    refine J.nil ?_
    refine J.n_then ?_
    refine J.ret ?_
    refine J.r_then ?_
    exact J.ret2 rfl rfl rfl (⟨_, rfl, rfl, e0⟩)

theorem Plays_ok {n : Int} {s1 s2 : Value} {es1 es2 : List (Int × Int × Int × Value)} {w : World} (hr1 : Er pcS' w s1 es1) (hq1 : ∀ u ∈ es1, ∃ l : List UInt8, Bs w u.2.2.2 l) (hr2 : Er pcS' w s2 es2) (hq2 : ∀ u ∈ es2, ∃ l : List UInt8, Bs w u.2.2.2 l) : C Try.prog 7 [I n, s1, s2] w (Ret fun v w' => v = .bool true ∧ Ext w w') := by
  have hmx1 := hr1.max
  have hmx2 := hr2.max
  have e0 := Ext.refl w
  refine C.enter Try.func7 rfl Try.ntmps7 rfl ?_
  refine J.seq ?_
  refine J.region ?_
  refine J.op (Yd.assign rfl) rfl ?_
  refine J.nil ?_
  refine J.n_then ?_
  refine J.seq ?_
  refine J.seq ?_
  refine J.region ?_
  refine J.op (Yd.move rfl) rfl ?_
  refine J.eff (Ye.call cl20 rfl (Small_ok (hr1.ext e0) (fun u hu => by obtain ⟨l, hl⟩ := hq1 u hu; exact ⟨l, hl.ext e0⟩))) rfl ?_
  rintro _ w1 ⟨t1, rfl, x1⟩
  have e0 := e0.trans x1
  clear x1
  refine J.op (Yd.not rfl) rfl ?_
  refine J.op (Yd.move rfl) rfl ?_
  refine J.split (t := 17) rfl (fun hs1 => ?_) (fun hs1 => ?_)
  · skip
    refine J.not_g rfl rfl rfl rfl rfl ?_
    refine J.not_g rfl rfl rfl rfl rfl ?_
    refine J.not_g rfl rfl rfl rfl rfl ?_
    refine J.op (Yd.pick_t rfl rfl) rfl ?_
    refine J.nil ?_
    refine J.n_then ?_
    refine J.cond_true rfl ?_
    refine J.seq ?_
    refine J.region ?_
    refine J.eff (Ye.call cl8 rfl (Awake_ok)) rfl ?_
    rintro _ w2 ⟨rfl, x1⟩
    have e0 := e0.trans x1
    clear x1
    refine J.op (Yd.assign rfl) rfl ?_
    refine J.nil ?_
    refine J.n_then ?_
    refine J.ret ?_
    refine J.r_then ?_
    exact J.ret1 rfl rfl (⟨_, rfl, rfl, e0⟩)
  · skip
    refine J.op_g rfl rfl rfl (Yd.move rfl) rfl ?_
    refine J.eff_g rfl rfl rfl (Ye.call cl20 rfl (Small_ok (hr2.ext e0) (fun u hu => by obtain ⟨l, hl⟩ := hq2 u hu; exact ⟨l, hl.ext e0⟩))) rfl ?_
    rintro _ w3 ⟨t2, rfl, x1⟩
    have e0 := e0.trans x1
    clear x1
    refine J.op_g rfl rfl rfl (Yd.not rfl) rfl ?_
    refine J.op (Yd.pick_f rfl rfl) rfl ?_
    refine J.nil ?_
    refine J.n_then ?_
    refine J.cond rfl (fun hc0 => ?_) (fun hc0 => ?_)
    · skip
      refine J.seq ?_
      refine J.region ?_
      refine J.eff (Ye.call cl8 rfl (Awake_ok)) rfl ?_
      rintro _ w4 ⟨rfl, x1⟩
      have e0 := e0.trans x1
      clear x1
      refine J.op (Yd.assign rfl) rfl ?_
      refine J.nil ?_
      refine J.n_then ?_
      refine J.ret ?_
      refine J.r_then ?_
      exact J.ret1 rfl rfl (⟨_, rfl, rfl, e0⟩)
    · skip
      refine J.skip ?_
      refine J.n_then ?_
      refine J.seq ?_
      refine J.region ?_
      by_cases hn : 1 ≤ n ∧ n ≤ 1000
      · skip
        refine J.op (Yd.move rfl) rfl ?_
        have hszN := e0.size
        refine J.eff (Ye.call cl9 rfl (New_sk hn)) rfl ?_
        have hszN := e0.size
        rintro _ w5 ⟨bs, rfl, hs, x1⟩
        have hszN2 := x1.size
        have e0 := e0.trans x1
        clear x1
        refine J.op (Yd.move rfl) rfl ?_
        refine J.op (Yd.extract rfl rfl) rfl ?_
        refine J.op (Yd.extract rfl rfl) rfl ?_
        refine J.op (Yd.assign rfl) rfl ?_
        refine J.op (Yd.assign rfl) rfl ?_
        refine J.nil ?_
        refine J.n_then ?_
        refine J.seq ?_
        refine J.seq ?_
        refine J.region ?_
        refine J.op (Yd.move rfl) rfl ?_
        refine J.op (Yd.lss rfl rfl) rfl ?_
        refine J.op (Yd.move rfl) rfl ?_
        refine J.know (t := 30) (v' := .bool false) rfl (ff (by omega)) ?_
        refine J.op_g rfl rfl rfl (Yd.move rfl) rfl ?_
        refine J.op_g rfl rfl rfl (Yd.gtr rfl rfl) rfl ?_
        refine J.op (Yd.pick_f rfl rfl) rfl ?_
        refine J.nil ?_
        refine J.n_then ?_
        refine J.know (t := 33) (v' := .bool false) rfl (ff (by omega)) ?_
        refine J.cond_false rfl ?_
        refine J.skip ?_
        refine J.n_then ?_
        refine J.seq ?_
        refine J.seq ?_
        refine J.region ?_
        refine J.op (Yd.move rfl) rfl ?_
        refine J.op (Yd.neq rfl rfl) rfl ?_
        refine J.op (Yd.move rfl) rfl ?_
        refine J.know (t := 45) (v' := .bool false) rfl (ff (by decide)) ?_
        refine J.op_g rfl rfl rfl (Yd.move rfl) rfl ?_
        refine J.op_g rfl rfl rfl (Yd.cast (Yd.eqPn Try.underlying23 rfl rfl) (show _ = Value.bool false from rfl)) rfl ?_
        refine J.op (Yd.pick_f rfl rfl) rfl ?_
        refine J.nil ?_
        refine J.n_then ?_
        refine J.cond_false rfl ?_
        refine J.skip ?_
        refine J.n_then ?_
        refine J.seq ?_
        refine J.region ?_
        refine J.op (Yd.move rfl) rfl ?_
        refine J.op (Yd.cast (Yd.buildS (cells := #[I n, nilS]) (pl := [(0, 1), (1, 1)]) Try.underlying46 (by kernel_rfl) ti46 rfl (by rfl)) (show _ = Value.agg #[I n, nilS] from rfl)) rfl ?_
        refine J.eff (Ye.box (S := [(0, 1, [I n]), (1, 1, [nilS])]) rfl (by simp [SegAll, SegOK, Value.cells, nilS])) rfl ?_
        rintro _ w6 ⟨b2, rfl, hb2, c2, x1⟩
        have hq := Two.init (w0 := w) hs x1 hb2 c2 (e0.trans x1) hszN hszN2
        have e0 := e0.trans x1
        clear x1 c2 hs
        refine J.op (Yd.assign rfl) rfl ?_
        refine J.nil ?_
        refine J.n_then ?_
        refine J.seq ?_
        refine J.seq ?_
        refine J.region ?_
        refine J.op (Yd.assign rfl) rfl ?_
        refine J.nil ?_
        refine J.n_then ?_
        refine J.block ?_
        refine J.loop (ι := Nat × List Key) (fun i => [(10, I (i.1 : Int)), (2, s2), (1, s1), (7, .pointer (some ⟨bs, 0, none⟩)), (9, .pointer (some ⟨b2, 0, none⟩))]) (fun i w' => i.1 ≤ es1.length ∧ KOK i.2 ∧ Dk2 i.2 ∧ (i.2.length : Int) ≤ n ∧ Two 56 60 46 [] w w' bs n i.2 b2 i.2 ∧ Ext w w') (fun i => es1.length - i.1) ((0, ([] : List Key))) ⟨rfl, rfl, rfl, rfl, rfl, trivial⟩ (⟨Nat.zero_le _, (fun y hy => by cases hy), List.Pairwise.nil, (by show (0 : Int) ≤ n; omega), hq, e0⟩) ?_
        rintro ⟨i, L⟩ w7 ⟨hk, hK, hD, hL, hq, e0⟩
        dsimp only at *
        refine J.seq ?_
        refine J.seq ?_
        refine J.region ?_
        refine J.op (Yd.move rfl) rfl ?_
        refine J.op (Yd.move rfl) rfl ?_
        refine J.op (Yd.lenE (K := pcS') Try.underlying48 rfl (Er.ext hr1 e0)) rfl ?_
        refine J.op (Yd.lss rfl rfl) rfl ?_
        refine J.nil ?_
        refine J.n_then ?_
        refine J.cond_dec rfl (fun hc3 => ?_) (fun hc3 => ?_)
        · skip
          refine J.skip ?_
          refine J.n_then ?_
          refine J.seq ?_
          refine J.block ?_
          refine J.seq ?_
          refine J.regionO [(0, true), (1, true), (2, true), (3, true), (4, false), (5, false), (6, false), (7, true), (8, true), (9, true), (11, true), (12, true), (13, true)] [(14, 1), (15, 1), (10, 0)] [(16, true), (17, true)] mix (by kernel_rfl) ?_
          refine J.s_op rfl (fun _ => Yd.move rfl) rfl ?_
          refine J.s_op rfl (fun _ => Yd.move rfl) rfl ?_
          refine J.s_op rfl (fun _ => Yd.move rfl) rfl ?_
          refine J.s_op rfl (fun _ => Yd.move rfl) rfl ?_
          refine J.s_one rfl (Yd.idxE (K := pcS') Try.underlying48 ti52 rfl rfl (Er.ext hr1 e0) (by first | omega | exact idx_u8' _ | (simp only [Int.toNat_natCast]; omega) | (simp only [List.length_map, List.length_drop, List.length_take, List.length_append, List.length_replicate]; omega) | (simp <;> omega))) rfl ?_
          refine J.s_one rfl (Yd.cast (Yd.loadEd (K := pcS') ((0, 0, 0, nilS) : Int × Int × Int × Value) ag52 ti52 rfl (Er.ext hr1 e0) (by first | omega | exact idx_u8' _ | (simp only [Int.toNat_natCast]; omega) | (simp only [List.length_map, List.length_drop, List.length_take, List.length_append, List.length_replicate]; omega) | (simp <;> omega))) (show _ = Value.agg (pcS'.c (es1.getD (i : Int).toNat ((0, 0, 0, nilS) : Int × Int × Int × Value))).toArray from rfl)) rfl ?_
          obtain ⟨lx, hlx⟩ := hq1 _ (getD_memE ((0, 0, 0, nilS) : Int × Int × Int × Value) (show (i : Int).toNat < es1.length by omega))
          refine J.s_eff rfl (Ye.call cl21 rfl (Does_ok hq (fun W e => hlx.ext e) hn hL)) rfl ?_
          rintro _ w8 ⟨rfl, hq2, _⟩
          replace hq := hq2
          clear hq2
          have e0 := hq.e
          obtain ⟨hK2, hL2⟩ := stL_ok (x := es1.getD (i : Int).toNat ((0, 0, 0, nilS) : Int × Int × Int × Value)) (k := lx) hn.1 hK hL
          have hD2 := stL_dk (n := n) (x := es1.getD (i : Int).toNat ((0, 0, 0, nilS) : Int × Int × Int × Value)) (k := lx) hD
          refine J.s_op rfl (fun _ => Yd.not rfl) rfl ?_
          refine J.s_op rfl (fun _ => Yd.move rfl) rfl ?_
          refine J.s_op_g rfl rfl rfl rfl (fun _ => Yd.move rfl) rfl ?_
          refine J.s_op_g rfl rfl rfl rfl (fun _ => Yd.move rfl) rfl ?_
          refine J.s_op_g rfl rfl rfl rfl (fun _ => Yd.nilCheck rfl) rfl ?_
          refine J.s_op_g rfl rfl rfl rfl (fun _ => Yd.cast (Yd.fieldA Try.underlying46 rfl ti44 rfl rfl) (show _ = Value.pointer (some ⟨b2, 1, none⟩) from rfl)) rfl ?_
          refine J.s_nil ?_
          have hq9 := hq
          obtain ⟨Kx, sx, ex, ht0⟩ := hq9
          have hlx2 := ht0.a2.len
          refine J.o_op_g rfl rfl rfl rfl (Yd.load pl44 rfl (Cel.cell1 ht0.c2 1 rfl)) rfl ?_
          refine J.o_op_g rfl rfl rfl rfl (Yd.lenE (K := entS) Try.underlying44 rfl ht0.r2) rfl ?_
          refine J.o_eff_g rfl rfl rfl rfl (Ye.call cl13 rfl (TLen1 (m1 := 0) (m2 := 0) hq)) rfl (fun _ _ h => h.2) ?_
          rintro _ w9 ⟨rfl, x1⟩
          have hq := hq.ext x1
          have e0 := e0.trans x1
          clear x1
          refine J.o_nil ?_
          refine J.s_op_g rfl rfl rfl rfl (fun _ => Yd.neq rfl rfl) rfl ?_
          refine J.s_op rfl (fun _ => Yd.pick_f rfl rfl) rfl ?_
          refine J.s_nil ?_
          refine J.n_np ?_
          refine J.n_then ?_
          refine J.know (t := 75) (v' := .bool false) rfl (ff (by exact fun h => h (by rw [hlx2]))) ?_
          refine J.cond_false rfl ?_
          refine J.skip ?_
          refine J.n_block ?_
          refine J.n_then ?_
          refine J.region ?_
          refine J.op (Yd.move rfl) rfl ?_
          refine J.op (Yd.add rfl rfl (by first | omega | exact idx_u8' _ | (simp only [Int.toNat_natCast]; omega) | (simp only [List.length_map, List.length_drop, List.length_take, List.length_append, List.length_replicate]; omega) | (simp <;> omega))) rfl ?_
          refine J.op (Yd.assign rfl) rfl ?_
          refine J.nil ?_
          refine J.n_then ?_
          exact J.round ((i + 1, stL n L (es1.getD (i : Int).toNat ((0, 0, 0, nilS) : Int × Int × Int × Value)) lx)) ⟨rfl, rfl, rfl, rfl, rfl, trivial⟩ (⟨by show i + 1 ≤ es1.length; omega, hK2, hD2, hL2, hq, e0⟩) (by show es1.length - (i + 1) < es1.length - i; omega)
        · skip
          refine J.exit ?_
          refine J.x_then ?_
          refine J.x_then ?_
          refine J.x_block ?_
          refine J.n_then ?_
          refine J.seq ?_
          refine J.seq ?_
          refine J.regionO [(0, true), (3, true), (1, false)] [(2, 1), (4, 0), (5, 1)] [(6, true)] mix (by kernel_rfl) ?_
          refine J.s_op rfl (fun _ => Yd.move rfl) rfl ?_
          refine J.s_op rfl (fun _ => Yd.move rfl) rfl ?_
          refine J.s_eff rfl (Ye.call cl17 rfl (TSave1 (m1 := 0) (m2 := 0) hq hK hn (by omega))) rfl ?_
          rintro s77_10 w10 ⟨os77_10, x1⟩
          have fr_s77_10 : Fr w.heap.size s77_10.ownBlock := Fr.le (Ow.fr os77_10) e0.size
          replace os77_10 := Ow.base os77_10 e0.size
          have hq := hq.ext x1
          have e0 := e0.trans x1
          clear x1
          refine J.s_nil ?_
          refine J.o_op rfl (Yd.bstr Try.underlying29 Try.underlying5 Try.underlying9 rfl (Ow.rd os77_10)) rfl ?_
          refine J.o_eff rfl (Ye.call cl22 rfl (TSave2 (m1 := 0) (m2 := 0) hq hK hn (by omega))) rfl (fun _ _ h => h.2) ?_
          rintro s80_11 w11 ⟨os80_11, x1⟩
          have ap_s77_10_s80_11 : Ap s77_10.ownBlock s80_11.ownBlock := Ap.mk (Ow.live os77_10) (Ow.fr os80_11)
          have fr_s80_11 : Fr w.heap.size s80_11.ownBlock := Fr.le (Ow.fr os80_11) e0.size
          replace os80_11 := Ow.base os80_11 e0.size
          have hq := hq.ext x1
          have e0 := e0.trans x1
          have os77_10 := os77_10.ext x1
          clear x1
          refine J.o_op rfl (Yd.bstr Try.underlying29 Try.underlying5 Try.underlying9 rfl (Ow.rd os80_11)) rfl ?_
          refine J.o_nil ?_
          refine J.s_op rfl (fun _ => Yd.sne rfl rfl) rfl ?_
          refine J.s_nil ?_
          refine J.n_np ?_
          refine J.n_then ?_
          refine J.know (t := 82) (v' := .bool false) rfl (ff (by exact fun h => h rfl)) ?_
          refine J.cond_false rfl ?_
          refine J.skip ?_
          refine J.n_then ?_
          refine J.seq ?_
          refine J.region ?_
          refine J.op (Yd.move rfl) rfl ?_
          refine J.eff (Ye.call cl17 rfl (TSave1 (m1 := 0) (m2 := 0) hq hK hn (by omega))) rfl ?_
          rintro s85_12 w12 ⟨os85_12, x1⟩
          have ap_s77_10_s85_12 : Ap s77_10.ownBlock s85_12.ownBlock := Ap.mk (Ow.live os77_10) (Ow.fr os85_12)
          have ap_s80_11_s85_12 : Ap s80_11.ownBlock s85_12.ownBlock := Ap.mk (Ow.live os80_11) (Ow.fr os85_12)
          have fr_s85_12 : Fr w.heap.size s85_12.ownBlock := Fr.le (Ow.fr os85_12) e0.size
          replace os85_12 := Ow.base os85_12 e0.size
          have hq := hq.ext x1
          have e0 := e0.trans x1
          have os77_10 := os77_10.ext x1
          have os80_11 := os80_11.ext x1
          clear x1
          refine J.eff (Ye.call cl18 rfl (Load_yes (Ow.rd os85_12) (by have h9 := savB_len (n := n) hK; omega) (skR_savB hn hK hD hL))) rfl ?_
          rintro _ w13 ⟨bt, rfl, hst, hm', hLm', hK', hsv', x1⟩
          have hq := Two.swap hq hst x1 (Nat.le_refl _) x1.size
          have e0 := e0.trans x1
          have os77_10 := os77_10.ext x1
          have os80_11 := os80_11.ext x1
          have os85_12 := os85_12.ext x1
          clear x1 hst hm' hLm' hK' hsv'
          refine J.op (Yd.move rfl) rfl ?_
          refine J.op (Yd.extract rfl rfl) rfl ?_
          refine J.op (Yd.extract rfl rfl) rfl ?_
          refine J.op (Yd.assign rfl) rfl ?_
          refine J.op (Yd.assign rfl) rfl ?_
          refine J.nil ?_
          refine J.n_then ?_
          refine J.seq ?_
          refine J.seq ?_
          refine J.region ?_
          refine J.op (Yd.move rfl) rfl ?_
          refine J.op (Yd.neq rfl rfl) rfl ?_
          refine J.op (Yd.move rfl) rfl ?_
          refine J.know (t := 91) (v' := .bool false) rfl (ff (by decide)) ?_
          refine J.op_g rfl rfl rfl (Yd.move rfl) rfl ?_
          refine J.op_g rfl rfl rfl (Yd.cast (Yd.eqPn Try.underlying23 rfl rfl) (show _ = Value.bool false from rfl)) rfl ?_
          refine J.op (Yd.pick_f rfl rfl) rfl ?_
          refine J.nil ?_
          refine J.n_then ?_
          refine J.cond_false rfl ?_
          refine J.skip ?_
          refine J.n_then ?_
          refine J.seq ?_
          refine J.seq ?_
          refine J.region ?_
          refine J.op (Yd.assign rfl) rfl ?_
          refine J.nil ?_
          refine J.n_then ?_
          refine J.block ?_
          refine J.loop (ι := Nat × List Key) (fun i => [(13, I (i.1 : Int)), (2, s2), (11, .pointer (some ⟨bt, 0, none⟩)), (9, .pointer (some ⟨b2, 0, none⟩))]) (fun i w' => i.1 ≤ es2.length ∧ KOK i.2 ∧ Dk2 i.2 ∧ (i.2.length : Int) ≤ n ∧ Two 56 60 46 [] w w' bt n i.2 b2 i.2 ∧ Ext w w') (fun i => es2.length - i.1) ((0, L)) ⟨rfl, rfl, rfl, rfl, trivial⟩ (⟨Nat.zero_le _, hK, hD, hL, hq, e0⟩) ?_
          rintro ⟨i, L⟩ w14 ⟨hk, hK, hD, hL, hq, e0⟩
          dsimp only at *
          refine J.seq ?_
          refine J.seq ?_
          refine J.region ?_
          refine J.op (Yd.move rfl) rfl ?_
          refine J.op (Yd.move rfl) rfl ?_
          refine J.op (Yd.lenE (K := pcS') Try.underlying48 rfl (Er.ext hr2 e0)) rfl ?_
          refine J.op (Yd.lss rfl rfl) rfl ?_
          refine J.nil ?_
          refine J.n_then ?_
          refine J.cond_dec rfl (fun hc7 => ?_) (fun hc7 => ?_)
          · skip
            refine J.skip ?_
            refine J.n_then ?_
            refine J.seq ?_
            refine J.block ?_
            refine J.seq ?_
            refine J.region ?_
            refine J.op (Yd.move rfl) rfl ?_
            refine J.op (Yd.move rfl) rfl ?_
            refine J.op (Yd.move rfl) rfl ?_
            refine J.op (Yd.move rfl) rfl ?_
            refine J.op (Yd.idxE (K := pcS') Try.underlying48 ti52 rfl rfl (Er.ext hr2 e0) (by first | omega | exact idx_u8' _ | (simp only [Int.toNat_natCast]; omega) | (simp only [List.length_map, List.length_drop, List.length_take, List.length_append, List.length_replicate]; omega) | (simp <;> omega))) rfl ?_
            refine J.op (Yd.cast (Yd.loadEd (K := pcS') ((0, 0, 0, nilS) : Int × Int × Int × Value) ag52 ti52 rfl (Er.ext hr2 e0) (by first | omega | exact idx_u8' _ | (simp only [Int.toNat_natCast]; omega) | (simp only [List.length_map, List.length_drop, List.length_take, List.length_append, List.length_replicate]; omega) | (simp <;> omega))) (show _ = Value.agg (pcS'.c (es2.getD (i : Int).toNat ((0, 0, 0, nilS) : Int × Int × Int × Value))).toArray from rfl)) rfl ?_
            obtain ⟨lx, hlx⟩ := hq2 _ (getD_memE ((0, 0, 0, nilS) : Int × Int × Int × Value) (show (i : Int).toNat < es2.length by omega))
            refine J.eff (Ye.call cl21 rfl (Does_ok hq (fun W e => hlx.ext e) hn hL)) rfl ?_
            rintro _ w15 ⟨rfl, hq2, _⟩
            replace hq := hq2
            clear hq2
            have e0 := hq.e
            obtain ⟨hK2, hL2⟩ := stL_ok (x := es2.getD (i : Int).toNat ((0, 0, 0, nilS) : Int × Int × Int × Value)) (k := lx) hn.1 hK hL
            have hD2 := stL_dk (n := n) (x := es2.getD (i : Int).toNat ((0, 0, 0, nilS) : Int × Int × Int × Value)) (k := lx) hD
            refine J.op (Yd.not rfl) rfl ?_
            refine J.nil ?_
            refine J.n_then ?_
            refine J.cond_false rfl ?_
            refine J.skip ?_
            refine J.n_block ?_
            refine J.n_then ?_
            refine J.region ?_
            refine J.op (Yd.move rfl) rfl ?_
            refine J.op (Yd.add rfl rfl (by first | omega | exact idx_u8' _ | (simp only [Int.toNat_natCast]; omega) | (simp only [List.length_map, List.length_drop, List.length_take, List.length_append, List.length_replicate]; omega) | (simp <;> omega))) rfl ?_
            refine J.op (Yd.assign rfl) rfl ?_
            refine J.nil ?_
            refine J.n_then ?_
            exact J.round ((i + 1, stL n L (es2.getD (i : Int).toNat ((0, 0, 0, nilS) : Int × Int × Int × Value)) lx)) ⟨rfl, rfl, rfl, rfl, trivial⟩ (⟨by show i + 1 ≤ es2.length; omega, hK2, hD2, hL2, hq, e0⟩) (by show es2.length - (i + 1) < es2.length - i; omega)
          · skip
            refine J.exit ?_
            refine J.x_then ?_
            refine J.x_then ?_
            refine J.x_block ?_
            refine J.n_then ?_
            refine J.seq ?_
            refine J.regionO [(0, true), (3, true), (1, false)] [(2, 1), (4, 0), (5, 1)] [(6, true), (7, true), (8, false), (9, true), (10, true)] mix (by kernel_rfl) ?_
            refine J.s_op rfl (fun _ => Yd.move rfl) rfl ?_
            refine J.s_op rfl (fun _ => Yd.move rfl) rfl ?_
            refine J.s_eff rfl (Ye.call cl17 rfl (TSave1 (m1 := 0) (m2 := 0) hq hK hn (by omega))) rfl ?_
            rintro s110_16 w16 ⟨os110_16, x1⟩
            have fr_s110_16 : Fr w.heap.size s110_16.ownBlock := Fr.le (Ow.fr os110_16) e0.size
            replace os110_16 := Ow.base os110_16 e0.size
            have hq := hq.ext x1
            have e0 := e0.trans x1
            clear x1
            refine J.s_nil ?_
            refine J.o_op rfl (Yd.bstr Try.underlying29 Try.underlying5 Try.underlying9 rfl (Ow.rd os110_16)) rfl ?_
            refine J.o_eff rfl (Ye.call cl22 rfl (TSave2 (m1 := 0) (m2 := 0) hq hK hn (by omega))) rfl (fun _ _ h => h.2) ?_
            rintro s113_17 w17 ⟨os113_17, x1⟩
            have ap_s110_16_s113_17 : Ap s110_16.ownBlock s113_17.ownBlock := Ap.mk (Ow.live os110_16) (Ow.fr os113_17)
            have fr_s113_17 : Fr w.heap.size s113_17.ownBlock := Fr.le (Ow.fr os113_17) e0.size
            replace os113_17 := Ow.base os113_17 e0.size
            have hq := hq.ext x1
            have e0 := e0.trans x1
            have os110_16 := os110_16.ext x1
            clear x1
            refine J.o_op rfl (Yd.bstr Try.underlying29 Try.underlying5 Try.underlying9 rfl (Ow.rd os113_17)) rfl ?_
            refine J.o_nil ?_
            refine J.s_op rfl (fun _ => Yd.seq rfl rfl) rfl ?_
            refine J.s_op rfl (fun _ => Yd.move rfl) rfl ?_
            refine J.know (t := 116) (v' := .bool true) rfl (tt (by rfl)) ?_
            refine J.s_eff_g rfl rfl rfl rfl (Ye.call cl8 rfl (Awake_ok)) rfl ?_
            rintro _ w18 ⟨rfl, x1⟩
            have hq := hq.ext x1
            have e0 := e0.trans x1
            have os110_16 := os110_16.ext x1
            have os113_17 := os113_17.ext x1
            clear x1
            refine J.s_op rfl (fun _ => Yd.pick_t rfl rfl) rfl ?_
            refine J.s_op rfl (fun _ => Yd.assign rfl) rfl ?_
            refine J.s_nil ?_
            refine J.n_np ?_
            refine J.n_then ?_
            refine J.ret ?_
            exact J.ret1 rfl rfl (⟨_, rfl, rfl, e0⟩)
      · skip
        refine J.op (Yd.move rfl) rfl ?_
        refine J.eff (Ye.call cl9 rfl (New_inv hn)) rfl ?_
        rintro _ w19 ⟨rfl, x1⟩
        have e0 := e0.trans x1
        clear x1
        refine J.op (Yd.move rfl) rfl ?_
        refine J.op (Yd.extract rfl rfl) rfl ?_
        refine J.op (Yd.extract rfl rfl) rfl ?_
        refine J.op (Yd.assign rfl) rfl ?_
        refine J.op (Yd.assign rfl) rfl ?_
        refine J.nil ?_
        refine J.n_then ?_
        refine J.seq ?_
        refine J.seq ?_
        refine J.region ?_
        refine J.op (Yd.move rfl) rfl ?_
        refine J.op (Yd.lss rfl rfl) rfl ?_
        refine J.op (Yd.move rfl) rfl ?_
        refine J.split_dec (t := 30) rfl (fun g1 => ?_) (fun g1 => ?_)
        · skip
          refine J.not_g rfl rfl rfl rfl rfl ?_
          refine J.not_g rfl rfl rfl rfl rfl ?_
          refine J.op (Yd.pick_t rfl rfl) rfl ?_
          refine J.nil ?_
          refine J.n_then ?_
          refine J.cond_true rfl ?_
          refine J.seq ?_
          refine J.region ?_
          refine J.op (Yd.move rfl) rfl ?_
          refine J.op (Yd.eql rfl rfl) rfl ?_
          refine J.op (Yd.move rfl) rfl ?_
          refine J.know (t := 36) (v' := .bool true) rfl (tt (by decide)) ?_
          refine J.op_g rfl rfl rfl (Yd.move rfl) rfl ?_
          refine J.op_g rfl rfl rfl (Yd.cast (Yd.eqPn Try.underlying23 rfl rfl) (show _ = Value.bool true from rfl)) rfl ?_
          refine J.op (Yd.pick_t rfl rfl) rfl ?_
          refine J.op (Yd.move rfl) rfl ?_
          refine J.eff_g rfl rfl rfl (Ye.call cl8 rfl (Awake_ok)) rfl ?_
          rintro _ w20 ⟨rfl, x1⟩
          have e0 := e0.trans x1
          clear x1
          refine J.op (Yd.pick_t rfl rfl) rfl ?_
          refine J.op (Yd.assign rfl) rfl ?_
          refine J.nil ?_
          refine J.n_then ?_
          refine J.ret ?_
          refine J.r_then ?_
          exact J.ret1 rfl rfl (⟨_, rfl, rfl, e0⟩)
        · skip
          refine J.op_g rfl rfl rfl (Yd.move rfl) rfl ?_
          refine J.op_g rfl rfl rfl (Yd.gtr rfl rfl) rfl ?_
          refine J.op (Yd.pick_f rfl rfl) rfl ?_
          refine J.nil ?_
          refine J.n_then ?_
          refine J.know (t := 33) (v' := .bool true) rfl (tt (by omega)) ?_
          refine J.cond_true rfl ?_
          refine J.seq ?_
          refine J.region ?_
          refine J.op (Yd.move rfl) rfl ?_
          refine J.op (Yd.eql rfl rfl) rfl ?_
          refine J.op (Yd.move rfl) rfl ?_
          refine J.know (t := 36) (v' := .bool true) rfl (tt (by decide)) ?_
          refine J.op_g rfl rfl rfl (Yd.move rfl) rfl ?_
          refine J.op_g rfl rfl rfl (Yd.cast (Yd.eqPn Try.underlying23 rfl rfl) (show _ = Value.bool true from rfl)) rfl ?_
          refine J.op (Yd.pick_t rfl rfl) rfl ?_
          refine J.op (Yd.move rfl) rfl ?_
          refine J.eff_g rfl rfl rfl (Ye.call cl8 rfl (Awake_ok)) rfl ?_
          rintro _ w21 ⟨rfl, x1⟩
          have e0 := e0.trans x1
          clear x1
          refine J.op (Yd.pick_t rfl rfl) rfl ?_
          refine J.op (Yd.assign rfl) rfl ?_
          refine J.nil ?_
          refine J.n_then ?_
          refine J.ret ?_
          refine J.r_then ?_
          exact J.ret1 rfl rfl (⟨_, rfl, rfl, e0⟩)
end Ytfefphcmfhabiaa
end Go.Proofs
