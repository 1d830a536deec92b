import Derived.Test.YtphebleabcoakaaT
import Derived.Test.YtphebleabcoakaaW8
import Derived.Test.YtphebleabcoakaaQk
set_option linter.unusedVariables false
set_option linter.unusedSimpArgs false
set_option maxRecDepth 100000
set_option maxHeartbeats 4000000
namespace Go.Proofs
open Go.X Go.RowKit
namespace Ytphebleabcoakaa
theorem CA_ok {K : Nat → Prop} {b b4 k z : Nat} {q : UInt64} {l : List UInt8} {m : Int} {w : World} (hr : Rdr 61 K w b l) (h4 : Cel w b4 3 [(0, 1, [I m])]) (a4b : Ap (some b4) (some b)) (hl : l.length ≤ 1000000000) (hm : 0 ≤ m ∧ m ≤ 1000000000) (hg : gN 0 l 0 = some (q, k)) (hq : (q.toNat : Int) ≤ m) (hk : k + q.toNat = l.length) : C Try.prog 23 [.pointer (some ⟨b, 0, none⟩), .pointer (some ⟨b4, 0, none⟩)] w (Ret fun _ w' => Rdr 61 K w' b [] ∧ Tn [some b] w w') := by
  have e0 := Tn.refl [(some b)] w
  refine C.enter Try.func23 rfl Try.ntmps23 rfl ?_
  refine J.region ?_
  refine J.op (Yd.move rfl) rfl ?_
  refine J.op (Yd.load pl3 rfl (Cel.cell1 h4 0 rfl)) rfl ?_
  refine J.eff (Ye.call cl24 rfl (RBytes_ok hr hl hm hg hq (by omega))) rfl ?_
  rintro _ w1 ⟨_, _, hr2, x1⟩
  have e0 := Tn.tnk e0 (fun q hq => by simp only [List.mem_singleton] at hq; subst hq; exact .inl (by simp)) x1
  refine J.nil ?_
  exact J.end0 rfl (⟨_, rfl, (by rw [List.drop_of_length_le (by omega)] at hr2; exact hr2), e0⟩)

theorem CA_short {K : Nat → Prop} {b b4 k z : Nat} {q : UInt64} {l : List UInt8} {m : Int} {w : World} (hr : Rdr 61 K w b l) (h4 : Cel w b4 3 [(0, 1, [I m])]) (a4b : Ap (some b4) (some b)) (hl : l.length ≤ 1000000000) (hm : 0 ≤ m ∧ m ≤ 1000000000) (hg : gN 0 l 0 = some (q, k)) (hq : (q.toNat : Int) ≤ m) (hk : l.length < k + q.toNat) : C Try.prog 23 [.pointer (some ⟨b, 0, none⟩), .pointer (some ⟨b4, 0, none⟩)] w (Pan fun ch w' => ch = [{ v := .iface 24 (I 2), recovered := false }] ∧ Tn [some b] w w') := by
  have e0 := Tn.refl [(some b)] w
  refine C.enter Try.func23 rfl Try.ntmps23 rfl ?_
  refine J.region ?_
  refine J.op (Yd.move rfl) rfl ?_
  refine J.op (Yd.load pl3 rfl (Cel.cell1 h4 0 rfl)) rfl ?_
  refine J.pan (Yp.call cl24 rfl (RBytes_short hr hl hm hg hq hk)) ?_
  rintro _ w1 ⟨rfl, x1⟩
  have e0 := Tn.tnk e0 (fun q hq => by simp only [List.mem_singleton] at hq; subst hq; exact .inl (by simp)) x1
  exact J.fin_p (⟨_, rfl, rfl, e0⟩)

theorem CA_big {K : Nat → Prop} {b b4 k z : Nat} {q : UInt64} {l : List UInt8} {m : Int} {w : World} (hr : Rdr 61 K w b l) (h4 : Cel w b4 3 [(0, 1, [I m])]) (a4b : Ap (some b4) (some b)) (hl : l.length ≤ 1000000000) (hm : 0 ≤ m ∧ m ≤ 1000000000) (hg : gN 0 l 0 = some (q, k)) (hq : ¬ (q.toNat : Int) ≤ m) : C Try.prog 23 [.pointer (some ⟨b, 0, none⟩), .pointer (some ⟨b4, 0, none⟩)] w (Pan fun ch w' => ch = [{ v := .iface 24 (I 11), recovered := false }] ∧ Tn [some b] w w') := by
  have e0 := Tn.refl [(some b)] w
  refine C.enter Try.func23 rfl Try.ntmps23 rfl ?_
  refine J.region ?_
  refine J.op (Yd.move rfl) rfl ?_
  refine J.op (Yd.load pl3 rfl (Cel.cell1 h4 0 rfl)) rfl ?_
  refine J.pan (Yp.call cl24 rfl (RBytes_big hr hl hm hg hq)) ?_
  rintro _ w1 ⟨rfl, x1⟩
  have e0 := Tn.tnk e0 (fun q hq => by simp only [List.mem_singleton] at hq; subst hq; exact .inl (by simp)) x1
  exact J.fin_p (⟨_, rfl, rfl, e0⟩)

theorem CL_ok {K : Nat → Prop} {b b4 k z : Nat} {q : UInt64} {l : List UInt8} {m : Int} {w : World} (hr : Rdr 61 K w b l) (h4 : Cel w b4 3 [(0, 1, [I m])]) (a4b : Ap (some b4) (some b)) (hl : l.length ≤ 1000000000) (hm : 0 ≤ m ∧ m ≤ 1000000000) (hg : gN 0 l 0 = some (q, k)) (hq : (q.toNat : Int) ≤ m) (hz : l.drop k = List.replicate z 0) (hzq : z = q.toNat) (hz5 : z ≤ 1000000) : C Try.prog 25 [.pointer (some ⟨b, 0, none⟩), .pointer (some ⟨b4, 0, none⟩)] w (Ret fun _ w' => Rdr 61 K w' b [] ∧ Tn [some b] w w') := by
  have e0 := Tn.refl [(some b)] w
  refine C.enter Try.func25 rfl Try.ntmps25 rfl ?_
  refine J.region ?_
  refine J.op (Yd.move rfl) rfl ?_
  refine J.op (Yd.load pl3 rfl (Cel.cell1 h4 0 rfl)) rfl ?_
  refine J.eff (Ye.call cl26 rfl (RList0_ok hr hl hm hg hq hz hzq hz5)) rfl ?_
  rintro _ w1 ⟨hr2, x1⟩
  have e0 := Tn.tnk e0 (fun q hq => by simp only [List.mem_singleton] at hq; subst hq; exact .inl (by simp)) x1
  refine J.nil ?_
  exact J.end0 rfl (⟨_, rfl, hr2, e0⟩)

theorem CL_short {K : Nat → Prop} {b b4 k z : Nat} {q : UInt64} {l : List UInt8} {m : Int} {w : World} (hr : Rdr 61 K w b l) (h4 : Cel w b4 3 [(0, 1, [I m])]) (a4b : Ap (some b4) (some b)) (hl : l.length ≤ 1000000000) (hm : 0 ≤ m ∧ m ≤ 1000000000) (hg : gN 0 l 0 = some (q, k)) (hq : (q.toNat : Int) ≤ m) (hz : l.drop k = List.replicate z 0) (hzq : z < q.toNat) (hz5 : z ≤ 1000000) : C Try.prog 25 [.pointer (some ⟨b, 0, none⟩), .pointer (some ⟨b4, 0, none⟩)] w (Pan fun ch w' => ch = [{ v := .iface 24 (I 2), recovered := false }] ∧ Tn [some b] w w') := by
  have e0 := Tn.refl [(some b)] w
  refine C.enter Try.func25 rfl Try.ntmps25 rfl ?_
  refine J.region ?_
  refine J.op (Yd.move rfl) rfl ?_
  refine J.op (Yd.load pl3 rfl (Cel.cell1 h4 0 rfl)) rfl ?_
  refine J.pan (Yp.call cl26 rfl (RList0_bad hr hl hm hg hq hz hzq hz5)) ?_
  rintro _ w1 ⟨rfl, x1⟩
  have e0 := Tn.tnk e0 (fun q hq => by simp only [List.mem_singleton] at hq; subst hq; exact .inl (by simp)) x1
  exact J.fin_p (⟨_, rfl, rfl, e0⟩)

theorem CL_big {K : Nat → Prop} {b b4 k z : Nat} {q : UInt64} {l : List UInt8} {m : Int} {w : World} (hr : Rdr 61 K w b l) (h4 : Cel w b4 3 [(0, 1, [I m])]) (a4b : Ap (some b4) (some b)) (hl : l.length ≤ 1000000000) (hm : 0 ≤ m ∧ m ≤ 1000000000) (hg : gN 0 l 0 = some (q, k)) (hq : ¬ (q.toNat : Int) ≤ m) : C Try.prog 25 [.pointer (some ⟨b, 0, none⟩), .pointer (some ⟨b4, 0, none⟩)] w (Pan fun ch w' => ch = [{ v := .iface 24 (I 11), recovered := false }] ∧ Tn [some b] w w') := by
  have e0 := Tn.refl [(some b)] w
  refine C.enter Try.func25 rfl Try.ntmps25 rfl ?_
  refine J.region ?_
  refine J.op (Yd.move rfl) rfl ?_
  refine J.op (Yd.load pl3 rfl (Cel.cell1 h4 0 rfl)) rfl ?_
  refine J.pan (Yp.call cl26 rfl (RList0_big hr hl hm hg hq)) ?_
  rintro _ w1 ⟨rfl, x1⟩
  have e0 := Tn.tnk e0 (fun q hq => by simp only [List.mem_singleton] at hq; subst hq; exact .inl (by simp)) x1
  exact J.fin_p (⟨_, rfl, rfl, e0⟩)

theorem Block_ok {n q : Int} {w : World} (hn : 0 ≤ n ∧ n ≤ 1000) (hq : 0 ≤ q ∧ q ≤ 1000000000) : C Try.prog 21 [I n, I q] w (Ret fun v w' => Ob w.heap.size 5 w' v (blkL n.toNat q) ∧ Ext w w') := by
  have e0 := Ext.refl w
  refine C.enter Try.func21 rfl Try.ntmps21 rfl ?_
  refine J.seq ?_
  refine J.region ?_
  refine J.op (Yd.assign rfl) rfl ?_
  refine J.nil ?_
  refine J.n_then ?_
  refine J.seq ?_
  refine J.region ?_
  refine J.op (Yd.move rfl) rfl ?_
  refine J.op (Yd.maxi rfl rfl) rfl ?_
  refine J.eff (Ye.make (base := w.heap.size) Try.underlying32 ti5 rfl rfl (by first | omega | exact idx_u8' _ | (simp only [Int.toNat_natCast]; omega) | (simp only [List.length_map, List.length_drop, List.length_take, List.length_append, List.length_replicate]; omega) | (simp <;> omega)) (by first | omega | exact idx_u8' _ | (simp only [Int.toNat_natCast]; omega) | (simp only [List.length_map, List.length_drop, List.length_take, List.length_append, List.length_replicate]; omega) | (simp <;> omega)) (by unfold maxLen; omega) rfl (Nat.le_refl _)) rfl ?_
  rintro s9_1 w1 ⟨o9_1, x1⟩
  have fr_s9_1 : Fr w.heap.size s9_1.ownBlock := Fr.le (Ow.fr o9_1) e0.size
  replace o9_1 := Ow.base o9_1 e0.size
  have e0 := e0.trans x1
  clear x1
  rw [rep_B] at o9_1
  refine J.op (Yd.assign rfl) rfl ?_
  refine J.nil ?_
  refine J.n_then ?_
  refine J.seq ?_
  refine J.seq ?_
  refine J.region ?_
  refine J.op (Yd.assign rfl) rfl ?_
  refine J.nil ?_
  refine J.n_then ?_
  refine J.block ?_
  refine J.loop (ι := Nat) (fun i => [(0, I n), (1, I q), (6, I i), (5, s9_1)]) (fun i w' => i ≤ n.toNat ∧ Ob w.heap.size 5 w' s9_1 (fillU (blkF q) (List.replicate n.toNat 0) i) ∧ Ext w w') (fun i => n.toNat - i) (0) ⟨rfl, rfl, rfl, rfl, trivial⟩ (⟨Nat.zero_le _, (by rw [fillU_zero]; have h9 := o9_1; rw [max_n (by omega)] at h9; exact h9), e0⟩) ?_
  rintro k w2 ⟨hk, ho5, e0⟩
  have hfl := fillU_len (blkF q) (List.replicate n.toNat 0) k
  rw [List.length_replicate] at hfl
  have hkk := blk_mul2 (k := k) (by omega)
  refine J.seq ?_
  refine J.seq ?_
  refine J.region ?_
  refine J.op (Yd.move rfl) rfl ?_
  refine J.op (Yd.move rfl) rfl ?_
  refine J.op (Yd.len_b Try.underlying32 rfl (Ow.rd ho5)) rfl ?_
  refine J.op (Yd.lss rfl rfl) rfl ?_
  refine J.nil ?_
  refine J.n_then ?_
  refine J.cond_dec rfl (fun hc0 => ?_) (fun hc0 => ?_)
  · skip
    refine J.skip ?_
    refine J.n_then ?_
    refine J.seq ?_
    refine J.block ?_
    refine J.region ?_
    refine J.op (Yd.move rfl) rfl ?_
    refine J.op (Yd.move rfl) rfl ?_
    refine J.op (Yd.move rfl) rfl ?_
    refine J.op (Yd.move rfl) rfl ?_
    refine J.op (Yd.mul rfl rfl (blk_mul (by omega))) rfl ?_
    refine J.op (Yd.move rfl) rfl ?_
    refine J.op (Yd.mul rfl rfl (by first | omega | exact idx_u8' _ | (simp only [Int.toNat_natCast]; omega) | (simp only [List.length_map, List.length_drop, List.length_take, List.length_append, List.length_replicate]; omega) | (simp <;> omega))) rfl ?_
    refine J.op (Yd.add rfl rfl (by first | omega | exact idx_u8' _ | (simp only [Int.toNat_natCast]; omega) | (simp only [List.length_map, List.length_drop, List.length_take, List.length_append, List.length_replicate]; omega) | (simp <;> omega))) rfl ?_
    refine J.op (Yd.add rfl rfl (by first | omega | exact idx_u8' _ | (simp only [Int.toNat_natCast]; omega) | (simp only [List.length_map, List.length_drop, List.length_take, List.length_append, List.length_replicate]; omega) | (simp <;> omega))) rfl ?_
    refine J.eff (Ye.call cl42 rfl (Round_ok (by omega) (by omega))) rfl ?_
    rintro _ w3 ⟨rfl, x1⟩
    have e0 := e0.trans x1
    have ho5 := ho5.ext x1
    clear x1
    refine J.op (Yd.cv_i_8 Try.underlying3 Try.underlying5 rfl (by first | omega | exact idx_u8' _ | (simp only [Int.toNat_natCast]; omega) | (simp only [List.length_map, List.length_drop, List.length_take, List.length_append, List.length_replicate]; omega) | (simp <;> omega))) rfl ?_
    refine J.op (Yd.idx_b Try.underlying32 ti5 rfl rfl (Ow.rd ho5) (by first | omega | exact idx_u8' _ | (simp only [Int.toNat_natCast]; omega) | (simp only [List.length_map, List.length_drop, List.length_take, List.length_append, List.length_replicate]; omega) | (simp <;> omega))) rfl ?_
    refine J.eff0 (Ye.storeOwM ti5 ho5 rfl rfl (by first | omega | exact idx_u8' _ | (simp only [Int.toNat_natCast]; omega) | (simp only [List.length_map, List.length_drop, List.length_take, List.length_append, List.length_replicate]; omega) | (simp <;> omega)) (fun _ => rfl) (fun _ => rfl)) ?_
    rintro _ w4 ⟨o', hg⟩
    have e0 := Ext.gbk e0 fr_s9_1 hg
    replace ho5 := o'
    clear hg o'
    refine J.nil ?_
    refine J.n_block ?_
    refine J.n_then ?_
    refine J.region ?_
    refine J.op (Yd.move rfl) rfl ?_
    refine J.op (Yd.add rfl rfl (by first | omega | exact idx_u8' _ | (simp only [Int.toNat_natCast]; omega) | (simp only [List.length_map, List.length_drop, List.length_take, List.length_append, List.length_replicate]; omega) | (simp <;> omega))) rfl ?_
    refine J.op (Yd.assign rfl) rfl ?_
    refine J.nil ?_
    refine J.n_then ?_
    exact J.round (k + 1) ⟨rfl, rfl, rfl, rfl, trivial⟩ (⟨by omega, (by rw [← fillU_set]; have h9 := ho5; rw [Int.toNat_natCast] at h9; exact h9), e0⟩) (by omega)
  · skip
    refine J.exit ?_
    refine J.x_then ?_
    refine J.x_then ?_
    refine J.x_block ?_
    refine J.n_then ?_
    refine J.seq ?_
    refine J.region ?_
    refine J.op (Yd.move rfl) rfl ?_
    refine J.op (Yd.assign rfl) rfl ?_
    refine J.nil ?_
    refine J.n_then ?_
    refine J.ret ?_
    exact J.ret1 rfl rfl (⟨_, rfl, (by have h9 := ho5; rw [show k = n.toNat by omega] at h9; exact h9), e0⟩)

theorem BlockN_ok {n : Nat} {w : World} (hn : n ≤ 1000) : C Try.prog 21 [I (n : Int), I 1] w (Ret fun v w' => Ob w.heap.size 5 w' v (blkL n 1) ∧ Ext w w') := Block_ok (n := (n : Int)) (by omega) (by omega)
end Ytphebleabcoakaa
end Go.Proofs
