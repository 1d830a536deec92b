import Derived.Test.YtonoafnjkpahjaaT
import Derived.Test.YtonoafnjkpahjaaX24
import Derived.Test.YtonoafnjkpahjaaQf
import Derived.Test.YtonoafnjkpahjaaF5
set_option linter.unusedVariables false
set_option linter.unusedSimpArgs false
set_option maxRecDepth 100000
set_option maxHeartbeats 4000000
namespace Go.Proofs
open Go.X Go.RowKit
namespace Ytonoafnjkpahjaa
theorem Clone_ok {a : Value} {l : List UInt8} {w : World} (ha : Bs w a l) (hl : l.length ≤ 70368744177664) : C Try.prog 37 [a] w (Ret fun v w' => Ob w.heap.size 5 w' v l ∧ Ext w w') := by
  have e0 := Ext.refl w
  refine C.enter Try.func37 rfl Try.ntmps37 rfl ?_
  refine J.seq ?_
  refine J.region ?_
  refine J.op (Yd.assign rfl) rfl ?_
  refine J.nil ?_
  refine J.n_then ?_
  refine J.seq ?_
  refine J.seq ?_
  refine J.region ?_
  refine J.op (Yd.move rfl) rfl ?_
  refine J.op (Yd.eqNil Try.underlying22 rfl rfl ha) rfl ?_
  refine J.nil ?_
  refine J.n_then ?_
  refine J.cond rfl (fun hc0 => ?_) (fun hc0 => ?_)
  · skip
    refine J.seq ?_
    refine J.region ?_
    refine J.op (Yd.assign rfl) rfl ?_
    refine J.nil ?_
    refine J.n_then ?_
    refine J.ret ?_
    refine J.r_then ?_
    exact J.ret1 rfl rfl (⟨_, rfl, by have h9 := isNilS_nil ha hc0; simp at h9; subst h9; exact Ow.nil _ _ _, e0⟩)
  · skip
    refine J.skip ?_
    refine J.n_then ?_
    refine J.seq ?_
    refine J.region ?_
    refine J.eff (Ye.lit0 (base := w.heap.size) (f := (fun x : UInt8 => B x)) Try.underlying22 ti5 rfl (Nat.le_refl _)) rfl ?_
    rintro s5_1 w1 ⟨o5_1, x1⟩
    have fr_s5_1 : Fr w.heap.size s5_1.ownBlock := Fr.le (Ow.fr o5_1) e0.size
    replace o5_1 := Ow.base o5_1 e0.size
    have e0 := e0.trans x1
    clear x1
    refine J.op (Yd.move rfl) rfl ?_
    refine J.eff (Ye.appendS Try.underlying22 ti5 rfl rfl rfl rfl o5_1 (Rd.ext ha e0) (fun _ => rfl) (by first | omega | exact idx_u8' _ | (simp only [Int.toNat_natCast]; omega) | (simp only [List.length_map, List.length_drop, List.length_take, List.length_append, List.length_replicate]; omega) | (simp <;> omega)) e0.size) rfl ?_
    rintro s7_2 w2 ⟨o7_2, hg, hsf⟩
    have fr_s7_2 : Fr w.heap.size s7_2.ownBlock := Fr.sf fr_s5_1 hsf e0.size
    have e0 := Ext.gbk e0 fr_s5_1 hg
    clear hg hsf
    rw [List.nil_append] at o7_2
    refine J.op (Yd.assign rfl) rfl ?_
    refine J.nil ?_
    refine J.n_then ?_
    refine J.ret ?_
    exact J.ret1 rfl rfl (⟨_, rfl, o7_2, e0⟩)

theorem Over_ok {base : Nat} {v : Value} {m : UInt8} {l : List UInt8} {w : World} (hv : Ob base 5 w v l) : C Try.prog 18 [.agg #[B m], v] w (Ret fun u w' => u = v ∧ Ob base 5 w' v (turnL m l) ∧ Tn [v.ownBlock] w w') := by
  have hmx := Bs.max (Ow.rd hv)
  have e0 := Tn.refl [v.ownBlock] w
  refine C.enter Try.func18 rfl Try.ntmps18 rfl ?_
  refine J.seq ?_
  refine J.region ?_
  refine J.eff (Ye.box (S := [(0, 1, [B m])]) rfl (by simp [SegAll, SegOK, Value.cells])) rfl ?_
  rintro _ w1 ⟨b2_0, rfl, hb_, c2_0, x1⟩
  have ap_v_b2_0 : Ap v.ownBlock (some b2_0) := Ap.mk (Ow.live hv) (Fr.blk hb_)
  have fr_b2_0 : Fr w.heap.size (some b2_0) := Fr.le (Fr.blk hb_) e0.size
  have e0 := Tn.ext e0 x1
  have hv := hv.ext x1
  clear x1 hb_
  refine J.op (Yd.assign rfl) rfl ?_
  refine J.nil ?_
  refine J.n_then ?_
  refine J.seq ?_
  refine J.seq ?_
  refine J.region ?_
  refine J.op (Yd.assign rfl) rfl ?_
  refine J.nil ?_
  refine J.n_then ?_
  refine J.block ?_
  refine J.loop (ι := Nat) (fun i => [(5, I i), (2, .pointer (some ⟨b2_0, 0, none⟩)), (1, v)]) (fun i w' => i ≤ l.length ∧ Cel w' b2_0 37 [(0, 1, [B m])] ∧ Ob base 5 w' v (fillU (turnF m l) l i) ∧ Tn [v.ownBlock] w w') (fun i => l.length - i) (0) ⟨rfl, rfl, rfl, trivial⟩ (⟨Nat.zero_le _, c2_0, (by rw [fillU_zero]; exact hv), e0⟩) ?_
  rintro k w2 ⟨hk, c2_0, hv, e0⟩
  have hfl := fillU_len (turnF m l) l k
  refine J.seq ?_
  refine J.seq ?_
  refine J.region ?_
  refine J.op (Yd.move rfl) rfl ?_
  refine J.op (Yd.move rfl) rfl ?_
  refine J.op (Yd.len_b Try.underlying22 rfl (Ow.rd hv)) rfl ?_
  refine J.op (Yd.lss rfl rfl) rfl ?_
  refine J.nil ?_
  refine J.n_then ?_
  refine J.cond_dec rfl (fun hc0 => ?_) (fun hc0 => ?_)
  · skip
    refine J.skip ?_
    refine J.n_then ?_
    refine J.seq ?_
    refine J.block ?_
    refine J.regionO [(0, true), (1, true), (2, true), (3, true), (6, true)] [(4, 1), (5, 1), (7, 1)] [(8, true), (9, false), (10, false)] mix (by kernel_rfl) ?_
    refine J.s_op rfl (fun _ => Yd.move rfl) rfl ?_
    refine J.s_op rfl (fun _ => Yd.move rfl) rfl ?_
    refine J.s_op rfl (fun _ => Yd.move rfl) rfl ?_
    refine J.s_op rfl (fun _ => Yd.move rfl) rfl ?_
    refine J.s_op rfl (fun _ => Yd.cast (Yd.fieldA Try.underlying37 rfl ti5 rfl rfl) (show _ = Value.pointer (some ⟨b2_0, 0, none⟩) from rfl)) rfl ?_
    refine J.s_nil ?_
    refine J.o_op rfl (Yd.idx_b Try.underlying22 ti5 rfl rfl (Ow.rd hv) (by first | omega | exact idx_u8' _ | (simp only [Int.toNat_natCast]; omega) | (simp only [List.length_map, List.length_drop, List.length_take, List.length_append, List.length_replicate]; omega) | (simp <;> omega))) rfl ?_
    refine J.o_op rfl (Yd.load pl5 rfl (Bs.cell (Ow.rd hv) (by first | omega | exact idx_u8' _ | (simp only [Int.toNat_natCast]; omega) | (simp only [List.length_map, List.length_drop, List.length_take, List.length_append, List.length_replicate]; omega) | (simp <;> omega)))) rfl ?_
    refine J.o_op rfl (Yd.load pl5 rfl (Cel.cell1 c2_0 0 rfl)) rfl ?_
    refine J.o_nil ?_
    refine J.s_op rfl (fun _ => Yd.xor_u8 rfl rfl) rfl ?_
    refine J.s_one rfl (Yd.idx_b Try.underlying22 ti5 rfl rfl (Ow.rd hv) (by first | omega | exact idx_u8' _ | (simp only [Int.toNat_natCast]; omega) | (simp only [List.length_map, List.length_drop, List.length_take, List.length_append, List.length_replicate]; omega) | (simp <;> omega))) rfl ?_
    refine J.s_eff0 rfl (Ye.storeOwM ti5 hv rfl rfl (by first | omega | exact idx_u8' _ | (simp only [Int.toNat_natCast]; omega) | (simp only [List.length_map, List.length_drop, List.length_take, List.length_append, List.length_replicate]; omega) | (simp <;> omega)) (fun _ => rfl) (fun _ => rfl)) ?_
    rintro _ w3 ⟨o', hg⟩
    have c2_0 := Cel.gbk c2_0 hg (Ap.symm ap_v_b2_0)
    have e0 := Tn.gbk e0 (.inl (by simp)) hg
    replace hv := o'
    clear hg o'
    refine J.s_nil ?_
    refine J.n_np ?_
    refine J.n_block ?_
    refine J.n_then ?_
    refine J.region ?_
    refine J.op (Yd.move rfl) rfl ?_
    refine J.op (Yd.add rfl rfl (by first | omega | exact idx_u8' _ | (simp only [Int.toNat_natCast]; omega) | (simp only [List.length_map, List.length_drop, List.length_take, List.length_append, List.length_replicate]; omega) | (simp <;> omega))) rfl ?_
    refine J.op (Yd.assign rfl) rfl ?_
    refine J.nil ?_
    refine J.n_then ?_
    exact J.round (k + 1) ⟨rfl, rfl, rfl, trivial⟩ (⟨by omega, c2_0, (by rw [Int.toNat_natCast, fillU_get _ _ _ _ _ (Nat.le_refl _)] at hv; rw [← fillU_set]; exact hv), e0⟩) (by omega)
  · skip
    refine J.exit ?_
    refine J.x_then ?_
    refine J.x_then ?_
    refine J.x_block ?_
    refine J.n_then ?_
    refine J.seq ?_
    refine J.region ?_
    refine J.op (Yd.move rfl) rfl ?_
    refine J.op (Yd.assign rfl) rfl ?_
    refine J.nil ?_
    refine J.n_then ?_
    refine J.ret ?_
    exact J.ret1 rfl rfl (⟨_, rfl, rfl, (by rw [show k = l.length by omega] at hv; exact hv), e0⟩)
end Ytonoafnjkpahjaa
end Go.Proofs
