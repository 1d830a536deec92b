import Derived.Test.YtbklhpdfbdhoeaaT
import Derived.Test.YtbklhpdfbdhoeaaPb
import Derived.Test.YtbklhpdfbdhoeaaA3
set_option linter.unusedVariables false
set_option linter.unusedSimpArgs false
set_option maxRecDepth 100000
set_option maxHeartbeats 4000000
namespace Go.Proofs
open Go.X Go.RowKit
namespace Ytbklhpdfbdhoeaa
theorem Block_ok {a v : Value} {key l : List UInt8} {w : World} (hk : Bs w a key) (hb : Bs w v l) : C Try.prog 10 [a, v] w (Ret fun u w' => ∃ s, u = .tuple #[s, I (blkE key l)] ∧ Bs w' s (blkL key l) ∧ Ext w w') := by
  have e0 := Ext.refl w
  refine C.enter Try.func10 rfl Try.ntmps10 rfl ?_
  refine J.seq ?_
  refine J.region ?_
  refine J.op (Yd.assign rfl) rfl ?_
  refine J.op (Yd.assign rfl) rfl ?_
  refine J.nil ?_
  refine J.n_then ?_
  refine J.seq ?_
  refine J.seq ?_
  refine J.region ?_
  refine J.op (Yd.move rfl) rfl ?_
  refine J.op (Yd.len_b Try.underlying22 rfl hk) rfl ?_
  refine J.op (Yd.neq rfl rfl) rfl ?_
  refine J.op (Yd.move rfl) rfl ?_
  refine J.split_dec (t := 10) rfl (fun h1 => ?_) (fun h1 => ?_)
  · skip
    refine J.not_g rfl rfl rfl rfl rfl ?_
    refine J.not_g rfl rfl rfl rfl rfl ?_
    refine J.not_g rfl rfl rfl rfl rfl ?_
    refine J.op (Yd.pick_t rfl rfl) rfl ?_
    refine J.nil ?_
    refine J.n_then ?_
    refine J.cond_true rfl ?_
    refine J.seq ?_
    refine J.region ?_
    refine J.op (Yd.assign rfl) rfl ?_
    refine J.op (Yd.assign rfl) rfl ?_
    refine J.nil ?_
    refine J.n_then ?_
    refine J.ret ?_
    refine J.r_then ?_
    exact J.ret2 rfl rfl rfl (⟨_, rfl, nilS, by rw [blkE_no (by omega)]; rfl, by rw [blkL_no (by omega)]; exact Rd.nilM _ _, e0⟩)
  · skip
    refine J.op_g rfl rfl rfl (Yd.move rfl) rfl ?_
    refine J.op_g rfl rfl rfl (Yd.len_b Try.underlying22 rfl hb) rfl ?_
    refine J.op_g rfl rfl rfl (Yd.neq rfl rfl) rfl ?_
    refine J.op (Yd.pick_f rfl rfl) rfl ?_
    refine J.nil ?_
    refine J.n_then ?_
    refine J.cond_dec rfl (fun hc0 => ?_) (fun hc0 => ?_)
    · skip
      refine J.seq ?_
      refine J.region ?_
      refine J.op (Yd.assign rfl) rfl ?_
      refine J.op (Yd.assign rfl) rfl ?_
      refine J.nil ?_
      refine J.n_then ?_
      refine J.ret ?_
      refine J.r_then ?_
      exact J.ret2 rfl rfl rfl (⟨_, rfl, nilS, by rw [blkE_no (by omega)]; rfl, by rw [blkL_no (by omega)]; exact Rd.nilM _ _, e0⟩)
    · skip
      refine J.skip ?_
      refine J.n_then ?_
      refine J.seq ?_
      refine J.regionA [(0, true), (2, true)] [(1, Asr.new 16 w.heap.size 61 [(0, 256, boxT.map (fun x : UInt8 => B x)), (256, 240, (kx key 52).map (fun x : UInt8 => B x))]), (3, Asr.v 18 (ptrOf v)), (4, Asr.v 19 (Ag (fun x => B x) (l.take 16))), (5, Asr.v 20 (Ag (fun x => B x) (encR (kx key 52) (l.take 16) 14))), (6, Asr.new 6 w.heap.size 45 [(0, 16, (List.replicate 16 0).map (fun x : UInt8 => B x))])] [1, 3, 4, 5, 6] [16, 18, 19, 20, 6] [[], [], [1], [0, 1, 2], []] [(7, false)] rfl rfl mix (by kernel_rfl) ?_
      refine J.s_op rfl (fun _ => Yd.move rfl) rfl ?_
      refine J.s_op rfl (fun _ => Yd.move rfl) rfl ?_
      refine J.s_nil ?_
      refine J.a_in [0, 1, 2, 3, 4] rfl (by rfl) ⟨?_, ?_, ?_, ?_, ?_, trivial⟩ ?_
      · skip
        intro w1 x1
        have xs1 := x1.size
        have e0 := e0.trans x1
        clear x1
        refine PremP.nil ?_
        exact OpYe.mk rfl ((Ye.call cl22 rfl (Ready_ok (Rd.ext hk e0) (by omega))).mono fun v w2 h => let ⟨b_, e_, h1, h2, h3⟩ := h; ⟨⟨b_, e_, Nat.le_trans xs1 h1, h2⟩, h3⟩)
      · skip
        intro w2 x1
        have xs1 := x1.size
        have e0 := e0.trans x1
        clear x1
        refine PremP.nil ?_
        exact OpYe.val rfl (Yd.arrPB Try.underlying45 rfl (Rd.ext hb e0) (by first | omega | exact idx_u8' _ | (simp only [Int.toNat_natCast]; omega) | (simp only [List.length_map, List.length_drop, List.length_take, List.length_append, List.length_replicate]; omega) | (simp <;> omega)))
      · skip
        intro w3 x1
        refine PremP.v rfl ?_
        have xs1 := x1.size
        have e0 := e0.trans x1
        clear x1
        refine PremP.nil ?_
        exact OpYe.val rfl (Yd.loadPB ag45 ti45 rfl (Rd.ext hb e0) (by first | omega | exact idx_u8' _ | (simp only [Int.toNat_natCast]; omega) | (simp only [List.length_map, List.length_drop, List.length_take, List.length_append, List.length_replicate]; omega) | (simp <;> omega)) rfl)
      · skip
        intro w4 x1
        refine PremP.new rfl fun b16_4 hb_b16_4 c16_4 => ?_
        have fr_b16_4 : Fr w.heap.size (some b16_4) := Fr.le (Fr.blk hb_b16_4) e0.size
        refine PremP.v rfl ?_
        refine PremP.v rfl ?_
        have xs1 := x1.size
        have e0 := e0.trans x1
        clear x1
        refine PremP.nil ?_
        exact OpYe.mk rfl ((Ye.call cl23 rfl (CBlock_ok c16_4 (by rw [List.length_take]; omega) (by rw [kx_len _ (by omega)]))).mono fun v w2 h => ⟨⟨(), h.1, trivial⟩, h.2⟩)
      · skip
        intro w5 x1
        have xs1 := x1.size
        have e0 := e0.trans x1
        clear x1
        refine PremP.nil ?_
        exact OpYe.mk rfl ((Ye.alloc ti45 (S := [(0, 16, (List.replicate 16 0).map (fun x : UInt8 => B x))]) (by simp [SegAll, SegOK, Value.cells])).mono fun v w2 h => let ⟨b_, e_, h1, h2, h3⟩ := h; ⟨⟨b_, e_, Nat.le_trans xs1 h1, h2⟩, h3⟩)
      intro w6 x1
      refine PremP.new rfl fun b16_6 hb_b16_6 c16_6 => ?_
      have fr_b16_6 : Fr w.heap.size (some b16_6) := Fr.le (Fr.blk hb_b16_6) e0.size
      refine PremP.v rfl ?_
      refine PremP.v rfl ?_
      refine PremP.v rfl ?_
      refine PremP.new rfl fun b6_6 hb_b6_6 c6_6 => ?_
      have fr_b6_6 : Fr w.heap.size (some b6_6) := Fr.le (Fr.blk hb_b6_6) e0.size
      have xs1 := x1.size
      have e0 := e0.trans x1
      clear x1
      refine PremP.nil ?_
      refine J.s_eff0 rfl (Ye.storeA (ys := List.map (fun x : UInt8 => B x) _) ti45 c6_6 0 rfl rfl rfl rfl (by first | (rw [List.length_map]; omega) | (simp; done) | rfl | (simp <;> omega)) (one_M _ (fun _ => rfl))) ?_
      rintro _ w7 ⟨cX, hu⟩
      simp only [List.set_cons_zero, List.set_cons_succ] at cX
      have hg := hu.gb
      have e0 := Ext.gbk e0 fr_b6_6 hg
      clear hg
      replace c6_6 := cX
      clear cX hu
      refine J.s_nil ?_
      refine J.n_np ?_
      refine J.n_then ?_
      refine J.seq ?_
      refine J.region ?_
      refine J.op (Yd.sliceA Try.underlying45 ti5 rfl) rfl ?_
      refine J.op (Yd.assign rfl) rfl ?_
      refine J.op (Yd.assign rfl) rfl ?_
      refine J.nil ?_
      refine J.n_then ?_
      refine J.ret ?_
      exact J.ret2 rfl rfl rfl (⟨_, rfl, _, by rw [blkE_yes (by omega)], by have h9 := (Cel.bs c6_6 0 rfl (l := 0) (k := 16) (by omega) (by omega) (by decide)); rw [blk_fin (by omega)] at h9; exact h9, e0⟩)
end Ytbklhpdfbdhoeaa
end Go.Proofs
