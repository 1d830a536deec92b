import Derived.Test.YtbklhpdfbdhoeaaT
import Derived.Test.YtbklhpdfbdhoeaaPd
import Derived.Test.YtbklhpdfbdhoeaaA10
set_option linter.unusedVariables false
set_option linter.unusedSimpArgs false
set_option maxRecDepth 100000
set_option maxHeartbeats 4000000
namespace Go.Proofs
open Go.X Go.RowKit
namespace Ytbklhpdfbdhoeaa
theorem One_ok {b : Bool} {w : World} : C Try.prog 15 [.bool b] w (Ret fun v w' => v = I (if b then 1 else 0) ∧ Ext w w') := by
  have e0 := Ext.refl w
  refine C.enter Try.func15 rfl Try.ntmps15 rfl ?_
  refine J.seq ?_
  refine J.region ?_
  refine J.op (Yd.assign rfl) rfl ?_
  refine J.nil ?_
  refine J.n_then ?_
  refine J.seq ?_
  refine J.seq ?_
  refine J.region ?_
  refine J.op (Yd.move rfl) rfl ?_
  refine J.nil ?_
  refine J.n_then ?_
  refine J.cond rfl (fun hc0 => ?_) (fun hc0 => ?_)
  · skip
    refine J.seq ?_
    refine J.region ?_
    refine J.op (Yd.assign rfl) rfl ?_
    refine J.nil ?_
    refine J.n_then ?_
    refine J.ret ?_
    refine J.r_then ?_
    exact J.ret1 rfl rfl (⟨_, rfl, by subst hc0; rfl, e0⟩)
  · skip
    refine J.skip ?_
    refine J.n_then ?_
    refine J.seq ?_
    refine J.region ?_
    refine J.op (Yd.assign rfl) rfl ?_
    refine J.nil ?_
    refine J.n_then ?_
    refine J.ret ?_
    exact J.ret1 rfl rfl (⟨_, rfl, by subst hc0; rfl, e0⟩)

theorem AesLimits_ok {kn mn n : Int} {w : World} : C Try.prog 5 [I kn, I mn, I n] w (Ret fun v w' => v = .bool true ∧ Ext w w') := by
  have e0 := Ext.refl w
  refine C.enter Try.func5 rfl Try.ntmps5 rfl ?_
  refine J.seq ?_
  refine J.region ?_
  refine J.op (Yd.assign rfl) rfl ?_
  refine J.nil ?_
  refine J.n_then ?_
  refine J.seq ?_
  refine J.seq ?_
  refine J.region ?_
  refine J.op (Yd.move rfl) rfl ?_
  refine J.op (Yd.lss rfl rfl) rfl ?_
  refine J.op (Yd.move rfl) rfl ?_
  refine J.split_dec (t := 16) rfl (fun h1 => ?_) (fun h1 => ?_)
  · skip
    refine J.not_g rfl rfl rfl rfl rfl ?_
    refine J.not_g rfl rfl rfl rfl rfl ?_
    refine J.op (Yd.pick_t rfl rfl) rfl ?_
    refine J.op (Yd.move rfl) rfl ?_
    refine J.not_g rfl rfl rfl rfl rfl ?_
    refine J.not_g rfl rfl rfl rfl rfl ?_
    refine J.op (Yd.pick_t rfl rfl) rfl ?_
    refine J.op (Yd.move rfl) rfl ?_
    refine J.not_g rfl rfl rfl rfl rfl ?_
    refine J.not_g rfl rfl rfl rfl rfl ?_
    refine J.op (Yd.pick_t rfl rfl) rfl ?_
    refine J.op (Yd.move rfl) rfl ?_
    refine J.not_g rfl rfl rfl rfl rfl ?_
    refine J.not_g rfl rfl rfl rfl rfl ?_
    refine J.op (Yd.pick_t rfl rfl) rfl ?_
    refine J.op (Yd.move rfl) rfl ?_
    refine J.not_g rfl rfl rfl rfl rfl ?_
    refine J.not_g rfl rfl rfl rfl rfl ?_
    refine J.not_g rfl rfl rfl rfl rfl ?_
    refine J.not_u rfl rfl rfl rfl ?_
    refine J.not_u rfl rfl rfl rfl ?_
    refine J.not_g rfl rfl rfl rfl rfl ?_
    refine J.op (Yd.pick_t rfl rfl) rfl ?_
    refine J.nil ?_
    refine J.n_then ?_
    refine J.cond_true rfl ?_
    refine J.seq ?_
    refine J.region ?_
    refine J.eff (Ye.call cl9 rfl (awake_ok)) rfl ?_
    rintro _ w1 ⟨rfl, x1⟩
    have e0 := e0.trans x1
    clear x1
    refine J.op (Yd.assign rfl) rfl ?_
    refine J.nil ?_
    refine J.n_then ?_
    refine J.ret ?_
    refine J.r_then ?_
    exact J.ret1 rfl rfl (⟨_, rfl, rfl, e0⟩)
  · skip
    refine J.op_g rfl rfl rfl (Yd.move rfl) rfl ?_
    refine J.op_g rfl rfl rfl (Yd.gtr rfl rfl) rfl ?_
    refine J.op (Yd.pick_f rfl rfl) rfl ?_
    refine J.op (Yd.move rfl) rfl ?_
    refine J.split_dec (t := 20) rfl (fun h2 => ?_) (fun h2 => ?_)
    · skip
      refine J.not_g rfl rfl rfl rfl rfl ?_
      refine J.not_g rfl rfl rfl rfl rfl ?_
      refine J.op (Yd.pick_t rfl rfl) rfl ?_
      refine J.op (Yd.move rfl) rfl ?_
      refine J.not_g rfl rfl rfl rfl rfl ?_
      refine J.not_g rfl rfl rfl rfl rfl ?_
      refine J.op (Yd.pick_t rfl rfl) rfl ?_
      refine J.op (Yd.move rfl) rfl ?_
      refine J.not_g rfl rfl rfl rfl rfl ?_
      refine J.not_g rfl rfl rfl rfl rfl ?_
      refine J.op (Yd.pick_t rfl rfl) rfl ?_
      refine J.op (Yd.move rfl) rfl ?_
      refine J.not_g rfl rfl rfl rfl rfl ?_
      refine J.not_g rfl rfl rfl rfl rfl ?_
      refine J.not_g rfl rfl rfl rfl rfl ?_
      refine J.not_u rfl rfl rfl rfl ?_
      refine J.not_u rfl rfl rfl rfl ?_
      refine J.not_g rfl rfl rfl rfl rfl ?_
      refine J.op (Yd.pick_t rfl rfl) rfl ?_
      refine J.nil ?_
      refine J.n_then ?_
      refine J.cond_true rfl ?_
      refine J.seq ?_
      refine J.region ?_
      refine J.eff (Ye.call cl9 rfl (awake_ok)) rfl ?_
      rintro _ w2 ⟨rfl, x1⟩
      have e0 := e0.trans x1
      clear x1
      refine J.op (Yd.assign rfl) rfl ?_
      refine J.nil ?_
      refine J.n_then ?_
      refine J.ret ?_
      refine J.r_then ?_
      exact J.ret1 rfl rfl (⟨_, rfl, rfl, e0⟩)
    · skip
      refine J.op_g rfl rfl rfl (Yd.move rfl) rfl ?_
      refine J.op_g rfl rfl rfl (Yd.lss rfl rfl) rfl ?_
      refine J.op (Yd.pick_f rfl rfl) rfl ?_
      refine J.op (Yd.move rfl) rfl ?_
      refine J.split_dec (t := 24) rfl (fun h3 => ?_) (fun h3 => ?_)
      · skip
        refine J.not_g rfl rfl rfl rfl rfl ?_
        refine J.not_g rfl rfl rfl rfl rfl ?_
        refine J.op (Yd.pick_t rfl rfl) rfl ?_
        refine J.op (Yd.move rfl) rfl ?_
        refine J.not_g rfl rfl rfl rfl rfl ?_
        refine J.not_g rfl rfl rfl rfl rfl ?_
        refine J.op (Yd.pick_t rfl rfl) rfl ?_
        refine J.op (Yd.move rfl) rfl ?_
        refine J.not_g rfl rfl rfl rfl rfl ?_
        refine J.not_g rfl rfl rfl rfl rfl ?_
        refine J.not_g rfl rfl rfl rfl rfl ?_
        refine J.not_u rfl rfl rfl rfl ?_
        refine J.not_u rfl rfl rfl rfl ?_
        refine J.not_g rfl rfl rfl rfl rfl ?_
        refine J.op (Yd.pick_t rfl rfl) rfl ?_
        refine J.nil ?_
        refine J.n_then ?_
        refine J.cond_true rfl ?_
        refine J.seq ?_
        refine J.region ?_
        refine J.eff (Ye.call cl9 rfl (awake_ok)) rfl ?_
        rintro _ w3 ⟨rfl, x1⟩
        have e0 := e0.trans x1
        clear x1
        refine J.op (Yd.assign rfl) rfl ?_
        refine J.nil ?_
        refine J.n_then ?_
        refine J.ret ?_
        refine J.r_then ?_
        exact J.ret1 rfl rfl (⟨_, rfl, rfl, e0⟩)
      · skip
        refine J.op_g rfl rfl rfl (Yd.move rfl) rfl ?_
        refine J.op_g rfl rfl rfl (Yd.gtr rfl rfl) rfl ?_
        refine J.op (Yd.pick_f rfl rfl) rfl ?_
        refine J.op (Yd.move rfl) rfl ?_
        refine J.split_dec (t := 28) rfl (fun h4 => ?_) (fun h4 => ?_)
        · skip
          refine J.not_g rfl rfl rfl rfl rfl ?_
          refine J.not_g rfl rfl rfl rfl rfl ?_
          refine J.op (Yd.pick_t rfl rfl) rfl ?_
          refine J.op (Yd.move rfl) rfl ?_
          refine J.not_g rfl rfl rfl rfl rfl ?_
          refine J.not_g rfl rfl rfl rfl rfl ?_
          refine J.not_g rfl rfl rfl rfl rfl ?_
          refine J.not_u rfl rfl rfl rfl ?_
          refine J.not_u rfl rfl rfl rfl ?_
          refine J.not_g rfl rfl rfl rfl rfl ?_
          refine J.op (Yd.pick_t rfl rfl) rfl ?_
          refine J.nil ?_
          refine J.n_then ?_
          refine J.cond_true rfl ?_
          refine J.seq ?_
          refine J.region ?_
          refine J.eff (Ye.call cl9 rfl (awake_ok)) rfl ?_
          rintro _ w4 ⟨rfl, x1⟩
          have e0 := e0.trans x1
          clear x1
          refine J.op (Yd.assign rfl) rfl ?_
          refine J.nil ?_
          refine J.n_then ?_
          refine J.ret ?_
          refine J.r_then ?_
          exact J.ret1 rfl rfl (⟨_, rfl, rfl, e0⟩)
        · skip
          refine J.op_g rfl rfl rfl (Yd.move rfl) rfl ?_
          refine J.op_g rfl rfl rfl (Yd.gtr rfl rfl) rfl ?_
          refine J.op (Yd.pick_f rfl rfl) rfl ?_
          refine J.op (Yd.move rfl) rfl ?_
          refine J.split_dec (t := 32) rfl (fun h5 => ?_) (fun h5 => ?_)
          · skip
            refine J.not_g rfl rfl rfl rfl rfl ?_
            refine J.not_g rfl rfl rfl rfl rfl ?_
            refine J.not_g rfl rfl rfl rfl rfl ?_
            refine J.not_u rfl rfl rfl rfl ?_
            refine J.not_u rfl rfl rfl rfl ?_
            refine J.not_g rfl rfl rfl rfl rfl ?_
            refine J.op (Yd.pick_t rfl rfl) rfl ?_
            refine J.nil ?_
            refine J.n_then ?_
            refine J.cond_true rfl ?_
            refine J.seq ?_
            refine J.region ?_
            refine J.eff (Ye.call cl9 rfl (awake_ok)) rfl ?_
            rintro _ w5 ⟨rfl, x1⟩
            have e0 := e0.trans x1
            clear x1
            refine J.op (Yd.assign rfl) rfl ?_
            refine J.nil ?_
            refine J.n_then ?_
            refine J.ret ?_
            refine J.r_then ?_
            exact J.ret1 rfl rfl (⟨_, rfl, rfl, e0⟩)
          · skip
            refine J.op_g rfl rfl rfl (Yd.move rfl) rfl ?_
            refine J.op_g rfl rfl rfl (Yd.gtr rfl rfl) rfl ?_
            refine J.op_g rfl rfl rfl (Yd.move rfl) rfl ?_
            refine J.split_dec (t := 35) rfl (fun h6 => ?_) (fun h6 => ?_)
            · skip
              refine J.op_g rfl rfl rfl (Yd.move rfl) rfl ?_
              refine J.op_g rfl rfl rfl (Yd.leq rfl rfl) rfl ?_
              refine J.op_g rfl rfl rfl (Yd.pick_t rfl rfl) rfl ?_
              refine J.op (Yd.pick_f rfl rfl) rfl ?_
              refine J.nil ?_
              refine J.n_then ?_
              refine J.cond_dec rfl (fun hc0 => ?_) (fun hc0 => ?_)
              · skip
                refine J.seq ?_
                refine J.region ?_
                refine J.eff (Ye.call cl9 rfl (awake_ok)) rfl ?_
                rintro _ w6 ⟨rfl, x1⟩
                have e0 := e0.trans x1
                clear x1
                refine J.op (Yd.assign rfl) rfl ?_
                refine J.nil ?_
                refine J.n_then ?_
                refine J.ret ?_
                refine J.r_then ?_
                exact J.ret1 rfl rfl (⟨_, rfl, rfl, e0⟩)
              · skip
                refine J.skip ?_
                refine J.n_then ?_
                refine J.seq ?_
                refine J.regionA [(0, true), (2, true)] [(1, Asr.own 42 w.heap.size 5 (((List.replicate kn.toNat (0 : UInt8)).map fun x => B x))), (3, Asr.own 44 w.heap.size 5 (((List.replicate mn.toNat (0 : UInt8)).map fun x => B x))), (4, Asr.own 7 w.heap.size 5 (((List.replicate kn.toNat (0 : UInt8)).map fun x => B x))), (5, Asr.own 8 w.heap.size 5 (((List.replicate mn.toNat (0 : UInt8)).map fun x => B x)))] [1, 3, 4, 5] [42, 44, 7, 8] [[], [], [0], [0, 1, 2]] [] rfl rfl mix (by kernel_rfl) ?_
                refine J.s_op rfl (fun _ => Yd.move rfl) rfl ?_
                refine J.s_op rfl (fun _ => Yd.move rfl) rfl ?_
                refine J.s_nil ?_
                refine J.a_in [0, 1, 2, 3] rfl (by rfl) ⟨?_, ?_, ?_, ?_, trivial⟩ ?_
                · skip
                  intro w7 x1
                  have xs1 := x1.size
                  have e0 := e0.trans x1
                  clear x1
                  refine PremP.nil ?_
                  exact OpYe.mk rfl ((Ye.make (base := w7.heap.size) Try.underlying22 ti5 rfl rfl (by first | omega | exact idx_u8' _ | (simp only [Int.toNat_natCast]; omega) | (simp only [List.length_map, List.length_drop, List.length_take, List.length_append, List.length_replicate]; omega) | (simp <;> omega)) (by first | omega | exact idx_u8' _ | (simp only [Int.toNat_natCast]; omega) | (simp only [List.length_map, List.length_drop, List.length_take, List.length_append, List.length_replicate]; omega) | (simp <;> omega)) (by unfold maxLen; omega) rfl (Nat.le_refl _)).mono fun v w2 h => ⟨⟨v, rfl, by have h9 := Ow.base h.1 xs1; rw [rep_B] at h9; skip; exact h9⟩, h.2⟩)
                · skip
                  intro w8 x1
                  have xs1 := x1.size
                  have e0 := e0.trans x1
                  clear x1
                  refine PremP.nil ?_
                  exact OpYe.mk rfl ((Ye.make (base := w8.heap.size) Try.underlying22 ti5 rfl rfl (by first | omega | exact idx_u8' _ | (simp only [Int.toNat_natCast]; omega) | (simp only [List.length_map, List.length_drop, List.length_take, List.length_append, List.length_replicate]; omega) | (simp <;> omega)) (by first | omega | exact idx_u8' _ | (simp only [Int.toNat_natCast]; omega) | (simp only [List.length_map, List.length_drop, List.length_take, List.length_append, List.length_replicate]; omega) | (simp <;> omega)) (by unfold maxLen; omega) rfl (Nat.le_refl _)).mono fun v w2 h => ⟨⟨v, rfl, by have h9 := Ow.base h.1 xs1; rw [rep_B] at h9; skip; exact h9⟩, h.2⟩)
                · skip
                  intro w9 x1
                  refine PremP.own rfl fun s42_9 o42_9 => ?_
                  have o42_9b := o42_9
                  have fr_s42_9 : Fr w.heap.size s42_9.ownBlock := Fr.le (Ow.fr o42_9) e0.size
                  replace o42_9 := Ow.base o42_9 e0.size
                  have xs1 := x1.size
                  have e0 := e0.trans x1
                  clear x1
                  refine PremP.nil ?_
                  exact OpYe.mk rfl ((Yd.assign rfl).ye.mono fun v w2 h => ⟨⟨_, h.1, by rw [h.2]; exact o42_9b⟩, by rw [h.2]; exact Ext.refl _⟩)
                · skip
                  intro w10 x1
                  refine PremP.own rfl fun s42_10 o42_10 => ?_
                  have o42_10b := o42_10
                  have fr_s42_10 : Fr w.heap.size s42_10.ownBlock := Fr.le (Ow.fr o42_10) e0.size
                  replace o42_10 := Ow.base o42_10 e0.size
                  refine PremP.own rfl fun s44_10 o44_10 => ?_
                  have o44_10b := o44_10
                  have fr_s44_10 : Fr w.heap.size s44_10.ownBlock := Fr.le (Ow.fr o44_10) e0.size
                  replace o44_10 := Ow.base o44_10 e0.size
                  refine PremP.own rfl fun s7_10 o7_10 => ?_
                  have o7_10b := o7_10
                  have fr_s7_10 : Fr w.heap.size s7_10.ownBlock := Fr.le (Ow.fr o7_10) e0.size
                  replace o7_10 := Ow.base o7_10 e0.size
                  have xs1 := x1.size
                  have e0 := e0.trans x1
                  clear x1
                  refine PremP.nil ?_
                  exact OpYe.mk rfl ((Yd.assign rfl).ye.mono fun v w2 h => ⟨⟨_, h.1, by rw [h.2]; exact o44_10b⟩, by rw [h.2]; exact Ext.refl _⟩)
                intro w11 x1
                refine PremP.own rfl fun s42_11 o42_11 => ?_
                have o42_11b := o42_11
                have fr_s42_11 : Fr w.heap.size s42_11.ownBlock := Fr.le (Ow.fr o42_11) e0.size
                replace o42_11 := Ow.base o42_11 e0.size
                refine PremP.own rfl fun s44_11 o44_11 => ?_
                have o44_11b := o44_11
                have fr_s44_11 : Fr w.heap.size s44_11.ownBlock := Fr.le (Ow.fr o44_11) e0.size
                replace o44_11 := Ow.base o44_11 e0.size
                refine PremP.own rfl fun s7_11 o7_11 => ?_
                have o7_11b := o7_11
                have fr_s7_11 : Fr w.heap.size s7_11.ownBlock := Fr.le (Ow.fr o7_11) e0.size
                replace o7_11 := Ow.base o7_11 e0.size
                refine PremP.own rfl fun s8_11 o8_11 => ?_
                have o8_11b := o8_11
                have fr_s8_11 : Fr w.heap.size s8_11.ownBlock := Fr.le (Ow.fr o8_11) e0.size
                replace o8_11 := Ow.base o8_11 e0.size
                have xs1 := x1.size
                have e0 := e0.trans x1
                clear x1
                refine PremP.nil ?_
                refine J.s_nil ?_
                refine J.n_np ?_
                refine J.n_then ?_
                refine J.seq ?_
                refine J.region ?_
                refine J.op (Yd.move rfl) rfl ?_
                refine J.op (Yd.move rfl) rfl ?_
                refine J.op (Yd.move rfl) rfl ?_
                refine J.eff (Ye.call cl14 rfl (Stream_ok (Ow.rd o7_11) (Ow.rd o8_11))) rfl ?_
                rintro _ w12 ⟨s49_12, rfl, rs49_12, x1⟩
                have e0 := e0.trans x1
                have o42_11 := o42_11.ext x1
                have o44_11 := o44_11.ext x1
                have o7_11 := o7_11.ext x1
                have o8_11 := o8_11.ext x1
                clear x1
                refine J.op (Yd.move rfl) rfl ?_
                refine J.op (Yd.extract rfl rfl) rfl ?_
                refine J.op (Yd.extract rfl rfl) rfl ?_
                refine J.op (Yd.assign rfl) rfl ?_
                refine J.op (Yd.assign rfl) rfl ?_
                refine J.nil ?_
                refine J.n_then ?_
                refine J.seq ?_
                refine J.region ?_
                refine J.op (Yd.move rfl) rfl ?_
                refine J.op (Yd.move rfl) rfl ?_
                refine J.eff (Ye.call cl10 rfl (Block_ok (Ow.rd o7_11) (Ow.rd o8_11))) rfl ?_
                rintro _ w13 ⟨s55_13, rfl, rs55_13, x1⟩
                have e0 := e0.trans x1
                have o42_11 := o42_11.ext x1
                have o44_11 := o44_11.ext x1
                have o7_11 := o7_11.ext x1
                have o8_11 := o8_11.ext x1
                have rs49_12 := rs49_12.ext x1
                clear x1
                refine J.op (Yd.move rfl) rfl ?_
                refine J.op (Yd.extract rfl rfl) rfl ?_
                refine J.op (Yd.extract rfl rfl) rfl ?_
                refine J.op (Yd.assign rfl) rfl ?_
                refine J.op (Yd.assign rfl) rfl ?_
                refine J.nil ?_
                refine J.n_then ?_
                refine J.seq ?_
                refine J.region ?_
                refine J.op (Yd.move rfl) rfl ?_
                refine J.op (Yd.eql rfl rfl) rfl ?_
                refine J.op (Yd.move rfl) rfl ?_
                refine J.split_dec (t := 60) rfl (fun h7 => ?_) (fun h7 => ?_)
                · skip
                  refine J.op_g rfl rfl rfl (Yd.move rfl) rfl ?_
                  refine J.op_g rfl rfl rfl (Yd.eql rfl rfl) rfl ?_
                  refine J.op (Yd.pick_t rfl rfl) rfl ?_
                  refine J.op (Yd.move rfl) rfl ?_
                  refine J.split_dec (t := 64) rfl (fun h8 => ?_) (fun h8 => ?_)
                  · skip
                    refine J.op_g rfl rfl rfl (Yd.move rfl) rfl ?_
                    refine J.op_g rfl rfl rfl (Yd.geq rfl rfl) rfl ?_
                    refine J.op (Yd.pick_t rfl rfl) rfl ?_
                    refine J.op (Yd.move rfl) rfl ?_
                    refine J.split_dec (t := 68) rfl (fun h9 => ?_) (fun h9 => ?_)
                    · skip
                      refine J.op_g rfl rfl rfl (Yd.move rfl) rfl ?_
                      refine J.op_g rfl rfl rfl (Yd.leq rfl rfl) rfl ?_
                      refine J.op (Yd.pick_t rfl rfl) rfl ?_
                      refine J.op (Yd.assign rfl) rfl ?_
                      refine J.nil ?_
                      refine J.n_then ?_
                      refine J.seq ?_
                      refine J.region ?_
                      refine J.op (Yd.move rfl) rfl ?_
                      refine J.op (Yd.eql rfl rfl) rfl ?_
                      refine J.op (Yd.move rfl) rfl ?_
                      refine J.op (Yd.eqlb rfl rfl Try.underlying4) rfl ?_
                      refine J.op (Yd.move rfl) rfl ?_
                      refine J.know (t := 76) (v' := .bool true) rfl (tt (by rw [strE0, List.length_replicate, List.length_replicate]; exact decide_eq_decide.2 (by omega))) ?_
                      refine J.op_g rfl rfl rfl (Yd.move rfl) rfl ?_
                      refine J.op_g rfl rfl rfl (Yd.move rfl) rfl ?_
                      refine J.split_dec (t := 78) rfl (fun h10 => ?_) (fun h10 => ?_)
                      · skip
                        refine J.not_g rfl rfl rfl rfl rfl ?_
                        refine J.not_g rfl rfl rfl rfl rfl ?_
                        refine J.op_g rfl rfl rfl (Yd.pick_t rfl rfl) rfl ?_
                        refine J.op (Yd.pick_t rfl rfl) rfl ?_
                        refine J.op (Yd.move rfl) rfl ?_
                        refine J.op_g rfl rfl rfl (Yd.move rfl) rfl ?_
                        refine J.op_g rfl rfl rfl (Yd.len_b Try.underlying22 rfl rs49_12) rfl ?_
                        refine J.op_g rfl rfl rfl (Yd.move rfl) rfl ?_
                        refine J.op_g rfl rfl rfl (Yd.maxi rfl rfl) rfl ?_
                        refine J.op_g rfl rfl rfl (Yd.move rfl) rfl ?_
                        refine J.eff_g rfl rfl rfl (Ye.call cl15 rfl (One_ok)) rfl ?_
                        rintro _ w14 ⟨rfl, x1⟩
                        have e0 := e0.trans x1
                        have o42_11 := o42_11.ext x1
                        have o44_11 := o44_11.ext x1
                        have o7_11 := o7_11.ext x1
                        have o8_11 := o8_11.ext x1
                        have rs49_12 := rs49_12.ext x1
                        have rs55_13 := rs55_13.ext x1
                        clear x1
                        refine J.op_g rfl rfl rfl (Yd.mul rfl rfl (by split <;> split <;> omega)) rfl ?_
                        refine J.op_g rfl rfl rfl (Yd.eql rfl rfl) rfl ?_
                        refine J.op (Yd.pick_t rfl rfl) rfl ?_
                        refine J.op (Yd.move rfl) rfl ?_
                        refine J.know (t := 93) (v' := .bool true) rfl (tt (by exact lim_len kn.toNat mn.toNat n (by omega))) ?_
                        refine J.op_g rfl rfl rfl (Yd.move rfl) rfl ?_
                        refine J.op_g rfl rfl rfl (Yd.eql rfl rfl) rfl ?_
                        refine J.op_g rfl rfl rfl (Yd.move rfl) rfl ?_
                        refine J.op_g rfl rfl rfl (Yd.eql rfl rfl) rfl ?_
                        refine J.op_g rfl rfl rfl (Yd.move rfl) rfl ?_
                        refine J.split_dec (t := 98) rfl (fun h11 => ?_) (fun h11 => ?_)
                        · skip
                          refine J.op_g rfl rfl rfl (Yd.move rfl) rfl ?_
                          refine J.op_g rfl rfl rfl (Yd.eql rfl rfl) rfl ?_
                          refine J.op_g rfl rfl rfl (Yd.pick_t rfl rfl) rfl ?_
                          refine J.op_g rfl rfl rfl (Yd.eqlb rfl rfl Try.underlying4) rfl ?_
                          refine J.op (Yd.pick_t rfl rfl) rfl ?_
                          refine J.op (Yd.move rfl) rfl ?_
                          refine J.know (t := 104) (v' := .bool true) rfl (tt (by rw [blkE0, List.length_replicate, List.length_replicate]; exact decide_eq_decide.2 (by omega))) ?_
                          refine J.eff_g rfl rfl rfl (Ye.call cl9 rfl (awake_ok)) rfl ?_
                          rintro _ w15 ⟨rfl, x1⟩
                          have e0 := e0.trans x1
                          have o42_11 := o42_11.ext x1
                          have o44_11 := o44_11.ext x1
                          have o7_11 := o7_11.ext x1
                          have o8_11 := o8_11.ext x1
                          have rs49_12 := rs49_12.ext x1
                          have rs55_13 := rs55_13.ext x1
                          clear x1
                          refine J.op (Yd.pick_t rfl rfl) rfl ?_
                          refine J.op (Yd.assign rfl) rfl ?_
                          refine J.nil ?_
                          refine J.n_then ?_
                          refine J.ret ?_
                          exact J.ret1 rfl rfl (⟨_, rfl, rfl, e0⟩)
                        · skip
                          refine J.not_g rfl rfl rfl rfl rfl ?_
                          refine J.not_g rfl rfl rfl rfl rfl ?_
                          refine J.op_g rfl rfl rfl (Yd.pick_f rfl rfl) rfl ?_
                          refine J.op_g rfl rfl rfl (Yd.eqlb rfl rfl Try.underlying4) rfl ?_
                          refine J.op (Yd.pick_t rfl rfl) rfl ?_
                          refine J.op (Yd.move rfl) rfl ?_
                          refine J.know (t := 104) (v' := .bool true) rfl (tt (by rw [blkE0, List.length_replicate, List.length_replicate]; exact decide_eq_false (by omega))) ?_
                          refine J.eff_g rfl rfl rfl (Ye.call cl9 rfl (awake_ok)) rfl ?_
                          rintro _ w16 ⟨rfl, x1⟩
                          have e0 := e0.trans x1
                          have o42_11 := o42_11.ext x1
                          have o44_11 := o44_11.ext x1
                          have o7_11 := o7_11.ext x1
                          have o8_11 := o8_11.ext x1
                          have rs49_12 := rs49_12.ext x1
                          have rs55_13 := rs55_13.ext x1
                          clear x1
                          refine J.op (Yd.pick_t rfl rfl) rfl ?_
                          refine J.op (Yd.assign rfl) rfl ?_
                          refine J.nil ?_
                          refine J.n_then ?_
                          refine J.ret ?_
                          exact J.ret1 rfl rfl (⟨_, rfl, rfl, e0⟩)
                      · skip
                        refine J.op_g rfl rfl rfl (Yd.move rfl) rfl ?_
                        refine J.op_g rfl rfl rfl (Yd.eql rfl rfl) rfl ?_
                        refine J.op_g rfl rfl rfl (Yd.pick_f rfl rfl) rfl ?_
                        refine J.op (Yd.pick_t rfl rfl) rfl ?_
                        refine J.op (Yd.move rfl) rfl ?_
                        refine J.know (t := 83) (v' := .bool true) rfl (tt (by exact strE_no (by simp only [List.length_replicate]; omega))) ?_
                        refine J.op_g rfl rfl rfl (Yd.move rfl) rfl ?_
                        refine J.op_g rfl rfl rfl (Yd.len_b Try.underlying22 rfl rs49_12) rfl ?_
                        refine J.op_g rfl rfl rfl (Yd.move rfl) rfl ?_
                        refine J.op_g rfl rfl rfl (Yd.maxi rfl rfl) rfl ?_
                        refine J.op_g rfl rfl rfl (Yd.move rfl) rfl ?_
                        refine J.eff_g rfl rfl rfl (Ye.call cl15 rfl (One_ok)) rfl ?_
                        rintro _ w17 ⟨rfl, x1⟩
                        have e0 := e0.trans x1
                        have o42_11 := o42_11.ext x1
                        have o44_11 := o44_11.ext x1
                        have o7_11 := o7_11.ext x1
                        have o8_11 := o8_11.ext x1
                        have rs49_12 := rs49_12.ext x1
                        have rs55_13 := rs55_13.ext x1
                        clear x1
                        refine J.op_g rfl rfl rfl (Yd.mul rfl rfl (by split <;> split <;> omega)) rfl ?_
                        refine J.op_g rfl rfl rfl (Yd.eql rfl rfl) rfl ?_
                        refine J.op (Yd.pick_t rfl rfl) rfl ?_
                        refine J.op (Yd.move rfl) rfl ?_
                        refine J.know (t := 93) (v' := .bool true) rfl (tt (by exact lim_len kn.toNat mn.toNat n (by omega))) ?_
                        refine J.op_g rfl rfl rfl (Yd.move rfl) rfl ?_
                        refine J.op_g rfl rfl rfl (Yd.eql rfl rfl) rfl ?_
                        refine J.op_g rfl rfl rfl (Yd.move rfl) rfl ?_
                        refine J.op_g rfl rfl rfl (Yd.eql rfl rfl) rfl ?_
                        refine J.op_g rfl rfl rfl (Yd.move rfl) rfl ?_
                        refine J.split_dec (t := 98) rfl (fun h11 => ?_) (fun h11 => ?_)
                        · skip
                          refine J.op_g rfl rfl rfl (Yd.move rfl) rfl ?_
                          refine J.op_g rfl rfl rfl (Yd.eql rfl rfl) rfl ?_
                          refine J.op_g rfl rfl rfl (Yd.pick_t rfl rfl) rfl ?_
                          refine J.op_g rfl rfl rfl (Yd.eqlb rfl rfl Try.underlying4) rfl ?_
                          refine J.op (Yd.pick_t rfl rfl) rfl ?_
                          refine J.op (Yd.move rfl) rfl ?_
                          refine J.know (t := 104) (v' := .bool true) rfl (tt (by rw [blkE0, List.length_replicate, List.length_replicate]; exact decide_eq_decide.2 (by omega))) ?_
                          refine J.eff_g rfl rfl rfl (Ye.call cl9 rfl (awake_ok)) rfl ?_
                          rintro _ w18 ⟨rfl, x1⟩
                          have e0 := e0.trans x1
                          have o42_11 := o42_11.ext x1
                          have o44_11 := o44_11.ext x1
                          have o7_11 := o7_11.ext x1
                          have o8_11 := o8_11.ext x1
                          have rs49_12 := rs49_12.ext x1
                          have rs55_13 := rs55_13.ext x1
                          clear x1
                          refine J.op (Yd.pick_t rfl rfl) rfl ?_
                          refine J.op (Yd.assign rfl) rfl ?_
                          refine J.nil ?_
                          refine J.n_then ?_
                          refine J.ret ?_
                          exact J.ret1 rfl rfl (⟨_, rfl, rfl, e0⟩)
                        · skip
                          refine J.not_g rfl rfl rfl rfl rfl ?_
                          refine J.not_g rfl rfl rfl rfl rfl ?_
                          refine J.op_g rfl rfl rfl (Yd.pick_f rfl rfl) rfl ?_
                          refine J.op_g rfl rfl rfl (Yd.eqlb rfl rfl Try.underlying4) rfl ?_
                          refine J.op (Yd.pick_t rfl rfl) rfl ?_
                          refine J.op (Yd.move rfl) rfl ?_
                          refine J.know (t := 104) (v' := .bool true) rfl (tt (by rw [blkE0, List.length_replicate, List.length_replicate]; exact decide_eq_false (by omega))) ?_
                          refine J.eff_g rfl rfl rfl (Ye.call cl9 rfl (awake_ok)) rfl ?_
                          rintro _ w19 ⟨rfl, x1⟩
                          have e0 := e0.trans x1
                          have o42_11 := o42_11.ext x1
                          have o44_11 := o44_11.ext x1
                          have o7_11 := o7_11.ext x1
                          have o8_11 := o8_11.ext x1
                          have rs49_12 := rs49_12.ext x1
                          have rs55_13 := rs55_13.ext x1
                          clear x1
                          refine J.op (Yd.pick_t rfl rfl) rfl ?_
                          refine J.op (Yd.assign rfl) rfl ?_
                          refine J.nil ?_
                          refine J.n_then ?_
                          refine J.ret ?_
                          exact J.ret1 rfl rfl (⟨_, rfl, rfl, e0⟩)
                    · skip
                      refine J.not_g rfl rfl rfl rfl rfl ?_
                      refine J.not_g rfl rfl rfl rfl rfl ?_
                      refine J.op (Yd.pick_f rfl rfl) rfl ?_
                      refine J.op (Yd.assign rfl) rfl ?_
                      refine J.nil ?_
                      refine J.n_then ?_
                      refine J.seq ?_
                      refine J.region ?_
                      refine J.op (Yd.move rfl) rfl ?_
                      refine J.op (Yd.eql rfl rfl) rfl ?_
                      refine J.op (Yd.move rfl) rfl ?_
                      refine J.op (Yd.eqlb rfl rfl Try.underlying4) rfl ?_
                      refine J.op (Yd.move rfl) rfl ?_
                      refine J.know (t := 76) (v' := .bool true) rfl (tt (by rw [strE0, List.length_replicate, List.length_replicate]; exact decide_eq_false (by omega))) ?_
                      refine J.op_g rfl rfl rfl (Yd.move rfl) rfl ?_
                      refine J.op_g rfl rfl rfl (Yd.move rfl) rfl ?_
                      refine J.op_g rfl rfl rfl (Yd.move rfl) rfl ?_
                      refine J.op_g rfl rfl rfl (Yd.eql rfl rfl) rfl ?_
                      refine J.op_g rfl rfl rfl (Yd.pick_f rfl rfl) rfl ?_
                      refine J.op (Yd.pick_t rfl rfl) rfl ?_
                      refine J.op (Yd.move rfl) rfl ?_
                      refine J.know (t := 83) (v' := .bool true) rfl (tt (by exact strE_no (by simp only [List.length_replicate]; omega))) ?_
                      refine J.op_g rfl rfl rfl (Yd.move rfl) rfl ?_
                      refine J.op_g rfl rfl rfl (Yd.len_b Try.underlying22 rfl rs49_12) rfl ?_
                      refine J.op_g rfl rfl rfl (Yd.move rfl) rfl ?_
                      refine J.op_g rfl rfl rfl (Yd.maxi rfl rfl) rfl ?_
                      refine J.op_g rfl rfl rfl (Yd.move rfl) rfl ?_
                      refine J.eff_g rfl rfl rfl (Ye.call cl15 rfl (One_ok)) rfl ?_
                      rintro _ w20 ⟨rfl, x1⟩
                      have e0 := e0.trans x1
                      have o42_11 := o42_11.ext x1
                      have o44_11 := o44_11.ext x1
                      have o7_11 := o7_11.ext x1
                      have o8_11 := o8_11.ext x1
                      have rs49_12 := rs49_12.ext x1
                      have rs55_13 := rs55_13.ext x1
                      clear x1
                      refine J.op_g rfl rfl rfl (Yd.mul rfl rfl (by split <;> split <;> omega)) rfl ?_
                      refine J.op_g rfl rfl rfl (Yd.eql rfl rfl) rfl ?_
                      refine J.op (Yd.pick_t rfl rfl) rfl ?_
                      refine J.op (Yd.move rfl) rfl ?_
                      refine J.know (t := 93) (v' := .bool true) rfl (tt (by rw [strQ_no (by simp only [List.length_replicate]; omega)]; simp)) ?_
                      refine J.op_g rfl rfl rfl (Yd.move rfl) rfl ?_
                      refine J.op_g rfl rfl rfl (Yd.eql rfl rfl) rfl ?_
                      refine J.op_g rfl rfl rfl (Yd.move rfl) rfl ?_
                      refine J.op_g rfl rfl rfl (Yd.eql rfl rfl) rfl ?_
                      refine J.op_g rfl rfl rfl (Yd.move rfl) rfl ?_
                      refine J.split_dec (t := 98) rfl (fun h11 => ?_) (fun h11 => ?_)
                      · skip
                        refine J.op_g rfl rfl rfl (Yd.move rfl) rfl ?_
                        refine J.op_g rfl rfl rfl (Yd.eql rfl rfl) rfl ?_
                        refine J.op_g rfl rfl rfl (Yd.pick_t rfl rfl) rfl ?_
                        refine J.op_g rfl rfl rfl (Yd.eqlb rfl rfl Try.underlying4) rfl ?_
                        refine J.op (Yd.pick_t rfl rfl) rfl ?_
                        refine J.op (Yd.move rfl) rfl ?_
                        refine J.know (t := 104) (v' := .bool true) rfl (tt (by rw [blkE0, List.length_replicate, List.length_replicate]; exact decide_eq_decide.2 (by omega))) ?_
                        refine J.eff_g rfl rfl rfl (Ye.call cl9 rfl (awake_ok)) rfl ?_
                        rintro _ w21 ⟨rfl, x1⟩
                        have e0 := e0.trans x1
                        have o42_11 := o42_11.ext x1
                        have o44_11 := o44_11.ext x1
                        have o7_11 := o7_11.ext x1
                        have o8_11 := o8_11.ext x1
                        have rs49_12 := rs49_12.ext x1
                        have rs55_13 := rs55_13.ext x1
                        clear x1
                        refine J.op (Yd.pick_t rfl rfl) rfl ?_
                        refine J.op (Yd.assign rfl) rfl ?_
                        refine J.nil ?_
                        refine J.n_then ?_
                        refine J.ret ?_
                        exact J.ret1 rfl rfl (⟨_, rfl, rfl, e0⟩)
                      · skip
                        refine J.not_g rfl rfl rfl rfl rfl ?_
                        refine J.not_g rfl rfl rfl rfl rfl ?_
                        refine J.op_g rfl rfl rfl (Yd.pick_f rfl rfl) rfl ?_
                        refine J.op_g rfl rfl rfl (Yd.eqlb rfl rfl Try.underlying4) rfl ?_
                        refine J.op (Yd.pick_t rfl rfl) rfl ?_
                        refine J.op (Yd.move rfl) rfl ?_
                        refine J.know (t := 104) (v' := .bool true) rfl (tt (by rw [blkE0, List.length_replicate, List.length_replicate]; exact decide_eq_false (by omega))) ?_
                        refine J.eff_g rfl rfl rfl (Ye.call cl9 rfl (awake_ok)) rfl ?_
                        rintro _ w22 ⟨rfl, x1⟩
                        have e0 := e0.trans x1
                        have o42_11 := o42_11.ext x1
                        have o44_11 := o44_11.ext x1
                        have o7_11 := o7_11.ext x1
                        have o8_11 := o8_11.ext x1
                        have rs49_12 := rs49_12.ext x1
                        have rs55_13 := rs55_13.ext x1
                        clear x1
                        refine J.op (Yd.pick_t rfl rfl) rfl ?_
                        refine J.op (Yd.assign rfl) rfl ?_
                        refine J.nil ?_
                        refine J.n_then ?_
                        refine J.ret ?_
                        exact J.ret1 rfl rfl (⟨_, rfl, rfl, e0⟩)
                  · skip
                    refine J.not_g rfl rfl rfl rfl rfl ?_
                    refine J.not_g rfl rfl rfl rfl rfl ?_
                    refine J.op (Yd.pick_f rfl rfl) rfl ?_
                    refine J.op (Yd.move rfl) rfl ?_
                    refine J.not_g rfl rfl rfl rfl rfl ?_
                    refine J.not_g rfl rfl rfl rfl rfl ?_
                    refine J.op (Yd.pick_f rfl rfl) rfl ?_
                    refine J.op (Yd.assign rfl) rfl ?_
                    refine J.nil ?_
                    refine J.n_then ?_
                    refine J.seq ?_
                    refine J.region ?_
                    refine J.op (Yd.move rfl) rfl ?_
                    refine J.op (Yd.eql rfl rfl) rfl ?_
                    refine J.op (Yd.move rfl) rfl ?_
                    refine J.op (Yd.eqlb rfl rfl Try.underlying4) rfl ?_
                    refine J.op (Yd.move rfl) rfl ?_
                    refine J.know (t := 76) (v' := .bool true) rfl (tt (by rw [strE0, List.length_replicate, List.length_replicate]; exact decide_eq_false (by omega))) ?_
                    refine J.op_g rfl rfl rfl (Yd.move rfl) rfl ?_
                    refine J.op_g rfl rfl rfl (Yd.move rfl) rfl ?_
                    refine J.op_g rfl rfl rfl (Yd.move rfl) rfl ?_
                    refine J.op_g rfl rfl rfl (Yd.eql rfl rfl) rfl ?_
                    refine J.op_g rfl rfl rfl (Yd.pick_f rfl rfl) rfl ?_
                    refine J.op (Yd.pick_t rfl rfl) rfl ?_
                    refine J.op (Yd.move rfl) rfl ?_
                    refine J.know (t := 83) (v' := .bool true) rfl (tt (by exact strE_no (by simp only [List.length_replicate]; omega))) ?_
                    refine J.op_g rfl rfl rfl (Yd.move rfl) rfl ?_
                    refine J.op_g rfl rfl rfl (Yd.len_b Try.underlying22 rfl rs49_12) rfl ?_
                    refine J.op_g rfl rfl rfl (Yd.move rfl) rfl ?_
                    refine J.op_g rfl rfl rfl (Yd.maxi rfl rfl) rfl ?_
                    refine J.op_g rfl rfl rfl (Yd.move rfl) rfl ?_
                    refine J.eff_g rfl rfl rfl (Ye.call cl15 rfl (One_ok)) rfl ?_
                    rintro _ w23 ⟨rfl, x1⟩
                    have e0 := e0.trans x1
                    have o42_11 := o42_11.ext x1
                    have o44_11 := o44_11.ext x1
                    have o7_11 := o7_11.ext x1
                    have o8_11 := o8_11.ext x1
                    have rs49_12 := rs49_12.ext x1
                    have rs55_13 := rs55_13.ext x1
                    clear x1
                    refine J.op_g rfl rfl rfl (Yd.mul rfl rfl (by split <;> split <;> omega)) rfl ?_
                    refine J.op_g rfl rfl rfl (Yd.eql rfl rfl) rfl ?_
                    refine J.op (Yd.pick_t rfl rfl) rfl ?_
                    refine J.op (Yd.move rfl) rfl ?_
                    refine J.know (t := 93) (v' := .bool true) rfl (tt (by rw [strQ_no (by simp only [List.length_replicate]; omega)]; simp)) ?_
                    refine J.op_g rfl rfl rfl (Yd.move rfl) rfl ?_
                    refine J.op_g rfl rfl rfl (Yd.eql rfl rfl) rfl ?_
                    refine J.op_g rfl rfl rfl (Yd.move rfl) rfl ?_
                    refine J.op_g rfl rfl rfl (Yd.eql rfl rfl) rfl ?_
                    refine J.op_g rfl rfl rfl (Yd.move rfl) rfl ?_
                    refine J.split_dec (t := 98) rfl (fun h11 => ?_) (fun h11 => ?_)
                    · skip
                      refine J.op_g rfl rfl rfl (Yd.move rfl) rfl ?_
                      refine J.op_g rfl rfl rfl (Yd.eql rfl rfl) rfl ?_
                      refine J.op_g rfl rfl rfl (Yd.pick_t rfl rfl) rfl ?_
                      refine J.op_g rfl rfl rfl (Yd.eqlb rfl rfl Try.underlying4) rfl ?_
                      refine J.op (Yd.pick_t rfl rfl) rfl ?_
                      refine J.op (Yd.move rfl) rfl ?_
                      refine J.know (t := 104) (v' := .bool true) rfl (tt (by rw [blkE0, List.length_replicate, List.length_replicate]; exact decide_eq_decide.2 (by omega))) ?_
                      refine J.eff_g rfl rfl rfl (Ye.call cl9 rfl (awake_ok)) rfl ?_
                      rintro _ w24 ⟨rfl, x1⟩
                      have e0 := e0.trans x1
                      have o42_11 := o42_11.ext x1
                      have o44_11 := o44_11.ext x1
                      have o7_11 := o7_11.ext x1
                      have o8_11 := o8_11.ext x1
                      have rs49_12 := rs49_12.ext x1
                      have rs55_13 := rs55_13.ext x1
                      clear x1
                      refine J.op (Yd.pick_t rfl rfl) rfl ?_
                      refine J.op (Yd.assign rfl) rfl ?_
                      refine J.nil ?_
                      refine J.n_then ?_
                      refine J.ret ?_
                      exact J.ret1 rfl rfl (⟨_, rfl, rfl, e0⟩)
                    · skip
                      refine J.not_g rfl rfl rfl rfl rfl ?_
                      refine J.not_g rfl rfl rfl rfl rfl ?_
                      refine J.op_g rfl rfl rfl (Yd.pick_f rfl rfl) rfl ?_
                      refine J.op_g rfl rfl rfl (Yd.eqlb rfl rfl Try.underlying4) rfl ?_
                      refine J.op (Yd.pick_t rfl rfl) rfl ?_
                      refine J.op (Yd.move rfl) rfl ?_
                      refine J.know (t := 104) (v' := .bool true) rfl (tt (by rw [blkE0, List.length_replicate, List.length_replicate]; exact decide_eq_false (by omega))) ?_
                      refine J.eff_g rfl rfl rfl (Ye.call cl9 rfl (awake_ok)) rfl ?_
                      rintro _ w25 ⟨rfl, x1⟩
                      have e0 := e0.trans x1
                      have o42_11 := o42_11.ext x1
                      have o44_11 := o44_11.ext x1
                      have o7_11 := o7_11.ext x1
                      have o8_11 := o8_11.ext x1
                      have rs49_12 := rs49_12.ext x1
                      have rs55_13 := rs55_13.ext x1
                      clear x1
                      refine J.op (Yd.pick_t rfl rfl) rfl ?_
                      refine J.op (Yd.assign rfl) rfl ?_
                      refine J.nil ?_
                      refine J.n_then ?_
                      refine J.ret ?_
                      exact J.ret1 rfl rfl (⟨_, rfl, rfl, e0⟩)
                · skip
                  refine J.not_g rfl rfl rfl rfl rfl ?_
                  refine J.not_g rfl rfl rfl rfl rfl ?_
                  refine J.op (Yd.pick_f rfl rfl) rfl ?_
                  refine J.op (Yd.move rfl) rfl ?_
                  refine J.not_g rfl rfl rfl rfl rfl ?_
                  refine J.not_g rfl rfl rfl rfl rfl ?_
                  refine J.op (Yd.pick_f rfl rfl) rfl ?_
                  refine J.op (Yd.move rfl) rfl ?_
                  refine J.not_g rfl rfl rfl rfl rfl ?_
                  refine J.not_g rfl rfl rfl rfl rfl ?_
                  refine J.op (Yd.pick_f rfl rfl) rfl ?_
                  refine J.op (Yd.assign rfl) rfl ?_
                  refine J.nil ?_
                  refine J.n_then ?_
                  refine J.seq ?_
                  refine J.region ?_
                  refine J.op (Yd.move rfl) rfl ?_
                  refine J.op (Yd.eql rfl rfl) rfl ?_
                  refine J.op (Yd.move rfl) rfl ?_
                  refine J.op (Yd.eqlb rfl rfl Try.underlying4) rfl ?_
                  refine J.op (Yd.move rfl) rfl ?_
                  refine J.know (t := 76) (v' := .bool true) rfl (tt (by rw [strE0, List.length_replicate, List.length_replicate]; exact decide_eq_false (by omega))) ?_
                  refine J.op_g rfl rfl rfl (Yd.move rfl) rfl ?_
                  refine J.op_g rfl rfl rfl (Yd.move rfl) rfl ?_
                  refine J.op_g rfl rfl rfl (Yd.move rfl) rfl ?_
                  refine J.op_g rfl rfl rfl (Yd.eql rfl rfl) rfl ?_
                  refine J.op_g rfl rfl rfl (Yd.pick_f rfl rfl) rfl ?_
                  refine J.op (Yd.pick_t rfl rfl) rfl ?_
                  refine J.op (Yd.move rfl) rfl ?_
                  refine J.know (t := 83) (v' := .bool true) rfl (tt (by exact strE_no (by simp only [List.length_replicate]; omega))) ?_
                  refine J.op_g rfl rfl rfl (Yd.move rfl) rfl ?_
                  refine J.op_g rfl rfl rfl (Yd.len_b Try.underlying22 rfl rs49_12) rfl ?_
                  refine J.op_g rfl rfl rfl (Yd.move rfl) rfl ?_
                  refine J.op_g rfl rfl rfl (Yd.maxi rfl rfl) rfl ?_
                  refine J.op_g rfl rfl rfl (Yd.move rfl) rfl ?_
                  refine J.eff_g rfl rfl rfl (Ye.call cl15 rfl (One_ok)) rfl ?_
                  rintro _ w26 ⟨rfl, x1⟩
                  have e0 := e0.trans x1
                  have o42_11 := o42_11.ext x1
                  have o44_11 := o44_11.ext x1
                  have o7_11 := o7_11.ext x1
                  have o8_11 := o8_11.ext x1
                  have rs49_12 := rs49_12.ext x1
                  have rs55_13 := rs55_13.ext x1
                  clear x1
                  refine J.op_g rfl rfl rfl (Yd.mul rfl rfl (by split <;> split <;> omega)) rfl ?_
                  refine J.op_g rfl rfl rfl (Yd.eql rfl rfl) rfl ?_
                  refine J.op (Yd.pick_t rfl rfl) rfl ?_
                  refine J.op (Yd.move rfl) rfl ?_
                  refine J.know (t := 93) (v' := .bool true) rfl (tt (by rw [strQ_no (by simp only [List.length_replicate]; omega)]; simp)) ?_
                  refine J.op_g rfl rfl rfl (Yd.move rfl) rfl ?_
                  refine J.op_g rfl rfl rfl (Yd.eql rfl rfl) rfl ?_
                  refine J.op_g rfl rfl rfl (Yd.move rfl) rfl ?_
                  refine J.op_g rfl rfl rfl (Yd.eql rfl rfl) rfl ?_
                  refine J.op_g rfl rfl rfl (Yd.move rfl) rfl ?_
                  refine J.split_dec (t := 98) rfl (fun h11 => ?_) (fun h11 => ?_)
                  · skip
                    refine J.op_g rfl rfl rfl (Yd.move rfl) rfl ?_
                    refine J.op_g rfl rfl rfl (Yd.eql rfl rfl) rfl ?_
                    refine J.op_g rfl rfl rfl (Yd.pick_t rfl rfl) rfl ?_
                    refine J.op_g rfl rfl rfl (Yd.eqlb rfl rfl Try.underlying4) rfl ?_
                    refine J.op (Yd.pick_t rfl rfl) rfl ?_
                    refine J.op (Yd.move rfl) rfl ?_
                    refine J.know (t := 104) (v' := .bool true) rfl (tt (by rw [blkE0, List.length_replicate, List.length_replicate]; exact decide_eq_decide.2 (by omega))) ?_
                    refine J.eff_g rfl rfl rfl (Ye.call cl9 rfl (awake_ok)) rfl ?_
                    rintro _ w27 ⟨rfl, x1⟩
                    have e0 := e0.trans x1
                    have o42_11 := o42_11.ext x1
                    have o44_11 := o44_11.ext x1
                    have o7_11 := o7_11.ext x1
                    have o8_11 := o8_11.ext x1
                    have rs49_12 := rs49_12.ext x1
                    have rs55_13 := rs55_13.ext x1
                    clear x1
                    refine J.op (Yd.pick_t rfl rfl) rfl ?_
                    refine J.op (Yd.assign rfl) rfl ?_
                    refine J.nil ?_
                    refine J.n_then ?_
                    refine J.ret ?_
                    exact J.ret1 rfl rfl (⟨_, rfl, rfl, e0⟩)
                  · skip
                    refine J.not_g rfl rfl rfl rfl rfl ?_
                    refine J.not_g rfl rfl rfl rfl rfl ?_
                    refine J.op_g rfl rfl rfl (Yd.pick_f rfl rfl) rfl ?_
                    refine J.op_g rfl rfl rfl (Yd.eqlb rfl rfl Try.underlying4) rfl ?_
                    refine J.op (Yd.pick_t rfl rfl) rfl ?_
                    refine J.op (Yd.move rfl) rfl ?_
                    refine J.know (t := 104) (v' := .bool true) rfl (tt (by rw [blkE0, List.length_replicate, List.length_replicate]; exact decide_eq_false (by omega))) ?_
                    refine J.eff_g rfl rfl rfl (Ye.call cl9 rfl (awake_ok)) rfl ?_
                    rintro _ w28 ⟨rfl, x1⟩
                    have e0 := e0.trans x1
                    have o42_11 := o42_11.ext x1
                    have o44_11 := o44_11.ext x1
                    have o7_11 := o7_11.ext x1
                    have o8_11 := o8_11.ext x1
                    have rs49_12 := rs49_12.ext x1
                    have rs55_13 := rs55_13.ext x1
                    clear x1
                    refine J.op (Yd.pick_t rfl rfl) rfl ?_
                    refine J.op (Yd.assign rfl) rfl ?_
                    refine J.nil ?_
                    refine J.n_then ?_
                    refine J.ret ?_
                    exact J.ret1 rfl rfl (⟨_, rfl, rfl, e0⟩)
            · skip
              refine J.not_g rfl rfl rfl rfl rfl ?_
              refine J.not_g rfl rfl rfl rfl rfl ?_
              refine J.op_g rfl rfl rfl (Yd.pick_f rfl rfl) rfl ?_
              refine J.op (Yd.pick_f rfl rfl) rfl ?_
              refine J.nil ?_
              refine J.n_then ?_
              refine J.cond_false rfl ?_
              refine J.skip ?_
              refine J.n_then ?_
              refine J.seq ?_
              refine J.regionA [(0, true), (2, true)] [(1, Asr.own 42 w.heap.size 5 (((List.replicate kn.toNat (0 : UInt8)).map fun x => B x))), (3, Asr.own 44 w.heap.size 5 (((List.replicate mn.toNat (0 : UInt8)).map fun x => B x))), (4, Asr.own 7 w.heap.size 5 (((List.replicate kn.toNat (0 : UInt8)).map fun x => B x))), (5, Asr.own 8 w.heap.size 5 (((List.replicate mn.toNat (0 : UInt8)).map fun x => B x)))] [1, 3, 4, 5] [42, 44, 7, 8] [[], [], [0], [0, 1, 2]] [] rfl rfl mix (by kernel_rfl) ?_
              refine J.s_op rfl (fun _ => Yd.move rfl) rfl ?_
              refine J.s_op rfl (fun _ => Yd.move rfl) rfl ?_
              refine J.s_nil ?_
              refine J.a_in [0, 1, 2, 3] rfl (by rfl) ⟨?_, ?_, ?_, ?_, trivial⟩ ?_
              · skip
                intro w29 x1
                have xs1 := x1.size
                have e0 := e0.trans x1
                clear x1
                refine PremP.nil ?_
                exact OpYe.mk rfl ((Ye.make (base := w29.heap.size) Try.underlying22 ti5 rfl rfl (by first | omega | exact idx_u8' _ | (simp only [Int.toNat_natCast]; omega) | (simp only [List.length_map, List.length_drop, List.length_take, List.length_append, List.length_replicate]; omega) | (simp <;> omega)) (by first | omega | exact idx_u8' _ | (simp only [Int.toNat_natCast]; omega) | (simp only [List.length_map, List.length_drop, List.length_take, List.length_append, List.length_replicate]; omega) | (simp <;> omega)) (by unfold maxLen; omega) rfl (Nat.le_refl _)).mono fun v w2 h => ⟨⟨v, rfl, by have h9 := Ow.base h.1 xs1; rw [rep_B] at h9; skip; exact h9⟩, h.2⟩)
              · skip
                intro w30 x1
                have xs1 := x1.size
                have e0 := e0.trans x1
                clear x1
                refine PremP.nil ?_
                exact OpYe.mk rfl ((Ye.make (base := w30.heap.size) Try.underlying22 ti5 rfl rfl (by first | omega | exact idx_u8' _ | (simp only [Int.toNat_natCast]; omega) | (simp only [List.length_map, List.length_drop, List.length_take, List.length_append, List.length_replicate]; omega) | (simp <;> omega)) (by first | omega | exact idx_u8' _ | (simp only [Int.toNat_natCast]; omega) | (simp only [List.length_map, List.length_drop, List.length_take, List.length_append, List.length_replicate]; omega) | (simp <;> omega)) (by unfold maxLen; omega) rfl (Nat.le_refl _)).mono fun v w2 h => ⟨⟨v, rfl, by have h9 := Ow.base h.1 xs1; rw [rep_B] at h9; skip; exact h9⟩, h.2⟩)
              · skip
                intro w31 x1
                refine PremP.own rfl fun s42_31 o42_31 => ?_
                have o42_31b := o42_31
                have fr_s42_31 : Fr w.heap.size s42_31.ownBlock := Fr.le (Ow.fr o42_31) e0.size
                replace o42_31 := Ow.base o42_31 e0.size
                have xs1 := x1.size
                have e0 := e0.trans x1
                clear x1
                refine PremP.nil ?_
                exact OpYe.mk rfl ((Yd.assign rfl).ye.mono fun v w2 h => ⟨⟨_, h.1, by rw [h.2]; exact o42_31b⟩, by rw [h.2]; exact Ext.refl _⟩)
              · skip
                intro w32 x1
                refine PremP.own rfl fun s42_32 o42_32 => ?_
                have o42_32b := o42_32
                have fr_s42_32 : Fr w.heap.size s42_32.ownBlock := Fr.le (Ow.fr o42_32) e0.size
                replace o42_32 := Ow.base o42_32 e0.size
                refine PremP.own rfl fun s44_32 o44_32 => ?_
                have o44_32b := o44_32
                have fr_s44_32 : Fr w.heap.size s44_32.ownBlock := Fr.le (Ow.fr o44_32) e0.size
                replace o44_32 := Ow.base o44_32 e0.size
                refine PremP.own rfl fun s7_32 o7_32 => ?_
                have o7_32b := o7_32
                have fr_s7_32 : Fr w.heap.size s7_32.ownBlock := Fr.le (Ow.fr o7_32) e0.size
                replace o7_32 := Ow.base o7_32 e0.size
                have xs1 := x1.size
                have e0 := e0.trans x1
                clear x1
                refine PremP.nil ?_
                exact OpYe.mk rfl ((Yd.assign rfl).ye.mono fun v w2 h => ⟨⟨_, h.1, by rw [h.2]; exact o44_32b⟩, by rw [h.2]; exact Ext.refl _⟩)
              intro w33 x1
              refine PremP.own rfl fun s42_33 o42_33 => ?_
              have o42_33b := o42_33
              have fr_s42_33 : Fr w.heap.size s42_33.ownBlock := Fr.le (Ow.fr o42_33) e0.size
              replace o42_33 := Ow.base o42_33 e0.size
              refine PremP.own rfl fun s44_33 o44_33 => ?_
              have o44_33b := o44_33
              have fr_s44_33 : Fr w.heap.size s44_33.ownBlock := Fr.le (Ow.fr o44_33) e0.size
              replace o44_33 := Ow.base o44_33 e0.size
              refine PremP.own rfl fun s7_33 o7_33 => ?_
              have o7_33b := o7_33
              have fr_s7_33 : Fr w.heap.size s7_33.ownBlock := Fr.le (Ow.fr o7_33) e0.size
              replace o7_33 := Ow.base o7_33 e0.size
              refine PremP.own rfl fun s8_33 o8_33 => ?_
              have o8_33b := o8_33
              have fr_s8_33 : Fr w.heap.size s8_33.ownBlock := Fr.le (Ow.fr o8_33) e0.size
              replace o8_33 := Ow.base o8_33 e0.size
              have xs1 := x1.size
              have e0 := e0.trans x1
              clear x1
              refine PremP.nil ?_
              refine J.s_nil ?_
              refine J.n_np ?_
              refine J.n_then ?_
              refine J.seq ?_
              refine J.region ?_
              refine J.op (Yd.move rfl) rfl ?_
              refine J.op (Yd.move rfl) rfl ?_
              refine J.op (Yd.move rfl) rfl ?_
              refine J.eff (Ye.call cl14 rfl (Stream_ok (Ow.rd o7_33) (Ow.rd o8_33))) rfl ?_
              rintro _ w34 ⟨s49_34, rfl, rs49_34, x1⟩
              have e0 := e0.trans x1
              have o42_33 := o42_33.ext x1
              have o44_33 := o44_33.ext x1
              have o7_33 := o7_33.ext x1
              have o8_33 := o8_33.ext x1
              clear x1
              refine J.op (Yd.move rfl) rfl ?_
              refine J.op (Yd.extract rfl rfl) rfl ?_
              refine J.op (Yd.extract rfl rfl) rfl ?_
              refine J.op (Yd.assign rfl) rfl ?_
              refine J.op (Yd.assign rfl) rfl ?_
              refine J.nil ?_
              refine J.n_then ?_
              refine J.seq ?_
              refine J.region ?_
              refine J.op (Yd.move rfl) rfl ?_
              refine J.op (Yd.move rfl) rfl ?_
              refine J.eff (Ye.call cl10 rfl (Block_ok (Ow.rd o7_33) (Ow.rd o8_33))) rfl ?_
              rintro _ w35 ⟨s55_35, rfl, rs55_35, x1⟩
              have e0 := e0.trans x1
              have o42_33 := o42_33.ext x1
              have o44_33 := o44_33.ext x1
              have o7_33 := o7_33.ext x1
              have o8_33 := o8_33.ext x1
              have rs49_34 := rs49_34.ext x1
              clear x1
              refine J.op (Yd.move rfl) rfl ?_
              refine J.op (Yd.extract rfl rfl) rfl ?_
              refine J.op (Yd.extract rfl rfl) rfl ?_
              refine J.op (Yd.assign rfl) rfl ?_
              refine J.op (Yd.assign rfl) rfl ?_
              refine J.nil ?_
              refine J.n_then ?_
              refine J.seq ?_
              refine J.region ?_
              refine J.op (Yd.move rfl) rfl ?_
              refine J.op (Yd.eql rfl rfl) rfl ?_
              refine J.op (Yd.move rfl) rfl ?_
              refine J.split_dec (t := 60) rfl (fun h7 => ?_) (fun h7 => ?_)
              · skip
                refine J.op_g rfl rfl rfl (Yd.move rfl) rfl ?_
                refine J.op_g rfl rfl rfl (Yd.eql rfl rfl) rfl ?_
                refine J.op (Yd.pick_t rfl rfl) rfl ?_
                refine J.op (Yd.move rfl) rfl ?_
                refine J.split_dec (t := 64) rfl (fun h8 => ?_) (fun h8 => ?_)
                · skip
                  refine J.op_g rfl rfl rfl (Yd.move rfl) rfl ?_
                  refine J.op_g rfl rfl rfl (Yd.geq rfl rfl) rfl ?_
                  refine J.op (Yd.pick_t rfl rfl) rfl ?_
                  refine J.op (Yd.move rfl) rfl ?_
                  refine J.split_dec (t := 68) rfl (fun h9 => ?_) (fun h9 => ?_)
                  · skip
                    refine J.op_g rfl rfl rfl (Yd.move rfl) rfl ?_
                    refine J.op_g rfl rfl rfl (Yd.leq rfl rfl) rfl ?_
                    refine J.op (Yd.pick_t rfl rfl) rfl ?_
                    refine J.op (Yd.assign rfl) rfl ?_
                    refine J.nil ?_
                    refine J.n_then ?_
                    refine J.seq ?_
                    refine J.region ?_
                    refine J.op (Yd.move rfl) rfl ?_
                    refine J.op (Yd.eql rfl rfl) rfl ?_
                    refine J.op (Yd.move rfl) rfl ?_
                    refine J.op (Yd.eqlb rfl rfl Try.underlying4) rfl ?_
                    refine J.op (Yd.move rfl) rfl ?_
                    refine J.know (t := 76) (v' := .bool true) rfl (tt (by rw [strE0, List.length_replicate, List.length_replicate]; exact decide_eq_decide.2 (by omega))) ?_
                    refine J.op_g rfl rfl rfl (Yd.move rfl) rfl ?_
                    refine J.op_g rfl rfl rfl (Yd.move rfl) rfl ?_
                    refine J.split_dec (t := 78) rfl (fun h10 => ?_) (fun h10 => ?_)
                    · skip
                      refine J.not_g rfl rfl rfl rfl rfl ?_
                      refine J.not_g rfl rfl rfl rfl rfl ?_
                      refine J.op_g rfl rfl rfl (Yd.pick_t rfl rfl) rfl ?_
                      refine J.op (Yd.pick_t rfl rfl) rfl ?_
                      refine J.op (Yd.move rfl) rfl ?_
                      refine J.op_g rfl rfl rfl (Yd.move rfl) rfl ?_
                      refine J.op_g rfl rfl rfl (Yd.len_b Try.underlying22 rfl rs49_34) rfl ?_
                      refine J.op_g rfl rfl rfl (Yd.move rfl) rfl ?_
                      refine J.op_g rfl rfl rfl (Yd.maxi rfl rfl) rfl ?_
                      refine J.op_g rfl rfl rfl (Yd.move rfl) rfl ?_
                      refine J.eff_g rfl rfl rfl (Ye.call cl15 rfl (One_ok)) rfl ?_
                      rintro _ w36 ⟨rfl, x1⟩
                      have e0 := e0.trans x1
                      have o42_33 := o42_33.ext x1
                      have o44_33 := o44_33.ext x1
                      have o7_33 := o7_33.ext x1
                      have o8_33 := o8_33.ext x1
                      have rs49_34 := rs49_34.ext x1
                      have rs55_35 := rs55_35.ext x1
                      clear x1
                      refine J.op_g rfl rfl rfl (Yd.mul rfl rfl (by split <;> split <;> omega)) rfl ?_
                      refine J.op_g rfl rfl rfl (Yd.eql rfl rfl) rfl ?_
                      refine J.op (Yd.pick_t rfl rfl) rfl ?_
                      refine J.op (Yd.move rfl) rfl ?_
                      refine J.know (t := 93) (v' := .bool true) rfl (tt (by exact lim_len kn.toNat mn.toNat n (by omega))) ?_
                      refine J.op_g rfl rfl rfl (Yd.move rfl) rfl ?_
                      refine J.op_g rfl rfl rfl (Yd.eql rfl rfl) rfl ?_
                      refine J.op_g rfl rfl rfl (Yd.move rfl) rfl ?_
                      refine J.op_g rfl rfl rfl (Yd.eql rfl rfl) rfl ?_
                      refine J.op_g rfl rfl rfl (Yd.move rfl) rfl ?_
                      refine J.split_dec (t := 98) rfl (fun h11 => ?_) (fun h11 => ?_)
                      · skip
                        refine J.op_g rfl rfl rfl (Yd.move rfl) rfl ?_
                        refine J.op_g rfl rfl rfl (Yd.eql rfl rfl) rfl ?_
                        refine J.op_g rfl rfl rfl (Yd.pick_t rfl rfl) rfl ?_
                        refine J.op_g rfl rfl rfl (Yd.eqlb rfl rfl Try.underlying4) rfl ?_
                        refine J.op (Yd.pick_t rfl rfl) rfl ?_
                        refine J.op (Yd.move rfl) rfl ?_
                        refine J.know (t := 104) (v' := .bool true) rfl (tt (by rw [blkE0, List.length_replicate, List.length_replicate]; exact decide_eq_decide.2 (by omega))) ?_
                        refine J.eff_g rfl rfl rfl (Ye.call cl9 rfl (awake_ok)) rfl ?_
                        rintro _ w37 ⟨rfl, x1⟩
                        have e0 := e0.trans x1
                        have o42_33 := o42_33.ext x1
                        have o44_33 := o44_33.ext x1
                        have o7_33 := o7_33.ext x1
                        have o8_33 := o8_33.ext x1
                        have rs49_34 := rs49_34.ext x1
                        have rs55_35 := rs55_35.ext x1
                        clear x1
                        refine J.op (Yd.pick_t rfl rfl) rfl ?_
                        refine J.op (Yd.assign rfl) rfl ?_
                        refine J.nil ?_
                        refine J.n_then ?_
                        refine J.ret ?_
                        exact J.ret1 rfl rfl (⟨_, rfl, rfl, e0⟩)
                      · skip
                        refine J.not_g rfl rfl rfl rfl rfl ?_
                        refine J.not_g rfl rfl rfl rfl rfl ?_
                        refine J.op_g rfl rfl rfl (Yd.pick_f rfl rfl) rfl ?_
                        refine J.op_g rfl rfl rfl (Yd.eqlb rfl rfl Try.underlying4) rfl ?_
                        refine J.op (Yd.pick_t rfl rfl) rfl ?_
                        refine J.op (Yd.move rfl) rfl ?_
                        refine J.know (t := 104) (v' := .bool true) rfl (tt (by rw [blkE0, List.length_replicate, List.length_replicate]; exact decide_eq_false (by omega))) ?_
                        refine J.eff_g rfl rfl rfl (Ye.call cl9 rfl (awake_ok)) rfl ?_
                        rintro _ w38 ⟨rfl, x1⟩
                        have e0 := e0.trans x1
                        have o42_33 := o42_33.ext x1
                        have o44_33 := o44_33.ext x1
                        have o7_33 := o7_33.ext x1
                        have o8_33 := o8_33.ext x1
                        have rs49_34 := rs49_34.ext x1
                        have rs55_35 := rs55_35.ext x1
                        clear x1
                        refine J.op (Yd.pick_t rfl rfl) rfl ?_
                        refine J.op (Yd.assign rfl) rfl ?_
                        refine J.nil ?_
                        refine J.n_then ?_
                        refine J.ret ?_
                        exact J.ret1 rfl rfl (⟨_, rfl, rfl, e0⟩)
                    · skip
                      refine J.op_g rfl rfl rfl (Yd.move rfl) rfl ?_
                      refine J.op_g rfl rfl rfl (Yd.eql rfl rfl) rfl ?_
                      refine J.op_g rfl rfl rfl (Yd.pick_f rfl rfl) rfl ?_
                      refine J.op (Yd.pick_t rfl rfl) rfl ?_
                      refine J.op (Yd.move rfl) rfl ?_
                      refine J.know (t := 83) (v' := .bool true) rfl (tt (by exact strE_no (by simp only [List.length_replicate]; omega))) ?_
                      refine J.op_g rfl rfl rfl (Yd.move rfl) rfl ?_
                      refine J.op_g rfl rfl rfl (Yd.len_b Try.underlying22 rfl rs49_34) rfl ?_
                      refine J.op_g rfl rfl rfl (Yd.move rfl) rfl ?_
                      refine J.op_g rfl rfl rfl (Yd.maxi rfl rfl) rfl ?_
                      refine J.op_g rfl rfl rfl (Yd.move rfl) rfl ?_
                      refine J.eff_g rfl rfl rfl (Ye.call cl15 rfl (One_ok)) rfl ?_
                      rintro _ w39 ⟨rfl, x1⟩
                      have e0 := e0.trans x1
                      have o42_33 := o42_33.ext x1
                      have o44_33 := o44_33.ext x1
                      have o7_33 := o7_33.ext x1
                      have o8_33 := o8_33.ext x1
                      have rs49_34 := rs49_34.ext x1
                      have rs55_35 := rs55_35.ext x1
                      clear x1
                      refine J.op_g rfl rfl rfl (Yd.mul rfl rfl (by split <;> split <;> omega)) rfl ?_
                      refine J.op_g rfl rfl rfl (Yd.eql rfl rfl) rfl ?_
                      refine J.op (Yd.pick_t rfl rfl) rfl ?_
                      refine J.op (Yd.move rfl) rfl ?_
                      refine J.know (t := 93) (v' := .bool true) rfl (tt (by exact lim_len kn.toNat mn.toNat n (by omega))) ?_
                      refine J.op_g rfl rfl rfl (Yd.move rfl) rfl ?_
                      refine J.op_g rfl rfl rfl (Yd.eql rfl rfl) rfl ?_
                      refine J.op_g rfl rfl rfl (Yd.move rfl) rfl ?_
                      refine J.op_g rfl rfl rfl (Yd.eql rfl rfl) rfl ?_
                      refine J.op_g rfl rfl rfl (Yd.move rfl) rfl ?_
                      refine J.split_dec (t := 98) rfl (fun h11 => ?_) (fun h11 => ?_)
                      · skip
                        refine J.op_g rfl rfl rfl (Yd.move rfl) rfl ?_
                        refine J.op_g rfl rfl rfl (Yd.eql rfl rfl) rfl ?_
                        refine J.op_g rfl rfl rfl (Yd.pick_t rfl rfl) rfl ?_
                        refine J.op_g rfl rfl rfl (Yd.eqlb rfl rfl Try.underlying4) rfl ?_
                        refine J.op (Yd.pick_t rfl rfl) rfl ?_
                        refine J.op (Yd.move rfl) rfl ?_
                        refine J.know (t := 104) (v' := .bool true) rfl (tt (by rw [blkE0, List.length_replicate, List.length_replicate]; exact decide_eq_decide.2 (by omega))) ?_
                        refine J.eff_g rfl rfl rfl (Ye.call cl9 rfl (awake_ok)) rfl ?_
                        rintro _ w40 ⟨rfl, x1⟩
                        have e0 := e0.trans x1
                        have o42_33 := o42_33.ext x1
                        have o44_33 := o44_33.ext x1
                        have o7_33 := o7_33.ext x1
                        have o8_33 := o8_33.ext x1
                        have rs49_34 := rs49_34.ext x1
                        have rs55_35 := rs55_35.ext x1
                        clear x1
                        refine J.op (Yd.pick_t rfl rfl) rfl ?_
                        refine J.op (Yd.assign rfl) rfl ?_
                        refine J.nil ?_
                        refine J.n_then ?_
                        refine J.ret ?_
                        exact J.ret1 rfl rfl (⟨_, rfl, rfl, e0⟩)
                      · skip
                        refine J.not_g rfl rfl rfl rfl rfl ?_
                        refine J.not_g rfl rfl rfl rfl rfl ?_
                        refine J.op_g rfl rfl rfl (Yd.pick_f rfl rfl) rfl ?_
                        refine J.op_g rfl rfl rfl (Yd.eqlb rfl rfl Try.underlying4) rfl ?_
                        refine J.op (Yd.pick_t rfl rfl) rfl ?_
                        refine J.op (Yd.move rfl) rfl ?_
                        refine J.know (t := 104) (v' := .bool true) rfl (tt (by rw [blkE0, List.length_replicate, List.length_replicate]; exact decide_eq_false (by omega))) ?_
                        refine J.eff_g rfl rfl rfl (Ye.call cl9 rfl (awake_ok)) rfl ?_
                        rintro _ w41 ⟨rfl, x1⟩
                        have e0 := e0.trans x1
                        have o42_33 := o42_33.ext x1
                        have o44_33 := o44_33.ext x1
                        have o7_33 := o7_33.ext x1
                        have o8_33 := o8_33.ext x1
                        have rs49_34 := rs49_34.ext x1
                        have rs55_35 := rs55_35.ext x1
                        clear x1
                        refine J.op (Yd.pick_t rfl rfl) rfl ?_
                        refine J.op (Yd.assign rfl) rfl ?_
                        refine J.nil ?_
                        refine J.n_then ?_
                        refine J.ret ?_
                        exact J.ret1 rfl rfl (⟨_, rfl, rfl, e0⟩)
                  · skip
                    refine J.not_g rfl rfl rfl rfl rfl ?_
                    refine J.not_g rfl rfl rfl rfl rfl ?_
                    refine J.op (Yd.pick_f rfl rfl) rfl ?_
                    refine J.op (Yd.assign rfl) rfl ?_
                    refine J.nil ?_
                    refine J.n_then ?_
                    refine J.seq ?_
                    refine J.region ?_
                    refine J.op (Yd.move rfl) rfl ?_
                    refine J.op (Yd.eql rfl rfl) rfl ?_
                    refine J.op (Yd.move rfl) rfl ?_
                    refine J.op (Yd.eqlb rfl rfl Try.underlying4) rfl ?_
                    refine J.op (Yd.move rfl) rfl ?_
                    refine J.know (t := 76) (v' := .bool true) rfl (tt (by rw [strE0, List.length_replicate, List.length_replicate]; exact decide_eq_false (by omega))) ?_
                    refine J.op_g rfl rfl rfl (Yd.move rfl) rfl ?_
                    refine J.op_g rfl rfl rfl (Yd.move rfl) rfl ?_
                    refine J.op_g rfl rfl rfl (Yd.move rfl) rfl ?_
                    refine J.op_g rfl rfl rfl (Yd.eql rfl rfl) rfl ?_
                    refine J.op_g rfl rfl rfl (Yd.pick_f rfl rfl) rfl ?_
                    refine J.op (Yd.pick_t rfl rfl) rfl ?_
                    refine J.op (Yd.move rfl) rfl ?_
                    refine J.know (t := 83) (v' := .bool true) rfl (tt (by exact strE_no (by simp only [List.length_replicate]; omega))) ?_
                    refine J.op_g rfl rfl rfl (Yd.move rfl) rfl ?_
                    refine J.op_g rfl rfl rfl (Yd.len_b Try.underlying22 rfl rs49_34) rfl ?_
                    refine J.op_g rfl rfl rfl (Yd.move rfl) rfl ?_
                    refine J.op_g rfl rfl rfl (Yd.maxi rfl rfl) rfl ?_
                    refine J.op_g rfl rfl rfl (Yd.move rfl) rfl ?_
                    refine J.eff_g rfl rfl rfl (Ye.call cl15 rfl (One_ok)) rfl ?_
                    rintro _ w42 ⟨rfl, x1⟩
                    have e0 := e0.trans x1
                    have o42_33 := o42_33.ext x1
                    have o44_33 := o44_33.ext x1
                    have o7_33 := o7_33.ext x1
                    have o8_33 := o8_33.ext x1
                    have rs49_34 := rs49_34.ext x1
                    have rs55_35 := rs55_35.ext x1
                    clear x1
                    refine J.op_g rfl rfl rfl (Yd.mul rfl rfl (by split <;> split <;> omega)) rfl ?_
                    refine J.op_g rfl rfl rfl (Yd.eql rfl rfl) rfl ?_
                    refine J.op (Yd.pick_t rfl rfl) rfl ?_
                    refine J.op (Yd.move rfl) rfl ?_
                    refine J.know (t := 93) (v' := .bool true) rfl (tt (by rw [strQ_no (by simp only [List.length_replicate]; omega)]; simp)) ?_
                    refine J.op_g rfl rfl rfl (Yd.move rfl) rfl ?_
                    refine J.op_g rfl rfl rfl (Yd.eql rfl rfl) rfl ?_
                    refine J.op_g rfl rfl rfl (Yd.move rfl) rfl ?_
                    refine J.op_g rfl rfl rfl (Yd.eql rfl rfl) rfl ?_
                    refine J.op_g rfl rfl rfl (Yd.move rfl) rfl ?_
                    refine J.split_dec (t := 98) rfl (fun h11 => ?_) (fun h11 => ?_)
                    · skip
                      refine J.op_g rfl rfl rfl (Yd.move rfl) rfl ?_
                      refine J.op_g rfl rfl rfl (Yd.eql rfl rfl) rfl ?_
                      refine J.op_g rfl rfl rfl (Yd.pick_t rfl rfl) rfl ?_
                      refine J.op_g rfl rfl rfl (Yd.eqlb rfl rfl Try.underlying4) rfl ?_
                      refine J.op (Yd.pick_t rfl rfl) rfl ?_
                      refine J.op (Yd.move rfl) rfl ?_
                      refine J.know (t := 104) (v' := .bool true) rfl (tt (by rw [blkE0, List.length_replicate, List.length_replicate]; exact decide_eq_decide.2 (by omega))) ?_
                      refine J.eff_g rfl rfl rfl (Ye.call cl9 rfl (awake_ok)) rfl ?_
                      rintro _ w43 ⟨rfl, x1⟩
                      have e0 := e0.trans x1
                      have o42_33 := o42_33.ext x1
                      have o44_33 := o44_33.ext x1
                      have o7_33 := o7_33.ext x1
                      have o8_33 := o8_33.ext x1
                      have rs49_34 := rs49_34.ext x1
                      have rs55_35 := rs55_35.ext x1
                      clear x1
                      refine J.op (Yd.pick_t rfl rfl) rfl ?_
                      refine J.op (Yd.assign rfl) rfl ?_
                      refine J.nil ?_
                      refine J.n_then ?_
                      refine J.ret ?_
                      exact J.ret1 rfl rfl (⟨_, rfl, rfl, e0⟩)
                    · skip
                      refine J.not_g rfl rfl rfl rfl rfl ?_
                      refine J.not_g rfl rfl rfl rfl rfl ?_
                      refine J.op_g rfl rfl rfl (Yd.pick_f rfl rfl) rfl ?_
                      refine J.op_g rfl rfl rfl (Yd.eqlb rfl rfl Try.underlying4) rfl ?_
                      refine J.op (Yd.pick_t rfl rfl) rfl ?_
                      refine J.op (Yd.move rfl) rfl ?_
                      refine J.know (t := 104) (v' := .bool true) rfl (tt (by rw [blkE0, List.length_replicate, List.length_replicate]; exact decide_eq_false (by omega))) ?_
                      refine J.eff_g rfl rfl rfl (Ye.call cl9 rfl (awake_ok)) rfl ?_
                      rintro _ w44 ⟨rfl, x1⟩
                      have e0 := e0.trans x1
                      have o42_33 := o42_33.ext x1
                      have o44_33 := o44_33.ext x1
                      have o7_33 := o7_33.ext x1
                      have o8_33 := o8_33.ext x1
                      have rs49_34 := rs49_34.ext x1
                      have rs55_35 := rs55_35.ext x1
                      clear x1
                      refine J.op (Yd.pick_t rfl rfl) rfl ?_
                      refine J.op (Yd.assign rfl) rfl ?_
                      refine J.nil ?_
                      refine J.n_then ?_
                      refine J.ret ?_
                      exact J.ret1 rfl rfl (⟨_, rfl, rfl, e0⟩)
                · skip
                  refine J.not_g rfl rfl rfl rfl rfl ?_
                  refine J.not_g rfl rfl rfl rfl rfl ?_
                  refine J.op (Yd.pick_f rfl rfl) rfl ?_
                  refine J.op (Yd.move rfl) rfl ?_
                  refine J.not_g rfl rfl rfl rfl rfl ?_
                  refine J.not_g rfl rfl rfl rfl rfl ?_
                  refine J.op (Yd.pick_f rfl rfl) rfl ?_
                  refine J.op (Yd.assign rfl) rfl ?_
                  refine J.nil ?_
                  refine J.n_then ?_
                  refine J.seq ?_
                  refine J.region ?_
                  refine J.op (Yd.move rfl) rfl ?_
                  refine J.op (Yd.eql rfl rfl) rfl ?_
                  refine J.op (Yd.move rfl) rfl ?_
                  refine J.op (Yd.eqlb rfl rfl Try.underlying4) rfl ?_
                  refine J.op (Yd.move rfl) rfl ?_
                  refine J.know (t := 76) (v' := .bool true) rfl (tt (by rw [strE0, List.length_replicate, List.length_replicate]; exact decide_eq_false (by omega))) ?_
                  refine J.op_g rfl rfl rfl (Yd.move rfl) rfl ?_
                  refine J.op_g rfl rfl rfl (Yd.move rfl) rfl ?_
                  refine J.op_g rfl rfl rfl (Yd.move rfl) rfl ?_
                  refine J.op_g rfl rfl rfl (Yd.eql rfl rfl) rfl ?_
                  refine J.op_g rfl rfl rfl (Yd.pick_f rfl rfl) rfl ?_
                  refine J.op (Yd.pick_t rfl rfl) rfl ?_
                  refine J.op (Yd.move rfl) rfl ?_
                  refine J.know (t := 83) (v' := .bool true) rfl (tt (by exact strE_no (by simp only [List.length_replicate]; omega))) ?_
                  refine J.op_g rfl rfl rfl (Yd.move rfl) rfl ?_
                  refine J.op_g rfl rfl rfl (Yd.len_b Try.underlying22 rfl rs49_34) rfl ?_
                  refine J.op_g rfl rfl rfl (Yd.move rfl) rfl ?_
                  refine J.op_g rfl rfl rfl (Yd.maxi rfl rfl) rfl ?_
                  refine J.op_g rfl rfl rfl (Yd.move rfl) rfl ?_
                  refine J.eff_g rfl rfl rfl (Ye.call cl15 rfl (One_ok)) rfl ?_
                  rintro _ w45 ⟨rfl, x1⟩
                  have e0 := e0.trans x1
                  have o42_33 := o42_33.ext x1
                  have o44_33 := o44_33.ext x1
                  have o7_33 := o7_33.ext x1
                  have o8_33 := o8_33.ext x1
                  have rs49_34 := rs49_34.ext x1
                  have rs55_35 := rs55_35.ext x1
                  clear x1
                  refine J.op_g rfl rfl rfl (Yd.mul rfl rfl (by split <;> split <;> omega)) rfl ?_
                  refine J.op_g rfl rfl rfl (Yd.eql rfl rfl) rfl ?_
                  refine J.op (Yd.pick_t rfl rfl) rfl ?_
                  refine J.op (Yd.move rfl) rfl ?_
                  refine J.know (t := 93) (v' := .bool true) rfl (tt (by rw [strQ_no (by simp only [List.length_replicate]; omega)]; simp)) ?_
                  refine J.op_g rfl rfl rfl (Yd.move rfl) rfl ?_
                  refine J.op_g rfl rfl rfl (Yd.eql rfl rfl) rfl ?_
                  refine J.op_g rfl rfl rfl (Yd.move rfl) rfl ?_
                  refine J.op_g rfl rfl rfl (Yd.eql rfl rfl) rfl ?_
                  refine J.op_g rfl rfl rfl (Yd.move rfl) rfl ?_
                  refine J.split_dec (t := 98) rfl (fun h11 => ?_) (fun h11 => ?_)
                  · skip
                    refine J.op_g rfl rfl rfl (Yd.move rfl) rfl ?_
                    refine J.op_g rfl rfl rfl (Yd.eql rfl rfl) rfl ?_
                    refine J.op_g rfl rfl rfl (Yd.pick_t rfl rfl) rfl ?_
                    refine J.op_g rfl rfl rfl (Yd.eqlb rfl rfl Try.underlying4) rfl ?_
                    refine J.op (Yd.pick_t rfl rfl) rfl ?_
                    refine J.op (Yd.move rfl) rfl ?_
                    refine J.know (t := 104) (v' := .bool true) rfl (tt (by rw [blkE0, List.length_replicate, List.length_replicate]; exact decide_eq_decide.2 (by omega))) ?_
                    refine J.eff_g rfl rfl rfl (Ye.call cl9 rfl (awake_ok)) rfl ?_
                    rintro _ w46 ⟨rfl, x1⟩
                    have e0 := e0.trans x1
                    have o42_33 := o42_33.ext x1
                    have o44_33 := o44_33.ext x1
                    have o7_33 := o7_33.ext x1
                    have o8_33 := o8_33.ext x1
                    have rs49_34 := rs49_34.ext x1
                    have rs55_35 := rs55_35.ext x1
                    clear x1
                    refine J.op (Yd.pick_t rfl rfl) rfl ?_
                    refine J.op (Yd.assign rfl) rfl ?_
                    refine J.nil ?_
                    refine J.n_then ?_
                    refine J.ret ?_
                    exact J.ret1 rfl rfl (⟨_, rfl, rfl, e0⟩)
                  · skip
                    refine J.not_g rfl rfl rfl rfl rfl ?_
                    refine J.not_g rfl rfl rfl rfl rfl ?_
                    refine J.op_g rfl rfl rfl (Yd.pick_f rfl rfl) rfl ?_
                    refine J.op_g rfl rfl rfl (Yd.eqlb rfl rfl Try.underlying4) rfl ?_
                    refine J.op (Yd.pick_t rfl rfl) rfl ?_
                    refine J.op (Yd.move rfl) rfl ?_
                    refine J.know (t := 104) (v' := .bool true) rfl (tt (by rw [blkE0, List.length_replicate, List.length_replicate]; exact decide_eq_false (by omega))) ?_
                    refine J.eff_g rfl rfl rfl (Ye.call cl9 rfl (awake_ok)) rfl ?_
                    rintro _ w47 ⟨rfl, x1⟩
                    have e0 := e0.trans x1
                    have o42_33 := o42_33.ext x1
                    have o44_33 := o44_33.ext x1
                    have o7_33 := o7_33.ext x1
                    have o8_33 := o8_33.ext x1
                    have rs49_34 := rs49_34.ext x1
                    have rs55_35 := rs55_35.ext x1
                    clear x1
                    refine J.op (Yd.pick_t rfl rfl) rfl ?_
                    refine J.op (Yd.assign rfl) rfl ?_
                    refine J.nil ?_
                    refine J.n_then ?_
                    refine J.ret ?_
                    exact J.ret1 rfl rfl (⟨_, rfl, rfl, e0⟩)
              · skip
                refine J.not_g rfl rfl rfl rfl rfl ?_
                refine J.not_g rfl rfl rfl rfl rfl ?_
                refine J.op (Yd.pick_f rfl rfl) rfl ?_
                refine J.op (Yd.move rfl) rfl ?_
                refine J.not_g rfl rfl rfl rfl rfl ?_
                refine J.not_g rfl rfl rfl rfl rfl ?_
                refine J.op (Yd.pick_f rfl rfl) rfl ?_
                refine J.op (Yd.move rfl) rfl ?_
                refine J.not_g rfl rfl rfl rfl rfl ?_
                refine J.not_g rfl rfl rfl rfl rfl ?_
                refine J.op (Yd.pick_f rfl rfl) rfl ?_
                refine J.op (Yd.assign rfl) rfl ?_
                refine J.nil ?_
                refine J.n_then ?_
                refine J.seq ?_
                refine J.region ?_
                refine J.op (Yd.move rfl) rfl ?_
                refine J.op (Yd.eql rfl rfl) rfl ?_
                refine J.op (Yd.move rfl) rfl ?_
                refine J.op (Yd.eqlb rfl rfl Try.underlying4) rfl ?_
                refine J.op (Yd.move rfl) rfl ?_
                refine J.know (t := 76) (v' := .bool true) rfl (tt (by rw [strE0, List.length_replicate, List.length_replicate]; exact decide_eq_false (by omega))) ?_
                refine J.op_g rfl rfl rfl (Yd.move rfl) rfl ?_
                refine J.op_g rfl rfl rfl (Yd.move rfl) rfl ?_
                refine J.op_g rfl rfl rfl (Yd.move rfl) rfl ?_
                refine J.op_g rfl rfl rfl (Yd.eql rfl rfl) rfl ?_
                refine J.op_g rfl rfl rfl (Yd.pick_f rfl rfl) rfl ?_
                refine J.op (Yd.pick_t rfl rfl) rfl ?_
                refine J.op (Yd.move rfl) rfl ?_
                refine J.know (t := 83) (v' := .bool true) rfl (tt (by exact strE_no (by simp only [List.length_replicate]; omega))) ?_
                refine J.op_g rfl rfl rfl (Yd.move rfl) rfl ?_
                refine J.op_g rfl rfl rfl (Yd.len_b Try.underlying22 rfl rs49_34) rfl ?_
                refine J.op_g rfl rfl rfl (Yd.move rfl) rfl ?_
                refine J.op_g rfl rfl rfl (Yd.maxi rfl rfl) rfl ?_
                refine J.op_g rfl rfl rfl (Yd.move rfl) rfl ?_
                refine J.eff_g rfl rfl rfl (Ye.call cl15 rfl (One_ok)) rfl ?_
                rintro _ w48 ⟨rfl, x1⟩
                have e0 := e0.trans x1
                have o42_33 := o42_33.ext x1
                have o44_33 := o44_33.ext x1
                have o7_33 := o7_33.ext x1
                have o8_33 := o8_33.ext x1
                have rs49_34 := rs49_34.ext x1
                have rs55_35 := rs55_35.ext x1
                clear x1
                refine J.op_g rfl rfl rfl (Yd.mul rfl rfl (by split <;> split <;> omega)) rfl ?_
                refine J.op_g rfl rfl rfl (Yd.eql rfl rfl) rfl ?_
                refine J.op (Yd.pick_t rfl rfl) rfl ?_
                refine J.op (Yd.move rfl) rfl ?_
                refine J.know (t := 93) (v' := .bool true) rfl (tt (by rw [strQ_no (by simp only [List.length_replicate]; omega)]; simp)) ?_
                refine J.op_g rfl rfl rfl (Yd.move rfl) rfl ?_
                refine J.op_g rfl rfl rfl (Yd.eql rfl rfl) rfl ?_
                refine J.op_g rfl rfl rfl (Yd.move rfl) rfl ?_
                refine J.op_g rfl rfl rfl (Yd.eql rfl rfl) rfl ?_
                refine J.op_g rfl rfl rfl (Yd.move rfl) rfl ?_
                refine J.split_dec (t := 98) rfl (fun h11 => ?_) (fun h11 => ?_)
                · skip
                  refine J.op_g rfl rfl rfl (Yd.move rfl) rfl ?_
                  refine J.op_g rfl rfl rfl (Yd.eql rfl rfl) rfl ?_
                  refine J.op_g rfl rfl rfl (Yd.pick_t rfl rfl) rfl ?_
                  refine J.op_g rfl rfl rfl (Yd.eqlb rfl rfl Try.underlying4) rfl ?_
                  refine J.op (Yd.pick_t rfl rfl) rfl ?_
                  refine J.op (Yd.move rfl) rfl ?_
                  refine J.know (t := 104) (v' := .bool true) rfl (tt (by rw [blkE0, List.length_replicate, List.length_replicate]; exact decide_eq_decide.2 (by omega))) ?_
                  refine J.eff_g rfl rfl rfl (Ye.call cl9 rfl (awake_ok)) rfl ?_
                  rintro _ w49 ⟨rfl, x1⟩
                  have e0 := e0.trans x1
                  have o42_33 := o42_33.ext x1
                  have o44_33 := o44_33.ext x1
                  have o7_33 := o7_33.ext x1
                  have o8_33 := o8_33.ext x1
                  have rs49_34 := rs49_34.ext x1
                  have rs55_35 := rs55_35.ext x1
                  clear x1
                  refine J.op (Yd.pick_t rfl rfl) rfl ?_
                  refine J.op (Yd.assign rfl) rfl ?_
                  refine J.nil ?_
                  refine J.n_then ?_
                  refine J.ret ?_
                  exact J.ret1 rfl rfl (⟨_, rfl, rfl, e0⟩)
                · skip
                  refine J.not_g rfl rfl rfl rfl rfl ?_
                  refine J.not_g rfl rfl rfl rfl rfl ?_
                  refine J.op_g rfl rfl rfl (Yd.pick_f rfl rfl) rfl ?_
                  refine J.op_g rfl rfl rfl (Yd.eqlb rfl rfl Try.underlying4) rfl ?_
                  refine J.op (Yd.pick_t rfl rfl) rfl ?_
                  refine J.op (Yd.move rfl) rfl ?_
                  refine J.know (t := 104) (v' := .bool true) rfl (tt (by rw [blkE0, List.length_replicate, List.length_replicate]; exact decide_eq_false (by omega))) ?_
                  refine J.eff_g rfl rfl rfl (Ye.call cl9 rfl (awake_ok)) rfl ?_
                  rintro _ w50 ⟨rfl, x1⟩
                  have e0 := e0.trans x1
                  have o42_33 := o42_33.ext x1
                  have o44_33 := o44_33.ext x1
                  have o7_33 := o7_33.ext x1
                  have o8_33 := o8_33.ext x1
                  have rs49_34 := rs49_34.ext x1
                  have rs55_35 := rs55_35.ext x1
                  clear x1
                  refine J.op (Yd.pick_t rfl rfl) rfl ?_
                  refine J.op (Yd.assign rfl) rfl ?_
                  refine J.nil ?_
                  refine J.n_then ?_
                  refine J.ret ?_
                  exact J.ret1 rfl rfl (⟨_, rfl, rfl, e0⟩)
end Ytbklhpdfbdhoeaa
end Go.Proofs
