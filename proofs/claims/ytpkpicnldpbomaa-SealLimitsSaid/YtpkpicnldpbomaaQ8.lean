import Derived.Test.YtpkpicnldpbomaaT
import Derived.Test.YtpkpicnldpbomaaQ6
set_option linter.unusedVariables false
set_option linter.unusedSimpArgs false
set_option maxRecDepth 100000
set_option maxHeartbeats 4000000
namespace Go.Proofs
open Go.X Go.RowKit
namespace Ytpkpicnldpbomaa
theorem SealLimits_ok {n m : Int} {w : World} : C Try.prog 5 [I n, I m] w (Ret fun v w' => v = .bool true ∧ Ext w w') := by
  have e0 := Ext.refl w
  refine C.enter Try.func5 rfl Try.ntmps5 rfl ?_
  refine J.seq ?_
  refine J.region ?_
  refine J.op (Yd.assign rfl) rfl ?_
  refine J.nil ?_
  refine J.n_then ?_
  refine J.seq ?_
  refine J.seq ?_
  refine J.region ?_
  refine J.op (Yd.move rfl) rfl ?_
  refine J.op (Yd.lss rfl rfl) rfl ?_
  refine J.op (Yd.move rfl) rfl ?_
  refine J.split_dec (t := 13) rfl (fun h1 => ?_) (fun h1 => ?_)
  · skip
    refine J.not_g rfl rfl rfl rfl rfl ?_
    refine J.not_g rfl rfl rfl rfl rfl ?_
    refine J.op (Yd.pick_t rfl rfl) rfl ?_
    refine J.op (Yd.move rfl) rfl ?_
    refine J.not_g rfl rfl rfl rfl rfl ?_
    refine J.not_g rfl rfl rfl rfl rfl ?_
    refine J.op (Yd.pick_t rfl rfl) rfl ?_
    refine J.op (Yd.move rfl) rfl ?_
    refine J.not_g rfl rfl rfl rfl rfl ?_
    refine J.not_g rfl rfl rfl rfl rfl ?_
    refine J.op (Yd.pick_t rfl rfl) rfl ?_
    refine J.op (Yd.move rfl) rfl ?_
    refine J.not_g rfl rfl rfl rfl rfl ?_
    refine J.not_g rfl rfl rfl rfl rfl ?_
    refine J.not_g rfl rfl rfl rfl rfl ?_
    refine J.not_u rfl rfl rfl rfl ?_
    refine J.not_u rfl rfl rfl rfl ?_
    refine J.not_g rfl rfl rfl rfl rfl ?_
    refine J.op (Yd.pick_t rfl rfl) rfl ?_
    refine J.op (Yd.move rfl) rfl ?_
    refine J.not_g rfl rfl rfl rfl rfl ?_
    refine J.not_g rfl rfl rfl rfl rfl ?_
    refine J.not_g rfl rfl rfl rfl rfl ?_
    refine J.not_u rfl rfl rfl rfl ?_
    refine J.not_u rfl rfl rfl rfl ?_
    refine J.not_g rfl rfl rfl rfl rfl ?_
    refine J.op (Yd.pick_t rfl rfl) rfl ?_
    refine J.nil ?_
    refine J.n_then ?_
    refine J.cond_true rfl ?_
    refine J.seq ?_
    refine J.region ?_
    refine J.eff (Ye.call cl7 rfl (awake_ok)) rfl ?_
    rintro _ w1 ⟨rfl, x1⟩
    have e0 := e0.trans x1
    clear x1
    refine J.op (Yd.assign rfl) rfl ?_
    refine J.nil ?_
    refine J.n_then ?_
    refine J.ret ?_
    refine J.r_then ?_
    exact J.ret1 rfl rfl (⟨_, rfl, rfl, e0⟩)
  · skip
    refine J.op_g rfl rfl rfl (Yd.move rfl) rfl ?_
    refine J.op_g rfl rfl rfl (Yd.lss rfl rfl) rfl ?_
    refine J.op (Yd.pick_f rfl rfl) rfl ?_
    refine J.op (Yd.move rfl) rfl ?_
    refine J.split_dec (t := 17) rfl (fun h2 => ?_) (fun h2 => ?_)
    · skip
      refine J.not_g rfl rfl rfl rfl rfl ?_
      refine J.not_g rfl rfl rfl rfl rfl ?_
      refine J.op (Yd.pick_t rfl rfl) rfl ?_
      refine J.op (Yd.move rfl) rfl ?_
      refine J.not_g rfl rfl rfl rfl rfl ?_
      refine J.not_g rfl rfl rfl rfl rfl ?_
      refine J.op (Yd.pick_t rfl rfl) rfl ?_
      refine J.op (Yd.move rfl) rfl ?_
      refine J.not_g rfl rfl rfl rfl rfl ?_
      refine J.not_g rfl rfl rfl rfl rfl ?_
      refine J.not_g rfl rfl rfl rfl rfl ?_
      refine J.not_u rfl rfl rfl rfl ?_
      refine J.not_u rfl rfl rfl rfl ?_
      refine J.not_g rfl rfl rfl rfl rfl ?_
      refine J.op (Yd.pick_t rfl rfl) rfl ?_
      refine J.op (Yd.move rfl) rfl ?_
      refine J.not_g rfl rfl rfl rfl rfl ?_
      refine J.not_g rfl rfl rfl rfl rfl ?_
      refine J.not_g rfl rfl rfl rfl rfl ?_
      refine J.not_u rfl rfl rfl rfl ?_
      refine J.not_u rfl rfl rfl rfl ?_
      refine J.not_g rfl rfl rfl rfl rfl ?_
      refine J.op (Yd.pick_t rfl rfl) rfl ?_
      refine J.nil ?_
      refine J.n_then ?_
      refine J.cond_true rfl ?_
      refine J.seq ?_
      refine J.region ?_
      refine J.eff (Ye.call cl7 rfl (awake_ok)) rfl ?_
      rintro _ w2 ⟨rfl, x1⟩
      have e0 := e0.trans x1
      clear x1
      refine J.op (Yd.assign rfl) rfl ?_
      refine J.nil ?_
      refine J.n_then ?_
      refine J.ret ?_
      refine J.r_then ?_
      exact J.ret1 rfl rfl (⟨_, rfl, rfl, e0⟩)
    · skip
      refine J.op_g rfl rfl rfl (Yd.move rfl) rfl ?_
      refine J.op_g rfl rfl rfl (Yd.gtr rfl rfl) rfl ?_
      refine J.op (Yd.pick_f rfl rfl) rfl ?_
      refine J.op (Yd.move rfl) rfl ?_
      refine J.split_dec (t := 21) rfl (fun h3 => ?_) (fun h3 => ?_)
      · skip
        refine J.not_g rfl rfl rfl rfl rfl ?_
        refine J.not_g rfl rfl rfl rfl rfl ?_
        refine J.op (Yd.pick_t rfl rfl) rfl ?_
        refine J.op (Yd.move rfl) rfl ?_
        refine J.not_g rfl rfl rfl rfl rfl ?_
        refine J.not_g rfl rfl rfl rfl rfl ?_
        refine J.not_g rfl rfl rfl rfl rfl ?_
        refine J.not_u rfl rfl rfl rfl ?_
        refine J.not_u rfl rfl rfl rfl ?_
        refine J.not_g rfl rfl rfl rfl rfl ?_
        refine J.op (Yd.pick_t rfl rfl) rfl ?_
        refine J.op (Yd.move rfl) rfl ?_
        refine J.not_g rfl rfl rfl rfl rfl ?_
        refine J.not_g rfl rfl rfl rfl rfl ?_
        refine J.not_g rfl rfl rfl rfl rfl ?_
        refine J.not_u rfl rfl rfl rfl ?_
        refine J.not_u rfl rfl rfl rfl ?_
        refine J.not_g rfl rfl rfl rfl rfl ?_
        refine J.op (Yd.pick_t rfl rfl) rfl ?_
        refine J.nil ?_
        refine J.n_then ?_
        refine J.cond_true rfl ?_
        refine J.seq ?_
        refine J.region ?_
        refine J.eff (Ye.call cl7 rfl (awake_ok)) rfl ?_
        rintro _ w3 ⟨rfl, x1⟩
        have e0 := e0.trans x1
        clear x1
        refine J.op (Yd.assign rfl) rfl ?_
        refine J.nil ?_
        refine J.n_then ?_
        refine J.ret ?_
        refine J.r_then ?_
        exact J.ret1 rfl rfl (⟨_, rfl, rfl, e0⟩)
      · skip
        refine J.op_g rfl rfl rfl (Yd.move rfl) rfl ?_
        refine J.op_g rfl rfl rfl (Yd.gtr rfl rfl) rfl ?_
        refine J.op (Yd.pick_f rfl rfl) rfl ?_
        refine J.op (Yd.move rfl) rfl ?_
        refine J.split_dec (t := 25) rfl (fun h4 => ?_) (fun h4 => ?_)
        · skip
          refine J.not_g rfl rfl rfl rfl rfl ?_
          refine J.not_g rfl rfl rfl rfl rfl ?_
          refine J.not_g rfl rfl rfl rfl rfl ?_
          refine J.not_u rfl rfl rfl rfl ?_
          refine J.not_u rfl rfl rfl rfl ?_
          refine J.not_g rfl rfl rfl rfl rfl ?_
          refine J.op (Yd.pick_t rfl rfl) rfl ?_
          refine J.op (Yd.move rfl) rfl ?_
          refine J.not_g rfl rfl rfl rfl rfl ?_
          refine J.not_g rfl rfl rfl rfl rfl ?_
          refine J.not_g rfl rfl rfl rfl rfl ?_
          refine J.not_u rfl rfl rfl rfl ?_
          refine J.not_u rfl rfl rfl rfl ?_
          refine J.not_g rfl rfl rfl rfl rfl ?_
          refine J.op (Yd.pick_t rfl rfl) rfl ?_
          refine J.nil ?_
          refine J.n_then ?_
          refine J.cond_true rfl ?_
          refine J.seq ?_
          refine J.region ?_
          refine J.eff (Ye.call cl7 rfl (awake_ok)) rfl ?_
          rintro _ w4 ⟨rfl, x1⟩
          have e0 := e0.trans x1
          clear x1
          refine J.op (Yd.assign rfl) rfl ?_
          refine J.nil ?_
          refine J.n_then ?_
          refine J.ret ?_
          refine J.r_then ?_
          exact J.ret1 rfl rfl (⟨_, rfl, rfl, e0⟩)
        · skip
          refine J.op_g rfl rfl rfl (Yd.move rfl) rfl ?_
          refine J.op_g rfl rfl rfl (Yd.gtr rfl rfl) rfl ?_
          refine J.op_g rfl rfl rfl (Yd.move rfl) rfl ?_
          refine J.split_dec (t := 28) rfl (fun h5 => ?_) (fun h5 => ?_)
          · skip
            refine J.op_g rfl rfl rfl (Yd.move rfl) rfl ?_
            refine J.op_g rfl rfl rfl (Yd.lss rfl rfl) rfl ?_
            refine J.op_g rfl rfl rfl (Yd.pick_t rfl rfl) rfl ?_
            refine J.op (Yd.pick_f rfl rfl) rfl ?_
            refine J.op (Yd.move rfl) rfl ?_
            refine J.split_dec (t := 33) rfl (fun h6 => ?_) (fun h6 => ?_)
            · skip
              refine J.not_g rfl rfl rfl rfl rfl ?_
              refine J.not_g rfl rfl rfl rfl rfl ?_
              refine J.not_g rfl rfl rfl rfl rfl ?_
              refine J.not_u rfl rfl rfl rfl ?_
              refine J.not_u rfl rfl rfl rfl ?_
              refine J.not_g rfl rfl rfl rfl rfl ?_
              refine J.op (Yd.pick_t rfl rfl) rfl ?_
              refine J.nil ?_
              refine J.n_then ?_
              refine J.cond_true rfl ?_
              refine J.seq ?_
              refine J.region ?_
              refine J.eff (Ye.call cl7 rfl (awake_ok)) rfl ?_
              rintro _ w5 ⟨rfl, x1⟩
              have e0 := e0.trans x1
              clear x1
              refine J.op (Yd.assign rfl) rfl ?_
              refine J.nil ?_
              refine J.n_then ?_
              refine J.ret ?_
              refine J.r_then ?_
              exact J.ret1 rfl rfl (⟨_, rfl, rfl, e0⟩)
            · skip
              refine J.op_g rfl rfl rfl (Yd.move rfl) rfl ?_
              refine J.op_g rfl rfl rfl (Yd.gtr rfl rfl) rfl ?_
              refine J.op_g rfl rfl rfl (Yd.move rfl) rfl ?_
              refine J.split_dec (t := 36) rfl (fun h7 => ?_) (fun h7 => ?_)
              · skip
                refine J.op_g rfl rfl rfl (Yd.move rfl) rfl ?_
                refine J.op_g rfl rfl rfl (Yd.lss rfl rfl) rfl ?_
                refine J.op_g rfl rfl rfl (Yd.pick_t rfl rfl) rfl ?_
                refine J.op (Yd.pick_f rfl rfl) rfl ?_
                refine J.nil ?_
                refine J.n_then ?_
                refine J.cond_dec rfl (fun hc0 => ?_) (fun hc0 => ?_)
                · skip
                  refine J.seq ?_
                  refine J.region ?_
                  refine J.eff (Ye.call cl7 rfl (awake_ok)) rfl ?_
                  rintro _ w6 ⟨rfl, x1⟩
                  have e0 := e0.trans x1
                  clear x1
                  refine J.op (Yd.assign rfl) rfl ?_
                  refine J.nil ?_
                  refine J.n_then ?_
                  refine J.ret ?_
                  refine J.r_then ?_
                  exact J.ret1 rfl rfl (⟨_, rfl, rfl, e0⟩)
                · skip
                  refine J.skip ?_
                  refine J.n_then ?_
                  refine J.seq ?_
                  refine J.region ?_
                  refine J.eff (Ye.make (base := w.heap.size) Try.underlying22 ti5 rfl rfl (by first | omega | (simp only [List.length_map, List.length_replicate, List.length_drop, List.length_take] <;> omega) | (simp <;> omega)) (by first | omega | (simp only [List.length_map, List.length_replicate, List.length_drop, List.length_take] <;> omega) | (simp <;> omega)) (by unfold maxLen; omega) rfl (Nat.le_refl _)) rfl ?_
                  rintro s42_7 w7 ⟨o42_7, x1⟩
                  have fr_s42_7 : Fr w.heap.size s42_7.ownBlock := Fr.le (Ow.fr o42_7) e0.size
                  replace o42_7 := Ow.base o42_7 e0.size
                  have e0 := e0.trans x1
                  clear x1
                  rw [rep_B] at o42_7
                  refine J.op (Yd.assign rfl) rfl ?_
                  refine J.nil ?_
                  refine J.n_then ?_
                  refine J.seq ?_
                  refine J.regionA [(0, true), (1, true), (3, true), (5, true)] [(2, Asr.v 46 (slc s42_7 0 (12 : Int).toNat)), (4, Asr.own 48 w7.heap.size 5 (((List.replicate m.toNat (0 : UInt8)).map fun x => B x))), (6, Asr.own 50 w7.heap.size 5 (((List.replicate n.toNat (0 : UInt8)).map fun x => B x)))] [2, 4, 6] [46, 48, 50] [[], [], []] [(7, false), (8, true), (9, true), (10, true), (11, true), (12, true)] rfl rfl mix (by kernel_rfl) ?_
                  refine J.s_op rfl (fun _ => Yd.move rfl) rfl ?_
                  refine J.s_op rfl (fun _ => Yd.move rfl) rfl ?_
                  refine J.s_op rfl (fun _ => Yd.move rfl) rfl ?_
                  refine J.s_op rfl (fun _ => Yd.move rfl) rfl ?_
                  refine J.s_nil ?_
                  refine J.a_in [0, 1, 2] rfl (by rfl) ⟨?_, ?_, ?_, trivial⟩ ?_
                  · skip
                    intro w8 x1
                    have xs1 := x1.size
                    have e0 := e0.trans x1
                    have o42_7 := o42_7.ext x1
                    clear x1
                    refine PremP.nil ?_
                    exact OpYe.val rfl (Yd.slcH Try.underlying22 ti5 rfl (Ow.rd o42_7) rfl (by first | omega | (simp only [List.length_map, List.length_replicate, List.length_drop, List.length_take] <;> omega) | (simp <;> omega)))
                  · skip
                    intro w9 x1
                    have xs1 := x1.size
                    have e0 := e0.trans x1
                    have o42_7 := o42_7.ext x1
                    clear x1
                    refine PremP.nil ?_
                    exact OpYe.mk rfl ((Ye.make (base := w9.heap.size) Try.underlying22 ti5 rfl rfl (by first | omega | (simp only [List.length_map, List.length_replicate, List.length_drop, List.length_take] <;> omega) | (simp <;> omega)) (by first | omega | (simp only [List.length_map, List.length_replicate, List.length_drop, List.length_take] <;> omega) | (simp <;> omega)) (by unfold maxLen; omega) rfl (Nat.le_refl _)).mono fun v w2 h => ⟨⟨v, rfl, by have h9 := Ow.base h.1 xs1; rw [rep_B] at h9; skip; exact h9⟩, h.2⟩)
                  · skip
                    intro w10 x1
                    have xs1 := x1.size
                    have e0 := e0.trans x1
                    have o42_7 := o42_7.ext x1
                    clear x1
                    refine PremP.nil ?_
                    exact OpYe.mk rfl ((Ye.make (base := w10.heap.size) Try.underlying22 ti5 rfl rfl (by first | omega | (simp only [List.length_map, List.length_replicate, List.length_drop, List.length_take] <;> omega) | (simp <;> omega)) (by first | omega | (simp only [List.length_map, List.length_replicate, List.length_drop, List.length_take] <;> omega) | (simp <;> omega)) (by unfold maxLen; omega) rfl (Nat.le_refl _)).mono fun v w2 h => ⟨⟨v, rfl, by have h9 := Ow.base h.1 xs1; rw [rep_B] at h9; skip; exact h9⟩, h.2⟩)
                  intro w11 x1
                  refine PremP.v rfl ?_
                  refine PremP.own rfl fun s48_11 o48_11 => ?_
                  have o48_11b := o48_11
                  have ap_s42_7_s48_11 : Ap s42_7.ownBlock s48_11.ownBlock := Ap.mk (Ow.live o42_7) (Ow.fr o48_11)
                  have fr_s48_11 : Fr w.heap.size s48_11.ownBlock := Fr.le (Ow.fr o48_11) e0.size
                  replace o48_11 := Ow.base o48_11 e0.size
                  refine PremP.own rfl fun s50_11 o50_11 => ?_
                  have o50_11b := o50_11
                  have ap_s42_7_s50_11 : Ap s42_7.ownBlock s50_11.ownBlock := Ap.mk (Ow.live o42_7) (Ow.fr o50_11)
                  have fr_s50_11 : Fr w.heap.size s50_11.ownBlock := Fr.le (Ow.fr o50_11) e0.size
                  replace o50_11 := Ow.base o50_11 e0.size
                  have xs1 := x1.size
                  have e0 := e0.trans x1
                  have o42_7 := o42_7.ext x1
                  clear x1
                  refine PremP.nil ?_
                  refine J.s_eff rfl (Ye.call cl8 rfl (Seal_ok (Ow.rd o42_7) (Bs.slc (Ow.rd o42_7) (by decide) (by simp only [List.length_replicate, List.length_drop, List.length_take]; omega)) (Ow.rd o48_11) (Ow.rd o50_11))) rfl ?_
                  rintro _ w12 ⟨s51_12, rfl, rs51_12, x1⟩
                  have e0 := e0.trans x1
                  have o42_7 := o42_7.ext x1
                  have o48_11 := o48_11.ext x1
                  have o50_11 := o50_11.ext x1
                  clear x1
                  refine J.s_op rfl (fun _ => Yd.move rfl) rfl ?_
                  refine J.s_op rfl (fun _ => Yd.extract rfl rfl) rfl ?_
                  refine J.s_op rfl (fun _ => Yd.extract rfl rfl) rfl ?_
                  refine J.s_op rfl (fun _ => Yd.assign rfl) rfl ?_
                  refine J.s_op rfl (fun _ => Yd.assign rfl) rfl ?_
                  refine J.s_nil ?_
                  refine J.n_np ?_
                  refine J.n_then ?_
                  refine J.seq ?_
                  refine J.region ?_
                  refine J.op (Yd.assign rfl) rfl ?_
                  refine J.nil ?_
                  refine J.n_then ?_
                  refine J.seq ?_
                  refine J.seq ?_
                  refine J.region ?_
                  refine J.op (Yd.move rfl) rfl ?_
                  refine J.op (Yd.gtr rfl rfl) rfl ?_
                  refine J.op (Yd.move rfl) rfl ?_
                  refine J.split_dec (t := 56) rfl (fun h8 => ?_) (fun h8 => ?_)
                  · skip
                    refine J.not_g rfl rfl rfl rfl rfl ?_
                    refine J.not_g rfl rfl rfl rfl rfl ?_
                    refine J.op (Yd.pick_t rfl rfl) rfl ?_
                    refine J.nil ?_
                    refine J.n_then ?_
                    refine J.cond_true rfl ?_
                    refine J.region ?_
                    refine J.op (Yd.assign rfl) rfl ?_
                    refine J.nil ?_
                    refine J.n_then ?_
                    refine J.seq ?_
                    refine J.regionA [(0, true), (1, true), (3, true)] [(2, Asr.v 63 (slc s42_7 0 (12 : Int).toNat)), (4, Asr.v 65 (I (n % 32))), (5, Asr.own 66 w12.heap.size 5 (((List.replicate (n % 32).toNat (0 : UInt8)).map fun x => B x)))] [2, 4, 5] [63, 65, 66] [[], [], [1]] [(6, false), (7, true), (8, true), (9, true), (10, true), (11, true)] rfl rfl mix (by kernel_rfl) ?_
                    refine J.s_op rfl (fun _ => Yd.move rfl) rfl ?_
                    refine J.s_op rfl (fun _ => Yd.move rfl) rfl ?_
                    refine J.s_op rfl (fun _ => Yd.move rfl) rfl ?_
                    refine J.s_nil ?_
                    refine J.a_in [0, 1, 2] rfl (by rfl) ⟨?_, ?_, ?_, trivial⟩ ?_
                    · skip
                      intro w13 x1
                      have xs1 := x1.size
                      have e0 := e0.trans x1
                      have o42_7 := o42_7.ext x1
                      have o48_11 := o48_11.ext x1
                      have o50_11 := o50_11.ext x1
                      have rs51_12 := rs51_12.ext x1
                      clear x1
                      refine PremP.nil ?_
                      exact OpYe.val rfl (Yd.slcH Try.underlying22 ti5 rfl (Ow.rd o42_7) rfl (by first | omega | (simp only [List.length_map, List.length_replicate, List.length_drop, List.length_take] <;> omega) | (simp <;> omega)))
                    · skip
                      intro w14 x1
                      have xs1 := x1.size
                      have e0 := e0.trans x1
                      have o42_7 := o42_7.ext x1
                      have o48_11 := o48_11.ext x1
                      have o50_11 := o50_11.ext x1
                      have rs51_12 := rs51_12.ext x1
                      clear x1
                      refine PremP.nil ?_
                      exact OpYe.mk rfl ((Ye.call cl15 rfl (Round_ok (by omega) (by omega))).mono fun v w2 h => ⟨⟨(), h.1, trivial⟩, h.2⟩)
                    · skip
                      intro w15 x1
                      refine PremP.v rfl ?_
                      have xs1 := x1.size
                      have e0 := e0.trans x1
                      have o42_7 := o42_7.ext x1
                      have o48_11 := o48_11.ext x1
                      have o50_11 := o50_11.ext x1
                      have rs51_12 := rs51_12.ext x1
                      clear x1
                      refine PremP.nil ?_
                      exact OpYe.mk rfl ((Ye.make (base := w15.heap.size) Try.underlying22 ti5 rfl rfl (by first | omega | (simp only [List.length_map, List.length_replicate, List.length_drop, List.length_take] <;> omega) | (simp <;> omega)) (by first | omega | (simp only [List.length_map, List.length_replicate, List.length_drop, List.length_take] <;> omega) | (simp <;> omega)) (by unfold maxLen; omega) rfl (Nat.le_refl _)).mono fun v w2 h => ⟨⟨v, rfl, by have h9 := Ow.base h.1 xs1; rw [rep_B] at h9; skip; exact h9⟩, h.2⟩)
                    intro w16 x1
                    refine PremP.v rfl ?_
                    refine PremP.v rfl ?_
                    refine PremP.own rfl fun s66_16 o66_16 => ?_
                    have o66_16b := o66_16
                    have ap_s42_7_s66_16 : Ap s42_7.ownBlock s66_16.ownBlock := Ap.mk (Ow.live o42_7) (Ow.fr o66_16)
                    have ap_s48_11_s66_16 : Ap s48_11.ownBlock s66_16.ownBlock := Ap.mk (Ow.live o48_11) (Ow.fr o66_16)
                    have ap_s50_11_s66_16 : Ap s50_11.ownBlock s66_16.ownBlock := Ap.mk (Ow.live o50_11) (Ow.fr o66_16)
                    have fr_s66_16 : Fr w.heap.size s66_16.ownBlock := Fr.le (Ow.fr o66_16) e0.size
                    replace o66_16 := Ow.base o66_16 e0.size
                    have xs1 := x1.size
                    have e0 := e0.trans x1
                    have o42_7 := o42_7.ext x1
                    have o48_11 := o48_11.ext x1
                    have o50_11 := o50_11.ext x1
                    have rs51_12 := rs51_12.ext x1
                    clear x1
                    refine PremP.nil ?_
                    refine J.s_eff rfl (Ye.call cl10 rfl (Open_ok (Ow.rd o42_7) (Bs.slc (Ow.rd o42_7) (by decide) (by simp only [List.length_replicate, List.length_drop, List.length_take]; omega)) (Rd.nilM (fun x : UInt8 => B x) _) (Ow.rd o66_16))) rfl ?_
                    rintro _ w17 ⟨s67_17, rfl, rs67_17, x1⟩
                    have e0 := e0.trans x1
                    have o42_7 := o42_7.ext x1
                    have o48_11 := o48_11.ext x1
                    have o50_11 := o50_11.ext x1
                    have rs51_12 := rs51_12.ext x1
                    have o66_16 := o66_16.ext x1
                    clear x1
                    refine J.s_op rfl (fun _ => Yd.move rfl) rfl ?_
                    refine J.s_op rfl (fun _ => Yd.extract rfl rfl) rfl ?_
                    refine J.s_op rfl (fun _ => Yd.extract rfl rfl) rfl ?_
                    refine J.s_op rfl (fun _ => Yd.assign rfl) rfl ?_
                    refine J.s_op rfl (fun _ => Yd.assign rfl) rfl ?_
                    refine J.s_nil ?_
                    refine J.n_np ?_
                    refine J.n_then ?_
                    refine J.seq ?_
                    refine J.region ?_
                    refine J.op (Yd.move rfl) rfl ?_
                    refine J.op (Yd.move rfl) rfl ?_
                    refine J.op (Yd.eql rfl rfl) rfl ?_
                    refine J.op (Yd.move rfl) rfl ?_
                    refine J.know (t := 73) (v' := .bool true) rfl (tt (by first | exact sealE_big (by simp only [List.length_replicate, List.length_drop, List.length_take]; omega) (by simp only [List.length_replicate, List.length_drop, List.length_take]; omega) (by simp only [List.length_replicate, List.length_drop, List.length_take]; omega) | exact sealE_ok (by simp only [List.length_replicate, List.length_drop, List.length_take]; omega) (by simp only [List.length_replicate, List.length_drop, List.length_take]; omega) (by simp only [List.length_replicate, List.length_drop, List.length_take]; omega))) ?_
                    refine J.op_g rfl rfl rfl (Yd.move rfl) rfl ?_
                    refine J.op_g rfl rfl rfl (Yd.neq rfl rfl) rfl ?_
                    refine J.op_g rfl rfl rfl (Yd.move rfl) rfl ?_
                    refine J.split_dec (t := 76) rfl (fun h9 => ?_) (fun h9 => ?_)
                    · skip
                      refine J.not_g rfl rfl rfl rfl rfl ?_
                      refine J.not_g rfl rfl rfl rfl rfl ?_
                      refine J.not_g rfl rfl rfl rfl rfl ?_
                      refine J.not_g rfl rfl rfl rfl rfl ?_
                      refine J.not_g rfl rfl rfl rfl rfl ?_
                      refine J.op_g rfl rfl rfl (Yd.pick_t rfl rfl) rfl ?_
                      refine J.op (Yd.pick_t rfl rfl) rfl ?_
                      refine J.op (Yd.move rfl) rfl ?_
                      refine J.op_g rfl rfl rfl (Yd.move rfl) rfl ?_
                      refine J.op_g rfl rfl rfl (Yd.eql rfl rfl) rfl ?_
                      refine J.op (Yd.pick_t rfl rfl) rfl ?_
                      refine J.op (Yd.move rfl) rfl ?_
                      refine J.know (t := 88) (v' := .bool true) rfl (tt (by exact openE_bad (by simp only [List.length_replicate, List.length_drop, List.length_take]; omega) (by simp only [List.length_replicate, List.length_drop, List.length_take]; omega) (by simp only [List.length_replicate, List.length_nil]; omega) (.inl (by simp only [List.length_replicate, List.length_drop, List.length_take]; omega)))) ?_
                      refine J.eff_g rfl rfl rfl (Ye.call cl7 rfl (awake_ok)) rfl ?_
                      rintro _ w18 ⟨rfl, x1⟩
                      have e0 := e0.trans x1
                      have o42_7 := o42_7.ext x1
                      have o48_11 := o48_11.ext x1
                      have o50_11 := o50_11.ext x1
                      have rs51_12 := rs51_12.ext x1
                      have o66_16 := o66_16.ext x1
                      have rs67_17 := rs67_17.ext x1
                      clear x1
                      refine J.op (Yd.pick_t rfl rfl) rfl ?_
                      refine J.op (Yd.assign rfl) rfl ?_
                      refine J.nil ?_
                      refine J.n_then ?_
                      refine J.ret ?_
                      exact J.ret1 rfl rfl (⟨_, rfl, rfl, e0⟩)
                    · skip
                      refine J.op_g rfl rfl rfl (Yd.move rfl) rfl ?_
                      refine J.op_g rfl rfl rfl (Yd.len_b Try.underlying22 rfl rs51_12) rfl ?_
                      refine J.op_g rfl rfl rfl (Yd.move rfl) rfl ?_
                      refine J.op_g rfl rfl rfl (Yd.add rfl rfl (by first | omega | (simp only [List.length_map, List.length_replicate, List.length_drop, List.length_take] <;> omega) | (simp <;> omega))) rfl ?_
                      refine J.op_g rfl rfl rfl (Yd.eql rfl rfl) rfl ?_
                      refine J.op_g rfl rfl rfl (Yd.pick_f rfl rfl) rfl ?_
                      refine J.op (Yd.pick_t rfl rfl) rfl ?_
                      refine J.op (Yd.move rfl) rfl ?_
                      refine J.know (t := 84) (v' := .bool true) rfl (tt (by rw [sealL_len (Classical.not_not.1 h9), List.length_replicate]; omega)) ?_
                      refine J.op_g rfl rfl rfl (Yd.move rfl) rfl ?_
                      refine J.op_g rfl rfl rfl (Yd.eql rfl rfl) rfl ?_
                      refine J.op (Yd.pick_t rfl rfl) rfl ?_
                      refine J.op (Yd.move rfl) rfl ?_
                      refine J.know (t := 88) (v' := .bool true) rfl (tt (by exact openE_bad (by simp only [List.length_replicate, List.length_drop, List.length_take]; omega) (by simp only [List.length_replicate, List.length_drop, List.length_take]; omega) (by simp only [List.length_replicate, List.length_nil]; omega) (.inl (by simp only [List.length_replicate, List.length_drop, List.length_take]; omega)))) ?_
                      refine J.eff_g rfl rfl rfl (Ye.call cl7 rfl (awake_ok)) rfl ?_
                      rintro _ w19 ⟨rfl, x1⟩
                      have e0 := e0.trans x1
                      have o42_7 := o42_7.ext x1
                      have o48_11 := o48_11.ext x1
                      have o50_11 := o50_11.ext x1
                      have rs51_12 := rs51_12.ext x1
                      have o66_16 := o66_16.ext x1
                      have rs67_17 := rs67_17.ext x1
                      clear x1
                      refine J.op (Yd.pick_t rfl rfl) rfl ?_
                      refine J.op (Yd.assign rfl) rfl ?_
                      refine J.nil ?_
                      refine J.n_then ?_
                      refine J.ret ?_
                      exact J.ret1 rfl rfl (⟨_, rfl, rfl, e0⟩)
                  · skip
                    refine J.op_g rfl rfl rfl (Yd.move rfl) rfl ?_
                    refine J.op_g rfl rfl rfl (Yd.gtr rfl rfl) rfl ?_
                    refine J.op (Yd.pick_f rfl rfl) rfl ?_
                    refine J.nil ?_
                    refine J.n_then ?_
                    refine J.cond_dec rfl (fun hc1 => ?_) (fun hc1 => ?_)
                    · skip
                      refine J.region ?_
                      refine J.op (Yd.assign rfl) rfl ?_
                      refine J.nil ?_
                      refine J.n_then ?_
                      refine J.seq ?_
                      refine J.regionA [(0, true), (1, true), (3, true)] [(2, Asr.v 63 (slc s42_7 0 (12 : Int).toNat)), (4, Asr.v 65 (I (n % 32))), (5, Asr.own 66 w12.heap.size 5 (((List.replicate (n % 32).toNat (0 : UInt8)).map fun x => B x)))] [2, 4, 5] [63, 65, 66] [[], [], [1]] [(6, false), (7, true), (8, true), (9, true), (10, true), (11, true)] rfl rfl mix (by kernel_rfl) ?_
                      refine J.s_op rfl (fun _ => Yd.move rfl) rfl ?_
                      refine J.s_op rfl (fun _ => Yd.move rfl) rfl ?_
                      refine J.s_op rfl (fun _ => Yd.move rfl) rfl ?_
                      refine J.s_nil ?_
                      refine J.a_in [0, 1, 2] rfl (by rfl) ⟨?_, ?_, ?_, trivial⟩ ?_
                      · skip
                        intro w20 x1
                        have xs1 := x1.size
                        have e0 := e0.trans x1
                        have o42_7 := o42_7.ext x1
                        have o48_11 := o48_11.ext x1
                        have o50_11 := o50_11.ext x1
                        have rs51_12 := rs51_12.ext x1
                        clear x1
                        refine PremP.nil ?_
                        exact OpYe.val rfl (Yd.slcH Try.underlying22 ti5 rfl (Ow.rd o42_7) rfl (by first | omega | (simp only [List.length_map, List.length_replicate, List.length_drop, List.length_take] <;> omega) | (simp <;> omega)))
                      · skip
                        intro w21 x1
                        have xs1 := x1.size
                        have e0 := e0.trans x1
                        have o42_7 := o42_7.ext x1
                        have o48_11 := o48_11.ext x1
                        have o50_11 := o50_11.ext x1
                        have rs51_12 := rs51_12.ext x1
                        clear x1
                        refine PremP.nil ?_
                        exact OpYe.mk rfl ((Ye.call cl15 rfl (Round_ok (by omega) (by omega))).mono fun v w2 h => ⟨⟨(), h.1, trivial⟩, h.2⟩)
                      · skip
                        intro w22 x1
                        refine PremP.v rfl ?_
                        have xs1 := x1.size
                        have e0 := e0.trans x1
                        have o42_7 := o42_7.ext x1
                        have o48_11 := o48_11.ext x1
                        have o50_11 := o50_11.ext x1
                        have rs51_12 := rs51_12.ext x1
                        clear x1
                        refine PremP.nil ?_
                        exact OpYe.mk rfl ((Ye.make (base := w22.heap.size) Try.underlying22 ti5 rfl rfl (by first | omega | (simp only [List.length_map, List.length_replicate, List.length_drop, List.length_take] <;> omega) | (simp <;> omega)) (by first | omega | (simp only [List.length_map, List.length_replicate, List.length_drop, List.length_take] <;> omega) | (simp <;> omega)) (by unfold maxLen; omega) rfl (Nat.le_refl _)).mono fun v w2 h => ⟨⟨v, rfl, by have h9 := Ow.base h.1 xs1; rw [rep_B] at h9; skip; exact h9⟩, h.2⟩)
                      intro w23 x1
                      refine PremP.v rfl ?_
                      refine PremP.v rfl ?_
                      refine PremP.own rfl fun s66_23 o66_23 => ?_
                      have o66_23b := o66_23
                      have ap_s42_7_s66_23 : Ap s42_7.ownBlock s66_23.ownBlock := Ap.mk (Ow.live o42_7) (Ow.fr o66_23)
                      have ap_s48_11_s66_23 : Ap s48_11.ownBlock s66_23.ownBlock := Ap.mk (Ow.live o48_11) (Ow.fr o66_23)
                      have ap_s50_11_s66_23 : Ap s50_11.ownBlock s66_23.ownBlock := Ap.mk (Ow.live o50_11) (Ow.fr o66_23)
                      have fr_s66_23 : Fr w.heap.size s66_23.ownBlock := Fr.le (Ow.fr o66_23) e0.size
                      replace o66_23 := Ow.base o66_23 e0.size
                      have xs1 := x1.size
                      have e0 := e0.trans x1
                      have o42_7 := o42_7.ext x1
                      have o48_11 := o48_11.ext x1
                      have o50_11 := o50_11.ext x1
                      have rs51_12 := rs51_12.ext x1
                      clear x1
                      refine PremP.nil ?_
                      refine J.s_eff rfl (Ye.call cl10 rfl (Open_ok (Ow.rd o42_7) (Bs.slc (Ow.rd o42_7) (by decide) (by simp only [List.length_replicate, List.length_drop, List.length_take]; omega)) (Rd.nilM (fun x : UInt8 => B x) _) (Ow.rd o66_23))) rfl ?_
                      rintro _ w24 ⟨s67_24, rfl, rs67_24, x1⟩
                      have e0 := e0.trans x1
                      have o42_7 := o42_7.ext x1
                      have o48_11 := o48_11.ext x1
                      have o50_11 := o50_11.ext x1
                      have rs51_12 := rs51_12.ext x1
                      have o66_23 := o66_23.ext x1
                      clear x1
                      refine J.s_op rfl (fun _ => Yd.move rfl) rfl ?_
                      refine J.s_op rfl (fun _ => Yd.extract rfl rfl) rfl ?_
                      refine J.s_op rfl (fun _ => Yd.extract rfl rfl) rfl ?_
                      refine J.s_op rfl (fun _ => Yd.assign rfl) rfl ?_
                      refine J.s_op rfl (fun _ => Yd.assign rfl) rfl ?_
                      refine J.s_nil ?_
                      refine J.n_np ?_
                      refine J.n_then ?_
                      refine J.seq ?_
                      refine J.region ?_
                      refine J.op (Yd.move rfl) rfl ?_
                      refine J.op (Yd.move rfl) rfl ?_
                      refine J.op (Yd.eql rfl rfl) rfl ?_
                      refine J.op (Yd.move rfl) rfl ?_
                      refine J.know (t := 73) (v' := .bool true) rfl (tt (by first | exact sealE_big (by simp only [List.length_replicate, List.length_drop, List.length_take]; omega) (by simp only [List.length_replicate, List.length_drop, List.length_take]; omega) (by simp only [List.length_replicate, List.length_drop, List.length_take]; omega) | exact sealE_ok (by simp only [List.length_replicate, List.length_drop, List.length_take]; omega) (by simp only [List.length_replicate, List.length_drop, List.length_take]; omega) (by simp only [List.length_replicate, List.length_drop, List.length_take]; omega))) ?_
                      refine J.op_g rfl rfl rfl (Yd.move rfl) rfl ?_
                      refine J.op_g rfl rfl rfl (Yd.neq rfl rfl) rfl ?_
                      refine J.op_g rfl rfl rfl (Yd.move rfl) rfl ?_
                      refine J.split_dec (t := 76) rfl (fun h9 => ?_) (fun h9 => ?_)
                      · skip
                        refine J.not_g rfl rfl rfl rfl rfl ?_
                        refine J.not_g rfl rfl rfl rfl rfl ?_
                        refine J.not_g rfl rfl rfl rfl rfl ?_
                        refine J.not_g rfl rfl rfl rfl rfl ?_
                        refine J.not_g rfl rfl rfl rfl rfl ?_
                        refine J.op_g rfl rfl rfl (Yd.pick_t rfl rfl) rfl ?_
                        refine J.op (Yd.pick_t rfl rfl) rfl ?_
                        refine J.op (Yd.move rfl) rfl ?_
                        refine J.op_g rfl rfl rfl (Yd.move rfl) rfl ?_
                        refine J.op_g rfl rfl rfl (Yd.eql rfl rfl) rfl ?_
                        refine J.op (Yd.pick_t rfl rfl) rfl ?_
                        refine J.op (Yd.move rfl) rfl ?_
                        refine J.know (t := 88) (v' := .bool true) rfl (tt (by exact openE_bad (by simp only [List.length_replicate, List.length_drop, List.length_take]; omega) (by simp only [List.length_replicate, List.length_drop, List.length_take]; omega) (by simp only [List.length_replicate, List.length_nil]; omega) (.inl (by simp only [List.length_replicate, List.length_drop, List.length_take]; omega)))) ?_
                        refine J.eff_g rfl rfl rfl (Ye.call cl7 rfl (awake_ok)) rfl ?_
                        rintro _ w25 ⟨rfl, x1⟩
                        have e0 := e0.trans x1
                        have o42_7 := o42_7.ext x1
                        have o48_11 := o48_11.ext x1
                        have o50_11 := o50_11.ext x1
                        have rs51_12 := rs51_12.ext x1
                        have o66_23 := o66_23.ext x1
                        have rs67_24 := rs67_24.ext x1
                        clear x1
                        refine J.op (Yd.pick_t rfl rfl) rfl ?_
                        refine J.op (Yd.assign rfl) rfl ?_
                        refine J.nil ?_
                        refine J.n_then ?_
                        refine J.ret ?_
                        exact J.ret1 rfl rfl (⟨_, rfl, rfl, e0⟩)
                      · skip
                        refine J.op_g rfl rfl rfl (Yd.move rfl) rfl ?_
                        refine J.op_g rfl rfl rfl (Yd.len_b Try.underlying22 rfl rs51_12) rfl ?_
                        refine J.op_g rfl rfl rfl (Yd.move rfl) rfl ?_
                        refine J.op_g rfl rfl rfl (Yd.add rfl rfl (by first | omega | (simp only [List.length_map, List.length_replicate, List.length_drop, List.length_take] <;> omega) | (simp <;> omega))) rfl ?_
                        refine J.op_g rfl rfl rfl (Yd.eql rfl rfl) rfl ?_
                        refine J.op_g rfl rfl rfl (Yd.pick_f rfl rfl) rfl ?_
                        refine J.op (Yd.pick_t rfl rfl) rfl ?_
                        refine J.op (Yd.move rfl) rfl ?_
                        refine J.know (t := 84) (v' := .bool true) rfl (tt (by rw [sealL_len (Classical.not_not.1 h9), List.length_replicate]; omega)) ?_
                        refine J.op_g rfl rfl rfl (Yd.move rfl) rfl ?_
                        refine J.op_g rfl rfl rfl (Yd.eql rfl rfl) rfl ?_
                        refine J.op (Yd.pick_t rfl rfl) rfl ?_
                        refine J.op (Yd.move rfl) rfl ?_
                        refine J.know (t := 88) (v' := .bool true) rfl (tt (by exact openE_bad (by simp only [List.length_replicate, List.length_drop, List.length_take]; omega) (by simp only [List.length_replicate, List.length_drop, List.length_take]; omega) (by simp only [List.length_replicate, List.length_nil]; omega) (.inl (by simp only [List.length_replicate, List.length_drop, List.length_take]; omega)))) ?_
                        refine J.eff_g rfl rfl rfl (Ye.call cl7 rfl (awake_ok)) rfl ?_
                        rintro _ w26 ⟨rfl, x1⟩
                        have e0 := e0.trans x1
                        have o42_7 := o42_7.ext x1
                        have o48_11 := o48_11.ext x1
                        have o50_11 := o50_11.ext x1
                        have rs51_12 := rs51_12.ext x1
                        have o66_23 := o66_23.ext x1
                        have rs67_24 := rs67_24.ext x1
                        clear x1
                        refine J.op (Yd.pick_t rfl rfl) rfl ?_
                        refine J.op (Yd.assign rfl) rfl ?_
                        refine J.nil ?_
                        refine J.n_then ?_
                        refine J.ret ?_
                        exact J.ret1 rfl rfl (⟨_, rfl, rfl, e0⟩)
                    · skip
                      refine J.skip ?_
                      refine J.n_then ?_
                      refine J.seq ?_
                      refine J.regionA [(0, true), (1, true), (3, true)] [(2, Asr.v 63 (slc s42_7 0 (12 : Int).toNat)), (4, Asr.v 65 (I (n % 32))), (5, Asr.own 66 w12.heap.size 5 (((List.replicate (n % 32).toNat (0 : UInt8)).map fun x => B x)))] [2, 4, 5] [63, 65, 66] [[], [], [1]] [(6, false), (7, true), (8, true), (9, true), (10, true), (11, true)] rfl rfl mix (by kernel_rfl) ?_
                      refine J.s_op rfl (fun _ => Yd.move rfl) rfl ?_
                      refine J.s_op rfl (fun _ => Yd.move rfl) rfl ?_
                      refine J.s_op rfl (fun _ => Yd.move rfl) rfl ?_
                      refine J.s_nil ?_
                      refine J.a_in [0, 1, 2] rfl (by rfl) ⟨?_, ?_, ?_, trivial⟩ ?_
                      · skip
                        intro w27 x1
                        have xs1 := x1.size
                        have e0 := e0.trans x1
                        have o42_7 := o42_7.ext x1
                        have o48_11 := o48_11.ext x1
                        have o50_11 := o50_11.ext x1
                        have rs51_12 := rs51_12.ext x1
                        clear x1
                        refine PremP.nil ?_
                        exact OpYe.val rfl (Yd.slcH Try.underlying22 ti5 rfl (Ow.rd o42_7) rfl (by first | omega | (simp only [List.length_map, List.length_replicate, List.length_drop, List.length_take] <;> omega) | (simp <;> omega)))
                      · skip
                        intro w28 x1
                        have xs1 := x1.size
                        have e0 := e0.trans x1
                        have o42_7 := o42_7.ext x1
                        have o48_11 := o48_11.ext x1
                        have o50_11 := o50_11.ext x1
                        have rs51_12 := rs51_12.ext x1
                        clear x1
                        refine PremP.nil ?_
                        exact OpYe.mk rfl ((Ye.call cl15 rfl (Round_ok (by omega) (by omega))).mono fun v w2 h => ⟨⟨(), h.1, trivial⟩, h.2⟩)
                      · skip
                        intro w29 x1
                        refine PremP.v rfl ?_
                        have xs1 := x1.size
                        have e0 := e0.trans x1
                        have o42_7 := o42_7.ext x1
                        have o48_11 := o48_11.ext x1
                        have o50_11 := o50_11.ext x1
                        have rs51_12 := rs51_12.ext x1
                        clear x1
                        refine PremP.nil ?_
                        exact OpYe.mk rfl ((Ye.make (base := w29.heap.size) Try.underlying22 ti5 rfl rfl (by first | omega | (simp only [List.length_map, List.length_replicate, List.length_drop, List.length_take] <;> omega) | (simp <;> omega)) (by first | omega | (simp only [List.length_map, List.length_replicate, List.length_drop, List.length_take] <;> omega) | (simp <;> omega)) (by unfold maxLen; omega) rfl (Nat.le_refl _)).mono fun v w2 h => ⟨⟨v, rfl, by have h9 := Ow.base h.1 xs1; rw [rep_B] at h9; skip; exact h9⟩, h.2⟩)
                      intro w30 x1
                      refine PremP.v rfl ?_
                      refine PremP.v rfl ?_
                      refine PremP.own rfl fun s66_30 o66_30 => ?_
                      have o66_30b := o66_30
                      have ap_s42_7_s66_30 : Ap s42_7.ownBlock s66_30.ownBlock := Ap.mk (Ow.live o42_7) (Ow.fr o66_30)
                      have ap_s48_11_s66_30 : Ap s48_11.ownBlock s66_30.ownBlock := Ap.mk (Ow.live o48_11) (Ow.fr o66_30)
                      have ap_s50_11_s66_30 : Ap s50_11.ownBlock s66_30.ownBlock := Ap.mk (Ow.live o50_11) (Ow.fr o66_30)
                      have fr_s66_30 : Fr w.heap.size s66_30.ownBlock := Fr.le (Ow.fr o66_30) e0.size
                      replace o66_30 := Ow.base o66_30 e0.size
                      have xs1 := x1.size
                      have e0 := e0.trans x1
                      have o42_7 := o42_7.ext x1
                      have o48_11 := o48_11.ext x1
                      have o50_11 := o50_11.ext x1
                      have rs51_12 := rs51_12.ext x1
                      clear x1
                      refine PremP.nil ?_
                      refine J.s_eff rfl (Ye.call cl10 rfl (Open_ok (Ow.rd o42_7) (Bs.slc (Ow.rd o42_7) (by decide) (by simp only [List.length_replicate, List.length_drop, List.length_take]; omega)) (Rd.nilM (fun x : UInt8 => B x) _) (Ow.rd o66_30))) rfl ?_
                      rintro _ w31 ⟨s67_31, rfl, rs67_31, x1⟩
                      have e0 := e0.trans x1
                      have o42_7 := o42_7.ext x1
                      have o48_11 := o48_11.ext x1
                      have o50_11 := o50_11.ext x1
                      have rs51_12 := rs51_12.ext x1
                      have o66_30 := o66_30.ext x1
                      clear x1
                      refine J.s_op rfl (fun _ => Yd.move rfl) rfl ?_
                      refine J.s_op rfl (fun _ => Yd.extract rfl rfl) rfl ?_
                      refine J.s_op rfl (fun _ => Yd.extract rfl rfl) rfl ?_
                      refine J.s_op rfl (fun _ => Yd.assign rfl) rfl ?_
                      refine J.s_op rfl (fun _ => Yd.assign rfl) rfl ?_
                      refine J.s_nil ?_
                      refine J.n_np ?_
                      refine J.n_then ?_
                      refine J.seq ?_
                      refine J.region ?_
                      refine J.op (Yd.move rfl) rfl ?_
                      refine J.op (Yd.move rfl) rfl ?_
                      refine J.op (Yd.eql rfl rfl) rfl ?_
                      refine J.op (Yd.move rfl) rfl ?_
                      refine J.know (t := 73) (v' := .bool true) rfl (tt (by first | exact sealE_big (by simp only [List.length_replicate, List.length_drop, List.length_take]; omega) (by simp only [List.length_replicate, List.length_drop, List.length_take]; omega) (by simp only [List.length_replicate, List.length_drop, List.length_take]; omega) | exact sealE_ok (by simp only [List.length_replicate, List.length_drop, List.length_take]; omega) (by simp only [List.length_replicate, List.length_drop, List.length_take]; omega) (by simp only [List.length_replicate, List.length_drop, List.length_take]; omega))) ?_
                      refine J.op_g rfl rfl rfl (Yd.move rfl) rfl ?_
                      refine J.op_g rfl rfl rfl (Yd.neq rfl rfl) rfl ?_
                      refine J.op_g rfl rfl rfl (Yd.move rfl) rfl ?_
                      refine J.split_dec (t := 76) rfl (fun h9 => ?_) (fun h9 => ?_)
                      · skip
                        refine J.not_g rfl rfl rfl rfl rfl ?_
                        refine J.not_g rfl rfl rfl rfl rfl ?_
                        refine J.not_g rfl rfl rfl rfl rfl ?_
                        refine J.not_g rfl rfl rfl rfl rfl ?_
                        refine J.not_g rfl rfl rfl rfl rfl ?_
                        refine J.op_g rfl rfl rfl (Yd.pick_t rfl rfl) rfl ?_
                        refine J.op (Yd.pick_t rfl rfl) rfl ?_
                        refine J.op (Yd.move rfl) rfl ?_
                        refine J.op_g rfl rfl rfl (Yd.move rfl) rfl ?_
                        refine J.op_g rfl rfl rfl (Yd.eql rfl rfl) rfl ?_
                        refine J.op (Yd.pick_t rfl rfl) rfl ?_
                        refine J.op (Yd.move rfl) rfl ?_
                        refine J.know (t := 88) (v' := .bool true) rfl (tt (by exact openE_bad (by simp only [List.length_replicate, List.length_drop, List.length_take]; omega) (by simp only [List.length_replicate, List.length_drop, List.length_take]; omega) (by simp only [List.length_replicate, List.length_nil]; omega) (.inl (by simp only [List.length_replicate, List.length_drop, List.length_take]; omega)))) ?_
                        refine J.eff_g rfl rfl rfl (Ye.call cl7 rfl (awake_ok)) rfl ?_
                        rintro _ w32 ⟨rfl, x1⟩
                        have e0 := e0.trans x1
                        have o42_7 := o42_7.ext x1
                        have o48_11 := o48_11.ext x1
                        have o50_11 := o50_11.ext x1
                        have rs51_12 := rs51_12.ext x1
                        have o66_30 := o66_30.ext x1
                        have rs67_31 := rs67_31.ext x1
                        clear x1
                        refine J.op (Yd.pick_t rfl rfl) rfl ?_
                        refine J.op (Yd.assign rfl) rfl ?_
                        refine J.nil ?_
                        refine J.n_then ?_
                        refine J.ret ?_
                        exact J.ret1 rfl rfl (⟨_, rfl, rfl, e0⟩)
                      · skip
                        refine J.op_g rfl rfl rfl (Yd.move rfl) rfl ?_
                        refine J.op_g rfl rfl rfl (Yd.len_b Try.underlying22 rfl rs51_12) rfl ?_
                        refine J.op_g rfl rfl rfl (Yd.move rfl) rfl ?_
                        refine J.op_g rfl rfl rfl (Yd.add rfl rfl (by first | omega | (simp only [List.length_map, List.length_replicate, List.length_drop, List.length_take] <;> omega) | (simp <;> omega))) rfl ?_
                        refine J.op_g rfl rfl rfl (Yd.eql rfl rfl) rfl ?_
                        refine J.op_g rfl rfl rfl (Yd.pick_f rfl rfl) rfl ?_
                        refine J.op (Yd.pick_t rfl rfl) rfl ?_
                        refine J.op (Yd.move rfl) rfl ?_
                        refine J.know (t := 84) (v' := .bool true) rfl (tt (by rw [sealL_len (Classical.not_not.1 h9), List.length_replicate]; omega)) ?_
                        refine J.op_g rfl rfl rfl (Yd.move rfl) rfl ?_
                        refine J.op_g rfl rfl rfl (Yd.eql rfl rfl) rfl ?_
                        refine J.op (Yd.pick_t rfl rfl) rfl ?_
                        refine J.op (Yd.move rfl) rfl ?_
                        refine J.know (t := 88) (v' := .bool true) rfl (tt (by exact openE_bad (by simp only [List.length_replicate, List.length_drop, List.length_take]; omega) (by simp only [List.length_replicate, List.length_drop, List.length_take]; omega) (by simp only [List.length_replicate, List.length_nil]; omega) (.inl (by simp only [List.length_replicate, List.length_drop, List.length_take]; omega)))) ?_
                        refine J.eff_g rfl rfl rfl (Ye.call cl7 rfl (awake_ok)) rfl ?_
                        rintro _ w33 ⟨rfl, x1⟩
                        have e0 := e0.trans x1
                        have o42_7 := o42_7.ext x1
                        have o48_11 := o48_11.ext x1
                        have o50_11 := o50_11.ext x1
                        have rs51_12 := rs51_12.ext x1
                        have o66_30 := o66_30.ext x1
                        have rs67_31 := rs67_31.ext x1
                        clear x1
                        refine J.op (Yd.pick_t rfl rfl) rfl ?_
                        refine J.op (Yd.assign rfl) rfl ?_
                        refine J.nil ?_
                        refine J.n_then ?_
                        refine J.ret ?_
                        exact J.ret1 rfl rfl (⟨_, rfl, rfl, e0⟩)
              · skip
                refine J.not_g rfl rfl rfl rfl rfl ?_
                refine J.not_g rfl rfl rfl rfl rfl ?_
                refine J.op_g rfl rfl rfl (Yd.pick_f rfl rfl) rfl ?_
                refine J.op (Yd.pick_f rfl rfl) rfl ?_
                refine J.nil ?_
                refine J.n_then ?_
                refine J.cond_false rfl ?_
                refine J.skip ?_
                refine J.n_then ?_
                refine J.seq ?_
                refine J.region ?_
                refine J.eff (Ye.make (base := w.heap.size) Try.underlying22 ti5 rfl rfl (by first | omega | (simp only [List.length_map, List.length_replicate, List.length_drop, List.length_take] <;> omega) | (simp <;> omega)) (by first | omega | (simp only [List.length_map, List.length_replicate, List.length_drop, List.length_take] <;> omega) | (simp <;> omega)) (by unfold maxLen; omega) rfl (Nat.le_refl _)) rfl ?_
                rintro s42_34 w34 ⟨o42_34, x1⟩
                have fr_s42_34 : Fr w.heap.size s42_34.ownBlock := Fr.le (Ow.fr o42_34) e0.size
                replace o42_34 := Ow.base o42_34 e0.size
                have e0 := e0.trans x1
                clear x1
                rw [rep_B] at o42_34
                refine J.op (Yd.assign rfl) rfl ?_
                refine J.nil ?_
                refine J.n_then ?_
                refine J.seq ?_
                refine J.regionA [(0, true), (1, true), (3, true), (5, true)] [(2, Asr.v 46 (slc s42_34 0 (12 : Int).toNat)), (4, Asr.own 48 w34.heap.size 5 (((List.replicate m.toNat (0 : UInt8)).map fun x => B x))), (6, Asr.own 50 w34.heap.size 5 (((List.replicate n.toNat (0 : UInt8)).map fun x => B x)))] [2, 4, 6] [46, 48, 50] [[], [], []] [(7, false), (8, true), (9, true), (10, true), (11, true), (12, true)] rfl rfl mix (by kernel_rfl) ?_
                refine J.s_op rfl (fun _ => Yd.move rfl) rfl ?_
                refine J.s_op rfl (fun _ => Yd.move rfl) rfl ?_
                refine J.s_op rfl (fun _ => Yd.move rfl) rfl ?_
                refine J.s_op rfl (fun _ => Yd.move rfl) rfl ?_
                refine J.s_nil ?_
                refine J.a_in [0, 1, 2] rfl (by rfl) ⟨?_, ?_, ?_, trivial⟩ ?_
                · skip
                  intro w35 x1
                  have xs1 := x1.size
                  have e0 := e0.trans x1
                  have o42_34 := o42_34.ext x1
                  clear x1
                  refine PremP.nil ?_
                  exact OpYe.val rfl (Yd.slcH Try.underlying22 ti5 rfl (Ow.rd o42_34) rfl (by first | omega | (simp only [List.length_map, List.length_replicate, List.length_drop, List.length_take] <;> omega) | (simp <;> omega)))
                · skip
                  intro w36 x1
                  have xs1 := x1.size
                  have e0 := e0.trans x1
                  have o42_34 := o42_34.ext x1
                  clear x1
                  refine PremP.nil ?_
                  exact OpYe.mk rfl ((Ye.make (base := w36.heap.size) Try.underlying22 ti5 rfl rfl (by first | omega | (simp only [List.length_map, List.length_replicate, List.length_drop, List.length_take] <;> omega) | (simp <;> omega)) (by first | omega | (simp only [List.length_map, List.length_replicate, List.length_drop, List.length_take] <;> omega) | (simp <;> omega)) (by unfold maxLen; omega) rfl (Nat.le_refl _)).mono fun v w2 h => ⟨⟨v, rfl, by have h9 := Ow.base h.1 xs1; rw [rep_B] at h9; skip; exact h9⟩, h.2⟩)
                · skip
                  intro w37 x1
                  have xs1 := x1.size
                  have e0 := e0.trans x1
                  have o42_34 := o42_34.ext x1
                  clear x1
                  refine PremP.nil ?_
                  exact OpYe.mk rfl ((Ye.make (base := w37.heap.size) Try.underlying22 ti5 rfl rfl (by first | omega | (simp only [List.length_map, List.length_replicate, List.length_drop, List.length_take] <;> omega) | (simp <;> omega)) (by first | omega | (simp only [List.length_map, List.length_replicate, List.length_drop, List.length_take] <;> omega) | (simp <;> omega)) (by unfold maxLen; omega) rfl (Nat.le_refl _)).mono fun v w2 h => ⟨⟨v, rfl, by have h9 := Ow.base h.1 xs1; rw [rep_B] at h9; skip; exact h9⟩, h.2⟩)
                intro w38 x1
                refine PremP.v rfl ?_
                refine PremP.own rfl fun s48_38 o48_38 => ?_
                have o48_38b := o48_38
                have ap_s42_34_s48_38 : Ap s42_34.ownBlock s48_38.ownBlock := Ap.mk (Ow.live o42_34) (Ow.fr o48_38)
                have fr_s48_38 : Fr w.heap.size s48_38.ownBlock := Fr.le (Ow.fr o48_38) e0.size
                replace o48_38 := Ow.base o48_38 e0.size
                refine PremP.own rfl fun s50_38 o50_38 => ?_
                have o50_38b := o50_38
                have ap_s42_34_s50_38 : Ap s42_34.ownBlock s50_38.ownBlock := Ap.mk (Ow.live o42_34) (Ow.fr o50_38)
                have fr_s50_38 : Fr w.heap.size s50_38.ownBlock := Fr.le (Ow.fr o50_38) e0.size
                replace o50_38 := Ow.base o50_38 e0.size
                have xs1 := x1.size
                have e0 := e0.trans x1
                have o42_34 := o42_34.ext x1
                clear x1
                refine PremP.nil ?_
                refine J.s_eff rfl (Ye.call cl8 rfl (Seal_ok (Ow.rd o42_34) (Bs.slc (Ow.rd o42_34) (by decide) (by simp only [List.length_replicate, List.length_drop, List.length_take]; omega)) (Ow.rd o48_38) (Ow.rd o50_38))) rfl ?_
                rintro _ w39 ⟨s51_39, rfl, rs51_39, x1⟩
                have e0 := e0.trans x1
                have o42_34 := o42_34.ext x1
                have o48_38 := o48_38.ext x1
                have o50_38 := o50_38.ext x1
                clear x1
                refine J.s_op rfl (fun _ => Yd.move rfl) rfl ?_
                refine J.s_op rfl (fun _ => Yd.extract rfl rfl) rfl ?_
                refine J.s_op rfl (fun _ => Yd.extract rfl rfl) rfl ?_
                refine J.s_op rfl (fun _ => Yd.assign rfl) rfl ?_
                refine J.s_op rfl (fun _ => Yd.assign rfl) rfl ?_
                refine J.s_nil ?_
                refine J.n_np ?_
                refine J.n_then ?_
                refine J.seq ?_
                refine J.region ?_
                refine J.op (Yd.assign rfl) rfl ?_
                refine J.nil ?_
                refine J.n_then ?_
                refine J.seq ?_
                refine J.seq ?_
                refine J.region ?_
                refine J.op (Yd.move rfl) rfl ?_
                refine J.op (Yd.gtr rfl rfl) rfl ?_
                refine J.op (Yd.move rfl) rfl ?_
                refine J.split_dec (t := 56) rfl (fun h8 => ?_) (fun h8 => ?_)
                · skip
                  refine J.not_g rfl rfl rfl rfl rfl ?_
                  refine J.not_g rfl rfl rfl rfl rfl ?_
                  refine J.op (Yd.pick_t rfl rfl) rfl ?_
                  refine J.nil ?_
                  refine J.n_then ?_
                  refine J.cond_true rfl ?_
                  refine J.region ?_
                  refine J.op (Yd.assign rfl) rfl ?_
                  refine J.nil ?_
                  refine J.n_then ?_
                  refine J.seq ?_
                  refine J.regionA [(0, true), (1, true), (3, true)] [(2, Asr.v 63 (slc s42_34 0 (12 : Int).toNat)), (4, Asr.v 65 (I (n % 32))), (5, Asr.own 66 w39.heap.size 5 (((List.replicate (n % 32).toNat (0 : UInt8)).map fun x => B x)))] [2, 4, 5] [63, 65, 66] [[], [], [1]] [(6, false), (7, true), (8, true), (9, true), (10, true), (11, true)] rfl rfl mix (by kernel_rfl) ?_
                  refine J.s_op rfl (fun _ => Yd.move rfl) rfl ?_
                  refine J.s_op rfl (fun _ => Yd.move rfl) rfl ?_
                  refine J.s_op rfl (fun _ => Yd.move rfl) rfl ?_
                  refine J.s_nil ?_
                  refine J.a_in [0, 1, 2] rfl (by rfl) ⟨?_, ?_, ?_, trivial⟩ ?_
                  · skip
                    intro w40 x1
                    have xs1 := x1.size
                    have e0 := e0.trans x1
                    have o42_34 := o42_34.ext x1
                    have o48_38 := o48_38.ext x1
                    have o50_38 := o50_38.ext x1
                    have rs51_39 := rs51_39.ext x1
                    clear x1
                    refine PremP.nil ?_
                    exact OpYe.val rfl (Yd.slcH Try.underlying22 ti5 rfl (Ow.rd o42_34) rfl (by first | omega | (simp only [List.length_map, List.length_replicate, List.length_drop, List.length_take] <;> omega) | (simp <;> omega)))
                  · skip
                    intro w41 x1
                    have xs1 := x1.size
                    have e0 := e0.trans x1
                    have o42_34 := o42_34.ext x1
                    have o48_38 := o48_38.ext x1
                    have o50_38 := o50_38.ext x1
                    have rs51_39 := rs51_39.ext x1
                    clear x1
                    refine PremP.nil ?_
                    exact OpYe.mk rfl ((Ye.call cl15 rfl (Round_ok (by omega) (by omega))).mono fun v w2 h => ⟨⟨(), h.1, trivial⟩, h.2⟩)
                  · skip
                    intro w42 x1
                    refine PremP.v rfl ?_
                    have xs1 := x1.size
                    have e0 := e0.trans x1
                    have o42_34 := o42_34.ext x1
                    have o48_38 := o48_38.ext x1
                    have o50_38 := o50_38.ext x1
                    have rs51_39 := rs51_39.ext x1
                    clear x1
                    refine PremP.nil ?_
                    exact OpYe.mk rfl ((Ye.make (base := w42.heap.size) Try.underlying22 ti5 rfl rfl (by first | omega | (simp only [List.length_map, List.length_replicate, List.length_drop, List.length_take] <;> omega) | (simp <;> omega)) (by first | omega | (simp only [List.length_map, List.length_replicate, List.length_drop, List.length_take] <;> omega) | (simp <;> omega)) (by unfold maxLen; omega) rfl (Nat.le_refl _)).mono fun v w2 h => ⟨⟨v, rfl, by have h9 := Ow.base h.1 xs1; rw [rep_B] at h9; skip; exact h9⟩, h.2⟩)
                  intro w43 x1
                  refine PremP.v rfl ?_
                  refine PremP.v rfl ?_
                  refine PremP.own rfl fun s66_43 o66_43 => ?_
                  have o66_43b := o66_43
                  have ap_s42_34_s66_43 : Ap s42_34.ownBlock s66_43.ownBlock := Ap.mk (Ow.live o42_34) (Ow.fr o66_43)
                  have ap_s48_38_s66_43 : Ap s48_38.ownBlock s66_43.ownBlock := Ap.mk (Ow.live o48_38) (Ow.fr o66_43)
                  have ap_s50_38_s66_43 : Ap s50_38.ownBlock s66_43.ownBlock := Ap.mk (Ow.live o50_38) (Ow.fr o66_43)
                  have fr_s66_43 : Fr w.heap.size s66_43.ownBlock := Fr.le (Ow.fr o66_43) e0.size
                  replace o66_43 := Ow.base o66_43 e0.size
                  have xs1 := x1.size
                  have e0 := e0.trans x1
                  have o42_34 := o42_34.ext x1
                  have o48_38 := o48_38.ext x1
                  have o50_38 := o50_38.ext x1
                  have rs51_39 := rs51_39.ext x1
                  clear x1
                  refine PremP.nil ?_
                  refine J.s_eff rfl (Ye.call cl10 rfl (Open_ok (Ow.rd o42_34) (Bs.slc (Ow.rd o42_34) (by decide) (by simp only [List.length_replicate, List.length_drop, List.length_take]; omega)) (Rd.nilM (fun x : UInt8 => B x) _) (Ow.rd o66_43))) rfl ?_
                  rintro _ w44 ⟨s67_44, rfl, rs67_44, x1⟩
                  have e0 := e0.trans x1
                  have o42_34 := o42_34.ext x1
                  have o48_38 := o48_38.ext x1
                  have o50_38 := o50_38.ext x1
                  have rs51_39 := rs51_39.ext x1
                  have o66_43 := o66_43.ext x1
                  clear x1
                  refine J.s_op rfl (fun _ => Yd.move rfl) rfl ?_
                  refine J.s_op rfl (fun _ => Yd.extract rfl rfl) rfl ?_
                  refine J.s_op rfl (fun _ => Yd.extract rfl rfl) rfl ?_
                  refine J.s_op rfl (fun _ => Yd.assign rfl) rfl ?_
                  refine J.s_op rfl (fun _ => Yd.assign rfl) rfl ?_
                  refine J.s_nil ?_
                  refine J.n_np ?_
                  refine J.n_then ?_
                  refine J.seq ?_
                  refine J.region ?_
                  refine J.op (Yd.move rfl) rfl ?_
                  refine J.op (Yd.move rfl) rfl ?_
                  refine J.op (Yd.eql rfl rfl) rfl ?_
                  refine J.op (Yd.move rfl) rfl ?_
                  refine J.know (t := 73) (v' := .bool true) rfl (tt (by first | exact sealE_big (by simp only [List.length_replicate, List.length_drop, List.length_take]; omega) (by simp only [List.length_replicate, List.length_drop, List.length_take]; omega) (by simp only [List.length_replicate, List.length_drop, List.length_take]; omega) | exact sealE_ok (by simp only [List.length_replicate, List.length_drop, List.length_take]; omega) (by simp only [List.length_replicate, List.length_drop, List.length_take]; omega) (by simp only [List.length_replicate, List.length_drop, List.length_take]; omega))) ?_
                  refine J.op_g rfl rfl rfl (Yd.move rfl) rfl ?_
                  refine J.op_g rfl rfl rfl (Yd.neq rfl rfl) rfl ?_
                  refine J.op_g rfl rfl rfl (Yd.move rfl) rfl ?_
                  refine J.split_dec (t := 76) rfl (fun h9 => ?_) (fun h9 => ?_)
                  · skip
                    refine J.not_g rfl rfl rfl rfl rfl ?_
                    refine J.not_g rfl rfl rfl rfl rfl ?_
                    refine J.not_g rfl rfl rfl rfl rfl ?_
                    refine J.not_g rfl rfl rfl rfl rfl ?_
                    refine J.not_g rfl rfl rfl rfl rfl ?_
                    refine J.op_g rfl rfl rfl (Yd.pick_t rfl rfl) rfl ?_
                    refine J.op (Yd.pick_t rfl rfl) rfl ?_
                    refine J.op (Yd.move rfl) rfl ?_
                    refine J.op_g rfl rfl rfl (Yd.move rfl) rfl ?_
                    refine J.op_g rfl rfl rfl (Yd.eql rfl rfl) rfl ?_
                    refine J.op (Yd.pick_t rfl rfl) rfl ?_
                    refine J.op (Yd.move rfl) rfl ?_
                    refine J.know (t := 88) (v' := .bool true) rfl (tt (by exact openE_bad (by simp only [List.length_replicate, List.length_drop, List.length_take]; omega) (by simp only [List.length_replicate, List.length_drop, List.length_take]; omega) (by simp only [List.length_replicate, List.length_nil]; omega) (.inl (by simp only [List.length_replicate, List.length_drop, List.length_take]; omega)))) ?_
                    refine J.eff_g rfl rfl rfl (Ye.call cl7 rfl (awake_ok)) rfl ?_
                    rintro _ w45 ⟨rfl, x1⟩
                    have e0 := e0.trans x1
                    have o42_34 := o42_34.ext x1
                    have o48_38 := o48_38.ext x1
                    have o50_38 := o50_38.ext x1
                    have rs51_39 := rs51_39.ext x1
                    have o66_43 := o66_43.ext x1
                    have rs67_44 := rs67_44.ext x1
                    clear x1
                    refine J.op (Yd.pick_t rfl rfl) rfl ?_
                    refine J.op (Yd.assign rfl) rfl ?_
                    refine J.nil ?_
                    refine J.n_then ?_
                    refine J.ret ?_
                    exact J.ret1 rfl rfl (⟨_, rfl, rfl, e0⟩)
                  · skip
                    refine J.op_g rfl rfl rfl (Yd.move rfl) rfl ?_
                    refine J.op_g rfl rfl rfl (Yd.len_b Try.underlying22 rfl rs51_39) rfl ?_
                    refine J.op_g rfl rfl rfl (Yd.move rfl) rfl ?_
                    refine J.op_g rfl rfl rfl (Yd.add rfl rfl (by first | omega | (simp only [List.length_map, List.length_replicate, List.length_drop, List.length_take] <;> omega) | (simp <;> omega))) rfl ?_
                    refine J.op_g rfl rfl rfl (Yd.eql rfl rfl) rfl ?_
                    refine J.op_g rfl rfl rfl (Yd.pick_f rfl rfl) rfl ?_
                    refine J.op (Yd.pick_t rfl rfl) rfl ?_
                    refine J.op (Yd.move rfl) rfl ?_
                    refine J.know (t := 84) (v' := .bool true) rfl (tt (by rw [sealL_len (Classical.not_not.1 h9), List.length_replicate]; omega)) ?_
                    refine J.op_g rfl rfl rfl (Yd.move rfl) rfl ?_
                    refine J.op_g rfl rfl rfl (Yd.eql rfl rfl) rfl ?_
                    refine J.op (Yd.pick_t rfl rfl) rfl ?_
                    refine J.op (Yd.move rfl) rfl ?_
                    refine J.know (t := 88) (v' := .bool true) rfl (tt (by exact openE_bad (by simp only [List.length_replicate, List.length_drop, List.length_take]; omega) (by simp only [List.length_replicate, List.length_drop, List.length_take]; omega) (by simp only [List.length_replicate, List.length_nil]; omega) (.inl (by simp only [List.length_replicate, List.length_drop, List.length_take]; omega)))) ?_
                    refine J.eff_g rfl rfl rfl (Ye.call cl7 rfl (awake_ok)) rfl ?_
                    rintro _ w46 ⟨rfl, x1⟩
                    have e0 := e0.trans x1
                    have o42_34 := o42_34.ext x1
                    have o48_38 := o48_38.ext x1
                    have o50_38 := o50_38.ext x1
                    have rs51_39 := rs51_39.ext x1
                    have o66_43 := o66_43.ext x1
                    have rs67_44 := rs67_44.ext x1
                    clear x1
                    refine J.op (Yd.pick_t rfl rfl) rfl ?_
                    refine J.op (Yd.assign rfl) rfl ?_
                    refine J.nil ?_
                    refine J.n_then ?_
                    refine J.ret ?_
                    exact J.ret1 rfl rfl (⟨_, rfl, rfl, e0⟩)
                · skip
                  refine J.op_g rfl rfl rfl (Yd.move rfl) rfl ?_
                  refine J.op_g rfl rfl rfl (Yd.gtr rfl rfl) rfl ?_
                  refine J.op (Yd.pick_f rfl rfl) rfl ?_
                  refine J.nil ?_
                  refine J.n_then ?_
                  refine J.cond_dec rfl (fun hc1 => ?_) (fun hc1 => ?_)
                  · skip
                    refine J.region ?_
                    refine J.op (Yd.assign rfl) rfl ?_
                    refine J.nil ?_
                    refine J.n_then ?_
                    refine J.seq ?_
                    refine J.regionA [(0, true), (1, true), (3, true)] [(2, Asr.v 63 (slc s42_34 0 (12 : Int).toNat)), (4, Asr.v 65 (I (n % 32))), (5, Asr.own 66 w39.heap.size 5 (((List.replicate (n % 32).toNat (0 : UInt8)).map fun x => B x)))] [2, 4, 5] [63, 65, 66] [[], [], [1]] [(6, false), (7, true), (8, true), (9, true), (10, true), (11, true)] rfl rfl mix (by kernel_rfl) ?_
                    refine J.s_op rfl (fun _ => Yd.move rfl) rfl ?_
                    refine J.s_op rfl (fun _ => Yd.move rfl) rfl ?_
                    refine J.s_op rfl (fun _ => Yd.move rfl) rfl ?_
                    refine J.s_nil ?_
                    refine J.a_in [0, 1, 2] rfl (by rfl) ⟨?_, ?_, ?_, trivial⟩ ?_
                    · skip
                      intro w47 x1
                      have xs1 := x1.size
                      have e0 := e0.trans x1
                      have o42_34 := o42_34.ext x1
                      have o48_38 := o48_38.ext x1
                      have o50_38 := o50_38.ext x1
                      have rs51_39 := rs51_39.ext x1
                      clear x1
                      refine PremP.nil ?_
                      exact OpYe.val rfl (Yd.slcH Try.underlying22 ti5 rfl (Ow.rd o42_34) rfl (by first | omega | (simp only [List.length_map, List.length_replicate, List.length_drop, List.length_take] <;> omega) | (simp <;> omega)))
                    · skip
                      intro w48 x1
                      have xs1 := x1.size
                      have e0 := e0.trans x1
                      have o42_34 := o42_34.ext x1
                      have o48_38 := o48_38.ext x1
                      have o50_38 := o50_38.ext x1
                      have rs51_39 := rs51_39.ext x1
                      clear x1
                      refine PremP.nil ?_
                      exact OpYe.mk rfl ((Ye.call cl15 rfl (Round_ok (by omega) (by omega))).mono fun v w2 h => ⟨⟨(), h.1, trivial⟩, h.2⟩)
                    · skip
                      intro w49 x1
                      refine PremP.v rfl ?_
                      have xs1 := x1.size
                      have e0 := e0.trans x1
                      have o42_34 := o42_34.ext x1
                      have o48_38 := o48_38.ext x1
                      have o50_38 := o50_38.ext x1
                      have rs51_39 := rs51_39.ext x1
                      clear x1
                      refine PremP.nil ?_
                      exact OpYe.mk rfl ((Ye.make (base := w49.heap.size) Try.underlying22 ti5 rfl rfl (by first | omega | (simp only [List.length_map, List.length_replicate, List.length_drop, List.length_take] <;> omega) | (simp <;> omega)) (by first | omega | (simp only [List.length_map, List.length_replicate, List.length_drop, List.length_take] <;> omega) | (simp <;> omega)) (by unfold maxLen; omega) rfl (Nat.le_refl _)).mono fun v w2 h => ⟨⟨v, rfl, by have h9 := Ow.base h.1 xs1; rw [rep_B] at h9; skip; exact h9⟩, h.2⟩)
                    intro w50 x1
                    refine PremP.v rfl ?_
                    refine PremP.v rfl ?_
                    refine PremP.own rfl fun s66_50 o66_50 => ?_
                    have o66_50b := o66_50
                    have ap_s42_34_s66_50 : Ap s42_34.ownBlock s66_50.ownBlock := Ap.mk (Ow.live o42_34) (Ow.fr o66_50)
                    have ap_s48_38_s66_50 : Ap s48_38.ownBlock s66_50.ownBlock := Ap.mk (Ow.live o48_38) (Ow.fr o66_50)
                    have ap_s50_38_s66_50 : Ap s50_38.ownBlock s66_50.ownBlock := Ap.mk (Ow.live o50_38) (Ow.fr o66_50)
                    have fr_s66_50 : Fr w.heap.size s66_50.ownBlock := Fr.le (Ow.fr o66_50) e0.size
                    replace o66_50 := Ow.base o66_50 e0.size
                    have xs1 := x1.size
                    have e0 := e0.trans x1
                    have o42_34 := o42_34.ext x1
                    have o48_38 := o48_38.ext x1
                    have o50_38 := o50_38.ext x1
                    have rs51_39 := rs51_39.ext x1
                    clear x1
                    refine PremP.nil ?_
                    refine J.s_eff rfl (Ye.call cl10 rfl (Open_ok (Ow.rd o42_34) (Bs.slc (Ow.rd o42_34) (by decide) (by simp only [List.length_replicate, List.length_drop, List.length_take]; omega)) (Rd.nilM (fun x : UInt8 => B x) _) (Ow.rd o66_50))) rfl ?_
                    rintro _ w51 ⟨s67_51, rfl, rs67_51, x1⟩
                    have e0 := e0.trans x1
                    have o42_34 := o42_34.ext x1
                    have o48_38 := o48_38.ext x1
                    have o50_38 := o50_38.ext x1
                    have rs51_39 := rs51_39.ext x1
                    have o66_50 := o66_50.ext x1
                    clear x1
                    refine J.s_op rfl (fun _ => Yd.move rfl) rfl ?_
                    refine J.s_op rfl (fun _ => Yd.extract rfl rfl) rfl ?_
                    refine J.s_op rfl (fun _ => Yd.extract rfl rfl) rfl ?_
                    refine J.s_op rfl (fun _ => Yd.assign rfl) rfl ?_
                    refine J.s_op rfl (fun _ => Yd.assign rfl) rfl ?_
                    refine J.s_nil ?_
                    refine J.n_np ?_
                    refine J.n_then ?_
                    refine J.seq ?_
                    refine J.region ?_
                    refine J.op (Yd.move rfl) rfl ?_
                    refine J.op (Yd.move rfl) rfl ?_
                    refine J.op (Yd.eql rfl rfl) rfl ?_
                    refine J.op (Yd.move rfl) rfl ?_
                    refine J.know (t := 73) (v' := .bool true) rfl (tt (by first | exact sealE_big (by simp only [List.length_replicate, List.length_drop, List.length_take]; omega) (by simp only [List.length_replicate, List.length_drop, List.length_take]; omega) (by simp only [List.length_replicate, List.length_drop, List.length_take]; omega) | exact sealE_ok (by simp only [List.length_replicate, List.length_drop, List.length_take]; omega) (by simp only [List.length_replicate, List.length_drop, List.length_take]; omega) (by simp only [List.length_replicate, List.length_drop, List.length_take]; omega))) ?_
                    refine J.op_g rfl rfl rfl (Yd.move rfl) rfl ?_
                    refine J.op_g rfl rfl rfl (Yd.neq rfl rfl) rfl ?_
                    refine J.op_g rfl rfl rfl (Yd.move rfl) rfl ?_
                    refine J.split_dec (t := 76) rfl (fun h9 => ?_) (fun h9 => ?_)
                    · skip
                      refine J.not_g rfl rfl rfl rfl rfl ?_
                      refine J.not_g rfl rfl rfl rfl rfl ?_
                      refine J.not_g rfl rfl rfl rfl rfl ?_
                      refine J.not_g rfl rfl rfl rfl rfl ?_
                      refine J.not_g rfl rfl rfl rfl rfl ?_
                      refine J.op_g rfl rfl rfl (Yd.pick_t rfl rfl) rfl ?_
                      refine J.op (Yd.pick_t rfl rfl) rfl ?_
                      refine J.op (Yd.move rfl) rfl ?_
                      refine J.op_g rfl rfl rfl (Yd.move rfl) rfl ?_
                      refine J.op_g rfl rfl rfl (Yd.eql rfl rfl) rfl ?_
                      refine J.op (Yd.pick_t rfl rfl) rfl ?_
                      refine J.op (Yd.move rfl) rfl ?_
                      refine J.know (t := 88) (v' := .bool true) rfl (tt (by exact openE_bad (by simp only [List.length_replicate, List.length_drop, List.length_take]; omega) (by simp only [List.length_replicate, List.length_drop, List.length_take]; omega) (by simp only [List.length_replicate, List.length_nil]; omega) (.inl (by simp only [List.length_replicate, List.length_drop, List.length_take]; omega)))) ?_
                      refine J.eff_g rfl rfl rfl (Ye.call cl7 rfl (awake_ok)) rfl ?_
                      rintro _ w52 ⟨rfl, x1⟩
                      have e0 := e0.trans x1
                      have o42_34 := o42_34.ext x1
                      have o48_38 := o48_38.ext x1
                      have o50_38 := o50_38.ext x1
                      have rs51_39 := rs51_39.ext x1
                      have o66_50 := o66_50.ext x1
                      have rs67_51 := rs67_51.ext x1
                      clear x1
                      refine J.op (Yd.pick_t rfl rfl) rfl ?_
                      refine J.op (Yd.assign rfl) rfl ?_
                      refine J.nil ?_
                      refine J.n_then ?_
                      refine J.ret ?_
                      exact J.ret1 rfl rfl (⟨_, rfl, rfl, e0⟩)
                    · skip
                      refine J.op_g rfl rfl rfl (Yd.move rfl) rfl ?_
                      refine J.op_g rfl rfl rfl (Yd.len_b Try.underlying22 rfl rs51_39) rfl ?_
                      refine J.op_g rfl rfl rfl (Yd.move rfl) rfl ?_
                      refine J.op_g rfl rfl rfl (Yd.add rfl rfl (by first | omega | (simp only [List.length_map, List.length_replicate, List.length_drop, List.length_take] <;> omega) | (simp <;> omega))) rfl ?_
                      refine J.op_g rfl rfl rfl (Yd.eql rfl rfl) rfl ?_
                      refine J.op_g rfl rfl rfl (Yd.pick_f rfl rfl) rfl ?_
                      refine J.op (Yd.pick_t rfl rfl) rfl ?_
                      refine J.op (Yd.move rfl) rfl ?_
                      refine J.know (t := 84) (v' := .bool true) rfl (tt (by rw [sealL_len (Classical.not_not.1 h9), List.length_replicate]; omega)) ?_
                      refine J.op_g rfl rfl rfl (Yd.move rfl) rfl ?_
                      refine J.op_g rfl rfl rfl (Yd.eql rfl rfl) rfl ?_
                      refine J.op (Yd.pick_t rfl rfl) rfl ?_
                      refine J.op (Yd.move rfl) rfl ?_
                      refine J.know (t := 88) (v' := .bool true) rfl (tt (by exact openE_bad (by simp only [List.length_replicate, List.length_drop, List.length_take]; omega) (by simp only [List.length_replicate, List.length_drop, List.length_take]; omega) (by simp only [List.length_replicate, List.length_nil]; omega) (.inl (by simp only [List.length_replicate, List.length_drop, List.length_take]; omega)))) ?_
                      refine J.eff_g rfl rfl rfl (Ye.call cl7 rfl (awake_ok)) rfl ?_
                      rintro _ w53 ⟨rfl, x1⟩
                      have e0 := e0.trans x1
                      have o42_34 := o42_34.ext x1
                      have o48_38 := o48_38.ext x1
                      have o50_38 := o50_38.ext x1
                      have rs51_39 := rs51_39.ext x1
                      have o66_50 := o66_50.ext x1
                      have rs67_51 := rs67_51.ext x1
                      clear x1
                      refine J.op (Yd.pick_t rfl rfl) rfl ?_
                      refine J.op (Yd.assign rfl) rfl ?_
                      refine J.nil ?_
                      refine J.n_then ?_
                      refine J.ret ?_
                      exact J.ret1 rfl rfl (⟨_, rfl, rfl, e0⟩)
                  · skip
                    refine J.skip ?_
                    refine J.n_then ?_
                    refine J.seq ?_
                    refine J.regionA [(0, true), (1, true), (3, true)] [(2, Asr.v 63 (slc s42_34 0 (12 : Int).toNat)), (4, Asr.v 65 (I (n % 32))), (5, Asr.own 66 w39.heap.size 5 (((List.replicate (n % 32).toNat (0 : UInt8)).map fun x => B x)))] [2, 4, 5] [63, 65, 66] [[], [], [1]] [(6, false), (7, true), (8, true), (9, true), (10, true), (11, true)] rfl rfl mix (by kernel_rfl) ?_
                    refine J.s_op rfl (fun _ => Yd.move rfl) rfl ?_
                    refine J.s_op rfl (fun _ => Yd.move rfl) rfl ?_
                    refine J.s_op rfl (fun _ => Yd.move rfl) rfl ?_
                    refine J.s_nil ?_
                    refine J.a_in [0, 1, 2] rfl (by rfl) ⟨?_, ?_, ?_, trivial⟩ ?_
                    · skip
                      intro w54 x1
                      have xs1 := x1.size
                      have e0 := e0.trans x1
                      have o42_34 := o42_34.ext x1
                      have o48_38 := o48_38.ext x1
                      have o50_38 := o50_38.ext x1
                      have rs51_39 := rs51_39.ext x1
                      clear x1
                      refine PremP.nil ?_
                      exact OpYe.val rfl (Yd.slcH Try.underlying22 ti5 rfl (Ow.rd o42_34) rfl (by first | omega | (simp only [List.length_map, List.length_replicate, List.length_drop, List.length_take] <;> omega) | (simp <;> omega)))
                    · skip
                      intro w55 x1
                      have xs1 := x1.size
                      have e0 := e0.trans x1
                      have o42_34 := o42_34.ext x1
                      have o48_38 := o48_38.ext x1
                      have o50_38 := o50_38.ext x1
                      have rs51_39 := rs51_39.ext x1
                      clear x1
                      refine PremP.nil ?_
                      exact OpYe.mk rfl ((Ye.call cl15 rfl (Round_ok (by omega) (by omega))).mono fun v w2 h => ⟨⟨(), h.1, trivial⟩, h.2⟩)
                    · skip
                      intro w56 x1
                      refine PremP.v rfl ?_
                      have xs1 := x1.size
                      have e0 := e0.trans x1
                      have o42_34 := o42_34.ext x1
                      have o48_38 := o48_38.ext x1
                      have o50_38 := o50_38.ext x1
                      have rs51_39 := rs51_39.ext x1
                      clear x1
                      refine PremP.nil ?_
                      exact OpYe.mk rfl ((Ye.make (base := w56.heap.size) Try.underlying22 ti5 rfl rfl (by first | omega | (simp only [List.length_map, List.length_replicate, List.length_drop, List.length_take] <;> omega) | (simp <;> omega)) (by first | omega | (simp only [List.length_map, List.length_replicate, List.length_drop, List.length_take] <;> omega) | (simp <;> omega)) (by unfold maxLen; omega) rfl (Nat.le_refl _)).mono fun v w2 h => ⟨⟨v, rfl, by have h9 := Ow.base h.1 xs1; rw [rep_B] at h9; skip; exact h9⟩, h.2⟩)
                    intro w57 x1
                    refine PremP.v rfl ?_
                    refine PremP.v rfl ?_
                    refine PremP.own rfl fun s66_57 o66_57 => ?_
                    have o66_57b := o66_57
                    have ap_s42_34_s66_57 : Ap s42_34.ownBlock s66_57.ownBlock := Ap.mk (Ow.live o42_34) (Ow.fr o66_57)
                    have ap_s48_38_s66_57 : Ap s48_38.ownBlock s66_57.ownBlock := Ap.mk (Ow.live o48_38) (Ow.fr o66_57)
                    have ap_s50_38_s66_57 : Ap s50_38.ownBlock s66_57.ownBlock := Ap.mk (Ow.live o50_38) (Ow.fr o66_57)
                    have fr_s66_57 : Fr w.heap.size s66_57.ownBlock := Fr.le (Ow.fr o66_57) e0.size
                    replace o66_57 := Ow.base o66_57 e0.size
                    have xs1 := x1.size
                    have e0 := e0.trans x1
                    have o42_34 := o42_34.ext x1
                    have o48_38 := o48_38.ext x1
                    have o50_38 := o50_38.ext x1
                    have rs51_39 := rs51_39.ext x1
                    clear x1
                    refine PremP.nil ?_
                    refine J.s_eff rfl (Ye.call cl10 rfl (Open_ok (Ow.rd o42_34) (Bs.slc (Ow.rd o42_34) (by decide) (by simp only [List.length_replicate, List.length_drop, List.length_take]; omega)) (Rd.nilM (fun x : UInt8 => B x) _) (Ow.rd o66_57))) rfl ?_
                    rintro _ w58 ⟨s67_58, rfl, rs67_58, x1⟩
                    have e0 := e0.trans x1
                    have o42_34 := o42_34.ext x1
                    have o48_38 := o48_38.ext x1
                    have o50_38 := o50_38.ext x1
                    have rs51_39 := rs51_39.ext x1
                    have o66_57 := o66_57.ext x1
                    clear x1
                    refine J.s_op rfl (fun _ => Yd.move rfl) rfl ?_
                    refine J.s_op rfl (fun _ => Yd.extract rfl rfl) rfl ?_
                    refine J.s_op rfl (fun _ => Yd.extract rfl rfl) rfl ?_
                    refine J.s_op rfl (fun _ => Yd.assign rfl) rfl ?_
                    refine J.s_op rfl (fun _ => Yd.assign rfl) rfl ?_
                    refine J.s_nil ?_
                    refine J.n_np ?_
                    refine J.n_then ?_
                    refine J.seq ?_
                    refine J.region ?_
                    refine J.op (Yd.move rfl) rfl ?_
                    refine J.op (Yd.move rfl) rfl ?_
                    refine J.op (Yd.eql rfl rfl) rfl ?_
                    refine J.op (Yd.move rfl) rfl ?_
                    refine J.know (t := 73) (v' := .bool true) rfl (tt (by first | exact sealE_big (by simp only [List.length_replicate, List.length_drop, List.length_take]; omega) (by simp only [List.length_replicate, List.length_drop, List.length_take]; omega) (by simp only [List.length_replicate, List.length_drop, List.length_take]; omega) | exact sealE_ok (by simp only [List.length_replicate, List.length_drop, List.length_take]; omega) (by simp only [List.length_replicate, List.length_drop, List.length_take]; omega) (by simp only [List.length_replicate, List.length_drop, List.length_take]; omega))) ?_
                    refine J.op_g rfl rfl rfl (Yd.move rfl) rfl ?_
                    refine J.op_g rfl rfl rfl (Yd.neq rfl rfl) rfl ?_
                    refine J.op_g rfl rfl rfl (Yd.move rfl) rfl ?_
                    refine J.split_dec (t := 76) rfl (fun h9 => ?_) (fun h9 => ?_)
                    · skip
                      refine J.not_g rfl rfl rfl rfl rfl ?_
                      refine J.not_g rfl rfl rfl rfl rfl ?_
                      refine J.not_g rfl rfl rfl rfl rfl ?_
                      refine J.not_g rfl rfl rfl rfl rfl ?_
                      refine J.not_g rfl rfl rfl rfl rfl ?_
                      refine J.op_g rfl rfl rfl (Yd.pick_t rfl rfl) rfl ?_
                      refine J.op (Yd.pick_t rfl rfl) rfl ?_
                      refine J.op (Yd.move rfl) rfl ?_
                      refine J.op_g rfl rfl rfl (Yd.move rfl) rfl ?_
                      refine J.op_g rfl rfl rfl (Yd.eql rfl rfl) rfl ?_
                      refine J.op (Yd.pick_t rfl rfl) rfl ?_
                      refine J.op (Yd.move rfl) rfl ?_
                      refine J.know (t := 88) (v' := .bool true) rfl (tt (by exact openE_bad (by simp only [List.length_replicate, List.length_drop, List.length_take]; omega) (by simp only [List.length_replicate, List.length_drop, List.length_take]; omega) (by simp only [List.length_replicate, List.length_nil]; omega) (.inl (by simp only [List.length_replicate, List.length_drop, List.length_take]; omega)))) ?_
                      refine J.eff_g rfl rfl rfl (Ye.call cl7 rfl (awake_ok)) rfl ?_
                      rintro _ w59 ⟨rfl, x1⟩
                      have e0 := e0.trans x1
                      have o42_34 := o42_34.ext x1
                      have o48_38 := o48_38.ext x1
                      have o50_38 := o50_38.ext x1
                      have rs51_39 := rs51_39.ext x1
                      have o66_57 := o66_57.ext x1
                      have rs67_58 := rs67_58.ext x1
                      clear x1
                      refine J.op (Yd.pick_t rfl rfl) rfl ?_
                      refine J.op (Yd.assign rfl) rfl ?_
                      refine J.nil ?_
                      refine J.n_then ?_
                      refine J.ret ?_
                      exact J.ret1 rfl rfl (⟨_, rfl, rfl, e0⟩)
                    · skip
                      refine J.op_g rfl rfl rfl (Yd.move rfl) rfl ?_
                      refine J.op_g rfl rfl rfl (Yd.len_b Try.underlying22 rfl rs51_39) rfl ?_
                      refine J.op_g rfl rfl rfl (Yd.move rfl) rfl ?_
                      refine J.op_g rfl rfl rfl (Yd.add rfl rfl (by first | omega | (simp only [List.length_map, List.length_replicate, List.length_drop, List.length_take] <;> omega) | (simp <;> omega))) rfl ?_
                      refine J.op_g rfl rfl rfl (Yd.eql rfl rfl) rfl ?_
                      refine J.op_g rfl rfl rfl (Yd.pick_f rfl rfl) rfl ?_
                      refine J.op (Yd.pick_t rfl rfl) rfl ?_
                      refine J.op (Yd.move rfl) rfl ?_
                      refine J.know (t := 84) (v' := .bool true) rfl (tt (by rw [sealL_len (Classical.not_not.1 h9), List.length_replicate]; omega)) ?_
                      refine J.op_g rfl rfl rfl (Yd.move rfl) rfl ?_
                      refine J.op_g rfl rfl rfl (Yd.eql rfl rfl) rfl ?_
                      refine J.op (Yd.pick_t rfl rfl) rfl ?_
                      refine J.op (Yd.move rfl) rfl ?_
                      refine J.know (t := 88) (v' := .bool true) rfl (tt (by exact openE_bad (by simp only [List.length_replicate, List.length_drop, List.length_take]; omega) (by simp only [List.length_replicate, List.length_drop, List.length_take]; omega) (by simp only [List.length_replicate, List.length_nil]; omega) (.inl (by simp only [List.length_replicate, List.length_drop, List.length_take]; omega)))) ?_
                      refine J.eff_g rfl rfl rfl (Ye.call cl7 rfl (awake_ok)) rfl ?_
                      rintro _ w60 ⟨rfl, x1⟩
                      have e0 := e0.trans x1
                      have o42_34 := o42_34.ext x1
                      have o48_38 := o48_38.ext x1
                      have o50_38 := o50_38.ext x1
                      have rs51_39 := rs51_39.ext x1
                      have o66_57 := o66_57.ext x1
                      have rs67_58 := rs67_58.ext x1
                      clear x1
                      refine J.op (Yd.pick_t rfl rfl) rfl ?_
                      refine J.op (Yd.assign rfl) rfl ?_
                      refine J.nil ?_
                      refine J.n_then ?_
                      refine J.ret ?_
                      exact J.ret1 rfl rfl (⟨_, rfl, rfl, e0⟩)
          · skip
            refine J.not_g rfl rfl rfl rfl rfl ?_
            refine J.not_g rfl rfl rfl rfl rfl ?_
            refine J.op_g rfl rfl rfl (Yd.pick_f rfl rfl) rfl ?_
            refine J.op (Yd.pick_f rfl rfl) rfl ?_
            refine J.op (Yd.move rfl) rfl ?_
            refine J.op_g rfl rfl rfl (Yd.move rfl) rfl ?_
            refine J.op_g rfl rfl rfl (Yd.gtr rfl rfl) rfl ?_
            refine J.op_g rfl rfl rfl (Yd.move rfl) rfl ?_
            refine J.split_dec (t := 36) rfl (fun h7 => ?_) (fun h7 => ?_)
            · skip
              refine J.op_g rfl rfl rfl (Yd.move rfl) rfl ?_
              refine J.op_g rfl rfl rfl (Yd.lss rfl rfl) rfl ?_
              refine J.op_g rfl rfl rfl (Yd.pick_t rfl rfl) rfl ?_
              refine J.op (Yd.pick_f rfl rfl) rfl ?_
              refine J.nil ?_
              refine J.n_then ?_
              refine J.cond_dec rfl (fun hc0 => ?_) (fun hc0 => ?_)
              · skip
                refine J.seq ?_
                refine J.region ?_
                refine J.eff (Ye.call cl7 rfl (awake_ok)) rfl ?_
                rintro _ w61 ⟨rfl, x1⟩
                have e0 := e0.trans x1
                clear x1
                refine J.op (Yd.assign rfl) rfl ?_
                refine J.nil ?_
                refine J.n_then ?_
                refine J.ret ?_
                refine J.r_then ?_
                exact J.ret1 rfl rfl (⟨_, rfl, rfl, e0⟩)
              · skip
                refine J.skip ?_
                refine J.n_then ?_
                refine J.seq ?_
                refine J.region ?_
                refine J.eff (Ye.make (base := w.heap.size) Try.underlying22 ti5 rfl rfl (by first | omega | (simp only [List.length_map, List.length_replicate, List.length_drop, List.length_take] <;> omega) | (simp <;> omega)) (by first | omega | (simp only [List.length_map, List.length_replicate, List.length_drop, List.length_take] <;> omega) | (simp <;> omega)) (by unfold maxLen; omega) rfl (Nat.le_refl _)) rfl ?_
                rintro s42_62 w62 ⟨o42_62, x1⟩
                have fr_s42_62 : Fr w.heap.size s42_62.ownBlock := Fr.le (Ow.fr o42_62) e0.size
                replace o42_62 := Ow.base o42_62 e0.size
                have e0 := e0.trans x1
                clear x1
                rw [rep_B] at o42_62
                refine J.op (Yd.assign rfl) rfl ?_
                refine J.nil ?_
                refine J.n_then ?_
                refine J.seq ?_
                refine J.regionA [(0, true), (1, true), (3, true), (5, true)] [(2, Asr.v 46 (slc s42_62 0 (12 : Int).toNat)), (4, Asr.own 48 w62.heap.size 5 (((List.replicate m.toNat (0 : UInt8)).map fun x => B x))), (6, Asr.own 50 w62.heap.size 5 (((List.replicate n.toNat (0 : UInt8)).map fun x => B x)))] [2, 4, 6] [46, 48, 50] [[], [], []] [(7, false), (8, true), (9, true), (10, true), (11, true), (12, true)] rfl rfl mix (by kernel_rfl) ?_
                refine J.s_op rfl (fun _ => Yd.move rfl) rfl ?_
                refine J.s_op rfl (fun _ => Yd.move rfl) rfl ?_
                refine J.s_op rfl (fun _ => Yd.move rfl) rfl ?_
                refine J.s_op rfl (fun _ => Yd.move rfl) rfl ?_
                refine J.s_nil ?_
                refine J.a_in [0, 1, 2] rfl (by rfl) ⟨?_, ?_, ?_, trivial⟩ ?_
                · skip
                  intro w63 x1
                  have xs1 := x1.size
                  have e0 := e0.trans x1
                  have o42_62 := o42_62.ext x1
                  clear x1
                  refine PremP.nil ?_
                  exact OpYe.val rfl (Yd.slcH Try.underlying22 ti5 rfl (Ow.rd o42_62) rfl (by first | omega | (simp only [List.length_map, List.length_replicate, List.length_drop, List.length_take] <;> omega) | (simp <;> omega)))
                · skip
                  intro w64 x1
                  have xs1 := x1.size
                  have e0 := e0.trans x1
                  have o42_62 := o42_62.ext x1
                  clear x1
                  refine PremP.nil ?_
                  exact OpYe.mk rfl ((Ye.make (base := w64.heap.size) Try.underlying22 ti5 rfl rfl (by first | omega | (simp only [List.length_map, List.length_replicate, List.length_drop, List.length_take] <;> omega) | (simp <;> omega)) (by first | omega | (simp only [List.length_map, List.length_replicate, List.length_drop, List.length_take] <;> omega) | (simp <;> omega)) (by unfold maxLen; omega) rfl (Nat.le_refl _)).mono fun v w2 h => ⟨⟨v, rfl, by have h9 := Ow.base h.1 xs1; rw [rep_B] at h9; skip; exact h9⟩, h.2⟩)
                · skip
                  intro w65 x1
                  have xs1 := x1.size
                  have e0 := e0.trans x1
                  have o42_62 := o42_62.ext x1
                  clear x1
                  refine PremP.nil ?_
                  exact OpYe.mk rfl ((Ye.make (base := w65.heap.size) Try.underlying22 ti5 rfl rfl (by first | omega | (simp only [List.length_map, List.length_replicate, List.length_drop, List.length_take] <;> omega) | (simp <;> omega)) (by first | omega | (simp only [List.length_map, List.length_replicate, List.length_drop, List.length_take] <;> omega) | (simp <;> omega)) (by unfold maxLen; omega) rfl (Nat.le_refl _)).mono fun v w2 h => ⟨⟨v, rfl, by have h9 := Ow.base h.1 xs1; rw [rep_B] at h9; skip; exact h9⟩, h.2⟩)
                intro w66 x1
                refine PremP.v rfl ?_
                refine PremP.own rfl fun s48_66 o48_66 => ?_
                have o48_66b := o48_66
                have ap_s42_62_s48_66 : Ap s42_62.ownBlock s48_66.ownBlock := Ap.mk (Ow.live o42_62) (Ow.fr o48_66)
                have fr_s48_66 : Fr w.heap.size s48_66.ownBlock := Fr.le (Ow.fr o48_66) e0.size
                replace o48_66 := Ow.base o48_66 e0.size
                refine PremP.own rfl fun s50_66 o50_66 => ?_
                have o50_66b := o50_66
                have ap_s42_62_s50_66 : Ap s42_62.ownBlock s50_66.ownBlock := Ap.mk (Ow.live o42_62) (Ow.fr o50_66)
                have fr_s50_66 : Fr w.heap.size s50_66.ownBlock := Fr.le (Ow.fr o50_66) e0.size
                replace o50_66 := Ow.base o50_66 e0.size
                have xs1 := x1.size
                have e0 := e0.trans x1
                have o42_62 := o42_62.ext x1
                clear x1
                refine PremP.nil ?_
                refine J.s_eff rfl (Ye.call cl8 rfl (Seal_ok (Ow.rd o42_62) (Bs.slc (Ow.rd o42_62) (by decide) (by simp only [List.length_replicate, List.length_drop, List.length_take]; omega)) (Ow.rd o48_66) (Ow.rd o50_66))) rfl ?_
                rintro _ w67 ⟨s51_67, rfl, rs51_67, x1⟩
                have e0 := e0.trans x1
                have o42_62 := o42_62.ext x1
                have o48_66 := o48_66.ext x1
                have o50_66 := o50_66.ext x1
                clear x1
                refine J.s_op rfl (fun _ => Yd.move rfl) rfl ?_
                refine J.s_op rfl (fun _ => Yd.extract rfl rfl) rfl ?_
                refine J.s_op rfl (fun _ => Yd.extract rfl rfl) rfl ?_
                refine J.s_op rfl (fun _ => Yd.assign rfl) rfl ?_
                refine J.s_op rfl (fun _ => Yd.assign rfl) rfl ?_
                refine J.s_nil ?_
                refine J.n_np ?_
                refine J.n_then ?_
                refine J.seq ?_
                refine J.region ?_
                refine J.op (Yd.assign rfl) rfl ?_
                refine J.nil ?_
                refine J.n_then ?_
                refine J.seq ?_
                refine J.seq ?_
                refine J.region ?_
                refine J.op (Yd.move rfl) rfl ?_
                refine J.op (Yd.gtr rfl rfl) rfl ?_
                refine J.op (Yd.move rfl) rfl ?_
                refine J.split_dec (t := 56) rfl (fun h8 => ?_) (fun h8 => ?_)
                · skip
                  refine J.not_g rfl rfl rfl rfl rfl ?_
                  refine J.not_g rfl rfl rfl rfl rfl ?_
                  refine J.op (Yd.pick_t rfl rfl) rfl ?_
                  refine J.nil ?_
                  refine J.n_then ?_
                  refine J.cond_true rfl ?_
                  refine J.region ?_
                  refine J.op (Yd.assign rfl) rfl ?_
                  refine J.nil ?_
                  refine J.n_then ?_
                  refine J.seq ?_
                  refine J.regionA [(0, true), (1, true), (3, true)] [(2, Asr.v 63 (slc s42_62 0 (12 : Int).toNat)), (4, Asr.v 65 (I (n % 32))), (5, Asr.own 66 w67.heap.size 5 (((List.replicate (n % 32).toNat (0 : UInt8)).map fun x => B x)))] [2, 4, 5] [63, 65, 66] [[], [], [1]] [(6, false), (7, true), (8, true), (9, true), (10, true), (11, true)] rfl rfl mix (by kernel_rfl) ?_
                  refine J.s_op rfl (fun _ => Yd.move rfl) rfl ?_
                  refine J.s_op rfl (fun _ => Yd.move rfl) rfl ?_
                  refine J.s_op rfl (fun _ => Yd.move rfl) rfl ?_
                  refine J.s_nil ?_
                  refine J.a_in [0, 1, 2] rfl (by rfl) ⟨?_, ?_, ?_, trivial⟩ ?_
                  · skip
                    intro w68 x1
                    have xs1 := x1.size
                    have e0 := e0.trans x1
                    have o42_62 := o42_62.ext x1
                    have o48_66 := o48_66.ext x1
                    have o50_66 := o50_66.ext x1
                    have rs51_67 := rs51_67.ext x1
                    clear x1
                    refine PremP.nil ?_
                    exact OpYe.val rfl (Yd.slcH Try.underlying22 ti5 rfl (Ow.rd o42_62) rfl (by first | omega | (simp only [List.length_map, List.length_replicate, List.length_drop, List.length_take] <;> omega) | (simp <;> omega)))
                  · skip
                    intro w69 x1
                    have xs1 := x1.size
                    have e0 := e0.trans x1
                    have o42_62 := o42_62.ext x1
                    have o48_66 := o48_66.ext x1
                    have o50_66 := o50_66.ext x1
                    have rs51_67 := rs51_67.ext x1
                    clear x1
                    refine PremP.nil ?_
                    exact OpYe.mk rfl ((Ye.call cl15 rfl (Round_ok (by omega) (by omega))).mono fun v w2 h => ⟨⟨(), h.1, trivial⟩, h.2⟩)
                  · skip
                    intro w70 x1
                    refine PremP.v rfl ?_
                    have xs1 := x1.size
                    have e0 := e0.trans x1
                    have o42_62 := o42_62.ext x1
                    have o48_66 := o48_66.ext x1
                    have o50_66 := o50_66.ext x1
                    have rs51_67 := rs51_67.ext x1
                    clear x1
                    refine PremP.nil ?_
                    exact OpYe.mk rfl ((Ye.make (base := w70.heap.size) Try.underlying22 ti5 rfl rfl (by first | omega | (simp only [List.length_map, List.length_replicate, List.length_drop, List.length_take] <;> omega) | (simp <;> omega)) (by first | omega | (simp only [List.length_map, List.length_replicate, List.length_drop, List.length_take] <;> omega) | (simp <;> omega)) (by unfold maxLen; omega) rfl (Nat.le_refl _)).mono fun v w2 h => ⟨⟨v, rfl, by have h9 := Ow.base h.1 xs1; rw [rep_B] at h9; skip; exact h9⟩, h.2⟩)
                  intro w71 x1
                  refine PremP.v rfl ?_
                  refine PremP.v rfl ?_
                  refine PremP.own rfl fun s66_71 o66_71 => ?_
                  have o66_71b := o66_71
                  have ap_s42_62_s66_71 : Ap s42_62.ownBlock s66_71.ownBlock := Ap.mk (Ow.live o42_62) (Ow.fr o66_71)
                  have ap_s48_66_s66_71 : Ap s48_66.ownBlock s66_71.ownBlock := Ap.mk (Ow.live o48_66) (Ow.fr o66_71)
                  have ap_s50_66_s66_71 : Ap s50_66.ownBlock s66_71.ownBlock := Ap.mk (Ow.live o50_66) (Ow.fr o66_71)
                  have fr_s66_71 : Fr w.heap.size s66_71.ownBlock := Fr.le (Ow.fr o66_71) e0.size
                  replace o66_71 := Ow.base o66_71 e0.size
                  have xs1 := x1.size
                  have e0 := e0.trans x1
                  have o42_62 := o42_62.ext x1
                  have o48_66 := o48_66.ext x1
                  have o50_66 := o50_66.ext x1
                  have rs51_67 := rs51_67.ext x1
                  clear x1
                  refine PremP.nil ?_
                  refine J.s_eff rfl (Ye.call cl10 rfl (Open_ok (Ow.rd o42_62) (Bs.slc (Ow.rd o42_62) (by decide) (by simp only [List.length_replicate, List.length_drop, List.length_take]; omega)) (Rd.nilM (fun x : UInt8 => B x) _) (Ow.rd o66_71))) rfl ?_
                  rintro _ w72 ⟨s67_72, rfl, rs67_72, x1⟩
                  have e0 := e0.trans x1
                  have o42_62 := o42_62.ext x1
                  have o48_66 := o48_66.ext x1
                  have o50_66 := o50_66.ext x1
                  have rs51_67 := rs51_67.ext x1
                  have o66_71 := o66_71.ext x1
                  clear x1
                  refine J.s_op rfl (fun _ => Yd.move rfl) rfl ?_
                  refine J.s_op rfl (fun _ => Yd.extract rfl rfl) rfl ?_
                  refine J.s_op rfl (fun _ => Yd.extract rfl rfl) rfl ?_
                  refine J.s_op rfl (fun _ => Yd.assign rfl) rfl ?_
                  refine J.s_op rfl (fun _ => Yd.assign rfl) rfl ?_
                  refine J.s_nil ?_
                  refine J.n_np ?_
                  refine J.n_then ?_
                  refine J.seq ?_
                  refine J.region ?_
                  refine J.op (Yd.move rfl) rfl ?_
                  refine J.op (Yd.move rfl) rfl ?_
                  refine J.op (Yd.eql rfl rfl) rfl ?_
                  refine J.op (Yd.move rfl) rfl ?_
                  refine J.know (t := 73) (v' := .bool true) rfl (tt (by first | exact sealE_big (by simp only [List.length_replicate, List.length_drop, List.length_take]; omega) (by simp only [List.length_replicate, List.length_drop, List.length_take]; omega) (by simp only [List.length_replicate, List.length_drop, List.length_take]; omega) | exact sealE_ok (by simp only [List.length_replicate, List.length_drop, List.length_take]; omega) (by simp only [List.length_replicate, List.length_drop, List.length_take]; omega) (by simp only [List.length_replicate, List.length_drop, List.length_take]; omega))) ?_
                  refine J.op_g rfl rfl rfl (Yd.move rfl) rfl ?_
                  refine J.op_g rfl rfl rfl (Yd.neq rfl rfl) rfl ?_
                  refine J.op_g rfl rfl rfl (Yd.move rfl) rfl ?_
                  refine J.split_dec (t := 76) rfl (fun h9 => ?_) (fun h9 => ?_)
                  · skip
                    refine J.not_g rfl rfl rfl rfl rfl ?_
                    refine J.not_g rfl rfl rfl rfl rfl ?_
                    refine J.not_g rfl rfl rfl rfl rfl ?_
                    refine J.not_g rfl rfl rfl rfl rfl ?_
                    refine J.not_g rfl rfl rfl rfl rfl ?_
                    refine J.op_g rfl rfl rfl (Yd.pick_t rfl rfl) rfl ?_
                    refine J.op (Yd.pick_t rfl rfl) rfl ?_
                    refine J.op (Yd.move rfl) rfl ?_
                    refine J.op_g rfl rfl rfl (Yd.move rfl) rfl ?_
                    refine J.op_g rfl rfl rfl (Yd.eql rfl rfl) rfl ?_
                    refine J.op (Yd.pick_t rfl rfl) rfl ?_
                    refine J.op (Yd.move rfl) rfl ?_
                    refine J.know (t := 88) (v' := .bool true) rfl (tt (by exact openE_bad (by simp only [List.length_replicate, List.length_drop, List.length_take]; omega) (by simp only [List.length_replicate, List.length_drop, List.length_take]; omega) (by simp only [List.length_replicate, List.length_nil]; omega) (.inl (by simp only [List.length_replicate, List.length_drop, List.length_take]; omega)))) ?_
                    refine J.eff_g rfl rfl rfl (Ye.call cl7 rfl (awake_ok)) rfl ?_
                    rintro _ w73 ⟨rfl, x1⟩
                    have e0 := e0.trans x1
                    have o42_62 := o42_62.ext x1
                    have o48_66 := o48_66.ext x1
                    have o50_66 := o50_66.ext x1
                    have rs51_67 := rs51_67.ext x1
                    have o66_71 := o66_71.ext x1
                    have rs67_72 := rs67_72.ext x1
                    clear x1
                    refine J.op (Yd.pick_t rfl rfl) rfl ?_
                    refine J.op (Yd.assign rfl) rfl ?_
                    refine J.nil ?_
                    refine J.n_then ?_
                    refine J.ret ?_
                    exact J.ret1 rfl rfl (⟨_, rfl, rfl, e0⟩)
                  · skip
                    refine J.op_g rfl rfl rfl (Yd.move rfl) rfl ?_
                    refine J.op_g rfl rfl rfl (Yd.len_b Try.underlying22 rfl rs51_67) rfl ?_
                    refine J.op_g rfl rfl rfl (Yd.move rfl) rfl ?_
                    refine J.op_g rfl rfl rfl (Yd.add rfl rfl (by first | omega | (simp only [List.length_map, List.length_replicate, List.length_drop, List.length_take] <;> omega) | (simp <;> omega))) rfl ?_
                    refine J.op_g rfl rfl rfl (Yd.eql rfl rfl) rfl ?_
                    refine J.op_g rfl rfl rfl (Yd.pick_f rfl rfl) rfl ?_
                    refine J.op (Yd.pick_t rfl rfl) rfl ?_
                    refine J.op (Yd.move rfl) rfl ?_
                    refine J.know (t := 84) (v' := .bool true) rfl (tt (by rw [sealL_len (Classical.not_not.1 h9), List.length_replicate]; omega)) ?_
                    refine J.op_g rfl rfl rfl (Yd.move rfl) rfl ?_
                    refine J.op_g rfl rfl rfl (Yd.eql rfl rfl) rfl ?_
                    refine J.op (Yd.pick_t rfl rfl) rfl ?_
                    refine J.op (Yd.move rfl) rfl ?_
                    refine J.know (t := 88) (v' := .bool true) rfl (tt (by exact openE_bad (by simp only [List.length_replicate, List.length_drop, List.length_take]; omega) (by simp only [List.length_replicate, List.length_drop, List.length_take]; omega) (by simp only [List.length_replicate, List.length_nil]; omega) (.inl (by simp only [List.length_replicate, List.length_drop, List.length_take]; omega)))) ?_
                    refine J.eff_g rfl rfl rfl (Ye.call cl7 rfl (awake_ok)) rfl ?_
                    rintro _ w74 ⟨rfl, x1⟩
                    have e0 := e0.trans x1
                    have o42_62 := o42_62.ext x1
                    have o48_66 := o48_66.ext x1
                    have o50_66 := o50_66.ext x1
                    have rs51_67 := rs51_67.ext x1
                    have o66_71 := o66_71.ext x1
                    have rs67_72 := rs67_72.ext x1
                    clear x1
                    refine J.op (Yd.pick_t rfl rfl) rfl ?_
                    refine J.op (Yd.assign rfl) rfl ?_
                    refine J.nil ?_
                    refine J.n_then ?_
                    refine J.ret ?_
                    exact J.ret1 rfl rfl (⟨_, rfl, rfl, e0⟩)
                · skip
                  refine J.op_g rfl rfl rfl (Yd.move rfl) rfl ?_
                  refine J.op_g rfl rfl rfl (Yd.gtr rfl rfl) rfl ?_
                  refine J.op (Yd.pick_f rfl rfl) rfl ?_
                  refine J.nil ?_
                  refine J.n_then ?_
                  refine J.cond_dec rfl (fun hc1 => ?_) (fun hc1 => ?_)
                  · skip
                    refine J.region ?_
                    refine J.op (Yd.assign rfl) rfl ?_
                    refine J.nil ?_
                    refine J.n_then ?_
                    refine J.seq ?_
                    refine J.regionA [(0, true), (1, true), (3, true)] [(2, Asr.v 63 (slc s42_62 0 (12 : Int).toNat)), (4, Asr.v 65 (I (n % 32))), (5, Asr.own 66 w67.heap.size 5 (((List.replicate (n % 32).toNat (0 : UInt8)).map fun x => B x)))] [2, 4, 5] [63, 65, 66] [[], [], [1]] [(6, false), (7, true), (8, true), (9, true), (10, true), (11, true)] rfl rfl mix (by kernel_rfl) ?_
                    refine J.s_op rfl (fun _ => Yd.move rfl) rfl ?_
                    refine J.s_op rfl (fun _ => Yd.move rfl) rfl ?_
                    refine J.s_op rfl (fun _ => Yd.move rfl) rfl ?_
                    refine J.s_nil ?_
                    refine J.a_in [0, 1, 2] rfl (by rfl) ⟨?_, ?_, ?_, trivial⟩ ?_
                    · skip
                      intro w75 x1
                      have xs1 := x1.size
                      have e0 := e0.trans x1
                      have o42_62 := o42_62.ext x1
                      have o48_66 := o48_66.ext x1
                      have o50_66 := o50_66.ext x1
                      have rs51_67 := rs51_67.ext x1
                      clear x1
                      refine PremP.nil ?_
                      exact OpYe.val rfl (Yd.slcH Try.underlying22 ti5 rfl (Ow.rd o42_62) rfl (by first | omega | (simp only [List.length_map, List.length_replicate, List.length_drop, List.length_take] <;> omega) | (simp <;> omega)))
                    · skip
                      intro w76 x1
                      have xs1 := x1.size
                      have e0 := e0.trans x1
                      have o42_62 := o42_62.ext x1
                      have o48_66 := o48_66.ext x1
                      have o50_66 := o50_66.ext x1
                      have rs51_67 := rs51_67.ext x1
                      clear x1
                      refine PremP.nil ?_
                      exact OpYe.mk rfl ((Ye.call cl15 rfl (Round_ok (by omega) (by omega))).mono fun v w2 h => ⟨⟨(), h.1, trivial⟩, h.2⟩)
                    · skip
                      intro w77 x1
                      refine PremP.v rfl ?_
                      have xs1 := x1.size
                      have e0 := e0.trans x1
                      have o42_62 := o42_62.ext x1
                      have o48_66 := o48_66.ext x1
                      have o50_66 := o50_66.ext x1
                      have rs51_67 := rs51_67.ext x1
                      clear x1
                      refine PremP.nil ?_
                      exact OpYe.mk rfl ((Ye.make (base := w77.heap.size) Try.underlying22 ti5 rfl rfl (by first | omega | (simp only [List.length_map, List.length_replicate, List.length_drop, List.length_take] <;> omega) | (simp <;> omega)) (by first | omega | (simp only [List.length_map, List.length_replicate, List.length_drop, List.length_take] <;> omega) | (simp <;> omega)) (by unfold maxLen; omega) rfl (Nat.le_refl _)).mono fun v w2 h => ⟨⟨v, rfl, by have h9 := Ow.base h.1 xs1; rw [rep_B] at h9; skip; exact h9⟩, h.2⟩)
                    intro w78 x1
                    refine PremP.v rfl ?_
                    refine PremP.v rfl ?_
                    refine PremP.own rfl fun s66_78 o66_78 => ?_
                    have o66_78b := o66_78
                    have ap_s42_62_s66_78 : Ap s42_62.ownBlock s66_78.ownBlock := Ap.mk (Ow.live o42_62) (Ow.fr o66_78)
                    have ap_s48_66_s66_78 : Ap s48_66.ownBlock s66_78.ownBlock := Ap.mk (Ow.live o48_66) (Ow.fr o66_78)
                    have ap_s50_66_s66_78 : Ap s50_66.ownBlock s66_78.ownBlock := Ap.mk (Ow.live o50_66) (Ow.fr o66_78)
                    have fr_s66_78 : Fr w.heap.size s66_78.ownBlock := Fr.le (Ow.fr o66_78) e0.size
                    replace o66_78 := Ow.base o66_78 e0.size
                    have xs1 := x1.size
                    have e0 := e0.trans x1
                    have o42_62 := o42_62.ext x1
                    have o48_66 := o48_66.ext x1
                    have o50_66 := o50_66.ext x1
                    have rs51_67 := rs51_67.ext x1
                    clear x1
                    refine PremP.nil ?_
                    refine J.s_eff rfl (Ye.call cl10 rfl (Open_ok (Ow.rd o42_62) (Bs.slc (Ow.rd o42_62) (by decide) (by simp only [List.length_replicate, List.length_drop, List.length_take]; omega)) (Rd.nilM (fun x : UInt8 => B x) _) (Ow.rd o66_78))) rfl ?_
                    rintro _ w79 ⟨s67_79, rfl, rs67_79, x1⟩
                    have e0 := e0.trans x1
                    have o42_62 := o42_62.ext x1
                    have o48_66 := o48_66.ext x1
                    have o50_66 := o50_66.ext x1
                    have rs51_67 := rs51_67.ext x1
                    have o66_78 := o66_78.ext x1
                    clear x1
                    refine J.s_op rfl (fun _ => Yd.move rfl) rfl ?_
                    refine J.s_op rfl (fun _ => Yd.extract rfl rfl) rfl ?_
                    refine J.s_op rfl (fun _ => Yd.extract rfl rfl) rfl ?_
                    refine J.s_op rfl (fun _ => Yd.assign rfl) rfl ?_
                    refine J.s_op rfl (fun _ => Yd.assign rfl) rfl ?_
                    refine J.s_nil ?_
                    refine J.n_np ?_
                    refine J.n_then ?_
                    refine J.seq ?_
                    refine J.region ?_
                    refine J.op (Yd.move rfl) rfl ?_
                    refine J.op (Yd.move rfl) rfl ?_
                    refine J.op (Yd.eql rfl rfl) rfl ?_
                    refine J.op (Yd.move rfl) rfl ?_
                    refine J.know (t := 73) (v' := .bool true) rfl (tt (by first | exact sealE_big (by simp only [List.length_replicate, List.length_drop, List.length_take]; omega) (by simp only [List.length_replicate, List.length_drop, List.length_take]; omega) (by simp only [List.length_replicate, List.length_drop, List.length_take]; omega) | exact sealE_ok (by simp only [List.length_replicate, List.length_drop, List.length_take]; omega) (by simp only [List.length_replicate, List.length_drop, List.length_take]; omega) (by simp only [List.length_replicate, List.length_drop, List.length_take]; omega))) ?_
                    refine J.op_g rfl rfl rfl (Yd.move rfl) rfl ?_
                    refine J.op_g rfl rfl rfl (Yd.neq rfl rfl) rfl ?_
                    refine J.op_g rfl rfl rfl (Yd.move rfl) rfl ?_
                    refine J.split_dec (t := 76) rfl (fun h9 => ?_) (fun h9 => ?_)
                    · skip
                      refine J.not_g rfl rfl rfl rfl rfl ?_
                      refine J.not_g rfl rfl rfl rfl rfl ?_
                      refine J.not_g rfl rfl rfl rfl rfl ?_
                      refine J.not_g rfl rfl rfl rfl rfl ?_
                      refine J.not_g rfl rfl rfl rfl rfl ?_
                      refine J.op_g rfl rfl rfl (Yd.pick_t rfl rfl) rfl ?_
                      refine J.op (Yd.pick_t rfl rfl) rfl ?_
                      refine J.op (Yd.move rfl) rfl ?_
                      refine J.op_g rfl rfl rfl (Yd.move rfl) rfl ?_
                      refine J.op_g rfl rfl rfl (Yd.eql rfl rfl) rfl ?_
                      refine J.op (Yd.pick_t rfl rfl) rfl ?_
                      refine J.op (Yd.move rfl) rfl ?_
                      refine J.know (t := 88) (v' := .bool true) rfl (tt (by exact openE_bad (by simp only [List.length_replicate, List.length_drop, List.length_take]; omega) (by simp only [List.length_replicate, List.length_drop, List.length_take]; omega) (by simp only [List.length_replicate, List.length_nil]; omega) (.inl (by simp only [List.length_replicate, List.length_drop, List.length_take]; omega)))) ?_
                      refine J.eff_g rfl rfl rfl (Ye.call cl7 rfl (awake_ok)) rfl ?_
                      rintro _ w80 ⟨rfl, x1⟩
                      have e0 := e0.trans x1
                      have o42_62 := o42_62.ext x1
                      have o48_66 := o48_66.ext x1
                      have o50_66 := o50_66.ext x1
                      have rs51_67 := rs51_67.ext x1
                      have o66_78 := o66_78.ext x1
                      have rs67_79 := rs67_79.ext x1
                      clear x1
                      refine J.op (Yd.pick_t rfl rfl) rfl ?_
                      refine J.op (Yd.assign rfl) rfl ?_
                      refine J.nil ?_
                      refine J.n_then ?_
                      refine J.ret ?_
                      exact J.ret1 rfl rfl (⟨_, rfl, rfl, e0⟩)
                    · skip
                      refine J.op_g rfl rfl rfl (Yd.move rfl) rfl ?_
                      refine J.op_g rfl rfl rfl (Yd.len_b Try.underlying22 rfl rs51_67) rfl ?_
                      refine J.op_g rfl rfl rfl (Yd.move rfl) rfl ?_
                      refine J.op_g rfl rfl rfl (Yd.add rfl rfl (by first | omega | (simp only [List.length_map, List.length_replicate, List.length_drop, List.length_take] <;> omega) | (simp <;> omega))) rfl ?_
                      refine J.op_g rfl rfl rfl (Yd.eql rfl rfl) rfl ?_
                      refine J.op_g rfl rfl rfl (Yd.pick_f rfl rfl) rfl ?_
                      refine J.op (Yd.pick_t rfl rfl) rfl ?_
                      refine J.op (Yd.move rfl) rfl ?_
                      refine J.know (t := 84) (v' := .bool true) rfl (tt (by rw [sealL_len (Classical.not_not.1 h9), List.length_replicate]; omega)) ?_
                      refine J.op_g rfl rfl rfl (Yd.move rfl) rfl ?_
                      refine J.op_g rfl rfl rfl (Yd.eql rfl rfl) rfl ?_
                      refine J.op (Yd.pick_t rfl rfl) rfl ?_
                      refine J.op (Yd.move rfl) rfl ?_
                      refine J.know (t := 88) (v' := .bool true) rfl (tt (by exact openE_bad (by simp only [List.length_replicate, List.length_drop, List.length_take]; omega) (by simp only [List.length_replicate, List.length_drop, List.length_take]; omega) (by simp only [List.length_replicate, List.length_nil]; omega) (.inl (by simp only [List.length_replicate, List.length_drop, List.length_take]; omega)))) ?_
                      refine J.eff_g rfl rfl rfl (Ye.call cl7 rfl (awake_ok)) rfl ?_
                      rintro _ w81 ⟨rfl, x1⟩
                      have e0 := e0.trans x1
                      have o42_62 := o42_62.ext x1
                      have o48_66 := o48_66.ext x1
                      have o50_66 := o50_66.ext x1
                      have rs51_67 := rs51_67.ext x1
                      have o66_78 := o66_78.ext x1
                      have rs67_79 := rs67_79.ext x1
                      clear x1
                      refine J.op (Yd.pick_t rfl rfl) rfl ?_
                      refine J.op (Yd.assign rfl) rfl ?_
                      refine J.nil ?_
                      refine J.n_then ?_
                      refine J.ret ?_
                      exact J.ret1 rfl rfl (⟨_, rfl, rfl, e0⟩)
                  · skip
                    refine J.skip ?_
                    refine J.n_then ?_
                    refine J.seq ?_
                    refine J.regionA [(0, true), (1, true), (3, true)] [(2, Asr.v 63 (slc s42_62 0 (12 : Int).toNat)), (4, Asr.v 65 (I (n % 32))), (5, Asr.own 66 w67.heap.size 5 (((List.replicate (n % 32).toNat (0 : UInt8)).map fun x => B x)))] [2, 4, 5] [63, 65, 66] [[], [], [1]] [(6, false), (7, true), (8, true), (9, true), (10, true), (11, true)] rfl rfl mix (by kernel_rfl) ?_
                    refine J.s_op rfl (fun _ => Yd.move rfl) rfl ?_
                    refine J.s_op rfl (fun _ => Yd.move rfl) rfl ?_
                    refine J.s_op rfl (fun _ => Yd.move rfl) rfl ?_
                    refine J.s_nil ?_
                    refine J.a_in [0, 1, 2] rfl (by rfl) ⟨?_, ?_, ?_, trivial⟩ ?_
                    · skip
                      intro w82 x1
                      have xs1 := x1.size
                      have e0 := e0.trans x1
                      have o42_62 := o42_62.ext x1
                      have o48_66 := o48_66.ext x1
                      have o50_66 := o50_66.ext x1
                      have rs51_67 := rs51_67.ext x1
                      clear x1
                      refine PremP.nil ?_
                      exact OpYe.val rfl (Yd.slcH Try.underlying22 ti5 rfl (Ow.rd o42_62) rfl (by first | omega | (simp only [List.length_map, List.length_replicate, List.length_drop, List.length_take] <;> omega) | (simp <;> omega)))
                    · skip
                      intro w83 x1
                      have xs1 := x1.size
                      have e0 := e0.trans x1
                      have o42_62 := o42_62.ext x1
                      have o48_66 := o48_66.ext x1
                      have o50_66 := o50_66.ext x1
                      have rs51_67 := rs51_67.ext x1
                      clear x1
                      refine PremP.nil ?_
                      exact OpYe.mk rfl ((Ye.call cl15 rfl (Round_ok (by omega) (by omega))).mono fun v w2 h => ⟨⟨(), h.1, trivial⟩, h.2⟩)
                    · skip
                      intro w84 x1
                      refine PremP.v rfl ?_
                      have xs1 := x1.size
                      have e0 := e0.trans x1
                      have o42_62 := o42_62.ext x1
                      have o48_66 := o48_66.ext x1
                      have o50_66 := o50_66.ext x1
                      have rs51_67 := rs51_67.ext x1
                      clear x1
                      refine PremP.nil ?_
                      exact OpYe.mk rfl ((Ye.make (base := w84.heap.size) Try.underlying22 ti5 rfl rfl (by first | omega | (simp only [List.length_map, List.length_replicate, List.length_drop, List.length_take] <;> omega) | (simp <;> omega)) (by first | omega | (simp only [List.length_map, List.length_replicate, List.length_drop, List.length_take] <;> omega) | (simp <;> omega)) (by unfold maxLen; omega) rfl (Nat.le_refl _)).mono fun v w2 h => ⟨⟨v, rfl, by have h9 := Ow.base h.1 xs1; rw [rep_B] at h9; skip; exact h9⟩, h.2⟩)
                    intro w85 x1
                    refine PremP.v rfl ?_
                    refine PremP.v rfl ?_
                    refine PremP.own rfl fun s66_85 o66_85 => ?_
                    have o66_85b := o66_85
                    have ap_s42_62_s66_85 : Ap s42_62.ownBlock s66_85.ownBlock := Ap.mk (Ow.live o42_62) (Ow.fr o66_85)
                    have ap_s48_66_s66_85 : Ap s48_66.ownBlock s66_85.ownBlock := Ap.mk (Ow.live o48_66) (Ow.fr o66_85)
                    have ap_s50_66_s66_85 : Ap s50_66.ownBlock s66_85.ownBlock := Ap.mk (Ow.live o50_66) (Ow.fr o66_85)
                    have fr_s66_85 : Fr w.heap.size s66_85.ownBlock := Fr.le (Ow.fr o66_85) e0.size
                    replace o66_85 := Ow.base o66_85 e0.size
                    have xs1 := x1.size
                    have e0 := e0.trans x1
                    have o42_62 := o42_62.ext x1
                    have o48_66 := o48_66.ext x1
                    have o50_66 := o50_66.ext x1
                    have rs51_67 := rs51_67.ext x1
                    clear x1
                    refine PremP.nil ?_
                    refine J.s_eff rfl (Ye.call cl10 rfl (Open_ok (Ow.rd o42_62) (Bs.slc (Ow.rd o42_62) (by decide) (by simp only [List.length_replicate, List.length_drop, List.length_take]; omega)) (Rd.nilM (fun x : UInt8 => B x) _) (Ow.rd o66_85))) rfl ?_
                    rintro _ w86 ⟨s67_86, rfl, rs67_86, x1⟩
                    have e0 := e0.trans x1
                    have o42_62 := o42_62.ext x1
                    have o48_66 := o48_66.ext x1
                    have o50_66 := o50_66.ext x1
                    have rs51_67 := rs51_67.ext x1
                    have o66_85 := o66_85.ext x1
                    clear x1
                    refine J.s_op rfl (fun _ => Yd.move rfl) rfl ?_
                    refine J.s_op rfl (fun _ => Yd.extract rfl rfl) rfl ?_
                    refine J.s_op rfl (fun _ => Yd.extract rfl rfl) rfl ?_
                    refine J.s_op rfl (fun _ => Yd.assign rfl) rfl ?_
                    refine J.s_op rfl (fun _ => Yd.assign rfl) rfl ?_
                    refine J.s_nil ?_
                    refine J.n_np ?_
                    refine J.n_then ?_
                    refine J.seq ?_
                    refine J.region ?_
                    refine J.op (Yd.move rfl) rfl ?_
                    refine J.op (Yd.move rfl) rfl ?_
                    refine J.op (Yd.eql rfl rfl) rfl ?_
                    refine J.op (Yd.move rfl) rfl ?_
                    refine J.know (t := 73) (v' := .bool true) rfl (tt (by first | exact sealE_big (by simp only [List.length_replicate, List.length_drop, List.length_take]; omega) (by simp only [List.length_replicate, List.length_drop, List.length_take]; omega) (by simp only [List.length_replicate, List.length_drop, List.length_take]; omega) | exact sealE_ok (by simp only [List.length_replicate, List.length_drop, List.length_take]; omega) (by simp only [List.length_replicate, List.length_drop, List.length_take]; omega) (by simp only [List.length_replicate, List.length_drop, List.length_take]; omega))) ?_
                    refine J.op_g rfl rfl rfl (Yd.move rfl) rfl ?_
                    refine J.op_g rfl rfl rfl (Yd.neq rfl rfl) rfl ?_
                    refine J.op_g rfl rfl rfl (Yd.move rfl) rfl ?_
                    refine J.split_dec (t := 76) rfl (fun h9 => ?_) (fun h9 => ?_)
                    · skip
                      refine J.not_g rfl rfl rfl rfl rfl ?_
                      refine J.not_g rfl rfl rfl rfl rfl ?_
                      refine J.not_g rfl rfl rfl rfl rfl ?_
                      refine J.not_g rfl rfl rfl rfl rfl ?_
                      refine J.not_g rfl rfl rfl rfl rfl ?_
                      refine J.op_g rfl rfl rfl (Yd.pick_t rfl rfl) rfl ?_
                      refine J.op (Yd.pick_t rfl rfl) rfl ?_
                      refine J.op (Yd.move rfl) rfl ?_
                      refine J.op_g rfl rfl rfl (Yd.move rfl) rfl ?_
                      refine J.op_g rfl rfl rfl (Yd.eql rfl rfl) rfl ?_
                      refine J.op (Yd.pick_t rfl rfl) rfl ?_
                      refine J.op (Yd.move rfl) rfl ?_
                      refine J.know (t := 88) (v' := .bool true) rfl (tt (by exact openE_bad (by simp only [List.length_replicate, List.length_drop, List.length_take]; omega) (by simp only [List.length_replicate, List.length_drop, List.length_take]; omega) (by simp only [List.length_replicate, List.length_nil]; omega) (.inl (by simp only [List.length_replicate, List.length_drop, List.length_take]; omega)))) ?_
                      refine J.eff_g rfl rfl rfl (Ye.call cl7 rfl (awake_ok)) rfl ?_
                      rintro _ w87 ⟨rfl, x1⟩
                      have e0 := e0.trans x1
                      have o42_62 := o42_62.ext x1
                      have o48_66 := o48_66.ext x1
                      have o50_66 := o50_66.ext x1
                      have rs51_67 := rs51_67.ext x1
                      have o66_85 := o66_85.ext x1
                      have rs67_86 := rs67_86.ext x1
                      clear x1
                      refine J.op (Yd.pick_t rfl rfl) rfl ?_
                      refine J.op (Yd.assign rfl) rfl ?_
                      refine J.nil ?_
                      refine J.n_then ?_
                      refine J.ret ?_
                      exact J.ret1 rfl rfl (⟨_, rfl, rfl, e0⟩)
                    · skip
                      refine J.op_g rfl rfl rfl (Yd.move rfl) rfl ?_
                      refine J.op_g rfl rfl rfl (Yd.len_b Try.underlying22 rfl rs51_67) rfl ?_
                      refine J.op_g rfl rfl rfl (Yd.move rfl) rfl ?_
                      refine J.op_g rfl rfl rfl (Yd.add rfl rfl (by first | omega | (simp only [List.length_map, List.length_replicate, List.length_drop, List.length_take] <;> omega) | (simp <;> omega))) rfl ?_
                      refine J.op_g rfl rfl rfl (Yd.eql rfl rfl) rfl ?_
                      refine J.op_g rfl rfl rfl (Yd.pick_f rfl rfl) rfl ?_
                      refine J.op (Yd.pick_t rfl rfl) rfl ?_
                      refine J.op (Yd.move rfl) rfl ?_
                      refine J.know (t := 84) (v' := .bool true) rfl (tt (by rw [sealL_len (Classical.not_not.1 h9), List.length_replicate]; omega)) ?_
                      refine J.op_g rfl rfl rfl (Yd.move rfl) rfl ?_
                      refine J.op_g rfl rfl rfl (Yd.eql rfl rfl) rfl ?_
                      refine J.op (Yd.pick_t rfl rfl) rfl ?_
                      refine J.op (Yd.move rfl) rfl ?_
                      refine J.know (t := 88) (v' := .bool true) rfl (tt (by exact openE_bad (by simp only [List.length_replicate, List.length_drop, List.length_take]; omega) (by simp only [List.length_replicate, List.length_drop, List.length_take]; omega) (by simp only [List.length_replicate, List.length_nil]; omega) (.inl (by simp only [List.length_replicate, List.length_drop, List.length_take]; omega)))) ?_
                      refine J.eff_g rfl rfl rfl (Ye.call cl7 rfl (awake_ok)) rfl ?_
                      rintro _ w88 ⟨rfl, x1⟩
                      have e0 := e0.trans x1
                      have o42_62 := o42_62.ext x1
                      have o48_66 := o48_66.ext x1
                      have o50_66 := o50_66.ext x1
                      have rs51_67 := rs51_67.ext x1
                      have o66_85 := o66_85.ext x1
                      have rs67_86 := rs67_86.ext x1
                      clear x1
                      refine J.op (Yd.pick_t rfl rfl) rfl ?_
                      refine J.op (Yd.assign rfl) rfl ?_
                      refine J.nil ?_
                      refine J.n_then ?_
                      refine J.ret ?_
                      exact J.ret1 rfl rfl (⟨_, rfl, rfl, e0⟩)
            · skip
              refine J.not_g rfl rfl rfl rfl rfl ?_
              refine J.not_g rfl rfl rfl rfl rfl ?_
              refine J.op_g rfl rfl rfl (Yd.pick_f rfl rfl) rfl ?_
              refine J.op (Yd.pick_f rfl rfl) rfl ?_
              refine J.nil ?_
              refine J.n_then ?_
              refine J.cond_false rfl ?_
              refine J.skip ?_
              refine J.n_then ?_
              refine J.seq ?_
              refine J.region ?_
              refine J.eff (Ye.make (base := w.heap.size) Try.underlying22 ti5 rfl rfl (by first | omega | (simp only [List.length_map, List.length_replicate, List.length_drop, List.length_take] <;> omega) | (simp <;> omega)) (by first | omega | (simp only [List.length_map, List.length_replicate, List.length_drop, List.length_take] <;> omega) | (simp <;> omega)) (by unfold maxLen; omega) rfl (Nat.le_refl _)) rfl ?_
              rintro s42_89 w89 ⟨o42_89, x1⟩
              have fr_s42_89 : Fr w.heap.size s42_89.ownBlock := Fr.le (Ow.fr o42_89) e0.size
              replace o42_89 := Ow.base o42_89 e0.size
              have e0 := e0.trans x1
              clear x1
              rw [rep_B] at o42_89
              refine J.op (Yd.assign rfl) rfl ?_
              refine J.nil ?_
              refine J.n_then ?_
              refine J.seq ?_
              refine J.regionA [(0, true), (1, true), (3, true), (5, true)] [(2, Asr.v 46 (slc s42_89 0 (12 : Int).toNat)), (4, Asr.own 48 w89.heap.size 5 (((List.replicate m.toNat (0 : UInt8)).map fun x => B x))), (6, Asr.own 50 w89.heap.size 5 (((List.replicate n.toNat (0 : UInt8)).map fun x => B x)))] [2, 4, 6] [46, 48, 50] [[], [], []] [(7, false), (8, true), (9, true), (10, true), (11, true), (12, true)] rfl rfl mix (by kernel_rfl) ?_
              refine J.s_op rfl (fun _ => Yd.move rfl) rfl ?_
              refine J.s_op rfl (fun _ => Yd.move rfl) rfl ?_
              refine J.s_op rfl (fun _ => Yd.move rfl) rfl ?_
              refine J.s_op rfl (fun _ => Yd.move rfl) rfl ?_
              refine J.s_nil ?_
              refine J.a_in [0, 1, 2] rfl (by rfl) ⟨?_, ?_, ?_, trivial⟩ ?_
              · skip
                intro w90 x1
                have xs1 := x1.size
                have e0 := e0.trans x1
                have o42_89 := o42_89.ext x1
                clear x1
                refine PremP.nil ?_
                exact OpYe.val rfl (Yd.slcH Try.underlying22 ti5 rfl (Ow.rd o42_89) rfl (by first | omega | (simp only [List.length_map, List.length_replicate, List.length_drop, List.length_take] <;> omega) | (simp <;> omega)))
              · skip
                intro w91 x1
                have xs1 := x1.size
                have e0 := e0.trans x1
                have o42_89 := o42_89.ext x1
                clear x1
                refine PremP.nil ?_
                exact OpYe.mk rfl ((Ye.make (base := w91.heap.size) Try.underlying22 ti5 rfl rfl (by first | omega | (simp only [List.length_map, List.length_replicate, List.length_drop, List.length_take] <;> omega) | (simp <;> omega)) (by first | omega | (simp only [List.length_map, List.length_replicate, List.length_drop, List.length_take] <;> omega) | (simp <;> omega)) (by unfold maxLen; omega) rfl (Nat.le_refl _)).mono fun v w2 h => ⟨⟨v, rfl, by have h9 := Ow.base h.1 xs1; rw [rep_B] at h9; skip; exact h9⟩, h.2⟩)
              · skip
                intro w92 x1
                have xs1 := x1.size
                have e0 := e0.trans x1
                have o42_89 := o42_89.ext x1
                clear x1
                refine PremP.nil ?_
                exact OpYe.mk rfl ((Ye.make (base := w92.heap.size) Try.underlying22 ti5 rfl rfl (by first | omega | (simp only [List.length_map, List.length_replicate, List.length_drop, List.length_take] <;> omega) | (simp <;> omega)) (by first | omega | (simp only [List.length_map, List.length_replicate, List.length_drop, List.length_take] <;> omega) | (simp <;> omega)) (by unfold maxLen; omega) rfl (Nat.le_refl _)).mono fun v w2 h => ⟨⟨v, rfl, by have h9 := Ow.base h.1 xs1; rw [rep_B] at h9; skip; exact h9⟩, h.2⟩)
              intro w93 x1
              refine PremP.v rfl ?_
              refine PremP.own rfl fun s48_93 o48_93 => ?_
              have o48_93b := o48_93
              have ap_s42_89_s48_93 : Ap s42_89.ownBlock s48_93.ownBlock := Ap.mk (Ow.live o42_89) (Ow.fr o48_93)
              have fr_s48_93 : Fr w.heap.size s48_93.ownBlock := Fr.le (Ow.fr o48_93) e0.size
              replace o48_93 := Ow.base o48_93 e0.size
              refine PremP.own rfl fun s50_93 o50_93 => ?_
              have o50_93b := o50_93
              have ap_s42_89_s50_93 : Ap s42_89.ownBlock s50_93.ownBlock := Ap.mk (Ow.live o42_89) (Ow.fr o50_93)
              have fr_s50_93 : Fr w.heap.size s50_93.ownBlock := Fr.le (Ow.fr o50_93) e0.size
              replace o50_93 := Ow.base o50_93 e0.size
              have xs1 := x1.size
              have e0 := e0.trans x1
              have o42_89 := o42_89.ext x1
              clear x1
              refine PremP.nil ?_
              refine J.s_eff rfl (Ye.call cl8 rfl (Seal_ok (Ow.rd o42_89) (Bs.slc (Ow.rd o42_89) (by decide) (by simp only [List.length_replicate, List.length_drop, List.length_take]; omega)) (Ow.rd o48_93) (Ow.rd o50_93))) rfl ?_
              rintro _ w94 ⟨s51_94, rfl, rs51_94, x1⟩
              have e0 := e0.trans x1
              have o42_89 := o42_89.ext x1
              have o48_93 := o48_93.ext x1
              have o50_93 := o50_93.ext x1
              clear x1
              refine J.s_op rfl (fun _ => Yd.move rfl) rfl ?_
              refine J.s_op rfl (fun _ => Yd.extract rfl rfl) rfl ?_
              refine J.s_op rfl (fun _ => Yd.extract rfl rfl) rfl ?_
              refine J.s_op rfl (fun _ => Yd.assign rfl) rfl ?_
              refine J.s_op rfl (fun _ => Yd.assign rfl) rfl ?_
              refine J.s_nil ?_
              refine J.n_np ?_
              refine J.n_then ?_
              refine J.seq ?_
              refine J.region ?_
              refine J.op (Yd.assign rfl) rfl ?_
              refine J.nil ?_
              refine J.n_then ?_
              refine J.seq ?_
              refine J.seq ?_
              refine J.region ?_
              refine J.op (Yd.move rfl) rfl ?_
              refine J.op (Yd.gtr rfl rfl) rfl ?_
              refine J.op (Yd.move rfl) rfl ?_
              refine J.split_dec (t := 56) rfl (fun h8 => ?_) (fun h8 => ?_)
              · skip
                refine J.not_g rfl rfl rfl rfl rfl ?_
                refine J.not_g rfl rfl rfl rfl rfl ?_
                refine J.op (Yd.pick_t rfl rfl) rfl ?_
                refine J.nil ?_
                refine J.n_then ?_
                refine J.cond_true rfl ?_
                refine J.region ?_
                refine J.op (Yd.assign rfl) rfl ?_
                refine J.nil ?_
                refine J.n_then ?_
                refine J.seq ?_
                refine J.regionA [(0, true), (1, true), (3, true)] [(2, Asr.v 63 (slc s42_89 0 (12 : Int).toNat)), (4, Asr.v 65 (I (n % 32))), (5, Asr.own 66 w94.heap.size 5 (((List.replicate (n % 32).toNat (0 : UInt8)).map fun x => B x)))] [2, 4, 5] [63, 65, 66] [[], [], [1]] [(6, false), (7, true), (8, true), (9, true), (10, true), (11, true)] rfl rfl mix (by kernel_rfl) ?_
                refine J.s_op rfl (fun _ => Yd.move rfl) rfl ?_
                refine J.s_op rfl (fun _ => Yd.move rfl) rfl ?_
                refine J.s_op rfl (fun _ => Yd.move rfl) rfl ?_
                refine J.s_nil ?_
                refine J.a_in [0, 1, 2] rfl (by rfl) ⟨?_, ?_, ?_, trivial⟩ ?_
                · skip
                  intro w95 x1
                  have xs1 := x1.size
                  have e0 := e0.trans x1
                  have o42_89 := o42_89.ext x1
                  have o48_93 := o48_93.ext x1
                  have o50_93 := o50_93.ext x1
                  have rs51_94 := rs51_94.ext x1
                  clear x1
                  refine PremP.nil ?_
                  exact OpYe.val rfl (Yd.slcH Try.underlying22 ti5 rfl (Ow.rd o42_89) rfl (by first | omega | (simp only [List.length_map, List.length_replicate, List.length_drop, List.length_take] <;> omega) | (simp <;> omega)))
                · skip
                  intro w96 x1
                  have xs1 := x1.size
                  have e0 := e0.trans x1
                  have o42_89 := o42_89.ext x1
                  have o48_93 := o48_93.ext x1
                  have o50_93 := o50_93.ext x1
                  have rs51_94 := rs51_94.ext x1
                  clear x1
                  refine PremP.nil ?_
                  exact OpYe.mk rfl ((Ye.call cl15 rfl (Round_ok (by omega) (by omega))).mono fun v w2 h => ⟨⟨(), h.1, trivial⟩, h.2⟩)
                · skip
                  intro w97 x1
                  refine PremP.v rfl ?_
                  have xs1 := x1.size
                  have e0 := e0.trans x1
                  have o42_89 := o42_89.ext x1
                  have o48_93 := o48_93.ext x1
                  have o50_93 := o50_93.ext x1
                  have rs51_94 := rs51_94.ext x1
                  clear x1
                  refine PremP.nil ?_
                  exact OpYe.mk rfl ((Ye.make (base := w97.heap.size) Try.underlying22 ti5 rfl rfl (by first | omega | (simp only [List.length_map, List.length_replicate, List.length_drop, List.length_take] <;> omega) | (simp <;> omega)) (by first | omega | (simp only [List.length_map, List.length_replicate, List.length_drop, List.length_take] <;> omega) | (simp <;> omega)) (by unfold maxLen; omega) rfl (Nat.le_refl _)).mono fun v w2 h => ⟨⟨v, rfl, by have h9 := Ow.base h.1 xs1; rw [rep_B] at h9; skip; exact h9⟩, h.2⟩)
                intro w98 x1
                refine PremP.v rfl ?_
                refine PremP.v rfl ?_
                refine PremP.own rfl fun s66_98 o66_98 => ?_
                have o66_98b := o66_98
                have ap_s42_89_s66_98 : Ap s42_89.ownBlock s66_98.ownBlock := Ap.mk (Ow.live o42_89) (Ow.fr o66_98)
                have ap_s48_93_s66_98 : Ap s48_93.ownBlock s66_98.ownBlock := Ap.mk (Ow.live o48_93) (Ow.fr o66_98)
                have ap_s50_93_s66_98 : Ap s50_93.ownBlock s66_98.ownBlock := Ap.mk (Ow.live o50_93) (Ow.fr o66_98)
                have fr_s66_98 : Fr w.heap.size s66_98.ownBlock := Fr.le (Ow.fr o66_98) e0.size
                replace o66_98 := Ow.base o66_98 e0.size
                have xs1 := x1.size
                have e0 := e0.trans x1
                have o42_89 := o42_89.ext x1
                have o48_93 := o48_93.ext x1
                have o50_93 := o50_93.ext x1
                have rs51_94 := rs51_94.ext x1
                clear x1
                refine PremP.nil ?_
                refine J.s_eff rfl (Ye.call cl10 rfl (Open_ok (Ow.rd o42_89) (Bs.slc (Ow.rd o42_89) (by decide) (by simp only [List.length_replicate, List.length_drop, List.length_take]; omega)) (Rd.nilM (fun x : UInt8 => B x) _) (Ow.rd o66_98))) rfl ?_
                rintro _ w99 ⟨s67_99, rfl, rs67_99, x1⟩
                have e0 := e0.trans x1
                have o42_89 := o42_89.ext x1
                have o48_93 := o48_93.ext x1
                have o50_93 := o50_93.ext x1
                have rs51_94 := rs51_94.ext x1
                have o66_98 := o66_98.ext x1
                clear x1
                refine J.s_op rfl (fun _ => Yd.move rfl) rfl ?_
                refine J.s_op rfl (fun _ => Yd.extract rfl rfl) rfl ?_
                refine J.s_op rfl (fun _ => Yd.extract rfl rfl) rfl ?_
                refine J.s_op rfl (fun _ => Yd.assign rfl) rfl ?_
                refine J.s_op rfl (fun _ => Yd.assign rfl) rfl ?_
                refine J.s_nil ?_
                refine J.n_np ?_
                refine J.n_then ?_
                refine J.seq ?_
                refine J.region ?_
                refine J.op (Yd.move rfl) rfl ?_
                refine J.op (Yd.move rfl) rfl ?_
                refine J.op (Yd.eql rfl rfl) rfl ?_
                refine J.op (Yd.move rfl) rfl ?_
                refine J.know (t := 73) (v' := .bool true) rfl (tt (by first | exact sealE_big (by simp only [List.length_replicate, List.length_drop, List.length_take]; omega) (by simp only [List.length_replicate, List.length_drop, List.length_take]; omega) (by simp only [List.length_replicate, List.length_drop, List.length_take]; omega) | exact sealE_ok (by simp only [List.length_replicate, List.length_drop, List.length_take]; omega) (by simp only [List.length_replicate, List.length_drop, List.length_take]; omega) (by simp only [List.length_replicate, List.length_drop, List.length_take]; omega))) ?_
                refine J.op_g rfl rfl rfl (Yd.move rfl) rfl ?_
                refine J.op_g rfl rfl rfl (Yd.neq rfl rfl) rfl ?_
                refine J.op_g rfl rfl rfl (Yd.move rfl) rfl ?_
                refine J.split_dec (t := 76) rfl (fun h9 => ?_) (fun h9 => ?_)
                · skip
                  refine J.not_g rfl rfl rfl rfl rfl ?_
                  refine J.not_g rfl rfl rfl rfl rfl ?_
                  refine J.not_g rfl rfl rfl rfl rfl ?_
                  refine J.not_g rfl rfl rfl rfl rfl ?_
                  refine J.not_g rfl rfl rfl rfl rfl ?_
                  refine J.op_g rfl rfl rfl (Yd.pick_t rfl rfl) rfl ?_
                  refine J.op (Yd.pick_t rfl rfl) rfl ?_
                  refine J.op (Yd.move rfl) rfl ?_
                  refine J.op_g rfl rfl rfl (Yd.move rfl) rfl ?_
                  refine J.op_g rfl rfl rfl (Yd.eql rfl rfl) rfl ?_
                  refine J.op (Yd.pick_t rfl rfl) rfl ?_
                  refine J.op (Yd.move rfl) rfl ?_
                  refine J.know (t := 88) (v' := .bool true) rfl (tt (by exact openE_bad (by simp only [List.length_replicate, List.length_drop, List.length_take]; omega) (by simp only [List.length_replicate, List.length_drop, List.length_take]; omega) (by simp only [List.length_replicate, List.length_nil]; omega) (.inl (by simp only [List.length_replicate, List.length_drop, List.length_take]; omega)))) ?_
                  refine J.eff_g rfl rfl rfl (Ye.call cl7 rfl (awake_ok)) rfl ?_
                  rintro _ w100 ⟨rfl, x1⟩
                  have e0 := e0.trans x1
                  have o42_89 := o42_89.ext x1
                  have o48_93 := o48_93.ext x1
                  have o50_93 := o50_93.ext x1
                  have rs51_94 := rs51_94.ext x1
                  have o66_98 := o66_98.ext x1
                  have rs67_99 := rs67_99.ext x1
                  clear x1
                  refine J.op (Yd.pick_t rfl rfl) rfl ?_
                  refine J.op (Yd.assign rfl) rfl ?_
                  refine J.nil ?_
                  refine J.n_then ?_
                  refine J.ret ?_
                  exact J.ret1 rfl rfl (⟨_, rfl, rfl, e0⟩)
                · skip
                  refine J.op_g rfl rfl rfl (Yd.move rfl) rfl ?_
                  refine J.op_g rfl rfl rfl (Yd.len_b Try.underlying22 rfl rs51_94) rfl ?_
                  refine J.op_g rfl rfl rfl (Yd.move rfl) rfl ?_
                  refine J.op_g rfl rfl rfl (Yd.add rfl rfl (by first | omega | (simp only [List.length_map, List.length_replicate, List.length_drop, List.length_take] <;> omega) | (simp <;> omega))) rfl ?_
                  refine J.op_g rfl rfl rfl (Yd.eql rfl rfl) rfl ?_
                  refine J.op_g rfl rfl rfl (Yd.pick_f rfl rfl) rfl ?_
                  refine J.op (Yd.pick_t rfl rfl) rfl ?_
                  refine J.op (Yd.move rfl) rfl ?_
                  refine J.know (t := 84) (v' := .bool true) rfl (tt (by rw [sealL_len (Classical.not_not.1 h9), List.length_replicate]; omega)) ?_
                  refine J.op_g rfl rfl rfl (Yd.move rfl) rfl ?_
                  refine J.op_g rfl rfl rfl (Yd.eql rfl rfl) rfl ?_
                  refine J.op (Yd.pick_t rfl rfl) rfl ?_
                  refine J.op (Yd.move rfl) rfl ?_
                  refine J.know (t := 88) (v' := .bool true) rfl (tt (by exact openE_bad (by simp only [List.length_replicate, List.length_drop, List.length_take]; omega) (by simp only [List.length_replicate, List.length_drop, List.length_take]; omega) (by simp only [List.length_replicate, List.length_nil]; omega) (.inl (by simp only [List.length_replicate, List.length_drop, List.length_take]; omega)))) ?_
                  refine J.eff_g rfl rfl rfl (Ye.call cl7 rfl (awake_ok)) rfl ?_
                  rintro _ w101 ⟨rfl, x1⟩
                  have e0 := e0.trans x1
                  have o42_89 := o42_89.ext x1
                  have o48_93 := o48_93.ext x1
                  have o50_93 := o50_93.ext x1
                  have rs51_94 := rs51_94.ext x1
                  have o66_98 := o66_98.ext x1
                  have rs67_99 := rs67_99.ext x1
                  clear x1
                  refine J.op (Yd.pick_t rfl rfl) rfl ?_
                  refine J.op (Yd.assign rfl) rfl ?_
                  refine J.nil ?_
                  refine J.n_then ?_
                  refine J.ret ?_
                  exact J.ret1 rfl rfl (⟨_, rfl, rfl, e0⟩)
              · skip
                refine J.op_g rfl rfl rfl (Yd.move rfl) rfl ?_
                refine J.op_g rfl rfl rfl (Yd.gtr rfl rfl) rfl ?_
                refine J.op (Yd.pick_f rfl rfl) rfl ?_
                refine J.nil ?_
                refine J.n_then ?_
                refine J.cond_dec rfl (fun hc1 => ?_) (fun hc1 => ?_)
                · skip
                  refine J.region ?_
                  refine J.op (Yd.assign rfl) rfl ?_
                  refine J.nil ?_
                  refine J.n_then ?_
                  refine J.seq ?_
                  refine J.regionA [(0, true), (1, true), (3, true)] [(2, Asr.v 63 (slc s42_89 0 (12 : Int).toNat)), (4, Asr.v 65 (I (n % 32))), (5, Asr.own 66 w94.heap.size 5 (((List.replicate (n % 32).toNat (0 : UInt8)).map fun x => B x)))] [2, 4, 5] [63, 65, 66] [[], [], [1]] [(6, false), (7, true), (8, true), (9, true), (10, true), (11, true)] rfl rfl mix (by kernel_rfl) ?_
                  refine J.s_op rfl (fun _ => Yd.move rfl) rfl ?_
                  refine J.s_op rfl (fun _ => Yd.move rfl) rfl ?_
                  refine J.s_op rfl (fun _ => Yd.move rfl) rfl ?_
                  refine J.s_nil ?_
                  refine J.a_in [0, 1, 2] rfl (by rfl) ⟨?_, ?_, ?_, trivial⟩ ?_
                  · skip
                    intro w102 x1
                    have xs1 := x1.size
                    have e0 := e0.trans x1
                    have o42_89 := o42_89.ext x1
                    have o48_93 := o48_93.ext x1
                    have o50_93 := o50_93.ext x1
                    have rs51_94 := rs51_94.ext x1
                    clear x1
                    refine PremP.nil ?_
                    exact OpYe.val rfl (Yd.slcH Try.underlying22 ti5 rfl (Ow.rd o42_89) rfl (by first | omega | (simp only [List.length_map, List.length_replicate, List.length_drop, List.length_take] <;> omega) | (simp <;> omega)))
                  · skip
                    intro w103 x1
                    have xs1 := x1.size
                    have e0 := e0.trans x1
                    have o42_89 := o42_89.ext x1
                    have o48_93 := o48_93.ext x1
                    have o50_93 := o50_93.ext x1
                    have rs51_94 := rs51_94.ext x1
                    clear x1
                    refine PremP.nil ?_
                    exact OpYe.mk rfl ((Ye.call cl15 rfl (Round_ok (by omega) (by omega))).mono fun v w2 h => ⟨⟨(), h.1, trivial⟩, h.2⟩)
                  · skip
                    intro w104 x1
                    refine PremP.v rfl ?_
                    have xs1 := x1.size
                    have e0 := e0.trans x1
                    have o42_89 := o42_89.ext x1
                    have o48_93 := o48_93.ext x1
                    have o50_93 := o50_93.ext x1
                    have rs51_94 := rs51_94.ext x1
                    clear x1
                    refine PremP.nil ?_
                    exact OpYe.mk rfl ((Ye.make (base := w104.heap.size) Try.underlying22 ti5 rfl rfl (by first | omega | (simp only [List.length_map, List.length_replicate, List.length_drop, List.length_take] <;> omega) | (simp <;> omega)) (by first | omega | (simp only [List.length_map, List.length_replicate, List.length_drop, List.length_take] <;> omega) | (simp <;> omega)) (by unfold maxLen; omega) rfl (Nat.le_refl _)).mono fun v w2 h => ⟨⟨v, rfl, by have h9 := Ow.base h.1 xs1; rw [rep_B] at h9; skip; exact h9⟩, h.2⟩)
                  intro w105 x1
                  refine PremP.v rfl ?_
                  refine PremP.v rfl ?_
                  refine PremP.own rfl fun s66_105 o66_105 => ?_
                  have o66_105b := o66_105
                  have ap_s42_89_s66_105 : Ap s42_89.ownBlock s66_105.ownBlock := Ap.mk (Ow.live o42_89) (Ow.fr o66_105)
                  have ap_s48_93_s66_105 : Ap s48_93.ownBlock s66_105.ownBlock := Ap.mk (Ow.live o48_93) (Ow.fr o66_105)
                  have ap_s50_93_s66_105 : Ap s50_93.ownBlock s66_105.ownBlock := Ap.mk (Ow.live o50_93) (Ow.fr o66_105)
                  have fr_s66_105 : Fr w.heap.size s66_105.ownBlock := Fr.le (Ow.fr o66_105) e0.size
                  replace o66_105 := Ow.base o66_105 e0.size
                  have xs1 := x1.size
                  have e0 := e0.trans x1
                  have o42_89 := o42_89.ext x1
                  have o48_93 := o48_93.ext x1
                  have o50_93 := o50_93.ext x1
                  have rs51_94 := rs51_94.ext x1
                  clear x1
                  refine PremP.nil ?_
                  refine J.s_eff rfl (Ye.call cl10 rfl (Open_ok (Ow.rd o42_89) (Bs.slc (Ow.rd o42_89) (by decide) (by simp only [List.length_replicate, List.length_drop, List.length_take]; omega)) (Rd.nilM (fun x : UInt8 => B x) _) (Ow.rd o66_105))) rfl ?_
                  rintro _ w106 ⟨s67_106, rfl, rs67_106, x1⟩
                  have e0 := e0.trans x1
                  have o42_89 := o42_89.ext x1
                  have o48_93 := o48_93.ext x1
                  have o50_93 := o50_93.ext x1
                  have rs51_94 := rs51_94.ext x1
                  have o66_105 := o66_105.ext x1
                  clear x1
                  refine J.s_op rfl (fun _ => Yd.move rfl) rfl ?_
                  refine J.s_op rfl (fun _ => Yd.extract rfl rfl) rfl ?_
                  refine J.s_op rfl (fun _ => Yd.extract rfl rfl) rfl ?_
                  refine J.s_op rfl (fun _ => Yd.assign rfl) rfl ?_
                  refine J.s_op rfl (fun _ => Yd.assign rfl) rfl ?_
                  refine J.s_nil ?_
                  refine J.n_np ?_
                  refine J.n_then ?_
                  refine J.seq ?_
                  refine J.region ?_
                  refine J.op (Yd.move rfl) rfl ?_
                  refine J.op (Yd.move rfl) rfl ?_
                  refine J.op (Yd.eql rfl rfl) rfl ?_
                  refine J.op (Yd.move rfl) rfl ?_
                  refine J.know (t := 73) (v' := .bool true) rfl (tt (by first | exact sealE_big (by simp only [List.length_replicate, List.length_drop, List.length_take]; omega) (by simp only [List.length_replicate, List.length_drop, List.length_take]; omega) (by simp only [List.length_replicate, List.length_drop, List.length_take]; omega) | exact sealE_ok (by simp only [List.length_replicate, List.length_drop, List.length_take]; omega) (by simp only [List.length_replicate, List.length_drop, List.length_take]; omega) (by simp only [List.length_replicate, List.length_drop, List.length_take]; omega))) ?_
                  refine J.op_g rfl rfl rfl (Yd.move rfl) rfl ?_
                  refine J.op_g rfl rfl rfl (Yd.neq rfl rfl) rfl ?_
                  refine J.op_g rfl rfl rfl (Yd.move rfl) rfl ?_
                  refine J.split_dec (t := 76) rfl (fun h9 => ?_) (fun h9 => ?_)
                  · skip
                    refine J.not_g rfl rfl rfl rfl rfl ?_
                    refine J.not_g rfl rfl rfl rfl rfl ?_
                    refine J.not_g rfl rfl rfl rfl rfl ?_
                    refine J.not_g rfl rfl rfl rfl rfl ?_
                    refine J.not_g rfl rfl rfl rfl rfl ?_
                    refine J.op_g rfl rfl rfl (Yd.pick_t rfl rfl) rfl ?_
                    refine J.op (Yd.pick_t rfl rfl) rfl ?_
                    refine J.op (Yd.move rfl) rfl ?_
                    refine J.op_g rfl rfl rfl (Yd.move rfl) rfl ?_
                    refine J.op_g rfl rfl rfl (Yd.eql rfl rfl) rfl ?_
                    refine J.op (Yd.pick_t rfl rfl) rfl ?_
                    refine J.op (Yd.move rfl) rfl ?_
                    refine J.know (t := 88) (v' := .bool true) rfl (tt (by exact openE_bad (by simp only [List.length_replicate, List.length_drop, List.length_take]; omega) (by simp only [List.length_replicate, List.length_drop, List.length_take]; omega) (by simp only [List.length_replicate, List.length_nil]; omega) (.inl (by simp only [List.length_replicate, List.length_drop, List.length_take]; omega)))) ?_
                    refine J.eff_g rfl rfl rfl (Ye.call cl7 rfl (awake_ok)) rfl ?_
                    rintro _ w107 ⟨rfl, x1⟩
                    have e0 := e0.trans x1
                    have o42_89 := o42_89.ext x1
                    have o48_93 := o48_93.ext x1
                    have o50_93 := o50_93.ext x1
                    have rs51_94 := rs51_94.ext x1
                    have o66_105 := o66_105.ext x1
                    have rs67_106 := rs67_106.ext x1
                    clear x1
                    refine J.op (Yd.pick_t rfl rfl) rfl ?_
                    refine J.op (Yd.assign rfl) rfl ?_
                    refine J.nil ?_
                    refine J.n_then ?_
                    refine J.ret ?_
                    exact J.ret1 rfl rfl (⟨_, rfl, rfl, e0⟩)
                  · skip
                    refine J.op_g rfl rfl rfl (Yd.move rfl) rfl ?_
                    refine J.op_g rfl rfl rfl (Yd.len_b Try.underlying22 rfl rs51_94) rfl ?_
                    refine J.op_g rfl rfl rfl (Yd.move rfl) rfl ?_
                    refine J.op_g rfl rfl rfl (Yd.add rfl rfl (by first | omega | (simp only [List.length_map, List.length_replicate, List.length_drop, List.length_take] <;> omega) | (simp <;> omega))) rfl ?_
                    refine J.op_g rfl rfl rfl (Yd.eql rfl rfl) rfl ?_
                    refine J.op_g rfl rfl rfl (Yd.pick_f rfl rfl) rfl ?_
                    refine J.op (Yd.pick_t rfl rfl) rfl ?_
                    refine J.op (Yd.move rfl) rfl ?_
                    refine J.know (t := 84) (v' := .bool true) rfl (tt (by rw [sealL_len (Classical.not_not.1 h9), List.length_replicate]; omega)) ?_
                    refine J.op_g rfl rfl rfl (Yd.move rfl) rfl ?_
                    refine J.op_g rfl rfl rfl (Yd.eql rfl rfl) rfl ?_
                    refine J.op (Yd.pick_t rfl rfl) rfl ?_
                    refine J.op (Yd.move rfl) rfl ?_
                    refine J.know (t := 88) (v' := .bool true) rfl (tt (by exact openE_bad (by simp only [List.length_replicate, List.length_drop, List.length_take]; omega) (by simp only [List.length_replicate, List.length_drop, List.length_take]; omega) (by simp only [List.length_replicate, List.length_nil]; omega) (.inl (by simp only [List.length_replicate, List.length_drop, List.length_take]; omega)))) ?_
                    refine J.eff_g rfl rfl rfl (Ye.call cl7 rfl (awake_ok)) rfl ?_
                    rintro _ w108 ⟨rfl, x1⟩
                    have e0 := e0.trans x1
                    have o42_89 := o42_89.ext x1
                    have o48_93 := o48_93.ext x1
                    have o50_93 := o50_93.ext x1
                    have rs51_94 := rs51_94.ext x1
                    have o66_105 := o66_105.ext x1
                    have rs67_106 := rs67_106.ext x1
                    clear x1
                    refine J.op (Yd.pick_t rfl rfl) rfl ?_
                    refine J.op (Yd.assign rfl) rfl ?_
                    refine J.nil ?_
                    refine J.n_then ?_
                    refine J.ret ?_
                    exact J.ret1 rfl rfl (⟨_, rfl, rfl, e0⟩)
                · skip
                  refine J.skip ?_
                  refine J.n_then ?_
                  refine J.seq ?_
                  refine J.regionA [(0, true), (1, true), (3, true)] [(2, Asr.v 63 (slc s42_89 0 (12 : Int).toNat)), (4, Asr.v 65 (I (n % 32))), (5, Asr.own 66 w94.heap.size 5 (((List.replicate (n % 32).toNat (0 : UInt8)).map fun x => B x)))] [2, 4, 5] [63, 65, 66] [[], [], [1]] [(6, false), (7, true), (8, true), (9, true), (10, true), (11, true)] rfl rfl mix (by kernel_rfl) ?_
                  refine J.s_op rfl (fun _ => Yd.move rfl) rfl ?_
                  refine J.s_op rfl (fun _ => Yd.move rfl) rfl ?_
                  refine J.s_op rfl (fun _ => Yd.move rfl) rfl ?_
                  refine J.s_nil ?_
                  refine J.a_in [0, 1, 2] rfl (by rfl) ⟨?_, ?_, ?_, trivial⟩ ?_
                  · skip
                    intro w109 x1
                    have xs1 := x1.size
                    have e0 := e0.trans x1
                    have o42_89 := o42_89.ext x1
                    have o48_93 := o48_93.ext x1
                    have o50_93 := o50_93.ext x1
                    have rs51_94 := rs51_94.ext x1
                    clear x1
                    refine PremP.nil ?_
                    exact OpYe.val rfl (Yd.slcH Try.underlying22 ti5 rfl (Ow.rd o42_89) rfl (by first | omega | (simp only [List.length_map, List.length_replicate, List.length_drop, List.length_take] <;> omega) | (simp <;> omega)))
                  · skip
                    intro w110 x1
                    have xs1 := x1.size
                    have e0 := e0.trans x1
                    have o42_89 := o42_89.ext x1
                    have o48_93 := o48_93.ext x1
                    have o50_93 := o50_93.ext x1
                    have rs51_94 := rs51_94.ext x1
                    clear x1
                    refine PremP.nil ?_
                    exact OpYe.mk rfl ((Ye.call cl15 rfl (Round_ok (by omega) (by omega))).mono fun v w2 h => ⟨⟨(), h.1, trivial⟩, h.2⟩)
                  · skip
                    intro w111 x1
                    refine PremP.v rfl ?_
                    have xs1 := x1.size
                    have e0 := e0.trans x1
                    have o42_89 := o42_89.ext x1
                    have o48_93 := o48_93.ext x1
                    have o50_93 := o50_93.ext x1
                    have rs51_94 := rs51_94.ext x1
                    clear x1
                    refine PremP.nil ?_
                    exact OpYe.mk rfl ((Ye.make (base := w111.heap.size) Try.underlying22 ti5 rfl rfl (by first | omega | (simp only [List.length_map, List.length_replicate, List.length_drop, List.length_take] <;> omega) | (simp <;> omega)) (by first | omega | (simp only [List.length_map, List.length_replicate, List.length_drop, List.length_take] <;> omega) | (simp <;> omega)) (by unfold maxLen; omega) rfl (Nat.le_refl _)).mono fun v w2 h => ⟨⟨v, rfl, by have h9 := Ow.base h.1 xs1; rw [rep_B] at h9; skip; exact h9⟩, h.2⟩)
                  intro w112 x1
                  refine PremP.v rfl ?_
                  refine PremP.v rfl ?_
                  refine PremP.own rfl fun s66_112 o66_112 => ?_
                  have o66_112b := o66_112
                  have ap_s42_89_s66_112 : Ap s42_89.ownBlock s66_112.ownBlock := Ap.mk (Ow.live o42_89) (Ow.fr o66_112)
                  have ap_s48_93_s66_112 : Ap s48_93.ownBlock s66_112.ownBlock := Ap.mk (Ow.live o48_93) (Ow.fr o66_112)
                  have ap_s50_93_s66_112 : Ap s50_93.ownBlock s66_112.ownBlock := Ap.mk (Ow.live o50_93) (Ow.fr o66_112)
                  have fr_s66_112 : Fr w.heap.size s66_112.ownBlock := Fr.le (Ow.fr o66_112) e0.size
                  replace o66_112 := Ow.base o66_112 e0.size
                  have xs1 := x1.size
                  have e0 := e0.trans x1
                  have o42_89 := o42_89.ext x1
                  have o48_93 := o48_93.ext x1
                  have o50_93 := o50_93.ext x1
                  have rs51_94 := rs51_94.ext x1
                  clear x1
                  refine PremP.nil ?_
                  refine J.s_eff rfl (Ye.call cl10 rfl (Open_ok (Ow.rd o42_89) (Bs.slc (Ow.rd o42_89) (by decide) (by simp only [List.length_replicate, List.length_drop, List.length_take]; omega)) (Rd.nilM (fun x : UInt8 => B x) _) (Ow.rd o66_112))) rfl ?_
                  rintro _ w113 ⟨s67_113, rfl, rs67_113, x1⟩
                  have e0 := e0.trans x1
                  have o42_89 := o42_89.ext x1
                  have o48_93 := o48_93.ext x1
                  have o50_93 := o50_93.ext x1
                  have rs51_94 := rs51_94.ext x1
                  have o66_112 := o66_112.ext x1
                  clear x1
                  refine J.s_op rfl (fun _ => Yd.move rfl) rfl ?_
                  refine J.s_op rfl (fun _ => Yd.extract rfl rfl) rfl ?_
                  refine J.s_op rfl (fun _ => Yd.extract rfl rfl) rfl ?_
                  refine J.s_op rfl (fun _ => Yd.assign rfl) rfl ?_
                  refine J.s_op rfl (fun _ => Yd.assign rfl) rfl ?_
                  refine J.s_nil ?_
                  refine J.n_np ?_
                  refine J.n_then ?_
                  refine J.seq ?_
                  refine J.region ?_
                  refine J.op (Yd.move rfl) rfl ?_
                  refine J.op (Yd.move rfl) rfl ?_
                  refine J.op (Yd.eql rfl rfl) rfl ?_
                  refine J.op (Yd.move rfl) rfl ?_
                  refine J.know (t := 73) (v' := .bool true) rfl (tt (by first | exact sealE_big (by simp only [List.length_replicate, List.length_drop, List.length_take]; omega) (by simp only [List.length_replicate, List.length_drop, List.length_take]; omega) (by simp only [List.length_replicate, List.length_drop, List.length_take]; omega) | exact sealE_ok (by simp only [List.length_replicate, List.length_drop, List.length_take]; omega) (by simp only [List.length_replicate, List.length_drop, List.length_take]; omega) (by simp only [List.length_replicate, List.length_drop, List.length_take]; omega))) ?_
                  refine J.op_g rfl rfl rfl (Yd.move rfl) rfl ?_
                  refine J.op_g rfl rfl rfl (Yd.neq rfl rfl) rfl ?_
                  refine J.op_g rfl rfl rfl (Yd.move rfl) rfl ?_
                  refine J.split_dec (t := 76) rfl (fun h9 => ?_) (fun h9 => ?_)
                  · skip
                    refine J.not_g rfl rfl rfl rfl rfl ?_
                    refine J.not_g rfl rfl rfl rfl rfl ?_
                    refine J.not_g rfl rfl rfl rfl rfl ?_
                    refine J.not_g rfl rfl rfl rfl rfl ?_
                    refine J.not_g rfl rfl rfl rfl rfl ?_
                    refine J.op_g rfl rfl rfl (Yd.pick_t rfl rfl) rfl ?_
                    refine J.op (Yd.pick_t rfl rfl) rfl ?_
                    refine J.op (Yd.move rfl) rfl ?_
                    refine J.op_g rfl rfl rfl (Yd.move rfl) rfl ?_
                    refine J.op_g rfl rfl rfl (Yd.eql rfl rfl) rfl ?_
                    refine J.op (Yd.pick_t rfl rfl) rfl ?_
                    refine J.op (Yd.move rfl) rfl ?_
                    refine J.know (t := 88) (v' := .bool true) rfl (tt (by exact openE_bad (by simp only [List.length_replicate, List.length_drop, List.length_take]; omega) (by simp only [List.length_replicate, List.length_drop, List.length_take]; omega) (by simp only [List.length_replicate, List.length_nil]; omega) (.inl (by simp only [List.length_replicate, List.length_drop, List.length_take]; omega)))) ?_
                    refine J.eff_g rfl rfl rfl (Ye.call cl7 rfl (awake_ok)) rfl ?_
                    rintro _ w114 ⟨rfl, x1⟩
                    have e0 := e0.trans x1
                    have o42_89 := o42_89.ext x1
                    have o48_93 := o48_93.ext x1
                    have o50_93 := o50_93.ext x1
                    have rs51_94 := rs51_94.ext x1
                    have o66_112 := o66_112.ext x1
                    have rs67_113 := rs67_113.ext x1
                    clear x1
                    refine J.op (Yd.pick_t rfl rfl) rfl ?_
                    refine J.op (Yd.assign rfl) rfl ?_
                    refine J.nil ?_
                    refine J.n_then ?_
                    refine J.ret ?_
                    exact J.ret1 rfl rfl (⟨_, rfl, rfl, e0⟩)
                  · skip
                    refine J.op_g rfl rfl rfl (Yd.move rfl) rfl ?_
                    refine J.op_g rfl rfl rfl (Yd.len_b Try.underlying22 rfl rs51_94) rfl ?_
                    refine J.op_g rfl rfl rfl (Yd.move rfl) rfl ?_
                    refine J.op_g rfl rfl rfl (Yd.add rfl rfl (by first | omega | (simp only [List.length_map, List.length_replicate, List.length_drop, List.length_take] <;> omega) | (simp <;> omega))) rfl ?_
                    refine J.op_g rfl rfl rfl (Yd.eql rfl rfl) rfl ?_
                    refine J.op_g rfl rfl rfl (Yd.pick_f rfl rfl) rfl ?_
                    refine J.op (Yd.pick_t rfl rfl) rfl ?_
                    refine J.op (Yd.move rfl) rfl ?_
                    refine J.know (t := 84) (v' := .bool true) rfl (tt (by rw [sealL_len (Classical.not_not.1 h9), List.length_replicate]; omega)) ?_
                    refine J.op_g rfl rfl rfl (Yd.move rfl) rfl ?_
                    refine J.op_g rfl rfl rfl (Yd.eql rfl rfl) rfl ?_
                    refine J.op (Yd.pick_t rfl rfl) rfl ?_
                    refine J.op (Yd.move rfl) rfl ?_
                    refine J.know (t := 88) (v' := .bool true) rfl (tt (by exact openE_bad (by simp only [List.length_replicate, List.length_drop, List.length_take]; omega) (by simp only [List.length_replicate, List.length_drop, List.length_take]; omega) (by simp only [List.length_replicate, List.length_nil]; omega) (.inl (by simp only [List.length_replicate, List.length_drop, List.length_take]; omega)))) ?_
                    refine J.eff_g rfl rfl rfl (Ye.call cl7 rfl (awake_ok)) rfl ?_
                    rintro _ w115 ⟨rfl, x1⟩
                    have e0 := e0.trans x1
                    have o42_89 := o42_89.ext x1
                    have o48_93 := o48_93.ext x1
                    have o50_93 := o50_93.ext x1
                    have rs51_94 := rs51_94.ext x1
                    have o66_112 := o66_112.ext x1
                    have rs67_113 := rs67_113.ext x1
                    clear x1
                    refine J.op (Yd.pick_t rfl rfl) rfl ?_
                    refine J.op (Yd.assign rfl) rfl ?_
                    refine J.nil ?_
                    refine J.n_then ?_
                    refine J.ret ?_
                    exact J.ret1 rfl rfl (⟨_, rfl, rfl, e0⟩)
end Ytpkpicnldpbomaa
end Go.Proofs
