import Derived.Test.YtgglilhdmioelaaT
import Derived.Test.YtgglilhdmioelaaX18
import Derived.Test.YtgglilhdmioelaaM5
set_option linter.unusedVariables false
set_option linter.unusedSimpArgs false
set_option maxRecDepth 100000
set_option maxHeartbeats 4000000
namespace Go.Proofs
open Go.X Go.RowKit
namespace Ytgglilhdmioelaa
theorem MacShorter_ok {a u v : Value} {salt ikm inf : List UInt8} {m n : Int} {w : World} (ha : Bs w a salt) (hb : Bs w u ikm) (hi : Bs w v inf) : C Try.prog 5 [a, u, v, I m, I n] w (Ret fun v w' => v = .bool true ∧ Ext w w') := by
  have e0 := Ext.refl w
  refine C.enter Try.func5 rfl Try.ntmps5 rfl ?_
  refine J.seq ?_
  refine J.region ?_
  refine J.op (Yd.assign rfl) rfl ?_
  refine J.nil ?_
  refine J.n_then ?_
  refine J.seq ?_
  refine J.seq ?_
  refine J.region ?_
  refine J.op (Yd.move rfl) rfl ?_
  refine J.op (Yd.len_b Try.underlying22 rfl ha) rfl ?_
  refine J.op (Yd.gtr rfl rfl) rfl ?_
  refine J.op (Yd.move rfl) rfl ?_
  refine J.split_dec (t := 18) rfl (fun h1 => ?_) (fun h1 => ?_)
  · skip
    refine J.not_g rfl rfl rfl rfl rfl ?_
    refine J.not_g rfl rfl rfl rfl rfl ?_
    refine J.not_g rfl rfl rfl rfl rfl ?_
    refine J.op (Yd.pick_t rfl rfl) rfl ?_
    refine J.op (Yd.move rfl) rfl ?_
    refine J.not_g rfl rfl rfl rfl rfl ?_
    refine J.not_g rfl rfl rfl rfl rfl ?_
    refine J.not_g rfl rfl rfl rfl rfl ?_
    refine J.op (Yd.pick_t rfl rfl) rfl ?_
    refine J.op (Yd.move rfl) rfl ?_
    refine J.not_g rfl rfl rfl rfl rfl ?_
    refine J.not_g rfl rfl rfl rfl rfl ?_
    refine J.op (Yd.pick_t rfl rfl) rfl ?_
    refine J.op (Yd.move rfl) rfl ?_
    refine J.not_g rfl rfl rfl rfl rfl ?_
    refine J.not_g rfl rfl rfl rfl rfl ?_
    refine J.not_g rfl rfl rfl rfl rfl ?_
    refine J.op (Yd.pick_t rfl rfl) rfl ?_
    refine J.op (Yd.move rfl) rfl ?_
    refine J.not_g rfl rfl rfl rfl rfl ?_
    refine J.not_g rfl rfl rfl rfl rfl ?_
    refine J.op (Yd.pick_t rfl rfl) rfl ?_
    refine J.nil ?_
    refine J.n_then ?_
    refine J.cond_true rfl ?_
    refine J.seq ?_
    refine J.region ?_
    refine J.eff (Ye.call cl7 rfl (awake_ok)) rfl ?_
    rintro _ w1 ⟨rfl, x1⟩
    have e0 := e0.trans x1
    clear x1
    refine J.op (Yd.assign rfl) rfl ?_
    refine J.nil ?_
    refine J.n_then ?_
    refine J.ret ?_
    refine J.r_then ?_
    exact J.ret1 rfl rfl (⟨_, rfl, rfl, e0⟩)
  · skip
    refine J.op_g rfl rfl rfl (Yd.move rfl) rfl ?_
    refine J.op_g rfl rfl rfl (Yd.len_b Try.underlying22 rfl hb) rfl ?_
    refine J.op_g rfl rfl rfl (Yd.gtr rfl rfl) rfl ?_
    refine J.op (Yd.pick_f rfl rfl) rfl ?_
    refine J.op (Yd.move rfl) rfl ?_
    refine J.split_dec (t := 23) rfl (fun h2 => ?_) (fun h2 => ?_)
    · skip
      refine J.not_g rfl rfl rfl rfl rfl ?_
      refine J.not_g rfl rfl rfl rfl rfl ?_
      refine J.not_g rfl rfl rfl rfl rfl ?_
      refine J.op (Yd.pick_t rfl rfl) rfl ?_
      refine J.op (Yd.move rfl) rfl ?_
      refine J.not_g rfl rfl rfl rfl rfl ?_
      refine J.not_g rfl rfl rfl rfl rfl ?_
      refine J.op (Yd.pick_t rfl rfl) rfl ?_
      refine J.op (Yd.move rfl) rfl ?_
      refine J.not_g rfl rfl rfl rfl rfl ?_
      refine J.not_g rfl rfl rfl rfl rfl ?_
      refine J.not_g rfl rfl rfl rfl rfl ?_
      refine J.op (Yd.pick_t rfl rfl) rfl ?_
      refine J.op (Yd.move rfl) rfl ?_
      refine J.not_g rfl rfl rfl rfl rfl ?_
      refine J.not_g rfl rfl rfl rfl rfl ?_
      refine J.op (Yd.pick_t rfl rfl) rfl ?_
      refine J.nil ?_
      refine J.n_then ?_
      refine J.cond_true rfl ?_
      refine J.seq ?_
      refine J.region ?_
      refine J.eff (Ye.call cl7 rfl (awake_ok)) rfl ?_
      rintro _ w2 ⟨rfl, x1⟩
      have e0 := e0.trans x1
      clear x1
      refine J.op (Yd.assign rfl) rfl ?_
      refine J.nil ?_
      refine J.n_then ?_
      refine J.ret ?_
      refine J.r_then ?_
      exact J.ret1 rfl rfl (⟨_, rfl, rfl, e0⟩)
    · skip
      refine J.op_g rfl rfl rfl (Yd.move rfl) rfl ?_
      refine J.op_g rfl rfl rfl (Yd.len_b Try.underlying22 rfl hi) rfl ?_
      refine J.op_g rfl rfl rfl (Yd.gtr rfl rfl) rfl ?_
      refine J.op (Yd.pick_f rfl rfl) rfl ?_
      refine J.op (Yd.move rfl) rfl ?_
      refine J.split_dec (t := 28) rfl (fun h3 => ?_) (fun h3 => ?_)
      · skip
        refine J.not_g rfl rfl rfl rfl rfl ?_
        refine J.not_g rfl rfl rfl rfl rfl ?_
        refine J.op (Yd.pick_t rfl rfl) rfl ?_
        refine J.op (Yd.move rfl) rfl ?_
        refine J.not_g rfl rfl rfl rfl rfl ?_
        refine J.not_g rfl rfl rfl rfl rfl ?_
        refine J.not_g rfl rfl rfl rfl rfl ?_
        refine J.op (Yd.pick_t rfl rfl) rfl ?_
        refine J.op (Yd.move rfl) rfl ?_
        refine J.not_g rfl rfl rfl rfl rfl ?_
        refine J.not_g rfl rfl rfl rfl rfl ?_
        refine J.op (Yd.pick_t rfl rfl) rfl ?_
        refine J.nil ?_
        refine J.n_then ?_
        refine J.cond_true rfl ?_
        refine J.seq ?_
        refine J.region ?_
        refine J.eff (Ye.call cl7 rfl (awake_ok)) rfl ?_
        rintro _ w3 ⟨rfl, x1⟩
        have e0 := e0.trans x1
        clear x1
        refine J.op (Yd.assign rfl) rfl ?_
        refine J.nil ?_
        refine J.n_then ?_
        refine J.ret ?_
        refine J.r_then ?_
        exact J.ret1 rfl rfl (⟨_, rfl, rfl, e0⟩)
      · skip
        refine J.op_g rfl rfl rfl (Yd.move rfl) rfl ?_
        refine J.op_g rfl rfl rfl (Yd.lss rfl rfl) rfl ?_
        refine J.op (Yd.pick_f rfl rfl) rfl ?_
        refine J.op (Yd.move rfl) rfl ?_
        refine J.split_dec (t := 32) rfl (fun h4 => ?_) (fun h4 => ?_)
        · skip
          refine J.not_g rfl rfl rfl rfl rfl ?_
          refine J.not_g rfl rfl rfl rfl rfl ?_
          refine J.not_g rfl rfl rfl rfl rfl ?_
          refine J.op (Yd.pick_t rfl rfl) rfl ?_
          refine J.op (Yd.move rfl) rfl ?_
          refine J.not_g rfl rfl rfl rfl rfl ?_
          refine J.not_g rfl rfl rfl rfl rfl ?_
          refine J.op (Yd.pick_t rfl rfl) rfl ?_
          refine J.nil ?_
          refine J.n_then ?_
          refine J.cond_true rfl ?_
          refine J.seq ?_
          refine J.region ?_
          refine J.eff (Ye.call cl7 rfl (awake_ok)) rfl ?_
          rintro _ w4 ⟨rfl, x1⟩
          have e0 := e0.trans x1
          clear x1
          refine J.op (Yd.assign rfl) rfl ?_
          refine J.nil ?_
          refine J.n_then ?_
          refine J.ret ?_
          refine J.r_then ?_
          exact J.ret1 rfl rfl (⟨_, rfl, rfl, e0⟩)
        · skip
          refine J.op_g rfl rfl rfl (Yd.move rfl) rfl ?_
          refine J.op_g rfl rfl rfl (Yd.move rfl) rfl ?_
          refine J.op_g rfl rfl rfl (Yd.lss rfl rfl) rfl ?_
          refine J.op (Yd.pick_f rfl rfl) rfl ?_
          refine J.op (Yd.move rfl) rfl ?_
          refine J.split_dec (t := 37) rfl (fun h5 => ?_) (fun h5 => ?_)
          · skip
            refine J.not_g rfl rfl rfl rfl rfl ?_
            refine J.not_g rfl rfl rfl rfl rfl ?_
            refine J.op (Yd.pick_t rfl rfl) rfl ?_
            refine J.nil ?_
            refine J.n_then ?_
            refine J.cond_true rfl ?_
            refine J.seq ?_
            refine J.region ?_
            refine J.eff (Ye.call cl7 rfl (awake_ok)) rfl ?_
            rintro _ w5 ⟨rfl, x1⟩
            have e0 := e0.trans x1
            clear x1
            refine J.op (Yd.assign rfl) rfl ?_
            refine J.nil ?_
            refine J.n_then ?_
            refine J.ret ?_
            refine J.r_then ?_
            exact J.ret1 rfl rfl (⟨_, rfl, rfl, e0⟩)
          · skip
            refine J.op_g rfl rfl rfl (Yd.move rfl) rfl ?_
            refine J.op_g rfl rfl rfl (Yd.gtr rfl rfl) rfl ?_
            refine J.op (Yd.pick_f rfl rfl) rfl ?_
            refine J.nil ?_
            refine J.n_then ?_
            refine J.cond_dec rfl (fun hc0 => ?_) (fun hc0 => ?_)
            · skip
              refine J.seq ?_
              refine J.region ?_
              refine J.eff (Ye.call cl7 rfl (awake_ok)) rfl ?_
              rintro _ w6 ⟨rfl, x1⟩
              have e0 := e0.trans x1
              clear x1
              refine J.op (Yd.assign rfl) rfl ?_
              refine J.nil ?_
              refine J.n_then ?_
              refine J.ret ?_
              refine J.r_then ?_
              exact J.ret1 rfl rfl (⟨_, rfl, rfl, e0⟩)
            · skip
              have hq1 : (exQ (macL salt ikm) inf m).length = m.toNat := exQ_len ⟨by omega, by omega⟩
              have hq2 : (exQ (macL salt ikm) inf n).length = n.toNat := exQ_len ⟨by omega, by omega⟩
              refine J.skip ?_
              refine J.n_then ?_
              refine J.seq ?_
              refine J.region ?_
              refine J.eff (Ye.make (base := w.heap.size) Try.underlying22 ti5 rfl rfl (by first | omega | (simp only [Int.toNat_natCast]; omega) | (simp only [List.length_map, List.length_drop, List.length_take, List.length_append, List.length_replicate, macL_len]; omega) | (simp [macL_len] <;> omega)) (by first | omega | (simp only [Int.toNat_natCast]; omega) | (simp only [List.length_map, List.length_drop, List.length_take, List.length_append, List.length_replicate, macL_len]; omega) | (simp [macL_len] <;> omega)) (by unfold maxLen; omega) rfl (Nat.le_refl _)) rfl ?_
              rintro s42_7 w7 ⟨o42_7, x1⟩
              have fr_s42_7 : Fr w.heap.size s42_7.ownBlock := Fr.le (Ow.fr o42_7) e0.size
              replace o42_7 := Ow.base o42_7 e0.size
              have e0 := e0.trans x1
              clear x1
              rw [rep_B] at o42_7
              refine J.op (Yd.move rfl) rfl ?_
              refine J.eff (Ye.appendS Try.underlying22 ti5 rfl rfl rfl rfl o42_7 (Rd.ext ha e0) (fun _ => rfl) (by first | omega | (simp only [Int.toNat_natCast]; omega) | (simp only [List.length_map, List.length_drop, List.length_take, List.length_append, List.length_replicate, macL_len]; omega) | (simp [macL_len] <;> omega)) e0.size) rfl ?_
              rintro s44_8 w8 ⟨o44_8, hg, hsf⟩
              have fr_s44_8 : Fr w.heap.size s44_8.ownBlock := Fr.sf fr_s42_7 hsf e0.size
              have e0 := Ext.gbk e0 fr_s42_7 hg
              clear hg hsf
              refine J.op (Yd.assign rfl) rfl ?_
              refine J.nil ?_
              refine J.n_then ?_
              refine J.seq ?_
              refine J.region ?_
              refine J.op (Yd.move rfl) rfl ?_
              refine J.op (Yd.move rfl) rfl ?_
              refine J.op (Yd.move rfl) rfl ?_
              refine J.op (Yd.move rfl) rfl ?_
              refine J.eff (Ye.call cl13 rfl (Derive_ok (Rd.ext ha e0) (Rd.ext hb e0) (Rd.ext hi e0) (by first | omega | (simp only [List.length_append, List.length_replicate, List.flatten_cons, List.flatten_nil, List.append_nil, padL_len, sha256L_len, macL_len, List.length_nil, List.length_cons, Int.toNat_natCast]; omega) | (simp <;> omega)) (by first | omega | (simp only [List.length_append, List.length_replicate, List.flatten_cons, List.flatten_nil, List.append_nil, padL_len, sha256L_len, macL_len, List.length_nil, List.length_cons, Int.toNat_natCast]; omega) | (simp <;> omega)) (by first | omega | (simp only [List.length_append, List.length_replicate, List.flatten_cons, List.flatten_nil, List.append_nil, padL_len, sha256L_len, macL_len, List.length_nil, List.length_cons, Int.toNat_natCast]; omega) | (simp <;> omega)))) rfl ?_
              rintro s49_9 w9 ⟨rs49_9, x1⟩
              have e0 := e0.trans x1
              have o44_8 := o44_8.ext x1
              clear x1
              refine J.op (Yd.assign rfl) rfl ?_
              refine J.nil ?_
              refine J.n_then ?_
              refine J.seq ?_
              refine J.region ?_
              refine J.op (Yd.move rfl) rfl ?_
              refine J.op (Yd.move rfl) rfl ?_
              refine J.op (Yd.move rfl) rfl ?_
              refine J.op (Yd.move rfl) rfl ?_
              refine J.eff (Ye.call cl13 rfl (Derive_ok (Rd.ext ha e0) (Rd.ext hb e0) (Rd.ext hi e0) (by first | omega | (simp only [List.length_append, List.length_replicate, List.flatten_cons, List.flatten_nil, List.append_nil, padL_len, sha256L_len, macL_len, List.length_nil, List.length_cons, Int.toNat_natCast]; omega) | (simp <;> omega)) (by first | omega | (simp only [List.length_append, List.length_replicate, List.flatten_cons, List.flatten_nil, List.append_nil, padL_len, sha256L_len, macL_len, List.length_nil, List.length_cons, Int.toNat_natCast]; omega) | (simp <;> omega)) (by first | omega | (simp only [List.length_append, List.length_replicate, List.flatten_cons, List.flatten_nil, List.append_nil, padL_len, sha256L_len, macL_len, List.length_nil, List.length_cons, Int.toNat_natCast]; omega) | (simp <;> omega)))) rfl ?_
              rintro s54_10 w10 ⟨rs54_10, x1⟩
              have e0 := e0.trans x1
              have o44_8 := o44_8.ext x1
              have rs49_9 := rs49_9.ext x1
              clear x1
              refine J.op (Yd.assign rfl) rfl ?_
              refine J.nil ?_
              refine J.n_then ?_
              refine J.seq ?_
              refine J.region ?_
              refine J.op (Yd.move rfl) rfl ?_
              refine J.eff (Ye.call cl14 rfl (Extract_ok (Rd.nilM (fun x : UInt8 => B x) _) (Rd.ext hb e0) (by first | omega | (simp only [List.length_append, List.length_replicate, List.flatten_cons, List.flatten_nil, List.append_nil, padL_len, sha256L_len, macL_len, List.length_nil, List.length_cons, Int.toNat_natCast]; omega) | (simp <;> omega)) (by first | omega | (simp only [List.length_append, List.length_replicate, List.flatten_cons, List.flatten_nil, List.append_nil, padL_len, sha256L_len, macL_len, List.length_nil, List.length_cons, Int.toNat_natCast]; omega) | (simp <;> omega)))) rfl ?_
              rintro s56_11 w11 ⟨os56_11, x1⟩
              have ap_s44_8_s56_11 : Ap s44_8.ownBlock s56_11.ownBlock := Ap.mk (Ow.live o44_8) (Ow.fr os56_11)
              have fr_s56_11 : Fr w.heap.size s56_11.ownBlock := Fr.le (Ow.fr os56_11) e0.size
              replace os56_11 := Ow.base os56_11 e0.size
              have e0 := e0.trans x1
              have o44_8 := o44_8.ext x1
              have rs49_9 := rs49_9.ext x1
              have rs54_10 := rs54_10.ext x1
              clear x1
              refine J.op (Yd.assign rfl) rfl ?_
              refine J.nil ?_
              refine J.n_then ?_
              refine J.seq ?_
              refine J.regionA [(0, true)] [(1, Asr.v 58 (I (((exQ (macL salt ikm) inf m)).length : Int))), (2, Asr.v 59 (I m)), (3, Asr.v 60 (.bool (decide (((exQ (macL salt ikm) inf m).length : Int) = m)))), (4, Asr.v 61 (.bool true)), (5, Asr.v 62 (s54_10)), (6, Asr.v 63 (I (((exQ (macL salt ikm) inf n)).length : Int))), (7, Asr.v 64 (I n)), (8, Asr.v 65 (.bool (decide (((exQ (macL salt ikm) inf n).length : Int) = n)))), (9, Asr.v 66 (.bool (decide (((exQ (macL salt ikm) inf n).length : Int) = n)))), (10, Asr.v 67 (.bool true)), (11, Asr.v 68 (s54_10)), (12, Asr.v 69 (I m)), (13, Asr.v 70 (slc s54_10 0 m.toNat)), (14, Asr.v 71 (Str (((exQ (macL salt ikm) inf n).take m.toNat).drop 0))), (15, Asr.v 72 (s49_9)), (16, Asr.v 73 (Str (exQ (macL salt ikm) inf m))), (17, Asr.v 74 (.bool (decide (((exQ (macL salt ikm) inf n).take m.toNat).drop 0 = (exQ (macL salt ikm) inf m))))), (18, Asr.v 75 (.bool (decide (((exQ (macL salt ikm) inf n).take m.toNat).drop 0 = (exQ (macL salt ikm) inf m))))), (19, Asr.v 76 (.bool true)), (20, Asr.v 77 (s56_11)), (21, Asr.v 78 (Str (macL [] ikm))), (22, Asr.own 79 w11.heap.size 5 ((List.replicate 32 (0 : UInt8)).map fun x => B x)), (23, Asr.v 80 (u)), (24, Asr.own 81 w11.heap.size 5 ((macL (List.replicate 32 (0 : UInt8)) ikm).map fun x => B x)), (25, Asr.v 82 (Str (macL (List.replicate 32 (0 : UInt8)) ikm))), (26, Asr.v 83 (.bool (decide (macL [] ikm = macL (List.replicate 32 (0 : UInt8)) ikm)))), (27, Asr.v 84 (.bool (decide (macL [] ikm = macL (List.replicate 32 (0 : UInt8)) ikm)))), (28, Asr.v 85 (.bool true)), (29, Asr.v 86 (s44_8)), (30, Asr.v 87 (u)), (31, Asr.rl 88 [u] [ikm]), (32, Asr.own 89 w11.heap.size 5 ((macL (List.replicate 65 (0 : UInt8) ++ salt) ([ikm] : List (List UInt8)).flatten).map fun x => B x)), (33, Asr.v 90 (Str (macL (List.replicate 65 (0 : UInt8) ++ salt) ([ikm] : List (List UInt8)).flatten))), (34, Asr.v 91 (s44_8)), (35, Asr.own 92 w11.heap.size 5 ((sha256L (List.replicate 65 (0 : UInt8) ++ salt)).map fun x => B x)), (36, Asr.v 93 (u)), (37, Asr.rl 94 [u] [ikm]), (38, Asr.own 95 w11.heap.size 5 ((macL (sha256L (List.replicate 65 (0 : UInt8) ++ salt)) ([ikm] : List (List UInt8)).flatten).map fun x => B x)), (39, Asr.v 96 (Str (macL (sha256L (List.replicate 65 (0 : UInt8) ++ salt)) ([ikm] : List (List UInt8)).flatten)))] [1, 2, 3, 4, 5, 6, 7, 8, 9, 10, 11, 12, 13, 14, 15, 16, 17, 18, 19, 20, 21, 22, 23, 24, 25, 26, 27, 28, 29, 30, 31, 32, 33, 34, 35, 36, 37, 38, 39] [58, 59, 60, 61, 62, 63, 64, 65, 66, 67, 68, 69, 70, 71, 72, 73, 74, 75, 76, 77, 78, 79, 80, 81, 82, 83, 84, 85, 86, 87, 88, 89, 90, 91, 92, 93, 94, 95, 96] [[], [], [0, 1], [0, 1, 2], [0, 1, 2, 3], [0, 1, 2, 3, 4], [0, 1, 2, 3], [0, 1, 2, 3, 4, 5, 6], [0, 1, 2, 3, 4, 5, 6, 7], [0, 1, 2, 3, 4, 5, 6, 7, 8], [0, 1, 2, 3, 4, 5, 6, 7, 8, 9], [0, 1, 2, 3, 4, 5, 6, 7, 8, 9], [0, 1, 2, 3, 4, 5, 6, 7, 8, 9, 10, 11], [0, 1, 2, 3, 4, 5, 6, 7, 8, 9, 10, 11, 12], [0, 1, 2, 3, 4, 5, 6, 7, 8, 9], [0, 1, 2, 3, 4, 5, 6, 7, 8, 9, 14], [0, 1, 2, 3, 4, 5, 6, 7, 8, 9, 10, 11, 12, 13, 14, 15], [0, 1, 2, 3, 4, 5, 6, 7, 8, 9, 10, 11, 12, 13, 14, 15, 16], [0, 1, 2, 3, 4, 5, 6, 7, 8, 9, 10, 11, 12, 13, 14, 15, 16, 17], [0, 1, 2, 3, 4, 5, 6, 7, 8, 9, 10, 11, 12, 13, 14, 15, 16, 17, 18], [0, 1, 2, 3, 4, 5, 6, 7, 8, 9, 10, 11, 12, 13, 14, 15, 16, 17, 18, 19], [0, 1, 2, 3, 4, 5, 6, 7, 8, 9, 10, 11, 12, 13, 14, 15, 16, 17, 18], [0, 1, 2, 3, 4, 5, 6, 7, 8, 9, 10, 11, 12, 13, 14, 15, 16, 17, 18], [0, 1, 2, 3, 4, 5, 6, 7, 8, 9, 10, 11, 12, 13, 14, 15, 16, 17, 18, 21, 22], [0, 1, 2, 3, 4, 5, 6, 7, 8, 9, 10, 11, 12, 13, 14, 15, 16, 17, 18, 21, 22, 23], [0, 1, 2, 3, 4, 5, 6, 7, 8, 9, 10, 11, 12, 13, 14, 15, 16, 17, 18, 19, 20, 21, 22, 23, 24], [0, 1, 2, 3, 4, 5, 6, 7, 8, 9, 10, 11, 12, 13, 14, 15, 16, 17, 18, 19, 20, 21, 22, 23, 24, 25], [0, 1, 2, 3, 4, 5, 6, 7, 8, 9, 10, 11, 12, 13, 14, 15, 16, 17, 18, 19, 20, 21, 22, 23, 24, 25, 26], [0, 1, 2, 3, 4, 5, 6, 7, 8, 9, 10, 11, 12, 13, 14, 15, 16, 17, 18, 19, 20, 21, 22, 23, 24, 25, 26, 27], [0, 1, 2, 3, 4, 5, 6, 7, 8, 9, 10, 11, 12, 13, 14, 15, 16, 17, 18, 19, 20, 21, 22, 23, 24, 25, 26, 27], [0, 1, 2, 3, 4, 5, 6, 7, 8, 9, 10, 11, 12, 13, 14, 15, 16, 17, 18, 19, 20, 21, 22, 23, 24, 25, 26, 27, 29], [0, 1, 2, 3, 4, 5, 6, 7, 8, 9, 10, 11, 12, 13, 14, 15, 16, 17, 18, 19, 20, 21, 22, 23, 24, 25, 26, 27, 28, 29, 30], [0, 1, 2, 3, 4, 5, 6, 7, 8, 9, 10, 11, 12, 13, 14, 15, 16, 17, 18, 19, 20, 21, 22, 23, 24, 25, 26, 27, 28, 29, 30, 31], [0, 1, 2, 3, 4, 5, 6, 7, 8, 9, 10, 11, 12, 13, 14, 15, 16, 17, 18, 19, 20, 21, 22, 23, 24, 25, 26, 27], [0, 1, 2, 3, 4, 5, 6, 7, 8, 9, 10, 11, 12, 13, 14, 15, 16, 17, 18, 19, 20, 21, 22, 23, 24, 25, 26, 27, 28, 29, 30, 31, 33], [0, 1, 2, 3, 4, 5, 6, 7, 8, 9, 10, 11, 12, 13, 14, 15, 16, 17, 18, 19, 20, 21, 22, 23, 24, 25, 26, 27], [0, 1, 2, 3, 4, 5, 6, 7, 8, 9, 10, 11, 12, 13, 14, 15, 16, 17, 18, 19, 20, 21, 22, 23, 24, 25, 26, 27, 35], [0, 1, 2, 3, 4, 5, 6, 7, 8, 9, 10, 11, 12, 13, 14, 15, 16, 17, 18, 19, 20, 21, 22, 23, 24, 25, 26, 27, 28, 29, 30, 31, 33, 34, 35, 36], [0, 1, 2, 3, 4, 5, 6, 7, 8, 9, 10, 11, 12, 13, 14, 15, 16, 17, 18, 19, 20, 21, 22, 23, 24, 25, 26, 27, 28, 29, 30, 31, 33, 34, 35, 36, 37]] [(40, true), (41, true), (42, true), (43, false), (44, true), (45, true)] rfl rfl mix (by kernel_rfl) ?_
              refine J.s_op rfl (fun _ => Yd.move rfl) rfl ?_
              refine J.s_nil ?_
              refine J.a_in [0, 1, 2, 3, 4, 5, 6, 7, 8, 9, 10, 11, 12, 13, 14, 15, 16, 17, 18, 19, 20, 21, 22, 23, 24, 25, 26, 27, 28, 29, 30, 31, 32, 33, 34, 35, 36, 37, 38] rfl (by rfl) ⟨?_, ?_, ?_, ?_, ?_, ?_, ?_, ?_, ?_, ?_, ?_, ?_, ?_, ?_, ?_, ?_, ?_, ?_, ?_, ?_, ?_, ?_, ?_, ?_, ?_, ?_, ?_, ?_, ?_, ?_, ?_, ?_, ?_, ?_, ?_, ?_, ?_, ?_, ?_, trivial⟩ ?_
              · skip
                intro w12 x1
                have xs1 := x1.size
                have e0 := e0.trans x1
                have o44_8 := o44_8.ext x1
                have rs49_9 := rs49_9.ext x1
                have rs54_10 := rs54_10.ext x1
                have os56_11 := os56_11.ext x1
                clear x1
                refine PremP.nil ?_
                exact OpYe.val rfl (Yd.len_b Try.underlying22 rfl rs49_9)
              · skip
                intro w13 x1
                have xs1 := x1.size
                have e0 := e0.trans x1
                have o44_8 := o44_8.ext x1
                have rs49_9 := rs49_9.ext x1
                have rs54_10 := rs54_10.ext x1
                have os56_11 := os56_11.ext x1
                clear x1
                refine PremP.nil ?_
                exact OpYe.val rfl (Yd.move rfl)
              · skip
                intro w14 x1
                refine PremP.v rfl ?_
                refine PremP.v rfl ?_
                have xs1 := x1.size
                have e0 := e0.trans x1
                have o44_8 := o44_8.ext x1
                have rs49_9 := rs49_9.ext x1
                have rs54_10 := rs54_10.ext x1
                have os56_11 := os56_11.ext x1
                clear x1
                refine PremP.nil ?_
                exact OpYe.val rfl (Yd.eql rfl rfl)
              · skip
                intro w15 x1
                refine PremP.v rfl ?_
                refine PremP.v rfl ?_
                refine PremP.v rfl ?_
                have xs1 := x1.size
                have e0 := e0.trans x1
                have o44_8 := o44_8.ext x1
                have rs49_9 := rs49_9.ext x1
                have rs54_10 := rs54_10.ext x1
                have os56_11 := os56_11.ext x1
                clear x1
                refine PremP.nil ?_
                exact OpYe.val rfl (Yd.move (congrArg some (show Value.bool (decide (((exQ (macL salt ikm) inf m).length : Int) = m)) = .bool true from tt (by rw [hq1]; omega))))
              · skip
                intro w16 x1
                refine PremP.v rfl ?_
                refine PremP.v rfl ?_
                refine PremP.v rfl ?_
                refine PremP.v rfl ?_
                have xs1 := x1.size
                have e0 := e0.trans x1
                have o44_8 := o44_8.ext x1
                have rs49_9 := rs49_9.ext x1
                have rs54_10 := rs54_10.ext x1
                have os56_11 := os56_11.ext x1
                clear x1
                refine PremP.nil ?_
                exact OpYe.valg rfl rfl rfl rfl (Yd.move rfl)
              · skip
                intro w17 x1
                refine PremP.v rfl ?_
                refine PremP.v rfl ?_
                refine PremP.v rfl ?_
                refine PremP.v rfl ?_
                refine PremP.v rfl ?_
                have xs1 := x1.size
                have e0 := e0.trans x1
                have o44_8 := o44_8.ext x1
                have rs49_9 := rs49_9.ext x1
                have rs54_10 := rs54_10.ext x1
                have os56_11 := os56_11.ext x1
                clear x1
                refine PremP.nil ?_
                exact OpYe.valg rfl rfl rfl rfl (Yd.len_b Try.underlying22 rfl rs54_10)
              · skip
                intro w18 x1
                refine PremP.v rfl ?_
                refine PremP.v rfl ?_
                refine PremP.v rfl ?_
                refine PremP.v rfl ?_
                have xs1 := x1.size
                have e0 := e0.trans x1
                have o44_8 := o44_8.ext x1
                have rs49_9 := rs49_9.ext x1
                have rs54_10 := rs54_10.ext x1
                have os56_11 := os56_11.ext x1
                clear x1
                refine PremP.nil ?_
                exact OpYe.valg rfl rfl rfl rfl (Yd.move rfl)
              · skip
                intro w19 x1
                refine PremP.v rfl ?_
                refine PremP.v rfl ?_
                refine PremP.v rfl ?_
                refine PremP.v rfl ?_
                refine PremP.v rfl ?_
                refine PremP.v rfl ?_
                refine PremP.v rfl ?_
                have xs1 := x1.size
                have e0 := e0.trans x1
                have o44_8 := o44_8.ext x1
                have rs49_9 := rs49_9.ext x1
                have rs54_10 := rs54_10.ext x1
                have os56_11 := os56_11.ext x1
                clear x1
                refine PremP.nil ?_
                exact OpYe.valg rfl rfl rfl rfl (Yd.eql rfl rfl)
              · skip
                intro w20 x1
                refine PremP.v rfl ?_
                refine PremP.v rfl ?_
                refine PremP.v rfl ?_
                refine PremP.v rfl ?_
                refine PremP.v rfl ?_
                refine PremP.v rfl ?_
                refine PremP.v rfl ?_
                refine PremP.v rfl ?_
                have xs1 := x1.size
                have e0 := e0.trans x1
                have o44_8 := o44_8.ext x1
                have rs49_9 := rs49_9.ext x1
                have rs54_10 := rs54_10.ext x1
                have os56_11 := os56_11.ext x1
                clear x1
                refine PremP.nil ?_
                exact OpYe.val rfl (Yd.pick_t rfl rfl)
              · skip
                intro w21 x1
                refine PremP.v rfl ?_
                refine PremP.v rfl ?_
                refine PremP.v rfl ?_
                refine PremP.v rfl ?_
                refine PremP.v rfl ?_
                refine PremP.v rfl ?_
                refine PremP.v rfl ?_
                refine PremP.v rfl ?_
                refine PremP.v rfl ?_
                have xs1 := x1.size
                have e0 := e0.trans x1
                have o44_8 := o44_8.ext x1
                have rs49_9 := rs49_9.ext x1
                have rs54_10 := rs54_10.ext x1
                have os56_11 := os56_11.ext x1
                clear x1
                refine PremP.nil ?_
                exact OpYe.val rfl (Yd.move (congrArg some (show Value.bool (decide (((exQ (macL salt ikm) inf n).length : Int) = n)) = .bool true from tt (by rw [hq2]; omega))))
              · skip
                intro w22 x1
                refine PremP.v rfl ?_
                refine PremP.v rfl ?_
                refine PremP.v rfl ?_
                refine PremP.v rfl ?_
                refine PremP.v rfl ?_
                refine PremP.v rfl ?_
                refine PremP.v rfl ?_
                refine PremP.v rfl ?_
                refine PremP.v rfl ?_
                refine PremP.v rfl ?_
                have xs1 := x1.size
                have e0 := e0.trans x1
                have o44_8 := o44_8.ext x1
                have rs49_9 := rs49_9.ext x1
                have rs54_10 := rs54_10.ext x1
                have os56_11 := os56_11.ext x1
                clear x1
                refine PremP.nil ?_
                exact OpYe.valg rfl rfl rfl rfl (Yd.move rfl)
              · skip
                intro w23 x1
                refine PremP.v rfl ?_
                refine PremP.v rfl ?_
                refine PremP.v rfl ?_
                refine PremP.v rfl ?_
                refine PremP.v rfl ?_
                refine PremP.v rfl ?_
                refine PremP.v rfl ?_
                refine PremP.v rfl ?_
                refine PremP.v rfl ?_
                refine PremP.v rfl ?_
                have xs1 := x1.size
                have e0 := e0.trans x1
                have o44_8 := o44_8.ext x1
                have rs49_9 := rs49_9.ext x1
                have rs54_10 := rs54_10.ext x1
                have os56_11 := os56_11.ext x1
                clear x1
                refine PremP.nil ?_
                exact OpYe.valg rfl rfl rfl rfl (Yd.move rfl)
              · skip
                intro w24 x1
                refine PremP.v rfl ?_
                refine PremP.v rfl ?_
                refine PremP.v rfl ?_
                refine PremP.v rfl ?_
                refine PremP.v rfl ?_
                refine PremP.v rfl ?_
                refine PremP.v rfl ?_
                refine PremP.v rfl ?_
                refine PremP.v rfl ?_
                refine PremP.v rfl ?_
                refine PremP.v rfl ?_
                refine PremP.v rfl ?_
                have xs1 := x1.size
                have e0 := e0.trans x1
                have o44_8 := o44_8.ext x1
                have rs49_9 := rs49_9.ext x1
                have rs54_10 := rs54_10.ext x1
                have os56_11 := os56_11.ext x1
                clear x1
                refine PremP.nil ?_
                exact OpYe.valg rfl rfl rfl rfl (Yd.slcH Try.underlying22 ti5 rfl rs54_10 rfl (by first | omega | (simp only [Int.toNat_natCast]; omega) | (simp only [List.length_map, List.length_drop, List.length_take, List.length_append, List.length_replicate, macL_len]; omega) | (simp [macL_len] <;> omega)))
              · skip
                intro w25 x1
                refine PremP.v rfl ?_
                refine PremP.v rfl ?_
                refine PremP.v rfl ?_
                refine PremP.v rfl ?_
                refine PremP.v rfl ?_
                refine PremP.v rfl ?_
                refine PremP.v rfl ?_
                refine PremP.v rfl ?_
                refine PremP.v rfl ?_
                refine PremP.v rfl ?_
                refine PremP.v rfl ?_
                refine PremP.v rfl ?_
                refine PremP.v rfl ?_
                have xs1 := x1.size
                have e0 := e0.trans x1
                have o44_8 := o44_8.ext x1
                have rs49_9 := rs49_9.ext x1
                have rs54_10 := rs54_10.ext x1
                have os56_11 := os56_11.ext x1
                clear x1
                refine PremP.nil ?_
                exact OpYe.valg rfl rfl rfl rfl (Yd.bstr Try.underlying22 Try.underlying5 Try.underlying9 rfl (Bs.slc rs54_10 (by first | omega | (simp only [Int.toNat_natCast]; omega) | (simp only [List.length_map, List.length_drop, List.length_take, List.length_append, List.length_replicate, macL_len]; omega) | (simp [macL_len] <;> omega)) (by first | omega | (simp only [Int.toNat_natCast]; omega) | (simp only [List.length_map, List.length_drop, List.length_take, List.length_append, List.length_replicate, macL_len]; omega) | (simp [macL_len] <;> omega))))
              · skip
                intro w26 x1
                refine PremP.v rfl ?_
                refine PremP.v rfl ?_
                refine PremP.v rfl ?_
                refine PremP.v rfl ?_
                refine PremP.v rfl ?_
                refine PremP.v rfl ?_
                refine PremP.v rfl ?_
                refine PremP.v rfl ?_
                refine PremP.v rfl ?_
                refine PremP.v rfl ?_
                have xs1 := x1.size
                have e0 := e0.trans x1
                have o44_8 := o44_8.ext x1
                have rs49_9 := rs49_9.ext x1
                have rs54_10 := rs54_10.ext x1
                have os56_11 := os56_11.ext x1
                clear x1
                refine PremP.nil ?_
                exact OpYe.valg rfl rfl rfl rfl (Yd.move rfl)
              · skip
                intro w27 x1
                refine PremP.v rfl ?_
                refine PremP.v rfl ?_
                refine PremP.v rfl ?_
                refine PremP.v rfl ?_
                refine PremP.v rfl ?_
                refine PremP.v rfl ?_
                refine PremP.v rfl ?_
                refine PremP.v rfl ?_
                refine PremP.v rfl ?_
                refine PremP.v rfl ?_
                refine PremP.v rfl ?_
                have xs1 := x1.size
                have e0 := e0.trans x1
                have o44_8 := o44_8.ext x1
                have rs49_9 := rs49_9.ext x1
                have rs54_10 := rs54_10.ext x1
                have os56_11 := os56_11.ext x1
                clear x1
                refine PremP.nil ?_
                exact OpYe.valg rfl rfl rfl rfl (Yd.bstr Try.underlying22 Try.underlying5 Try.underlying9 rfl rs49_9)
              · skip
                intro w28 x1
                refine PremP.v rfl ?_
                refine PremP.v rfl ?_
                refine PremP.v rfl ?_
                refine PremP.v rfl ?_
                refine PremP.v rfl ?_
                refine PremP.v rfl ?_
                refine PremP.v rfl ?_
                refine PremP.v rfl ?_
                refine PremP.v rfl ?_
                refine PremP.v rfl ?_
                refine PremP.v rfl ?_
                refine PremP.v rfl ?_
                refine PremP.v rfl ?_
                refine PremP.v rfl ?_
                refine PremP.v rfl ?_
                refine PremP.v rfl ?_
                have xs1 := x1.size
                have e0 := e0.trans x1
                have o44_8 := o44_8.ext x1
                have rs49_9 := rs49_9.ext x1
                have rs54_10 := rs54_10.ext x1
                have os56_11 := os56_11.ext x1
                clear x1
                refine PremP.nil ?_
                exact OpYe.valg rfl rfl rfl rfl (Yd.seq rfl rfl)
              · skip
                intro w29 x1
                refine PremP.v rfl ?_
                refine PremP.v rfl ?_
                refine PremP.v rfl ?_
                refine PremP.v rfl ?_
                refine PremP.v rfl ?_
                refine PremP.v rfl ?_
                refine PremP.v rfl ?_
                refine PremP.v rfl ?_
                refine PremP.v rfl ?_
                refine PremP.v rfl ?_
                refine PremP.v rfl ?_
                refine PremP.v rfl ?_
                refine PremP.v rfl ?_
                refine PremP.v rfl ?_
                refine PremP.v rfl ?_
                refine PremP.v rfl ?_
                refine PremP.v rfl ?_
                have xs1 := x1.size
                have e0 := e0.trans x1
                have o44_8 := o44_8.ext x1
                have rs49_9 := rs49_9.ext x1
                have rs54_10 := rs54_10.ext x1
                have os56_11 := os56_11.ext x1
                clear x1
                refine PremP.nil ?_
                exact OpYe.val rfl (Yd.pick_t rfl rfl)
              · skip
                intro w30 x1
                refine PremP.v rfl ?_
                refine PremP.v rfl ?_
                refine PremP.v rfl ?_
                refine PremP.v rfl ?_
                refine PremP.v rfl ?_
                refine PremP.v rfl ?_
                refine PremP.v rfl ?_
                refine PremP.v rfl ?_
                refine PremP.v rfl ?_
                refine PremP.v rfl ?_
                refine PremP.v rfl ?_
                refine PremP.v rfl ?_
                refine PremP.v rfl ?_
                refine PremP.v rfl ?_
                refine PremP.v rfl ?_
                refine PremP.v rfl ?_
                refine PremP.v rfl ?_
                refine PremP.v rfl ?_
                have xs1 := x1.size
                have e0 := e0.trans x1
                have o44_8 := o44_8.ext x1
                have rs49_9 := rs49_9.ext x1
                have rs54_10 := rs54_10.ext x1
                have os56_11 := os56_11.ext x1
                clear x1
                refine PremP.nil ?_
                exact OpYe.val rfl (Yd.move (congrArg some (show Value.bool (decide (((exQ (macL salt ikm) inf n).take m.toNat).drop 0 = (exQ (macL salt ikm) inf m))) = .bool true from tt (by rw [List.drop_zero, exQ_yes ⟨by omega, by omega⟩, exQ_yes ⟨by omega, by omega⟩, exL_take _ _ (by omega)]))))
              · skip
                intro w31 x1
                refine PremP.v rfl ?_
                refine PremP.v rfl ?_
                refine PremP.v rfl ?_
                refine PremP.v rfl ?_
                refine PremP.v rfl ?_
                refine PremP.v rfl ?_
                refine PremP.v rfl ?_
                refine PremP.v rfl ?_
                refine PremP.v rfl ?_
                refine PremP.v rfl ?_
                refine PremP.v rfl ?_
                refine PremP.v rfl ?_
                refine PremP.v rfl ?_
                refine PremP.v rfl ?_
                refine PremP.v rfl ?_
                refine PremP.v rfl ?_
                refine PremP.v rfl ?_
                refine PremP.v rfl ?_
                refine PremP.v rfl ?_
                have xs1 := x1.size
                have e0 := e0.trans x1
                have o44_8 := o44_8.ext x1
                have rs49_9 := rs49_9.ext x1
                have rs54_10 := rs54_10.ext x1
                have os56_11 := os56_11.ext x1
                clear x1
                refine PremP.nil ?_
                exact OpYe.valg rfl rfl rfl rfl (Yd.move rfl)
              · skip
                intro w32 x1
                refine PremP.v rfl ?_
                refine PremP.v rfl ?_
                refine PremP.v rfl ?_
                refine PremP.v rfl ?_
                refine PremP.v rfl ?_
                refine PremP.v rfl ?_
                refine PremP.v rfl ?_
                refine PremP.v rfl ?_
                refine PremP.v rfl ?_
                refine PremP.v rfl ?_
                refine PremP.v rfl ?_
                refine PremP.v rfl ?_
                refine PremP.v rfl ?_
                refine PremP.v rfl ?_
                refine PremP.v rfl ?_
                refine PremP.v rfl ?_
                refine PremP.v rfl ?_
                refine PremP.v rfl ?_
                refine PremP.v rfl ?_
                refine PremP.v rfl ?_
                have xs1 := x1.size
                have e0 := e0.trans x1
                have o44_8 := o44_8.ext x1
                have rs49_9 := rs49_9.ext x1
                have rs54_10 := rs54_10.ext x1
                have os56_11 := os56_11.ext x1
                clear x1
                refine PremP.nil ?_
                exact OpYe.valg rfl rfl rfl rfl (Yd.bstr Try.underlying22 Try.underlying5 Try.underlying9 rfl (Ow.rd os56_11))
              · skip
                intro w33 x1
                refine PremP.v rfl ?_
                refine PremP.v rfl ?_
                refine PremP.v rfl ?_
                refine PremP.v rfl ?_
                refine PremP.v rfl ?_
                refine PremP.v rfl ?_
                refine PremP.v rfl ?_
                refine PremP.v rfl ?_
                refine PremP.v rfl ?_
                refine PremP.v rfl ?_
                refine PremP.v rfl ?_
                refine PremP.v rfl ?_
                refine PremP.v rfl ?_
                refine PremP.v rfl ?_
                refine PremP.v rfl ?_
                refine PremP.v rfl ?_
                refine PremP.v rfl ?_
                refine PremP.v rfl ?_
                refine PremP.v rfl ?_
                have xs1 := x1.size
                have e0 := e0.trans x1
                have o44_8 := o44_8.ext x1
                have rs49_9 := rs49_9.ext x1
                have rs54_10 := rs54_10.ext x1
                have os56_11 := os56_11.ext x1
                clear x1
                refine PremP.nil ?_
                exact OpYe.mkg rfl rfl rfl rfl ((Ye.make (base := w33.heap.size) Try.underlying22 ti5 rfl rfl (by first | omega | (simp only [Int.toNat_natCast]; omega) | (simp only [List.length_map, List.length_drop, List.length_take, List.length_append, List.length_replicate, macL_len]; omega) | (simp [macL_len] <;> omega)) (by first | omega | (simp only [Int.toNat_natCast]; omega) | (simp only [List.length_map, List.length_drop, List.length_take, List.length_append, List.length_replicate, macL_len]; omega) | (simp [macL_len] <;> omega)) (by unfold maxLen; omega) rfl (Nat.le_refl _)).mono fun v w2 h => ⟨⟨v, rfl, by have h9 := Ow.base h.1 xs1; rw [rep_B] at h9; skip; exact h9⟩, h.2⟩)
              · skip
                intro w34 x1
                refine PremP.v rfl ?_
                refine PremP.v rfl ?_
                refine PremP.v rfl ?_
                refine PremP.v rfl ?_
                refine PremP.v rfl ?_
                refine PremP.v rfl ?_
                refine PremP.v rfl ?_
                refine PremP.v rfl ?_
                refine PremP.v rfl ?_
                refine PremP.v rfl ?_
                refine PremP.v rfl ?_
                refine PremP.v rfl ?_
                refine PremP.v rfl ?_
                refine PremP.v rfl ?_
                refine PremP.v rfl ?_
                refine PremP.v rfl ?_
                refine PremP.v rfl ?_
                refine PremP.v rfl ?_
                refine PremP.v rfl ?_
                have xs1 := x1.size
                have e0 := e0.trans x1
                have o44_8 := o44_8.ext x1
                have rs49_9 := rs49_9.ext x1
                have rs54_10 := rs54_10.ext x1
                have os56_11 := os56_11.ext x1
                clear x1
                refine PremP.nil ?_
                exact OpYe.valg rfl rfl rfl rfl (Yd.move rfl)
              · skip
                intro w35 x1
                refine PremP.v rfl ?_
                refine PremP.v rfl ?_
                refine PremP.v rfl ?_
                refine PremP.v rfl ?_
                refine PremP.v rfl ?_
                refine PremP.v rfl ?_
                refine PremP.v rfl ?_
                refine PremP.v rfl ?_
                refine PremP.v rfl ?_
                refine PremP.v rfl ?_
                refine PremP.v rfl ?_
                refine PremP.v rfl ?_
                refine PremP.v rfl ?_
                refine PremP.v rfl ?_
                refine PremP.v rfl ?_
                refine PremP.v rfl ?_
                refine PremP.v rfl ?_
                refine PremP.v rfl ?_
                refine PremP.v rfl ?_
                refine PremP.own rfl fun s79_35 o79_35 => ?_
                have o79_35b := o79_35
                have ap_s44_8_s79_35 : Ap s44_8.ownBlock s79_35.ownBlock := Ap.mk (Ow.live o44_8) (Ow.fr o79_35)
                have ap_s56_11_s79_35 : Ap s56_11.ownBlock s79_35.ownBlock := Ap.mk (Ow.live os56_11) (Ow.fr o79_35)
                have fr_s79_35 : Fr w.heap.size s79_35.ownBlock := Fr.le (Ow.fr o79_35) e0.size
                replace o79_35 := Ow.base o79_35 e0.size
                refine PremP.v rfl ?_
                have xs1 := x1.size
                have e0 := e0.trans x1
                have o44_8 := o44_8.ext x1
                have rs49_9 := rs49_9.ext x1
                have rs54_10 := rs54_10.ext x1
                have os56_11 := os56_11.ext x1
                clear x1
                refine PremP.nil ?_
                exact OpYe.mkg rfl rfl rfl rfl ((Ye.call cl14 rfl (Extract_ok (Ow.rd o79_35) (Rd.ext hb e0) (by first | omega | (simp only [List.length_append, List.length_replicate, List.flatten_cons, List.flatten_nil, List.append_nil, padL_len, sha256L_len, macL_len, List.length_nil, List.length_cons, Int.toNat_natCast]; omega) | (simp <;> omega)) (by first | omega | (simp only [List.length_append, List.length_replicate, List.flatten_cons, List.flatten_nil, List.append_nil, padL_len, sha256L_len, macL_len, List.length_nil, List.length_cons, Int.toNat_natCast]; omega) | (simp <;> omega)))).mono fun v w2 h => ⟨⟨v, rfl, Ow.base h.1 xs1⟩, h.2⟩)
              · skip
                intro w36 x1
                refine PremP.v rfl ?_
                refine PremP.v rfl ?_
                refine PremP.v rfl ?_
                refine PremP.v rfl ?_
                refine PremP.v rfl ?_
                refine PremP.v rfl ?_
                refine PremP.v rfl ?_
                refine PremP.v rfl ?_
                refine PremP.v rfl ?_
                refine PremP.v rfl ?_
                refine PremP.v rfl ?_
                refine PremP.v rfl ?_
                refine PremP.v rfl ?_
                refine PremP.v rfl ?_
                refine PremP.v rfl ?_
                refine PremP.v rfl ?_
                refine PremP.v rfl ?_
                refine PremP.v rfl ?_
                refine PremP.v rfl ?_
                refine PremP.own rfl fun s79_36 o79_36 => ?_
                have o79_36b := o79_36
                have ap_s44_8_s79_36 : Ap s44_8.ownBlock s79_36.ownBlock := Ap.mk (Ow.live o44_8) (Ow.fr o79_36)
                have ap_s56_11_s79_36 : Ap s56_11.ownBlock s79_36.ownBlock := Ap.mk (Ow.live os56_11) (Ow.fr o79_36)
                have fr_s79_36 : Fr w.heap.size s79_36.ownBlock := Fr.le (Ow.fr o79_36) e0.size
                replace o79_36 := Ow.base o79_36 e0.size
                refine PremP.v rfl ?_
                refine PremP.own rfl fun s81_36 o81_36 => ?_
                have o81_36b := o81_36
                have ap_s44_8_s81_36 : Ap s44_8.ownBlock s81_36.ownBlock := Ap.mk (Ow.live o44_8) (Ow.fr o81_36)
                have ap_s56_11_s81_36 : Ap s56_11.ownBlock s81_36.ownBlock := Ap.mk (Ow.live os56_11) (Ow.fr o81_36)
                have fr_s81_36 : Fr w.heap.size s81_36.ownBlock := Fr.le (Ow.fr o81_36) e0.size
                replace o81_36 := Ow.base o81_36 e0.size
                have xs1 := x1.size
                have e0 := e0.trans x1
                have o44_8 := o44_8.ext x1
                have rs49_9 := rs49_9.ext x1
                have rs54_10 := rs54_10.ext x1
                have os56_11 := os56_11.ext x1
                clear x1
                refine PremP.nil ?_
                exact OpYe.valg rfl rfl rfl rfl (Yd.bstr Try.underlying22 Try.underlying5 Try.underlying9 rfl (Ow.rd o81_36))
              · skip
                intro w37 x1
                refine PremP.v rfl ?_
                refine PremP.v rfl ?_
                refine PremP.v rfl ?_
                refine PremP.v rfl ?_
                refine PremP.v rfl ?_
                refine PremP.v rfl ?_
                refine PremP.v rfl ?_
                refine PremP.v rfl ?_
                refine PremP.v rfl ?_
                refine PremP.v rfl ?_
                refine PremP.v rfl ?_
                refine PremP.v rfl ?_
                refine PremP.v rfl ?_
                refine PremP.v rfl ?_
                refine PremP.v rfl ?_
                refine PremP.v rfl ?_
                refine PremP.v rfl ?_
                refine PremP.v rfl ?_
                refine PremP.v rfl ?_
                refine PremP.v rfl ?_
                refine PremP.v rfl ?_
                refine PremP.own rfl fun s79_37 o79_37 => ?_
                have o79_37b := o79_37
                have ap_s44_8_s79_37 : Ap s44_8.ownBlock s79_37.ownBlock := Ap.mk (Ow.live o44_8) (Ow.fr o79_37)
                have ap_s56_11_s79_37 : Ap s56_11.ownBlock s79_37.ownBlock := Ap.mk (Ow.live os56_11) (Ow.fr o79_37)
                have fr_s79_37 : Fr w.heap.size s79_37.ownBlock := Fr.le (Ow.fr o79_37) e0.size
                replace o79_37 := Ow.base o79_37 e0.size
                refine PremP.v rfl ?_
                refine PremP.own rfl fun s81_37 o81_37 => ?_
                have o81_37b := o81_37
                have ap_s44_8_s81_37 : Ap s44_8.ownBlock s81_37.ownBlock := Ap.mk (Ow.live o44_8) (Ow.fr o81_37)
                have ap_s56_11_s81_37 : Ap s56_11.ownBlock s81_37.ownBlock := Ap.mk (Ow.live os56_11) (Ow.fr o81_37)
                have fr_s81_37 : Fr w.heap.size s81_37.ownBlock := Fr.le (Ow.fr o81_37) e0.size
                replace o81_37 := Ow.base o81_37 e0.size
                refine PremP.v rfl ?_
                have xs1 := x1.size
                have e0 := e0.trans x1
                have o44_8 := o44_8.ext x1
                have rs49_9 := rs49_9.ext x1
                have rs54_10 := rs54_10.ext x1
                have os56_11 := os56_11.ext x1
                clear x1
                refine PremP.nil ?_
                exact OpYe.valg rfl rfl rfl rfl (Yd.seq rfl rfl)
              · skip
                intro w38 x1
                refine PremP.v rfl ?_
                refine PremP.v rfl ?_
                refine PremP.v rfl ?_
                refine PremP.v rfl ?_
                refine PremP.v rfl ?_
                refine PremP.v rfl ?_
                refine PremP.v rfl ?_
                refine PremP.v rfl ?_
                refine PremP.v rfl ?_
                refine PremP.v rfl ?_
                refine PremP.v rfl ?_
                refine PremP.v rfl ?_
                refine PremP.v rfl ?_
                refine PremP.v rfl ?_
                refine PremP.v rfl ?_
                refine PremP.v rfl ?_
                refine PremP.v rfl ?_
                refine PremP.v rfl ?_
                refine PremP.v rfl ?_
                refine PremP.v rfl ?_
                refine PremP.v rfl ?_
                refine PremP.own rfl fun s79_38 o79_38 => ?_
                have o79_38b := o79_38
                have ap_s44_8_s79_38 : Ap s44_8.ownBlock s79_38.ownBlock := Ap.mk (Ow.live o44_8) (Ow.fr o79_38)
                have ap_s56_11_s79_38 : Ap s56_11.ownBlock s79_38.ownBlock := Ap.mk (Ow.live os56_11) (Ow.fr o79_38)
                have fr_s79_38 : Fr w.heap.size s79_38.ownBlock := Fr.le (Ow.fr o79_38) e0.size
                replace o79_38 := Ow.base o79_38 e0.size
                refine PremP.v rfl ?_
                refine PremP.own rfl fun s81_38 o81_38 => ?_
                have o81_38b := o81_38
                have ap_s44_8_s81_38 : Ap s44_8.ownBlock s81_38.ownBlock := Ap.mk (Ow.live o44_8) (Ow.fr o81_38)
                have ap_s56_11_s81_38 : Ap s56_11.ownBlock s81_38.ownBlock := Ap.mk (Ow.live os56_11) (Ow.fr o81_38)
                have fr_s81_38 : Fr w.heap.size s81_38.ownBlock := Fr.le (Ow.fr o81_38) e0.size
                replace o81_38 := Ow.base o81_38 e0.size
                refine PremP.v rfl ?_
                refine PremP.v rfl ?_
                have xs1 := x1.size
                have e0 := e0.trans x1
                have o44_8 := o44_8.ext x1
                have rs49_9 := rs49_9.ext x1
                have rs54_10 := rs54_10.ext x1
                have os56_11 := os56_11.ext x1
                clear x1
                refine PremP.nil ?_
                exact OpYe.val rfl (Yd.pick_t rfl rfl)
              · skip
                intro w39 x1
                refine PremP.v rfl ?_
                refine PremP.v rfl ?_
                refine PremP.v rfl ?_
                refine PremP.v rfl ?_
                refine PremP.v rfl ?_
                refine PremP.v rfl ?_
                refine PremP.v rfl ?_
                refine PremP.v rfl ?_
                refine PremP.v rfl ?_
                refine PremP.v rfl ?_
                refine PremP.v rfl ?_
                refine PremP.v rfl ?_
                refine PremP.v rfl ?_
                refine PremP.v rfl ?_
                refine PremP.v rfl ?_
                refine PremP.v rfl ?_
                refine PremP.v rfl ?_
                refine PremP.v rfl ?_
                refine PremP.v rfl ?_
                refine PremP.v rfl ?_
                refine PremP.v rfl ?_
                refine PremP.own rfl fun s79_39 o79_39 => ?_
                have o79_39b := o79_39
                have ap_s44_8_s79_39 : Ap s44_8.ownBlock s79_39.ownBlock := Ap.mk (Ow.live o44_8) (Ow.fr o79_39)
                have ap_s56_11_s79_39 : Ap s56_11.ownBlock s79_39.ownBlock := Ap.mk (Ow.live os56_11) (Ow.fr o79_39)
                have fr_s79_39 : Fr w.heap.size s79_39.ownBlock := Fr.le (Ow.fr o79_39) e0.size
                replace o79_39 := Ow.base o79_39 e0.size
                refine PremP.v rfl ?_
                refine PremP.own rfl fun s81_39 o81_39 => ?_
                have o81_39b := o81_39
                have ap_s44_8_s81_39 : Ap s44_8.ownBlock s81_39.ownBlock := Ap.mk (Ow.live o44_8) (Ow.fr o81_39)
                have ap_s56_11_s81_39 : Ap s56_11.ownBlock s81_39.ownBlock := Ap.mk (Ow.live os56_11) (Ow.fr o81_39)
                have fr_s81_39 : Fr w.heap.size s81_39.ownBlock := Fr.le (Ow.fr o81_39) e0.size
                replace o81_39 := Ow.base o81_39 e0.size
                refine PremP.v rfl ?_
                refine PremP.v rfl ?_
                refine PremP.v rfl ?_
                have xs1 := x1.size
                have e0 := e0.trans x1
                have o44_8 := o44_8.ext x1
                have rs49_9 := rs49_9.ext x1
                have rs54_10 := rs54_10.ext x1
                have os56_11 := os56_11.ext x1
                clear x1
                refine PremP.nil ?_
                exact OpYe.val rfl (Yd.move (congrArg some (show Value.bool (decide (macL [] ikm = macL (List.replicate 32 (0 : UInt8)) ikm)) = .bool true from tt (by rw [mac_zeros]))))
              · skip
                intro w40 x1
                refine PremP.v rfl ?_
                refine PremP.v rfl ?_
                refine PremP.v rfl ?_
                refine PremP.v rfl ?_
                refine PremP.v rfl ?_
                refine PremP.v rfl ?_
                refine PremP.v rfl ?_
                refine PremP.v rfl ?_
                refine PremP.v rfl ?_
                refine PremP.v rfl ?_
                refine PremP.v rfl ?_
                refine PremP.v rfl ?_
                refine PremP.v rfl ?_
                refine PremP.v rfl ?_
                refine PremP.v rfl ?_
                refine PremP.v rfl ?_
                refine PremP.v rfl ?_
                refine PremP.v rfl ?_
                refine PremP.v rfl ?_
                refine PremP.v rfl ?_
                refine PremP.v rfl ?_
                refine PremP.own rfl fun s79_40 o79_40 => ?_
                have o79_40b := o79_40
                have ap_s44_8_s79_40 : Ap s44_8.ownBlock s79_40.ownBlock := Ap.mk (Ow.live o44_8) (Ow.fr o79_40)
                have ap_s56_11_s79_40 : Ap s56_11.ownBlock s79_40.ownBlock := Ap.mk (Ow.live os56_11) (Ow.fr o79_40)
                have fr_s79_40 : Fr w.heap.size s79_40.ownBlock := Fr.le (Ow.fr o79_40) e0.size
                replace o79_40 := Ow.base o79_40 e0.size
                refine PremP.v rfl ?_
                refine PremP.own rfl fun s81_40 o81_40 => ?_
                have o81_40b := o81_40
                have ap_s44_8_s81_40 : Ap s44_8.ownBlock s81_40.ownBlock := Ap.mk (Ow.live o44_8) (Ow.fr o81_40)
                have ap_s56_11_s81_40 : Ap s56_11.ownBlock s81_40.ownBlock := Ap.mk (Ow.live os56_11) (Ow.fr o81_40)
                have fr_s81_40 : Fr w.heap.size s81_40.ownBlock := Fr.le (Ow.fr o81_40) e0.size
                replace o81_40 := Ow.base o81_40 e0.size
                refine PremP.v rfl ?_
                refine PremP.v rfl ?_
                refine PremP.v rfl ?_
                refine PremP.v rfl ?_
                have xs1 := x1.size
                have e0 := e0.trans x1
                have o44_8 := o44_8.ext x1
                have rs49_9 := rs49_9.ext x1
                have rs54_10 := rs54_10.ext x1
                have os56_11 := os56_11.ext x1
                clear x1
                refine PremP.nil ?_
                exact OpYe.valg rfl rfl rfl rfl (Yd.move rfl)
              · skip
                intro w41 x1
                refine PremP.v rfl ?_
                refine PremP.v rfl ?_
                refine PremP.v rfl ?_
                refine PremP.v rfl ?_
                refine PremP.v rfl ?_
                refine PremP.v rfl ?_
                refine PremP.v rfl ?_
                refine PremP.v rfl ?_
                refine PremP.v rfl ?_
                refine PremP.v rfl ?_
                refine PremP.v rfl ?_
                refine PremP.v rfl ?_
                refine PremP.v rfl ?_
                refine PremP.v rfl ?_
                refine PremP.v rfl ?_
                refine PremP.v rfl ?_
                refine PremP.v rfl ?_
                refine PremP.v rfl ?_
                refine PremP.v rfl ?_
                refine PremP.v rfl ?_
                refine PremP.v rfl ?_
                refine PremP.own rfl fun s79_41 o79_41 => ?_
                have o79_41b := o79_41
                have ap_s44_8_s79_41 : Ap s44_8.ownBlock s79_41.ownBlock := Ap.mk (Ow.live o44_8) (Ow.fr o79_41)
                have ap_s56_11_s79_41 : Ap s56_11.ownBlock s79_41.ownBlock := Ap.mk (Ow.live os56_11) (Ow.fr o79_41)
                have fr_s79_41 : Fr w.heap.size s79_41.ownBlock := Fr.le (Ow.fr o79_41) e0.size
                replace o79_41 := Ow.base o79_41 e0.size
                refine PremP.v rfl ?_
                refine PremP.own rfl fun s81_41 o81_41 => ?_
                have o81_41b := o81_41
                have ap_s44_8_s81_41 : Ap s44_8.ownBlock s81_41.ownBlock := Ap.mk (Ow.live o44_8) (Ow.fr o81_41)
                have ap_s56_11_s81_41 : Ap s56_11.ownBlock s81_41.ownBlock := Ap.mk (Ow.live os56_11) (Ow.fr o81_41)
                have fr_s81_41 : Fr w.heap.size s81_41.ownBlock := Fr.le (Ow.fr o81_41) e0.size
                replace o81_41 := Ow.base o81_41 e0.size
                refine PremP.v rfl ?_
                refine PremP.v rfl ?_
                refine PremP.v rfl ?_
                refine PremP.v rfl ?_
                have xs1 := x1.size
                have e0 := e0.trans x1
                have o44_8 := o44_8.ext x1
                have rs49_9 := rs49_9.ext x1
                have rs54_10 := rs54_10.ext x1
                have os56_11 := os56_11.ext x1
                clear x1
                refine PremP.nil ?_
                exact OpYe.valg rfl rfl rfl rfl (Yd.move rfl)
              · skip
                intro w42 x1
                refine PremP.v rfl ?_
                refine PremP.v rfl ?_
                refine PremP.v rfl ?_
                refine PremP.v rfl ?_
                refine PremP.v rfl ?_
                refine PremP.v rfl ?_
                refine PremP.v rfl ?_
                refine PremP.v rfl ?_
                refine PremP.v rfl ?_
                refine PremP.v rfl ?_
                refine PremP.v rfl ?_
                refine PremP.v rfl ?_
                refine PremP.v rfl ?_
                refine PremP.v rfl ?_
                refine PremP.v rfl ?_
                refine PremP.v rfl ?_
                refine PremP.v rfl ?_
                refine PremP.v rfl ?_
                refine PremP.v rfl ?_
                refine PremP.v rfl ?_
                refine PremP.v rfl ?_
                refine PremP.own rfl fun s79_42 o79_42 => ?_
                have o79_42b := o79_42
                have ap_s44_8_s79_42 : Ap s44_8.ownBlock s79_42.ownBlock := Ap.mk (Ow.live o44_8) (Ow.fr o79_42)
                have ap_s56_11_s79_42 : Ap s56_11.ownBlock s79_42.ownBlock := Ap.mk (Ow.live os56_11) (Ow.fr o79_42)
                have fr_s79_42 : Fr w.heap.size s79_42.ownBlock := Fr.le (Ow.fr o79_42) e0.size
                replace o79_42 := Ow.base o79_42 e0.size
                refine PremP.v rfl ?_
                refine PremP.own rfl fun s81_42 o81_42 => ?_
                have o81_42b := o81_42
                have ap_s44_8_s81_42 : Ap s44_8.ownBlock s81_42.ownBlock := Ap.mk (Ow.live o44_8) (Ow.fr o81_42)
                have ap_s56_11_s81_42 : Ap s56_11.ownBlock s81_42.ownBlock := Ap.mk (Ow.live os56_11) (Ow.fr o81_42)
                have fr_s81_42 : Fr w.heap.size s81_42.ownBlock := Fr.le (Ow.fr o81_42) e0.size
                replace o81_42 := Ow.base o81_42 e0.size
                refine PremP.v rfl ?_
                refine PremP.v rfl ?_
                refine PremP.v rfl ?_
                refine PremP.v rfl ?_
                refine PremP.v rfl ?_
                have xs1 := x1.size
                have e0 := e0.trans x1
                have o44_8 := o44_8.ext x1
                have rs49_9 := rs49_9.ext x1
                have rs54_10 := rs54_10.ext x1
                have os56_11 := os56_11.ext x1
                clear x1
                refine PremP.nil ?_
                exact OpYe.mkg rfl rfl rfl rfl ((Ye.litS1 Try.underlying23 ti22 rfl rfl (Rd.ext hb e0)).mono fun v w2 h => ⟨⟨v, rfl, h.1⟩, h.2⟩)
              · skip
                intro w43 x1
                refine PremP.v rfl ?_
                refine PremP.v rfl ?_
                refine PremP.v rfl ?_
                refine PremP.v rfl ?_
                refine PremP.v rfl ?_
                refine PremP.v rfl ?_
                refine PremP.v rfl ?_
                refine PremP.v rfl ?_
                refine PremP.v rfl ?_
                refine PremP.v rfl ?_
                refine PremP.v rfl ?_
                refine PremP.v rfl ?_
                refine PremP.v rfl ?_
                refine PremP.v rfl ?_
                refine PremP.v rfl ?_
                refine PremP.v rfl ?_
                refine PremP.v rfl ?_
                refine PremP.v rfl ?_
                refine PremP.v rfl ?_
                refine PremP.v rfl ?_
                refine PremP.v rfl ?_
                refine PremP.own rfl fun s79_43 o79_43 => ?_
                have o79_43b := o79_43
                have ap_s44_8_s79_43 : Ap s44_8.ownBlock s79_43.ownBlock := Ap.mk (Ow.live o44_8) (Ow.fr o79_43)
                have ap_s56_11_s79_43 : Ap s56_11.ownBlock s79_43.ownBlock := Ap.mk (Ow.live os56_11) (Ow.fr o79_43)
                have fr_s79_43 : Fr w.heap.size s79_43.ownBlock := Fr.le (Ow.fr o79_43) e0.size
                replace o79_43 := Ow.base o79_43 e0.size
                refine PremP.v rfl ?_
                refine PremP.own rfl fun s81_43 o81_43 => ?_
                have o81_43b := o81_43
                have ap_s44_8_s81_43 : Ap s44_8.ownBlock s81_43.ownBlock := Ap.mk (Ow.live o44_8) (Ow.fr o81_43)
                have ap_s56_11_s81_43 : Ap s56_11.ownBlock s81_43.ownBlock := Ap.mk (Ow.live os56_11) (Ow.fr o81_43)
                have fr_s81_43 : Fr w.heap.size s81_43.ownBlock := Fr.le (Ow.fr o81_43) e0.size
                replace o81_43 := Ow.base o81_43 e0.size
                refine PremP.v rfl ?_
                refine PremP.v rfl ?_
                refine PremP.v rfl ?_
                refine PremP.v rfl ?_
                refine PremP.v rfl ?_
                refine PremP.v rfl ?_
                refine PremP.rl rfl fun s88_43 o88_43 => ?_
                have xs1 := x1.size
                have e0 := e0.trans x1
                have o44_8 := o44_8.ext x1
                have rs49_9 := rs49_9.ext x1
                have rs54_10 := rs54_10.ext x1
                have os56_11 := os56_11.ext x1
                clear x1
                refine PremP.nil ?_
                exact OpYe.mkg rfl rfl rfl rfl ((Ye.call cl12 rfl (Mac_ok (Ow.rd o44_8) o88_43 (by first | omega | (simp only [List.length_append, List.length_replicate, List.flatten_cons, List.flatten_nil, List.append_nil, padL_len, sha256L_len, macL_len, List.length_nil, List.length_cons, Int.toNat_natCast]; omega) | (simp <;> omega)) (by first | omega | (simp only [List.length_append, List.length_replicate, List.flatten_cons, List.flatten_nil, List.append_nil, padL_len, sha256L_len, macL_len, List.length_nil, List.length_cons, Int.toNat_natCast]; omega) | (simp <;> omega)))).mono fun v w2 h => ⟨⟨v, rfl, Ow.base h.1 xs1⟩, h.2⟩)
              · skip
                intro w44 x1
                refine PremP.v rfl ?_
                refine PremP.v rfl ?_
                refine PremP.v rfl ?_
                refine PremP.v rfl ?_
                refine PremP.v rfl ?_
                refine PremP.v rfl ?_
                refine PremP.v rfl ?_
                refine PremP.v rfl ?_
                refine PremP.v rfl ?_
                refine PremP.v rfl ?_
                refine PremP.v rfl ?_
                refine PremP.v rfl ?_
                refine PremP.v rfl ?_
                refine PremP.v rfl ?_
                refine PremP.v rfl ?_
                refine PremP.v rfl ?_
                refine PremP.v rfl ?_
                refine PremP.v rfl ?_
                refine PremP.v rfl ?_
                refine PremP.v rfl ?_
                refine PremP.v rfl ?_
                refine PremP.own rfl fun s79_44 o79_44 => ?_
                have o79_44b := o79_44
                have ap_s44_8_s79_44 : Ap s44_8.ownBlock s79_44.ownBlock := Ap.mk (Ow.live o44_8) (Ow.fr o79_44)
                have ap_s56_11_s79_44 : Ap s56_11.ownBlock s79_44.ownBlock := Ap.mk (Ow.live os56_11) (Ow.fr o79_44)
                have fr_s79_44 : Fr w.heap.size s79_44.ownBlock := Fr.le (Ow.fr o79_44) e0.size
                replace o79_44 := Ow.base o79_44 e0.size
                refine PremP.v rfl ?_
                refine PremP.own rfl fun s81_44 o81_44 => ?_
                have o81_44b := o81_44
                have ap_s44_8_s81_44 : Ap s44_8.ownBlock s81_44.ownBlock := Ap.mk (Ow.live o44_8) (Ow.fr o81_44)
                have ap_s56_11_s81_44 : Ap s56_11.ownBlock s81_44.ownBlock := Ap.mk (Ow.live os56_11) (Ow.fr o81_44)
                have fr_s81_44 : Fr w.heap.size s81_44.ownBlock := Fr.le (Ow.fr o81_44) e0.size
                replace o81_44 := Ow.base o81_44 e0.size
                refine PremP.v rfl ?_
                refine PremP.v rfl ?_
                refine PremP.v rfl ?_
                refine PremP.v rfl ?_
                refine PremP.v rfl ?_
                refine PremP.v rfl ?_
                refine PremP.rl rfl fun s88_44 o88_44 => ?_
                refine PremP.own rfl fun s89_44 o89_44 => ?_
                have o89_44b := o89_44
                have ap_s44_8_s89_44 : Ap s44_8.ownBlock s89_44.ownBlock := Ap.mk (Ow.live o44_8) (Ow.fr o89_44)
                have ap_s56_11_s89_44 : Ap s56_11.ownBlock s89_44.ownBlock := Ap.mk (Ow.live os56_11) (Ow.fr o89_44)
                have fr_s89_44 : Fr w.heap.size s89_44.ownBlock := Fr.le (Ow.fr o89_44) e0.size
                replace o89_44 := Ow.base o89_44 e0.size
                have xs1 := x1.size
                have e0 := e0.trans x1
                have o44_8 := o44_8.ext x1
                have rs49_9 := rs49_9.ext x1
                have rs54_10 := rs54_10.ext x1
                have os56_11 := os56_11.ext x1
                clear x1
                refine PremP.nil ?_
                exact OpYe.valg rfl rfl rfl rfl (Yd.bstr Try.underlying22 Try.underlying5 Try.underlying9 rfl (Ow.rd o89_44))
              · skip
                intro w45 x1
                refine PremP.v rfl ?_
                refine PremP.v rfl ?_
                refine PremP.v rfl ?_
                refine PremP.v rfl ?_
                refine PremP.v rfl ?_
                refine PremP.v rfl ?_
                refine PremP.v rfl ?_
                refine PremP.v rfl ?_
                refine PremP.v rfl ?_
                refine PremP.v rfl ?_
                refine PremP.v rfl ?_
                refine PremP.v rfl ?_
                refine PremP.v rfl ?_
                refine PremP.v rfl ?_
                refine PremP.v rfl ?_
                refine PremP.v rfl ?_
                refine PremP.v rfl ?_
                refine PremP.v rfl ?_
                refine PremP.v rfl ?_
                refine PremP.v rfl ?_
                refine PremP.v rfl ?_
                refine PremP.own rfl fun s79_45 o79_45 => ?_
                have o79_45b := o79_45
                have ap_s44_8_s79_45 : Ap s44_8.ownBlock s79_45.ownBlock := Ap.mk (Ow.live o44_8) (Ow.fr o79_45)
                have ap_s56_11_s79_45 : Ap s56_11.ownBlock s79_45.ownBlock := Ap.mk (Ow.live os56_11) (Ow.fr o79_45)
                have fr_s79_45 : Fr w.heap.size s79_45.ownBlock := Fr.le (Ow.fr o79_45) e0.size
                replace o79_45 := Ow.base o79_45 e0.size
                refine PremP.v rfl ?_
                refine PremP.own rfl fun s81_45 o81_45 => ?_
                have o81_45b := o81_45
                have ap_s44_8_s81_45 : Ap s44_8.ownBlock s81_45.ownBlock := Ap.mk (Ow.live o44_8) (Ow.fr o81_45)
                have ap_s56_11_s81_45 : Ap s56_11.ownBlock s81_45.ownBlock := Ap.mk (Ow.live os56_11) (Ow.fr o81_45)
                have fr_s81_45 : Fr w.heap.size s81_45.ownBlock := Fr.le (Ow.fr o81_45) e0.size
                replace o81_45 := Ow.base o81_45 e0.size
                refine PremP.v rfl ?_
                refine PremP.v rfl ?_
                refine PremP.v rfl ?_
                refine PremP.v rfl ?_
                have xs1 := x1.size
                have e0 := e0.trans x1
                have o44_8 := o44_8.ext x1
                have rs49_9 := rs49_9.ext x1
                have rs54_10 := rs54_10.ext x1
                have os56_11 := os56_11.ext x1
                clear x1
                refine PremP.nil ?_
                exact OpYe.valg rfl rfl rfl rfl (Yd.move rfl)
              · skip
                intro w46 x1
                refine PremP.v rfl ?_
                refine PremP.v rfl ?_
                refine PremP.v rfl ?_
                refine PremP.v rfl ?_
                refine PremP.v rfl ?_
                refine PremP.v rfl ?_
                refine PremP.v rfl ?_
                refine PremP.v rfl ?_
                refine PremP.v rfl ?_
                refine PremP.v rfl ?_
                refine PremP.v rfl ?_
                refine PremP.v rfl ?_
                refine PremP.v rfl ?_
                refine PremP.v rfl ?_
                refine PremP.v rfl ?_
                refine PremP.v rfl ?_
                refine PremP.v rfl ?_
                refine PremP.v rfl ?_
                refine PremP.v rfl ?_
                refine PremP.v rfl ?_
                refine PremP.v rfl ?_
                refine PremP.own rfl fun s79_46 o79_46 => ?_
                have o79_46b := o79_46
                have ap_s44_8_s79_46 : Ap s44_8.ownBlock s79_46.ownBlock := Ap.mk (Ow.live o44_8) (Ow.fr o79_46)
                have ap_s56_11_s79_46 : Ap s56_11.ownBlock s79_46.ownBlock := Ap.mk (Ow.live os56_11) (Ow.fr o79_46)
                have fr_s79_46 : Fr w.heap.size s79_46.ownBlock := Fr.le (Ow.fr o79_46) e0.size
                replace o79_46 := Ow.base o79_46 e0.size
                refine PremP.v rfl ?_
                refine PremP.own rfl fun s81_46 o81_46 => ?_
                have o81_46b := o81_46
                have ap_s44_8_s81_46 : Ap s44_8.ownBlock s81_46.ownBlock := Ap.mk (Ow.live o44_8) (Ow.fr o81_46)
                have ap_s56_11_s81_46 : Ap s56_11.ownBlock s81_46.ownBlock := Ap.mk (Ow.live os56_11) (Ow.fr o81_46)
                have fr_s81_46 : Fr w.heap.size s81_46.ownBlock := Fr.le (Ow.fr o81_46) e0.size
                replace o81_46 := Ow.base o81_46 e0.size
                refine PremP.v rfl ?_
                refine PremP.v rfl ?_
                refine PremP.v rfl ?_
                refine PremP.v rfl ?_
                refine PremP.v rfl ?_
                refine PremP.v rfl ?_
                refine PremP.rl rfl fun s88_46 o88_46 => ?_
                refine PremP.own rfl fun s89_46 o89_46 => ?_
                have o89_46b := o89_46
                have ap_s44_8_s89_46 : Ap s44_8.ownBlock s89_46.ownBlock := Ap.mk (Ow.live o44_8) (Ow.fr o89_46)
                have ap_s56_11_s89_46 : Ap s56_11.ownBlock s89_46.ownBlock := Ap.mk (Ow.live os56_11) (Ow.fr o89_46)
                have fr_s89_46 : Fr w.heap.size s89_46.ownBlock := Fr.le (Ow.fr o89_46) e0.size
                replace o89_46 := Ow.base o89_46 e0.size
                refine PremP.v rfl ?_
                have xs1 := x1.size
                have e0 := e0.trans x1
                have o44_8 := o44_8.ext x1
                have rs49_9 := rs49_9.ext x1
                have rs54_10 := rs54_10.ext x1
                have os56_11 := os56_11.ext x1
                clear x1
                refine PremP.nil ?_
                exact OpYe.mkg rfl rfl rfl rfl ((Ye.call cl18 rfl (RSum256_ok (Ow.rd o44_8) (by first | omega | (simp only [List.length_append, List.flatten_cons, List.flatten_nil, List.append_nil, fillU_len, List.length_replicate, padL_len, sha256L_len, macL_len, List.length_nil, List.length_cons, Int.toNat_natCast]; omega) | (simp [fillU_len, sha256L_len] <;> omega)))).mono fun v w2 h => ⟨⟨v, rfl, Ow.base h.1 xs1⟩, h.2⟩)
              · skip
                intro w47 x1
                refine PremP.v rfl ?_
                refine PremP.v rfl ?_
                refine PremP.v rfl ?_
                refine PremP.v rfl ?_
                refine PremP.v rfl ?_
                refine PremP.v rfl ?_
                refine PremP.v rfl ?_
                refine PremP.v rfl ?_
                refine PremP.v rfl ?_
                refine PremP.v rfl ?_
                refine PremP.v rfl ?_
                refine PremP.v rfl ?_
                refine PremP.v rfl ?_
                refine PremP.v rfl ?_
                refine PremP.v rfl ?_
                refine PremP.v rfl ?_
                refine PremP.v rfl ?_
                refine PremP.v rfl ?_
                refine PremP.v rfl ?_
                refine PremP.v rfl ?_
                refine PremP.v rfl ?_
                refine PremP.own rfl fun s79_47 o79_47 => ?_
                have o79_47b := o79_47
                have ap_s44_8_s79_47 : Ap s44_8.ownBlock s79_47.ownBlock := Ap.mk (Ow.live o44_8) (Ow.fr o79_47)
                have ap_s56_11_s79_47 : Ap s56_11.ownBlock s79_47.ownBlock := Ap.mk (Ow.live os56_11) (Ow.fr o79_47)
                have fr_s79_47 : Fr w.heap.size s79_47.ownBlock := Fr.le (Ow.fr o79_47) e0.size
                replace o79_47 := Ow.base o79_47 e0.size
                refine PremP.v rfl ?_
                refine PremP.own rfl fun s81_47 o81_47 => ?_
                have o81_47b := o81_47
                have ap_s44_8_s81_47 : Ap s44_8.ownBlock s81_47.ownBlock := Ap.mk (Ow.live o44_8) (Ow.fr o81_47)
                have ap_s56_11_s81_47 : Ap s56_11.ownBlock s81_47.ownBlock := Ap.mk (Ow.live os56_11) (Ow.fr o81_47)
                have fr_s81_47 : Fr w.heap.size s81_47.ownBlock := Fr.le (Ow.fr o81_47) e0.size
                replace o81_47 := Ow.base o81_47 e0.size
                refine PremP.v rfl ?_
                refine PremP.v rfl ?_
                refine PremP.v rfl ?_
                refine PremP.v rfl ?_
                have xs1 := x1.size
                have e0 := e0.trans x1
                have o44_8 := o44_8.ext x1
                have rs49_9 := rs49_9.ext x1
                have rs54_10 := rs54_10.ext x1
                have os56_11 := os56_11.ext x1
                clear x1
                refine PremP.nil ?_
                exact OpYe.valg rfl rfl rfl rfl (Yd.move rfl)
              · skip
                intro w48 x1
                refine PremP.v rfl ?_
                refine PremP.v rfl ?_
                refine PremP.v rfl ?_
                refine PremP.v rfl ?_
                refine PremP.v rfl ?_
                refine PremP.v rfl ?_
                refine PremP.v rfl ?_
                refine PremP.v rfl ?_
                refine PremP.v rfl ?_
                refine PremP.v rfl ?_
                refine PremP.v rfl ?_
                refine PremP.v rfl ?_
                refine PremP.v rfl ?_
                refine PremP.v rfl ?_
                refine PremP.v rfl ?_
                refine PremP.v rfl ?_
                refine PremP.v rfl ?_
                refine PremP.v rfl ?_
                refine PremP.v rfl ?_
                refine PremP.v rfl ?_
                refine PremP.v rfl ?_
                refine PremP.own rfl fun s79_48 o79_48 => ?_
                have o79_48b := o79_48
                have ap_s44_8_s79_48 : Ap s44_8.ownBlock s79_48.ownBlock := Ap.mk (Ow.live o44_8) (Ow.fr o79_48)
                have ap_s56_11_s79_48 : Ap s56_11.ownBlock s79_48.ownBlock := Ap.mk (Ow.live os56_11) (Ow.fr o79_48)
                have fr_s79_48 : Fr w.heap.size s79_48.ownBlock := Fr.le (Ow.fr o79_48) e0.size
                replace o79_48 := Ow.base o79_48 e0.size
                refine PremP.v rfl ?_
                refine PremP.own rfl fun s81_48 o81_48 => ?_
                have o81_48b := o81_48
                have ap_s44_8_s81_48 : Ap s44_8.ownBlock s81_48.ownBlock := Ap.mk (Ow.live o44_8) (Ow.fr o81_48)
                have ap_s56_11_s81_48 : Ap s56_11.ownBlock s81_48.ownBlock := Ap.mk (Ow.live os56_11) (Ow.fr o81_48)
                have fr_s81_48 : Fr w.heap.size s81_48.ownBlock := Fr.le (Ow.fr o81_48) e0.size
                replace o81_48 := Ow.base o81_48 e0.size
                refine PremP.v rfl ?_
                refine PremP.v rfl ?_
                refine PremP.v rfl ?_
                refine PremP.v rfl ?_
                refine PremP.v rfl ?_
                have xs1 := x1.size
                have e0 := e0.trans x1
                have o44_8 := o44_8.ext x1
                have rs49_9 := rs49_9.ext x1
                have rs54_10 := rs54_10.ext x1
                have os56_11 := os56_11.ext x1
                clear x1
                refine PremP.nil ?_
                exact OpYe.mkg rfl rfl rfl rfl ((Ye.litS1 Try.underlying23 ti22 rfl rfl (Rd.ext hb e0)).mono fun v w2 h => ⟨⟨v, rfl, h.1⟩, h.2⟩)
              · skip
                intro w49 x1
                refine PremP.v rfl ?_
                refine PremP.v rfl ?_
                refine PremP.v rfl ?_
                refine PremP.v rfl ?_
                refine PremP.v rfl ?_
                refine PremP.v rfl ?_
                refine PremP.v rfl ?_
                refine PremP.v rfl ?_
                refine PremP.v rfl ?_
                refine PremP.v rfl ?_
                refine PremP.v rfl ?_
                refine PremP.v rfl ?_
                refine PremP.v rfl ?_
                refine PremP.v rfl ?_
                refine PremP.v rfl ?_
                refine PremP.v rfl ?_
                refine PremP.v rfl ?_
                refine PremP.v rfl ?_
                refine PremP.v rfl ?_
                refine PremP.v rfl ?_
                refine PremP.v rfl ?_
                refine PremP.own rfl fun s79_49 o79_49 => ?_
                have o79_49b := o79_49
                have ap_s44_8_s79_49 : Ap s44_8.ownBlock s79_49.ownBlock := Ap.mk (Ow.live o44_8) (Ow.fr o79_49)
                have ap_s56_11_s79_49 : Ap s56_11.ownBlock s79_49.ownBlock := Ap.mk (Ow.live os56_11) (Ow.fr o79_49)
                have fr_s79_49 : Fr w.heap.size s79_49.ownBlock := Fr.le (Ow.fr o79_49) e0.size
                replace o79_49 := Ow.base o79_49 e0.size
                refine PremP.v rfl ?_
                refine PremP.own rfl fun s81_49 o81_49 => ?_
                have o81_49b := o81_49
                have ap_s44_8_s81_49 : Ap s44_8.ownBlock s81_49.ownBlock := Ap.mk (Ow.live o44_8) (Ow.fr o81_49)
                have ap_s56_11_s81_49 : Ap s56_11.ownBlock s81_49.ownBlock := Ap.mk (Ow.live os56_11) (Ow.fr o81_49)
                have fr_s81_49 : Fr w.heap.size s81_49.ownBlock := Fr.le (Ow.fr o81_49) e0.size
                replace o81_49 := Ow.base o81_49 e0.size
                refine PremP.v rfl ?_
                refine PremP.v rfl ?_
                refine PremP.v rfl ?_
                refine PremP.v rfl ?_
                refine PremP.v rfl ?_
                refine PremP.v rfl ?_
                refine PremP.rl rfl fun s88_49 o88_49 => ?_
                refine PremP.own rfl fun s89_49 o89_49 => ?_
                have o89_49b := o89_49
                have ap_s44_8_s89_49 : Ap s44_8.ownBlock s89_49.ownBlock := Ap.mk (Ow.live o44_8) (Ow.fr o89_49)
                have ap_s56_11_s89_49 : Ap s56_11.ownBlock s89_49.ownBlock := Ap.mk (Ow.live os56_11) (Ow.fr o89_49)
                have fr_s89_49 : Fr w.heap.size s89_49.ownBlock := Fr.le (Ow.fr o89_49) e0.size
                replace o89_49 := Ow.base o89_49 e0.size
                refine PremP.v rfl ?_
                refine PremP.own rfl fun s92_49 o92_49 => ?_
                have o92_49b := o92_49
                have ap_s44_8_s92_49 : Ap s44_8.ownBlock s92_49.ownBlock := Ap.mk (Ow.live o44_8) (Ow.fr o92_49)
                have ap_s56_11_s92_49 : Ap s56_11.ownBlock s92_49.ownBlock := Ap.mk (Ow.live os56_11) (Ow.fr o92_49)
                have fr_s92_49 : Fr w.heap.size s92_49.ownBlock := Fr.le (Ow.fr o92_49) e0.size
                replace o92_49 := Ow.base o92_49 e0.size
                refine PremP.v rfl ?_
                refine PremP.rl rfl fun s94_49 o94_49 => ?_
                have xs1 := x1.size
                have e0 := e0.trans x1
                have o44_8 := o44_8.ext x1
                have rs49_9 := rs49_9.ext x1
                have rs54_10 := rs54_10.ext x1
                have os56_11 := os56_11.ext x1
                clear x1
                refine PremP.nil ?_
                exact OpYe.mkg rfl rfl rfl rfl ((Ye.call cl12 rfl (Mac_ok (Ow.rd o92_49) o94_49 (by first | omega | (simp only [List.length_append, List.length_replicate, List.flatten_cons, List.flatten_nil, List.append_nil, padL_len, sha256L_len, macL_len, List.length_nil, List.length_cons, Int.toNat_natCast]; omega) | (simp <;> omega)) (by first | omega | (simp only [List.length_append, List.length_replicate, List.flatten_cons, List.flatten_nil, List.append_nil, padL_len, sha256L_len, macL_len, List.length_nil, List.length_cons, Int.toNat_natCast]; omega) | (simp <;> omega)))).mono fun v w2 h => ⟨⟨v, rfl, Ow.base h.1 xs1⟩, h.2⟩)
              · skip
                intro w50 x1
                refine PremP.v rfl ?_
                refine PremP.v rfl ?_
                refine PremP.v rfl ?_
                refine PremP.v rfl ?_
                refine PremP.v rfl ?_
                refine PremP.v rfl ?_
                refine PremP.v rfl ?_
                refine PremP.v rfl ?_
                refine PremP.v rfl ?_
                refine PremP.v rfl ?_
                refine PremP.v rfl ?_
                refine PremP.v rfl ?_
                refine PremP.v rfl ?_
                refine PremP.v rfl ?_
                refine PremP.v rfl ?_
                refine PremP.v rfl ?_
                refine PremP.v rfl ?_
                refine PremP.v rfl ?_
                refine PremP.v rfl ?_
                refine PremP.v rfl ?_
                refine PremP.v rfl ?_
                refine PremP.own rfl fun s79_50 o79_50 => ?_
                have o79_50b := o79_50
                have ap_s44_8_s79_50 : Ap s44_8.ownBlock s79_50.ownBlock := Ap.mk (Ow.live o44_8) (Ow.fr o79_50)
                have ap_s56_11_s79_50 : Ap s56_11.ownBlock s79_50.ownBlock := Ap.mk (Ow.live os56_11) (Ow.fr o79_50)
                have fr_s79_50 : Fr w.heap.size s79_50.ownBlock := Fr.le (Ow.fr o79_50) e0.size
                replace o79_50 := Ow.base o79_50 e0.size
                refine PremP.v rfl ?_
                refine PremP.own rfl fun s81_50 o81_50 => ?_
                have o81_50b := o81_50
                have ap_s44_8_s81_50 : Ap s44_8.ownBlock s81_50.ownBlock := Ap.mk (Ow.live o44_8) (Ow.fr o81_50)
                have ap_s56_11_s81_50 : Ap s56_11.ownBlock s81_50.ownBlock := Ap.mk (Ow.live os56_11) (Ow.fr o81_50)
                have fr_s81_50 : Fr w.heap.size s81_50.ownBlock := Fr.le (Ow.fr o81_50) e0.size
                replace o81_50 := Ow.base o81_50 e0.size
                refine PremP.v rfl ?_
                refine PremP.v rfl ?_
                refine PremP.v rfl ?_
                refine PremP.v rfl ?_
                refine PremP.v rfl ?_
                refine PremP.v rfl ?_
                refine PremP.rl rfl fun s88_50 o88_50 => ?_
                refine PremP.own rfl fun s89_50 o89_50 => ?_
                have o89_50b := o89_50
                have ap_s44_8_s89_50 : Ap s44_8.ownBlock s89_50.ownBlock := Ap.mk (Ow.live o44_8) (Ow.fr o89_50)
                have ap_s56_11_s89_50 : Ap s56_11.ownBlock s89_50.ownBlock := Ap.mk (Ow.live os56_11) (Ow.fr o89_50)
                have fr_s89_50 : Fr w.heap.size s89_50.ownBlock := Fr.le (Ow.fr o89_50) e0.size
                replace o89_50 := Ow.base o89_50 e0.size
                refine PremP.v rfl ?_
                refine PremP.own rfl fun s92_50 o92_50 => ?_
                have o92_50b := o92_50
                have ap_s44_8_s92_50 : Ap s44_8.ownBlock s92_50.ownBlock := Ap.mk (Ow.live o44_8) (Ow.fr o92_50)
                have ap_s56_11_s92_50 : Ap s56_11.ownBlock s92_50.ownBlock := Ap.mk (Ow.live os56_11) (Ow.fr o92_50)
                have fr_s92_50 : Fr w.heap.size s92_50.ownBlock := Fr.le (Ow.fr o92_50) e0.size
                replace o92_50 := Ow.base o92_50 e0.size
                refine PremP.v rfl ?_
                refine PremP.rl rfl fun s94_50 o94_50 => ?_
                refine PremP.own rfl fun s95_50 o95_50 => ?_
                have o95_50b := o95_50
                have ap_s44_8_s95_50 : Ap s44_8.ownBlock s95_50.ownBlock := Ap.mk (Ow.live o44_8) (Ow.fr o95_50)
                have ap_s56_11_s95_50 : Ap s56_11.ownBlock s95_50.ownBlock := Ap.mk (Ow.live os56_11) (Ow.fr o95_50)
                have fr_s95_50 : Fr w.heap.size s95_50.ownBlock := Fr.le (Ow.fr o95_50) e0.size
                replace o95_50 := Ow.base o95_50 e0.size
                have xs1 := x1.size
                have e0 := e0.trans x1
                have o44_8 := o44_8.ext x1
                have rs49_9 := rs49_9.ext x1
                have rs54_10 := rs54_10.ext x1
                have os56_11 := os56_11.ext x1
                clear x1
                refine PremP.nil ?_
                exact OpYe.valg rfl rfl rfl rfl (Yd.bstr Try.underlying22 Try.underlying5 Try.underlying9 rfl (Ow.rd o95_50))
              intro w51 x1
              refine PremP.v rfl ?_
              refine PremP.v rfl ?_
              refine PremP.v rfl ?_
              refine PremP.v rfl ?_
              refine PremP.v rfl ?_
              refine PremP.v rfl ?_
              refine PremP.v rfl ?_
              refine PremP.v rfl ?_
              refine PremP.v rfl ?_
              refine PremP.v rfl ?_
              refine PremP.v rfl ?_
              refine PremP.v rfl ?_
              refine PremP.v rfl ?_
              refine PremP.v rfl ?_
              refine PremP.v rfl ?_
              refine PremP.v rfl ?_
              refine PremP.v rfl ?_
              refine PremP.v rfl ?_
              refine PremP.v rfl ?_
              refine PremP.v rfl ?_
              refine PremP.v rfl ?_
              refine PremP.own rfl fun s79_51 o79_51 => ?_
              have o79_51b := o79_51
              have ap_s44_8_s79_51 : Ap s44_8.ownBlock s79_51.ownBlock := Ap.mk (Ow.live o44_8) (Ow.fr o79_51)
              have ap_s56_11_s79_51 : Ap s56_11.ownBlock s79_51.ownBlock := Ap.mk (Ow.live os56_11) (Ow.fr o79_51)
              have fr_s79_51 : Fr w.heap.size s79_51.ownBlock := Fr.le (Ow.fr o79_51) e0.size
              replace o79_51 := Ow.base o79_51 e0.size
              refine PremP.v rfl ?_
              refine PremP.own rfl fun s81_51 o81_51 => ?_
              have o81_51b := o81_51
              have ap_s44_8_s81_51 : Ap s44_8.ownBlock s81_51.ownBlock := Ap.mk (Ow.live o44_8) (Ow.fr o81_51)
              have ap_s56_11_s81_51 : Ap s56_11.ownBlock s81_51.ownBlock := Ap.mk (Ow.live os56_11) (Ow.fr o81_51)
              have fr_s81_51 : Fr w.heap.size s81_51.ownBlock := Fr.le (Ow.fr o81_51) e0.size
              replace o81_51 := Ow.base o81_51 e0.size
              refine PremP.v rfl ?_
              refine PremP.v rfl ?_
              refine PremP.v rfl ?_
              refine PremP.v rfl ?_
              refine PremP.v rfl ?_
              refine PremP.v rfl ?_
              refine PremP.rl rfl fun s88_51 o88_51 => ?_
              refine PremP.own rfl fun s89_51 o89_51 => ?_
              have o89_51b := o89_51
              have ap_s44_8_s89_51 : Ap s44_8.ownBlock s89_51.ownBlock := Ap.mk (Ow.live o44_8) (Ow.fr o89_51)
              have ap_s56_11_s89_51 : Ap s56_11.ownBlock s89_51.ownBlock := Ap.mk (Ow.live os56_11) (Ow.fr o89_51)
              have fr_s89_51 : Fr w.heap.size s89_51.ownBlock := Fr.le (Ow.fr o89_51) e0.size
              replace o89_51 := Ow.base o89_51 e0.size
              refine PremP.v rfl ?_
              refine PremP.v rfl ?_
              refine PremP.own rfl fun s92_51 o92_51 => ?_
              have o92_51b := o92_51
              have ap_s44_8_s92_51 : Ap s44_8.ownBlock s92_51.ownBlock := Ap.mk (Ow.live o44_8) (Ow.fr o92_51)
              have ap_s56_11_s92_51 : Ap s56_11.ownBlock s92_51.ownBlock := Ap.mk (Ow.live os56_11) (Ow.fr o92_51)
              have fr_s92_51 : Fr w.heap.size s92_51.ownBlock := Fr.le (Ow.fr o92_51) e0.size
              replace o92_51 := Ow.base o92_51 e0.size
              refine PremP.v rfl ?_
              refine PremP.rl rfl fun s94_51 o94_51 => ?_
              refine PremP.own rfl fun s95_51 o95_51 => ?_
              have o95_51b := o95_51
              have ap_s44_8_s95_51 : Ap s44_8.ownBlock s95_51.ownBlock := Ap.mk (Ow.live o44_8) (Ow.fr o95_51)
              have ap_s56_11_s95_51 : Ap s56_11.ownBlock s95_51.ownBlock := Ap.mk (Ow.live os56_11) (Ow.fr o95_51)
              have fr_s95_51 : Fr w.heap.size s95_51.ownBlock := Fr.le (Ow.fr o95_51) e0.size
              replace o95_51 := Ow.base o95_51 e0.size
              refine PremP.v rfl ?_
              have xs1 := x1.size
              have e0 := e0.trans x1
              have o44_8 := o44_8.ext x1
              have rs49_9 := rs49_9.ext x1
              have rs54_10 := rs54_10.ext x1
              have os56_11 := os56_11.ext x1
              clear x1
              refine PremP.nil ?_
              refine J.s_op_g rfl rfl rfl rfl (fun _ => Yd.seq rfl rfl) rfl ?_
              refine J.s_op rfl (fun _ => Yd.pick_t rfl rfl) rfl ?_
              refine J.s_op rfl (fun _ => Yd.move rfl) rfl ?_
              refine J.know (t := 99) (v' := .bool true) rfl (tt (by rw [mac_long (by simp only [List.length_append, List.length_replicate]; omega)])) ?_
              refine J.s_eff_g rfl rfl rfl rfl (Ye.call cl7 rfl (awake_ok)) rfl ?_
              rintro _ w52 ⟨rfl, x1⟩
              have e0 := e0.trans x1
              have o44_8 := o44_8.ext x1
              have rs49_9 := rs49_9.ext x1
              have rs54_10 := rs54_10.ext x1
              have os56_11 := os56_11.ext x1
              have o79_51 := o79_51.ext x1
              have o81_51 := o81_51.ext x1
              have o88_51 := o88_51.ext x1
              have o89_51 := o89_51.ext x1
              have o92_51 := o92_51.ext x1
              have o94_51 := o94_51.ext x1
              have o95_51 := o95_51.ext x1
              clear x1
              refine J.s_op rfl (fun _ => Yd.pick_t rfl rfl) rfl ?_
              refine J.s_op rfl (fun _ => Yd.assign rfl) rfl ?_
              refine J.s_nil ?_
              refine J.n_np ?_
              refine J.n_then ?_
              refine J.ret ?_
              exact J.ret1 rfl rfl (⟨_, rfl, rfl, e0⟩)
end Ytgglilhdmioelaa
end Go.Proofs
