import Derived.Test.YtikggonjagoiaaaT
import Derived.Test.YtikggonjagoiaaaH7
set_option linter.unusedVariables false
set_option linter.unusedSimpArgs false
set_option maxRecDepth 100000
set_option maxHeartbeats 4000000
namespace Go.Proofs
open Go.X Go.RowKit
namespace Ytikggonjagoiaaa
theorem ChainNothing_ok {k : Int} {w : World} : C Try.prog 7 [I k] w (Ret fun v w' => v = .bool true ∧ Ext w w') := by
  have e0 := Ext.refl w
  refine C.enter Try.func7 rfl Try.ntmps7 rfl ?_
  refine J.seq ?_
  refine J.region ?_
  refine J.op (Yd.assign rfl) rfl ?_
  refine J.nil ?_
  refine J.n_then ?_
  refine J.seq ?_
  refine J.region ?_
  refine J.op (Yd.assign rfl) rfl ?_
  refine J.nil ?_
  refine J.n_then ?_
  refine J.seq ?_
  refine J.region ?_
  refine J.eff (Ye.alloc ti53 (S := chS nilS 0) (by simp [chS, nilS, SegAll, SegOK, Value.cells])) rfl ?_
  rintro _ w1 ⟨b4_0, rfl, hb_, c4_0, x1⟩
  have fr_b4_0 : Fr w.heap.size (some b4_0) := Fr.le (Fr.blk hb_) e0.size
  have e0 := e0.trans x1
  clear x1 hb_
  refine J.nil ?_
  refine J.n_then ?_
  refine J.seq ?_
  refine J.region ?_
  refine J.op (Yd.move rfl) rfl ?_
  refine J.op (Yd.move rfl) rfl ?_
  refine J.eff (Ye.call cl17 rfl (ChAtNil_ok)) rfl ?_
  rintro _ w2 ⟨rfl, x1⟩
  have e0 := e0.trans x1
  have c4_0 := c4_0.ext x1
  clear x1
  refine J.op (Yd.move rfl) rfl ?_
  refine J.op (Yd.extract rfl rfl) rfl ?_
  refine J.op (Yd.extract rfl rfl) rfl ?_
  refine J.op (Yd.assign rfl) rfl ?_
  refine J.op (Yd.assign rfl) rfl ?_
  refine J.nil ?_
  refine J.n_then ?_
  refine J.seq ?_
  refine J.region ?_
  refine J.op (Yd.move rfl) rfl ?_
  refine J.op (Yd.move rfl) rfl ?_
  refine J.eff (Ye.call cl11 rfl (SkipNil_ok)) rfl ?_
  rintro _ w3 ⟨rfl, x1⟩
  have e0 := e0.trans x1
  have c4_0 := c4_0.ext x1
  clear x1
  refine J.op (Yd.move rfl) rfl ?_
  refine J.op (Yd.extract rfl rfl) rfl ?_
  refine J.op (Yd.extract rfl rfl) rfl ?_
  refine J.op (Yd.assign rfl) rfl ?_
  refine J.op (Yd.assign rfl) rfl ?_
  refine J.nil ?_
  refine J.n_then ?_
  refine J.seq ?_
  refine J.region ?_
  refine J.op (Yd.move rfl) rfl ?_
  refine J.eff (Ye.call cl17 rfl (ChAtZero_ok (show Cel _ _ _ (chS _ _) from c4_0))) rfl ?_
  rintro _ w4 ⟨rfl, x1⟩
  have e0 := e0.trans x1
  have c4_0 := c4_0.ext x1
  clear x1
  refine J.op (Yd.move rfl) rfl ?_
  refine J.op (Yd.extract rfl rfl) rfl ?_
  refine J.op (Yd.extract rfl rfl) rfl ?_
  refine J.op (Yd.assign rfl) rfl ?_
  refine J.op (Yd.assign rfl) rfl ?_
  refine J.nil ?_
  refine J.n_then ?_
  refine J.seq ?_
  refine J.region ?_
  refine J.op (Yd.move rfl) rfl ?_
  refine J.eff (Ye.call cl13 rfl (NextNil_ok)) rfl ?_
  rintro _ w5 ⟨rfl, x1⟩
  have e0 := e0.trans x1
  have c4_0 := c4_0.ext x1
  clear x1
  refine J.op (Yd.len_nil Try.underlying22 rfl) rfl ?_
  refine J.op (Yd.eql rfl rfl) rfl ?_
  refine J.op (Yd.move rfl) rfl ?_
  refine J.know (t := 32) (v' := .bool true) rfl (tt (by rfl)) ?_
  refine J.eff_g rfl rfl rfl (Ye.call cl13 rfl (NextZero_ok (show Cel _ _ _ (chS _ _) from c4_0))) rfl ?_
  rintro _ w6 ⟨rfl, x1⟩
  have e0 := e0.trans x1
  have c4_0 := c4_0.ext x1
  clear x1
  refine J.op_g rfl rfl rfl (Yd.len_nil Try.underlying22 rfl) rfl ?_
  refine J.op_g rfl rfl rfl (Yd.eql rfl rfl) rfl ?_
  refine J.op (Yd.pick_t rfl rfl) rfl ?_
  refine J.op (Yd.move rfl) rfl ?_
  refine J.know (t := 37) (v' := .bool true) rfl (tt (by rfl)) ?_
  refine J.op_g rfl rfl rfl (Yd.move rfl) rfl ?_
  refine J.op_g rfl rfl rfl (Yd.eql rfl rfl) rfl ?_
  refine J.op (Yd.pick_t rfl rfl) rfl ?_
  refine J.op (Yd.move rfl) rfl ?_
  refine J.know (t := 41) (v' := .bool true) rfl (tt (by rfl)) ?_
  refine J.op_g rfl rfl rfl (Yd.move rfl) rfl ?_
  refine J.op_g rfl rfl rfl (Yd.eql rfl rfl) rfl ?_
  refine J.op (Yd.pick_t rfl rfl) rfl ?_
  refine J.op (Yd.move rfl) rfl ?_
  refine J.know (t := 45) (v' := .bool true) rfl (tt (by rfl)) ?_
  refine J.op_g rfl rfl rfl (Yd.move rfl) rfl ?_
  refine J.op_g rfl rfl rfl (Yd.eql rfl rfl) rfl ?_
  refine J.op (Yd.pick_t rfl rfl) rfl ?_
  refine J.op (Yd.move rfl) rfl ?_
  refine J.know (t := 49) (v' := .bool true) rfl (tt (by rfl)) ?_
  refine J.op_g rfl rfl rfl (Yd.move rfl) rfl ?_
  refine J.eff_g rfl rfl rfl (Ye.call cl12 rfl (IndexNil_ok)) rfl ?_
  rintro _ w7 ⟨rfl, x1⟩
  have e0 := e0.trans x1
  have c4_0 := c4_0.ext x1
  clear x1
  refine J.op_g rfl rfl rfl (Yd.eql rfl rfl) rfl ?_
  refine J.op (Yd.pick_t rfl rfl) rfl ?_
  refine J.op (Yd.move rfl) rfl ?_
  refine J.know (t := 54) (v' := .bool true) rfl (tt (by rfl)) ?_
  refine J.op_g rfl rfl rfl (Yd.move rfl) rfl ?_
  refine J.eff_g rfl rfl rfl (Ye.call cl21 rfl (CopyNil_ok)) rfl ?_
  rintro _ w8 ⟨rfl, x1⟩
  have e0 := e0.trans x1
  have c4_0 := c4_0.ext x1
  clear x1
  refine J.op_g rfl rfl rfl (Yd.cast (Yd.eqPn Try.underlying25 rfl rfl) (show _ = Value.bool true from rfl)) rfl ?_
  refine J.op (Yd.pick_t rfl rfl) rfl ?_
  refine J.op (Yd.move rfl) rfl ?_
  refine J.eff_g rfl rfl rfl (Ye.call cl8 rfl (awake_ok)) rfl ?_
  rintro _ w9 ⟨rfl, x1⟩
  have e0 := e0.trans x1
  have c4_0 := c4_0.ext x1
  clear x1
  refine J.op (Yd.pick_t rfl rfl) rfl ?_
  refine J.op (Yd.assign rfl) rfl ?_
  refine J.nil ?_
  refine J.n_then ?_
  refine J.ret ?_
  exact J.ret1 rfl rfl (⟨_, rfl, rfl, e0⟩)

theorem ChainRoots_yes {a u v : Value} {root secret inf : List UInt8} {w : World} (ha : Bs w a root) (hb : Bs w u secret) (hi : Bs w v inf) (hk : root.length = 32) : C Try.prog 4 [a, u, v] w (Ret fun v w' => v = .bool true ∧ Ext w w') := by
  have hq64 : (exQ (macL root secret) inf 64).length = 64 := exQ_len ⟨by decide, by decide⟩
  have e0 := Ext.refl w
  refine C.enter Try.func4 rfl Try.ntmps4 rfl ?_
  refine J.seq ?_
  refine J.region ?_
  refine J.op (Yd.assign rfl) rfl ?_
  refine J.nil ?_
  refine J.n_then ?_
  refine J.seq ?_
  refine J.seq ?_
  refine J.region ?_
  refine J.op (Yd.move rfl) rfl ?_
  refine J.op (Yd.len_b Try.underlying22 rfl ha) rfl ?_
  refine J.op (Yd.gtr rfl rfl) rfl ?_
  refine J.op (Yd.move rfl) rfl ?_
  refine J.split_dec (t := 14) rfl (fun h1 => ?_) (fun h1 => ?_)
  · skip
    refine J.not_g rfl rfl rfl rfl rfl ?_
    refine J.not_g rfl rfl rfl rfl rfl ?_
    refine J.not_g rfl rfl rfl rfl rfl ?_
    refine J.op (Yd.pick_t rfl rfl) rfl ?_
    refine J.op (Yd.move rfl) rfl ?_
    refine J.not_g rfl rfl rfl rfl rfl ?_
    refine J.not_g rfl rfl rfl rfl rfl ?_
    refine J.not_g rfl rfl rfl rfl rfl ?_
    refine J.op (Yd.pick_t rfl rfl) rfl ?_
    refine J.nil ?_
    refine J.n_then ?_
    refine J.cond_true rfl ?_
    refine J.seq ?_
    refine J.region ?_
    refine J.eff (Ye.call cl8 rfl (awake_ok)) rfl ?_
    rintro _ w1 ⟨rfl, x1⟩
    have e0 := e0.trans x1
    clear x1
    refine J.op (Yd.assign rfl) rfl ?_
    refine J.nil ?_
    refine J.n_then ?_
    refine J.ret ?_
    refine J.r_then ?_
    exact J.ret1 rfl rfl (⟨_, rfl, rfl, e0⟩)
  · skip
    refine J.op_g rfl rfl rfl (Yd.move rfl) rfl ?_
    refine J.op_g rfl rfl rfl (Yd.len_b Try.underlying22 rfl hb) rfl ?_
    refine J.op_g rfl rfl rfl (Yd.gtr rfl rfl) rfl ?_
    refine J.op (Yd.pick_f rfl rfl) rfl ?_
    refine J.op (Yd.move rfl) rfl ?_
    refine J.split_dec (t := 19) rfl (fun h2 => ?_) (fun h2 => ?_)
    · skip
      refine J.not_g rfl rfl rfl rfl rfl ?_
      refine J.not_g rfl rfl rfl rfl rfl ?_
      refine J.not_g rfl rfl rfl rfl rfl ?_
      refine J.op (Yd.pick_t rfl rfl) rfl ?_
      refine J.nil ?_
      refine J.n_then ?_
      refine J.cond_true rfl ?_
      refine J.seq ?_
      refine J.region ?_
      refine J.eff (Ye.call cl8 rfl (awake_ok)) rfl ?_
      rintro _ w2 ⟨rfl, x1⟩
      have e0 := e0.trans x1
      clear x1
      refine J.op (Yd.assign rfl) rfl ?_
      refine J.nil ?_
      refine J.n_then ?_
      refine J.ret ?_
      refine J.r_then ?_
      exact J.ret1 rfl rfl (⟨_, rfl, rfl, e0⟩)
    · skip
      refine J.op_g rfl rfl rfl (Yd.move rfl) rfl ?_
      refine J.op_g rfl rfl rfl (Yd.len_b Try.underlying22 rfl hi) rfl ?_
      refine J.op_g rfl rfl rfl (Yd.gtr rfl rfl) rfl ?_
      refine J.op (Yd.pick_f rfl rfl) rfl ?_
      refine J.nil ?_
      refine J.n_then ?_
      refine J.cond_dec rfl (fun hc0 => ?_) (fun hc0 => ?_)
      · skip
        refine J.seq ?_
        refine J.region ?_
        refine J.eff (Ye.call cl8 rfl (awake_ok)) rfl ?_
        rintro _ w3 ⟨rfl, x1⟩
        have e0 := e0.trans x1
        clear x1
        refine J.op (Yd.assign rfl) rfl ?_
        refine J.nil ?_
        refine J.n_then ?_
        refine J.ret ?_
        refine J.r_then ?_
        exact J.ret1 rfl rfl (⟨_, rfl, rfl, e0⟩)
      · skip
        refine J.skip ?_
        refine J.n_then ?_
        refine J.seq ?_
        refine J.region ?_
        refine J.op (Yd.move rfl) rfl ?_
        refine J.op (Yd.move rfl) rfl ?_
        refine J.op (Yd.move rfl) rfl ?_
        refine J.eff (Ye.call cl14 rfl (Root_yes ha hb hi hk (by omega) (by omega))) rfl ?_
        rintro _ w4 ⟨x29_4, y29_4, rfl, ox29_4, oy29_4, x1⟩
        have fr_x29_4 : Fr w.heap.size x29_4.ownBlock := Fr.le (Ow.fr ox29_4) e0.size
        have fr_y29_4 : Fr w.heap.size y29_4.ownBlock := Fr.le (Ow.fr oy29_4) e0.size
        replace ox29_4 := Ow.base ox29_4 e0.size
        replace oy29_4 := Ow.base oy29_4 e0.size
        have e0 := e0.trans x1
        clear x1
        refine J.op (Yd.move rfl) rfl ?_
        refine J.op (Yd.extract rfl rfl) rfl ?_
        refine J.op (Yd.extract rfl rfl) rfl ?_
        refine J.op (Yd.extract rfl rfl) rfl ?_
        refine J.op (Yd.assign rfl) rfl ?_
        refine J.op (Yd.assign rfl) rfl ?_
        refine J.op (Yd.assign rfl) rfl ?_
        refine J.nil ?_
        refine J.n_then ?_
        refine J.seq ?_
        refine J.seq ?_
        refine J.region ?_
        refine J.op (Yd.move rfl) rfl ?_
        refine J.op (Yd.len_b Try.underlying22 rfl (Rd.ext ha e0)) rfl ?_
        refine J.op (Yd.neq rfl rfl) rfl ?_
        refine J.nil ?_
        refine J.n_then ?_
        refine J.know (t := 35) (v' := .bool false) rfl (ff (by omega)) ?_
        refine J.cond_false rfl ?_
        refine J.skip ?_
        refine J.n_then ?_
        refine J.seq ?_
        refine J.region ?_
        refine J.op (Yd.move rfl) rfl ?_
        refine J.op (Yd.move rfl) rfl ?_
        refine J.op (Yd.move rfl) rfl ?_
        refine J.eff (Ye.call cl15 rfl (RDerive_ok (Rd.ext ha e0) (Rd.ext hb e0) (Rd.ext hi e0) (by first | omega | (simp only [List.length_append, List.flatten_cons, List.flatten_nil, List.append_nil, padL_len, sha256L_len, macL_len, List.length_nil, List.length_cons, Int.toNat_natCast]; omega) | (simp <;> omega)) (by first | omega | (simp only [List.length_append, List.flatten_cons, List.flatten_nil, List.append_nil, padL_len, sha256L_len, macL_len, List.length_nil, List.length_cons, Int.toNat_natCast]; omega) | (simp <;> omega)) (by first | omega | (simp only [List.length_append, List.flatten_cons, List.flatten_nil, List.append_nil, padL_len, sha256L_len, macL_len, List.length_nil, List.length_cons, Int.toNat_natCast]; omega) | (simp <;> omega)))) rfl ?_
        rintro s54_5 w5 ⟨rs54_5, x1⟩
        have e0 := e0.trans x1
        have ox29_4 := ox29_4.ext x1
        have oy29_4 := oy29_4.ext x1
        clear x1
        refine J.op (Yd.assign rfl) rfl ?_
        refine J.nil ?_
        refine J.n_then ?_
        refine J.seq ?_
        refine J.regionO [(0, true), (1, true), (2, true), (3, true), (5, true)] [(4, 1), (6, 1), (7, 1), (8, 1), (9, 1), (10, 1), (11, 1), (12, 1), (13, 1), (14, 1), (15, 1)] [(16, true), (17, true), (18, true), (19, false), (20, true), (21, true)] mix (by kernel_rfl) ?_
        refine J.s_op rfl (fun _ => Yd.move rfl) rfl ?_
        refine J.s_op rfl (fun _ => Yd.eql rfl rfl) rfl ?_
        refine J.s_op rfl (fun _ => Yd.move rfl) rfl ?_
        refine J.know (t := 57) (v' := .bool true) rfl (tt (by rfl)) ?_
        refine J.s_op_g rfl rfl rfl rfl (fun _ => Yd.move rfl) rfl ?_
        refine J.s_op_g rfl rfl rfl rfl (fun _ => Yd.move rfl) rfl ?_
        refine J.s_nil ?_
        refine J.o_op_g rfl rfl rfl rfl (Yd.bstr Try.underlying22 Try.underlying5 Try.underlying9 rfl (Ow.rd ox29_4)) rfl ?_
        refine J.o_op_g rfl rfl rfl rfl (Yd.slcH Try.underlying22 ti5 rfl rs54_5 rfl (by first | omega | (simp only [Int.toNat_natCast]; omega) | (simp only [List.length_map, List.length_drop, List.length_take, hq64, Int.toNat_natCast] <;> omega) | (simp [hq64] <;> omega))) rfl ?_
        refine J.o_op_g rfl rfl rfl rfl (Yd.bstr Try.underlying22 Try.underlying5 Try.underlying9 rfl (Bs.slc rs54_5 (by first | omega | (simp only [Int.toNat_natCast]; omega) | (simp only [List.length_map, List.length_drop, List.length_take, hq64, Int.toNat_natCast] <;> omega) | (simp [hq64] <;> omega)) (by first | omega | (simp only [Int.toNat_natCast]; omega) | (simp only [List.length_map, List.length_drop, List.length_take, hq64, Int.toNat_natCast] <;> omega) | (simp [hq64] <;> omega)))) rfl ?_
        refine J.o_op_g rfl rfl rfl rfl (Yd.seq rfl rfl) rfl ?_
        refine J.o_op rfl (Yd.pick_t rfl rfl) rfl ?_
        refine J.o_op rfl (Yd.move rfl) rfl ?_
        refine J.know (t := 65) (v' := .bool true) rfl (tt (by rw [List.drop_zero]; rfl)) ?_
        refine J.o_op_g rfl rfl rfl rfl (Yd.move rfl) rfl ?_
        refine J.o_op_g rfl rfl rfl rfl (Yd.bstr Try.underlying22 Try.underlying5 Try.underlying9 rfl (Ow.rd oy29_4)) rfl ?_
        refine J.o_op_g rfl rfl rfl rfl (Yd.move rfl) rfl ?_
        refine J.o_op_g rfl rfl rfl rfl (Yd.slcL Try.underlying22 ti5 rfl rs54_5 rfl (by first | omega | (simp only [Int.toNat_natCast]; omega) | (simp only [List.length_map, List.length_drop, List.length_take, hq64, Int.toNat_natCast] <;> omega) | (simp [hq64] <;> omega))) rfl ?_
        refine J.o_op_g rfl rfl rfl rfl (Yd.bstr Try.underlying22 Try.underlying5 Try.underlying9 rfl (Bs.slc rs54_5 (by first | omega | (simp only [Int.toNat_natCast]; omega) | (simp only [List.length_map, List.length_drop, List.length_take, hq64, Int.toNat_natCast] <;> omega) | (simp [hq64] <;> omega)) (by first | omega | (simp only [Int.toNat_natCast]; omega) | (simp only [List.length_map, List.length_drop, List.length_take, hq64, Int.toNat_natCast] <;> omega) | (simp [hq64] <;> omega)))) rfl ?_
        refine J.o_nil ?_
        refine J.s_op_g rfl rfl rfl rfl (fun _ => Yd.seq rfl rfl) rfl ?_
        refine J.s_op rfl (fun _ => Yd.pick_t rfl rfl) rfl ?_
        refine J.s_op rfl (fun _ => Yd.move rfl) rfl ?_
        refine J.know (t := 73) (v' := .bool true) rfl (tt (by simp)) ?_
        refine J.s_eff_g rfl rfl rfl rfl (Ye.call cl8 rfl (awake_ok)) rfl ?_
        rintro _ w6 ⟨rfl, x1⟩
        have e0 := e0.trans x1
        have ox29_4 := ox29_4.ext x1
        have oy29_4 := oy29_4.ext x1
        have rs54_5 := rs54_5.ext x1
        clear x1
        refine J.s_op rfl (fun _ => Yd.pick_t rfl rfl) rfl ?_
        refine J.s_op rfl (fun _ => Yd.assign rfl) rfl ?_
        refine J.s_nil ?_
        refine J.n_np ?_
        refine J.n_then ?_
        refine J.ret ?_
        exact J.ret1 rfl rfl (⟨_, rfl, rfl, e0⟩)

theorem ChainRoots_no {a u v : Value} {root secret inf : List UInt8} {w : World} (ha : Bs w a root) (hb : Bs w u secret) (hi : Bs w v inf) (hk : root.length ≠ 32) : C Try.prog 4 [a, u, v] w (Ret fun v w' => v = .bool true ∧ Ext w w') := by
  have hq64 : (exQ (macL root secret) inf 64).length = 64 := exQ_len ⟨by decide, by decide⟩
  have e0 := Ext.refl w
  refine C.enter Try.func4 rfl Try.ntmps4 rfl ?_
  refine J.seq ?_
  refine J.region ?_
  refine J.op (Yd.assign rfl) rfl ?_
  refine J.nil ?_
  refine J.n_then ?_
  refine J.seq ?_
  refine J.seq ?_
  refine J.region ?_
  refine J.op (Yd.move rfl) rfl ?_
  refine J.op (Yd.len_b Try.underlying22 rfl ha) rfl ?_
  refine J.op (Yd.gtr rfl rfl) rfl ?_
  refine J.op (Yd.move rfl) rfl ?_
  refine J.split_dec (t := 14) rfl (fun h1 => ?_) (fun h1 => ?_)
  · skip
    refine J.not_g rfl rfl rfl rfl rfl ?_
    refine J.not_g rfl rfl rfl rfl rfl ?_
    refine J.not_g rfl rfl rfl rfl rfl ?_
    refine J.op (Yd.pick_t rfl rfl) rfl ?_
    refine J.op (Yd.move rfl) rfl ?_
    refine J.not_g rfl rfl rfl rfl rfl ?_
    refine J.not_g rfl rfl rfl rfl rfl ?_
    refine J.not_g rfl rfl rfl rfl rfl ?_
    refine J.op (Yd.pick_t rfl rfl) rfl ?_
    refine J.nil ?_
    refine J.n_then ?_
    refine J.cond_true rfl ?_
    refine J.seq ?_
    refine J.region ?_
    refine J.eff (Ye.call cl8 rfl (awake_ok)) rfl ?_
    rintro _ w1 ⟨rfl, x1⟩
    have e0 := e0.trans x1
    clear x1
    refine J.op (Yd.assign rfl) rfl ?_
    refine J.nil ?_
    refine J.n_then ?_
    refine J.ret ?_
    refine J.r_then ?_
    exact J.ret1 rfl rfl (⟨_, rfl, rfl, e0⟩)
  · skip
    refine J.op_g rfl rfl rfl (Yd.move rfl) rfl ?_
    refine J.op_g rfl rfl rfl (Yd.len_b Try.underlying22 rfl hb) rfl ?_
    refine J.op_g rfl rfl rfl (Yd.gtr rfl rfl) rfl ?_
    refine J.op (Yd.pick_f rfl rfl) rfl ?_
    refine J.op (Yd.move rfl) rfl ?_
    refine J.split_dec (t := 19) rfl (fun h2 => ?_) (fun h2 => ?_)
    · skip
      refine J.not_g rfl rfl rfl rfl rfl ?_
      refine J.not_g rfl rfl rfl rfl rfl ?_
      refine J.not_g rfl rfl rfl rfl rfl ?_
      refine J.op (Yd.pick_t rfl rfl) rfl ?_
      refine J.nil ?_
      refine J.n_then ?_
      refine J.cond_true rfl ?_
      refine J.seq ?_
      refine J.region ?_
      refine J.eff (Ye.call cl8 rfl (awake_ok)) rfl ?_
      rintro _ w2 ⟨rfl, x1⟩
      have e0 := e0.trans x1
      clear x1
      refine J.op (Yd.assign rfl) rfl ?_
      refine J.nil ?_
      refine J.n_then ?_
      refine J.ret ?_
      refine J.r_then ?_
      exact J.ret1 rfl rfl (⟨_, rfl, rfl, e0⟩)
    · skip
      refine J.op_g rfl rfl rfl (Yd.move rfl) rfl ?_
      refine J.op_g rfl rfl rfl (Yd.len_b Try.underlying22 rfl hi) rfl ?_
      refine J.op_g rfl rfl rfl (Yd.gtr rfl rfl) rfl ?_
      refine J.op (Yd.pick_f rfl rfl) rfl ?_
      refine J.nil ?_
      refine J.n_then ?_
      refine J.cond_dec rfl (fun hc0 => ?_) (fun hc0 => ?_)
      · skip
        refine J.seq ?_
        refine J.region ?_
        refine J.eff (Ye.call cl8 rfl (awake_ok)) rfl ?_
        rintro _ w3 ⟨rfl, x1⟩
        have e0 := e0.trans x1
        clear x1
        refine J.op (Yd.assign rfl) rfl ?_
        refine J.nil ?_
        refine J.n_then ?_
        refine J.ret ?_
        refine J.r_then ?_
        exact J.ret1 rfl rfl (⟨_, rfl, rfl, e0⟩)
      · skip
        refine J.skip ?_
        refine J.n_then ?_
        refine J.seq ?_
        refine J.region ?_
        refine J.op (Yd.move rfl) rfl ?_
        refine J.op (Yd.move rfl) rfl ?_
        refine J.op (Yd.move rfl) rfl ?_
        refine J.eff (Ye.call cl14 rfl (Root_no ha hb hi hk)) rfl ?_
        rintro _ w4 ⟨rfl, x1⟩
        have e0 := e0.trans x1
        clear x1
        refine J.op (Yd.move rfl) rfl ?_
        refine J.op (Yd.extract rfl rfl) rfl ?_
        refine J.op (Yd.extract rfl rfl) rfl ?_
        refine J.op (Yd.extract rfl rfl) rfl ?_
        refine J.op (Yd.assign rfl) rfl ?_
        refine J.op (Yd.assign rfl) rfl ?_
        refine J.op (Yd.assign rfl) rfl ?_
        refine J.nil ?_
        refine J.n_then ?_
        refine J.seq ?_
        refine J.seq ?_
        refine J.region ?_
        refine J.op (Yd.move rfl) rfl ?_
        refine J.op (Yd.len_b Try.underlying22 rfl (Rd.ext ha e0)) rfl ?_
        refine J.op (Yd.neq rfl rfl) rfl ?_
        refine J.nil ?_
        refine J.n_then ?_
        refine J.know (t := 35) (v' := .bool true) rfl (tt (by omega)) ?_
        refine J.cond_true rfl ?_
        refine J.seq ?_
        refine J.region ?_
        refine J.op (Yd.move rfl) rfl ?_
        refine J.op (Yd.eql rfl rfl) rfl ?_
        refine J.op (Yd.move rfl) rfl ?_
        refine J.know (t := 38) (v' := .bool true) rfl (tt (by rfl)) ?_
        refine J.op_g rfl rfl rfl (Yd.move rfl) rfl ?_
        refine J.op_g rfl rfl rfl (Yd.len_nil Try.underlying22 rfl) rfl ?_
        refine J.op_g rfl rfl rfl (Yd.eql rfl rfl) rfl ?_
        refine J.op (Yd.pick_t rfl rfl) rfl ?_
        refine J.op (Yd.move rfl) rfl ?_
        refine J.know (t := 43) (v' := .bool true) rfl (tt (by rfl)) ?_
        refine J.op_g rfl rfl rfl (Yd.move rfl) rfl ?_
        refine J.op_g rfl rfl rfl (Yd.len_nil Try.underlying22 rfl) rfl ?_
        refine J.op_g rfl rfl rfl (Yd.eql rfl rfl) rfl ?_
        refine J.op (Yd.pick_t rfl rfl) rfl ?_
        refine J.op (Yd.move rfl) rfl ?_
        refine J.know (t := 48) (v' := .bool true) rfl (tt (by rfl)) ?_
        refine J.eff_g rfl rfl rfl (Ye.call cl8 rfl (awake_ok)) rfl ?_
        rintro _ w5 ⟨rfl, x1⟩
        have e0 := e0.trans x1
        clear x1
        refine J.op (Yd.pick_t rfl rfl) rfl ?_
        refine J.op (Yd.assign rfl) rfl ?_
        refine J.nil ?_
        refine J.n_then ?_
        refine J.ret ?_
        refine J.r_then ?_
        exact J.ret1 rfl rfl (⟨_, rfl, rfl, e0⟩)

theorem ChainRoots_ok {a u v : Value} {root secret inf : List UInt8} {w : World} (ha : Bs w a root) (hb : Bs w u secret) (hi : Bs w v inf) : C Try.prog 4 [a, u, v] w (Ret fun v w' => v = .bool true ∧ Ext w w') := by
  by_cases hk : root.length = 32
  · exact ChainRoots_yes ha hb hi hk
  · exact ChainRoots_no ha hb hi hk
end Ytikggonjagoiaaa
end Go.Proofs
