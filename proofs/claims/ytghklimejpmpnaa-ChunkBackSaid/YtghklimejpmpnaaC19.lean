import Derived.Test.YtghklimejpmpnaaT
import Derived.Test.YtghklimejpmpnaaQ1
import Derived.Test.YtghklimejpmpnaaC15
set_option linter.unusedVariables false
set_option linter.unusedSimpArgs false
set_option maxRecDepth 100000
set_option maxHeartbeats 4000000
namespace Go.Proofs
open Go.X Go.RowKit
namespace Ytghklimejpmpnaa
theorem BackOut {id n : Int} {a so : Value} {l : List UInt8} {ol : List Int} {w : World} (ha : Bs w a l) (hso : Rd w so (ol.map fun x => I x)) (hb : ¬ ((0 ≤ id ∧ id ≤ 1073741824) ∧ (1 ≤ l.length ∧ l.length ≤ 600) ∧ (1 ≤ n ∧ n ≤ 100) ∧ ol.length ≤ 200)) : C Try.prog 7 [I id, a, I n, so] w (Ret fun v w' => v = .bool true ∧ Ext w w') := by
  have e0 := Ext.refl w
  refine C.enter Try.func7 rfl Try.ntmps7 rfl ?_
  refine J.seq ?_
  refine J.region ?_
  refine J.op (Yd.assign rfl) rfl ?_
  refine J.nil ?_
  refine J.n_then ?_
  refine J.seq ?_
  refine J.seq ?_
  refine J.region ?_
  refine J.op (Yd.move rfl) rfl ?_
  refine J.op (Yd.lss rfl rfl) rfl ?_
  refine J.op (Yd.move rfl) rfl ?_
  refine J.split_dec (t := 27) rfl (fun g2 => ?_) (fun g2 => ?_)
  · skip
    refine J.not_g rfl rfl rfl rfl rfl ?_
    refine J.not_g rfl rfl rfl rfl rfl ?_
    refine J.op (Yd.pick_t rfl rfl) rfl ?_
    refine J.op (Yd.move rfl) rfl ?_
    refine J.not_g rfl rfl rfl rfl rfl ?_
    refine J.not_g rfl rfl rfl rfl rfl ?_
    refine J.not_g rfl rfl rfl rfl rfl ?_
    refine J.op (Yd.pick_t rfl rfl) rfl ?_
    refine J.op (Yd.move rfl) rfl ?_
    refine J.not_g rfl rfl rfl rfl rfl ?_
    refine J.not_g rfl rfl rfl rfl rfl ?_
    refine J.not_g rfl rfl rfl rfl rfl ?_
    refine J.op (Yd.pick_t rfl rfl) rfl ?_
    refine J.op (Yd.move rfl) rfl ?_
    refine J.not_g rfl rfl rfl rfl rfl ?_
    refine J.not_g rfl rfl rfl rfl rfl ?_
    refine J.op (Yd.pick_t rfl rfl) rfl ?_
    refine J.op (Yd.move rfl) rfl ?_
    refine J.not_g rfl rfl rfl rfl rfl ?_
    refine J.not_g rfl rfl rfl rfl rfl ?_
    refine J.op (Yd.pick_t rfl rfl) rfl ?_
    refine J.op (Yd.move rfl) rfl ?_
    refine J.not_g rfl rfl rfl rfl rfl ?_
    refine J.not_g rfl rfl rfl rfl rfl ?_
    refine J.not_g rfl rfl rfl rfl rfl ?_
    refine J.op (Yd.pick_t rfl rfl) rfl ?_
    refine J.nil ?_
    refine J.n_then ?_
    refine J.cond_true rfl ?_
    refine J.seq ?_
    refine J.region ?_
    refine J.eff (Ye.call cl8 rfl (Awake_ok)) rfl ?_
    rintro _ w1 ⟨rfl, x1⟩
    have e0 := e0.trans x1
    clear x1
    refine J.op (Yd.assign rfl) rfl ?_
    refine J.nil ?_
    refine J.n_then ?_
    refine J.ret ?_
    refine J.r_then ?_
    exact J.ret1 rfl rfl (⟨_, rfl, rfl, e0⟩)
  · skip
    refine J.op_g rfl rfl rfl (Yd.move rfl) rfl ?_
    refine J.op_g rfl rfl rfl (Yd.gtr rfl rfl) rfl ?_
    refine J.op (Yd.pick_f rfl rfl) rfl ?_
    refine J.op (Yd.move rfl) rfl ?_
    refine J.split_dec (t := 31) rfl (fun g6 => ?_) (fun g6 => ?_)
    · skip
      refine J.not_g rfl rfl rfl rfl rfl ?_
      refine J.not_g rfl rfl rfl rfl rfl ?_
      refine J.not_g rfl rfl rfl rfl rfl ?_
      refine J.op (Yd.pick_t rfl rfl) rfl ?_
      refine J.op (Yd.move rfl) rfl ?_
      refine J.not_g rfl rfl rfl rfl rfl ?_
      refine J.not_g rfl rfl rfl rfl rfl ?_
      refine J.not_g rfl rfl rfl rfl rfl ?_
      refine J.op (Yd.pick_t rfl rfl) rfl ?_
      refine J.op (Yd.move rfl) rfl ?_
      refine J.not_g rfl rfl rfl rfl rfl ?_
      refine J.not_g rfl rfl rfl rfl rfl ?_
      refine J.op (Yd.pick_t rfl rfl) rfl ?_
      refine J.op (Yd.move rfl) rfl ?_
      refine J.not_g rfl rfl rfl rfl rfl ?_
      refine J.not_g rfl rfl rfl rfl rfl ?_
      refine J.op (Yd.pick_t rfl rfl) rfl ?_
      refine J.op (Yd.move rfl) rfl ?_
      refine J.not_g rfl rfl rfl rfl rfl ?_
      refine J.not_g rfl rfl rfl rfl rfl ?_
      refine J.not_g rfl rfl rfl rfl rfl ?_
      refine J.op (Yd.pick_t rfl rfl) rfl ?_
      refine J.nil ?_
      refine J.n_then ?_
      refine J.cond_true rfl ?_
      refine J.seq ?_
      refine J.region ?_
      refine J.eff (Ye.call cl8 rfl (Awake_ok)) rfl ?_
      rintro _ w2 ⟨rfl, x1⟩
      have e0 := e0.trans x1
      clear x1
      refine J.op (Yd.assign rfl) rfl ?_
      refine J.nil ?_
      refine J.n_then ?_
      refine J.ret ?_
      refine J.r_then ?_
      exact J.ret1 rfl rfl (⟨_, rfl, rfl, e0⟩)
    · skip
      refine J.op_g rfl rfl rfl (Yd.move rfl) rfl ?_
      refine J.op_g rfl rfl rfl (Yd.len_b Try.underlying22 rfl ha) rfl ?_
      refine J.op_g rfl rfl rfl (Yd.lss rfl rfl) rfl ?_
      refine J.op (Yd.pick_f rfl rfl) rfl ?_
      refine J.op (Yd.move rfl) rfl ?_
      refine J.split_dec (t := 36) rfl (fun g11 => ?_) (fun g11 => ?_)
      · skip
        refine J.not_g rfl rfl rfl rfl rfl ?_
        refine J.not_g rfl rfl rfl rfl rfl ?_
        refine J.not_g rfl rfl rfl rfl rfl ?_
        refine J.op (Yd.pick_t rfl rfl) rfl ?_
        refine J.op (Yd.move rfl) rfl ?_
        refine J.not_g rfl rfl rfl rfl rfl ?_
        refine J.not_g rfl rfl rfl rfl rfl ?_
        refine J.op (Yd.pick_t rfl rfl) rfl ?_
        refine J.op (Yd.move rfl) rfl ?_
        refine J.not_g rfl rfl rfl rfl rfl ?_
        refine J.not_g rfl rfl rfl rfl rfl ?_
        refine J.op (Yd.pick_t rfl rfl) rfl ?_
        refine J.op (Yd.move rfl) rfl ?_
        refine J.not_g rfl rfl rfl rfl rfl ?_
        refine J.not_g rfl rfl rfl rfl rfl ?_
        refine J.not_g rfl rfl rfl rfl rfl ?_
        refine J.op (Yd.pick_t rfl rfl) rfl ?_
        refine J.nil ?_
        refine J.n_then ?_
        refine J.cond_true rfl ?_
        refine J.seq ?_
        refine J.region ?_
        refine J.eff (Ye.call cl8 rfl (Awake_ok)) rfl ?_
        rintro _ w3 ⟨rfl, x1⟩
        have e0 := e0.trans x1
        clear x1
        refine J.op (Yd.assign rfl) rfl ?_
        refine J.nil ?_
        refine J.n_then ?_
        refine J.ret ?_
        refine J.r_then ?_
        exact J.ret1 rfl rfl (⟨_, rfl, rfl, e0⟩)
      · skip
        refine J.op_g rfl rfl rfl (Yd.move rfl) rfl ?_
        refine J.op_g rfl rfl rfl (Yd.len_b Try.underlying22 rfl ha) rfl ?_
        refine J.op_g rfl rfl rfl (Yd.gtr rfl rfl) rfl ?_
        refine J.op (Yd.pick_f rfl rfl) rfl ?_
        refine J.op (Yd.move rfl) rfl ?_
        refine J.split_dec (t := 41) rfl (fun g16 => ?_) (fun g16 => ?_)
        · skip
          refine J.not_g rfl rfl rfl rfl rfl ?_
          refine J.not_g rfl rfl rfl rfl rfl ?_
          refine J.op (Yd.pick_t rfl rfl) rfl ?_
          refine J.op (Yd.move rfl) rfl ?_
          refine J.not_g rfl rfl rfl rfl rfl ?_
          refine J.not_g rfl rfl rfl rfl rfl ?_
          refine J.op (Yd.pick_t rfl rfl) rfl ?_
          refine J.op (Yd.move rfl) rfl ?_
          refine J.not_g rfl rfl rfl rfl rfl ?_
          refine J.not_g rfl rfl rfl rfl rfl ?_
          refine J.not_g rfl rfl rfl rfl rfl ?_
          refine J.op (Yd.pick_t rfl rfl) rfl ?_
          refine J.nil ?_
          refine J.n_then ?_
          refine J.cond_true rfl ?_
          refine J.seq ?_
          refine J.region ?_
          refine J.eff (Ye.call cl8 rfl (Awake_ok)) rfl ?_
          rintro _ w4 ⟨rfl, x1⟩
          have e0 := e0.trans x1
          clear x1
          refine J.op (Yd.assign rfl) rfl ?_
          refine J.nil ?_
          refine J.n_then ?_
          refine J.ret ?_
          refine J.r_then ?_
          exact J.ret1 rfl rfl (⟨_, rfl, rfl, e0⟩)
        · skip
          refine J.op_g rfl rfl rfl (Yd.move rfl) rfl ?_
          refine J.op_g rfl rfl rfl (Yd.lss rfl rfl) rfl ?_
          refine J.op (Yd.pick_f rfl rfl) rfl ?_
          refine J.op (Yd.move rfl) rfl ?_
          refine J.split_dec (t := 45) rfl (fun g20 => ?_) (fun g20 => ?_)
          · skip
            refine J.not_g rfl rfl rfl rfl rfl ?_
            refine J.not_g rfl rfl rfl rfl rfl ?_
            refine J.op (Yd.pick_t rfl rfl) rfl ?_
            refine J.op (Yd.move rfl) rfl ?_
            refine J.not_g rfl rfl rfl rfl rfl ?_
            refine J.not_g rfl rfl rfl rfl rfl ?_
            refine J.not_g rfl rfl rfl rfl rfl ?_
            refine J.op (Yd.pick_t rfl rfl) rfl ?_
            refine J.nil ?_
            refine J.n_then ?_
            refine J.cond_true rfl ?_
            refine J.seq ?_
            refine J.region ?_
            refine J.eff (Ye.call cl8 rfl (Awake_ok)) rfl ?_
            rintro _ w5 ⟨rfl, x1⟩
            have e0 := e0.trans x1
            clear x1
            refine J.op (Yd.assign rfl) rfl ?_
            refine J.nil ?_
            refine J.n_then ?_
            refine J.ret ?_
            refine J.r_then ?_
            exact J.ret1 rfl rfl (⟨_, rfl, rfl, e0⟩)
          · skip
            refine J.op_g rfl rfl rfl (Yd.move rfl) rfl ?_
            refine J.op_g rfl rfl rfl (Yd.gtr rfl rfl) rfl ?_
            refine J.op (Yd.pick_f rfl rfl) rfl ?_
            refine J.op (Yd.move rfl) rfl ?_
            refine J.split_dec (t := 49) rfl (fun g24 => ?_) (fun g24 => ?_)
            · skip
              refine J.not_g rfl rfl rfl rfl rfl ?_
              refine J.not_g rfl rfl rfl rfl rfl ?_
              refine J.not_g rfl rfl rfl rfl rfl ?_
              refine J.op (Yd.pick_t rfl rfl) rfl ?_
              refine J.nil ?_
              refine J.n_then ?_
              refine J.cond_true rfl ?_
              refine J.seq ?_
              refine J.region ?_
              refine J.eff (Ye.call cl8 rfl (Awake_ok)) rfl ?_
              rintro _ w6 ⟨rfl, x1⟩
              have e0 := e0.trans x1
              clear x1
              refine J.op (Yd.assign rfl) rfl ?_
              refine J.nil ?_
              refine J.n_then ?_
              refine J.ret ?_
              refine J.r_then ?_
              exact J.ret1 rfl rfl (⟨_, rfl, rfl, e0⟩)
            · skip
              refine J.op_g rfl rfl rfl (Yd.move rfl) rfl ?_
              refine J.op_g rfl rfl rfl (Yd.len_m Try.underlying37 rfl hso) rfl ?_
              refine J.op_g rfl rfl rfl (Yd.gtr rfl rfl) rfl ?_
              refine J.op (Yd.pick_f rfl rfl) rfl ?_
              refine J.nil ?_
              refine J.n_then ?_
              refine J.know (t := 53) (v' := .bool true) rfl (tt (by omega)) ?_
              refine J.cond_true rfl ?_
              refine J.seq ?_
              refine J.region ?_
              refine J.eff (Ye.call cl8 rfl (Awake_ok)) rfl ?_
              rintro _ w7 ⟨rfl, x1⟩
              have e0 := e0.trans x1
              clear x1
              refine J.op (Yd.assign rfl) rfl ?_
              refine J.nil ?_
              refine J.n_then ?_
              refine J.ret ?_
              refine J.r_then ?_
              exact J.ret1 rfl rfl (⟨_, rfl, rfl, e0⟩)

theorem BackIn {id : Int} {n : Nat} {a so : Value} {l : List UInt8} {ol : List Int} {w : World} (ha : Bs w a l) (hso : Rd w so (ol.map fun x => I x)) (hb : (0 ≤ id ∧ id ≤ 1073741824) ∧ (1 ≤ l.length ∧ l.length ≤ 600) ∧ (1 ≤ n ∧ n ≤ 100) ∧ ol.length ≤ 200) : C Try.prog 7 [I id, a, I (n : Int), so] w (Ret fun v w' => v = .bool true ∧ Ext w w') := by
  have hmn := nPc_le l.length n
  have hm1 : 1 ≤ (nPc l.length n) := Nat.succ_le_of_lt ((nPc_lt (len := l.length) (n := n) (i := 0) (by omega)).2 (by omega))
  have hMj : ∀ j, j < (nPc l.length n) → j * n < l.length := fun j hj => (nPc_lt (by omega)).1 hj
  have hv9 : (0 ≤ id ∧ id ≤ 1073741824) ∧ (1 ≤ ((nPc l.length n) : Int) ∧ ((nPc l.length n) : Int) ≤ 10000) ∧ (1 ≤ (n : Int) ∧ (n : Int) ≤ 10000) ∧ (1 ≤ (l.length : Int) ∧ (l.length : Int) ≤ 10000) ∧ ((nPc l.length n) : Int) = ((l.length : Int) + (n : Int) - 1) / (n : Int) := ⟨by omega, by omega, by omega, by omega, nPc_int (by omega)⟩
  have hBx : ∀ h, BxN id (n : Int) (l.length : Int) (lsOf l n (nPc l.length n) h).length := fun h => by rw [lsOf_len]; exact ⟨hv9.1, hv9.2.2.1, hv9.2.2.2.1, hv9.2.2.2.2⟩
  have e0 := Ext.refl w
  refine C.enter Try.func7 rfl Try.ntmps7 rfl ?_
  refine J.seq ?_
  refine J.region ?_
  refine J.op (Yd.assign rfl) rfl ?_
  refine J.nil ?_
  refine J.n_then ?_
  refine J.seq ?_
  refine J.seq ?_
  refine J.region ?_
  refine J.op (Yd.move rfl) rfl ?_
  refine J.op (Yd.lss rfl rfl) rfl ?_
  refine J.op (Yd.move rfl) rfl ?_
  refine J.know (t := 27) (v' := .bool false) rfl (ff (by omega)) ?_
  refine J.op_g rfl rfl rfl (Yd.move rfl) rfl ?_
  refine J.op_g rfl rfl rfl (Yd.gtr rfl rfl) rfl ?_
  refine J.op (Yd.pick_f rfl rfl) rfl ?_
  refine J.op (Yd.move rfl) rfl ?_
  refine J.know (t := 31) (v' := .bool false) rfl (ff (by omega)) ?_
  refine J.op_g rfl rfl rfl (Yd.move rfl) rfl ?_
  refine J.op_g rfl rfl rfl (Yd.len_b Try.underlying22 rfl ha) rfl ?_
  refine J.op_g rfl rfl rfl (Yd.lss rfl rfl) rfl ?_
  refine J.op (Yd.pick_f rfl rfl) rfl ?_
  refine J.op (Yd.move rfl) rfl ?_
  refine J.know (t := 36) (v' := .bool false) rfl (ff (by omega)) ?_
  refine J.op_g rfl rfl rfl (Yd.move rfl) rfl ?_
  refine J.op_g rfl rfl rfl (Yd.len_b Try.underlying22 rfl ha) rfl ?_
  refine J.op_g rfl rfl rfl (Yd.gtr rfl rfl) rfl ?_
  refine J.op (Yd.pick_f rfl rfl) rfl ?_
  refine J.op (Yd.move rfl) rfl ?_
  refine J.know (t := 41) (v' := .bool false) rfl (ff (by omega)) ?_
  refine J.op_g rfl rfl rfl (Yd.move rfl) rfl ?_
  refine J.op_g rfl rfl rfl (Yd.lss rfl rfl) rfl ?_
  refine J.op (Yd.pick_f rfl rfl) rfl ?_
  refine J.op (Yd.move rfl) rfl ?_
  refine J.know (t := 45) (v' := .bool false) rfl (ff (by omega)) ?_
  refine J.op_g rfl rfl rfl (Yd.move rfl) rfl ?_
  refine J.op_g rfl rfl rfl (Yd.gtr rfl rfl) rfl ?_
  refine J.op (Yd.pick_f rfl rfl) rfl ?_
  refine J.op (Yd.move rfl) rfl ?_
  refine J.know (t := 49) (v' := .bool false) rfl (ff (by omega)) ?_
  refine J.op_g rfl rfl rfl (Yd.move rfl) rfl ?_
  refine J.op_g rfl rfl rfl (Yd.len_m Try.underlying37 rfl hso) rfl ?_
  refine J.op_g rfl rfl rfl (Yd.gtr rfl rfl) rfl ?_
  refine J.op (Yd.pick_f rfl rfl) rfl ?_
  refine J.nil ?_
  refine J.n_then ?_
  refine J.know (t := 53) (v' := .bool false) rfl (ff (by omega)) ?_
  refine J.cond_false rfl ?_
  refine J.skip ?_
  refine J.n_then ?_
  refine J.seq ?_
  refine J.region ?_
  refine J.op (Yd.move rfl) rfl ?_
  refine J.op (Yd.move rfl) rfl ?_
  refine J.op (Yd.move rfl) rfl ?_
  refine J.eff (Ye.call cl9 rfl (Split_ok  ha ⟨by omega, by omega, by omega⟩ (by omega))) rfl ?_
  rintro _ w1 ⟨s59, a59, rfl, os59, oa59, frs, apas, x1⟩
  have fr_s59 : Fr w.heap.size s59.ownBlock := Fr.le frs e0.size
  have fr_a59 : Fr w.heap.size a59.ownBlock := Fr.le (Ow.fr oa59) e0.size
  have ap_a59_s59 := apas
  replace oa59 := Ow.base oa59 e0.size
  have e0 := e0.trans x1
  clear x1 frs apas
  refine J.op (Yd.move rfl) rfl ?_
  refine J.op (Yd.extract rfl rfl) rfl ?_
  refine J.op (Yd.extract rfl rfl) rfl ?_
  refine J.op (Yd.assign rfl) rfl ?_
  refine J.op (Yd.assign rfl) rfl ?_
  refine J.nil ?_
  refine J.n_then ?_
  refine J.seq ?_
  refine J.seq ?_
  refine J.region ?_
  refine J.op (Yd.move rfl) rfl ?_
  refine J.op (Yd.neq rfl rfl) rfl ?_
  refine J.op (Yd.move rfl) rfl ?_
  refine J.know (t := 64) (v' := .bool false) rfl (ff (by decide)) ?_
  refine J.op_g rfl rfl rfl (Yd.move rfl) rfl ?_
  refine J.op_g rfl rfl rfl (Yd.cast (Yd.lenE (K := pcS) Try.underlying24 rfl (Es.rd os59)) (congrArg (fun z : Nat => I (z : Int)) pcL_len)) rfl ?_
  refine J.op_g rfl rfl rfl (Yd.eql rfl rfl) rfl ?_
  refine J.op (Yd.pick_f rfl rfl) rfl ?_
  refine J.nil ?_
  refine J.n_then ?_
  refine J.know (t := 68) (v' := .bool false) rfl (ff (by omega)) ?_
  refine J.cond_false rfl ?_
  refine J.skip ?_
  refine J.n_then ?_
  refine J.seq ?_
  refine J.region ?_
  refine J.op (Yd.move rfl) rfl ?_
  refine J.op (Yd.move rfl) rfl ?_
  refine J.op (Yd.cast (Yd.lenE (K := pcS) Try.underlying24 rfl (Es.rd os59)) (congrArg (fun z : Nat => I (z : Int)) pcL_len)) rfl ?_
  refine J.op (Yd.move rfl) rfl ?_
  refine J.op (Yd.move rfl) rfl ?_
  refine J.op (Yd.len_b Try.underlying22 rfl (Rd.ext ha e0)) rfl ?_
  have hv := hv9
  refine J.eff (Ye.call cl14 rfl (New_yes hv)) rfl ?_
  rintro _ w2 ⟨b1, s1, rfl, hb_b1, hcb1, hos1, hap_b1, x1⟩
  have ap_s59_b1 : Ap s59.ownBlock (some b1) := Ap.mk (Es.live os59) (Fr.blk hb_b1)
  have ap_a59_b1 : Ap a59.ownBlock (some b1) := Ap.mk (Ow.live oa59) (Fr.blk hb_b1)
  have fr_b1 : Fr w.heap.size (some b1) := Fr.le (Fr.blk hb_b1) e0.size
  have ap_s59_s1 : Ap s59.ownBlock s1.ownBlock := Ap.mk (Es.live os59) (Ow.fr hos1)
  have ap_a59_s1 : Ap a59.ownBlock s1.ownBlock := Ap.mk (Ow.live oa59) (Ow.fr hos1)
  have fr_s1 : Fr w.heap.size s1.ownBlock := Fr.le (Ow.fr hos1) e0.size
  replace hos1 := Ow.base hos1 (Nat.zero_le _)
  have e0 := e0.trans x1
  have os59 := os59.ext x1
  have oa59 := oa59.ext x1
  clear x1
  refine J.op (Yd.move rfl) rfl ?_
  refine J.op (Yd.extract rfl rfl) rfl ?_
  refine J.op (Yd.extract rfl rfl) rfl ?_
  refine J.op (Yd.assign rfl) rfl ?_
  refine J.op (Yd.assign rfl) rfl ?_
  refine J.nil ?_
  refine J.n_then ?_
  refine J.seq ?_
  refine J.seq ?_
  refine J.region ?_
  refine J.op (Yd.move rfl) rfl ?_
  refine J.op (Yd.neq rfl rfl) rfl ?_
  refine J.op (Yd.move rfl) rfl ?_
  refine J.know (t := 81) (v' := .bool false) rfl (ff (by decide)) ?_
  refine J.op_g rfl rfl rfl (Yd.move rfl) rfl ?_
  refine J.op_g rfl rfl rfl (Yd.cast (Yd.eqPn Try.underlying32 rfl rfl) (show _ = Value.bool false from rfl)) rfl ?_
  refine J.op (Yd.pick_f rfl rfl) rfl ?_
  refine J.nil ?_
  refine J.n_then ?_
  refine J.cond_false rfl ?_
  refine J.skip ?_
  refine J.n_then ?_
  refine J.seq ?_
  refine J.region ?_
  refine J.op (Yd.move rfl) rfl ?_
  refine J.op (Yd.cast (Yd.lenE (K := pcS) Try.underlying24 rfl (Es.rd os59)) (congrArg (fun z : Nat => I (z : Int)) pcL_len)) rfl ?_
  refine J.eff (Ye.make (base := w2.heap.size) Try.underlying62 ti4 rfl rfl (by first | omega | (rw [pcL_len]; omega) | (simp only [Int.toNat_natCast, pcL_len]; omega) | (simp only [Int.toNat_natCast]; omega)) (by first | omega | (rw [pcL_len]; omega) | (simp only [Int.toNat_natCast, pcL_len]; omega) | (simp only [Int.toNat_natCast]; omega)) (by unfold maxLen; omega) rfl (Nat.le_refl _)) rfl ?_
  rintro s87_3 w3 ⟨o87_3, x1⟩
  have ap_s59_s87_3 : Ap s59.ownBlock s87_3.ownBlock := Ap.mk (Es.live os59) (Ow.fr o87_3)
  have ap_a59_s87_3 : Ap a59.ownBlock s87_3.ownBlock := Ap.mk (Ow.live oa59) (Ow.fr o87_3)
  have ap_b1_s87_3 : Ap (some b1) s87_3.ownBlock := Ap.mk (Cel.live hcb1) (Ow.fr o87_3)
  have ap_s1_s87_3 : Ap s1.ownBlock s87_3.ownBlock := Ap.mk (Ow.live hos1) (Ow.fr o87_3)
  have fr_s87_3 : Fr w.heap.size s87_3.ownBlock := Fr.le (Ow.fr o87_3) e0.size
  replace o87_3 := Ow.base o87_3 e0.size
  have e0 := e0.trans x1
  have os59 := os59.ext x1
  have oa59 := oa59.ext x1
  have hcb1 := hcb1.ext x1
  have hos1 := hos1.ext x1
  clear x1
  refine J.op (Yd.assign rfl) rfl ?_
  refine J.nil ?_
  refine J.n_then ?_
  refine J.seq ?_
  refine J.region ?_
  refine J.op (Yd.assign rfl) rfl ?_
  refine J.nil ?_
  refine J.n_then ?_
  refine J.seq ?_
  refine J.seq ?_
  refine J.region ?_
  refine J.op (Yd.assign rfl) rfl ?_
  refine J.nil ?_
  refine J.n_then ?_
  refine J.block ?_
  refine J.loop (ι := Nat × List Bool × List Value) (fun i => [(0, I id), (1, a), (2, I (n : Int)), (3, so), (14, I (i.2.1.count true : Int)), (15, I (i.1 : Int)), (11, .pointer (some ⟨b1, 0, none⟩)), (9, s59), (13, s87_3)]) (fun i w' => i.1 ≤ ol.length + (nPc l.length n) ∧ i.2.1.length = (nPc l.length n) ∧ Els [s1.ownBlock, s87_3.ownBlock] w' i.2.2 (lsOf l n (nPc l.length n) i.2.1) ∧ Cel w' b1 72 [(0, 1, [I id]), (1, 1, [I (n : Int)]), (2, 1, [I (l.length : Int)]), (3, 1, [s1])] ∧ Es pcS 0 29 w' s59 (pcL id a59 n l.length (nPc l.length n) (nPc l.length n)) ∧ Ob w.heap.size 5 w' a59 l ∧ Ow 0 22 w' s1 i.2.2 ∧ Ow w.heap.size 4 w' s87_3 (i.2.1.map fun b => Value.bool b) ∧ Ext w w') (fun i => ol.length + (nPc l.length n) - i.1) ((0, List.replicate (nPc l.length n) false, List.replicate ((nPc l.length n) : Int).toNat nilS)) ⟨rfl, rfl, rfl, rfl, (someI (by show (0 : Int) = ((List.count true (List.replicate (nPc l.length n) false) : Nat) : Int); rw [List.count_replicate]; rfl)), rfl, rfl, rfl, rfl, trivial⟩ (⟨Nat.zero_le _, List.length_replicate, (by show Els _ _ (List.replicate ((nPc l.length n) : Int).toNat nilS) (lsOf l n (nPc l.length n) (List.replicate (nPc l.length n) false)); rw [lsOf_none, Int.toNat_natCast]; exact Els.new _ _ _), hcb1, os59, oa59, hos1, (by have h9 := o87_3; rw [Int.toNat_natCast] at h9; show Ow _ _ _ _ ((List.replicate (nPc l.length n) false).map fun b => Value.bool b); rw [List.map_replicate]; exact h9), e0⟩) ?_
  rintro ⟨i, hv, vs1⟩ w4 ⟨hk, hhl, he1, hcb1, os59, oa59, hos1, hoh, e0⟩
  dsimp only at *
  refine J.seq ?_
  refine J.seq ?_
  refine J.region ?_
  refine J.op (Yd.move rfl) rfl ?_
  refine J.op (Yd.move rfl) rfl ?_
  refine J.op (Yd.len_m Try.underlying37 rfl (Rd.ext hso e0)) rfl ?_
  refine J.op (Yd.move rfl) rfl ?_
  refine J.op (Yd.cast (Yd.lenE (K := pcS) Try.underlying24 rfl (Es.rd os59)) (congrArg (fun z : Nat => I (z : Int)) pcL_len)) rfl ?_
  refine J.op (Yd.add rfl rfl (by first | omega | (rw [pcL_len]; omega) | (simp only [Int.toNat_natCast, pcL_len]; omega) | (simp only [Int.toNat_natCast]; omega))) rfl ?_
  refine J.op (Yd.lss rfl rfl) rfl ?_
  refine J.nil ?_
  refine J.n_then ?_
  refine J.cond_dec rfl (fun hc3 => ?_) (fun hc3 => ?_)
  · skip
    refine J.skip ?_
    refine J.n_then ?_
    refine J.seq ?_
    refine J.block ?_
    refine J.seq ?_
    refine J.region ?_
    refine J.op (Yd.move rfl) rfl ?_
    refine J.op (Yd.move rfl) rfl ?_
    refine J.op (Yd.len_m Try.underlying37 rfl (Rd.ext hso e0)) rfl ?_
    refine J.op (Yd.sub rfl rfl (by first | omega | (rw [pcL_len]; omega) | (simp only [Int.toNat_natCast, pcL_len]; omega) | (simp only [Int.toNat_natCast]; omega))) rfl ?_
    refine J.op (Yd.assign rfl) rfl ?_
    refine J.nil ?_
    refine J.n_then ?_
    refine J.seq ?_
    refine J.seq ?_
    refine J.region ?_
    refine J.op (Yd.move rfl) rfl ?_
    refine J.op (Yd.lss rfl rfl) rfl ?_
    refine J.nil ?_
    refine J.n_then ?_
    refine J.cond_dec rfl (fun hc4 => ?_) (fun hc4 => ?_)
    · skip
      refine J.region ?_
      refine J.op (Yd.move rfl) rfl ?_
      refine J.op (Yd.move rfl) rfl ?_
      refine J.op (Yd.idx_m Try.underlying37 ti3 rfl rfl (Rd.ext hso e0) (by first | omega | (rw [pcL_len]; omega) | (simp only [Int.toNat_natCast, pcL_len]; omega) | (simp only [Int.toNat_natCast]; omega))) rfl ?_
      refine J.op (Yd.load pl3 rfl (Rd.cellI (Rd.ext hso e0) (by first | omega | (rw [pcL_len]; omega) | (simp only [Int.toNat_natCast, pcL_len]; omega) | (simp only [Int.toNat_natCast]; omega)))) rfl ?_
      refine J.op (Yd.move rfl) rfl ?_
      refine J.op (Yd.cast (Yd.lenE (K := pcS) Try.underlying24 rfl (Es.rd os59)) (congrArg (fun z : Nat => I (z : Int)) pcL_len)) rfl ?_
      refine J.eff (Ye.call cl26 rfl (Round_ok (by omega) (by omega))) rfl ?_
      rintro _ w5 ⟨rfl, x1⟩
      have e0 := e0.trans x1
      have hcb1 := hcb1.ext x1
      have os59 := os59.ext x1
      have oa59 := oa59.ext x1
      have hos1 := hos1.ext x1
      have hoh := hoh.ext x1
      have he1 := he1.ext x1
      clear x1
      obtain ⟨k, hkk⟩ := Int.eq_ofNat_of_zero_le (Int.emod_nonneg (ol.getD (i : Int).toNat 0) (show ((nPc l.length n) : Int) ≠ 0 by omega))
      have hkM : k < (nPc l.length n) := by have := Int.emod_lt_of_pos (ol.getD (i : Int).toNat 0) (show (0 : Int) < ((nPc l.length n) : Int) by omega); omega
      refine J.op (Yd.assign rfl) rfl ?_
      refine J.nil ?_
      refine J.n_then ?_
      refine J.seq ?_
      refine J.region ?_
      refine J.know (t := 16) (v' := I (k : Int)) rfl (congrArg (fun z : Int => I z) hkk) ?_
      have hkn := hMj k hkM
      have hdl := pcAt_len hkn
      have hdi := pcAt_int hkn
      have hbq : ¬ badQ id (k : Int) ((nPc l.length n) : Int) (pcAt l n k).length := fun h => h ⟨by omega, by omega, by omega, by omega⟩
      have hel := encB_len id (k : Int) ((nPc l.length n) : Int) (pcAt l n k)
      have hkL : k < (lsOf l n (nPc l.length n) hv).length := by rw [lsOf_len]; exact hkM
      refine J.op (Yd.move rfl) rfl ?_
      refine J.op (Yd.move rfl) rfl ?_
      refine J.op (Yd.idxE (K := pcS) Try.underlying24 ti29 rfl rfl (Es.rd os59) (by first | omega | (rw [pcL_len]; omega) | (simp only [Int.toNat_natCast, pcL_len]; omega) | (simp only [Int.toNat_natCast]; omega))) rfl ?_
      refine J.op (Yd.cast (Yd.loadEd (K := pcS) pcD ag29 ti29 rfl (Es.rd os59) (by first | omega | (rw [pcL_len]; omega) | (simp only [Int.toNat_natCast, pcL_len]; omega) | (simp only [Int.toNat_natCast]; omega))) (congrArg (fun z : Pc => Value.agg (pcS.c z).toArray) (by rw [Int.toNat_natCast, pcL_get hkM]))) rfl ?_
      refine J.eff (Ye.call cl22 rfl (Encode_good (x := ((id, (k : Int), ((nPc l.length n) : Int), chV a59 n l.length k) : Pc)) (l := (pcAt l n k)) (chV_bs (Ow.rd oa59) hkn) hbq (by omega))) rfl ?_
      rintro _ w6 ⟨v115_6, rfl, ov115_6, x1⟩
      have he1 := Els.more he1 (Ow.fr ov115_6)
      have ap_b1_v115_6 : Ap (some b1) v115_6.ownBlock := Ap.mk (Cel.live hcb1) (Ow.fr ov115_6)
      have ap_s59_v115_6 : Ap s59.ownBlock v115_6.ownBlock := Ap.mk (Es.live os59) (Ow.fr ov115_6)
      have ap_a59_v115_6 : Ap a59.ownBlock v115_6.ownBlock := Ap.mk (Ow.live oa59) (Ow.fr ov115_6)
      have ap_s1_v115_6 : Ap s1.ownBlock v115_6.ownBlock := Ap.mk (Ow.live hos1) (Ow.fr ov115_6)
      have ap_s87_3_v115_6 : Ap s87_3.ownBlock v115_6.ownBlock := Ap.mk (Ow.live hoh) (Ow.fr ov115_6)
      have fr_v115_6 : Fr w.heap.size v115_6.ownBlock := Fr.le (Ow.fr ov115_6) e0.size
      replace ov115_6 := Ow.base ov115_6 e0.size
      have e0 := e0.trans x1
      have hcb1 := hcb1.ext x1
      have os59 := os59.ext x1
      have oa59 := oa59.ext x1
      have hos1 := hos1.ext x1
      have hoh := hoh.ext x1
      have he1 := he1.ext x1
      clear x1
      refine J.op (Yd.move rfl) rfl ?_
      refine J.op (Yd.extract rfl rfl) rfl ?_
      refine J.op (Yd.extract rfl rfl) rfl ?_
      refine J.op (Yd.assign rfl) rfl ?_
      refine J.op (Yd.assign rfl) rfl ?_
      refine J.nil ?_
      refine J.n_then ?_
      refine J.seq ?_
      refine J.region ?_
      refine J.op (Yd.move rfl) rfl ?_
      refine J.eff (Ye.call cl24 rfl (Decode_any (l := encB id (k : Int) ((nPc l.length n) : Int) (pcAt l n k)) (Ow.rd ov115_6) (by omega))) rfl ?_
      rintro _ w7 ⟨⟨p1, q1, r1, vd1⟩, d1, k1, rfl, od1, hV1, x1⟩
      have h9 := (decV_encB hbq (by omega)).symm.trans hV1
      simp only [Prod.mk.injEq] at h9
      obtain ⟨rfl, rfl, rfl, rfl, rfl⟩ := h9
      clear hV1
      dsimp only at od1
      have he1 := Els.more he1 (Ow.fr od1)
      have ap_b1_vd1 : Ap (some b1) vd1.ownBlock := Ap.mk (Cel.live hcb1) (Ow.fr od1)
      have ap_s59_vd1 : Ap s59.ownBlock vd1.ownBlock := Ap.mk (Es.live os59) (Ow.fr od1)
      have ap_a59_vd1 : Ap a59.ownBlock vd1.ownBlock := Ap.mk (Ow.live oa59) (Ow.fr od1)
      have ap_s1_vd1 : Ap s1.ownBlock vd1.ownBlock := Ap.mk (Ow.live hos1) (Ow.fr od1)
      have ap_s87_3_vd1 : Ap s87_3.ownBlock vd1.ownBlock := Ap.mk (Ow.live hoh) (Ow.fr od1)
      have ap_v115_6_vd1 : Ap v115_6.ownBlock vd1.ownBlock := Ap.mk (Ow.live ov115_6) (Ow.fr od1)
      have fr_vd1 : Fr w.heap.size vd1.ownBlock := Fr.le (Ow.fr od1) e0.size
      replace od1 := Ow.base od1 e0.size
      have e0 := e0.trans x1
      have hcb1 := hcb1.ext x1
      have os59 := os59.ext x1
      have oa59 := oa59.ext x1
      have hos1 := hos1.ext x1
      have hoh := hoh.ext x1
      have he1 := he1.ext x1
      have ov115_6 := ov115_6.ext x1
      clear x1
      refine J.op (Yd.move rfl) rfl ?_
      refine J.op (Yd.extract rfl rfl) rfl ?_
      refine J.op (Yd.extract rfl rfl) rfl ?_
      refine J.eff (Ye.alloc ti29 (S := [(0, 4, [I 0, I 0, I 0, nilS])]) (by simp [SegAll, SegOK, Value.cells, nilS])) rfl ?_
      rintro _ w8 ⟨b19_7, rfl, hb_, c19_7, x1⟩
      have he1 := Els.more he1 (Fr.blk hb_)
      have ap_b1_b19_7 : Ap (some b1) (some b19_7) := Ap.mk (Cel.live hcb1) (Fr.blk hb_)
      have ap_s59_b19_7 : Ap s59.ownBlock (some b19_7) := Ap.mk (Es.live os59) (Fr.blk hb_)
      have ap_a59_b19_7 : Ap a59.ownBlock (some b19_7) := Ap.mk (Ow.live oa59) (Fr.blk hb_)
      have ap_s1_b19_7 : Ap s1.ownBlock (some b19_7) := Ap.mk (Ow.live hos1) (Fr.blk hb_)
      have ap_s87_3_b19_7 : Ap s87_3.ownBlock (some b19_7) := Ap.mk (Ow.live hoh) (Fr.blk hb_)
      have ap_v115_6_b19_7 : Ap v115_6.ownBlock (some b19_7) := Ap.mk (Ow.live ov115_6) (Fr.blk hb_)
      have ap_vd1_b19_7 : Ap vd1.ownBlock (some b19_7) := Ap.mk (Ow.live od1) (Fr.blk hb_)
      have fr_b19_7 : Fr w.heap.size (some b19_7) := Fr.le (Fr.blk hb_) e0.size
      have e0 := e0.trans x1
      have hcb1 := hcb1.ext x1
      have os59 := os59.ext x1
      have oa59 := oa59.ext x1
      have hos1 := hos1.ext x1
      have hoh := hoh.ext x1
      have he1 := he1.ext x1
      have ov115_6 := ov115_6.ext x1
      have od1 := od1.ext x1
      clear x1 hb_
      refine J.eff0 (Ye.storeA (ys := pcS.c ((id, (k : Int), ((nPc l.length n) : Int), vd1) : Pc)) ti29 c19_7 0 rfl rfl rfl rfl (by rfl) (by intro v_ hv_; simp only [pcS, pcD, List.mem_cons, List.mem_nil_iff, or_false] at hv_; rcases hv_ with rfl | rfl | rfl | rfl; rfl; rfl; rfl; exact Rd.one (Ow.rd od1))) ?_
      rintro _ w9 ⟨cX, hu⟩
      simp only [List.set_cons_zero, List.set_cons_succ] at cX
      have hg := hu.gb
      have hcb1 := Cel.gbk hcb1 hg ap_b1_b19_7
      have os59 := Es.gbk os59 hg ap_s59_b19_7
      have oa59 := Ow.gbk oa59 hg ap_a59_b19_7
      have hos1 := Ow.gbk hos1 hg ap_s1_b19_7
      have hoh := Ow.gbk hoh hg ap_s87_3_b19_7
      have he1 := Els.tnk he1 (Tn.ofGB hg) (fun r hr => by simp only [List.mem_cons, List.mem_nil_iff, or_false] at hr ⊢; first | exact hr | (rcases hr with rfl | rfl <;> simp) | (subst hr; simp))
      have ov115_6 := Ow.gbk ov115_6 hg ap_v115_6_b19_7
      have od1 := Ow.gbk od1 hg ap_vd1_b19_7
      have e0 := Ext.gbk e0 fr_b19_7 hg
      clear hg
      replace c19_7 := cX
      clear cX hu
      refine J.op (Yd.assign rfl) rfl ?_
      refine J.nil ?_
      refine J.n_then ?_
      refine J.seq ?_
      refine J.region ?_
      refine J.op (Yd.move rfl) rfl ?_
      refine J.op (Yd.cast (Yd.loadA ag29 ti29 rfl c19_7 0 rfl) (show Value.agg (pcS.c ((id, (k : Int), ((nPc l.length n) : Int), vd1) : Pc)).toArray = Value.agg (pcS.c ((id, (k : Int), ((lsOf l n (nPc l.length n) hv).length : Int), vd1) : Pc)).toArray by rw [lsOf_len])) rfl ?_
      by_cases hh : hv.getD k false = true
      · skip
        refine J.eff (Ye.call cl11 rfl (Add1_same (k := k) (xv := vd1) (l := (pcAt l n k)) (hBx hv) hcb1 he1 (Ow.rd hos1) (Ow.rd od1) hkL hdi (by rw [lsOf_get hkM, hh, if_pos rfl]; exact pcAt_ne (by omega) hkn) (by rw [lsOf_get hkM, hh, if_pos rfl]))) rfl ?_
        rintro _ w10 ⟨rfl, x1⟩
        have e0 := e0.trans x1
        have hcb1 := hcb1.ext x1
        have os59 := os59.ext x1
        have oa59 := oa59.ext x1
        have hos1 := hos1.ext x1
        have hoh := hoh.ext x1
        have he1 := he1.ext x1
        have ov115_6 := ov115_6.ext x1
        have od1 := od1.ext x1
        have c19_7 := c19_7.ext x1
        clear x1
        obtain ⟨hv2, hhv2⟩ : ∃ z, z = hv.set k true := ⟨_, rfl⟩
        have hh2 : hv2.length = (nPc l.length n) := by rw [hhv2, List.length_set]; exact hhl
        have hmc := missL_cnt (l := l) (n := n) (M := (nPc l.length n)) (hv := hv2) (by omega) hh2 hMj
        have hcc : hv2.count true = hv.count true := by rw [hhv2, set_same (by omega) hh]
        rw [← set_same (hv := hv) (k := k) (by omega) hh, ← hhv2] at he1
        have hBy := hBx hv2
        refine J.op (Yd.assign rfl) rfl ?_
        refine J.nil ?_
        refine J.n_then ?_
        refine J.seq ?_
        refine J.region ?_
        refine J.op (Yd.assign rfl) rfl ?_
        refine J.nil ?_
        refine J.n_then ?_
        refine J.seq ?_
        refine J.seq ?_
        refine J.region ?_
        refine J.op (Yd.move rfl) rfl ?_
        refine J.op (Yd.move rfl) rfl ?_
        refine J.op (Yd.idx_m Try.underlying62 ti4 rfl rfl (Ow.rd hoh) (by first | omega | (rw [pcL_len]; omega) | (simp only [Int.toNat_natCast, pcL_len]; omega) | (simp only [Int.toNat_natCast]; omega))) rfl ?_
        refine J.op (Yd.load pl4 rfl (Rd.cellM (f := fun b => Value.bool b) (Ow.rd hoh) (show hv[(k : Int).toNat]? = some (hv.getD k false) by rw [Int.toNat_natCast]; exact getB (by omega)))) rfl ?_
        refine J.nil ?_
        refine J.n_then ?_
        refine J.know (t := 129) (v' := .bool true) rfl (congrArg Value.bool hh) ?_
        refine J.cond_true rfl ?_
        refine J.region ?_
        refine J.op (Yd.assign rfl) rfl ?_
        refine J.nil ?_
        refine J.n_then ?_
        refine J.seq ?_
        refine J.region ?_
        refine J.op (Yd.move rfl) rfl ?_
        refine J.op (Yd.move rfl) rfl ?_
        refine J.op (Yd.idx_m Try.underlying62 ti4 rfl rfl (Ow.rd hoh) (by first | omega | (rw [pcL_len]; omega) | (simp only [Int.toNat_natCast, pcL_len]; omega) | (simp only [Int.toNat_natCast]; omega))) rfl ?_
        refine J.eff0 (Ye.storeOwM ti4 hoh rfl rfl (by first | omega | (rw [pcL_len]; omega) | (simp only [Int.toNat_natCast, pcL_len]; omega) | (simp only [Int.toNat_natCast]; omega)) (fun _ => rfl) (fun _ => rfl)) ?_
        rintro _ w11 ⟨o', hg⟩
        have hcb1 := Cel.gbk hcb1 hg ap_b1_s87_3
        have os59 := Es.gbk os59 hg ap_s59_s87_3
        have oa59 := Ow.gbk oa59 hg ap_a59_s87_3
        have hos1 := Ow.gbk hos1 hg ap_s1_s87_3
        have he1 := Els.tnk he1 (Tn.ofGB hg) (fun r hr => by simp only [List.mem_cons, List.mem_nil_iff, or_false] at hr ⊢; first | exact hr | (rcases hr with rfl | rfl <;> simp) | (subst hr; simp))
        have ov115_6 := Ow.gbk ov115_6 hg (Ap.symm ap_s87_3_v115_6)
        have od1 := Ow.gbk od1 hg (Ap.symm ap_s87_3_vd1)
        have c19_7 := Cel.gbk c19_7 hg (Ap.symm ap_s87_3_b19_7)
        have e0 := Ext.gbk e0 fr_s87_3 hg
        replace hoh := o'
        clear hg o'
        refine J.nil ?_
        refine J.n_then ?_
        refine J.seq ?_
        refine J.region ?_
        refine J.op (Yd.move rfl) rfl ?_
        by_cases hml : missL (lsOf l n (nPc l.length n) hv2) = []
        · skip
          refine J.eff (Ye.call cl10 rfl (Done_yes hBy hcb1 he1 (Ow.rd hos1) hml (by rw [lsOf_flat hml (nPc_mul (by omega))]; omega))) rfl ?_
          rintro _ w12 ⟨v137_12, rfl, ov137_12, x1⟩
          have he1 := Els.more he1 (Ow.fr ov137_12)
          have ap_b1_v137_12 : Ap (some b1) v137_12.ownBlock := Ap.mk (Cel.live hcb1) (Ow.fr ov137_12)
          have ap_s59_v137_12 : Ap s59.ownBlock v137_12.ownBlock := Ap.mk (Es.live os59) (Ow.fr ov137_12)
          have ap_a59_v137_12 : Ap a59.ownBlock v137_12.ownBlock := Ap.mk (Ow.live oa59) (Ow.fr ov137_12)
          have ap_s1_v137_12 : Ap s1.ownBlock v137_12.ownBlock := Ap.mk (Ow.live hos1) (Ow.fr ov137_12)
          have ap_s87_3_v137_12 : Ap s87_3.ownBlock v137_12.ownBlock := Ap.mk (Ow.live hoh) (Ow.fr ov137_12)
          have ap_v115_6_v137_12 : Ap v115_6.ownBlock v137_12.ownBlock := Ap.mk (Ow.live ov115_6) (Ow.fr ov137_12)
          have ap_vd1_v137_12 : Ap vd1.ownBlock v137_12.ownBlock := Ap.mk (Ow.live od1) (Ow.fr ov137_12)
          have ap_b19_7_v137_12 : Ap (some b19_7) v137_12.ownBlock := Ap.mk (Cel.live c19_7) (Ow.fr ov137_12)
          have fr_v137_12 : Fr w.heap.size v137_12.ownBlock := Fr.le (Ow.fr ov137_12) e0.size
          replace ov137_12 := Ow.base ov137_12 e0.size
          have e0 := e0.trans x1
          have hcb1 := hcb1.ext x1
          have os59 := os59.ext x1
          have oa59 := oa59.ext x1
          have hos1 := hos1.ext x1
          have hoh := hoh.ext x1
          have he1 := he1.ext x1
          have ov115_6 := ov115_6.ext x1
          have od1 := od1.ext x1
          have c19_7 := c19_7.ext x1
          clear x1
          refine J.op (Yd.move rfl) rfl ?_
          refine J.op (Yd.extract rfl rfl) rfl ?_
          refine J.op (Yd.extract rfl rfl) rfl ?_
          refine J.op (Yd.assign rfl) rfl ?_
          refine J.op (Yd.assign rfl) rfl ?_
          refine J.nil ?_
          refine J.n_then ?_
          refine J.seq ?_
          refine J.region ?_
          refine J.op (Yd.move rfl) rfl ?_
          refine J.op (Yd.neq rfl rfl) rfl ?_
          refine J.op (Yd.move rfl) rfl ?_
          refine J.know (t := 142) (v' := .bool false) rfl (ff (by decide)) ?_
          refine J.op_g rfl rfl rfl (Yd.move rfl) rfl ?_
          refine J.op_g rfl rfl rfl (Yd.neq rfl rfl) rfl ?_
          refine J.op (Yd.pick_f rfl rfl) rfl ?_
          refine J.op (Yd.move rfl) rfl ?_
          refine J.know (t := 146) (v' := .bool false) rfl (ff (by decide)) ?_
          refine J.op_g rfl rfl rfl (Yd.move rfl) rfl ?_
          refine J.op_g rfl rfl rfl (Yd.move rfl) rfl ?_
          refine J.op_g rfl rfl rfl (Yd.neq rfl rfl) rfl ?_
          refine J.op (Yd.pick_f rfl rfl) rfl ?_
          refine J.op (Yd.move rfl) rfl ?_
          refine J.know (t := 151) (v' := .bool false) rfl (ff (by decide)) ?_
          refine J.op_g rfl rfl rfl (Yd.move rfl) rfl ?_
          refine J.eff_g rfl rfl rfl (Ye.call cl13 rfl (Miss1_ok hBy hcb1 he1 (Ow.rd hos1))) rfl ?_
          rintro v153_13 w13 ⟨ov153_13, x1⟩
          have he1 := Els.more he1 (Ow.fr ov153_13)
          have ap_b1_v153_13 : Ap (some b1) v153_13.ownBlock := Ap.mk (Cel.live hcb1) (Ow.fr ov153_13)
          have ap_s59_v153_13 : Ap s59.ownBlock v153_13.ownBlock := Ap.mk (Es.live os59) (Ow.fr ov153_13)
          have ap_a59_v153_13 : Ap a59.ownBlock v153_13.ownBlock := Ap.mk (Ow.live oa59) (Ow.fr ov153_13)
          have ap_s1_v153_13 : Ap s1.ownBlock v153_13.ownBlock := Ap.mk (Ow.live hos1) (Ow.fr ov153_13)
          have ap_s87_3_v153_13 : Ap s87_3.ownBlock v153_13.ownBlock := Ap.mk (Ow.live hoh) (Ow.fr ov153_13)
          have ap_v115_6_v153_13 : Ap v115_6.ownBlock v153_13.ownBlock := Ap.mk (Ow.live ov115_6) (Ow.fr ov153_13)
          have ap_vd1_v153_13 : Ap vd1.ownBlock v153_13.ownBlock := Ap.mk (Ow.live od1) (Ow.fr ov153_13)
          have ap_b19_7_v153_13 : Ap (some b19_7) v153_13.ownBlock := Ap.mk (Cel.live c19_7) (Ow.fr ov153_13)
          have ap_v137_12_v153_13 : Ap v137_12.ownBlock v153_13.ownBlock := Ap.mk (Ow.live ov137_12) (Ow.fr ov153_13)
          have fr_v153_13 : Fr w.heap.size v153_13.ownBlock := Fr.le (Ow.fr ov153_13) e0.size
          replace ov153_13 := Ow.base ov153_13 e0.size
          have e0 := e0.trans x1
          have hcb1 := hcb1.ext x1
          have os59 := os59.ext x1
          have oa59 := oa59.ext x1
          have hos1 := hos1.ext x1
          have hoh := hoh.ext x1
          have he1 := he1.ext x1
          have ov115_6 := ov115_6.ext x1
          have od1 := od1.ext x1
          have c19_7 := c19_7.ext x1
          have ov137_12 := ov137_12.ext x1
          clear x1
          refine J.op_g rfl rfl rfl (Yd.len_m Try.underlying37 rfl (Ow.rd ov153_13)) rfl ?_
          refine J.op_g rfl rfl rfl (Yd.move rfl) rfl ?_
          refine J.op_g rfl rfl rfl (Yd.cast (Yd.lenE (K := pcS) Try.underlying24 rfl (Es.rd os59)) (congrArg (fun z : Nat => I (z : Int)) pcL_len)) rfl ?_
          refine J.op_g rfl rfl rfl (Yd.move rfl) rfl ?_
          refine J.op_g rfl rfl rfl (Yd.sub rfl rfl (by first | omega | (rw [pcL_len]; omega) | (simp only [Int.toNat_natCast, pcL_len]; omega) | (simp only [Int.toNat_natCast]; omega))) rfl ?_
          refine J.op_g rfl rfl rfl (Yd.neq rfl rfl) rfl ?_
          refine J.op (Yd.pick_f rfl rfl) rfl ?_
          refine J.op (Yd.move rfl) rfl ?_
          refine J.know (t := 161) (v' := .bool false) rfl (ff (by omega)) ?_
          refine J.op_g rfl rfl rfl (Yd.move rfl) rfl ?_
          refine J.op_g rfl rfl rfl (Yd.move rfl) rfl ?_
          refine J.op_g rfl rfl rfl (Yd.move rfl) rfl ?_
          refine J.op_g rfl rfl rfl (Yd.cast (Yd.lenE (K := pcS) Try.underlying24 rfl (Es.rd os59)) (congrArg (fun z : Nat => I (z : Int)) pcL_len)) rfl ?_
          refine J.op_g rfl rfl rfl (Yd.eql rfl rfl) rfl ?_
          refine J.op_g rfl rfl rfl (Yd.neqb rfl rfl Try.underlying4) rfl ?_
          refine J.op (Yd.pick_f rfl rfl) rfl ?_
          refine J.op (Yd.move rfl) rfl ?_
          refine J.know (t := 169) (v' := .bool false) rfl (ff (by exact fun h => h (by rw [hml, List.length_nil] at hmc; exact (decide_eq_true (by omega)).symm))) ?_
          refine J.op_g rfl rfl rfl (Yd.move rfl) rfl ?_
          refine J.op_g rfl rfl rfl (Yd.move rfl) rfl ?_
          refine J.op_g rfl rfl rfl (Yd.move rfl) rfl ?_
          refine J.op_g rfl rfl rfl (Yd.bstr Try.underlying22 Try.underlying5 Try.underlying9 rfl (Ow.rd ov137_12)) rfl ?_
          refine J.op_g rfl rfl rfl (Yd.move rfl) rfl ?_
          refine J.op_g rfl rfl rfl (Yd.bstr Try.underlying22 Try.underlying5 Try.underlying9 rfl (Rd.ext ha e0)) rfl ?_
          refine J.op_g rfl rfl rfl (Yd.sne rfl rfl) rfl ?_
          refine J.op_g rfl rfl rfl (Yd.pick_t rfl rfl) rfl ?_
          refine J.op (Yd.pick_f rfl rfl) rfl ?_
          refine J.nil ?_
          refine J.n_then ?_
          refine J.know (t := 178) (v' := .bool false) rfl (ff (by exact fun h => h (lsOf_flat hml (nPc_mul (by omega))))) ?_
          refine J.cond_false rfl ?_
          refine J.skip ?_
          refine J.n_block ?_
          refine J.n_then ?_
          refine J.region ?_
          refine J.op (Yd.move rfl) rfl ?_
          refine J.op (Yd.add rfl rfl (by first | omega | (rw [pcL_len]; omega) | (simp only [Int.toNat_natCast, pcL_len]; omega) | (simp only [Int.toNat_natCast]; omega))) rfl ?_
          refine J.op (Yd.assign rfl) rfl ?_
          refine J.nil ?_
          refine J.n_then ?_
          exact J.round ((i + 1, hv2, vs1)) ⟨rfl, rfl, rfl, rfl, (someI (by show _ = ((List.count true hv2 : Nat) : Int); omega)), rfl, rfl, rfl, rfl, trivial⟩ (⟨by show i + 1 ≤ ol.length + (nPc l.length n); omega, hh2, (Els.sub he1 (fun q hq => by simp only [List.mem_cons, List.mem_nil_iff, or_false] at hq ⊢; rcases hq with rfl | rfl <;> simp)), hcb1, os59, oa59, hos1, (by have h9 := hoh; rw [Int.toNat_natCast, ← hhv2] at h9; exact h9), e0⟩) (by show ol.length + (nPc l.length n) - (i + 1) < ol.length + (nPc l.length n) - i; omega)
        · skip
          refine J.eff (Ye.call cl10 rfl (Done_no hBy hcb1 he1 (Ow.rd hos1) hml)) rfl ?_
          rintro _ w14 ⟨rfl, x1⟩
          have e0 := e0.trans x1
          have hcb1 := hcb1.ext x1
          have os59 := os59.ext x1
          have oa59 := oa59.ext x1
          have hos1 := hos1.ext x1
          have hoh := hoh.ext x1
          have he1 := he1.ext x1
          have ov115_6 := ov115_6.ext x1
          have od1 := od1.ext x1
          have c19_7 := c19_7.ext x1
          clear x1
          refine J.op (Yd.move rfl) rfl ?_
          refine J.op (Yd.extract rfl rfl) rfl ?_
          refine J.op (Yd.extract rfl rfl) rfl ?_
          refine J.op (Yd.assign rfl) rfl ?_
          refine J.op (Yd.assign rfl) rfl ?_
          refine J.nil ?_
          refine J.n_then ?_
          refine J.seq ?_
          refine J.region ?_
          refine J.op (Yd.move rfl) rfl ?_
          refine J.op (Yd.neq rfl rfl) rfl ?_
          refine J.op (Yd.move rfl) rfl ?_
          refine J.know (t := 142) (v' := .bool false) rfl (ff (by decide)) ?_
          refine J.op_g rfl rfl rfl (Yd.move rfl) rfl ?_
          refine J.op_g rfl rfl rfl (Yd.neq rfl rfl) rfl ?_
          refine J.op (Yd.pick_f rfl rfl) rfl ?_
          refine J.op (Yd.move rfl) rfl ?_
          refine J.know (t := 146) (v' := .bool false) rfl (ff (by decide)) ?_
          refine J.op_g rfl rfl rfl (Yd.move rfl) rfl ?_
          refine J.op_g rfl rfl rfl (Yd.move rfl) rfl ?_
          refine J.op_g rfl rfl rfl (Yd.neq rfl rfl) rfl ?_
          refine J.op (Yd.pick_f rfl rfl) rfl ?_
          refine J.op (Yd.move rfl) rfl ?_
          refine J.know (t := 151) (v' := .bool false) rfl (ff (by decide)) ?_
          refine J.op_g rfl rfl rfl (Yd.move rfl) rfl ?_
          refine J.eff_g rfl rfl rfl (Ye.call cl13 rfl (Miss1_ok hBy hcb1 he1 (Ow.rd hos1))) rfl ?_
          rintro v153_15 w15 ⟨ov153_15, x1⟩
          have he1 := Els.more he1 (Ow.fr ov153_15)
          have ap_b1_v153_15 : Ap (some b1) v153_15.ownBlock := Ap.mk (Cel.live hcb1) (Ow.fr ov153_15)
          have ap_s59_v153_15 : Ap s59.ownBlock v153_15.ownBlock := Ap.mk (Es.live os59) (Ow.fr ov153_15)
          have ap_a59_v153_15 : Ap a59.ownBlock v153_15.ownBlock := Ap.mk (Ow.live oa59) (Ow.fr ov153_15)
          have ap_s1_v153_15 : Ap s1.ownBlock v153_15.ownBlock := Ap.mk (Ow.live hos1) (Ow.fr ov153_15)
          have ap_s87_3_v153_15 : Ap s87_3.ownBlock v153_15.ownBlock := Ap.mk (Ow.live hoh) (Ow.fr ov153_15)
          have ap_v115_6_v153_15 : Ap v115_6.ownBlock v153_15.ownBlock := Ap.mk (Ow.live ov115_6) (Ow.fr ov153_15)
          have ap_vd1_v153_15 : Ap vd1.ownBlock v153_15.ownBlock := Ap.mk (Ow.live od1) (Ow.fr ov153_15)
          have ap_b19_7_v153_15 : Ap (some b19_7) v153_15.ownBlock := Ap.mk (Cel.live c19_7) (Ow.fr ov153_15)
          have fr_v153_15 : Fr w.heap.size v153_15.ownBlock := Fr.le (Ow.fr ov153_15) e0.size
          replace ov153_15 := Ow.base ov153_15 e0.size
          have e0 := e0.trans x1
          have hcb1 := hcb1.ext x1
          have os59 := os59.ext x1
          have oa59 := oa59.ext x1
          have hos1 := hos1.ext x1
          have hoh := hoh.ext x1
          have he1 := he1.ext x1
          have ov115_6 := ov115_6.ext x1
          have od1 := od1.ext x1
          have c19_7 := c19_7.ext x1
          clear x1
          refine J.op_g rfl rfl rfl (Yd.len_m Try.underlying37 rfl (Ow.rd ov153_15)) rfl ?_
          refine J.op_g rfl rfl rfl (Yd.move rfl) rfl ?_
          refine J.op_g rfl rfl rfl (Yd.cast (Yd.lenE (K := pcS) Try.underlying24 rfl (Es.rd os59)) (congrArg (fun z : Nat => I (z : Int)) pcL_len)) rfl ?_
          refine J.op_g rfl rfl rfl (Yd.move rfl) rfl ?_
          refine J.op_g rfl rfl rfl (Yd.sub rfl rfl (by first | omega | (rw [pcL_len]; omega) | (simp only [Int.toNat_natCast, pcL_len]; omega) | (simp only [Int.toNat_natCast]; omega))) rfl ?_
          refine J.op_g rfl rfl rfl (Yd.neq rfl rfl) rfl ?_
          refine J.op (Yd.pick_f rfl rfl) rfl ?_
          refine J.op (Yd.move rfl) rfl ?_
          refine J.know (t := 161) (v' := .bool false) rfl (ff (by omega)) ?_
          refine J.op_g rfl rfl rfl (Yd.move rfl) rfl ?_
          refine J.op_g rfl rfl rfl (Yd.move rfl) rfl ?_
          refine J.op_g rfl rfl rfl (Yd.move rfl) rfl ?_
          refine J.op_g rfl rfl rfl (Yd.cast (Yd.lenE (K := pcS) Try.underlying24 rfl (Es.rd os59)) (congrArg (fun z : Nat => I (z : Int)) pcL_len)) rfl ?_
          refine J.op_g rfl rfl rfl (Yd.eql rfl rfl) rfl ?_
          refine J.op_g rfl rfl rfl (Yd.neqb rfl rfl Try.underlying4) rfl ?_
          refine J.op (Yd.pick_f rfl rfl) rfl ?_
          refine J.op (Yd.move rfl) rfl ?_
          refine J.know (t := 169) (v' := .bool false) rfl (ff (by exact fun h => h (by have h8 := List.length_pos_iff.2 hml; exact (decide_eq_false (by omega)).symm))) ?_
          refine J.op_g rfl rfl rfl (Yd.move rfl) rfl ?_
          refine J.op_g rfl rfl rfl (Yd.move rfl) rfl ?_
          refine J.not_g rfl rfl rfl rfl rfl ?_
          refine J.not_g rfl rfl rfl rfl rfl ?_
          refine J.not_g rfl rfl rfl rfl rfl ?_
          refine J.not_g rfl rfl rfl rfl rfl ?_
          refine J.not_g rfl rfl rfl rfl rfl ?_
          refine J.op_g rfl rfl rfl (Yd.pick_f rfl rfl) rfl ?_
          refine J.op (Yd.pick_f rfl rfl) rfl ?_
          refine J.nil ?_
          refine J.n_then ?_
          refine J.cond_false rfl ?_
          refine J.skip ?_
          refine J.n_block ?_
          refine J.n_then ?_
          refine J.region ?_
          refine J.op (Yd.move rfl) rfl ?_
          refine J.op (Yd.add rfl rfl (by first | omega | (rw [pcL_len]; omega) | (simp only [Int.toNat_natCast, pcL_len]; omega) | (simp only [Int.toNat_natCast]; omega))) rfl ?_
          refine J.op (Yd.assign rfl) rfl ?_
          refine J.nil ?_
          refine J.n_then ?_
          exact J.round ((i + 1, hv2, vs1)) ⟨rfl, rfl, rfl, rfl, (someI (by show _ = ((List.count true hv2 : Nat) : Int); omega)), rfl, rfl, rfl, rfl, trivial⟩ (⟨by show i + 1 ≤ ol.length + (nPc l.length n); omega, hh2, (Els.sub he1 (fun q hq => by simp only [List.mem_cons, List.mem_nil_iff, or_false] at hq ⊢; rcases hq with rfl | rfl <;> simp)), hcb1, os59, oa59, hos1, (by have h9 := hoh; rw [Int.toNat_natCast, ← hhv2] at h9; exact h9), e0⟩) (by show ol.length + (nPc l.length n) - (i + 1) < ol.length + (nPc l.length n) - i; omega)
      · skip
        have hsz9 := e0.size
        refine J.eff (Ye.call cl11 rfl (Add1_new (k := k) (xv := vd1) (l := (pcAt l n k)) (hBx hv) hcb1 he1 hos1 hap_b1 (fun w' ht => Rd.tnk (Ow.rd od1) ht (ApL.one (Ap.symm ap_s1_vd1))) hkL hdi (by rw [lsOf_get hkM, if_neg hh]))) rfl ?_
        rintro _ w16 ⟨rfl, v1n, h6a, h6b, x1⟩
        have he1 := Els.more he1 (Ow.fr h6b)
        have ap_b1_v1n : Ap (some b1) v1n.ownBlock := Ap.mk (Cel.live hcb1) (Ow.fr h6b)
        have ap_s59_v1n : Ap s59.ownBlock v1n.ownBlock := Ap.mk (Es.live os59) (Ow.fr h6b)
        have ap_a59_v1n : Ap a59.ownBlock v1n.ownBlock := Ap.mk (Ow.live oa59) (Ow.fr h6b)
        have ap_s1_v1n : Ap s1.ownBlock v1n.ownBlock := Ap.mk (Ow.live hos1) (Ow.fr h6b)
        have ap_s87_3_v1n : Ap s87_3.ownBlock v1n.ownBlock := Ap.mk (Ow.live hoh) (Ow.fr h6b)
        have ap_v115_6_v1n : Ap v115_6.ownBlock v1n.ownBlock := Ap.mk (Ow.live ov115_6) (Ow.fr h6b)
        have ap_vd1_v1n : Ap vd1.ownBlock v1n.ownBlock := Ap.mk (Ow.live od1) (Ow.fr h6b)
        have ap_b19_7_v1n : Ap (some b19_7) v1n.ownBlock := Ap.mk (Cel.live c19_7) (Ow.fr h6b)
        have fr_v1n : Fr w.heap.size v1n.ownBlock := Fr.le (Ow.fr h6b) e0.size
        have hcb1 := Cel.tnk hcb1 x1 (ApL.one hap_b1)
        have os59 := Es.tnk os59 x1 (ApL.one ap_s59_s1)
        have oa59 := Ow.tnk oa59 x1 (ApL.one ap_a59_s1)
        have hoh := Ow.tnk hoh x1 (ApL.one (Ap.symm ap_s1_s87_3))
        have he1 := Els.tnk he1 x1 (fun r hr => by simp only [List.mem_cons, List.mem_nil_iff, or_false] at hr ⊢; first | exact hr | (rcases hr with rfl | rfl <;> simp) | (subst hr; simp))
        have ov115_6 := Ow.tnk ov115_6 x1 (ApL.one (Ap.symm ap_s1_v115_6))
        have od1 := Ow.tnk od1 x1 (ApL.one (Ap.symm ap_s1_vd1))
        have c19_7 := Cel.tnk c19_7 x1 (ApL.one (Ap.symm ap_s1_b19_7))
        have e0 := Ext.tnk e0 (fun q hq => by simp only [List.mem_singleton] at hq; subst hq; exact fr_s1) x1
        clear x1
        replace hos1 := h6a
        clear h6a
        rw [Int.toNat_natCast] at hos1
        replace h6b := Ow.base h6b hsz9
        have he1 := Els.sub (qs := [s1.ownBlock, s87_3.ownBlock]) he1 (fun q hq => by simp only [List.mem_cons, List.mem_nil_iff, or_false] at hq ⊢; rcases hq with rfl | rfl <;> simp)
        have he1 := Els.set he1 hkL (Ow.rd h6b) (pcAt_ne (by omega) hkn) (ApL.two (Ap.symm ap_s1_v1n) (Ap.symm ap_s87_3_v1n)) (Ow.live h6b)
        obtain ⟨hv2, hhv2⟩ : ∃ z, z = hv.set k true := ⟨_, rfl⟩
        have hh2 : hv2.length = (nPc l.length n) := by rw [hhv2, List.length_set]; exact hhl
        have hmc := missL_cnt (l := l) (n := n) (M := (nPc l.length n)) (hv := hv2) (by omega) hh2 hMj
        have hcc : hv2.count true = hv.count true + 1 := by rw [hhv2]; exact cnt_set (by omega) (by simpa using hh)
        rw [lsOf_set hkM hhl, ← hhv2] at he1
        have hBy := hBx hv2
        refine J.op (Yd.assign rfl) rfl ?_
        refine J.nil ?_
        refine J.n_then ?_
        refine J.seq ?_
        refine J.region ?_
        refine J.op (Yd.assign rfl) rfl ?_
        refine J.nil ?_
        refine J.n_then ?_
        refine J.seq ?_
        refine J.seq ?_
        refine J.region ?_
        refine J.op (Yd.move rfl) rfl ?_
        refine J.op (Yd.move rfl) rfl ?_
        refine J.op (Yd.idx_m Try.underlying62 ti4 rfl rfl (Ow.rd hoh) (by first | omega | (rw [pcL_len]; omega) | (simp only [Int.toNat_natCast, pcL_len]; omega) | (simp only [Int.toNat_natCast]; omega))) rfl ?_
        refine J.op (Yd.load pl4 rfl (Rd.cellM (f := fun b => Value.bool b) (Ow.rd hoh) (show hv[(k : Int).toNat]? = some (hv.getD k false) by rw [Int.toNat_natCast]; exact getB (by omega)))) rfl ?_
        refine J.nil ?_
        refine J.n_then ?_
        refine J.know (t := 129) (v' := .bool false) rfl (congrArg Value.bool (by simpa using hh)) ?_
        refine J.cond_false rfl ?_
        refine J.region ?_
        refine J.op (Yd.move rfl) rfl ?_
        refine J.op (Yd.add rfl rfl (by first | omega | (rw [pcL_len]; omega) | (simp only [Int.toNat_natCast, pcL_len]; omega) | (simp only [Int.toNat_natCast]; omega))) rfl ?_
        refine J.op (Yd.assign rfl) rfl ?_
        refine J.nil ?_
        refine J.n_then ?_
        refine J.seq ?_
        refine J.region ?_
        refine J.op (Yd.move rfl) rfl ?_
        refine J.op (Yd.move rfl) rfl ?_
        refine J.op (Yd.idx_m Try.underlying62 ti4 rfl rfl (Ow.rd hoh) (by first | omega | (rw [pcL_len]; omega) | (simp only [Int.toNat_natCast, pcL_len]; omega) | (simp only [Int.toNat_natCast]; omega))) rfl ?_
        refine J.eff0 (Ye.storeOwM ti4 hoh rfl rfl (by first | omega | (rw [pcL_len]; omega) | (simp only [Int.toNat_natCast, pcL_len]; omega) | (simp only [Int.toNat_natCast]; omega)) (fun _ => rfl) (fun _ => rfl)) ?_
        rintro _ w17 ⟨o', hg⟩
        have hcb1 := Cel.gbk hcb1 hg ap_b1_s87_3
        have os59 := Es.gbk os59 hg ap_s59_s87_3
        have oa59 := Ow.gbk oa59 hg ap_a59_s87_3
        have hos1 := Ow.gbk hos1 hg ap_s1_s87_3
        have he1 := Els.tnk he1 (Tn.ofGB hg) (fun r hr => by simp only [List.mem_cons, List.mem_nil_iff, or_false] at hr ⊢; first | exact hr | (rcases hr with rfl | rfl <;> simp) | (subst hr; simp))
        have ov115_6 := Ow.gbk ov115_6 hg (Ap.symm ap_s87_3_v115_6)
        have od1 := Ow.gbk od1 hg (Ap.symm ap_s87_3_vd1)
        have c19_7 := Cel.gbk c19_7 hg (Ap.symm ap_s87_3_b19_7)
        have h6b := Ow.gbk h6b hg (Ap.symm ap_s87_3_v1n)
        have e0 := Ext.gbk e0 fr_s87_3 hg
        replace hoh := o'
        clear hg o'
        refine J.nil ?_
        refine J.n_then ?_
        refine J.seq ?_
        refine J.region ?_
        refine J.op (Yd.move rfl) rfl ?_
        by_cases hml : missL (lsOf l n (nPc l.length n) hv2) = []
        · skip
          refine J.eff (Ye.call cl10 rfl (Done_yes hBy hcb1 he1 (Ow.rd hos1) hml (by rw [lsOf_flat hml (nPc_mul (by omega))]; omega))) rfl ?_
          rintro _ w18 ⟨v137_18, rfl, ov137_18, x1⟩
          have he1 := Els.more he1 (Ow.fr ov137_18)
          have ap_b1_v137_18 : Ap (some b1) v137_18.ownBlock := Ap.mk (Cel.live hcb1) (Ow.fr ov137_18)
          have ap_s59_v137_18 : Ap s59.ownBlock v137_18.ownBlock := Ap.mk (Es.live os59) (Ow.fr ov137_18)
          have ap_a59_v137_18 : Ap a59.ownBlock v137_18.ownBlock := Ap.mk (Ow.live oa59) (Ow.fr ov137_18)
          have ap_s1_v137_18 : Ap s1.ownBlock v137_18.ownBlock := Ap.mk (Ow.live hos1) (Ow.fr ov137_18)
          have ap_s87_3_v137_18 : Ap s87_3.ownBlock v137_18.ownBlock := Ap.mk (Ow.live hoh) (Ow.fr ov137_18)
          have ap_v115_6_v137_18 : Ap v115_6.ownBlock v137_18.ownBlock := Ap.mk (Ow.live ov115_6) (Ow.fr ov137_18)
          have ap_vd1_v137_18 : Ap vd1.ownBlock v137_18.ownBlock := Ap.mk (Ow.live od1) (Ow.fr ov137_18)
          have ap_b19_7_v137_18 : Ap (some b19_7) v137_18.ownBlock := Ap.mk (Cel.live c19_7) (Ow.fr ov137_18)
          have ap_v1n_v137_18 : Ap v1n.ownBlock v137_18.ownBlock := Ap.mk (Ow.live h6b) (Ow.fr ov137_18)
          have fr_v137_18 : Fr w.heap.size v137_18.ownBlock := Fr.le (Ow.fr ov137_18) e0.size
          replace ov137_18 := Ow.base ov137_18 e0.size
          have e0 := e0.trans x1
          have hcb1 := hcb1.ext x1
          have os59 := os59.ext x1
          have oa59 := oa59.ext x1
          have hos1 := hos1.ext x1
          have hoh := hoh.ext x1
          have he1 := he1.ext x1
          have ov115_6 := ov115_6.ext x1
          have od1 := od1.ext x1
          have c19_7 := c19_7.ext x1
          have h6b := h6b.ext x1
          clear x1
          refine J.op (Yd.move rfl) rfl ?_
          refine J.op (Yd.extract rfl rfl) rfl ?_
          refine J.op (Yd.extract rfl rfl) rfl ?_
          refine J.op (Yd.assign rfl) rfl ?_
          refine J.op (Yd.assign rfl) rfl ?_
          refine J.nil ?_
          refine J.n_then ?_
          refine J.seq ?_
          refine J.region ?_
          refine J.op (Yd.move rfl) rfl ?_
          refine J.op (Yd.neq rfl rfl) rfl ?_
          refine J.op (Yd.move rfl) rfl ?_
          refine J.know (t := 142) (v' := .bool false) rfl (ff (by decide)) ?_
          refine J.op_g rfl rfl rfl (Yd.move rfl) rfl ?_
          refine J.op_g rfl rfl rfl (Yd.neq rfl rfl) rfl ?_
          refine J.op (Yd.pick_f rfl rfl) rfl ?_
          refine J.op (Yd.move rfl) rfl ?_
          refine J.know (t := 146) (v' := .bool false) rfl (ff (by decide)) ?_
          refine J.op_g rfl rfl rfl (Yd.move rfl) rfl ?_
          refine J.op_g rfl rfl rfl (Yd.move rfl) rfl ?_
          refine J.op_g rfl rfl rfl (Yd.neq rfl rfl) rfl ?_
          refine J.op (Yd.pick_f rfl rfl) rfl ?_
          refine J.op (Yd.move rfl) rfl ?_
          refine J.know (t := 151) (v' := .bool false) rfl (ff (by decide)) ?_
          refine J.op_g rfl rfl rfl (Yd.move rfl) rfl ?_
          refine J.eff_g rfl rfl rfl (Ye.call cl13 rfl (Miss1_ok hBy hcb1 he1 (Ow.rd hos1))) rfl ?_
          rintro v153_19 w19 ⟨ov153_19, x1⟩
          have he1 := Els.more he1 (Ow.fr ov153_19)
          have ap_b1_v153_19 : Ap (some b1) v153_19.ownBlock := Ap.mk (Cel.live hcb1) (Ow.fr ov153_19)
          have ap_s59_v153_19 : Ap s59.ownBlock v153_19.ownBlock := Ap.mk (Es.live os59) (Ow.fr ov153_19)
          have ap_a59_v153_19 : Ap a59.ownBlock v153_19.ownBlock := Ap.mk (Ow.live oa59) (Ow.fr ov153_19)
          have ap_s1_v153_19 : Ap s1.ownBlock v153_19.ownBlock := Ap.mk (Ow.live hos1) (Ow.fr ov153_19)
          have ap_s87_3_v153_19 : Ap s87_3.ownBlock v153_19.ownBlock := Ap.mk (Ow.live hoh) (Ow.fr ov153_19)
          have ap_v115_6_v153_19 : Ap v115_6.ownBlock v153_19.ownBlock := Ap.mk (Ow.live ov115_6) (Ow.fr ov153_19)
          have ap_vd1_v153_19 : Ap vd1.ownBlock v153_19.ownBlock := Ap.mk (Ow.live od1) (Ow.fr ov153_19)
          have ap_b19_7_v153_19 : Ap (some b19_7) v153_19.ownBlock := Ap.mk (Cel.live c19_7) (Ow.fr ov153_19)
          have ap_v1n_v153_19 : Ap v1n.ownBlock v153_19.ownBlock := Ap.mk (Ow.live h6b) (Ow.fr ov153_19)
          have ap_v137_18_v153_19 : Ap v137_18.ownBlock v153_19.ownBlock := Ap.mk (Ow.live ov137_18) (Ow.fr ov153_19)
          have fr_v153_19 : Fr w.heap.size v153_19.ownBlock := Fr.le (Ow.fr ov153_19) e0.size
          replace ov153_19 := Ow.base ov153_19 e0.size
          have e0 := e0.trans x1
          have hcb1 := hcb1.ext x1
          have os59 := os59.ext x1
          have oa59 := oa59.ext x1
          have hos1 := hos1.ext x1
          have hoh := hoh.ext x1
          have he1 := he1.ext x1
          have ov115_6 := ov115_6.ext x1
          have od1 := od1.ext x1
          have c19_7 := c19_7.ext x1
          have h6b := h6b.ext x1
          have ov137_18 := ov137_18.ext x1
          clear x1
          refine J.op_g rfl rfl rfl (Yd.len_m Try.underlying37 rfl (Ow.rd ov153_19)) rfl ?_
          refine J.op_g rfl rfl rfl (Yd.move rfl) rfl ?_
          refine J.op_g rfl rfl rfl (Yd.cast (Yd.lenE (K := pcS) Try.underlying24 rfl (Es.rd os59)) (congrArg (fun z : Nat => I (z : Int)) pcL_len)) rfl ?_
          refine J.op_g rfl rfl rfl (Yd.move rfl) rfl ?_
          refine J.op_g rfl rfl rfl (Yd.sub rfl rfl (by first | omega | (rw [pcL_len]; omega) | (simp only [Int.toNat_natCast, pcL_len]; omega) | (simp only [Int.toNat_natCast]; omega))) rfl ?_
          refine J.op_g rfl rfl rfl (Yd.neq rfl rfl) rfl ?_
          refine J.op (Yd.pick_f rfl rfl) rfl ?_
          refine J.op (Yd.move rfl) rfl ?_
          refine J.know (t := 161) (v' := .bool false) rfl (ff (by omega)) ?_
          refine J.op_g rfl rfl rfl (Yd.move rfl) rfl ?_
          refine J.op_g rfl rfl rfl (Yd.move rfl) rfl ?_
          refine J.op_g rfl rfl rfl (Yd.move rfl) rfl ?_
          refine J.op_g rfl rfl rfl (Yd.cast (Yd.lenE (K := pcS) Try.underlying24 rfl (Es.rd os59)) (congrArg (fun z : Nat => I (z : Int)) pcL_len)) rfl ?_
          refine J.op_g rfl rfl rfl (Yd.eql rfl rfl) rfl ?_
          refine J.op_g rfl rfl rfl (Yd.neqb rfl rfl Try.underlying4) rfl ?_
          refine J.op (Yd.pick_f rfl rfl) rfl ?_
          refine J.op (Yd.move rfl) rfl ?_
          refine J.know (t := 169) (v' := .bool false) rfl (ff (by exact fun h => h (by rw [hml, List.length_nil] at hmc; exact (decide_eq_true (by omega)).symm))) ?_
          refine J.op_g rfl rfl rfl (Yd.move rfl) rfl ?_
          refine J.op_g rfl rfl rfl (Yd.move rfl) rfl ?_
          refine J.op_g rfl rfl rfl (Yd.move rfl) rfl ?_
          refine J.op_g rfl rfl rfl (Yd.bstr Try.underlying22 Try.underlying5 Try.underlying9 rfl (Ow.rd ov137_18)) rfl ?_
          refine J.op_g rfl rfl rfl (Yd.move rfl) rfl ?_
          refine J.op_g rfl rfl rfl (Yd.bstr Try.underlying22 Try.underlying5 Try.underlying9 rfl (Rd.ext ha e0)) rfl ?_
          refine J.op_g rfl rfl rfl (Yd.sne rfl rfl) rfl ?_
          refine J.op_g rfl rfl rfl (Yd.pick_t rfl rfl) rfl ?_
          refine J.op (Yd.pick_f rfl rfl) rfl ?_
          refine J.nil ?_
          refine J.n_then ?_
          refine J.know (t := 178) (v' := .bool false) rfl (ff (by exact fun h => h (lsOf_flat hml (nPc_mul (by omega))))) ?_
          refine J.cond_false rfl ?_
          refine J.skip ?_
          refine J.n_block ?_
          refine J.n_then ?_
          refine J.region ?_
          refine J.op (Yd.move rfl) rfl ?_
          refine J.op (Yd.add rfl rfl (by first | omega | (rw [pcL_len]; omega) | (simp only [Int.toNat_natCast, pcL_len]; omega) | (simp only [Int.toNat_natCast]; omega))) rfl ?_
          refine J.op (Yd.assign rfl) rfl ?_
          refine J.nil ?_
          refine J.n_then ?_
          exact J.round ((i + 1, hv2, (vs1.set k v1n))) ⟨rfl, rfl, rfl, rfl, (someI (by show _ = ((List.count true hv2 : Nat) : Int); omega)), rfl, rfl, rfl, rfl, trivial⟩ (⟨by show i + 1 ≤ ol.length + (nPc l.length n); omega, hh2, (Els.sub he1 (fun q hq => by simp only [List.mem_cons, List.mem_nil_iff, or_false] at hq ⊢; rcases hq with rfl | rfl <;> simp)), hcb1, os59, oa59, hos1, (by have h9 := hoh; rw [Int.toNat_natCast, ← hhv2] at h9; exact h9), e0⟩) (by show ol.length + (nPc l.length n) - (i + 1) < ol.length + (nPc l.length n) - i; omega)
        · skip
          refine J.eff (Ye.call cl10 rfl (Done_no hBy hcb1 he1 (Ow.rd hos1) hml)) rfl ?_
          rintro _ w20 ⟨rfl, x1⟩
          have e0 := e0.trans x1
          have hcb1 := hcb1.ext x1
          have os59 := os59.ext x1
          have oa59 := oa59.ext x1
          have hos1 := hos1.ext x1
          have hoh := hoh.ext x1
          have he1 := he1.ext x1
          have ov115_6 := ov115_6.ext x1
          have od1 := od1.ext x1
          have c19_7 := c19_7.ext x1
          have h6b := h6b.ext x1
          clear x1
          refine J.op (Yd.move rfl) rfl ?_
          refine J.op (Yd.extract rfl rfl) rfl ?_
          refine J.op (Yd.extract rfl rfl) rfl ?_
          refine J.op (Yd.assign rfl) rfl ?_
          refine J.op (Yd.assign rfl) rfl ?_
          refine J.nil ?_
          refine J.n_then ?_
          refine J.seq ?_
          refine J.region ?_
          refine J.op (Yd.move rfl) rfl ?_
          refine J.op (Yd.neq rfl rfl) rfl ?_
          refine J.op (Yd.move rfl) rfl ?_
          refine J.know (t := 142) (v' := .bool false) rfl (ff (by decide)) ?_
          refine J.op_g rfl rfl rfl (Yd.move rfl) rfl ?_
          refine J.op_g rfl rfl rfl (Yd.neq rfl rfl) rfl ?_
          refine J.op (Yd.pick_f rfl rfl) rfl ?_
          refine J.op (Yd.move rfl) rfl ?_
          refine J.know (t := 146) (v' := .bool false) rfl (ff (by decide)) ?_
          refine J.op_g rfl rfl rfl (Yd.move rfl) rfl ?_
          refine J.op_g rfl rfl rfl (Yd.move rfl) rfl ?_
          refine J.op_g rfl rfl rfl (Yd.neq rfl rfl) rfl ?_
          refine J.op (Yd.pick_f rfl rfl) rfl ?_
          refine J.op (Yd.move rfl) rfl ?_
          refine J.know (t := 151) (v' := .bool false) rfl (ff (by decide)) ?_
          refine J.op_g rfl rfl rfl (Yd.move rfl) rfl ?_
          refine J.eff_g rfl rfl rfl (Ye.call cl13 rfl (Miss1_ok hBy hcb1 he1 (Ow.rd hos1))) rfl ?_
          rintro v153_21 w21 ⟨ov153_21, x1⟩
          have he1 := Els.more he1 (Ow.fr ov153_21)
          have ap_b1_v153_21 : Ap (some b1) v153_21.ownBlock := Ap.mk (Cel.live hcb1) (Ow.fr ov153_21)
          have ap_s59_v153_21 : Ap s59.ownBlock v153_21.ownBlock := Ap.mk (Es.live os59) (Ow.fr ov153_21)
          have ap_a59_v153_21 : Ap a59.ownBlock v153_21.ownBlock := Ap.mk (Ow.live oa59) (Ow.fr ov153_21)
          have ap_s1_v153_21 : Ap s1.ownBlock v153_21.ownBlock := Ap.mk (Ow.live hos1) (Ow.fr ov153_21)
          have ap_s87_3_v153_21 : Ap s87_3.ownBlock v153_21.ownBlock := Ap.mk (Ow.live hoh) (Ow.fr ov153_21)
          have ap_v115_6_v153_21 : Ap v115_6.ownBlock v153_21.ownBlock := Ap.mk (Ow.live ov115_6) (Ow.fr ov153_21)
          have ap_vd1_v153_21 : Ap vd1.ownBlock v153_21.ownBlock := Ap.mk (Ow.live od1) (Ow.fr ov153_21)
          have ap_b19_7_v153_21 : Ap (some b19_7) v153_21.ownBlock := Ap.mk (Cel.live c19_7) (Ow.fr ov153_21)
          have ap_v1n_v153_21 : Ap v1n.ownBlock v153_21.ownBlock := Ap.mk (Ow.live h6b) (Ow.fr ov153_21)
          have fr_v153_21 : Fr w.heap.size v153_21.ownBlock := Fr.le (Ow.fr ov153_21) e0.size
          replace ov153_21 := Ow.base ov153_21 e0.size
          have e0 := e0.trans x1
          have hcb1 := hcb1.ext x1
          have os59 := os59.ext x1
          have oa59 := oa59.ext x1
          have hos1 := hos1.ext x1
          have hoh := hoh.ext x1
          have he1 := he1.ext x1
          have ov115_6 := ov115_6.ext x1
          have od1 := od1.ext x1
          have c19_7 := c19_7.ext x1
          have h6b := h6b.ext x1
          clear x1
          refine J.op_g rfl rfl rfl (Yd.len_m Try.underlying37 rfl (Ow.rd ov153_21)) rfl ?_
          refine J.op_g rfl rfl rfl (Yd.move rfl) rfl ?_
          refine J.op_g rfl rfl rfl (Yd.cast (Yd.lenE (K := pcS) Try.underlying24 rfl (Es.rd os59)) (congrArg (fun z : Nat => I (z : Int)) pcL_len)) rfl ?_
          refine J.op_g rfl rfl rfl (Yd.move rfl) rfl ?_
          refine J.op_g rfl rfl rfl (Yd.sub rfl rfl (by first | omega | (rw [pcL_len]; omega) | (simp only [Int.toNat_natCast, pcL_len]; omega) | (simp only [Int.toNat_natCast]; omega))) rfl ?_
          refine J.op_g rfl rfl rfl (Yd.neq rfl rfl) rfl ?_
          refine J.op (Yd.pick_f rfl rfl) rfl ?_
          refine J.op (Yd.move rfl) rfl ?_
          refine J.know (t := 161) (v' := .bool false) rfl (ff (by omega)) ?_
          refine J.op_g rfl rfl rfl (Yd.move rfl) rfl ?_
          refine J.op_g rfl rfl rfl (Yd.move rfl) rfl ?_
          refine J.op_g rfl rfl rfl (Yd.move rfl) rfl ?_
          refine J.op_g rfl rfl rfl (Yd.cast (Yd.lenE (K := pcS) Try.underlying24 rfl (Es.rd os59)) (congrArg (fun z : Nat => I (z : Int)) pcL_len)) rfl ?_
          refine J.op_g rfl rfl rfl (Yd.eql rfl rfl) rfl ?_
          refine J.op_g rfl rfl rfl (Yd.neqb rfl rfl Try.underlying4) rfl ?_
          refine J.op (Yd.pick_f rfl rfl) rfl ?_
          refine J.op (Yd.move rfl) rfl ?_
          refine J.know (t := 169) (v' := .bool false) rfl (ff (by exact fun h => h (by have h8 := List.length_pos_iff.2 hml; exact (decide_eq_false (by omega)).symm))) ?_
          refine J.op_g rfl rfl rfl (Yd.move rfl) rfl ?_
          refine J.op_g rfl rfl rfl (Yd.move rfl) rfl ?_
          refine J.not_g rfl rfl rfl rfl rfl ?_
          refine J.not_g rfl rfl rfl rfl rfl ?_
          refine J.not_g rfl rfl rfl rfl rfl ?_
          refine J.not_g rfl rfl rfl rfl rfl ?_
          refine J.not_g rfl rfl rfl rfl rfl ?_
          refine J.op_g rfl rfl rfl (Yd.pick_f rfl rfl) rfl ?_
          refine J.op (Yd.pick_f rfl rfl) rfl ?_
          refine J.nil ?_
          refine J.n_then ?_
          refine J.cond_false rfl ?_
          refine J.skip ?_
          refine J.n_block ?_
          refine J.n_then ?_
          refine J.region ?_
          refine J.op (Yd.move rfl) rfl ?_
          refine J.op (Yd.add rfl rfl (by first | omega | (rw [pcL_len]; omega) | (simp only [Int.toNat_natCast, pcL_len]; omega) | (simp only [Int.toNat_natCast]; omega))) rfl ?_
          refine J.op (Yd.assign rfl) rfl ?_
          refine J.nil ?_
          refine J.n_then ?_
          exact J.round ((i + 1, hv2, (vs1.set k v1n))) ⟨rfl, rfl, rfl, rfl, (someI (by show _ = ((List.count true hv2 : Nat) : Int); omega)), rfl, rfl, rfl, rfl, trivial⟩ (⟨by show i + 1 ≤ ol.length + (nPc l.length n); omega, hh2, (Els.sub he1 (fun q hq => by simp only [List.mem_cons, List.mem_nil_iff, or_false] at hq ⊢; rcases hq with rfl | rfl <;> simp)), hcb1, os59, oa59, hos1, (by have h9 := hoh; rw [Int.toNat_natCast, ← hhv2] at h9; exact h9), e0⟩) (by show ol.length + (nPc l.length n) - (i + 1) < ol.length + (nPc l.length n) - i; omega)
    · skip
      refine J.skip ?_
      refine J.n_then ?_
      refine J.seq ?_
      refine J.region ?_
      obtain ⟨k, hkk⟩ : ∃ k, k = i - ol.length := ⟨_, rfl⟩
      have hkM : k < (nPc l.length n) := by omega
      refine J.know (t := 16) (v' := I (k : Int)) rfl (congrArg (fun z : Int => I z) (by omega)) ?_
      have hkn := hMj k hkM
      have hdl := pcAt_len hkn
      have hdi := pcAt_int hkn
      have hbq : ¬ badQ id (k : Int) ((nPc l.length n) : Int) (pcAt l n k).length := fun h => h ⟨by omega, by omega, by omega, by omega⟩
      have hel := encB_len id (k : Int) ((nPc l.length n) : Int) (pcAt l n k)
      have hkL : k < (lsOf l n (nPc l.length n) hv).length := by rw [lsOf_len]; exact hkM
      refine J.op (Yd.move rfl) rfl ?_
      refine J.op (Yd.move rfl) rfl ?_
      refine J.op (Yd.idxE (K := pcS) Try.underlying24 ti29 rfl rfl (Es.rd os59) (by first | omega | (rw [pcL_len]; omega) | (simp only [Int.toNat_natCast, pcL_len]; omega) | (simp only [Int.toNat_natCast]; omega))) rfl ?_
      refine J.op (Yd.cast (Yd.loadEd (K := pcS) pcD ag29 ti29 rfl (Es.rd os59) (by first | omega | (rw [pcL_len]; omega) | (simp only [Int.toNat_natCast, pcL_len]; omega) | (simp only [Int.toNat_natCast]; omega))) (congrArg (fun z : Pc => Value.agg (pcS.c z).toArray) (by rw [Int.toNat_natCast, pcL_get hkM]))) rfl ?_
      refine J.eff (Ye.call cl22 rfl (Encode_good (x := ((id, (k : Int), ((nPc l.length n) : Int), chV a59 n l.length k) : Pc)) (l := (pcAt l n k)) (chV_bs (Ow.rd oa59) hkn) hbq (by omega))) rfl ?_
      rintro _ w22 ⟨v115_22, rfl, ov115_22, x1⟩
      have he1 := Els.more he1 (Ow.fr ov115_22)
      have ap_b1_v115_22 : Ap (some b1) v115_22.ownBlock := Ap.mk (Cel.live hcb1) (Ow.fr ov115_22)
      have ap_s59_v115_22 : Ap s59.ownBlock v115_22.ownBlock := Ap.mk (Es.live os59) (Ow.fr ov115_22)
      have ap_a59_v115_22 : Ap a59.ownBlock v115_22.ownBlock := Ap.mk (Ow.live oa59) (Ow.fr ov115_22)
      have ap_s1_v115_22 : Ap s1.ownBlock v115_22.ownBlock := Ap.mk (Ow.live hos1) (Ow.fr ov115_22)
      have ap_s87_3_v115_22 : Ap s87_3.ownBlock v115_22.ownBlock := Ap.mk (Ow.live hoh) (Ow.fr ov115_22)
      have fr_v115_22 : Fr w.heap.size v115_22.ownBlock := Fr.le (Ow.fr ov115_22) e0.size
      replace ov115_22 := Ow.base ov115_22 e0.size
      have e0 := e0.trans x1
      have hcb1 := hcb1.ext x1
      have os59 := os59.ext x1
      have oa59 := oa59.ext x1
      have hos1 := hos1.ext x1
      have hoh := hoh.ext x1
      have he1 := he1.ext x1
      clear x1
      refine J.op (Yd.move rfl) rfl ?_
      refine J.op (Yd.extract rfl rfl) rfl ?_
      refine J.op (Yd.extract rfl rfl) rfl ?_
      refine J.op (Yd.assign rfl) rfl ?_
      refine J.op (Yd.assign rfl) rfl ?_
      refine J.nil ?_
      refine J.n_then ?_
      refine J.seq ?_
      refine J.region ?_
      refine J.op (Yd.move rfl) rfl ?_
      refine J.eff (Ye.call cl24 rfl (Decode_any (l := encB id (k : Int) ((nPc l.length n) : Int) (pcAt l n k)) (Ow.rd ov115_22) (by omega))) rfl ?_
      rintro _ w23 ⟨⟨p1, q1, r1, vd1⟩, d1, k1, rfl, od1, hV1, x1⟩
      have h9 := (decV_encB hbq (by omega)).symm.trans hV1
      simp only [Prod.mk.injEq] at h9
      obtain ⟨rfl, rfl, rfl, rfl, rfl⟩ := h9
      clear hV1
      dsimp only at od1
      have he1 := Els.more he1 (Ow.fr od1)
      have ap_b1_vd1 : Ap (some b1) vd1.ownBlock := Ap.mk (Cel.live hcb1) (Ow.fr od1)
      have ap_s59_vd1 : Ap s59.ownBlock vd1.ownBlock := Ap.mk (Es.live os59) (Ow.fr od1)
      have ap_a59_vd1 : Ap a59.ownBlock vd1.ownBlock := Ap.mk (Ow.live oa59) (Ow.fr od1)
      have ap_s1_vd1 : Ap s1.ownBlock vd1.ownBlock := Ap.mk (Ow.live hos1) (Ow.fr od1)
      have ap_s87_3_vd1 : Ap s87_3.ownBlock vd1.ownBlock := Ap.mk (Ow.live hoh) (Ow.fr od1)
      have ap_v115_22_vd1 : Ap v115_22.ownBlock vd1.ownBlock := Ap.mk (Ow.live ov115_22) (Ow.fr od1)
      have fr_vd1 : Fr w.heap.size vd1.ownBlock := Fr.le (Ow.fr od1) e0.size
      replace od1 := Ow.base od1 e0.size
      have e0 := e0.trans x1
      have hcb1 := hcb1.ext x1
      have os59 := os59.ext x1
      have oa59 := oa59.ext x1
      have hos1 := hos1.ext x1
      have hoh := hoh.ext x1
      have he1 := he1.ext x1
      have ov115_22 := ov115_22.ext x1
      clear x1
      refine J.op (Yd.move rfl) rfl ?_
      refine J.op (Yd.extract rfl rfl) rfl ?_
      refine J.op (Yd.extract rfl rfl) rfl ?_
      refine J.eff (Ye.alloc ti29 (S := [(0, 4, [I 0, I 0, I 0, nilS])]) (by simp [SegAll, SegOK, Value.cells, nilS])) rfl ?_
      rintro _ w24 ⟨b19_23, rfl, hb_, c19_23, x1⟩
      have he1 := Els.more he1 (Fr.blk hb_)
      have ap_b1_b19_23 : Ap (some b1) (some b19_23) := Ap.mk (Cel.live hcb1) (Fr.blk hb_)
      have ap_s59_b19_23 : Ap s59.ownBlock (some b19_23) := Ap.mk (Es.live os59) (Fr.blk hb_)
      have ap_a59_b19_23 : Ap a59.ownBlock (some b19_23) := Ap.mk (Ow.live oa59) (Fr.blk hb_)
      have ap_s1_b19_23 : Ap s1.ownBlock (some b19_23) := Ap.mk (Ow.live hos1) (Fr.blk hb_)
      have ap_s87_3_b19_23 : Ap s87_3.ownBlock (some b19_23) := Ap.mk (Ow.live hoh) (Fr.blk hb_)
      have ap_v115_22_b19_23 : Ap v115_22.ownBlock (some b19_23) := Ap.mk (Ow.live ov115_22) (Fr.blk hb_)
      have ap_vd1_b19_23 : Ap vd1.ownBlock (some b19_23) := Ap.mk (Ow.live od1) (Fr.blk hb_)
      have fr_b19_23 : Fr w.heap.size (some b19_23) := Fr.le (Fr.blk hb_) e0.size
      have e0 := e0.trans x1
      have hcb1 := hcb1.ext x1
      have os59 := os59.ext x1
      have oa59 := oa59.ext x1
      have hos1 := hos1.ext x1
      have hoh := hoh.ext x1
      have he1 := he1.ext x1
      have ov115_22 := ov115_22.ext x1
      have od1 := od1.ext x1
      clear x1 hb_
      refine J.eff0 (Ye.storeA (ys := pcS.c ((id, (k : Int), ((nPc l.length n) : Int), vd1) : Pc)) ti29 c19_23 0 rfl rfl rfl rfl (by rfl) (by intro v_ hv_; simp only [pcS, pcD, List.mem_cons, List.mem_nil_iff, or_false] at hv_; rcases hv_ with rfl | rfl | rfl | rfl; rfl; rfl; rfl; exact Rd.one (Ow.rd od1))) ?_
      rintro _ w25 ⟨cX, hu⟩
      simp only [List.set_cons_zero, List.set_cons_succ] at cX
      have hg := hu.gb
      have hcb1 := Cel.gbk hcb1 hg ap_b1_b19_23
      have os59 := Es.gbk os59 hg ap_s59_b19_23
      have oa59 := Ow.gbk oa59 hg ap_a59_b19_23
      have hos1 := Ow.gbk hos1 hg ap_s1_b19_23
      have hoh := Ow.gbk hoh hg ap_s87_3_b19_23
      have he1 := Els.tnk he1 (Tn.ofGB hg) (fun r hr => by simp only [List.mem_cons, List.mem_nil_iff, or_false] at hr ⊢; first | exact hr | (rcases hr with rfl | rfl <;> simp) | (subst hr; simp))
      have ov115_22 := Ow.gbk ov115_22 hg ap_v115_22_b19_23
      have od1 := Ow.gbk od1 hg ap_vd1_b19_23
      have e0 := Ext.gbk e0 fr_b19_23 hg
      clear hg
      replace c19_23 := cX
      clear cX hu
      refine J.op (Yd.assign rfl) rfl ?_
      refine J.nil ?_
      refine J.n_then ?_
      refine J.seq ?_
      refine J.region ?_
      refine J.op (Yd.move rfl) rfl ?_
      refine J.op (Yd.cast (Yd.loadA ag29 ti29 rfl c19_23 0 rfl) (show Value.agg (pcS.c ((id, (k : Int), ((nPc l.length n) : Int), vd1) : Pc)).toArray = Value.agg (pcS.c ((id, (k : Int), ((lsOf l n (nPc l.length n) hv).length : Int), vd1) : Pc)).toArray by rw [lsOf_len])) rfl ?_
      by_cases hh : hv.getD k false = true
      · skip
        refine J.eff (Ye.call cl11 rfl (Add1_same (k := k) (xv := vd1) (l := (pcAt l n k)) (hBx hv) hcb1 he1 (Ow.rd hos1) (Ow.rd od1) hkL hdi (by rw [lsOf_get hkM, hh, if_pos rfl]; exact pcAt_ne (by omega) hkn) (by rw [lsOf_get hkM, hh, if_pos rfl]))) rfl ?_
        rintro _ w26 ⟨rfl, x1⟩
        have e0 := e0.trans x1
        have hcb1 := hcb1.ext x1
        have os59 := os59.ext x1
        have oa59 := oa59.ext x1
        have hos1 := hos1.ext x1
        have hoh := hoh.ext x1
        have he1 := he1.ext x1
        have ov115_22 := ov115_22.ext x1
        have od1 := od1.ext x1
        have c19_23 := c19_23.ext x1
        clear x1
        obtain ⟨hv2, hhv2⟩ : ∃ z, z = hv.set k true := ⟨_, rfl⟩
        have hh2 : hv2.length = (nPc l.length n) := by rw [hhv2, List.length_set]; exact hhl
        have hmc := missL_cnt (l := l) (n := n) (M := (nPc l.length n)) (hv := hv2) (by omega) hh2 hMj
        have hcc : hv2.count true = hv.count true := by rw [hhv2, set_same (by omega) hh]
        rw [← set_same (hv := hv) (k := k) (by omega) hh, ← hhv2] at he1
        have hBy := hBx hv2
        refine J.op (Yd.assign rfl) rfl ?_
        refine J.nil ?_
        refine J.n_then ?_
        refine J.seq ?_
        refine J.region ?_
        refine J.op (Yd.assign rfl) rfl ?_
        refine J.nil ?_
        refine J.n_then ?_
        refine J.seq ?_
        refine J.seq ?_
        refine J.region ?_
        refine J.op (Yd.move rfl) rfl ?_
        refine J.op (Yd.move rfl) rfl ?_
        refine J.op (Yd.idx_m Try.underlying62 ti4 rfl rfl (Ow.rd hoh) (by first | omega | (rw [pcL_len]; omega) | (simp only [Int.toNat_natCast, pcL_len]; omega) | (simp only [Int.toNat_natCast]; omega))) rfl ?_
        refine J.op (Yd.load pl4 rfl (Rd.cellM (f := fun b => Value.bool b) (Ow.rd hoh) (show hv[(k : Int).toNat]? = some (hv.getD k false) by rw [Int.toNat_natCast]; exact getB (by omega)))) rfl ?_
        refine J.nil ?_
        refine J.n_then ?_
        refine J.know (t := 129) (v' := .bool true) rfl (congrArg Value.bool hh) ?_
        refine J.cond_true rfl ?_
        refine J.region ?_
        refine J.op (Yd.assign rfl) rfl ?_
        refine J.nil ?_
        refine J.n_then ?_
        refine J.seq ?_
        refine J.region ?_
        refine J.op (Yd.move rfl) rfl ?_
        refine J.op (Yd.move rfl) rfl ?_
        refine J.op (Yd.idx_m Try.underlying62 ti4 rfl rfl (Ow.rd hoh) (by first | omega | (rw [pcL_len]; omega) | (simp only [Int.toNat_natCast, pcL_len]; omega) | (simp only [Int.toNat_natCast]; omega))) rfl ?_
        refine J.eff0 (Ye.storeOwM ti4 hoh rfl rfl (by first | omega | (rw [pcL_len]; omega) | (simp only [Int.toNat_natCast, pcL_len]; omega) | (simp only [Int.toNat_natCast]; omega)) (fun _ => rfl) (fun _ => rfl)) ?_
        rintro _ w27 ⟨o', hg⟩
        have hcb1 := Cel.gbk hcb1 hg ap_b1_s87_3
        have os59 := Es.gbk os59 hg ap_s59_s87_3
        have oa59 := Ow.gbk oa59 hg ap_a59_s87_3
        have hos1 := Ow.gbk hos1 hg ap_s1_s87_3
        have he1 := Els.tnk he1 (Tn.ofGB hg) (fun r hr => by simp only [List.mem_cons, List.mem_nil_iff, or_false] at hr ⊢; first | exact hr | (rcases hr with rfl | rfl <;> simp) | (subst hr; simp))
        have ov115_22 := Ow.gbk ov115_22 hg (Ap.symm ap_s87_3_v115_22)
        have od1 := Ow.gbk od1 hg (Ap.symm ap_s87_3_vd1)
        have c19_23 := Cel.gbk c19_23 hg (Ap.symm ap_s87_3_b19_23)
        have e0 := Ext.gbk e0 fr_s87_3 hg
        replace hoh := o'
        clear hg o'
        refine J.nil ?_
        refine J.n_then ?_
        refine J.seq ?_
        refine J.region ?_
        refine J.op (Yd.move rfl) rfl ?_
        by_cases hml : missL (lsOf l n (nPc l.length n) hv2) = []
        · skip
          refine J.eff (Ye.call cl10 rfl (Done_yes hBy hcb1 he1 (Ow.rd hos1) hml (by rw [lsOf_flat hml (nPc_mul (by omega))]; omega))) rfl ?_
          rintro _ w28 ⟨v137_28, rfl, ov137_28, x1⟩
          have he1 := Els.more he1 (Ow.fr ov137_28)
          have ap_b1_v137_28 : Ap (some b1) v137_28.ownBlock := Ap.mk (Cel.live hcb1) (Ow.fr ov137_28)
          have ap_s59_v137_28 : Ap s59.ownBlock v137_28.ownBlock := Ap.mk (Es.live os59) (Ow.fr ov137_28)
          have ap_a59_v137_28 : Ap a59.ownBlock v137_28.ownBlock := Ap.mk (Ow.live oa59) (Ow.fr ov137_28)
          have ap_s1_v137_28 : Ap s1.ownBlock v137_28.ownBlock := Ap.mk (Ow.live hos1) (Ow.fr ov137_28)
          have ap_s87_3_v137_28 : Ap s87_3.ownBlock v137_28.ownBlock := Ap.mk (Ow.live hoh) (Ow.fr ov137_28)
          have ap_v115_22_v137_28 : Ap v115_22.ownBlock v137_28.ownBlock := Ap.mk (Ow.live ov115_22) (Ow.fr ov137_28)
          have ap_vd1_v137_28 : Ap vd1.ownBlock v137_28.ownBlock := Ap.mk (Ow.live od1) (Ow.fr ov137_28)
          have ap_b19_23_v137_28 : Ap (some b19_23) v137_28.ownBlock := Ap.mk (Cel.live c19_23) (Ow.fr ov137_28)
          have fr_v137_28 : Fr w.heap.size v137_28.ownBlock := Fr.le (Ow.fr ov137_28) e0.size
          replace ov137_28 := Ow.base ov137_28 e0.size
          have e0 := e0.trans x1
          have hcb1 := hcb1.ext x1
          have os59 := os59.ext x1
          have oa59 := oa59.ext x1
          have hos1 := hos1.ext x1
          have hoh := hoh.ext x1
          have he1 := he1.ext x1
          have ov115_22 := ov115_22.ext x1
          have od1 := od1.ext x1
          have c19_23 := c19_23.ext x1
          clear x1
          refine J.op (Yd.move rfl) rfl ?_
          refine J.op (Yd.extract rfl rfl) rfl ?_
          refine J.op (Yd.extract rfl rfl) rfl ?_
          refine J.op (Yd.assign rfl) rfl ?_
          refine J.op (Yd.assign rfl) rfl ?_
          refine J.nil ?_
          refine J.n_then ?_
          refine J.seq ?_
          refine J.region ?_
          refine J.op (Yd.move rfl) rfl ?_
          refine J.op (Yd.neq rfl rfl) rfl ?_
          refine J.op (Yd.move rfl) rfl ?_
          refine J.know (t := 142) (v' := .bool false) rfl (ff (by decide)) ?_
          refine J.op_g rfl rfl rfl (Yd.move rfl) rfl ?_
          refine J.op_g rfl rfl rfl (Yd.neq rfl rfl) rfl ?_
          refine J.op (Yd.pick_f rfl rfl) rfl ?_
          refine J.op (Yd.move rfl) rfl ?_
          refine J.know (t := 146) (v' := .bool false) rfl (ff (by decide)) ?_
          refine J.op_g rfl rfl rfl (Yd.move rfl) rfl ?_
          refine J.op_g rfl rfl rfl (Yd.move rfl) rfl ?_
          refine J.op_g rfl rfl rfl (Yd.neq rfl rfl) rfl ?_
          refine J.op (Yd.pick_f rfl rfl) rfl ?_
          refine J.op (Yd.move rfl) rfl ?_
          refine J.know (t := 151) (v' := .bool false) rfl (ff (by decide)) ?_
          refine J.op_g rfl rfl rfl (Yd.move rfl) rfl ?_
          refine J.eff_g rfl rfl rfl (Ye.call cl13 rfl (Miss1_ok hBy hcb1 he1 (Ow.rd hos1))) rfl ?_
          rintro v153_29 w29 ⟨ov153_29, x1⟩
          have he1 := Els.more he1 (Ow.fr ov153_29)
          have ap_b1_v153_29 : Ap (some b1) v153_29.ownBlock := Ap.mk (Cel.live hcb1) (Ow.fr ov153_29)
          have ap_s59_v153_29 : Ap s59.ownBlock v153_29.ownBlock := Ap.mk (Es.live os59) (Ow.fr ov153_29)
          have ap_a59_v153_29 : Ap a59.ownBlock v153_29.ownBlock := Ap.mk (Ow.live oa59) (Ow.fr ov153_29)
          have ap_s1_v153_29 : Ap s1.ownBlock v153_29.ownBlock := Ap.mk (Ow.live hos1) (Ow.fr ov153_29)
          have ap_s87_3_v153_29 : Ap s87_3.ownBlock v153_29.ownBlock := Ap.mk (Ow.live hoh) (Ow.fr ov153_29)
          have ap_v115_22_v153_29 : Ap v115_22.ownBlock v153_29.ownBlock := Ap.mk (Ow.live ov115_22) (Ow.fr ov153_29)
          have ap_vd1_v153_29 : Ap vd1.ownBlock v153_29.ownBlock := Ap.mk (Ow.live od1) (Ow.fr ov153_29)
          have ap_b19_23_v153_29 : Ap (some b19_23) v153_29.ownBlock := Ap.mk (Cel.live c19_23) (Ow.fr ov153_29)
          have ap_v137_28_v153_29 : Ap v137_28.ownBlock v153_29.ownBlock := Ap.mk (Ow.live ov137_28) (Ow.fr ov153_29)
          have fr_v153_29 : Fr w.heap.size v153_29.ownBlock := Fr.le (Ow.fr ov153_29) e0.size
          replace ov153_29 := Ow.base ov153_29 e0.size
          have e0 := e0.trans x1
          have hcb1 := hcb1.ext x1
          have os59 := os59.ext x1
          have oa59 := oa59.ext x1
          have hos1 := hos1.ext x1
          have hoh := hoh.ext x1
          have he1 := he1.ext x1
          have ov115_22 := ov115_22.ext x1
          have od1 := od1.ext x1
          have c19_23 := c19_23.ext x1
          have ov137_28 := ov137_28.ext x1
          clear x1
          refine J.op_g rfl rfl rfl (Yd.len_m Try.underlying37 rfl (Ow.rd ov153_29)) rfl ?_
          refine J.op_g rfl rfl rfl (Yd.move rfl) rfl ?_
          refine J.op_g rfl rfl rfl (Yd.cast (Yd.lenE (K := pcS) Try.underlying24 rfl (Es.rd os59)) (congrArg (fun z : Nat => I (z : Int)) pcL_len)) rfl ?_
          refine J.op_g rfl rfl rfl (Yd.move rfl) rfl ?_
          refine J.op_g rfl rfl rfl (Yd.sub rfl rfl (by first | omega | (rw [pcL_len]; omega) | (simp only [Int.toNat_natCast, pcL_len]; omega) | (simp only [Int.toNat_natCast]; omega))) rfl ?_
          refine J.op_g rfl rfl rfl (Yd.neq rfl rfl) rfl ?_
          refine J.op (Yd.pick_f rfl rfl) rfl ?_
          refine J.op (Yd.move rfl) rfl ?_
          refine J.know (t := 161) (v' := .bool false) rfl (ff (by omega)) ?_
          refine J.op_g rfl rfl rfl (Yd.move rfl) rfl ?_
          refine J.op_g rfl rfl rfl (Yd.move rfl) rfl ?_
          refine J.op_g rfl rfl rfl (Yd.move rfl) rfl ?_
          refine J.op_g rfl rfl rfl (Yd.cast (Yd.lenE (K := pcS) Try.underlying24 rfl (Es.rd os59)) (congrArg (fun z : Nat => I (z : Int)) pcL_len)) rfl ?_
          refine J.op_g rfl rfl rfl (Yd.eql rfl rfl) rfl ?_
          refine J.op_g rfl rfl rfl (Yd.neqb rfl rfl Try.underlying4) rfl ?_
          refine J.op (Yd.pick_f rfl rfl) rfl ?_
          refine J.op (Yd.move rfl) rfl ?_
          refine J.know (t := 169) (v' := .bool false) rfl (ff (by exact fun h => h (by rw [hml, List.length_nil] at hmc; exact (decide_eq_true (by omega)).symm))) ?_
          refine J.op_g rfl rfl rfl (Yd.move rfl) rfl ?_
          refine J.op_g rfl rfl rfl (Yd.move rfl) rfl ?_
          refine J.op_g rfl rfl rfl (Yd.move rfl) rfl ?_
          refine J.op_g rfl rfl rfl (Yd.bstr Try.underlying22 Try.underlying5 Try.underlying9 rfl (Ow.rd ov137_28)) rfl ?_
          refine J.op_g rfl rfl rfl (Yd.move rfl) rfl ?_
          refine J.op_g rfl rfl rfl (Yd.bstr Try.underlying22 Try.underlying5 Try.underlying9 rfl (Rd.ext ha e0)) rfl ?_
          refine J.op_g rfl rfl rfl (Yd.sne rfl rfl) rfl ?_
          refine J.op_g rfl rfl rfl (Yd.pick_t rfl rfl) rfl ?_
          refine J.op (Yd.pick_f rfl rfl) rfl ?_
          refine J.nil ?_
          refine J.n_then ?_
          refine J.know (t := 178) (v' := .bool false) rfl (ff (by exact fun h => h (lsOf_flat hml (nPc_mul (by omega))))) ?_
          refine J.cond_false rfl ?_
          refine J.skip ?_
          refine J.n_block ?_
          refine J.n_then ?_
          refine J.region ?_
          refine J.op (Yd.move rfl) rfl ?_
          refine J.op (Yd.add rfl rfl (by first | omega | (rw [pcL_len]; omega) | (simp only [Int.toNat_natCast, pcL_len]; omega) | (simp only [Int.toNat_natCast]; omega))) rfl ?_
          refine J.op (Yd.assign rfl) rfl ?_
          refine J.nil ?_
          refine J.n_then ?_
          exact J.round ((i + 1, hv2, vs1)) ⟨rfl, rfl, rfl, rfl, (someI (by show _ = ((List.count true hv2 : Nat) : Int); omega)), rfl, rfl, rfl, rfl, trivial⟩ (⟨by show i + 1 ≤ ol.length + (nPc l.length n); omega, hh2, (Els.sub he1 (fun q hq => by simp only [List.mem_cons, List.mem_nil_iff, or_false] at hq ⊢; rcases hq with rfl | rfl <;> simp)), hcb1, os59, oa59, hos1, (by have h9 := hoh; rw [Int.toNat_natCast, ← hhv2] at h9; exact h9), e0⟩) (by show ol.length + (nPc l.length n) - (i + 1) < ol.length + (nPc l.length n) - i; omega)
        · skip
          refine J.eff (Ye.call cl10 rfl (Done_no hBy hcb1 he1 (Ow.rd hos1) hml)) rfl ?_
          rintro _ w30 ⟨rfl, x1⟩
          have e0 := e0.trans x1
          have hcb1 := hcb1.ext x1
          have os59 := os59.ext x1
          have oa59 := oa59.ext x1
          have hos1 := hos1.ext x1
          have hoh := hoh.ext x1
          have he1 := he1.ext x1
          have ov115_22 := ov115_22.ext x1
          have od1 := od1.ext x1
          have c19_23 := c19_23.ext x1
          clear x1
          refine J.op (Yd.move rfl) rfl ?_
          refine J.op (Yd.extract rfl rfl) rfl ?_
          refine J.op (Yd.extract rfl rfl) rfl ?_
          refine J.op (Yd.assign rfl) rfl ?_
          refine J.op (Yd.assign rfl) rfl ?_
          refine J.nil ?_
          refine J.n_then ?_
          refine J.seq ?_
          refine J.region ?_
          refine J.op (Yd.move rfl) rfl ?_
          refine J.op (Yd.neq rfl rfl) rfl ?_
          refine J.op (Yd.move rfl) rfl ?_
          refine J.know (t := 142) (v' := .bool false) rfl (ff (by decide)) ?_
          refine J.op_g rfl rfl rfl (Yd.move rfl) rfl ?_
          refine J.op_g rfl rfl rfl (Yd.neq rfl rfl) rfl ?_
          refine J.op (Yd.pick_f rfl rfl) rfl ?_
          refine J.op (Yd.move rfl) rfl ?_
          refine J.know (t := 146) (v' := .bool false) rfl (ff (by decide)) ?_
          refine J.op_g rfl rfl rfl (Yd.move rfl) rfl ?_
          refine J.op_g rfl rfl rfl (Yd.move rfl) rfl ?_
          refine J.op_g rfl rfl rfl (Yd.neq rfl rfl) rfl ?_
          refine J.op (Yd.pick_f rfl rfl) rfl ?_
          refine J.op (Yd.move rfl) rfl ?_
          refine J.know (t := 151) (v' := .bool false) rfl (ff (by decide)) ?_
          refine J.op_g rfl rfl rfl (Yd.move rfl) rfl ?_
          refine J.eff_g rfl rfl rfl (Ye.call cl13 rfl (Miss1_ok hBy hcb1 he1 (Ow.rd hos1))) rfl ?_
          rintro v153_31 w31 ⟨ov153_31, x1⟩
          have he1 := Els.more he1 (Ow.fr ov153_31)
          have ap_b1_v153_31 : Ap (some b1) v153_31.ownBlock := Ap.mk (Cel.live hcb1) (Ow.fr ov153_31)
          have ap_s59_v153_31 : Ap s59.ownBlock v153_31.ownBlock := Ap.mk (Es.live os59) (Ow.fr ov153_31)
          have ap_a59_v153_31 : Ap a59.ownBlock v153_31.ownBlock := Ap.mk (Ow.live oa59) (Ow.fr ov153_31)
          have ap_s1_v153_31 : Ap s1.ownBlock v153_31.ownBlock := Ap.mk (Ow.live hos1) (Ow.fr ov153_31)
          have ap_s87_3_v153_31 : Ap s87_3.ownBlock v153_31.ownBlock := Ap.mk (Ow.live hoh) (Ow.fr ov153_31)
          have ap_v115_22_v153_31 : Ap v115_22.ownBlock v153_31.ownBlock := Ap.mk (Ow.live ov115_22) (Ow.fr ov153_31)
          have ap_vd1_v153_31 : Ap vd1.ownBlock v153_31.ownBlock := Ap.mk (Ow.live od1) (Ow.fr ov153_31)
          have ap_b19_23_v153_31 : Ap (some b19_23) v153_31.ownBlock := Ap.mk (Cel.live c19_23) (Ow.fr ov153_31)
          have fr_v153_31 : Fr w.heap.size v153_31.ownBlock := Fr.le (Ow.fr ov153_31) e0.size
          replace ov153_31 := Ow.base ov153_31 e0.size
          have e0 := e0.trans x1
          have hcb1 := hcb1.ext x1
          have os59 := os59.ext x1
          have oa59 := oa59.ext x1
          have hos1 := hos1.ext x1
          have hoh := hoh.ext x1
          have he1 := he1.ext x1
          have ov115_22 := ov115_22.ext x1
          have od1 := od1.ext x1
          have c19_23 := c19_23.ext x1
          clear x1
          refine J.op_g rfl rfl rfl (Yd.len_m Try.underlying37 rfl (Ow.rd ov153_31)) rfl ?_
          refine J.op_g rfl rfl rfl (Yd.move rfl) rfl ?_
          refine J.op_g rfl rfl rfl (Yd.cast (Yd.lenE (K := pcS) Try.underlying24 rfl (Es.rd os59)) (congrArg (fun z : Nat => I (z : Int)) pcL_len)) rfl ?_
          refine J.op_g rfl rfl rfl (Yd.move rfl) rfl ?_
          refine J.op_g rfl rfl rfl (Yd.sub rfl rfl (by first | omega | (rw [pcL_len]; omega) | (simp only [Int.toNat_natCast, pcL_len]; omega) | (simp only [Int.toNat_natCast]; omega))) rfl ?_
          refine J.op_g rfl rfl rfl (Yd.neq rfl rfl) rfl ?_
          refine J.op (Yd.pick_f rfl rfl) rfl ?_
          refine J.op (Yd.move rfl) rfl ?_
          refine J.know (t := 161) (v' := .bool false) rfl (ff (by omega)) ?_
          refine J.op_g rfl rfl rfl (Yd.move rfl) rfl ?_
          refine J.op_g rfl rfl rfl (Yd.move rfl) rfl ?_
          refine J.op_g rfl rfl rfl (Yd.move rfl) rfl ?_
          refine J.op_g rfl rfl rfl (Yd.cast (Yd.lenE (K := pcS) Try.underlying24 rfl (Es.rd os59)) (congrArg (fun z : Nat => I (z : Int)) pcL_len)) rfl ?_
          refine J.op_g rfl rfl rfl (Yd.eql rfl rfl) rfl ?_
          refine J.op_g rfl rfl rfl (Yd.neqb rfl rfl Try.underlying4) rfl ?_
          refine J.op (Yd.pick_f rfl rfl) rfl ?_
          refine J.op (Yd.move rfl) rfl ?_
          refine J.know (t := 169) (v' := .bool false) rfl (ff (by exact fun h => h (by have h8 := List.length_pos_iff.2 hml; exact (decide_eq_false (by omega)).symm))) ?_
          refine J.op_g rfl rfl rfl (Yd.move rfl) rfl ?_
          refine J.op_g rfl rfl rfl (Yd.move rfl) rfl ?_
          refine J.not_g rfl rfl rfl rfl rfl ?_
          refine J.not_g rfl rfl rfl rfl rfl ?_
          refine J.not_g rfl rfl rfl rfl rfl ?_
          refine J.not_g rfl rfl rfl rfl rfl ?_
          refine J.not_g rfl rfl rfl rfl rfl ?_
          refine J.op_g rfl rfl rfl (Yd.pick_f rfl rfl) rfl ?_
          refine J.op (Yd.pick_f rfl rfl) rfl ?_
          refine J.nil ?_
          refine J.n_then ?_
          refine J.cond_false rfl ?_
          refine J.skip ?_
          refine J.n_block ?_
          refine J.n_then ?_
          refine J.region ?_
          refine J.op (Yd.move rfl) rfl ?_
          refine J.op (Yd.add rfl rfl (by first | omega | (rw [pcL_len]; omega) | (simp only [Int.toNat_natCast, pcL_len]; omega) | (simp only [Int.toNat_natCast]; omega))) rfl ?_
          refine J.op (Yd.assign rfl) rfl ?_
          refine J.nil ?_
          refine J.n_then ?_
          exact J.round ((i + 1, hv2, vs1)) ⟨rfl, rfl, rfl, rfl, (someI (by show _ = ((List.count true hv2 : Nat) : Int); omega)), rfl, rfl, rfl, rfl, trivial⟩ (⟨by show i + 1 ≤ ol.length + (nPc l.length n); omega, hh2, (Els.sub he1 (fun q hq => by simp only [List.mem_cons, List.mem_nil_iff, or_false] at hq ⊢; rcases hq with rfl | rfl <;> simp)), hcb1, os59, oa59, hos1, (by have h9 := hoh; rw [Int.toNat_natCast, ← hhv2] at h9; exact h9), e0⟩) (by show ol.length + (nPc l.length n) - (i + 1) < ol.length + (nPc l.length n) - i; omega)
      · skip
        have hsz9 := e0.size
        refine J.eff (Ye.call cl11 rfl (Add1_new (k := k) (xv := vd1) (l := (pcAt l n k)) (hBx hv) hcb1 he1 hos1 hap_b1 (fun w' ht => Rd.tnk (Ow.rd od1) ht (ApL.one (Ap.symm ap_s1_vd1))) hkL hdi (by rw [lsOf_get hkM, if_neg hh]))) rfl ?_
        rintro _ w32 ⟨rfl, v1n, h6a, h6b, x1⟩
        have he1 := Els.more he1 (Ow.fr h6b)
        have ap_b1_v1n : Ap (some b1) v1n.ownBlock := Ap.mk (Cel.live hcb1) (Ow.fr h6b)
        have ap_s59_v1n : Ap s59.ownBlock v1n.ownBlock := Ap.mk (Es.live os59) (Ow.fr h6b)
        have ap_a59_v1n : Ap a59.ownBlock v1n.ownBlock := Ap.mk (Ow.live oa59) (Ow.fr h6b)
        have ap_s1_v1n : Ap s1.ownBlock v1n.ownBlock := Ap.mk (Ow.live hos1) (Ow.fr h6b)
        have ap_s87_3_v1n : Ap s87_3.ownBlock v1n.ownBlock := Ap.mk (Ow.live hoh) (Ow.fr h6b)
        have ap_v115_22_v1n : Ap v115_22.ownBlock v1n.ownBlock := Ap.mk (Ow.live ov115_22) (Ow.fr h6b)
        have ap_vd1_v1n : Ap vd1.ownBlock v1n.ownBlock := Ap.mk (Ow.live od1) (Ow.fr h6b)
        have ap_b19_23_v1n : Ap (some b19_23) v1n.ownBlock := Ap.mk (Cel.live c19_23) (Ow.fr h6b)
        have fr_v1n : Fr w.heap.size v1n.ownBlock := Fr.le (Ow.fr h6b) e0.size
        have hcb1 := Cel.tnk hcb1 x1 (ApL.one hap_b1)
        have os59 := Es.tnk os59 x1 (ApL.one ap_s59_s1)
        have oa59 := Ow.tnk oa59 x1 (ApL.one ap_a59_s1)
        have hoh := Ow.tnk hoh x1 (ApL.one (Ap.symm ap_s1_s87_3))
        have he1 := Els.tnk he1 x1 (fun r hr => by simp only [List.mem_cons, List.mem_nil_iff, or_false] at hr ⊢; first | exact hr | (rcases hr with rfl | rfl <;> simp) | (subst hr; simp))
        have ov115_22 := Ow.tnk ov115_22 x1 (ApL.one (Ap.symm ap_s1_v115_22))
        have od1 := Ow.tnk od1 x1 (ApL.one (Ap.symm ap_s1_vd1))
        have c19_23 := Cel.tnk c19_23 x1 (ApL.one (Ap.symm ap_s1_b19_23))
        have e0 := Ext.tnk e0 (fun q hq => by simp only [List.mem_singleton] at hq; subst hq; exact fr_s1) x1
        clear x1
        replace hos1 := h6a
        clear h6a
        rw [Int.toNat_natCast] at hos1
        replace h6b := Ow.base h6b hsz9
        have he1 := Els.sub (qs := [s1.ownBlock, s87_3.ownBlock]) he1 (fun q hq => by simp only [List.mem_cons, List.mem_nil_iff, or_false] at hq ⊢; rcases hq with rfl | rfl <;> simp)
        have he1 := Els.set he1 hkL (Ow.rd h6b) (pcAt_ne (by omega) hkn) (ApL.two (Ap.symm ap_s1_v1n) (Ap.symm ap_s87_3_v1n)) (Ow.live h6b)
        obtain ⟨hv2, hhv2⟩ : ∃ z, z = hv.set k true := ⟨_, rfl⟩
        have hh2 : hv2.length = (nPc l.length n) := by rw [hhv2, List.length_set]; exact hhl
        have hmc := missL_cnt (l := l) (n := n) (M := (nPc l.length n)) (hv := hv2) (by omega) hh2 hMj
        have hcc : hv2.count true = hv.count true + 1 := by rw [hhv2]; exact cnt_set (by omega) (by simpa using hh)
        rw [lsOf_set hkM hhl, ← hhv2] at he1
        have hBy := hBx hv2
        refine J.op (Yd.assign rfl) rfl ?_
        refine J.nil ?_
        refine J.n_then ?_
        refine J.seq ?_
        refine J.region ?_
        refine J.op (Yd.assign rfl) rfl ?_
        refine J.nil ?_
        refine J.n_then ?_
        refine J.seq ?_
        refine J.seq ?_
        refine J.region ?_
        refine J.op (Yd.move rfl) rfl ?_
        refine J.op (Yd.move rfl) rfl ?_
        refine J.op (Yd.idx_m Try.underlying62 ti4 rfl rfl (Ow.rd hoh) (by first | omega | (rw [pcL_len]; omega) | (simp only [Int.toNat_natCast, pcL_len]; omega) | (simp only [Int.toNat_natCast]; omega))) rfl ?_
        refine J.op (Yd.load pl4 rfl (Rd.cellM (f := fun b => Value.bool b) (Ow.rd hoh) (show hv[(k : Int).toNat]? = some (hv.getD k false) by rw [Int.toNat_natCast]; exact getB (by omega)))) rfl ?_
        refine J.nil ?_
        refine J.n_then ?_
        refine J.know (t := 129) (v' := .bool false) rfl (congrArg Value.bool (by simpa using hh)) ?_
        refine J.cond_false rfl ?_
        refine J.region ?_
        refine J.op (Yd.move rfl) rfl ?_
        refine J.op (Yd.add rfl rfl (by first | omega | (rw [pcL_len]; omega) | (simp only [Int.toNat_natCast, pcL_len]; omega) | (simp only [Int.toNat_natCast]; omega))) rfl ?_
        refine J.op (Yd.assign rfl) rfl ?_
        refine J.nil ?_
        refine J.n_then ?_
        refine J.seq ?_
        refine J.region ?_
        refine J.op (Yd.move rfl) rfl ?_
        refine J.op (Yd.move rfl) rfl ?_
        refine J.op (Yd.idx_m Try.underlying62 ti4 rfl rfl (Ow.rd hoh) (by first | omega | (rw [pcL_len]; omega) | (simp only [Int.toNat_natCast, pcL_len]; omega) | (simp only [Int.toNat_natCast]; omega))) rfl ?_
        refine J.eff0 (Ye.storeOwM ti4 hoh rfl rfl (by first | omega | (rw [pcL_len]; omega) | (simp only [Int.toNat_natCast, pcL_len]; omega) | (simp only [Int.toNat_natCast]; omega)) (fun _ => rfl) (fun _ => rfl)) ?_
        rintro _ w33 ⟨o', hg⟩
        have hcb1 := Cel.gbk hcb1 hg ap_b1_s87_3
        have os59 := Es.gbk os59 hg ap_s59_s87_3
        have oa59 := Ow.gbk oa59 hg ap_a59_s87_3
        have hos1 := Ow.gbk hos1 hg ap_s1_s87_3
        have he1 := Els.tnk he1 (Tn.ofGB hg) (fun r hr => by simp only [List.mem_cons, List.mem_nil_iff, or_false] at hr ⊢; first | exact hr | (rcases hr with rfl | rfl <;> simp) | (subst hr; simp))
        have ov115_22 := Ow.gbk ov115_22 hg (Ap.symm ap_s87_3_v115_22)
        have od1 := Ow.gbk od1 hg (Ap.symm ap_s87_3_vd1)
        have c19_23 := Cel.gbk c19_23 hg (Ap.symm ap_s87_3_b19_23)
        have h6b := Ow.gbk h6b hg (Ap.symm ap_s87_3_v1n)
        have e0 := Ext.gbk e0 fr_s87_3 hg
        replace hoh := o'
        clear hg o'
        refine J.nil ?_
        refine J.n_then ?_
        refine J.seq ?_
        refine J.region ?_
        refine J.op (Yd.move rfl) rfl ?_
        by_cases hml : missL (lsOf l n (nPc l.length n) hv2) = []
        · skip
          refine J.eff (Ye.call cl10 rfl (Done_yes hBy hcb1 he1 (Ow.rd hos1) hml (by rw [lsOf_flat hml (nPc_mul (by omega))]; omega))) rfl ?_
          rintro _ w34 ⟨v137_34, rfl, ov137_34, x1⟩
          have he1 := Els.more he1 (Ow.fr ov137_34)
          have ap_b1_v137_34 : Ap (some b1) v137_34.ownBlock := Ap.mk (Cel.live hcb1) (Ow.fr ov137_34)
          have ap_s59_v137_34 : Ap s59.ownBlock v137_34.ownBlock := Ap.mk (Es.live os59) (Ow.fr ov137_34)
          have ap_a59_v137_34 : Ap a59.ownBlock v137_34.ownBlock := Ap.mk (Ow.live oa59) (Ow.fr ov137_34)
          have ap_s1_v137_34 : Ap s1.ownBlock v137_34.ownBlock := Ap.mk (Ow.live hos1) (Ow.fr ov137_34)
          have ap_s87_3_v137_34 : Ap s87_3.ownBlock v137_34.ownBlock := Ap.mk (Ow.live hoh) (Ow.fr ov137_34)
          have ap_v115_22_v137_34 : Ap v115_22.ownBlock v137_34.ownBlock := Ap.mk (Ow.live ov115_22) (Ow.fr ov137_34)
          have ap_vd1_v137_34 : Ap vd1.ownBlock v137_34.ownBlock := Ap.mk (Ow.live od1) (Ow.fr ov137_34)
          have ap_b19_23_v137_34 : Ap (some b19_23) v137_34.ownBlock := Ap.mk (Cel.live c19_23) (Ow.fr ov137_34)
          have ap_v1n_v137_34 : Ap v1n.ownBlock v137_34.ownBlock := Ap.mk (Ow.live h6b) (Ow.fr ov137_34)
          have fr_v137_34 : Fr w.heap.size v137_34.ownBlock := Fr.le (Ow.fr ov137_34) e0.size
          replace ov137_34 := Ow.base ov137_34 e0.size
          have e0 := e0.trans x1
          have hcb1 := hcb1.ext x1
          have os59 := os59.ext x1
          have oa59 := oa59.ext x1
          have hos1 := hos1.ext x1
          have hoh := hoh.ext x1
          have he1 := he1.ext x1
          have ov115_22 := ov115_22.ext x1
          have od1 := od1.ext x1
          have c19_23 := c19_23.ext x1
          have h6b := h6b.ext x1
          clear x1
          refine J.op (Yd.move rfl) rfl ?_
          refine J.op (Yd.extract rfl rfl) rfl ?_
          refine J.op (Yd.extract rfl rfl) rfl ?_
          refine J.op (Yd.assign rfl) rfl ?_
          refine J.op (Yd.assign rfl) rfl ?_
          refine J.nil ?_
          refine J.n_then ?_
          refine J.seq ?_
          refine J.region ?_
          refine J.op (Yd.move rfl) rfl ?_
          refine J.op (Yd.neq rfl rfl) rfl ?_
          refine J.op (Yd.move rfl) rfl ?_
          refine J.know (t := 142) (v' := .bool false) rfl (ff (by decide)) ?_
          refine J.op_g rfl rfl rfl (Yd.move rfl) rfl ?_
          refine J.op_g rfl rfl rfl (Yd.neq rfl rfl) rfl ?_
          refine J.op (Yd.pick_f rfl rfl) rfl ?_
          refine J.op (Yd.move rfl) rfl ?_
          refine J.know (t := 146) (v' := .bool false) rfl (ff (by decide)) ?_
          refine J.op_g rfl rfl rfl (Yd.move rfl) rfl ?_
          refine J.op_g rfl rfl rfl (Yd.move rfl) rfl ?_
          refine J.op_g rfl rfl rfl (Yd.neq rfl rfl) rfl ?_
          refine J.op (Yd.pick_f rfl rfl) rfl ?_
          refine J.op (Yd.move rfl) rfl ?_
          refine J.know (t := 151) (v' := .bool false) rfl (ff (by decide)) ?_
          refine J.op_g rfl rfl rfl (Yd.move rfl) rfl ?_
          refine J.eff_g rfl rfl rfl (Ye.call cl13 rfl (Miss1_ok hBy hcb1 he1 (Ow.rd hos1))) rfl ?_
          rintro v153_35 w35 ⟨ov153_35, x1⟩
          have he1 := Els.more he1 (Ow.fr ov153_35)
          have ap_b1_v153_35 : Ap (some b1) v153_35.ownBlock := Ap.mk (Cel.live hcb1) (Ow.fr ov153_35)
          have ap_s59_v153_35 : Ap s59.ownBlock v153_35.ownBlock := Ap.mk (Es.live os59) (Ow.fr ov153_35)
          have ap_a59_v153_35 : Ap a59.ownBlock v153_35.ownBlock := Ap.mk (Ow.live oa59) (Ow.fr ov153_35)
          have ap_s1_v153_35 : Ap s1.ownBlock v153_35.ownBlock := Ap.mk (Ow.live hos1) (Ow.fr ov153_35)
          have ap_s87_3_v153_35 : Ap s87_3.ownBlock v153_35.ownBlock := Ap.mk (Ow.live hoh) (Ow.fr ov153_35)
          have ap_v115_22_v153_35 : Ap v115_22.ownBlock v153_35.ownBlock := Ap.mk (Ow.live ov115_22) (Ow.fr ov153_35)
          have ap_vd1_v153_35 : Ap vd1.ownBlock v153_35.ownBlock := Ap.mk (Ow.live od1) (Ow.fr ov153_35)
          have ap_b19_23_v153_35 : Ap (some b19_23) v153_35.ownBlock := Ap.mk (Cel.live c19_23) (Ow.fr ov153_35)
          have ap_v1n_v153_35 : Ap v1n.ownBlock v153_35.ownBlock := Ap.mk (Ow.live h6b) (Ow.fr ov153_35)
          have ap_v137_34_v153_35 : Ap v137_34.ownBlock v153_35.ownBlock := Ap.mk (Ow.live ov137_34) (Ow.fr ov153_35)
          have fr_v153_35 : Fr w.heap.size v153_35.ownBlock := Fr.le (Ow.fr ov153_35) e0.size
          replace ov153_35 := Ow.base ov153_35 e0.size
          have e0 := e0.trans x1
          have hcb1 := hcb1.ext x1
          have os59 := os59.ext x1
          have oa59 := oa59.ext x1
          have hos1 := hos1.ext x1
          have hoh := hoh.ext x1
          have he1 := he1.ext x1
          have ov115_22 := ov115_22.ext x1
          have od1 := od1.ext x1
          have c19_23 := c19_23.ext x1
          have h6b := h6b.ext x1
          have ov137_34 := ov137_34.ext x1
          clear x1
          refine J.op_g rfl rfl rfl (Yd.len_m Try.underlying37 rfl (Ow.rd ov153_35)) rfl ?_
          refine J.op_g rfl rfl rfl (Yd.move rfl) rfl ?_
          refine J.op_g rfl rfl rfl (Yd.cast (Yd.lenE (K := pcS) Try.underlying24 rfl (Es.rd os59)) (congrArg (fun z : Nat => I (z : Int)) pcL_len)) rfl ?_
          refine J.op_g rfl rfl rfl (Yd.move rfl) rfl ?_
          refine J.op_g rfl rfl rfl (Yd.sub rfl rfl (by first | omega | (rw [pcL_len]; omega) | (simp only [Int.toNat_natCast, pcL_len]; omega) | (simp only [Int.toNat_natCast]; omega))) rfl ?_
          refine J.op_g rfl rfl rfl (Yd.neq rfl rfl) rfl ?_
          refine J.op (Yd.pick_f rfl rfl) rfl ?_
          refine J.op (Yd.move rfl) rfl ?_
          refine J.know (t := 161) (v' := .bool false) rfl (ff (by omega)) ?_
          refine J.op_g rfl rfl rfl (Yd.move rfl) rfl ?_
          refine J.op_g rfl rfl rfl (Yd.move rfl) rfl ?_
          refine J.op_g rfl rfl rfl (Yd.move rfl) rfl ?_
          refine J.op_g rfl rfl rfl (Yd.cast (Yd.lenE (K := pcS) Try.underlying24 rfl (Es.rd os59)) (congrArg (fun z : Nat => I (z : Int)) pcL_len)) rfl ?_
          refine J.op_g rfl rfl rfl (Yd.eql rfl rfl) rfl ?_
          refine J.op_g rfl rfl rfl (Yd.neqb rfl rfl Try.underlying4) rfl ?_
          refine J.op (Yd.pick_f rfl rfl) rfl ?_
          refine J.op (Yd.move rfl) rfl ?_
          refine J.know (t := 169) (v' := .bool false) rfl (ff (by exact fun h => h (by rw [hml, List.length_nil] at hmc; exact (decide_eq_true (by omega)).symm))) ?_
          refine J.op_g rfl rfl rfl (Yd.move rfl) rfl ?_
          refine J.op_g rfl rfl rfl (Yd.move rfl) rfl ?_
          refine J.op_g rfl rfl rfl (Yd.move rfl) rfl ?_
          refine J.op_g rfl rfl rfl (Yd.bstr Try.underlying22 Try.underlying5 Try.underlying9 rfl (Ow.rd ov137_34)) rfl ?_
          refine J.op_g rfl rfl rfl (Yd.move rfl) rfl ?_
          refine J.op_g rfl rfl rfl (Yd.bstr Try.underlying22 Try.underlying5 Try.underlying9 rfl (Rd.ext ha e0)) rfl ?_
          refine J.op_g rfl rfl rfl (Yd.sne rfl rfl) rfl ?_
          refine J.op_g rfl rfl rfl (Yd.pick_t rfl rfl) rfl ?_
          refine J.op (Yd.pick_f rfl rfl) rfl ?_
          refine J.nil ?_
          refine J.n_then ?_
          refine J.know (t := 178) (v' := .bool false) rfl (ff (by exact fun h => h (lsOf_flat hml (nPc_mul (by omega))))) ?_
          refine J.cond_false rfl ?_
          refine J.skip ?_
          refine J.n_block ?_
          refine J.n_then ?_
          refine J.region ?_
          refine J.op (Yd.move rfl) rfl ?_
          refine J.op (Yd.add rfl rfl (by first | omega | (rw [pcL_len]; omega) | (simp only [Int.toNat_natCast, pcL_len]; omega) | (simp only [Int.toNat_natCast]; omega))) rfl ?_
          refine J.op (Yd.assign rfl) rfl ?_
          refine J.nil ?_
          refine J.n_then ?_
          exact J.round ((i + 1, hv2, (vs1.set k v1n))) ⟨rfl, rfl, rfl, rfl, (someI (by show _ = ((List.count true hv2 : Nat) : Int); omega)), rfl, rfl, rfl, rfl, trivial⟩ (⟨by show i + 1 ≤ ol.length + (nPc l.length n); omega, hh2, (Els.sub he1 (fun q hq => by simp only [List.mem_cons, List.mem_nil_iff, or_false] at hq ⊢; rcases hq with rfl | rfl <;> simp)), hcb1, os59, oa59, hos1, (by have h9 := hoh; rw [Int.toNat_natCast, ← hhv2] at h9; exact h9), e0⟩) (by show ol.length + (nPc l.length n) - (i + 1) < ol.length + (nPc l.length n) - i; omega)
        · skip
          refine J.eff (Ye.call cl10 rfl (Done_no hBy hcb1 he1 (Ow.rd hos1) hml)) rfl ?_
          rintro _ w36 ⟨rfl, x1⟩
          have e0 := e0.trans x1
          have hcb1 := hcb1.ext x1
          have os59 := os59.ext x1
          have oa59 := oa59.ext x1
          have hos1 := hos1.ext x1
          have hoh := hoh.ext x1
          have he1 := he1.ext x1
          have ov115_22 := ov115_22.ext x1
          have od1 := od1.ext x1
          have c19_23 := c19_23.ext x1
          have h6b := h6b.ext x1
          clear x1
          refine J.op (Yd.move rfl) rfl ?_
          refine J.op (Yd.extract rfl rfl) rfl ?_
          refine J.op (Yd.extract rfl rfl) rfl ?_
          refine J.op (Yd.assign rfl) rfl ?_
          refine J.op (Yd.assign rfl) rfl ?_
          refine J.nil ?_
          refine J.n_then ?_
          refine J.seq ?_
          refine J.region ?_
          refine J.op (Yd.move rfl) rfl ?_
          refine J.op (Yd.neq rfl rfl) rfl ?_
          refine J.op (Yd.move rfl) rfl ?_
          refine J.know (t := 142) (v' := .bool false) rfl (ff (by decide)) ?_
          refine J.op_g rfl rfl rfl (Yd.move rfl) rfl ?_
          refine J.op_g rfl rfl rfl (Yd.neq rfl rfl) rfl ?_
          refine J.op (Yd.pick_f rfl rfl) rfl ?_
          refine J.op (Yd.move rfl) rfl ?_
          refine J.know (t := 146) (v' := .bool false) rfl (ff (by decide)) ?_
          refine J.op_g rfl rfl rfl (Yd.move rfl) rfl ?_
          refine J.op_g rfl rfl rfl (Yd.move rfl) rfl ?_
          refine J.op_g rfl rfl rfl (Yd.neq rfl rfl) rfl ?_
          refine J.op (Yd.pick_f rfl rfl) rfl ?_
          refine J.op (Yd.move rfl) rfl ?_
          refine J.know (t := 151) (v' := .bool false) rfl (ff (by decide)) ?_
          refine J.op_g rfl rfl rfl (Yd.move rfl) rfl ?_
          refine J.eff_g rfl rfl rfl (Ye.call cl13 rfl (Miss1_ok hBy hcb1 he1 (Ow.rd hos1))) rfl ?_
          rintro v153_37 w37 ⟨ov153_37, x1⟩
          have he1 := Els.more he1 (Ow.fr ov153_37)
          have ap_b1_v153_37 : Ap (some b1) v153_37.ownBlock := Ap.mk (Cel.live hcb1) (Ow.fr ov153_37)
          have ap_s59_v153_37 : Ap s59.ownBlock v153_37.ownBlock := Ap.mk (Es.live os59) (Ow.fr ov153_37)
          have ap_a59_v153_37 : Ap a59.ownBlock v153_37.ownBlock := Ap.mk (Ow.live oa59) (Ow.fr ov153_37)
          have ap_s1_v153_37 : Ap s1.ownBlock v153_37.ownBlock := Ap.mk (Ow.live hos1) (Ow.fr ov153_37)
          have ap_s87_3_v153_37 : Ap s87_3.ownBlock v153_37.ownBlock := Ap.mk (Ow.live hoh) (Ow.fr ov153_37)
          have ap_v115_22_v153_37 : Ap v115_22.ownBlock v153_37.ownBlock := Ap.mk (Ow.live ov115_22) (Ow.fr ov153_37)
          have ap_vd1_v153_37 : Ap vd1.ownBlock v153_37.ownBlock := Ap.mk (Ow.live od1) (Ow.fr ov153_37)
          have ap_b19_23_v153_37 : Ap (some b19_23) v153_37.ownBlock := Ap.mk (Cel.live c19_23) (Ow.fr ov153_37)
          have ap_v1n_v153_37 : Ap v1n.ownBlock v153_37.ownBlock := Ap.mk (Ow.live h6b) (Ow.fr ov153_37)
          have fr_v153_37 : Fr w.heap.size v153_37.ownBlock := Fr.le (Ow.fr ov153_37) e0.size
          replace ov153_37 := Ow.base ov153_37 e0.size
          have e0 := e0.trans x1
          have hcb1 := hcb1.ext x1
          have os59 := os59.ext x1
          have oa59 := oa59.ext x1
          have hos1 := hos1.ext x1
          have hoh := hoh.ext x1
          have he1 := he1.ext x1
          have ov115_22 := ov115_22.ext x1
          have od1 := od1.ext x1
          have c19_23 := c19_23.ext x1
          have h6b := h6b.ext x1
          clear x1
          refine J.op_g rfl rfl rfl (Yd.len_m Try.underlying37 rfl (Ow.rd ov153_37)) rfl ?_
          refine J.op_g rfl rfl rfl (Yd.move rfl) rfl ?_
          refine J.op_g rfl rfl rfl (Yd.cast (Yd.lenE (K := pcS) Try.underlying24 rfl (Es.rd os59)) (congrArg (fun z : Nat => I (z : Int)) pcL_len)) rfl ?_
          refine J.op_g rfl rfl rfl (Yd.move rfl) rfl ?_
          refine J.op_g rfl rfl rfl (Yd.sub rfl rfl (by first | omega | (rw [pcL_len]; omega) | (simp only [Int.toNat_natCast, pcL_len]; omega) | (simp only [Int.toNat_natCast]; omega))) rfl ?_
          refine J.op_g rfl rfl rfl (Yd.neq rfl rfl) rfl ?_
          refine J.op (Yd.pick_f rfl rfl) rfl ?_
          refine J.op (Yd.move rfl) rfl ?_
          refine J.know (t := 161) (v' := .bool false) rfl (ff (by omega)) ?_
          refine J.op_g rfl rfl rfl (Yd.move rfl) rfl ?_
          refine J.op_g rfl rfl rfl (Yd.move rfl) rfl ?_
          refine J.op_g rfl rfl rfl (Yd.move rfl) rfl ?_
          refine J.op_g rfl rfl rfl (Yd.cast (Yd.lenE (K := pcS) Try.underlying24 rfl (Es.rd os59)) (congrArg (fun z : Nat => I (z : Int)) pcL_len)) rfl ?_
          refine J.op_g rfl rfl rfl (Yd.eql rfl rfl) rfl ?_
          refine J.op_g rfl rfl rfl (Yd.neqb rfl rfl Try.underlying4) rfl ?_
          refine J.op (Yd.pick_f rfl rfl) rfl ?_
          refine J.op (Yd.move rfl) rfl ?_
          refine J.know (t := 169) (v' := .bool false) rfl (ff (by exact fun h => h (by have h8 := List.length_pos_iff.2 hml; exact (decide_eq_false (by omega)).symm))) ?_
          refine J.op_g rfl rfl rfl (Yd.move rfl) rfl ?_
          refine J.op_g rfl rfl rfl (Yd.move rfl) rfl ?_
          refine J.not_g rfl rfl rfl rfl rfl ?_
          refine J.not_g rfl rfl rfl rfl rfl ?_
          refine J.not_g rfl rfl rfl rfl rfl ?_
          refine J.not_g rfl rfl rfl rfl rfl ?_
          refine J.not_g rfl rfl rfl rfl rfl ?_
          refine J.op_g rfl rfl rfl (Yd.pick_f rfl rfl) rfl ?_
          refine J.op (Yd.pick_f rfl rfl) rfl ?_
          refine J.nil ?_
          refine J.n_then ?_
          refine J.cond_false rfl ?_
          refine J.skip ?_
          refine J.n_block ?_
          refine J.n_then ?_
          refine J.region ?_
          refine J.op (Yd.move rfl) rfl ?_
          refine J.op (Yd.add rfl rfl (by first | omega | (rw [pcL_len]; omega) | (simp only [Int.toNat_natCast, pcL_len]; omega) | (simp only [Int.toNat_natCast]; omega))) rfl ?_
          refine J.op (Yd.assign rfl) rfl ?_
          refine J.nil ?_
          refine J.n_then ?_
          exact J.round ((i + 1, hv2, (vs1.set k v1n))) ⟨rfl, rfl, rfl, rfl, (someI (by show _ = ((List.count true hv2 : Nat) : Int); omega)), rfl, rfl, rfl, rfl, trivial⟩ (⟨by show i + 1 ≤ ol.length + (nPc l.length n); omega, hh2, (Els.sub he1 (fun q hq => by simp only [List.mem_cons, List.mem_nil_iff, or_false] at hq ⊢; rcases hq with rfl | rfl <;> simp)), hcb1, os59, oa59, hos1, (by have h9 := hoh; rw [Int.toNat_natCast, ← hhv2] at h9; exact h9), e0⟩) (by show ol.length + (nPc l.length n) - (i + 1) < ol.length + (nPc l.length n) - i; omega)
  · skip
    refine J.exit ?_
    refine J.x_then ?_
    refine J.x_then ?_
    refine J.x_block ?_
    refine J.n_then ?_
    refine J.seq ?_
    refine J.region ?_
    refine J.eff (Ye.call cl8 rfl (Awake_ok)) rfl ?_
    rintro _ w38 ⟨rfl, x1⟩
    have e0 := e0.trans x1
    have hcb1 := hcb1.ext x1
    have os59 := os59.ext x1
    have oa59 := oa59.ext x1
    have hos1 := hos1.ext x1
    have hoh := hoh.ext x1
    have he1 := he1.ext x1
    clear x1
    refine J.op (Yd.assign rfl) rfl ?_
    refine J.nil ?_
    refine J.n_then ?_
    refine J.ret ?_
    exact J.ret1 rfl rfl (⟨_, rfl, rfl, e0⟩)

theorem Back_ok {id n : Int} {a so : Value} {l : List UInt8} {ol : List Int} {w : World} (ha : Bs w a l) (hso : Rd w so (ol.map fun x => I x)) : C Try.prog 7 [I id, a, I n, so] w (Ret fun v w' => v = .bool true ∧ Ext w w') := by
  by_cases hb : (0 ≤ id ∧ id ≤ 1073741824) ∧ (1 ≤ l.length ∧ l.length ≤ 600) ∧ (1 ≤ n ∧ n ≤ 100) ∧ ol.length ≤ 200
  · obtain ⟨m, rfl⟩ := Int.eq_ofNat_of_zero_le (show 0 ≤ n by omega)
    exact BackIn ha hso (by omega)
  · exact BackOut ha hso hb
end Ytghklimejpmpnaa
end Go.Proofs
