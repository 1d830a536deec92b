import Derived.Test.YtghklimejpmpnaaT
import Derived.Test.YtghklimejpmpnaaC3
set_option linter.unusedVariables false
set_option linter.unusedSimpArgs false
set_option maxRecDepth 100000
set_option maxHeartbeats 4000000
namespace Go.Proofs
open Go.X Go.RowKit
namespace Ytghklimejpmpnaa
theorem PiecesOut_ok {a : Value} {l : List UInt8} {id n : Int} {w : World} (h1 : Bs w a l) (hb : ¬ ((0 ≤ id ∧ id ≤ 1073741824) ∧ (1 ≤ l.length ∧ l.length ≤ 3000) ∧ 1 ≤ n ∧ n ≤ 1000)) : C Try.prog 3 [I id, a, I n] w (Ret fun v w' => v = .bool true ∧ Ext w w') := by
  have e0 := Ext.refl w
  refine C.enter Try.func3 rfl Try.ntmps3 rfl ?_
  refine J.seq ?_
  refine J.region ?_
  refine J.op (Yd.assign rfl) rfl ?_
  refine J.nil ?_
  refine J.n_then ?_
  refine J.seq ?_
  refine J.seq ?_
  refine J.region ?_
  refine J.op (Yd.move rfl) rfl ?_
  refine J.op (Yd.lss rfl rfl) rfl ?_
  refine J.op (Yd.move rfl) rfl ?_
  refine J.split_dec (t := 13) rfl (fun hg1 => ?_) (fun hg1 => ?_)
  · skip
    refine J.not_g rfl rfl rfl rfl rfl ?_
    refine J.not_g rfl rfl rfl rfl rfl ?_
    refine J.op (Yd.pick_t rfl rfl) rfl ?_
    refine J.op (Yd.move rfl) rfl ?_
    refine J.not_g rfl rfl rfl rfl rfl ?_
    refine J.not_g rfl rfl rfl rfl rfl ?_
    refine J.not_g rfl rfl rfl rfl rfl ?_
    refine J.op (Yd.pick_t rfl rfl) rfl ?_
    refine J.op (Yd.move rfl) rfl ?_
    refine J.not_g rfl rfl rfl rfl rfl ?_
    refine J.not_g rfl rfl rfl rfl rfl ?_
    refine J.not_g rfl rfl rfl rfl rfl ?_
    refine J.op (Yd.pick_t rfl rfl) rfl ?_
    refine J.op (Yd.move rfl) rfl ?_
    refine J.not_g rfl rfl rfl rfl rfl ?_
    refine J.not_g rfl rfl rfl rfl rfl ?_
    refine J.op (Yd.pick_t rfl rfl) rfl ?_
    refine J.op (Yd.move rfl) rfl ?_
    refine J.not_g rfl rfl rfl rfl rfl ?_
    refine J.not_g rfl rfl rfl rfl rfl ?_
    refine J.op (Yd.pick_t rfl rfl) rfl ?_
    refine J.nil ?_
    refine J.n_then ?_
    refine J.cond_true rfl ?_
    refine J.seq ?_
    refine J.region ?_
    refine J.eff (Ye.call cl8 rfl (Awake_ok)) rfl ?_
    rintro _ w1 ⟨rfl, x1⟩
    have e0 := e0.trans x1
    clear x1
    refine J.op (Yd.assign rfl) rfl ?_
    refine J.nil ?_
    refine J.n_then ?_
    refine J.ret ?_
    refine J.r_then ?_
    exact J.ret1 rfl rfl (⟨_, rfl, rfl, e0⟩)
  · skip
    refine J.op_g rfl rfl rfl (Yd.move rfl) rfl ?_
    refine J.op_g rfl rfl rfl (Yd.gtr rfl rfl) rfl ?_
    refine J.op (Yd.pick_f rfl rfl) rfl ?_
    refine J.op (Yd.move rfl) rfl ?_
    refine J.split_dec (t := 17) rfl (fun hg2 => ?_) (fun hg2 => ?_)
    · skip
      refine J.not_g rfl rfl rfl rfl rfl ?_
      refine J.not_g rfl rfl rfl rfl rfl ?_
      refine J.not_g rfl rfl rfl rfl rfl ?_
      refine J.op (Yd.pick_t rfl rfl) rfl ?_
      refine J.op (Yd.move rfl) rfl ?_
      refine J.not_g rfl rfl rfl rfl rfl ?_
      refine J.not_g rfl rfl rfl rfl rfl ?_
      refine J.not_g rfl rfl rfl rfl rfl ?_
      refine J.op (Yd.pick_t rfl rfl) rfl ?_
      refine J.op (Yd.move rfl) rfl ?_
      refine J.not_g rfl rfl rfl rfl rfl ?_
      refine J.not_g rfl rfl rfl rfl rfl ?_
      refine J.op (Yd.pick_t rfl rfl) rfl ?_
      refine J.op (Yd.move rfl) rfl ?_
      refine J.not_g rfl rfl rfl rfl rfl ?_
      refine J.not_g rfl rfl rfl rfl rfl ?_
      refine J.op (Yd.pick_t rfl rfl) rfl ?_
      refine J.nil ?_
      refine J.n_then ?_
      refine J.cond_true rfl ?_
      refine J.seq ?_
      refine J.region ?_
      refine J.eff (Ye.call cl8 rfl (Awake_ok)) rfl ?_
      rintro _ w2 ⟨rfl, x1⟩
      have e0 := e0.trans x1
      clear x1
      refine J.op (Yd.assign rfl) rfl ?_
      refine J.nil ?_
      refine J.n_then ?_
      refine J.ret ?_
      refine J.r_then ?_
      exact J.ret1 rfl rfl (⟨_, rfl, rfl, e0⟩)
    · skip
      refine J.op_g rfl rfl rfl (Yd.move rfl) rfl ?_
      refine J.op_g rfl rfl rfl (Yd.len_b Try.underlying22 rfl h1) rfl ?_
      refine J.op_g rfl rfl rfl (Yd.lss rfl rfl) rfl ?_
      refine J.op (Yd.pick_f rfl rfl) rfl ?_
      refine J.op (Yd.move rfl) rfl ?_
      refine J.split_dec (t := 22) rfl (fun hg3 => ?_) (fun hg3 => ?_)
      · skip
        refine J.not_g rfl rfl rfl rfl rfl ?_
        refine J.not_g rfl rfl rfl rfl rfl ?_
        refine J.not_g rfl rfl rfl rfl rfl ?_
        refine J.op (Yd.pick_t rfl rfl) rfl ?_
        refine J.op (Yd.move rfl) rfl ?_
        refine J.not_g rfl rfl rfl rfl rfl ?_
        refine J.not_g rfl rfl rfl rfl rfl ?_
        refine J.op (Yd.pick_t rfl rfl) rfl ?_
        refine J.op (Yd.move rfl) rfl ?_
        refine J.not_g rfl rfl rfl rfl rfl ?_
        refine J.not_g rfl rfl rfl rfl rfl ?_
        refine J.op (Yd.pick_t rfl rfl) rfl ?_
        refine J.nil ?_
        refine J.n_then ?_
        refine J.cond_true rfl ?_
        refine J.seq ?_
        refine J.region ?_
        refine J.eff (Ye.call cl8 rfl (Awake_ok)) rfl ?_
        rintro _ w3 ⟨rfl, x1⟩
        have e0 := e0.trans x1
        clear x1
        refine J.op (Yd.assign rfl) rfl ?_
        refine J.nil ?_
        refine J.n_then ?_
        refine J.ret ?_
        refine J.r_then ?_
        exact J.ret1 rfl rfl (⟨_, rfl, rfl, e0⟩)
      · skip
        refine J.op_g rfl rfl rfl (Yd.move rfl) rfl ?_
        refine J.op_g rfl rfl rfl (Yd.len_b Try.underlying22 rfl h1) rfl ?_
        refine J.op_g rfl rfl rfl (Yd.gtr rfl rfl) rfl ?_
        refine J.op (Yd.pick_f rfl rfl) rfl ?_
        refine J.op (Yd.move rfl) rfl ?_
        refine J.split_dec (t := 27) rfl (fun hg4 => ?_) (fun hg4 => ?_)
        · skip
          refine J.not_g rfl rfl rfl rfl rfl ?_
          refine J.not_g rfl rfl rfl rfl rfl ?_
          refine J.op (Yd.pick_t rfl rfl) rfl ?_
          refine J.op (Yd.move rfl) rfl ?_
          refine J.not_g rfl rfl rfl rfl rfl ?_
          refine J.not_g rfl rfl rfl rfl rfl ?_
          refine J.op (Yd.pick_t rfl rfl) rfl ?_
          refine J.nil ?_
          refine J.n_then ?_
          refine J.cond_true rfl ?_
          refine J.seq ?_
          refine J.region ?_
          refine J.eff (Ye.call cl8 rfl (Awake_ok)) rfl ?_
          rintro _ w4 ⟨rfl, x1⟩
          have e0 := e0.trans x1
          clear x1
          refine J.op (Yd.assign rfl) rfl ?_
          refine J.nil ?_
          refine J.n_then ?_
          refine J.ret ?_
          refine J.r_then ?_
          exact J.ret1 rfl rfl (⟨_, rfl, rfl, e0⟩)
        · skip
          refine J.op_g rfl rfl rfl (Yd.move rfl) rfl ?_
          refine J.op_g rfl rfl rfl (Yd.lss rfl rfl) rfl ?_
          refine J.op (Yd.pick_f rfl rfl) rfl ?_
          refine J.op (Yd.move rfl) rfl ?_
          refine J.split_dec (t := 31) rfl (fun hg5 => ?_) (fun hg5 => ?_)
          · skip
            refine J.not_g rfl rfl rfl rfl rfl ?_
            refine J.not_g rfl rfl rfl rfl rfl ?_
            refine J.op (Yd.pick_t rfl rfl) rfl ?_
            refine J.nil ?_
            refine J.n_then ?_
            refine J.cond_true rfl ?_
            refine J.seq ?_
            refine J.region ?_
            refine J.eff (Ye.call cl8 rfl (Awake_ok)) rfl ?_
            rintro _ w5 ⟨rfl, x1⟩
            have e0 := e0.trans x1
            clear x1
            refine J.op (Yd.assign rfl) rfl ?_
            refine J.nil ?_
            refine J.n_then ?_
            refine J.ret ?_
            refine J.r_then ?_
            exact J.ret1 rfl rfl (⟨_, rfl, rfl, e0⟩)
          · skip
            refine J.op_g rfl rfl rfl (Yd.move rfl) rfl ?_
            refine J.op_g rfl rfl rfl (Yd.gtr rfl rfl) rfl ?_
            refine J.op (Yd.pick_f rfl rfl) rfl ?_
            refine J.nil ?_
            refine J.n_then ?_
            refine J.know (t := 34) (v' := .bool true) rfl (tt (by omega)) ?_
            refine J.cond_true rfl ?_
            refine J.seq ?_
            refine J.region ?_
            refine J.eff (Ye.call cl8 rfl (Awake_ok)) rfl ?_
            rintro _ w6 ⟨rfl, x1⟩
            have e0 := e0.trans x1
            clear x1
            refine J.op (Yd.assign rfl) rfl ?_
            refine J.nil ?_
            refine J.n_then ?_
            refine J.ret ?_
            refine J.r_then ?_
            exact J.ret1 rfl rfl (⟨_, rfl, rfl, e0⟩)

theorem PiecesIn_ok {a : Value} {l : List UInt8} {id : Int} {n : Nat} {w : World} (h1 : Bs w a l) (hb : (0 ≤ id ∧ id ≤ 1073741824) ∧ (1 ≤ l.length ∧ l.length ≤ 3000) ∧ 1 ≤ n ∧ n ≤ 1000) : C Try.prog 3 [I id, a, I (n : Int)] w (Ret fun v w' => v = .bool true ∧ Ext w w') := by
  have hmn := nPc_le l.length n
  have e0 := Ext.refl w
  refine C.enter Try.func3 rfl Try.ntmps3 rfl ?_
  refine J.seq ?_
  refine J.region ?_
  refine J.op (Yd.assign rfl) rfl ?_
  refine J.nil ?_
  refine J.n_then ?_
  refine J.seq ?_
  refine J.seq ?_
  refine J.region ?_
  refine J.op (Yd.move rfl) rfl ?_
  refine J.op (Yd.lss rfl rfl) rfl ?_
  refine J.op (Yd.move rfl) rfl ?_
  refine J.know (t := 13) (v' := .bool false) rfl (ff (by omega)) ?_
  refine J.op_g rfl rfl rfl (Yd.move rfl) rfl ?_
  refine J.op_g rfl rfl rfl (Yd.gtr rfl rfl) rfl ?_
  refine J.op (Yd.pick_f rfl rfl) rfl ?_
  refine J.op (Yd.move rfl) rfl ?_
  refine J.know (t := 17) (v' := .bool false) rfl (ff (by omega)) ?_
  refine J.op_g rfl rfl rfl (Yd.move rfl) rfl ?_
  refine J.op_g rfl rfl rfl (Yd.len_b Try.underlying22 rfl h1) rfl ?_
  refine J.op_g rfl rfl rfl (Yd.lss rfl rfl) rfl ?_
  refine J.op (Yd.pick_f rfl rfl) rfl ?_
  refine J.op (Yd.move rfl) rfl ?_
  refine J.know (t := 22) (v' := .bool false) rfl (ff (by omega)) ?_
  refine J.op_g rfl rfl rfl (Yd.move rfl) rfl ?_
  refine J.op_g rfl rfl rfl (Yd.len_b Try.underlying22 rfl h1) rfl ?_
  refine J.op_g rfl rfl rfl (Yd.gtr rfl rfl) rfl ?_
  refine J.op (Yd.pick_f rfl rfl) rfl ?_
  refine J.op (Yd.move rfl) rfl ?_
  refine J.know (t := 27) (v' := .bool false) rfl (ff (by omega)) ?_
  refine J.op_g rfl rfl rfl (Yd.move rfl) rfl ?_
  refine J.op_g rfl rfl rfl (Yd.lss rfl rfl) rfl ?_
  refine J.op (Yd.pick_f rfl rfl) rfl ?_
  refine J.op (Yd.move rfl) rfl ?_
  refine J.know (t := 31) (v' := .bool false) rfl (ff (by omega)) ?_
  refine J.op_g rfl rfl rfl (Yd.move rfl) rfl ?_
  refine J.op_g rfl rfl rfl (Yd.gtr rfl rfl) rfl ?_
  refine J.op (Yd.pick_f rfl rfl) rfl ?_
  refine J.nil ?_
  refine J.n_then ?_
  refine J.know (t := 34) (v' := .bool false) rfl (ff (by omega)) ?_
  refine J.cond_false rfl ?_
  refine J.skip ?_
  refine J.n_then ?_
  refine J.seq ?_
  refine J.region ?_
  refine J.op (Yd.move rfl) rfl ?_
  refine J.op (Yd.move rfl) rfl ?_
  refine J.op (Yd.move rfl) rfl ?_
  refine J.eff (Ye.call cl9 rfl (Split_ok  h1 ⟨by omega, by omega, by omega⟩ (by omega))) rfl ?_
  rintro _ w1 ⟨s40, a40, rfl, os40, oa40, frs, apas, x1⟩
  have fr_s40 : Fr w.heap.size s40.ownBlock := Fr.le frs e0.size
  have fr_a40 : Fr w.heap.size a40.ownBlock := Fr.le (Ow.fr oa40) e0.size
  have ap_a40_s40 := apas
  replace oa40 := Ow.base oa40 e0.size
  have e0 := e0.trans x1
  clear x1 frs apas
  refine J.op (Yd.move rfl) rfl ?_
  refine J.op (Yd.extract rfl rfl) rfl ?_
  refine J.op (Yd.extract rfl rfl) rfl ?_
  refine J.op (Yd.assign rfl) rfl ?_
  refine J.op (Yd.assign rfl) rfl ?_
  refine J.nil ?_
  refine J.n_then ?_
  refine J.seq ?_
  refine J.seq ?_
  refine J.region ?_
  refine J.op (Yd.move rfl) rfl ?_
  refine J.op (Yd.neq rfl rfl) rfl ?_
  refine J.op (Yd.move rfl) rfl ?_
  refine J.know (t := 45) (v' := .bool false) rfl (ff (by decide)) ?_
  refine J.op_g rfl rfl rfl (Yd.move rfl) rfl ?_
  refine J.op_g rfl rfl rfl (Yd.cast (Yd.lenE (K := pcS) Try.underlying24 rfl (Es.rd os40)) (congrArg (fun z : Nat => I (z : Int)) pcL_len)) rfl ?_
  refine J.op_g rfl rfl rfl (Yd.move rfl) rfl ?_
  refine J.op_g rfl rfl rfl (Yd.len_b Try.underlying22 rfl (Rd.ext h1 e0)) rfl ?_
  refine J.op_g rfl rfl rfl (Yd.move rfl) rfl ?_
  refine J.op_g rfl rfl rfl (Yd.add rfl rfl (by first | omega | (rw [pcL_len]; omega) | (simp only [Int.toNat_natCast, pcL_len]; omega) | (simp only [List.length_take, List.length_drop]; omega))) rfl ?_
  refine J.op_g rfl rfl rfl (Yd.sub rfl rfl (by first | omega | (rw [pcL_len]; omega) | (simp only [Int.toNat_natCast, pcL_len]; omega) | (simp only [List.length_take, List.length_drop]; omega))) rfl ?_
  refine J.op_g rfl rfl rfl (Yd.move rfl) rfl ?_
  refine J.op_g rfl rfl rfl (Yd.quo rfl rfl (by first | omega | (rw [pcL_len]; omega) | (simp only [Int.toNat_natCast, pcL_len]; omega) | (simp only [List.length_take, List.length_drop]; omega)) (by first | omega | (rw [pcL_len]; omega) | (simp only [Int.toNat_natCast, pcL_len]; omega) | (simp only [List.length_take, List.length_drop]; omega)) (by first | omega | (rw [pcL_len]; omega) | (simp only [Int.toNat_natCast, pcL_len]; omega) | (simp only [List.length_take, List.length_drop]; omega))) rfl ?_
  refine J.op_g rfl rfl rfl (Yd.neq rfl rfl) rfl ?_
  refine J.op (Yd.pick_f rfl rfl) rfl ?_
  refine J.nil ?_
  refine J.n_then ?_
  refine J.know (t := 56) (v' := .bool false) rfl (ff (by exact fun h => h (nPc_int (by omega)))) ?_
  refine J.cond_false rfl ?_
  refine J.skip ?_
  refine J.n_then ?_
  refine J.seq ?_
  refine J.region ?_
  refine J.op (Yd.assign rfl) rfl ?_
  refine J.nil ?_
  refine J.n_then ?_
  refine J.seq ?_
  refine J.seq ?_
  refine J.region ?_
  refine J.op (Yd.assign rfl) rfl ?_
  refine J.nil ?_
  refine J.n_then ?_
  refine J.block ?_
  refine J.loop (ι := Nat × Value) (fun i => [(0, I id), (1, a), (2, I (n : Int)), (10, I (i.1 : Int)), (7, s40), (9, i.2)]) (fun i w' => i.1 ≤ (nPc l.length n) ∧ Es pcS 0 29 w' s40 (pcL id a40 n l.length (nPc l.length n) (nPc l.length n)) ∧ Ob w.heap.size 5 w' a40 l ∧ Ob w.heap.size 5 w' i.2 (l.take (i.1 * n)) ∧ Fr w.heap.size (i.2).ownBlock ∧ Ap s40.ownBlock (i.2).ownBlock ∧ Ap a40.ownBlock (i.2).ownBlock ∧ Ext w w') (fun i => (nPc l.length n) - i.1) ((0, nilS)) ⟨rfl, rfl, rfl, rfl, rfl, rfl, trivial⟩ (⟨Nat.zero_le _, os40, oa40, (by rw [Nat.zero_mul]; exact Ow.nil _ _ _), Fr.nil, Ap.nil_r, Ap.nil_r, e0⟩) ?_
  rintro ⟨i, v9⟩ w2 ⟨hk, os40, oa40, ho9, fr_v9, ap_s40_v9, ap_a40_v9, e0⟩
  dsimp only at *
  refine J.seq ?_
  refine J.seq ?_
  refine J.region ?_
  refine J.op (Yd.move rfl) rfl ?_
  refine J.op (Yd.move rfl) rfl ?_
  refine J.op (Yd.cast (Yd.lenE (K := pcS) Try.underlying24 rfl (Es.rd os40)) (congrArg (fun z : Nat => I (z : Int)) pcL_len)) rfl ?_
  refine J.op (Yd.lss rfl rfl) rfl ?_
  refine J.nil ?_
  refine J.n_then ?_
  refine J.cond_dec rfl (fun hc2 => ?_) (fun hc2 => ?_)
  · skip
    have hin := (nPc_lt (len := l.length) (n := n) (i := i) (by omega)).1 (by omega)
    refine J.skip ?_
    refine J.n_then ?_
    refine J.seq ?_
    refine J.block ?_
    refine J.seq ?_
    refine J.seq ?_
    refine J.region ?_
    refine J.op (Yd.move rfl) rfl ?_
    refine J.op (Yd.move rfl) rfl ?_
    refine J.op (Yd.idxE (K := pcS) Try.underlying24 ti29 rfl rfl (Es.rd os40) (by first | omega | (rw [pcL_len]; omega) | (simp only [Int.toNat_natCast, pcL_len]; omega) | (simp only [List.length_take, List.length_drop]; omega))) rfl ?_
    refine J.op (Yd.fieldE (K := pcS) (Es.rd os40) (by rw [pcL_len]; omega) Try.underlying29 rfl ti3 rfl rfl) rfl ?_
    refine J.op (Yd.cast (Yd.loadFd (K := pcS) pcD pl3 rfl (Es.rd os40) (by first | omega | (rw [pcL_len]; omega) | (simp only [Int.toNat_natCast, pcL_len]; omega) | (simp only [List.length_take, List.length_drop]; omega)) rfl) (show _ = I id by rw [Int.toNat_natCast, pcL_get (by omega)])) rfl ?_
    refine J.op (Yd.move rfl) rfl ?_
    refine J.op (Yd.neq rfl rfl) rfl ?_
    refine J.op (Yd.move rfl) rfl ?_
    refine J.know (t := 70) (v' := .bool false) rfl (ff (by exact fun h => h rfl)) ?_
    refine J.op_g rfl rfl rfl (Yd.move rfl) rfl ?_
    refine J.op_g rfl rfl rfl (Yd.move rfl) rfl ?_
    refine J.op_g rfl rfl rfl (Yd.idxE (K := pcS) Try.underlying24 ti29 rfl rfl (Es.rd os40) (by first | omega | (rw [pcL_len]; omega) | (simp only [Int.toNat_natCast, pcL_len]; omega) | (simp only [List.length_take, List.length_drop]; omega))) rfl ?_
    refine J.op_g rfl rfl rfl (Yd.fieldE (K := pcS) (Es.rd os40) (by rw [pcL_len]; omega) Try.underlying29 rfl ti3 rfl rfl) rfl ?_
    refine J.op_g rfl rfl rfl (Yd.cast (Yd.loadFd (K := pcS) pcD pl3 rfl (Es.rd os40) (by first | omega | (rw [pcL_len]; omega) | (simp only [Int.toNat_natCast, pcL_len]; omega) | (simp only [List.length_take, List.length_drop]; omega)) rfl) (show _ = I (i : Int) by rw [Int.toNat_natCast, pcL_get (by omega)])) rfl ?_
    refine J.op_g rfl rfl rfl (Yd.move rfl) rfl ?_
    refine J.op_g rfl rfl rfl (Yd.neq rfl rfl) rfl ?_
    refine J.op (Yd.pick_f rfl rfl) rfl ?_
    refine J.op (Yd.move rfl) rfl ?_
    refine J.know (t := 79) (v' := .bool false) rfl (ff (by exact fun h => h rfl)) ?_
    refine J.op_g rfl rfl rfl (Yd.move rfl) rfl ?_
    refine J.op_g rfl rfl rfl (Yd.move rfl) rfl ?_
    refine J.op_g rfl rfl rfl (Yd.idxE (K := pcS) Try.underlying24 ti29 rfl rfl (Es.rd os40) (by first | omega | (rw [pcL_len]; omega) | (simp only [Int.toNat_natCast, pcL_len]; omega) | (simp only [List.length_take, List.length_drop]; omega))) rfl ?_
    refine J.op_g rfl rfl rfl (Yd.fieldE (K := pcS) (Es.rd os40) (by rw [pcL_len]; omega) Try.underlying29 rfl ti3 rfl rfl) rfl ?_
    refine J.op_g rfl rfl rfl (Yd.cast (Yd.loadFd (K := pcS) pcD pl3 rfl (Es.rd os40) (by first | omega | (rw [pcL_len]; omega) | (simp only [Int.toNat_natCast, pcL_len]; omega) | (simp only [List.length_take, List.length_drop]; omega)) rfl) (show _ = I ((nPc l.length n) : Int) by rw [Int.toNat_natCast, pcL_get (by omega)])) rfl ?_
    refine J.op_g rfl rfl rfl (Yd.move rfl) rfl ?_
    refine J.op_g rfl rfl rfl (Yd.cast (Yd.lenE (K := pcS) Try.underlying24 rfl (Es.rd os40)) (congrArg (fun z : Nat => I (z : Int)) pcL_len)) rfl ?_
    refine J.op_g rfl rfl rfl (Yd.neq rfl rfl) rfl ?_
    refine J.op (Yd.pick_f rfl rfl) rfl ?_
    refine J.op (Yd.move rfl) rfl ?_
    refine J.know (t := 89) (v' := .bool false) rfl (ff (by exact fun h => h rfl)) ?_
    refine J.op_g rfl rfl rfl (Yd.move rfl) rfl ?_
    refine J.op_g rfl rfl rfl (Yd.move rfl) rfl ?_
    refine J.op_g rfl rfl rfl (Yd.cast (Yd.lenE (K := pcS) Try.underlying24 rfl (Es.rd os40)) (congrArg (fun z : Nat => I (z : Int)) pcL_len)) rfl ?_
    refine J.op_g rfl rfl rfl (Yd.sub rfl rfl (by first | omega | (rw [pcL_len]; omega) | (simp only [Int.toNat_natCast, pcL_len]; omega) | (simp only [List.length_take, List.length_drop]; omega))) rfl ?_
    refine J.op_g rfl rfl rfl (Yd.lss rfl rfl) rfl ?_
    refine J.op_g rfl rfl rfl (Yd.move rfl) rfl ?_
    refine J.split_dec (t := 95) rfl (fun hls => ?_) (fun hls => ?_)
    · skip
      refine J.op_g rfl rfl rfl (Yd.move rfl) rfl ?_
      refine J.op_g rfl rfl rfl (Yd.move rfl) rfl ?_
      refine J.op_g rfl rfl rfl (Yd.idxE (K := pcS) Try.underlying24 ti29 rfl rfl (Es.rd os40) (by first | omega | (rw [pcL_len]; omega) | (simp only [Int.toNat_natCast, pcL_len]; omega) | (simp only [List.length_take, List.length_drop]; omega))) rfl ?_
      refine J.op_g rfl rfl rfl (Yd.fieldE (K := pcS) (Es.rd os40) (by rw [pcL_len]; omega) Try.underlying29 rfl ti22 rfl rfl) rfl ?_
      refine J.op_g rfl rfl rfl (Yd.cast (Yd.loadFd (K := pcS) pcD pl22 rfl (Es.rd os40) (by first | omega | (rw [pcL_len]; omega) | (simp only [Int.toNat_natCast, pcL_len]; omega) | (simp only [List.length_take, List.length_drop]; omega)) rfl) (show _ = (chV a40 n l.length i) by rw [Int.toNat_natCast, pcL_get (by omega)])) rfl ?_
      refine J.op_g rfl rfl rfl (Yd.cast (Yd.len_b Try.underlying22 rfl (chV_bs (Ow.rd oa40) hin)) (congrArg (fun z : Nat => I (z : Int)) pc_len)) rfl ?_
      refine J.op_g rfl rfl rfl (Yd.move rfl) rfl ?_
      refine J.op_g rfl rfl rfl (Yd.neq rfl rfl) rfl ?_
      refine J.op_g rfl rfl rfl (Yd.pick_t rfl rfl) rfl ?_
      refine J.op (Yd.pick_f rfl rfl) rfl ?_
      refine J.op (Yd.move rfl) rfl ?_
      refine J.know (t := 106) (v' := .bool false) rfl (ff (by have h9 := (nPc_lt (len := l.length) (n := n) (i := i + 1) (by omega)).1 (by omega); rw [Nat.succ_mul] at h9; omega)) ?_
      refine J.op_g rfl rfl rfl (Yd.move rfl) rfl ?_
      refine J.op_g rfl rfl rfl (Yd.move rfl) rfl ?_
      refine J.op_g rfl rfl rfl (Yd.idxE (K := pcS) Try.underlying24 ti29 rfl rfl (Es.rd os40) (by first | omega | (rw [pcL_len]; omega) | (simp only [Int.toNat_natCast, pcL_len]; omega) | (simp only [List.length_take, List.length_drop]; omega))) rfl ?_
      refine J.op_g rfl rfl rfl (Yd.fieldE (K := pcS) (Es.rd os40) (by rw [pcL_len]; omega) Try.underlying29 rfl ti22 rfl rfl) rfl ?_
      refine J.op_g rfl rfl rfl (Yd.cast (Yd.loadFd (K := pcS) pcD pl22 rfl (Es.rd os40) (by first | omega | (rw [pcL_len]; omega) | (simp only [Int.toNat_natCast, pcL_len]; omega) | (simp only [List.length_take, List.length_drop]; omega)) rfl) (show _ = (chV a40 n l.length i) by rw [Int.toNat_natCast, pcL_get (by omega)])) rfl ?_
      refine J.op_g rfl rfl rfl (Yd.cast (Yd.len_b Try.underlying22 rfl (chV_bs (Ow.rd oa40) hin)) (congrArg (fun z : Nat => I (z : Int)) pc_len)) rfl ?_
      refine J.op_g rfl rfl rfl (Yd.lss rfl rfl) rfl ?_
      refine J.op (Yd.pick_f rfl rfl) rfl ?_
      refine J.op (Yd.move rfl) rfl ?_
      refine J.know (t := 115) (v' := .bool false) rfl (ff (by omega)) ?_
      refine J.op_g rfl rfl rfl (Yd.move rfl) rfl ?_
      refine J.op_g rfl rfl rfl (Yd.move rfl) rfl ?_
      refine J.op_g rfl rfl rfl (Yd.idxE (K := pcS) Try.underlying24 ti29 rfl rfl (Es.rd os40) (by first | omega | (rw [pcL_len]; omega) | (simp only [Int.toNat_natCast, pcL_len]; omega) | (simp only [List.length_take, List.length_drop]; omega))) rfl ?_
      refine J.op_g rfl rfl rfl (Yd.fieldE (K := pcS) (Es.rd os40) (by rw [pcL_len]; omega) Try.underlying29 rfl ti22 rfl rfl) rfl ?_
      refine J.op_g rfl rfl rfl (Yd.cast (Yd.loadFd (K := pcS) pcD pl22 rfl (Es.rd os40) (by first | omega | (rw [pcL_len]; omega) | (simp only [Int.toNat_natCast, pcL_len]; omega) | (simp only [List.length_take, List.length_drop]; omega)) rfl) (show _ = (chV a40 n l.length i) by rw [Int.toNat_natCast, pcL_get (by omega)])) rfl ?_
      refine J.op_g rfl rfl rfl (Yd.cast (Yd.len_b Try.underlying22 rfl (chV_bs (Ow.rd oa40) hin)) (congrArg (fun z : Nat => I (z : Int)) pc_len)) rfl ?_
      refine J.op_g rfl rfl rfl (Yd.move rfl) rfl ?_
      refine J.op_g rfl rfl rfl (Yd.gtr rfl rfl) rfl ?_
      refine J.op (Yd.pick_f rfl rfl) rfl ?_
      refine J.nil ?_
      refine J.n_then ?_
      refine J.know (t := 124) (v' := .bool false) rfl (ff (by omega)) ?_
      refine J.cond_false rfl ?_
      refine J.skip ?_
      refine J.n_then ?_
      refine J.region ?_
      refine J.op (Yd.move rfl) rfl ?_
      refine J.op (Yd.move rfl) rfl ?_
      refine J.op (Yd.move rfl) rfl ?_
      refine J.op (Yd.idxE (K := pcS) Try.underlying24 ti29 rfl rfl (Es.rd os40) (by first | omega | (rw [pcL_len]; omega) | (simp only [Int.toNat_natCast, pcL_len]; omega) | (simp only [List.length_take, List.length_drop]; omega))) rfl ?_
      refine J.op (Yd.fieldE (K := pcS) (Es.rd os40) (by rw [pcL_len]; omega) Try.underlying29 rfl ti22 rfl rfl) rfl ?_
      refine J.op (Yd.cast (Yd.loadFd (K := pcS) pcD pl22 rfl (Es.rd os40) (by first | omega | (rw [pcL_len]; omega) | (simp only [Int.toNat_natCast, pcL_len]; omega) | (simp only [List.length_take, List.length_drop]; omega)) rfl) (show _ = (chV a40 n l.length i) by rw [Int.toNat_natCast, pcL_get (by omega)])) rfl ?_
      refine J.eff (Ye.appendS Try.underlying22 ti5 rfl rfl rfl rfl ho9 (chV_bs (Ow.rd oa40) hin) (fun _ => rfl) (by first | omega | (rw [pcL_len]; omega) | (simp only [Int.toNat_natCast, pcL_len]; omega) | (simp only [List.length_take, List.length_drop]; omega)) e0.size) rfl ?_
      rintro s131_3 w3 ⟨o131_3, hg, hsf⟩
      have ap_s40_s131_3 : Ap s40.ownBlock s131_3.ownBlock := Ap.sf ap_s40_v9 (Es.live os40) hsf
      have ap_a40_s131_3 : Ap a40.ownBlock s131_3.ownBlock := Ap.sf ap_a40_v9 (Ow.live oa40) hsf
      have fr_s131_3 : Fr w.heap.size s131_3.ownBlock := Fr.sf fr_v9 hsf e0.size
      have os40 := Es.gbk os40 hg ap_s40_v9
      have oa40 := Ow.gbk oa40 hg ap_a40_v9
      have e0 := Ext.gbk e0 fr_v9 hg
      clear hg hsf
      refine J.op (Yd.assign rfl) rfl ?_
      refine J.nil ?_
      refine J.n_block ?_
      refine J.n_then ?_
      refine J.region ?_
      refine J.op (Yd.move rfl) rfl ?_
      refine J.op (Yd.add rfl rfl (by first | omega | (rw [pcL_len]; omega) | (simp only [Int.toNat_natCast, pcL_len]; omega) | (simp only [List.length_take, List.length_drop]; omega))) rfl ?_
      refine J.op (Yd.assign rfl) rfl ?_
      refine J.nil ?_
      refine J.n_then ?_
      exact J.round ((i + 1, s131_3)) ⟨rfl, rfl, rfl, rfl, rfl, rfl, trivial⟩ (⟨by show i + 1 ≤ (nPc l.length n); omega, os40, oa40, (by rw [← pc_take]; exact o131_3), fr_s131_3, ap_s40_s131_3, ap_a40_s131_3, e0⟩) (by show (nPc l.length n) - (i + 1) < (nPc l.length n) - i; omega)
    · skip
      refine J.not_g rfl rfl rfl rfl rfl ?_
      refine J.not_g rfl rfl rfl rfl rfl ?_
      refine J.not_g rfl rfl rfl rfl rfl ?_
      refine J.not_g rfl rfl rfl rfl rfl ?_
      refine J.not_g rfl rfl rfl rfl rfl ?_
      refine J.not_g rfl rfl rfl rfl rfl ?_
      refine J.not_g rfl rfl rfl rfl rfl ?_
      refine J.not_g rfl rfl rfl rfl rfl ?_
      refine J.op_g rfl rfl rfl (Yd.pick_f rfl rfl) rfl ?_
      refine J.op (Yd.pick_f rfl rfl) rfl ?_
      refine J.op (Yd.move rfl) rfl ?_
      refine J.op_g rfl rfl rfl (Yd.move rfl) rfl ?_
      refine J.op_g rfl rfl rfl (Yd.move rfl) rfl ?_
      refine J.op_g rfl rfl rfl (Yd.idxE (K := pcS) Try.underlying24 ti29 rfl rfl (Es.rd os40) (by first | omega | (rw [pcL_len]; omega) | (simp only [Int.toNat_natCast, pcL_len]; omega) | (simp only [List.length_take, List.length_drop]; omega))) rfl ?_
      refine J.op_g rfl rfl rfl (Yd.fieldE (K := pcS) (Es.rd os40) (by rw [pcL_len]; omega) Try.underlying29 rfl ti22 rfl rfl) rfl ?_
      refine J.op_g rfl rfl rfl (Yd.cast (Yd.loadFd (K := pcS) pcD pl22 rfl (Es.rd os40) (by first | omega | (rw [pcL_len]; omega) | (simp only [Int.toNat_natCast, pcL_len]; omega) | (simp only [List.length_take, List.length_drop]; omega)) rfl) (show _ = (chV a40 n l.length i) by rw [Int.toNat_natCast, pcL_get (by omega)])) rfl ?_
      refine J.op_g rfl rfl rfl (Yd.cast (Yd.len_b Try.underlying22 rfl (chV_bs (Ow.rd oa40) hin)) (congrArg (fun z : Nat => I (z : Int)) pc_len)) rfl ?_
      refine J.op_g rfl rfl rfl (Yd.lss rfl rfl) rfl ?_
      refine J.op (Yd.pick_f rfl rfl) rfl ?_
      refine J.op (Yd.move rfl) rfl ?_
      refine J.know (t := 115) (v' := .bool false) rfl (ff (by omega)) ?_
      refine J.op_g rfl rfl rfl (Yd.move rfl) rfl ?_
      refine J.op_g rfl rfl rfl (Yd.move rfl) rfl ?_
      refine J.op_g rfl rfl rfl (Yd.idxE (K := pcS) Try.underlying24 ti29 rfl rfl (Es.rd os40) (by first | omega | (rw [pcL_len]; omega) | (simp only [Int.toNat_natCast, pcL_len]; omega) | (simp only [List.length_take, List.length_drop]; omega))) rfl ?_
      refine J.op_g rfl rfl rfl (Yd.fieldE (K := pcS) (Es.rd os40) (by rw [pcL_len]; omega) Try.underlying29 rfl ti22 rfl rfl) rfl ?_
      refine J.op_g rfl rfl rfl (Yd.cast (Yd.loadFd (K := pcS) pcD pl22 rfl (Es.rd os40) (by first | omega | (rw [pcL_len]; omega) | (simp only [Int.toNat_natCast, pcL_len]; omega) | (simp only [List.length_take, List.length_drop]; omega)) rfl) (show _ = (chV a40 n l.length i) by rw [Int.toNat_natCast, pcL_get (by omega)])) rfl ?_
      refine J.op_g rfl rfl rfl (Yd.cast (Yd.len_b Try.underlying22 rfl (chV_bs (Ow.rd oa40) hin)) (congrArg (fun z : Nat => I (z : Int)) pc_len)) rfl ?_
      refine J.op_g rfl rfl rfl (Yd.move rfl) rfl ?_
      refine J.op_g rfl rfl rfl (Yd.gtr rfl rfl) rfl ?_
      refine J.op (Yd.pick_f rfl rfl) rfl ?_
      refine J.nil ?_
      refine J.n_then ?_
      refine J.know (t := 124) (v' := .bool false) rfl (ff (by omega)) ?_
      refine J.cond_false rfl ?_
      refine J.skip ?_
      refine J.n_then ?_
      refine J.region ?_
      refine J.op (Yd.move rfl) rfl ?_
      refine J.op (Yd.move rfl) rfl ?_
      refine J.op (Yd.move rfl) rfl ?_
      refine J.op (Yd.idxE (K := pcS) Try.underlying24 ti29 rfl rfl (Es.rd os40) (by first | omega | (rw [pcL_len]; omega) | (simp only [Int.toNat_natCast, pcL_len]; omega) | (simp only [List.length_take, List.length_drop]; omega))) rfl ?_
      refine J.op (Yd.fieldE (K := pcS) (Es.rd os40) (by rw [pcL_len]; omega) Try.underlying29 rfl ti22 rfl rfl) rfl ?_
      refine J.op (Yd.cast (Yd.loadFd (K := pcS) pcD pl22 rfl (Es.rd os40) (by first | omega | (rw [pcL_len]; omega) | (simp only [Int.toNat_natCast, pcL_len]; omega) | (simp only [List.length_take, List.length_drop]; omega)) rfl) (show _ = (chV a40 n l.length i) by rw [Int.toNat_natCast, pcL_get (by omega)])) rfl ?_
      refine J.eff (Ye.appendS Try.underlying22 ti5 rfl rfl rfl rfl ho9 (chV_bs (Ow.rd oa40) hin) (fun _ => rfl) (by first | omega | (rw [pcL_len]; omega) | (simp only [Int.toNat_natCast, pcL_len]; omega) | (simp only [List.length_take, List.length_drop]; omega)) e0.size) rfl ?_
      rintro s131_4 w4 ⟨o131_4, hg, hsf⟩
      have ap_s40_s131_4 : Ap s40.ownBlock s131_4.ownBlock := Ap.sf ap_s40_v9 (Es.live os40) hsf
      have ap_a40_s131_4 : Ap a40.ownBlock s131_4.ownBlock := Ap.sf ap_a40_v9 (Ow.live oa40) hsf
      have fr_s131_4 : Fr w.heap.size s131_4.ownBlock := Fr.sf fr_v9 hsf e0.size
      have os40 := Es.gbk os40 hg ap_s40_v9
      have oa40 := Ow.gbk oa40 hg ap_a40_v9
      have e0 := Ext.gbk e0 fr_v9 hg
      clear hg hsf
      refine J.op (Yd.assign rfl) rfl ?_
      refine J.nil ?_
      refine J.n_block ?_
      refine J.n_then ?_
      refine J.region ?_
      refine J.op (Yd.move rfl) rfl ?_
      refine J.op (Yd.add rfl rfl (by first | omega | (rw [pcL_len]; omega) | (simp only [Int.toNat_natCast, pcL_len]; omega) | (simp only [List.length_take, List.length_drop]; omega))) rfl ?_
      refine J.op (Yd.assign rfl) rfl ?_
      refine J.nil ?_
      refine J.n_then ?_
      exact J.round ((i + 1, s131_4)) ⟨rfl, rfl, rfl, rfl, rfl, rfl, trivial⟩ (⟨by show i + 1 ≤ (nPc l.length n); omega, os40, oa40, (by rw [← pc_take]; exact o131_4), fr_s131_4, ap_s40_s131_4, ap_a40_s131_4, e0⟩) (by show (nPc l.length n) - (i + 1) < (nPc l.length n) - i; omega)
  · skip
    refine J.exit ?_
    refine J.x_then ?_
    refine J.x_then ?_
    refine J.x_block ?_
    refine J.n_then ?_
    refine J.seq ?_
    refine J.region ?_
    refine J.op (Yd.move rfl) rfl ?_
    refine J.op (Yd.bstr Try.underlying22 Try.underlying5 Try.underlying9 rfl (Ow.rd ho9)) rfl ?_
    refine J.op (Yd.move rfl) rfl ?_
    refine J.op (Yd.bstr Try.underlying22 Try.underlying5 Try.underlying9 rfl (Rd.ext h1 e0)) rfl ?_
    refine J.op (Yd.seq rfl rfl) rfl ?_
    refine J.op (Yd.move rfl) rfl ?_
    refine J.know (t := 137) (v' := .bool true) rfl (tt (by rw [List.take_of_length_le (by rw [show i = nPc l.length n by omega]; exact nPc_mul (by omega))])) ?_
    refine J.eff_g rfl rfl rfl (Ye.call cl8 rfl (Awake_ok)) rfl ?_
    rintro _ w5 ⟨rfl, x1⟩
    have e0 := e0.trans x1
    have os40 := os40.ext x1
    have oa40 := oa40.ext x1
    have ho9 := ho9.ext x1
    clear x1
    refine J.op (Yd.pick_t rfl rfl) rfl ?_
    refine J.op (Yd.assign rfl) rfl ?_
    refine J.nil ?_
    refine J.n_then ?_
    refine J.ret ?_
    exact J.ret1 rfl rfl (⟨_, rfl, rfl, e0⟩)

theorem Pieces_ok {a : Value} {l : List UInt8} {id n : Int} {w : World} (h1 : Bs w a l) : C Try.prog 3 [I id, a, I n] w (Ret fun v w' => v = .bool true ∧ Ext w w') := by
  by_cases hb : (0 ≤ id ∧ id ≤ 1073741824) ∧ (1 ≤ l.length ∧ l.length ≤ 3000) ∧ 1 ≤ n ∧ n ≤ 1000
  · obtain ⟨b, rfl⟩ := Int.eq_ofNat_of_zero_le (show 0 ≤ n by omega)
    exact PiecesIn_ok h1 (by omega)
  · exact PiecesOut_ok h1 hb
end Ytghklimejpmpnaa
end Go.Proofs
