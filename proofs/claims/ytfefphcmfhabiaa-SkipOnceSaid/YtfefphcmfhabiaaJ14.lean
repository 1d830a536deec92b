import Derived.Test.YtfefphcmfhabiaaT
import Derived.Test.YtfefphcmfhabiaaJ13
set_option linter.unusedVariables false
set_option linter.unusedSimpArgs false
set_option maxRecDepth 100000
set_option maxHeartbeats 4000000
namespace Go.Proofs
open Go.X Go.RowKit
namespace Ytfefphcmfhabiaa
theorem Take_one {b : Nat} {n m1 m2 : Int} {s u1 : Value} {w : World} (hc : Cel w b 56 [(0, 1, [I n]), (1, 1, [s])]) (ho : Es entS 0 60 w s [((m1, m2, u1) : Ent)]) (hap : Ap (some b) s.ownBlock) (h1 : u1.oneCell' = true) :
    C Try.prog 12 [.pointer (some ⟨b, 0, none⟩), I m1, I m2] w (Ret fun u w' => ∃ s', u = .tuple #[u1, I 0] ∧ Cel w' b 56 [(0, 1, [I n]), (1, 1, [s'])] ∧ Es entS 0 60 w' s' [] ∧ SF w s.ownBlock s'.ownBlock ∧ Ap (some b) s'.ownBlock ∧ Tn [some b, s.ownBlock] w w') :=
  Take_yes (k := 0) hc ho hap (fun x hx => by rw [List.mem_singleton] at hx; subst hx; exact h1) Nat.one_pos (idxI_at entD Nat.one_pos (by show eqE m1 m2 (m1, m2, u1) = true; simp [eqE]) (fun j hj => absurd hj (Nat.not_lt_zero _)))
theorem has_one {m1 m2 : Int} {u1 : Value} : decide (idxI (eqE m1 m2) [((m1, m2, u1) : Ent)] ≥ 0) = true := decide_eq_true (idx_pos (List.mem_singleton.2 rfl) (by simp [eqE]))
theorem Put_none {b : Nat} {m1 m2 : Int} {s a : Value} {l : List UInt8} {w : World} (hc : Cel w b 56 [(0, 1, [I 3]), (1, 1, [s])]) (ho : Es entS 0 60 w s []) (hap : Ap (some b) s.ownBlock) (ha : ∀ w', Tn [some b, s.ownBlock] w w' → Bs w' a l) (hv : wiK m1 ∧ wiK m2 ∧ l.length = 32) :
    C Try.prog 10 [.pointer (some ⟨b, 0, none⟩), I m1, I m2, a] w (Ret fun u w' => ∃ s' u1, u = .tuple #[I 0, I 0] ∧ Cel w' b 56 [(0, 1, [I 3]), (1, 1, [s'])] ∧ Es entS 0 60 w' s' [((m1, m2, u1) : Ent)] ∧ Ob w.heap.size 5 w' u1 l ∧ Ap (some b) s'.ownBlock ∧ Ap (some b) u1.ownBlock ∧ Ap u1.ownBlock s'.ownBlock ∧ SF w s.ownBlock s'.ownBlock ∧ Tn [some b, s.ownBlock] w w') :=
  Put_new (es := []) hc ho hap (fun x hx => by cases hx) ha (by decide) hv (by rfl) (by decide) (by decide)

theorem OnceOut_ok {m1 m2 : Int} {w : World} (hb : ¬ (0 ≤ m1 ∧ 0 ≤ m2 ∧ m1 ≤ 1099511627776 ∧ m2 ≤ 1099511627776)) : C Try.prog 5 [I m1, I m2] w (Ret fun v w' => v = .bool true ∧ Ext w w') := by
  have e0 := Ext.refl w
  refine C.enter Try.func5 rfl Try.ntmps5 rfl ?_
  refine J.seq ?_
  refine J.region ?_
  refine J.op (Yd.assign rfl) rfl ?_
  refine J.nil ?_
  refine J.n_then ?_
  refine J.seq ?_
  refine J.seq ?_
  refine J.region ?_
  refine J.op (Yd.move rfl) rfl ?_
  refine J.op (Yd.lss rfl rfl) rfl ?_
  refine J.op (Yd.move rfl) rfl ?_
  refine J.split_dec (t := 25) rfl (fun hg1 => ?_) (fun hg1 => ?_)
  · skip
    refine J.not_g rfl rfl rfl rfl rfl ?_
    refine J.not_g rfl rfl rfl rfl rfl ?_
    refine J.op (Yd.pick_t rfl rfl) rfl ?_
    refine J.op (Yd.move rfl) rfl ?_
    refine J.not_g rfl rfl rfl rfl rfl ?_
    refine J.not_g rfl rfl rfl rfl rfl ?_
    refine J.op (Yd.pick_t rfl rfl) rfl ?_
    refine J.op (Yd.move rfl) rfl ?_
    refine J.not_g rfl rfl rfl rfl rfl ?_
    refine J.not_g rfl rfl rfl rfl rfl ?_
    refine J.op (Yd.pick_t rfl rfl) rfl ?_
    refine J.nil ?_
    refine J.n_then ?_
    refine J.cond_true rfl ?_
    refine J.seq ?_
    refine J.region ?_
    refine J.eff (Ye.call cl8 rfl (Awake_ok)) rfl ?_
    rintro _ w1 ⟨rfl, x1⟩
    have e0 := e0.trans x1
    clear x1
    refine J.op (Yd.assign rfl) rfl ?_
    refine J.nil ?_
    refine J.n_then ?_
    refine J.ret ?_
    refine J.r_then ?_
    exact J.ret1 rfl rfl (⟨_, rfl, rfl, e0⟩)
  · skip
    refine J.op_g rfl rfl rfl (Yd.move rfl) rfl ?_
    refine J.op_g rfl rfl rfl (Yd.lss rfl rfl) rfl ?_
    refine J.op (Yd.pick_f rfl rfl) rfl ?_
    refine J.op (Yd.move rfl) rfl ?_
    refine J.split_dec (t := 29) rfl (fun hg2 => ?_) (fun hg2 => ?_)
    · skip
      refine J.not_g rfl rfl rfl rfl rfl ?_
      refine J.not_g rfl rfl rfl rfl rfl ?_
      refine J.op (Yd.pick_t rfl rfl) rfl ?_
      refine J.op (Yd.move rfl) rfl ?_
      refine J.not_g rfl rfl rfl rfl rfl ?_
      refine J.not_g rfl rfl rfl rfl rfl ?_
      refine J.op (Yd.pick_t rfl rfl) rfl ?_
      refine J.nil ?_
      refine J.n_then ?_
      refine J.cond_true rfl ?_
      refine J.seq ?_
      refine J.region ?_
      refine J.eff (Ye.call cl8 rfl (Awake_ok)) rfl ?_
      rintro _ w2 ⟨rfl, x1⟩
      have e0 := e0.trans x1
      clear x1
      refine J.op (Yd.assign rfl) rfl ?_
      refine J.nil ?_
      refine J.n_then ?_
      refine J.ret ?_
      refine J.r_then ?_
      exact J.ret1 rfl rfl (⟨_, rfl, rfl, e0⟩)
    · skip
      refine J.op_g rfl rfl rfl (Yd.move rfl) rfl ?_
      refine J.op_g rfl rfl rfl (Yd.gtr rfl rfl) rfl ?_
      refine J.op (Yd.pick_f rfl rfl) rfl ?_
      refine J.op (Yd.move rfl) rfl ?_
      refine J.split_dec (t := 33) rfl (fun hg3 => ?_) (fun hg3 => ?_)
      · skip
        refine J.not_g rfl rfl rfl rfl rfl ?_
        refine J.not_g rfl rfl rfl rfl rfl ?_
        refine J.op (Yd.pick_t rfl rfl) rfl ?_
        refine J.nil ?_
        refine J.n_then ?_
        refine J.cond_true rfl ?_
        refine J.seq ?_
        refine J.region ?_
        refine J.eff (Ye.call cl8 rfl (Awake_ok)) rfl ?_
        rintro _ w3 ⟨rfl, x1⟩
        have e0 := e0.trans x1
        clear x1
        refine J.op (Yd.assign rfl) rfl ?_
        refine J.nil ?_
        refine J.n_then ?_
        refine J.ret ?_
        refine J.r_then ?_
        exact J.ret1 rfl rfl (⟨_, rfl, rfl, e0⟩)
      · skip
        refine J.op_g rfl rfl rfl (Yd.move rfl) rfl ?_
        refine J.op_g rfl rfl rfl (Yd.gtr rfl rfl) rfl ?_
        refine J.op (Yd.pick_f rfl rfl) rfl ?_
        refine J.nil ?_
        refine J.n_then ?_
        refine J.know (t := 36) (v' := .bool true) rfl (tt (by omega)) ?_
        refine J.cond_true rfl ?_
        refine J.seq ?_
        refine J.region ?_
        refine J.eff (Ye.call cl8 rfl (Awake_ok)) rfl ?_
        rintro _ w4 ⟨rfl, x1⟩
        have e0 := e0.trans x1
        clear x1
        refine J.op (Yd.assign rfl) rfl ?_
        refine J.nil ?_
        refine J.n_then ?_
        refine J.ret ?_
        refine J.r_then ?_
        exact J.ret1 rfl rfl (⟨_, rfl, rfl, e0⟩)

theorem OnceIn_ok {m1 m2 : Int} {w : World} (hb : 0 ≤ m1 ∧ 0 ≤ m2 ∧ m1 ≤ 1099511627776 ∧ m2 ≤ 1099511627776) : C Try.prog 5 [I m1, I m2] w (Ret fun v w' => v = .bool true ∧ Ext w w') := by
  have fr_nil : Fr w.heap.size nilS.ownBlock := Fr.nil
  have e0 := Ext.refl w
  refine C.enter Try.func5 rfl Try.ntmps5 rfl ?_
  refine J.seq ?_
  refine J.region ?_
  refine J.op (Yd.assign rfl) rfl ?_
  refine J.nil ?_
  refine J.n_then ?_
  refine J.seq ?_
  refine J.seq ?_
  refine J.region ?_
  refine J.op (Yd.move rfl) rfl ?_
  refine J.op (Yd.lss rfl rfl) rfl ?_
  refine J.op (Yd.move rfl) rfl ?_
  refine J.know (t := 25) (v' := .bool false) rfl (ff (by omega)) ?_
  refine J.op_g rfl rfl rfl (Yd.move rfl) rfl ?_
  refine J.op_g rfl rfl rfl (Yd.lss rfl rfl) rfl ?_
  refine J.op (Yd.pick_f rfl rfl) rfl ?_
  refine J.op (Yd.move rfl) rfl ?_
  refine J.know (t := 29) (v' := .bool false) rfl (ff (by omega)) ?_
  refine J.op_g rfl rfl rfl (Yd.move rfl) rfl ?_
  refine J.op_g rfl rfl rfl (Yd.gtr rfl rfl) rfl ?_
  refine J.op (Yd.pick_f rfl rfl) rfl ?_
  refine J.op (Yd.move rfl) rfl ?_
  refine J.know (t := 33) (v' := .bool false) rfl (ff (by omega)) ?_
  refine J.op_g rfl rfl rfl (Yd.move rfl) rfl ?_
  refine J.op_g rfl rfl rfl (Yd.gtr rfl rfl) rfl ?_
  refine J.op (Yd.pick_f rfl rfl) rfl ?_
  refine J.nil ?_
  refine J.n_then ?_
  refine J.know (t := 36) (v' := .bool false) rfl (ff (by omega)) ?_
  refine J.cond_false rfl ?_
  refine J.skip ?_
  refine J.n_then ?_
  refine J.seq ?_
  refine J.region ?_
  refine J.eff (Ye.call cl9 rfl (New_yes (by decide))) rfl ?_
  rintro _ w1 ⟨b39_1, rfl, hbb39_1, cb39_1, x1⟩
  have fr_b39_1 : Fr w.heap.size (some b39_1) := Fr.le (Fr.blk hbb39_1) e0.size
  have e0 := e0.trans x1
  clear x1
  refine J.op (Yd.move rfl) rfl ?_
  refine J.op (Yd.extract rfl rfl) rfl ?_
  refine J.op (Yd.extract rfl rfl) rfl ?_
  refine J.op (Yd.assign rfl) rfl ?_
  refine J.op (Yd.assign rfl) rfl ?_
  refine J.nil ?_
  refine J.n_then ?_
  refine J.seq ?_
  refine J.seq ?_
  refine J.region ?_
  refine J.op (Yd.move rfl) rfl ?_
  refine J.op (Yd.neq rfl rfl) rfl ?_
  refine J.op (Yd.move rfl) rfl ?_
  refine J.know (t := 44) (v' := .bool false) rfl (ff (by decide)) ?_
  refine J.op_g rfl rfl rfl (Yd.move rfl) rfl ?_
  refine J.op_g rfl rfl rfl (Yd.cast (Yd.eqPn Try.underlying23 rfl rfl) (show _ = Value.bool false from rfl)) rfl ?_
  refine J.op (Yd.pick_f rfl rfl) rfl ?_
  refine J.nil ?_
  refine J.n_then ?_
  refine J.cond_false rfl ?_
  refine J.skip ?_
  refine J.n_then ?_
  refine J.seq ?_
  refine J.region ?_
  refine J.eff (Ye.call cl11 rfl (B32_ok (by omega))) rfl ?_
  rintro s48_2 w2 ⟨os48_2, x1⟩
  have ap_b39_1_s48_2 : Ap (some b39_1) s48_2.ownBlock := Ap.mk (Cel.live cb39_1) (Ow.fr os48_2)
  have fr_s48_2 : Fr w.heap.size s48_2.ownBlock := Fr.le (Ow.fr os48_2) e0.size
  replace os48_2 := Ow.base os48_2 e0.size
  have e0 := e0.trans x1
  have cb39_1 := cb39_1.ext x1
  clear x1
  refine J.op (Yd.assign rfl) rfl ?_
  refine J.nil ?_
  refine J.n_then ?_
  refine J.seq ?_
  refine J.region ?_
  refine J.op (Yd.move rfl) rfl ?_
  refine J.op (Yd.move rfl) rfl ?_
  refine J.op (Yd.move rfl) rfl ?_
  refine J.op (Yd.move rfl) rfl ?_
  refine J.eff (Ye.call cl10 rfl (Put_none cb39_1 (Es.nil _ _ _ _) Ap.nil_r (fun w' ht => Rd.tnk (Ow.rd os48_2) ht (ApL.two (Ap.symm ap_b39_1_s48_2) Ap.nil_r)) ⟨by unfold wiK; omega, by unfold wiK; omega, by rw [blkL_len]⟩)) rfl ?_
  rintro _ w3 ⟨s54, u54, rfl, cX, os54, ou54, apx1, apx2, apx3, hsf, x1⟩
  have ap_b39_1_s54 : Ap (some b39_1) s54.ownBlock := Ap.sf Ap.nil_r (Cel.live cb39_1) hsf
  have ap_s48_2_s54 : Ap s48_2.ownBlock s54.ownBlock := Ap.sf Ap.nil_r (Ow.live os48_2) hsf
  have fr_s54 : Fr w.heap.size s54.ownBlock := Fr.sf Fr.nil hsf e0.size
  have ap_b39_1_u54 : Ap (some b39_1) u54.ownBlock := Ap.mk (Cel.live cb39_1) (Ow.fr ou54)
  have ap_s48_2_u54 : Ap s48_2.ownBlock u54.ownBlock := Ap.mk (Ow.live os48_2) (Ow.fr ou54)
  have fr_u54 : Fr w.heap.size u54.ownBlock := Fr.le (Ow.fr ou54) e0.size
  have os48_2 := Ow.tnk os48_2 x1 (ApL.two (Ap.symm ap_b39_1_s48_2) Ap.nil_r)
  have e0 := Ext.tnk e0 (fun q hq => by simp only [List.mem_cons, List.mem_nil_iff, or_false] at hq; rcases hq with rfl | rfl; exact fr_b39_1; exact fr_nil) x1
  clear x1
  replace ou54 := Ow.base ou54 (Nat.zero_le _)
  replace cb39_1 := cX
  clear cX hsf
  have ap_u54_s54 := apx3
  have ap_b39_1_s54 := apx1
  clear apx1 apx2 apx3
  refine J.op (Yd.move rfl) rfl ?_
  refine J.op (Yd.extract rfl rfl) rfl ?_
  refine J.op (Yd.extract rfl rfl) rfl ?_
  refine J.op (Yd.assign rfl) rfl ?_
  refine J.op (Yd.assign rfl) rfl ?_
  refine J.nil ?_
  refine J.n_then ?_
  refine J.seq ?_
  refine J.region ?_
  refine J.op (Yd.move rfl) rfl ?_
  refine J.op (Yd.move rfl) rfl ?_
  refine J.op (Yd.move rfl) rfl ?_
  refine J.op (Yd.move rfl) rfl ?_
  refine J.eff (Ye.call cl10 rfl (Put_has cb39_1 (Es.rd os54) (Ow.rd os48_2) (by decide) ⟨by unfold wiK; omega, by unfold wiK; omega, by rw [blkL_len]⟩ has_one)) rfl ?_
  rintro _ w4 ⟨rfl, x1⟩
  have e0 := e0.trans x1
  have cb39_1 := cb39_1.ext x1
  have os48_2 := os48_2.ext x1
  have ou54 := ou54.ext x1
  have os54 := os54.ext x1
  clear x1
  refine J.op (Yd.move rfl) rfl ?_
  refine J.op (Yd.extract rfl rfl) rfl ?_
  refine J.op (Yd.extract rfl rfl) rfl ?_
  refine J.op (Yd.assign rfl) rfl ?_
  refine J.op (Yd.assign rfl) rfl ?_
  refine J.nil ?_
  refine J.n_then ?_
  refine J.seq ?_
  refine J.region ?_
  refine J.op (Yd.move rfl) rfl ?_
  refine J.op (Yd.move rfl) rfl ?_
  refine J.op (Yd.move rfl) rfl ?_
  refine J.eff (Ye.call cl12 rfl (Take_one cb39_1 os54 ap_b39_1_s54 (Rd.one (Ow.rd ou54)))) rfl ?_
  rintro _ w5 ⟨s69, rfl, cX, os69, hsf, apx1, x1⟩
  have ap_b39_1_s69 : Ap (some b39_1) s69.ownBlock := Ap.sf ap_b39_1_s54 (Cel.live cb39_1) hsf
  have ap_s48_2_s69 : Ap s48_2.ownBlock s69.ownBlock := Ap.sf ap_s48_2_s54 (Ow.live os48_2) hsf
  have ap_u54_s69 : Ap u54.ownBlock s69.ownBlock := Ap.sf ap_u54_s54 (Ow.live ou54) hsf
  have fr_s69 : Fr w.heap.size s69.ownBlock := Fr.sf fr_s54 hsf e0.size
  have os48_2 := Ow.tnk os48_2 x1 (ApL.two (Ap.symm ap_b39_1_s48_2) ap_s48_2_s54)
  have ou54 := Ow.tnk ou54 x1 (ApL.two (Ap.symm ap_b39_1_u54) ap_u54_s54)
  have e0 := Ext.tnk e0 (fun q hq => by simp only [List.mem_cons, List.mem_nil_iff, or_false] at hq; rcases hq with rfl | rfl; exact fr_b39_1; exact fr_s54) x1
  clear x1
  replace cb39_1 := cX
  clear cX hsf
  have ap_b39_1_s69 := apx1
  clear apx1
  refine J.op (Yd.move rfl) rfl ?_
  refine J.op (Yd.extract rfl rfl) rfl ?_
  refine J.op (Yd.extract rfl rfl) rfl ?_
  refine J.op (Yd.assign rfl) rfl ?_
  refine J.op (Yd.assign rfl) rfl ?_
  refine J.nil ?_
  refine J.n_then ?_
  refine J.seq ?_
  refine J.region ?_
  refine J.op (Yd.move rfl) rfl ?_
  refine J.op (Yd.move rfl) rfl ?_
  refine J.op (Yd.move rfl) rfl ?_
  refine J.eff (Ye.call cl12 rfl (Take_no cb39_1 (Es.rd os69) (by rfl))) rfl ?_
  rintro _ w6 ⟨rfl, x1⟩
  have e0 := e0.trans x1
  have cb39_1 := cb39_1.ext x1
  have os48_2 := os48_2.ext x1
  have ou54 := ou54.ext x1
  have os69 := os69.ext x1
  clear x1
  refine J.op (Yd.move rfl) rfl ?_
  refine J.op (Yd.extract rfl rfl) rfl ?_
  refine J.op (Yd.extract rfl rfl) rfl ?_
  refine J.op (Yd.assign rfl) rfl ?_
  refine J.op (Yd.assign rfl) rfl ?_
  refine J.nil ?_
  refine J.n_then ?_
  refine J.seq ?_
  refine J.region ?_
  refine J.op (Yd.move rfl) rfl ?_
  refine J.op (Yd.move rfl) rfl ?_
  refine J.op (Yd.move rfl) rfl ?_
  refine J.op (Yd.move rfl) rfl ?_
  refine J.eff (Ye.call cl10 rfl (Put_none cb39_1 os69 ap_b39_1_s69 (fun w' ht => Rd.tnk (Ow.rd os48_2) ht (ApL.two (Ap.symm ap_b39_1_s48_2) ap_s48_2_s69)) ⟨by unfold wiK; omega, by unfold wiK; omega, by rw [blkL_len]⟩)) rfl ?_
  rintro _ w7 ⟨s84, u84, rfl, cX, os84, ou84, apx1, apx2, apx3, hsf, x1⟩
  have ap_b39_1_s84 : Ap (some b39_1) s84.ownBlock := Ap.sf ap_b39_1_s69 (Cel.live cb39_1) hsf
  have ap_s48_2_s84 : Ap s48_2.ownBlock s84.ownBlock := Ap.sf ap_s48_2_s69 (Ow.live os48_2) hsf
  have ap_u54_s84 : Ap u54.ownBlock s84.ownBlock := Ap.sf ap_u54_s69 (Ow.live ou54) hsf
  have fr_s84 : Fr w.heap.size s84.ownBlock := Fr.sf fr_s69 hsf e0.size
  have ap_b39_1_u84 : Ap (some b39_1) u84.ownBlock := Ap.mk (Cel.live cb39_1) (Ow.fr ou84)
  have ap_s48_2_u84 : Ap s48_2.ownBlock u84.ownBlock := Ap.mk (Ow.live os48_2) (Ow.fr ou84)
  have ap_u54_u84 : Ap u54.ownBlock u84.ownBlock := Ap.mk (Ow.live ou54) (Ow.fr ou84)
  have ap_s69_u84 : Ap s69.ownBlock u84.ownBlock := Ap.mk (Es.live os69) (Ow.fr ou84)
  have fr_u84 : Fr w.heap.size u84.ownBlock := Fr.le (Ow.fr ou84) e0.size
  have os48_2 := Ow.tnk os48_2 x1 (ApL.two (Ap.symm ap_b39_1_s48_2) ap_s48_2_s69)
  have ou54 := Ow.tnk ou54 x1 (ApL.two (Ap.symm ap_b39_1_u54) ap_u54_s69)
  have e0 := Ext.tnk e0 (fun q hq => by simp only [List.mem_cons, List.mem_nil_iff, or_false] at hq; rcases hq with rfl | rfl; exact fr_b39_1; exact fr_s69) x1
  clear x1
  replace ou84 := Ow.base ou84 (Nat.zero_le _)
  replace cb39_1 := cX
  clear cX hsf
  have ap_u84_s84 := apx3
  have ap_b39_1_s84 := apx1
  clear apx1 apx2 apx3
  refine J.op (Yd.move rfl) rfl ?_
  refine J.op (Yd.extract rfl rfl) rfl ?_
  refine J.op (Yd.extract rfl rfl) rfl ?_
  refine J.op (Yd.assign rfl) rfl ?_
  refine J.op (Yd.assign rfl) rfl ?_
  refine J.nil ?_
  refine J.n_then ?_
  refine J.seq ?_
  refine J.region ?_
  refine J.op (Yd.assign rfl) rfl ?_
  refine J.nil ?_
  refine J.n_then ?_
  refine J.seq ?_
  refine J.region ?_
  refine J.op (Yd.move rfl) rfl ?_
  refine J.op (Yd.move rfl) rfl ?_
  refine J.op (Yd.move rfl) rfl ?_
  refine J.op (Yd.move rfl) rfl ?_
  refine J.eff (Ye.call cl10 rfl (PutNil_ok)) rfl ?_
  rintro _ w8 ⟨rfl, x1⟩
  have e0 := e0.trans x1
  have cb39_1 := cb39_1.ext x1
  have os48_2 := os48_2.ext x1
  have ou54 := ou54.ext x1
  have ou84 := ou84.ext x1
  have os84 := os84.ext x1
  clear x1
  refine J.op (Yd.move rfl) rfl ?_
  refine J.op (Yd.extract rfl rfl) rfl ?_
  refine J.op (Yd.extract rfl rfl) rfl ?_
  refine J.op (Yd.assign rfl) rfl ?_
  refine J.op (Yd.assign rfl) rfl ?_
  refine J.nil ?_
  refine J.n_then ?_
  refine J.seq ?_
  refine J.region ?_
  refine J.op (Yd.move rfl) rfl ?_
  refine J.op (Yd.move rfl) rfl ?_
  refine J.op (Yd.move rfl) rfl ?_
  refine J.eff (Ye.call cl12 rfl (TakeNil_ok)) rfl ?_
  rintro _ w9 ⟨rfl, x1⟩
  have e0 := e0.trans x1
  have cb39_1 := cb39_1.ext x1
  have os48_2 := os48_2.ext x1
  have ou54 := ou54.ext x1
  have ou84 := ou84.ext x1
  have os84 := os84.ext x1
  clear x1
  refine J.op (Yd.move rfl) rfl ?_
  refine J.op (Yd.extract rfl rfl) rfl ?_
  refine J.op (Yd.extract rfl rfl) rfl ?_
  refine J.op (Yd.assign rfl) rfl ?_
  refine J.op (Yd.assign rfl) rfl ?_
  refine J.nil ?_
  refine J.n_then ?_
  refine J.seq ?_
  refine J.region ?_
  refine J.op (Yd.move rfl) rfl ?_
  refine J.op (Yd.eql rfl rfl) rfl ?_
  refine J.op (Yd.move rfl) rfl ?_
  refine J.know (t := 104) (v' := .bool true) rfl (tt (by decide)) ?_
  refine J.op_g rfl rfl rfl (Yd.move rfl) rfl ?_
  refine J.op_g rfl rfl rfl (Yd.eql rfl rfl) rfl ?_
  refine J.op (Yd.pick_t rfl rfl) rfl ?_
  refine J.op (Yd.move rfl) rfl ?_
  refine J.know (t := 108) (v' := .bool true) rfl (tt (by decide)) ?_
  refine J.op_g rfl rfl rfl (Yd.move rfl) rfl ?_
  refine J.op_g rfl rfl rfl (Yd.eql rfl rfl) rfl ?_
  refine J.op (Yd.pick_t rfl rfl) rfl ?_
  refine J.op (Yd.move rfl) rfl ?_
  refine J.know (t := 112) (v' := .bool true) rfl (tt (by decide)) ?_
  refine J.op_g rfl rfl rfl (Yd.move rfl) rfl ?_
  refine J.op_g rfl rfl rfl (Yd.bstr Try.underlying29 Try.underlying5 Try.underlying9 rfl (Ow.rd ou54)) rfl ?_
  refine J.op_g rfl rfl rfl (Yd.move rfl) rfl ?_
  refine J.op_g rfl rfl rfl (Yd.bstr Try.underlying29 Try.underlying5 Try.underlying9 rfl (Ow.rd os48_2)) rfl ?_
  refine J.op_g rfl rfl rfl (Yd.seq rfl rfl) rfl ?_
  refine J.op (Yd.pick_t rfl rfl) rfl ?_
  refine J.op (Yd.move rfl) rfl ?_
  refine J.know (t := 119) (v' := .bool true) rfl (tt (by rfl)) ?_
  refine J.op_g rfl rfl rfl (Yd.move rfl) rfl ?_
  refine J.op_g rfl rfl rfl (Yd.eql rfl rfl) rfl ?_
  refine J.op (Yd.pick_t rfl rfl) rfl ?_
  refine J.op (Yd.move rfl) rfl ?_
  refine J.know (t := 123) (v' := .bool true) rfl (tt (by decide)) ?_
  refine J.op_g rfl rfl rfl (Yd.move rfl) rfl ?_
  refine J.op_g rfl rfl rfl (Yd.eql rfl rfl) rfl ?_
  refine J.op (Yd.pick_t rfl rfl) rfl ?_
  refine J.op (Yd.move rfl) rfl ?_
  refine J.know (t := 127) (v' := .bool true) rfl (tt (by decide)) ?_
  refine J.op_g rfl rfl rfl (Yd.move rfl) rfl ?_
  refine J.op_g rfl rfl rfl (Yd.eql rfl rfl) rfl ?_
  refine J.op (Yd.pick_t rfl rfl) rfl ?_
  refine J.op (Yd.move rfl) rfl ?_
  refine J.know (t := 131) (v' := .bool true) rfl (tt (by decide)) ?_
  refine J.op_g rfl rfl rfl (Yd.move rfl) rfl ?_
  refine J.op_g rfl rfl rfl (Yd.eql rfl rfl) rfl ?_
  refine J.op (Yd.pick_t rfl rfl) rfl ?_
  refine J.op (Yd.move rfl) rfl ?_
  refine J.know (t := 135) (v' := .bool true) rfl (tt (by decide)) ?_
  refine J.op_g rfl rfl rfl (Yd.move rfl) rfl ?_
  refine J.eff_g rfl rfl rfl (Ye.call cl13 rfl (LenNil_ok)) rfl ?_
  rintro _ w10 ⟨rfl, x1⟩
  have e0 := e0.trans x1
  have cb39_1 := cb39_1.ext x1
  have os48_2 := os48_2.ext x1
  have ou54 := ou54.ext x1
  have ou84 := ou84.ext x1
  have os84 := os84.ext x1
  clear x1
  refine J.op_g rfl rfl rfl (Yd.eql rfl rfl) rfl ?_
  refine J.op (Yd.pick_t rfl rfl) rfl ?_
  refine J.op (Yd.move rfl) rfl ?_
  refine J.know (t := 140) (v' := .bool true) rfl (tt (by decide)) ?_
  refine J.op_g rfl rfl rfl (Yd.move rfl) rfl ?_
  refine J.op_g rfl rfl rfl (Yd.move rfl) rfl ?_
  refine J.op_g rfl rfl rfl (Yd.move rfl) rfl ?_
  refine J.eff_g rfl rfl rfl (Ye.call cl16 rfl (HasNil_ok)) rfl ?_
  rintro _ w11 ⟨rfl, x1⟩
  have e0 := e0.trans x1
  have cb39_1 := cb39_1.ext x1
  have os48_2 := os48_2.ext x1
  have ou54 := ou54.ext x1
  have ou84 := ou84.ext x1
  have os84 := os84.ext x1
  clear x1
  refine J.op_g rfl rfl rfl (Yd.not rfl) rfl ?_
  refine J.op (Yd.pick_t rfl rfl) rfl ?_
  refine J.op (Yd.move rfl) rfl ?_
  refine J.know (t := 147) (v' := .bool true) rfl (rfl) ?_
  refine J.op_g rfl rfl rfl (Yd.move rfl) rfl ?_
  refine J.eff_g rfl rfl rfl (Ye.call cl17 rfl (SaveNil_ok)) rfl ?_
  rintro _ w12 ⟨rfl, x1⟩
  have e0 := e0.trans x1
  have cb39_1 := cb39_1.ext x1
  have os48_2 := os48_2.ext x1
  have ou54 := ou54.ext x1
  have ou84 := ou84.ext x1
  have os84 := os84.ext x1
  clear x1
  refine J.op_g rfl rfl rfl (Yd.len_nil Try.underlying29 rfl) rfl ?_
  refine J.op_g rfl rfl rfl (Yd.eql rfl rfl) rfl ?_
  refine J.op (Yd.pick_t rfl rfl) rfl ?_
  refine J.op (Yd.move rfl) rfl ?_
  refine J.know (t := 153) (v' := .bool true) rfl (rfl) ?_
  refine J.op_g rfl rfl rfl (Yd.move rfl) rfl ?_
  refine J.op_g rfl rfl rfl (Yd.move rfl) rfl ?_
  refine J.eff_g rfl rfl rfl (Ye.call cl15 rfl (ForgetNil_ok)) rfl ?_
  rintro _ w13 ⟨rfl, x1⟩
  have e0 := e0.trans x1
  have cb39_1 := cb39_1.ext x1
  have os48_2 := os48_2.ext x1
  have ou54 := ou54.ext x1
  have ou84 := ou84.ext x1
  have os84 := os84.ext x1
  clear x1
  refine J.op_g rfl rfl rfl (Yd.eql rfl rfl) rfl ?_
  refine J.op (Yd.pick_t rfl rfl) rfl ?_
  refine J.op (Yd.move rfl) rfl ?_
  refine J.know (t := 159) (v' := .bool true) rfl (tt (by decide)) ?_
  refine J.eff_g rfl rfl rfl (Ye.call cl8 rfl (Awake_ok)) rfl ?_
  rintro _ w14 ⟨rfl, x1⟩
  have e0 := e0.trans x1
  have cb39_1 := cb39_1.ext x1
  have os48_2 := os48_2.ext x1
  have ou54 := ou54.ext x1
  have ou84 := ou84.ext x1
  have os84 := os84.ext x1
  clear x1
  refine J.op (Yd.pick_t rfl rfl) rfl ?_
  refine J.op (Yd.assign rfl) rfl ?_
  refine J.nil ?_
  refine J.n_then ?_
  refine J.ret ?_
  exact J.ret1 rfl rfl (⟨_, rfl, rfl, e0⟩)

theorem Once_ok {m1 m2 : Int} {w : World} : C Try.prog 5 [I m1, I m2] w (Ret fun v w' => v = .bool true ∧ Ext w w') := by
  by_cases hb : 0 ≤ m1 ∧ 0 ≤ m2 ∧ m1 ≤ 1099511627776 ∧ m2 ≤ 1099511627776
  · exact OnceIn_ok hb
  · exact OnceOut_ok hb
end Ytfefphcmfhabiaa
end Go.Proofs
