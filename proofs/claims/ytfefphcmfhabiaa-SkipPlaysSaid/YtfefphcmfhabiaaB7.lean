import Derived.Test.YtfefphcmfhabiaaT
import Derived.Test.YtfefphcmfhabiaaB6
set_option linter.unusedVariables false
set_option linter.unusedSimpArgs false
set_option maxRecDepth 100000
set_option maxHeartbeats 4000000
namespace Go.Proofs
open Go.X Go.RowKit
namespace Ytfefphcmfhabiaa
theorem RHas_ok {b : Nat} {n m1 m2 : Int} {s : Value} {es : List Ent} {w : World} {q : Int} (hc : Cel w b 46 [(0, 1, [I n]), (1, 1, [s])]) (hr : Er entS w s es) (hq : idxI (eqE m1 m2) es = q) : C Try.prog 41 [.pointer (some ⟨b, 0, none⟩), I m1, I m2] w (Ret fun v w' => v = .bool (decide (q ≥ 0)) ∧ Ext w w') := by
  have e0 := Ext.refl w
  refine C.enter Try.func41 rfl Try.ntmps41 rfl ?_
  refine J.seq ?_
  refine J.region ?_
  refine J.op (Yd.assign rfl) rfl ?_
  refine J.nil ?_
  refine J.n_then ?_
  refine J.seq ?_
  refine J.region ?_
  refine J.op (Yd.move rfl) rfl ?_
  refine J.op (Yd.move rfl) rfl ?_
  refine J.op (Yd.move rfl) rfl ?_
  refine J.eff (Ye.call cl38 rfl (Find_is hc hr hq)) rfl ?_
  rintro _ w1 ⟨rfl, x1⟩
  have e0 := e0.trans x1
  clear x1
  refine J.op (Yd.geq rfl rfl) rfl ?_
  refine J.op (Yd.assign rfl) rfl ?_
  refine J.nil ?_
  refine J.n_then ?_
  refine J.ret ?_
  exact J.ret1 rfl rfl (⟨_, rfl, rfl, e0⟩)

theorem RPut_inv {b : Nat} {n m1 m2 : Int} {s : Value} {es : List Ent} {a : Value} {l : List UInt8} {w : World} (hc : Cel w b 46 [(0, 1, [I n]), (1, 1, [s])]) (hr : Er entS w s es) (ha : Bs w a l) (hv : ¬ (wiK m1 ∧ wiK m2 ∧ l.length = 32)) : C Try.prog 40 [.pointer (some ⟨b, 0, none⟩), I m1, I m2, a] w (Ret fun v w' => v = .tuple #[I 0, I 1] ∧ Ext w w') := by
  have hv9 := hv
  unfold wiK at hv9
  have e0 := Ext.refl w
  refine C.enter Try.func40 rfl Try.ntmps40 rfl ?_
  refine J.seq ?_
  refine J.region ?_
  refine J.op (Yd.assign rfl) rfl ?_
  refine J.op (Yd.assign rfl) rfl ?_
  refine J.nil ?_
  refine J.n_then ?_
  refine J.seq ?_
  refine J.seq ?_
  refine J.region ?_
  refine J.op (Yd.move rfl) rfl ?_
  refine J.op (Yd.lss rfl rfl) rfl ?_
  refine J.op (Yd.move rfl) rfl ?_
  refine J.split_dec (t := 12) rfl (fun g2 => ?_) (fun g2 => ?_)
  · skip
    refine J.not_g rfl rfl rfl rfl rfl ?_
    refine J.not_g rfl rfl rfl rfl rfl ?_
    refine J.op (Yd.pick_t rfl rfl) rfl ?_
    refine J.op (Yd.move rfl) rfl ?_
    refine J.not_g rfl rfl rfl rfl rfl ?_
    refine J.not_g rfl rfl rfl rfl rfl ?_
    refine J.op (Yd.pick_t rfl rfl) rfl ?_
    refine J.op (Yd.move rfl) rfl ?_
    refine J.not_g rfl rfl rfl rfl rfl ?_
    refine J.not_g rfl rfl rfl rfl rfl ?_
    refine J.op (Yd.pick_t rfl rfl) rfl ?_
    refine J.op (Yd.move rfl) rfl ?_
    refine J.not_g rfl rfl rfl rfl rfl ?_
    refine J.not_g rfl rfl rfl rfl rfl ?_
    refine J.not_g rfl rfl rfl rfl rfl ?_
    refine J.op (Yd.pick_t rfl rfl) rfl ?_
    refine J.nil ?_
    refine J.n_then ?_
    refine J.cond_true rfl ?_
    refine J.seq ?_
    refine J.region ?_
    refine J.op (Yd.assign rfl) rfl ?_
    refine J.op (Yd.assign rfl) rfl ?_
    refine J.nil ?_
    refine J.n_then ?_
    refine J.ret ?_
    refine J.r_then ?_
    exact J.ret2 rfl rfl rfl (⟨_, rfl, rfl, e0⟩)
  · skip
    refine J.op_g rfl rfl rfl (Yd.move rfl) rfl ?_
    refine J.op_g rfl rfl rfl (Yd.lss rfl rfl) rfl ?_
    refine J.op (Yd.pick_f rfl rfl) rfl ?_
    refine J.op (Yd.move rfl) rfl ?_
    refine J.split_dec (t := 16) rfl (fun g6 => ?_) (fun g6 => ?_)
    · skip
      refine J.not_g rfl rfl rfl rfl rfl ?_
      refine J.not_g rfl rfl rfl rfl rfl ?_
      refine J.op (Yd.pick_t rfl rfl) rfl ?_
      refine J.op (Yd.move rfl) rfl ?_
      refine J.not_g rfl rfl rfl rfl rfl ?_
      refine J.not_g rfl rfl rfl rfl rfl ?_
      refine J.op (Yd.pick_t rfl rfl) rfl ?_
      refine J.op (Yd.move rfl) rfl ?_
      refine J.not_g rfl rfl rfl rfl rfl ?_
      refine J.not_g rfl rfl rfl rfl rfl ?_
      refine J.not_g rfl rfl rfl rfl rfl ?_
      refine J.op (Yd.pick_t rfl rfl) rfl ?_
      refine J.nil ?_
      refine J.n_then ?_
      refine J.cond_true rfl ?_
      refine J.seq ?_
      refine J.region ?_
      refine J.op (Yd.assign rfl) rfl ?_
      refine J.op (Yd.assign rfl) rfl ?_
      refine J.nil ?_
      refine J.n_then ?_
      refine J.ret ?_
      refine J.r_then ?_
      exact J.ret2 rfl rfl rfl (⟨_, rfl, rfl, e0⟩)
    · skip
      refine J.op_g rfl rfl rfl (Yd.move rfl) rfl ?_
      refine J.op_g rfl rfl rfl (Yd.gtr rfl rfl) rfl ?_
      refine J.op (Yd.pick_f rfl rfl) rfl ?_
      refine J.op (Yd.move rfl) rfl ?_
      refine J.split_dec (t := 20) rfl (fun g10 => ?_) (fun g10 => ?_)
      · skip
        refine J.not_g rfl rfl rfl rfl rfl ?_
        refine J.not_g rfl rfl rfl rfl rfl ?_
        refine J.op (Yd.pick_t rfl rfl) rfl ?_
        refine J.op (Yd.move rfl) rfl ?_
        refine J.not_g rfl rfl rfl rfl rfl ?_
        refine J.not_g rfl rfl rfl rfl rfl ?_
        refine J.not_g rfl rfl rfl rfl rfl ?_
        refine J.op (Yd.pick_t rfl rfl) rfl ?_
        refine J.nil ?_
        refine J.n_then ?_
        refine J.cond_true rfl ?_
        refine J.seq ?_
        refine J.region ?_
        refine J.op (Yd.assign rfl) rfl ?_
        refine J.op (Yd.assign rfl) rfl ?_
        refine J.nil ?_
        refine J.n_then ?_
        refine J.ret ?_
        refine J.r_then ?_
        exact J.ret2 rfl rfl rfl (⟨_, rfl, rfl, e0⟩)
      · skip
        refine J.op_g rfl rfl rfl (Yd.move rfl) rfl ?_
        refine J.op_g rfl rfl rfl (Yd.gtr rfl rfl) rfl ?_
        refine J.op (Yd.pick_f rfl rfl) rfl ?_
        refine J.op (Yd.move rfl) rfl ?_
        refine J.split_dec (t := 24) rfl (fun g14 => ?_) (fun g14 => ?_)
        · skip
          refine J.not_g rfl rfl rfl rfl rfl ?_
          refine J.not_g rfl rfl rfl rfl rfl ?_
          refine J.not_g rfl rfl rfl rfl rfl ?_
          refine J.op (Yd.pick_t rfl rfl) rfl ?_
          refine J.nil ?_
          refine J.n_then ?_
          refine J.cond_true rfl ?_
          refine J.seq ?_
          refine J.region ?_
          refine J.op (Yd.assign rfl) rfl ?_
          refine J.op (Yd.assign rfl) rfl ?_
          refine J.nil ?_
          refine J.n_then ?_
          refine J.ret ?_
          refine J.r_then ?_
          exact J.ret2 rfl rfl rfl (⟨_, rfl, rfl, e0⟩)
        · skip
          refine J.op_g rfl rfl rfl (Yd.move rfl) rfl ?_
          refine J.op_g rfl rfl rfl (Yd.len_b Try.underlying29 rfl ha) rfl ?_
          refine J.op_g rfl rfl rfl (Yd.neq rfl rfl) rfl ?_
          refine J.op (Yd.pick_f rfl rfl) rfl ?_
          refine J.nil ?_
          refine J.n_then ?_
          refine J.know (t := 28) (v' := .bool true) rfl (tt (by omega)) ?_
          refine J.cond_true rfl ?_
          refine J.seq ?_
          refine J.region ?_
          refine J.op (Yd.assign rfl) rfl ?_
          refine J.op (Yd.assign rfl) rfl ?_
          refine J.nil ?_
          refine J.n_then ?_
          refine J.ret ?_
          refine J.r_then ?_
          exact J.ret2 rfl rfl rfl (⟨_, rfl, rfl, e0⟩)

theorem RPut_dup {b : Nat} {n m1 m2 : Int} {s : Value} {es : List Ent} {a : Value} {l : List UInt8} {w : World} {q : Int} (hc : Cel w b 46 [(0, 1, [I n]), (1, 1, [s])]) (hr : Er entS w s es) (ha : Bs w a l) (hv : wiK m1 ∧ wiK m2 ∧ l.length = 32) (hq : idxI (eqE m1 m2) es = q) (hq0 : q ≥ 0) : C Try.prog 40 [.pointer (some ⟨b, 0, none⟩), I m1, I m2, a] w (Ret fun v w' => v = .tuple #[I 0, I 8] ∧ Ext w w') := by
  have hv9 := hv
  unfold wiK at hv9
  have e0 := Ext.refl w
  refine C.enter Try.func40 rfl Try.ntmps40 rfl ?_
  refine J.seq ?_
  refine J.region ?_
  refine J.op (Yd.assign rfl) rfl ?_
  refine J.op (Yd.assign rfl) rfl ?_
  refine J.nil ?_
  refine J.n_then ?_
  refine J.seq ?_
  refine J.seq ?_
  refine J.region ?_
  refine J.op (Yd.move rfl) rfl ?_
  refine J.op (Yd.lss rfl rfl) rfl ?_
  refine J.op (Yd.move rfl) rfl ?_
  refine J.know (t := 12) (v' := .bool false) rfl (ff (by omega)) ?_
  refine J.op_g rfl rfl rfl (Yd.move rfl) rfl ?_
  refine J.op_g rfl rfl rfl (Yd.lss rfl rfl) rfl ?_
  refine J.op (Yd.pick_f rfl rfl) rfl ?_
  refine J.op (Yd.move rfl) rfl ?_
  refine J.know (t := 16) (v' := .bool false) rfl (ff (by omega)) ?_
  refine J.op_g rfl rfl rfl (Yd.move rfl) rfl ?_
  refine J.op_g rfl rfl rfl (Yd.gtr rfl rfl) rfl ?_
  refine J.op (Yd.pick_f rfl rfl) rfl ?_
  refine J.op (Yd.move rfl) rfl ?_
  refine J.know (t := 20) (v' := .bool false) rfl (ff (by omega)) ?_
  refine J.op_g rfl rfl rfl (Yd.move rfl) rfl ?_
  refine J.op_g rfl rfl rfl (Yd.gtr rfl rfl) rfl ?_
  refine J.op (Yd.pick_f rfl rfl) rfl ?_
  refine J.op (Yd.move rfl) rfl ?_
  refine J.know (t := 24) (v' := .bool false) rfl (ff (by omega)) ?_
  refine J.op_g rfl rfl rfl (Yd.move rfl) rfl ?_
  refine J.op_g rfl rfl rfl (Yd.len_b Try.underlying29 rfl ha) rfl ?_
  refine J.op_g rfl rfl rfl (Yd.neq rfl rfl) rfl ?_
  refine J.op (Yd.pick_f rfl rfl) rfl ?_
  refine J.nil ?_
  refine J.n_then ?_
  refine J.know (t := 28) (v' := .bool false) rfl (ff (by omega)) ?_
  refine J.cond_false rfl ?_
  refine J.skip ?_
  refine J.n_then ?_
  refine J.seq ?_
  refine J.seq ?_
  refine J.region ?_
  refine J.op (Yd.move rfl) rfl ?_
  refine J.op (Yd.move rfl) rfl ?_
  refine J.op (Yd.move rfl) rfl ?_
  refine J.eff (Ye.call cl38 rfl (Find_is (hc.ext e0) (hr.ext e0) hq)) rfl ?_
  rintro _ w1 ⟨rfl, x1⟩
  have e0 := e0.trans x1
  clear x1
  refine J.op (Yd.geq rfl rfl) rfl ?_
  refine J.nil ?_
  refine J.n_then ?_
  refine J.know (t := 33) (v' := .bool true) rfl (tt (by exact hq0)) ?_
  refine J.cond_true rfl ?_
  refine J.seq ?_
  refine J.region ?_
  refine J.op (Yd.assign rfl) rfl ?_
  refine J.op (Yd.assign rfl) rfl ?_
  refine J.nil ?_
  refine J.n_then ?_
  refine J.ret ?_
  refine J.r_then ?_
  exact J.ret2 rfl rfl rfl (⟨_, rfl, rfl, e0⟩)

theorem RPut_new {b : Nat} {n m1 m2 : Int} {s : Value} {es : List Ent} {a : Value} {l : List UInt8} {w : World} {q : Int} (hc : Cel w b 46 [(0, 1, [I n]), (1, 1, [s])]) (hr : Er entS w s es) (hap : Ap (some b) s.ownBlock) (h1 : ∀ x ∈ es, x.2.2.oneCell' = true) (hak : ∀ W, Tn [some b] w W → Bs W a l) (hv : wiK m1 ∧ wiK m2 ∧ l.length = 32) (hq : idxI (eqE m1 m2) es = q) (hq0 : ¬ q ≥ 0) (hle : (es.length : Int) < n) (hn2 : es.length ≤ 1000) : C Try.prog 40 [.pointer (some ⟨b, 0, none⟩), I m1, I m2, a] w (Ret fun u w' => ∃ s', u = .tuple #[I 0, I 0] ∧ Cel w' b 46 [(0, 1, [I n]), (1, 1, [s'])] ∧ Er entS w' s' (([] ++ es ++ [((m1, m2, a) : Ent)])) ∧ Live w' s'.ownBlock ∧ Fr w.heap.size s'.ownBlock ∧ Tn [some b] w w') := by
  have hrf := fun (W_ : World) (e_ : Tn [some b] w W_) => Er.tnk hr e_ (ApL.one (Ap.symm hap))
  have hmx := Er.max hr
  have hv9 := hv
  unfold wiK at hv9
  have e0 := Tn.refl [(some b)] w
  refine C.enter Try.func40 rfl Try.ntmps40 rfl ?_
  refine J.seq ?_
  refine J.region ?_
  refine J.op (Yd.assign rfl) rfl ?_
  refine J.op (Yd.assign rfl) rfl ?_
  refine J.nil ?_
  refine J.n_then ?_
  refine J.seq ?_
  refine J.seq ?_
  refine J.region ?_
  refine J.op (Yd.move rfl) rfl ?_
  refine J.op (Yd.lss rfl rfl) rfl ?_
  refine J.op (Yd.move rfl) rfl ?_
  refine J.know (t := 12) (v' := .bool false) rfl (ff (by omega)) ?_
  refine J.op_g rfl rfl rfl (Yd.move rfl) rfl ?_
  refine J.op_g rfl rfl rfl (Yd.lss rfl rfl) rfl ?_
  refine J.op (Yd.pick_f rfl rfl) rfl ?_
  refine J.op (Yd.move rfl) rfl ?_
  refine J.know (t := 16) (v' := .bool false) rfl (ff (by omega)) ?_
  refine J.op_g rfl rfl rfl (Yd.move rfl) rfl ?_
  refine J.op_g rfl rfl rfl (Yd.gtr rfl rfl) rfl ?_
  refine J.op (Yd.pick_f rfl rfl) rfl ?_
  refine J.op (Yd.move rfl) rfl ?_
  refine J.know (t := 20) (v' := .bool false) rfl (ff (by omega)) ?_
  refine J.op_g rfl rfl rfl (Yd.move rfl) rfl ?_
  refine J.op_g rfl rfl rfl (Yd.gtr rfl rfl) rfl ?_
  refine J.op (Yd.pick_f rfl rfl) rfl ?_
  refine J.op (Yd.move rfl) rfl ?_
  refine J.know (t := 24) (v' := .bool false) rfl (ff (by omega)) ?_
  refine J.op_g rfl rfl rfl (Yd.move rfl) rfl ?_
  refine J.op_g rfl rfl rfl (Yd.len_b Try.underlying29 rfl (hak _ e0)) rfl ?_
  refine J.op_g rfl rfl rfl (Yd.neq rfl rfl) rfl ?_
  refine J.op (Yd.pick_f rfl rfl) rfl ?_
  refine J.nil ?_
  refine J.n_then ?_
  refine J.know (t := 28) (v' := .bool false) rfl (ff (by omega)) ?_
  refine J.cond_false rfl ?_
  refine J.skip ?_
  refine J.n_then ?_
  refine J.seq ?_
  refine J.seq ?_
  refine J.region ?_
  refine J.op (Yd.move rfl) rfl ?_
  refine J.op (Yd.move rfl) rfl ?_
  refine J.op (Yd.move rfl) rfl ?_
  refine J.eff (Ye.call cl38 rfl (Find_is hc (hrf _ e0) hq)) rfl ?_
  rintro _ w1 ⟨rfl, x1⟩
  have e0 := Tn.ext e0 x1
  have hc := hc.ext x1
  clear x1
  refine J.op (Yd.geq rfl rfl) rfl ?_
  refine J.nil ?_
  refine J.n_then ?_
  refine J.know (t := 33) (v' := .bool false) rfl (ff (by exact hq0)) ?_
  refine J.cond_false rfl ?_
  refine J.skip ?_
  refine J.n_then ?_
  refine J.seq ?_
  refine J.region ?_
  refine J.op (Yd.move rfl) rfl ?_
  refine J.eff (Ye.litE0 (K := entS) (base := w1.heap.size) Try.underlying44 ti79 (Nat.le_refl _)) rfl ?_
  rintro s0_ w2 ⟨hs0_, x1⟩
  have hf_s0_ := Es.fr hs0_
  have hk1 := x1.size
  have ap_b_s0_ : Ap (some b) s0_.ownBlock := Ap.mk (Cel.live hc) (Es.fr hs0_)
  have fr_s0_ : Fr w.heap.size s0_.ownBlock := Fr.le (Es.fr hs0_) e0.size
  replace hs0_ := Es.base hs0_ (Nat.zero_le _)
  have e0 := Tn.ext e0 x1
  have hc := hc.ext x1
  clear x1
  refine J.op (Yd.move rfl) rfl ?_
  refine J.op (Yd.nilCheck rfl) rfl ?_
  refine J.op (Yd.cast (Yd.fieldA Try.underlying46 rfl ti44 rfl rfl) (show _ = Value.pointer (some ⟨b, 1, none⟩) from rfl)) rfl ?_
  refine J.op (Yd.load pl44 rfl (Cel.cell1 hc 1 rfl)) rfl ?_
  refine J.eff (Ye.appendE (K := entS) Try.underlying44 ti79 rfl rfl rfl rfl hs0_ (hrf _ e0) (ent_one h1) (by simp only [List.length_append, List.length_singleton, List.length_nil, List.length_take, List.length_drop]; omega) (Nat.zero_le _)) rfl ?_
  rintro sA w3 ⟨hsA, hg, hsf⟩
  have ap_b_sA : Ap (some b) sA.ownBlock := Ap.sf ap_b_s0_ (Cel.live hc) hsf
  have fr_sA : Fr w.heap.size sA.ownBlock := Fr.sf fr_s0_ hsf e0.size
  have hc := Cel.gbk hc hg ap_b_s0_
  have e0 := Tn.gbk e0 (.inr fr_s0_) hg
  clear hg hsf
  refine J.op (Yd.move rfl) rfl ?_
  refine J.op (Yd.move rfl) rfl ?_
  refine J.op (Yd.move rfl) rfl ?_
  have haV := hak _ e0
  have hcV := Rd.cells haV
  have hoV := Rd.one haV
  refine J.op (Yd.cast (Yd.buildV (pl := [(0, 1), (1, 1), (2, 1)]) Try.underlying79 (by kernel_rfl) ti79 rfl rfl (by simp [OffOK, cells_agg, cells_int, hcV]) (by simp [catV, cells_agg, cells_int, hcV])) (show _ = Value.agg (entS.c (m1, m2, a)).toArray from by simp [catV, cells_agg, cells_int, hcV, entS])) rfl ?_
  refine J.eff (Ye.litE1 (K := entS) (u := ((m1, m2, a) : Ent)) (base := w3.heap.size) Try.underlying44 ti79 rfl rfl rfl (Nat.le_refl _)) rfl ?_
  rintro sl w4 ⟨hsl, x1⟩
  have ap_b_sl : Ap (some b) sl.ownBlock := Ap.mk (Cel.live hc) (Es.fr hsl)
  have ap_sA_sl : Ap sA.ownBlock sl.ownBlock := Ap.mk (Es.live hsA) (Es.fr hsl)
  have fr_sl : Fr w.heap.size sl.ownBlock := Fr.le (Es.fr hsl) e0.size
  replace hsl := Es.base hsl (Nat.zero_le _)
  have e0 := Tn.ext e0 x1
  have hc := hc.ext x1
  have hsA := hsA.ext x1
  clear x1
  refine J.eff (Ye.appendE (K := entS) Try.underlying44 ti79 rfl rfl rfl rfl hsA (Es.rd hsl) (ent_one (fun x hx => by rw [List.mem_singleton] at hx; subst hx; exact hoV)) (by simp only [List.length_append, List.length_singleton, List.length_nil, List.length_take, List.length_drop]; omega) (Nat.zero_le _)) rfl ?_
  rintro sB w5 ⟨hsB, hg, hsf⟩
  have ap_b_sB : Ap (some b) sB.ownBlock := Ap.sf ap_b_sA (Cel.live hc) hsf
  have ap_sl_sB : Ap sl.ownBlock sB.ownBlock := Ap.sf (Ap.symm ap_sA_sl) (Es.live hsl) hsf
  have fr_sB : Fr w.heap.size sB.ownBlock := Fr.sf fr_sA hsf e0.size
  have hc := Cel.gbk hc hg ap_b_sA
  have e0 := Tn.gbk e0 (.inr fr_sA) hg
  clear hg hsf
  refine J.op (Yd.nilCheck rfl) rfl ?_
  refine J.op (Yd.cast (Yd.fieldA Try.underlying46 rfl ti44 rfl rfl) (show _ = Value.pointer (some ⟨b, 1, none⟩) from rfl)) rfl ?_
  refine J.eff0 (Ye.store1 ti44 hc 1 rfl rfl rfl rfl (Er.cells (Es.rd hsB)) (Er.one (Es.rd hsB))) ?_
  rintro _ w6 ⟨cX, hu⟩
  simp only [List.set_cons_zero, List.set_cons_succ] at cX
  have hg := hu.gb
  have hsB := Es.gbk hsB hg (Ap.symm ap_b_sB)
  have e0 := Tn.gbk e0 (.inl (by simp)) hg
  clear hg
  replace hc := cX
  clear cX hu
  refine J.nil ?_
  refine J.n_then ?_
  refine J.seq ?_
  refine J.seq ?_
  refine J.regionO [(0, true), (1, true), (2, true), (5, true), (6, true), (7, true)] [(3, 1), (4, 1), (8, 1)] [(9, true)] mix (by kernel_rfl) ?_
  refine J.s_op rfl (fun _ => Yd.move rfl) rfl ?_
  refine J.s_op rfl (fun _ => Yd.nilCheck rfl) rfl ?_
  refine J.s_op rfl (fun _ => Yd.cast (Yd.fieldA Try.underlying46 rfl ti44 rfl rfl) (show _ = Value.pointer (some ⟨b, 1, none⟩) from rfl)) rfl ?_
  refine J.s_op rfl (fun _ => Yd.move rfl) rfl ?_
  refine J.s_op rfl (fun _ => Yd.nilCheck rfl) rfl ?_
  refine J.s_op rfl (fun _ => Yd.cast (Yd.fieldA Try.underlying46 rfl ti3 rfl rfl) (show _ = Value.pointer (some ⟨b, 0, none⟩) from rfl)) rfl ?_
  refine J.s_nil ?_
  refine J.o_op rfl (Yd.load pl44 rfl (Cel.cell1 hc 1 rfl)) rfl ?_
  refine J.o_op rfl (Yd.lenE (K := entS) Try.underlying44 rfl (Es.rd hsB)) rfl ?_
  refine J.o_op rfl (Yd.load pl3 rfl (Cel.cell1 hc 0 rfl)) rfl ?_
  refine J.o_nil ?_
  refine J.s_op rfl (fun _ => Yd.gtr rfl rfl) rfl ?_
  refine J.s_nil ?_
  refine J.n_np ?_
  refine J.n_then ?_
  refine J.know (t := 58) (v' := .bool false) rfl (ff (by simp only [List.length_append, List.length_singleton, List.length_nil, List.length_take, List.length_drop]; omega)) ?_
  refine J.cond_false rfl ?_
  refine J.skip ?_
  refine J.n_then ?_
  refine J.seq ?_
  refine J.region ?_
  refine J.op (Yd.assign rfl) rfl ?_
  refine J.op (Yd.assign rfl) rfl ?_
  refine J.nil ?_
  refine J.n_then ?_
  refine J.ret ?_
  exact J.ret2 rfl rfl rfl (⟨_, rfl, sB, rfl, hc, Es.rd hsB, Es.live hsB, fr_sB, e0⟩)

theorem RPut_over {b : Nat} {n m1 m2 : Int} {s : Value} {es : List Ent} {a : Value} {l : List UInt8} {w : World} {q : Int} (hc : Cel w b 46 [(0, 1, [I n]), (1, 1, [s])]) (hr : Er entS w s es) (hap : Ap (some b) s.ownBlock) (h1 : ∀ x ∈ es, x.2.2.oneCell' = true) (hak : ∀ W, Tn [some b] w W → Bs W a l) (hv : wiK m1 ∧ wiK m2 ∧ l.length = 32) (hq : idxI (eqE m1 m2) es = q) (hq0 : ¬ q ≥ 0) (hle : ¬ (es.length : Int) < n) (hn2 : es.length ≤ 1000) : C Try.prog 40 [.pointer (some ⟨b, 0, none⟩), I m1, I m2, a] w (Ret fun u w' => ∃ s', u = .tuple #[I 1, I 0] ∧ Cel w' b 46 [(0, 1, [I n]), (1, 1, [s'])] ∧ Er entS w' s' (([] ++ es ++ [((m1, m2, a) : Ent)]).drop 1) ∧ Live w' s'.ownBlock ∧ Fr w.heap.size s'.ownBlock ∧ Tn [some b] w w') := by
  have hrf := fun (W_ : World) (e_ : Tn [some b] w W_) => Er.tnk hr e_ (ApL.one (Ap.symm hap))
  have hmx := Er.max hr
  have hv9 := hv
  unfold wiK at hv9
  have e0 := Tn.refl [(some b)] w
  refine C.enter Try.func40 rfl Try.ntmps40 rfl ?_
  refine J.seq ?_
  refine J.region ?_
  refine J.op (Yd.assign rfl) rfl ?_
  refine J.op (Yd.assign rfl) rfl ?_
  refine J.nil ?_
  refine J.n_then ?_
  refine J.seq ?_
  refine J.seq ?_
  refine J.region ?_
  refine J.op (Yd.move rfl) rfl ?_
  refine J.op (Yd.lss rfl rfl) rfl ?_
  refine J.op (Yd.move rfl) rfl ?_
  refine J.know (t := 12) (v' := .bool false) rfl (ff (by omega)) ?_
  refine J.op_g rfl rfl rfl (Yd.move rfl) rfl ?_
  refine J.op_g rfl rfl rfl (Yd.lss rfl rfl) rfl ?_
  refine J.op (Yd.pick_f rfl rfl) rfl ?_
  refine J.op (Yd.move rfl) rfl ?_
  refine J.know (t := 16) (v' := .bool false) rfl (ff (by omega)) ?_
  refine J.op_g rfl rfl rfl (Yd.move rfl) rfl ?_
  refine J.op_g rfl rfl rfl (Yd.gtr rfl rfl) rfl ?_
  refine J.op (Yd.pick_f rfl rfl) rfl ?_
  refine J.op (Yd.move rfl) rfl ?_
  refine J.know (t := 20) (v' := .bool false) rfl (ff (by omega)) ?_
  refine J.op_g rfl rfl rfl (Yd.move rfl) rfl ?_
  refine J.op_g rfl rfl rfl (Yd.gtr rfl rfl) rfl ?_
  refine J.op (Yd.pick_f rfl rfl) rfl ?_
  refine J.op (Yd.move rfl) rfl ?_
  refine J.know (t := 24) (v' := .bool false) rfl (ff (by omega)) ?_
  refine J.op_g rfl rfl rfl (Yd.move rfl) rfl ?_
  refine J.op_g rfl rfl rfl (Yd.len_b Try.underlying29 rfl (hak _ e0)) rfl ?_
  refine J.op_g rfl rfl rfl (Yd.neq rfl rfl) rfl ?_
  refine J.op (Yd.pick_f rfl rfl) rfl ?_
  refine J.nil ?_
  refine J.n_then ?_
  refine J.know (t := 28) (v' := .bool false) rfl (ff (by omega)) ?_
  refine J.cond_false rfl ?_
  refine J.skip ?_
  refine J.n_then ?_
  refine J.seq ?_
  refine J.seq ?_
  refine J.region ?_
  refine J.op (Yd.move rfl) rfl ?_
  refine J.op (Yd.move rfl) rfl ?_
  refine J.op (Yd.move rfl) rfl ?_
  refine J.eff (Ye.call cl38 rfl (Find_is hc (hrf _ e0) hq)) rfl ?_
  rintro _ w1 ⟨rfl, x1⟩
  have e0 := Tn.ext e0 x1
  have hc := hc.ext x1
  clear x1
  refine J.op (Yd.geq rfl rfl) rfl ?_
  refine J.nil ?_
  refine J.n_then ?_
  refine J.know (t := 33) (v' := .bool false) rfl (ff (by exact hq0)) ?_
  refine J.cond_false rfl ?_
  refine J.skip ?_
  refine J.n_then ?_
  refine J.seq ?_
  refine J.region ?_
  refine J.op (Yd.move rfl) rfl ?_
  refine J.eff (Ye.litE0 (K := entS) (base := w1.heap.size) Try.underlying44 ti79 (Nat.le_refl _)) rfl ?_
  rintro s0_ w2 ⟨hs0_, x1⟩
  have hf_s0_ := Es.fr hs0_
  have hk1 := x1.size
  have ap_b_s0_ : Ap (some b) s0_.ownBlock := Ap.mk (Cel.live hc) (Es.fr hs0_)
  have fr_s0_ : Fr w.heap.size s0_.ownBlock := Fr.le (Es.fr hs0_) e0.size
  replace hs0_ := Es.base hs0_ (Nat.zero_le _)
  have e0 := Tn.ext e0 x1
  have hc := hc.ext x1
  clear x1
  refine J.op (Yd.move rfl) rfl ?_
  refine J.op (Yd.nilCheck rfl) rfl ?_
  refine J.op (Yd.cast (Yd.fieldA Try.underlying46 rfl ti44 rfl rfl) (show _ = Value.pointer (some ⟨b, 1, none⟩) from rfl)) rfl ?_
  refine J.op (Yd.load pl44 rfl (Cel.cell1 hc 1 rfl)) rfl ?_
  refine J.eff (Ye.appendE (K := entS) Try.underlying44 ti79 rfl rfl rfl rfl hs0_ (hrf _ e0) (ent_one h1) (by simp only [List.length_append, List.length_singleton, List.length_nil, List.length_take, List.length_drop]; omega) (Nat.zero_le _)) rfl ?_
  rintro sA w3 ⟨hsA, hg, hsf⟩
  have ap_b_sA : Ap (some b) sA.ownBlock := Ap.sf ap_b_s0_ (Cel.live hc) hsf
  have fr_sA : Fr w.heap.size sA.ownBlock := Fr.sf fr_s0_ hsf e0.size
  have hc := Cel.gbk hc hg ap_b_s0_
  have e0 := Tn.gbk e0 (.inr fr_s0_) hg
  clear hg hsf
  refine J.op (Yd.move rfl) rfl ?_
  refine J.op (Yd.move rfl) rfl ?_
  refine J.op (Yd.move rfl) rfl ?_
  have haV := hak _ e0
  have hcV := Rd.cells haV
  have hoV := Rd.one haV
  refine J.op (Yd.cast (Yd.buildV (pl := [(0, 1), (1, 1), (2, 1)]) Try.underlying79 (by kernel_rfl) ti79 rfl rfl (by simp [OffOK, cells_agg, cells_int, hcV]) (by simp [catV, cells_agg, cells_int, hcV])) (show _ = Value.agg (entS.c (m1, m2, a)).toArray from by simp [catV, cells_agg, cells_int, hcV, entS])) rfl ?_
  refine J.eff (Ye.litE1 (K := entS) (u := ((m1, m2, a) : Ent)) (base := w3.heap.size) Try.underlying44 ti79 rfl rfl rfl (Nat.le_refl _)) rfl ?_
  rintro sl w4 ⟨hsl, x1⟩
  have ap_b_sl : Ap (some b) sl.ownBlock := Ap.mk (Cel.live hc) (Es.fr hsl)
  have ap_sA_sl : Ap sA.ownBlock sl.ownBlock := Ap.mk (Es.live hsA) (Es.fr hsl)
  have fr_sl : Fr w.heap.size sl.ownBlock := Fr.le (Es.fr hsl) e0.size
  replace hsl := Es.base hsl (Nat.zero_le _)
  have e0 := Tn.ext e0 x1
  have hc := hc.ext x1
  have hsA := hsA.ext x1
  clear x1
  refine J.eff (Ye.appendE (K := entS) Try.underlying44 ti79 rfl rfl rfl rfl hsA (Es.rd hsl) (ent_one (fun x hx => by rw [List.mem_singleton] at hx; subst hx; exact hoV)) (by simp only [List.length_append, List.length_singleton, List.length_nil, List.length_take, List.length_drop]; omega) (Nat.zero_le _)) rfl ?_
  rintro sB w5 ⟨hsB, hg, hsf⟩
  have ap_b_sB : Ap (some b) sB.ownBlock := Ap.sf ap_b_sA (Cel.live hc) hsf
  have ap_sl_sB : Ap sl.ownBlock sB.ownBlock := Ap.sf (Ap.symm ap_sA_sl) (Es.live hsl) hsf
  have fr_sB : Fr w.heap.size sB.ownBlock := Fr.sf fr_sA hsf e0.size
  have hc := Cel.gbk hc hg ap_b_sA
  have e0 := Tn.gbk e0 (.inr fr_sA) hg
  clear hg hsf
  refine J.op (Yd.nilCheck rfl) rfl ?_
  refine J.op (Yd.cast (Yd.fieldA Try.underlying46 rfl ti44 rfl rfl) (show _ = Value.pointer (some ⟨b, 1, none⟩) from rfl)) rfl ?_
  refine J.eff0 (Ye.store1 ti44 hc 1 rfl rfl rfl rfl (Er.cells (Es.rd hsB)) (Er.one (Es.rd hsB))) ?_
  rintro _ w6 ⟨cX, hu⟩
  simp only [List.set_cons_zero, List.set_cons_succ] at cX
  have hg := hu.gb
  have hsB := Es.gbk hsB hg (Ap.symm ap_b_sB)
  have e0 := Tn.gbk e0 (.inl (by simp)) hg
  clear hg
  replace hc := cX
  clear cX hu
  refine J.nil ?_
  refine J.n_then ?_
  refine J.seq ?_
  refine J.seq ?_
  refine J.regionO [(0, true), (1, true), (2, true), (5, true), (6, true), (7, true)] [(3, 1), (4, 1), (8, 1)] [(9, true)] mix (by kernel_rfl) ?_
  refine J.s_op rfl (fun _ => Yd.move rfl) rfl ?_
  refine J.s_op rfl (fun _ => Yd.nilCheck rfl) rfl ?_
  refine J.s_op rfl (fun _ => Yd.cast (Yd.fieldA Try.underlying46 rfl ti44 rfl rfl) (show _ = Value.pointer (some ⟨b, 1, none⟩) from rfl)) rfl ?_
  refine J.s_op rfl (fun _ => Yd.move rfl) rfl ?_
  refine J.s_op rfl (fun _ => Yd.nilCheck rfl) rfl ?_
  refine J.s_op rfl (fun _ => Yd.cast (Yd.fieldA Try.underlying46 rfl ti3 rfl rfl) (show _ = Value.pointer (some ⟨b, 0, none⟩) from rfl)) rfl ?_
  refine J.s_nil ?_
  refine J.o_op rfl (Yd.load pl44 rfl (Cel.cell1 hc 1 rfl)) rfl ?_
  refine J.o_op rfl (Yd.lenE (K := entS) Try.underlying44 rfl (Es.rd hsB)) rfl ?_
  refine J.o_op rfl (Yd.load pl3 rfl (Cel.cell1 hc 0 rfl)) rfl ?_
  refine J.o_nil ?_
  refine J.s_op rfl (fun _ => Yd.gtr rfl rfl) rfl ?_
  refine J.s_nil ?_
  refine J.n_np ?_
  refine J.n_then ?_
  refine J.know (t := 58) (v' := .bool true) rfl (tt (by simp only [List.length_append, List.length_singleton, List.length_nil, List.length_take, List.length_drop]; omega)) ?_
  refine J.cond_true rfl ?_
  refine J.seq ?_
  refine J.region ?_
  refine J.op (Yd.move rfl) rfl ?_
  refine J.op (Yd.move rfl) rfl ?_
  refine J.op (Yd.nilCheck rfl) rfl ?_
  refine J.op (Yd.cast (Yd.fieldA Try.underlying46 rfl ti44 rfl rfl) (show _ = Value.pointer (some ⟨b, 1, none⟩) from rfl)) rfl ?_
  refine J.op (Yd.load pl44 rfl (Cel.cell1 hc 1 rfl)) rfl ?_
  refine J.op (Yd.slE_L (K := entS) Try.underlying44 ti79 rfl rfl (Es.rd hsB) (by simp only [List.length_append, List.length_singleton, List.length_nil, List.length_take, List.length_drop]; omega)) rfl ?_
  refine J.op (Yd.nilCheck rfl) rfl ?_
  refine J.op (Yd.cast (Yd.fieldA Try.underlying46 rfl ti44 rfl rfl) (show _ = Value.pointer (some ⟨b, 1, none⟩) from rfl)) rfl ?_
  refine J.eff0 (Ye.store1 ti44 hc 1 rfl rfl rfl rfl (Er.cells (Er.slc (Es.rd hsB) (l := 1) (h := ([] ++ es ++ [((m1, m2, a) : Ent)]).length) (by simp only [List.length_append, List.length_singleton]; omega) (Nat.le_refl _))) (Er.one (Er.slc (Es.rd hsB) (l := 1) (h := ([] ++ es ++ [((m1, m2, a) : Ent)]).length) (by simp only [List.length_append, List.length_singleton]; omega) (Nat.le_refl _)))) ?_
  rintro _ w7 ⟨cX, hu⟩
  simp only [List.set_cons_zero, List.set_cons_succ] at cX
  have hg := hu.gb
  have hsB := Es.gbk hsB hg (Ap.symm ap_b_sB)
  have e0 := Tn.gbk e0 (.inl (by simp)) hg
  clear hg
  replace hc := cX
  clear cX hu
  refine J.nil ?_
  refine J.n_then ?_
  refine J.seq ?_
  refine J.region ?_
  refine J.op (Yd.assign rfl) rfl ?_
  refine J.op (Yd.assign rfl) rfl ?_
  refine J.nil ?_
  refine J.n_then ?_
  refine J.ret ?_
  refine J.r_then ?_
  exact J.ret2 rfl rfl rfl (⟨_, rfl, _, rfl, hc, (by have h9 := Er.slc (Es.rd hsB) (l := 1) (h := ([] ++ es ++ [((m1, m2, a) : Ent)]).length) (by simp only [List.length_append, List.length_singleton]; omega) (Nat.le_refl _); rw [List.take_length] at h9; exact h9), (by rw [slE_own]; exact Es.live hsB), (by rw [slE_own]; exact fr_sB), e0⟩)

theorem RTake_no {b : Nat} {n m1 m2 : Int} {s : Value} {es : List Ent} {w : World} (hc : Cel w b 46 [(0, 1, [I n]), (1, 1, [s])]) (hr : Er entS w s es) (hq : idxI (eqE m1 m2) es = -1) : C Try.prog 42 [.pointer (some ⟨b, 0, none⟩), I m1, I m2] w (Ret fun v w' => v = .tuple #[nilS, I 7] ∧ Ext w w') := by
  have e0 := Ext.refl w
  refine C.enter Try.func42 rfl Try.ntmps42 rfl ?_
  refine J.seq ?_
  refine J.region ?_
  refine J.op (Yd.assign rfl) rfl ?_
  refine J.op (Yd.assign rfl) rfl ?_
  refine J.nil ?_
  refine J.n_then ?_
  refine J.seq ?_
  refine J.region ?_
  refine J.op (Yd.move rfl) rfl ?_
  refine J.op (Yd.move rfl) rfl ?_
  refine J.op (Yd.move rfl) rfl ?_
  refine J.eff (Ye.call cl38 rfl (Find_is hc hr hq)) rfl ?_
  rintro _ w1 ⟨rfl, x1⟩
  have e0 := e0.trans x1
  clear x1
  refine J.op (Yd.assign rfl) rfl ?_
  refine J.nil ?_
  refine J.n_then ?_
  refine J.seq ?_
  refine J.seq ?_
  refine J.region ?_
  refine J.op (Yd.move rfl) rfl ?_
  refine J.op (Yd.lss rfl rfl) rfl ?_
  refine J.nil ?_
  refine J.n_then ?_
  refine J.know (t := 15) (v' := .bool true) rfl (tt (by decide)) ?_
  refine J.cond_true rfl ?_
  refine J.seq ?_
  refine J.region ?_
  refine J.op (Yd.assign rfl) rfl ?_
  refine J.op (Yd.assign rfl) rfl ?_
  refine J.nil ?_
  refine J.n_then ?_
  refine J.ret ?_
  refine J.r_then ?_
  exact J.ret2 rfl rfl rfl (⟨_, rfl, rfl, e0⟩)

theorem RTake_yes {b : Nat} {n m1 m2 : Int} {s : Value} {es : List Ent} {w : World} {k : Nat} (hc : Cel w b 46 [(0, 1, [I n]), (1, 1, [s])]) (hr : Er entS w s es) (hap : Ap (some b) s.ownBlock) (h1 : ∀ x ∈ es, x.2.2.oneCell' = true) (hk : k < es.length) (hq : idxI (eqE m1 m2) es = (k : Int)) (hn2 : es.length ≤ 1000) : C Try.prog 42 [.pointer (some ⟨b, 0, none⟩), I m1, I m2] w (Ret fun u w' => ∃ s', u = .tuple #[(es.getD k entD).2.2, I 0] ∧ Cel w' b 46 [(0, 1, [I n]), (1, 1, [s'])] ∧ Er entS w' s' ([] ++ (es.take k).drop 0 ++ es.drop ((k : Int) + 1).toNat) ∧ Live w' s'.ownBlock ∧ Fr w.heap.size s'.ownBlock ∧ Tn [some b] w w') := by
  have hrf := fun (W_ : World) (e_ : Tn [some b] w W_) => Er.tnk hr e_ (ApL.one (Ap.symm hap))
  have hmx := Er.max hr
  have e0 := Tn.refl [(some b)] w
  refine C.enter Try.func42 rfl Try.ntmps42 rfl ?_
  refine J.seq ?_
  refine J.region ?_
  refine J.op (Yd.assign rfl) rfl ?_
  refine J.op (Yd.assign rfl) rfl ?_
  refine J.nil ?_
  refine J.n_then ?_
  refine J.seq ?_
  refine J.region ?_
  refine J.op (Yd.move rfl) rfl ?_
  refine J.op (Yd.move rfl) rfl ?_
  refine J.op (Yd.move rfl) rfl ?_
  refine J.eff (Ye.call cl38 rfl (Find_is hc (hrf _ e0) hq)) rfl ?_
  rintro _ w1 ⟨rfl, x1⟩
  have e0 := Tn.ext e0 x1
  have hc := hc.ext x1
  clear x1
  refine J.op (Yd.assign rfl) rfl ?_
  refine J.nil ?_
  refine J.n_then ?_
  refine J.seq ?_
  refine J.seq ?_
  refine J.region ?_
  refine J.op (Yd.move rfl) rfl ?_
  refine J.op (Yd.lss rfl rfl) rfl ?_
  refine J.nil ?_
  refine J.n_then ?_
  refine J.know (t := 15) (v' := .bool false) rfl (ff (by omega)) ?_
  refine J.cond_false rfl ?_
  refine J.skip ?_
  refine J.n_then ?_
  refine J.seq ?_
  refine J.region ?_
  refine J.op (Yd.move rfl) rfl ?_
  refine J.op (Yd.nilCheck rfl) rfl ?_
  refine J.op (Yd.cast (Yd.fieldA Try.underlying46 rfl ti44 rfl rfl) (show _ = Value.pointer (some ⟨b, 1, none⟩) from rfl)) rfl ?_
  refine J.op (Yd.load pl44 rfl (Cel.cell1 hc 1 rfl)) rfl ?_
  refine J.op (Yd.move rfl) rfl ?_
  refine J.op (Yd.idxE (K := entS) Try.underlying44 ti79 rfl rfl (hrf _ e0) (by first | omega | exact idx_u8' _ | (simp only [Int.toNat_natCast]; omega) | (simp only [List.length_map, List.length_drop, List.length_take, List.length_append, List.length_replicate]; omega) | (simp <;> omega))) rfl ?_
  refine J.op (Yd.fieldE (K := entS) (hrf _ e0) (by omega) Try.underlying79 rfl ti29 rfl rfl) rfl ?_
  refine J.op (Yd.cast (Yd.loadFd (K := entS) entD pl29 rfl (hrf _ e0) (by first | omega | exact idx_u8' _ | (simp only [Int.toNat_natCast]; omega) | (simp only [List.length_map, List.length_drop, List.length_take, List.length_append, List.length_replicate]; omega) | (simp <;> omega)) rfl) (show _ = (es.getD (k : Int).toNat entD).2.2 from rfl)) rfl ?_
  refine J.op (Yd.assign rfl) rfl ?_
  refine J.nil ?_
  refine J.n_then ?_
  refine J.seq ?_
  have hlt_b := Cel.lt hc
  have hekT := e0.size
  refine J.regionG (Th w1.heap.size) [(0, true), (2, true), (3, true), (4, true), (6, true), (9, true), (10, true), (11, true), (13, true), (14, true)] [(5, 1), (7, 1), (12, 1), (15, 1), (1, 0), (8, 0)] [(16, false), (17, true), (18, true), (19, false)] mix (by kernel_rfl) ?_
  refine J.s_op rfl (fun _ => Yd.move rfl) rfl ?_
  refine J.s_op rfl (fun _ => Yd.move rfl) rfl ?_
  refine J.s_op rfl (fun _ => Yd.nilCheck rfl) rfl ?_
  refine J.s_op rfl (fun _ => Yd.cast (Yd.fieldA Try.underlying46 rfl ti44 rfl rfl) (show _ = Value.pointer (some ⟨b, 1, none⟩) from rfl)) rfl ?_
  refine J.s_op rfl (fun _ => Yd.move rfl) rfl ?_
  refine J.s_op rfl (fun _ => Yd.move rfl) rfl ?_
  refine J.s_op rfl (fun _ => Yd.nilCheck rfl) rfl ?_
  refine J.s_op rfl (fun _ => Yd.cast (Yd.fieldA Try.underlying46 rfl ti44 rfl rfl) (show _ = Value.pointer (some ⟨b, 1, none⟩) from rfl)) rfl ?_
  refine J.s_op rfl (fun _ => Yd.move rfl) rfl ?_
  refine J.s_op rfl (fun _ => Yd.add rfl rfl (by first | omega | exact idx_u8' _ | (simp only [Int.toNat_natCast]; omega) | (simp only [List.length_map, List.length_drop, List.length_take, List.length_append, List.length_replicate]; omega) | (simp <;> omega))) rfl ?_
  refine J.s_nil ?_
  refine J.g_op rfl (fun w1 ht => Yd.load pl44 rfl (Cel.cell1 (Cel.th hc ht hlt_b) 1 rfl)) rfl ?_
  refine J.g_op rfl (fun w1 ht => Yd.slE_H (K := entS) Try.underlying44 ti79 rfl rfl (hrf _ (Tn.th e0 ht hekT)) (by omega)) rfl ?_
  refine J.g_op rfl (fun w1 ht => Yd.load pl44 rfl (Cel.cell1 (Cel.th hc ht hlt_b) 1 rfl)) rfl ?_
  refine J.g_op rfl (fun w1 ht => Yd.slE_L (K := entS) Try.underlying44 ti79 rfl rfl (hrf _ (Tn.th e0 ht hekT)) (by omega)) rfl ?_
  refine J.g_eff rfl (Ye.litE0 (K := entS) (base := w1.heap.size) Try.underlying44 ti79 (Nat.le_refl _)) rfl (fun _ _ h => RelOK.ext h.2) ?_
  rintro s0_ w2 ⟨hs0_, x1⟩
  have hf_s0_ := Es.fr hs0_
  have hk1 := x1.size
  have ap_b_s0_ : Ap (some b) s0_.ownBlock := Ap.mk (Cel.live hc) (Es.fr hs0_)
  have fr_s0_ : Fr w.heap.size s0_.ownBlock := Fr.le (Es.fr hs0_) e0.size
  replace hs0_ := Es.base hs0_ (Nat.zero_le _)
  have e0 := Tn.ext e0 x1
  have hc := hc.ext x1
  clear x1
  refine J.g_eff rfl (Ye.appendE (K := entS) Try.underlying44 ti79 rfl rfl rfl rfl hs0_ ((fun (W_ : World) (e_ : Tn [some b] w W_) => Er.slc (hrf W_ e_) (l := 0) (h := (k : Int).toNat) (Nat.zero_le _) (by omega)) _ e0) (ent_one (one_mem h1)) (by simp only [List.length_append, List.length_singleton, List.length_nil, List.length_take, List.length_drop]; omega) (Nat.zero_le _)) rfl (fun _ _ h => gb_th h.2.1 hf_s0_) ?_
  rintro sA w3 ⟨hsA, hg, hsf⟩
  have hf_sA : Fr w1.heap.size sA.ownBlock := Fr.sf hf_s0_ hsf hk1
  have hg_sA := Nat.le_trans hk1 (Tn.ofGB hg).size
  have ap_b_sA : Ap (some b) sA.ownBlock := Ap.sf ap_b_s0_ (Cel.live hc) hsf
  have fr_sA : Fr w.heap.size sA.ownBlock := Fr.sf fr_s0_ hsf e0.size
  have hc := Cel.gbk hc hg ap_b_s0_
  have e0 := Tn.gbk e0 (.inr fr_s0_) hg
  clear hg hsf
  refine J.g_nil ?_
  refine J.s_eff rfl (Ye.appendE (K := entS) Try.underlying44 ti79 rfl rfl rfl rfl hsA ((fun (W_ : World) (e_ : Tn [some b] w W_) => Er.slc (hrf W_ e_) (l := ((k : Int) + 1).toNat) (h := es.length) (by omega) (Nat.le_refl _)) _ e0) (ent_one (one_mem2 h1)) (by simp only [List.length_append, List.length_singleton, List.length_nil, List.length_take, List.length_drop]; omega) (Nat.zero_le _)) rfl ?_
  rintro sB w4 ⟨hsB, hg, hsf⟩
  have hf_sB : Fr w1.heap.size sB.ownBlock := Fr.sf hf_sA hsf hg_sA
  have hg_sB := Nat.le_trans hg_sA (Tn.ofGB hg).size
  have ap_b_sB : Ap (some b) sB.ownBlock := Ap.sf ap_b_sA (Cel.live hc) hsf
  have fr_sB : Fr w.heap.size sB.ownBlock := Fr.sf fr_sA hsf e0.size
  have hc := Cel.gbk hc hg ap_b_sA
  have e0 := Tn.gbk e0 (.inr fr_sA) hg
  clear hg hsf
  refine J.s_op rfl (fun _ => Yd.nilCheck rfl) rfl ?_
  refine J.s_op rfl (fun _ => Yd.cast (Yd.fieldA Try.underlying46 rfl ti44 rfl rfl) (show _ = Value.pointer (some ⟨b, 1, none⟩) from rfl)) rfl ?_
  refine J.s_eff0 rfl (Ye.store1 ti44 hc 1 rfl rfl rfl rfl (Er.cells (Es.rd hsB)) (Er.one (Es.rd hsB))) ?_
  rintro _ w5 ⟨cX, hu⟩
  simp only [List.set_cons_zero, List.set_cons_succ] at cX
  have hg := hu.gb
  have hsB := Es.gbk hsB hg (Ap.symm ap_b_sB)
  have e0 := Tn.gbk e0 (.inl (by simp)) hg
  clear hg
  replace hc := cX
  clear cX hu
  refine J.s_nil ?_
  refine J.n_np ?_
  refine J.n_then ?_
  refine J.seq ?_
  refine J.region ?_
  refine J.op (Yd.move rfl) rfl ?_
  refine J.op (Yd.assign rfl) rfl ?_
  refine J.op (Yd.assign rfl) rfl ?_
  refine J.nil ?_
  refine J.n_then ?_
  refine J.ret ?_
  exact J.ret2 rfl rfl rfl (⟨_, rfl, sB, rfl, hc, (by have h9 := Es.rd hsB; rw [Int.toNat_natCast, List.take_length] at h9; exact h9), Es.live hsB, fr_sB, e0⟩)

theorem RForget_ok {b : Nat} {n m1 : Int} {s : Value} {es : List Ent} {w : World} (hc : Cel w b 46 [(0, 1, [I n]), (1, 1, [s])]) (hr : Er entS w s es) (hap : Ap (some b) s.ownBlock) (h1 : ∀ x ∈ es, x.2.2.oneCell' = true) (hn2 : es.length ≤ 1000) : C Try.prog 43 [.pointer (some ⟨b, 0, none⟩), I m1] w (Ret fun u w' => ∃ s', u = I ((es.length : Int) - ((es.filter fun x => !ltE m1 x).length : Int)) ∧ Cel w' b 46 [(0, 1, [I n]), (1, 1, [s'])] ∧ Er entS w' s' (es.filter fun x => !ltE m1 x) ∧ Live w' s'.ownBlock ∧ Fr w.heap.size s'.ownBlock ∧ Tn [some b] w w') := by
  have hrf := fun (W_ : World) (e_ : Tn [some b] w W_) => Er.tnk hr e_ (ApL.one (Ap.symm hap))
  have hmx := Er.max hr
  have e0 := Tn.refl [(some b)] w
  refine C.enter Try.func43 rfl Try.ntmps43 rfl ?_
  refine J.seq ?_
  refine J.region ?_
  refine J.op (Yd.assign rfl) rfl ?_
  refine J.nil ?_
  refine J.n_then ?_
  refine J.seq ?_
  refine J.region ?_
  refine J.op (Yd.assign rfl) rfl ?_
  refine J.nil ?_
  refine J.n_then ?_
  refine J.seq ?_
  refine J.seq ?_
  refine J.region ?_
  refine J.op (Yd.assign rfl) rfl ?_
  refine J.nil ?_
  refine J.n_then ?_
  refine J.block ?_
  refine J.loop (ι := Nat × Value) (fun i => [(1, I m1), (6, I (i.1 : Int)), (0, .pointer (some ⟨b, 0, none⟩)), (5, i.2)]) (fun i w' => i.1 ≤ es.length ∧ Cel w' b 46 [(0, 1, [I n]), (1, 1, [s])] ∧ Es entS 0 79 w' i.2 ((es.take i.1).filter fun x => !ltE m1 x) ∧ Fr w.heap.size (i.2).ownBlock ∧ Ap (some b) (i.2).ownBlock ∧ Tn [(some b)] w w') (fun i => es.length - i.1) ((0, nilS)) ⟨rfl, rfl, rfl, rfl, trivial⟩ (⟨Nat.zero_le _, hc, (Es.nil _ _ _ _), Fr.nil, Ap.nil_r, e0⟩) ?_
  rintro ⟨i, v5⟩ w1 ⟨hk, hc, ho5, fr_v5, ap_b_v5, e0⟩
  dsimp only at *
  have hl9 := List.length_filter_le (fun x => !ltE m1 x) (es.take i)
  rw [List.length_take] at hl9
  refine J.seq ?_
  refine J.seq ?_
  refine J.region ?_
  refine J.op (Yd.move rfl) rfl ?_
  refine J.op (Yd.move rfl) rfl ?_
  refine J.op (Yd.nilCheck rfl) rfl ?_
  refine J.op (Yd.cast (Yd.fieldA Try.underlying46 rfl ti44 rfl rfl) (show _ = Value.pointer (some ⟨b, 1, none⟩) from rfl)) rfl ?_
  refine J.op (Yd.load pl44 rfl (Cel.cell1 hc 1 rfl)) rfl ?_
  refine J.op (Yd.lenE (K := entS) Try.underlying44 rfl (hrf _ e0)) rfl ?_
  refine J.op (Yd.lss rfl rfl) rfl ?_
  refine J.nil ?_
  refine J.n_then ?_
  refine J.cond_dec rfl (fun hc0 => ?_) (fun hc0 => ?_)
  · skip
    refine J.skip ?_
    refine J.n_then ?_
    refine J.seq ?_
    refine J.block ?_
    refine J.seq ?_
    refine J.region ?_
    refine J.op (Yd.move rfl) rfl ?_
    refine J.op (Yd.nilCheck rfl) rfl ?_
    refine J.op (Yd.cast (Yd.fieldA Try.underlying46 rfl ti44 rfl rfl) (show _ = Value.pointer (some ⟨b, 1, none⟩) from rfl)) rfl ?_
    refine J.op (Yd.load pl44 rfl (Cel.cell1 hc 1 rfl)) rfl ?_
    refine J.op (Yd.move rfl) rfl ?_
    refine J.op (Yd.idxE (K := entS) Try.underlying44 ti79 rfl rfl (hrf _ e0) (by first | omega | exact idx_u8' _ | (simp only [Int.toNat_natCast]; omega) | (simp only [List.length_map, List.length_drop, List.length_take, List.length_append, List.length_replicate]; omega) | (simp <;> omega))) rfl ?_
    refine J.op (Yd.fieldE (K := entS) (hrf _ e0) (by omega) Try.underlying79 rfl ti3 rfl rfl) rfl ?_
    refine J.op (Yd.cast (Yd.loadFd (K := entS) entD pl3 rfl (hrf _ e0) (by first | omega | exact idx_u8' _ | (simp only [Int.toNat_natCast]; omega) | (simp only [List.length_map, List.length_drop, List.length_take, List.length_append, List.length_replicate]; omega) | (simp <;> omega)) rfl) (show _ = I (es.getD (i : Int).toNat entD).1 from rfl)) rfl ?_
    refine J.op (Yd.move rfl) rfl ?_
    refine J.op (Yd.geq rfl rfl) rfl ?_
    refine J.nil ?_
    refine J.n_then ?_
    refine J.cond_dec rfl (fun hcx => ?_) (fun hcx => ?_)
    · skip
      rw [Int.toNat_natCast] at hcx
      refine J.region ?_
      refine J.op (Yd.move rfl) rfl ?_
      refine J.op (Yd.move rfl) rfl ?_
      refine J.op (Yd.nilCheck rfl) rfl ?_
      refine J.op (Yd.cast (Yd.fieldA Try.underlying46 rfl ti44 rfl rfl) (show _ = Value.pointer (some ⟨b, 1, none⟩) from rfl)) rfl ?_
      refine J.op (Yd.load pl44 rfl (Cel.cell1 hc 1 rfl)) rfl ?_
      refine J.op (Yd.move rfl) rfl ?_
      refine J.op (Yd.idxE (K := entS) Try.underlying44 ti79 rfl rfl (hrf _ e0) (by first | omega | exact idx_u8' _ | (simp only [Int.toNat_natCast]; omega) | (simp only [List.length_map, List.length_drop, List.length_take, List.length_append, List.length_replicate]; omega) | (simp <;> omega))) rfl ?_
      refine J.op (Yd.cast (Yd.loadEd (K := entS) entD ag79 ti79 rfl (hrf _ e0) (by first | omega | exact idx_u8' _ | (simp only [Int.toNat_natCast]; omega) | (simp only [List.length_map, List.length_drop, List.length_take, List.length_append, List.length_replicate]; omega) | (simp <;> omega))) (show _ = Value.agg (entS.c (es.getD i entD)).toArray by rw [Int.toNat_natCast])) rfl ?_
      refine J.eff (Ye.litE1 (K := entS) (u := (es.getD i entD)) (base := w1.heap.size) Try.underlying44 ti79 rfl rfl rfl (Nat.le_refl _)) rfl ?_
      rintro sl w2 ⟨hsl, x1⟩
      have ap_b_sl : Ap (some b) sl.ownBlock := Ap.mk (Cel.live hc) (Es.fr hsl)
      have ap_v5_sl : Ap v5.ownBlock sl.ownBlock := Ap.mk (Es.live ho5) (Es.fr hsl)
      have fr_sl : Fr w.heap.size sl.ownBlock := Fr.le (Es.fr hsl) e0.size
      replace hsl := Es.base hsl (Nat.zero_le _)
      have e0 := Tn.ext e0 x1
      have hc := hc.ext x1
      have ho5 := ho5.ext x1
      clear x1
      refine J.eff (Ye.appendE (K := entS) Try.underlying44 ti79 rfl rfl rfl rfl ho5 (Es.rd hsl) (ent_one (fun x hx => by rw [List.mem_singleton] at hx; subst hx; exact h1 _ (getD_memE entD (by omega)))) (by have hl9 := List.length_filter_le (fun x => !ltE m1 x) (es.take i); rw [List.length_take] at hl9; simp only [List.length_singleton]; omega) (Nat.zero_le _)) rfl ?_
      rintro sB w3 ⟨hsB, hg, hsf⟩
      have ap_b_sB : Ap (some b) sB.ownBlock := Ap.sf ap_b_v5 (Cel.live hc) hsf
      have ap_sl_sB : Ap sl.ownBlock sB.ownBlock := Ap.sf (Ap.symm ap_v5_sl) (Es.live hsl) hsf
      have fr_sB : Fr w.heap.size sB.ownBlock := Fr.sf fr_v5 hsf e0.size
      have hc := Cel.gbk hc hg ap_b_v5
      have e0 := Tn.gbk e0 (.inr fr_v5) hg
      clear hg hsf
      refine J.op (Yd.assign rfl) rfl ?_
      refine J.nil ?_
      refine J.n_block ?_
      refine J.n_then ?_
      refine J.region ?_
      refine J.op (Yd.move rfl) rfl ?_
      refine J.op (Yd.add rfl rfl (by first | omega | exact idx_u8' _ | (simp only [Int.toNat_natCast]; omega) | (simp only [List.length_map, List.length_drop, List.length_take, List.length_append, List.length_replicate]; omega) | (simp <;> omega))) rfl ?_
      refine J.op (Yd.assign rfl) rfl ?_
      refine J.nil ?_
      refine J.n_then ?_
      exact J.round ((i + 1, sB)) ⟨rfl, rfl, rfl, rfl, trivial⟩ (⟨by show i + 1 ≤ es.length; omega, hc, (by rw [flt_take (by omega), ltE_ge hcx]; exact hsB), fr_sB, ap_b_sB, e0⟩) (by show es.length - (i + 1) < es.length - i; omega)
    · skip
      rw [Int.toNat_natCast] at hcx
      refine J.skip ?_
      refine J.n_block ?_
      refine J.n_then ?_
      refine J.region ?_
      refine J.op (Yd.move rfl) rfl ?_
      refine J.op (Yd.add rfl rfl (by first | omega | exact idx_u8' _ | (simp only [Int.toNat_natCast]; omega) | (simp only [List.length_map, List.length_drop, List.length_take, List.length_append, List.length_replicate]; omega) | (simp <;> omega))) rfl ?_
      refine J.op (Yd.assign rfl) rfl ?_
      refine J.nil ?_
      refine J.n_then ?_
      exact J.round ((i + 1, v5)) ⟨rfl, rfl, rfl, rfl, trivial⟩ (⟨by show i + 1 ≤ es.length; omega, hc, (by rw [flt_take (by omega), ltE_lt hcx, if_pos rfl, List.append_nil]; exact ho5), fr_v5, ap_b_v5, e0⟩) (by show es.length - (i + 1) < es.length - i; omega)
  · skip
    refine J.exit ?_
    refine J.x_then ?_
    refine J.x_then ?_
    refine J.x_block ?_
    refine J.n_then ?_
    refine J.seq ?_
    refine J.region ?_
    refine J.op (Yd.move rfl) rfl ?_
    refine J.op (Yd.nilCheck rfl) rfl ?_
    refine J.op (Yd.cast (Yd.fieldA Try.underlying46 rfl ti44 rfl rfl) (show _ = Value.pointer (some ⟨b, 1, none⟩) from rfl)) rfl ?_
    refine J.op (Yd.load pl44 rfl (Cel.cell1 hc 1 rfl)) rfl ?_
    refine J.op (Yd.cast (Yd.lenE (K := entS) Try.underlying44 rfl (hrf _ e0)) (rfl)) rfl ?_
    refine J.op (Yd.move rfl) rfl ?_
    refine J.op (Yd.lenE (K := entS) Try.underlying44 rfl (Es.rd ho5)) rfl ?_
    refine J.op (Yd.sub rfl rfl (by first | omega | exact idx_u8' _ | (simp only [Int.toNat_natCast]; omega) | (simp only [List.length_map, List.length_drop, List.length_take, List.length_append, List.length_replicate]; omega) | (simp <;> omega))) rfl ?_
    refine J.op (Yd.assign rfl) rfl ?_
    refine J.nil ?_
    refine J.n_then ?_
    refine J.seq ?_
    refine J.region ?_
    refine J.op (Yd.move rfl) rfl ?_
    refine J.op (Yd.move rfl) rfl ?_
    refine J.op (Yd.nilCheck rfl) rfl ?_
    refine J.op (Yd.cast (Yd.fieldA Try.underlying46 rfl ti44 rfl rfl) (show _ = Value.pointer (some ⟨b, 1, none⟩) from rfl)) rfl ?_
    refine J.eff0 (Ye.store1 ti44 hc 1 rfl rfl rfl rfl (Er.cells (Es.rd ho5)) (Er.one (Es.rd ho5))) ?_
    rintro _ w4 ⟨cX, hu⟩
    simp only [List.set_cons_zero, List.set_cons_succ] at cX
    have hg := hu.gb
    have ho5 := Es.gbk ho5 hg (Ap.symm ap_b_v5)
    have e0 := Tn.gbk e0 (.inl (by simp)) hg
    clear hg
    replace hc := cX
    clear cX hu
    refine J.nil ?_
    refine J.n_then ?_
    refine J.seq ?_
    refine J.region ?_
    refine J.op (Yd.move rfl) rfl ?_
    refine J.op (Yd.assign rfl) rfl ?_
    refine J.nil ?_
    refine J.n_then ?_
    refine J.ret ?_
    exact J.ret1 rfl rfl (⟨_, rfl, v5, (by rw [List.take_of_length_le (by omega)]), hc, (by have h9 := Es.rd ho5; rw [List.take_of_length_le (by omega)] at h9; exact h9), Es.live ho5, fr_v5, e0⟩)
end Ytfefphcmfhabiaa
end Go.Proofs
