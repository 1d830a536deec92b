import Derived.Test.YtikggonjagoiaaaT
import Derived.Test.YtikggonjagoiaaaH2
set_option linter.unusedVariables false
set_option linter.unusedSimpArgs false
set_option maxRecDepth 100000
set_option maxHeartbeats 4000000
namespace Go.Proofs
open Go.X Go.RowKit
namespace Ytikggonjagoiaaa
theorem Skip_nat {b n : Nat} {s : Value} {key : List UInt8} {w : World} (hc : Cel w b 53 (chS s n)) (hs : Bs w s key) (hk : key.length = 32) {q : Nat} (hn : Ap (some b) s.ownBlock) (hn1 : n ≤ 900000) (hq : n ≤ q) (hq2 : q ≤ n + 40) : C Try.prog 11 [.pointer (some ⟨b, 0, none⟩), I (q : Int)] w (Ret fun u w' => ∃ out vs s', u = .tuple #[out, I 0] ∧ Rw w.heap.size 22 5 w' out vs (chR key 0 (q - n)) ∧ Cel w' b 53 (chS s' q) ∧ Bs w' s' (chK key (q - n)) ∧ SF w s.ownBlock s'.ownBlock ∧ Tn [some b] w w') := by
  unfold chS at hc
  have lo_b : Lo w.heap.size (some b) := Cel.live (show Cel w b _ [(0, 1, [s]), (1, 1, [I (n : Int)])] from hc)
  have hm0 : mayK (n : Int) (q : Int) = 0 := mayK_ok (by omega) (by omega)
  have e0 := Tn.refl [(some b)] w
  refine C.enter Try.func11 rfl Try.ntmps11 rfl ?_
  refine J.seq ?_
  refine J.region ?_
  refine J.op (Yd.assign rfl) rfl ?_
  refine J.op (Yd.assign rfl) rfl ?_
  refine J.nil ?_
  refine J.n_then ?_
  refine J.seq ?_
  refine J.seq ?_
  refine J.region ?_
  refine J.op (Yd.move rfl) rfl ?_
  refine J.op (Yd.move rfl) rfl ?_
  refine J.eff (Ye.call cl24 rfl (May_ok (show Cel _ _ _ (chS _ _) from hc) hs (by first | assumption | exact macL_len _ _ | exact chK_len _ (by first | assumption | omega | exact chK_len _ (by assumption) _) _ | omega | (simp; done)) (by omega))) rfl ?_
  rintro _ w1 ⟨rfl, x1⟩
  have e0 := Tn.ext e0 x1
  have hs := hs.ext x1
  have hc := hc.ext x1
  clear x1
  refine J.op (Yd.assign rfl) rfl ?_
  refine J.nil ?_
  refine J.n_then ?_
  refine J.seq ?_
  refine J.region ?_
  refine J.op (Yd.move rfl) rfl ?_
  refine J.op (Yd.neq rfl rfl) rfl ?_
  refine J.nil ?_
  refine J.n_then ?_
  refine J.know (t := 11) (v' := .bool false) rfl (ff (by exact fun e => e hm0)) ?_
  refine J.cond_false rfl ?_
  refine J.skip ?_
  refine J.n_then ?_
  refine J.seq ?_
  refine J.block ?_
  refine J.loop (ι := Nat × Value × List Value × Value) (fun i => [(1, I (q : Int)), (0, .pointer (some ⟨b, 0, none⟩)), (4, i.2.1)]) (fun i w' => i.1 ≤ q - n ∧ SF w s.ownBlock i.2.2.2.ownBlock ∧ Cel w' b 53 (chS i.2.2.2 (n + i.1)) ∧ Bs w' i.2.2.2 (chK key i.1) ∧ Rw w.heap.size 22 5 w' i.2.1 i.2.2.1 (chR key 0 i.1) ∧ Ap (some b) (i.2.2.2).ownBlock ∧ Fr w.heap.size (i.2.1).ownBlock ∧ Ap (some b) (i.2.1).ownBlock ∧ Ap (i.2.2.2).ownBlock (i.2.1).ownBlock ∧ Tn [(some b)] w w') (fun i => (q - n) - i.1) ((0, nilS, [], s)) ⟨rfl, rfl, rfl, trivial⟩ (⟨Nat.zero_le _, fun k h => .inl h, (show Cel _ _ _ (chS _ _) from hc), hs, Rw.nil _ _ _ _, hn, Fr.nil, Ap.nil_r, Ap.nil_r, e0⟩) ?_
  rintro ⟨k, v4, vs, s1⟩ w2 ⟨hk2, hsf, hc, hs1, ho4, ap_b_s1, fr_v4, ap_b_v4, ap_s1_v4, e0⟩
  dsimp only at *
  have hvl := ho4.len
  rw [chR_len] at hvl
  unfold chS at hc
  refine J.seq ?_
  refine J.seq ?_
  refine J.region ?_
  refine J.op (Yd.move rfl) rfl ?_
  refine J.op (Yd.nilCheck rfl) rfl ?_
  refine J.op (Yd.cast (Yd.fieldA Try.underlying53 rfl ti3 rfl rfl) (show _ = Value.pointer (some ⟨b, 1, none⟩) from rfl)) rfl ?_
  refine J.op (Yd.load pl3 rfl (Cel.cell1 hc 1 rfl)) rfl ?_
  refine J.op (Yd.move rfl) rfl ?_
  refine J.op (Yd.lss rfl rfl) rfl ?_
  refine J.nil ?_
  refine J.n_then ?_
  refine J.cond_dec rfl (fun hc1 => ?_) (fun hc1 => ?_)
  · skip
    refine J.skip ?_
    refine J.n_then ?_
    refine J.block ?_
    refine J.region ?_
    refine J.op (Yd.move rfl) rfl ?_
    refine J.op (Yd.move rfl) rfl ?_
    refine J.eff (Ye.call cl13 rfl (Next_ok (show Cel _ _ _ (chS _ _) from hc) hs1 (by first | assumption | exact macL_len _ _ | exact chK_len _ (by first | assumption | omega | exact chK_len _ (by assumption) _) _ | omega | (simp; done)) ap_b_s1 (by first | omega | (simp only [Int.toNat_natCast]; omega)))) rfl ?_
    rintro v21_3 w3 ⟨s21_3, ov21_3, cX2, os21_3, x1⟩
    have ap_b_v21_3 : Ap (some b) v21_3.ownBlock := Ap.mk (Cel.live hc) (Ow.fr ov21_3)
    have ap_v4_v21_3 : Ap v4.ownBlock v21_3.ownBlock := Ap.mk (Rw.live ho4) (Ow.fr ov21_3)
    have fr_v21_3 : Fr w.heap.size v21_3.ownBlock := Fr.le (Ow.fr ov21_3) e0.size
    have ap_b_s21_3 : Ap (some b) s21_3.ownBlock := Ap.mk (Cel.live hc) (Ow.fr os21_3)
    have ap_v4_s21_3 : Ap v4.ownBlock s21_3.ownBlock := Ap.mk (Rw.live ho4) (Ow.fr os21_3)
    have fr_s21_3 : Fr w.heap.size s21_3.ownBlock := Fr.le (Ow.fr os21_3) e0.size
    replace ov21_3 := Ow.base ov21_3 e0.size
    replace os21_3 := Ow.base os21_3 e0.size
    have hs1 := Rd.tnk hs1 x1 (ApL.one (Ap.symm ap_b_s1))
    have ho4 := Rw.tnk ho4 x1 (LoL.one lo_b)
    have e0 := Tn.tnk e0 (fun q hq => by simp only [List.mem_singleton] at hq; subst hq; exact .inl (by simp)) x1
    clear x1
    replace hc := cX2
    clear cX2
    refine J.eff (Ye.litS1 Try.underlying30 ti22 rfl rfl (Ow.rd ov21_3)) rfl ?_
    rintro s22_4 w4 ⟨o22_4, x1⟩
    have e0 := Tn.ext e0 x1
    have hc := hc.ext x1
    have hs1 := hs1.ext x1
    have ho4 := ho4.ext x1
    have ov21_3 := ov21_3.ext x1
    have os21_3 := os21_3.ext x1
    clear x1
    refine J.eff (Ye.appendR Try.underlying30 ti22 rfl rfl rfl rfl (Rw.row ho4) (Rl.rd o22_4) (by intro v_ hv_; simp only [List.mem_singleton] at hv_; subst hv_; exact Rd.one (Ow.rd ov21_3)) (by simp only [List.length_cons, List.length_nil]; omega) e0.size) rfl ?_
    rintro s23_5 w5 ⟨o23_5, hg, hsf⟩
    have o23_5 := Rw.push ho4 ov21_3 (Ap.symm ap_v4_v21_3) hg hsf o23_5
    have ap_b_s23_5 : Ap (some b) s23_5.ownBlock := Ap.sf ap_b_v4 (Cel.live hc) hsf
    have ap_v21_3_s23_5 : Ap v21_3.ownBlock s23_5.ownBlock := Ap.sf (Ap.symm ap_v4_v21_3) (Ow.live ov21_3) hsf
    have ap_s21_3_s23_5 : Ap s21_3.ownBlock s23_5.ownBlock := Ap.sf (Ap.symm ap_v4_s21_3) (Ow.live os21_3) hsf
    have fr_s23_5 : Fr w.heap.size s23_5.ownBlock := Fr.sf fr_v4 hsf e0.size
    have hc := Cel.gbk hc hg ap_b_v4
    have hs1 := Rd.gbk hs1 hg ap_s1_v4
    have os21_3 := Ow.gbk os21_3 hg (Ap.symm ap_v4_s21_3)
    have e0 := Tn.gbk e0 (.inr fr_v4) hg
    clear hg hsf
    refine J.op (Yd.assign rfl) rfl ?_
    refine J.nil ?_
    refine J.n_block ?_
    refine J.n_then ?_
    exact J.round ((k + 1, s23_5, vs ++ [v21_3], s21_3)) ⟨rfl, rfl, rfl, trivial⟩ (⟨by show k + 1 ≤ q - n; omega, fun k h => .inr (fr_s21_3 k h), (show Cel _ _ _ (chS _ (n + (k + 1))) from hc), (Ow.rd os21_3), (show Rw _ _ _ _ _ (vs ++ [_]) (chR key 0 (k + 1)) from by rw [chR_succ, Nat.zero_add]; exact o23_5), ap_b_s21_3, fr_s23_5, ap_b_s23_5, ap_s21_3_s23_5, e0⟩) (by show (q - n) - (k + 1) < (q - n) - k; omega)
  · skip
    refine J.exit ?_
    refine J.x_then ?_
    refine J.x_then ?_
    refine J.x_block ?_
    refine J.n_then ?_
    refine J.seq ?_
    refine J.region ?_
    refine J.op (Yd.move rfl) rfl ?_
    refine J.op (Yd.assign rfl) rfl ?_
    refine J.op (Yd.assign rfl) rfl ?_
    refine J.nil ?_
    refine J.n_then ?_
    refine J.ret ?_
    exact J.ret2 rfl rfl rfl (⟨_, rfl, _, _, _, rfl, (show Rw _ _ _ _ _ _ (chR key 0 (q - n)) from by rw [show q - n = k by omega]; exact ho4), (show Cel _ _ _ (chS s1 q) from by rw [show q = n + k by omega]; exact hc), (show Bs _ _ (chK key (q - n)) from by rw [show q - n = k by omega]; exact hs1), hsf, e0⟩)
end Ytikggonjagoiaaa
end Go.Proofs
