import Derived.Test.YtfefphcmfhabiaaT
import Derived.Test.YtfefphcmfhabiaaQw
import Derived.Test.YtfefphcmfhabiaaJ10
set_option linter.unusedVariables false
set_option linter.unusedSimpArgs false
set_option maxRecDepth 100000
set_option maxHeartbeats 4000000
namespace Go.Proofs
open Go.X Go.RowKit
namespace Ytfefphcmfhabiaa
theorem WFixed_raw {b : Nat} {s a : Value} {l m : List UInt8} {w : World} (hc : Cel w b 66 [(0, 1, [s])]) (ho : Ob 0 5 w s l) (hap : Ap (some b) s.ownBlock) (ha : Bs w a m) (hm : l.length + m.length ≤ 1000000000) : C Try.prog 30 [.pointer (some ⟨b, 0, none⟩), a] w (Ret fun u w' => u = .pointer (some ⟨b, 0, none⟩) ∧ ∃ s', Cel w' b 66 [(0, 1, [s'])] ∧ Ob 0 5 w' s' (l ++ m) ∧ SF w s.ownBlock s'.ownBlock ∧ Ap (some b) s'.ownBlock ∧ Tn [some b, s.ownBlock] w w') := by
  have e0 := Tn.refl [(some b), s.ownBlock] w
  refine C.enter Try.func30 rfl Try.ntmps30 rfl ?_
  refine J.seq ?_
  refine J.region ?_
  refine J.op (Yd.assign rfl) rfl ?_
  refine J.nil ?_
  refine J.n_then ?_
  refine J.seq ?_
  refine J.seq ?_
  refine J.region ?_
  refine J.op (Yd.move rfl) rfl ?_
  refine J.op (Yd.cast (Yd.nePn Try.underlying64 rfl rfl) (show _ = Value.bool true from rfl)) rfl ?_
  refine J.nil ?_
  refine J.n_then ?_
  refine J.cond_true rfl ?_
  refine J.region ?_
  refine J.op (Yd.move rfl) rfl ?_
  refine J.op (Yd.move rfl) rfl ?_
  refine J.op (Yd.nilCheck rfl) rfl ?_
  refine J.op (Yd.cast (Yd.fieldA Try.underlying66 rfl ti29 rfl rfl) (show _ = Value.pointer (some ⟨b, 0, none⟩) from rfl)) rfl ?_
  refine J.op (Yd.load pl29 rfl (Cel.cell1 hc 0 rfl)) rfl ?_
  refine J.op (Yd.move rfl) rfl ?_
  refine J.eff (Ye.appendS Try.underlying29 ti5 rfl rfl rfl rfl ho ha (fun _ => rfl) (by first | omega | (simp only [List.length_map]; omega)) (Nat.zero_le _)) rfl ?_
  rintro s13_1 w1 ⟨o13_1, hg, hsf⟩
  have hsf_s13_1 : SF w s.ownBlock s13_1.ownBlock := SF.le hsf e0.size
  have ap_b_s13_1 : Ap (some b) s13_1.ownBlock := Ap.sf hap (Cel.live hc) hsf
  have hc := Cel.gbk hc hg hap
  have e0 := Tn.gbk e0 (.inl (by simp)) hg
  clear hg hsf
  refine J.op (Yd.nilCheck rfl) rfl ?_
  refine J.op (Yd.cast (Yd.fieldA Try.underlying66 rfl ti29 rfl rfl) (show _ = Value.pointer (some ⟨b, 0, none⟩) from rfl)) rfl ?_
  refine J.eff0 (Ye.store1 ti29 hc 0 rfl rfl rfl rfl (Rd.cells (Ow.rd o13_1)) (Rd.one (Ow.rd o13_1))) ?_
  rintro _ w2 ⟨cX, hu⟩
  simp only [List.set_cons_zero, List.set_cons_succ] at cX
  have hg := hu.gb
  have o13_1 := Ow.gbk o13_1 hg (Ap.symm ap_b_s13_1)
  have e0 := Tn.gbk e0 (.inl (by simp)) hg
  clear hg
  replace hc := cX
  clear cX hu
  refine J.nil ?_
  refine J.n_then ?_
  refine J.seq ?_
  refine J.region ?_
  refine J.op (Yd.move rfl) rfl ?_
  refine J.op (Yd.assign rfl) rfl ?_
  refine J.nil ?_
  refine J.n_then ?_
  refine J.ret ?_
  exact J.ret1 rfl rfl (⟨_, rfl, rfl, s13_1, hc, o13_1, hsf_s13_1, ap_b_s13_1, e0⟩)

theorem WFixed_ok {base : Nat → Prop} {b : Nat} {l : List UInt8} {w : World} {a : Value} {m : List UInt8} (hw : Wr 66 5 base w b l) (hbw : Hb base w) (ha : Bs w a m) (hm : l.length + m.length ≤ 1000000000) : C Try.prog 30 [.pointer (some ⟨b, 0, none⟩), a] w (Ret fun u w' => u = .pointer (some ⟨b, 0, none⟩) ∧ Wr 66 5 base w' b (l ++ m) ∧ Thb base b w w') := by
  obtain ⟨s, h2, h3, h4, h5⟩ := hw
  refine (WFixed_raw h2 h3 h5 ha hm).ret fun u w' h => ?_
  obtain ⟨rfl, s', g1, g2, g3, g4, g5⟩ := h
  exact ⟨rfl, ⟨s', g1, g2, Kf.sf h4 g3 hbw, g4⟩, Thb.two h4 g5⟩

theorem WNum_ok {base : Nat → Prop} {b : Nat} {l : List UInt8} {w : World} {n : UInt64} (hw : Wr 66 5 base w b l) (hbw : Hb base w) (hl : l.length ≤ 900000000) : C Try.prog 29 [.pointer (some ⟨b, 0, none⟩), W64 n] w (Ret fun u w' => u = .pointer (some ⟨b, 0, none⟩) ∧ Wr 66 5 base w' b (l ++ putN n) ∧ Thb base b w w') := by
  have e0 := Thb.refl base b w
  refine C.enter Try.func29 rfl Try.ntmps29 rfl ?_
  refine J.seq ?_
  refine J.region ?_
  refine J.op (Yd.assign rfl) rfl ?_
  refine J.nil ?_
  refine J.n_then ?_
  refine J.seq ?_
  refine J.block ?_
  refine J.loop (ι := UInt64 × List UInt8) (fun i => [(1, W64 i.1), (0, .pointer (some ⟨b, 0, none⟩))]) (fun i w' => i.2 ++ putN i.1 = l ++ putN n ∧ Wr 66 5 base w' b i.2 ∧ Hb base w' ∧ Thb base b w w') (fun i => i.1.toNat) ((n, l)) ⟨rfl, rfl, trivial⟩ (⟨rfl, hw, hbw, e0⟩) ?_
  rintro ⟨q, z⟩ w1 ⟨heq, hw, hbw, e0⟩
  dsimp only at *
  have hln := congrArg List.length heq
  rw [List.length_append, List.length_append] at hln
  have h10 := putN_len n
  have h11 := putN_pos q
  refine J.seq ?_
  refine J.seq ?_
  refine J.region ?_
  refine J.op (Yd.move rfl) rfl ?_
  refine J.op (Yd.geq rfl rfl) rfl ?_
  refine J.nil ?_
  refine J.n_then ?_
  refine J.cond_dec rfl (fun hc0 => ?_) (fun hc0 => ?_)
  · skip
    refine J.skip ?_
    refine J.n_then ?_
    refine J.seq ?_
    refine J.block ?_
    refine J.region ?_
    refine J.op (Yd.move rfl) rfl ?_
    refine J.op (Yd.move rfl) rfl ?_
    refine J.op (Yd.cv_64_8 Try.underlying68 Try.underlying5 rfl) rfl ?_
    refine J.op (Yd.or_u8 (n := 128) rfl rfl) rfl ?_
    refine J.eff (Ye.lit1 (base := w1.heap.size) (f := (fun x : UInt8 => B x)) Try.underlying29 ti5 rfl rfl (fun _ => rfl) (Nat.le_refl _)) rfl ?_
    rintro s13_2 w2 ⟨o13_2, x1⟩
    have fr_s13_2 : Fr w.heap.size s13_2.ownBlock := Fr.le (Ow.fr o13_2) e0.size
    replace o13_2 := Ow.base o13_2 e0.size
    have hbw := Hb.le hbw x1.size
    have e0 := Thb.ext e0 x1
    have hw := hw.ext x1
    clear x1
    refine J.eff (Ye.call cl30 rfl (WFixed_ok hw hbw (Ow.rd o13_2) (by simp only [List.length_singleton]; omega))) rfl ?_
    rintro _ w3 ⟨rfl, hw2, x1⟩
    have e0 := Thb.trans e0 x1
    have hbw := Hb.le hbw x1.size
    replace hw := hw2
    clear hw2 x1
    refine J.nil ?_
    refine J.n_block ?_
    refine J.n_then ?_
    refine J.region ?_
    refine J.op (Yd.move rfl) rfl ?_
    refine J.op (Yd.shr_u64 rfl rfl (by first | omega | exact idx_u8' _ | (simp only [Int.toNat_natCast]; omega) | (simp only [List.length_map, List.length_drop, List.length_take, List.length_append, List.length_replicate]; omega) | (simp <;> omega))) rfl ?_
    refine J.op (Yd.assign rfl) rfl ?_
    refine J.nil ?_
    refine J.n_then ?_
    exact J.round ((shr_u64 q 7, z ++ [q.toUInt8 ||| 128])) ⟨rfl, rfl, trivial⟩ (⟨(by rw [List.append_assoc, List.singleton_append, ← putN_more hc0]; exact heq), hw, hbw, e0⟩) (by show (shr_u64 q 7).toNat < q.toNat; rw [shr7_nat]; omega)
  · skip
    refine J.exit ?_
    refine J.x_then ?_
    refine J.x_then ?_
    refine J.x_block ?_
    refine J.n_then ?_
    refine J.seq ?_
    refine J.region ?_
    refine J.op (Yd.move rfl) rfl ?_
    refine J.op (Yd.move rfl) rfl ?_
    refine J.op (Yd.cv_64_8 Try.underlying68 Try.underlying5 rfl) rfl ?_
    refine J.eff (Ye.lit1 (base := w1.heap.size) (f := (fun x : UInt8 => B x)) Try.underlying29 ti5 rfl rfl (fun _ => rfl) (Nat.le_refl _)) rfl ?_
    rintro s18_4 w4 ⟨o18_4, x1⟩
    have fr_s18_4 : Fr w.heap.size s18_4.ownBlock := Fr.le (Ow.fr o18_4) e0.size
    replace o18_4 := Ow.base o18_4 e0.size
    have hbw := Hb.le hbw x1.size
    have e0 := Thb.ext e0 x1
    have hw := hw.ext x1
    clear x1
    refine J.eff (Ye.call cl30 rfl (WFixed_ok hw hbw (Ow.rd o18_4) (by simp only [List.length_singleton]; omega))) rfl ?_
    rintro _ w5 ⟨rfl, hw2, x1⟩
    have e0 := Thb.trans e0 x1
    have hbw := Hb.le hbw x1.size
    replace hw := hw2
    clear hw2 x1
    refine J.op (Yd.assign rfl) rfl ?_
    refine J.nil ?_
    refine J.n_then ?_
    refine J.ret ?_
    exact J.ret1 rfl rfl (⟨_, rfl, rfl, (by rw [← heq, putN_last hc0]; exact hw), e0⟩)

theorem WDone_raw {b : Nat} {s : Value} {l : List UInt8} {w : World} (hc : Cel w b 66 [(0, 1, [s])]) (hs : Bs w s l) (hl : l.length ≤ 1000000000) : C Try.prog 31 [.pointer (some ⟨b, 0, none⟩)] w (Ret fun v w' => Ob w.heap.size 5 w' v l ∧ Ext w w') := by
  have e0 := Ext.refl w
  refine C.enter Try.func31 rfl Try.ntmps31 rfl ?_
  refine J.seq ?_
  refine J.region ?_
  refine J.op (Yd.assign rfl) rfl ?_
  refine J.nil ?_
  refine J.n_then ?_
  refine J.seq ?_
  refine J.seq ?_
  refine J.region ?_
  refine J.op (Yd.move rfl) rfl ?_
  refine J.op (Yd.cast (Yd.eqPn Try.underlying64 rfl rfl) (show _ = Value.bool false from rfl)) rfl ?_
  refine J.nil ?_
  refine J.n_then ?_
  refine J.cond_false rfl ?_
  refine J.skip ?_
  refine J.n_then ?_
  refine J.seq ?_
  refine J.region ?_
  refine J.op (Yd.move rfl) rfl ?_
  refine J.op (Yd.nilCheck rfl) rfl ?_
  refine J.op (Yd.cast (Yd.fieldA Try.underlying66 rfl ti29 rfl rfl) (show _ = Value.pointer (some ⟨b, 0, none⟩) from rfl)) rfl ?_
  refine J.op (Yd.load pl29 rfl (Cel.cell1 (Cel.ext hc e0) 0 rfl)) rfl ?_
  refine J.eff (Ye.call cl24 rfl (Clone_ok hs (by omega))) rfl ?_
  rintro s9_1 w1 ⟨os9_1, x1⟩
  have fr_s9_1 : Fr w.heap.size s9_1.ownBlock := Fr.le (Ow.fr os9_1) e0.size
  replace os9_1 := Ow.base os9_1 e0.size
  have e0 := e0.trans x1
  clear x1
  refine J.op (Yd.assign rfl) rfl ?_
  refine J.nil ?_
  refine J.n_then ?_
  refine J.ret ?_
  exact J.ret1 rfl rfl (⟨_, rfl, os9_1, e0⟩)

theorem WDone_ok {base : Nat → Prop} {b : Nat} {l : List UInt8} {w : World} (hw : Wr 66 5 base w b l) (hl : l.length ≤ 1000000000) : C Try.prog 31 [.pointer (some ⟨b, 0, none⟩)] w (Ret fun v w' => Ob w.heap.size 5 w' v l ∧ Ext w w') := by
  obtain ⟨s, h2, h3, h4, h5⟩ := hw; exact WDone_raw h2 (Ow.rd h3) hl
end Ytfefphcmfhabiaa
end Go.Proofs
