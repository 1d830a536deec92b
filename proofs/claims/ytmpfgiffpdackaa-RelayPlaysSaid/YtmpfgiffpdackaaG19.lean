import Derived.Test.YtmpfgiffpdackaaT
import Derived.Test.YtmpfgiffpdackaaG18
import Derived.Test.YtmpfgiffpdackaaG16
set_option linter.unusedVariables false
set_option linter.unusedSimpArgs false
set_option maxRecDepth 100000
set_option maxHeartbeats 4000000
namespace Go.Proofs
open Go.X Go.RowKit
namespace Ytmpfgiffpdackaa
theorem Same_yes {x : Itm} {y : Ri} {l : List UInt8} {w : World} (hx : Bs w x.2.2.2 l) (hy : Bs w y.2.2.2.2 l) (h1 : x.1 = y.1) (h2 : x.2.1 = y.2.1) (h3 : x.2.2.1 = y.2.2.2.1) : C Try.prog 24 [.agg (itmS.c x).toArray, .agg (riS.c y).toArray] w (Ret fun v w' => v = .bool true ∧ Ext w w') := by
  have e0 := Ext.refl w
  refine C.enter Try.func24 rfl Try.ntmps24 rfl ?_
  refine J.seq ?_
  refine J.region ?_
  refine J.eff (Ye.box (S := [(0, 1, [I x.1]), (1, 1, [Str x.2.1]), (2, 1, [I x.2.2.1]), (3, 1, [x.2.2.2])]) rfl (by simp [SegAll, SegOK, Value.cells, itmS])) rfl ?_
  rintro _ w1 ⟨b2_0, rfl, hb_, c2_0, x1⟩
  have fr_b2_0 : Fr w.heap.size (some b2_0) := Fr.le (Fr.blk hb_) e0.size
  have e0 := e0.trans x1
  clear x1 hb_
  refine J.eff (Ye.box (S := [(0, 1, [I y.1]), (1, 1, [Str y.2.1]), (2, 1, [Str y.2.2.1]), (3, 1, [I y.2.2.2.1]), (4, 1, [y.2.2.2.2])]) rfl (by simp [SegAll, SegOK, Value.cells, riS])) rfl ?_
  rintro _ w2 ⟨b3_1, rfl, hb_, c3_1, x1⟩
  have ap_b2_0_b3_1 : Ap (some b2_0) (some b3_1) := Ap.mk (Cel.live c2_0) (Fr.blk hb_)
  have fr_b3_1 : Fr w.heap.size (some b3_1) := Fr.le (Fr.blk hb_) e0.size
  have e0 := e0.trans x1
  have c2_0 := c2_0.ext x1
  clear x1 hb_
  refine J.op (Yd.assign rfl) rfl ?_
  refine J.nil ?_
  refine J.n_then ?_
  refine J.seq ?_
  refine J.region ?_
  refine J.op (Yd.cast (Yd.fieldA Try.underlying36 rfl ti3 rfl rfl) (show _ = Value.pointer (some ⟨b2_0, 0, none⟩) from rfl)) rfl ?_
  refine J.op (Yd.load pl3 rfl (Cel.cell1 c2_0 0 rfl)) rfl ?_
  refine J.op (Yd.cast (Yd.fieldA Try.underlying57 rfl ti3 rfl rfl) (show _ = Value.pointer (some ⟨b3_1, 0, none⟩) from rfl)) rfl ?_
  refine J.op (Yd.load pl3 rfl (Cel.cell1 c3_1 0 rfl)) rfl ?_
  refine J.op (Yd.eql rfl rfl) rfl ?_
  refine J.op (Yd.move rfl) rfl ?_
  refine J.know (t := 10) (v' := .bool true) rfl (tt (by exact h1)) ?_
  refine J.op_g rfl rfl rfl (Yd.cast (Yd.fieldA Try.underlying36 rfl ti9 rfl rfl) (show _ = Value.pointer (some ⟨b2_0, 1, none⟩) from rfl)) rfl ?_
  refine J.op_g rfl rfl rfl (Yd.load pl9 rfl (Cel.cell1 c2_0 1 rfl)) rfl ?_
  refine J.op_g rfl rfl rfl (Yd.cast (Yd.fieldA Try.underlying57 rfl ti9 rfl rfl) (show _ = Value.pointer (some ⟨b3_1, 1, none⟩) from rfl)) rfl ?_
  refine J.op_g rfl rfl rfl (Yd.load pl9 rfl (Cel.cell1 c3_1 1 rfl)) rfl ?_
  refine J.op_g rfl rfl rfl (Yd.seq rfl rfl) rfl ?_
  refine J.op (Yd.pick_t rfl rfl) rfl ?_
  refine J.op (Yd.move rfl) rfl ?_
  refine J.know (t := 17) (v' := .bool true) rfl (tt (by exact h2)) ?_
  refine J.op_g rfl rfl rfl (Yd.cast (Yd.fieldA Try.underlying36 rfl ti3 rfl rfl) (show _ = Value.pointer (some ⟨b2_0, 2, none⟩) from rfl)) rfl ?_
  refine J.op_g rfl rfl rfl (Yd.load pl3 rfl (Cel.cell1 c2_0 2 rfl)) rfl ?_
  refine J.op_g rfl rfl rfl (Yd.cast (Yd.fieldA Try.underlying57 rfl ti3 rfl rfl) (show _ = Value.pointer (some ⟨b3_1, 3, none⟩) from rfl)) rfl ?_
  refine J.op_g rfl rfl rfl (Yd.load pl3 rfl (Cel.cell1 c3_1 3 rfl)) rfl ?_
  refine J.op_g rfl rfl rfl (Yd.eql rfl rfl) rfl ?_
  refine J.op (Yd.pick_t rfl rfl) rfl ?_
  refine J.op (Yd.move rfl) rfl ?_
  refine J.know (t := 24) (v' := .bool true) rfl (tt (by exact h3)) ?_
  refine J.op_g rfl rfl rfl (Yd.cast (Yd.fieldA Try.underlying36 rfl ti34 rfl rfl) (show _ = Value.pointer (some ⟨b2_0, 3, none⟩) from rfl)) rfl ?_
  refine J.op_g rfl rfl rfl (Yd.load pl34 rfl (Cel.cell1 c2_0 3 rfl)) rfl ?_
  refine J.op_g rfl rfl rfl (Yd.bstr Try.underlying34 Try.underlying5 Try.underlying9 rfl (Rd.ext hx e0)) rfl ?_
  refine J.op_g rfl rfl rfl (Yd.cast (Yd.fieldA Try.underlying57 rfl ti34 rfl rfl) (show _ = Value.pointer (some ⟨b3_1, 4, none⟩) from rfl)) rfl ?_
  refine J.op_g rfl rfl rfl (Yd.load pl34 rfl (Cel.cell1 c3_1 4 rfl)) rfl ?_
  refine J.op_g rfl rfl rfl (Yd.bstr Try.underlying34 Try.underlying5 Try.underlying9 rfl (Rd.ext hy e0)) rfl ?_
  refine J.op_g rfl rfl rfl (Yd.seq rfl rfl) rfl ?_
  refine J.op (Yd.pick_t rfl rfl) rfl ?_
  refine J.op (Yd.assign rfl) rfl ?_
  refine J.nil ?_
  refine J.n_then ?_
  refine J.ret ?_
  exact J.ret1 rfl rfl (⟨_, rfl, congrArg Value.bool (decide_eq_true rfl), e0⟩)

theorem Same_is {x : Itm} {y : Ri} {z : It} {r : R5} {w0 w : World} (hx : Eq3 w x z) (hy : KI w0 y r) (he : Ext w0 w) (hz : z = strp r) : C Try.prog 24 [.agg (itmS.c x).toArray, .agg (riS.c y).toArray] w (Ret fun v w' => v = .bool true ∧ Ext w w') := by
  subst hz
  exact Same_yes hx.2.2.2 (hy.2.2.2.2 w he) (hx.1.trans hy.1.symm) (hx.2.1.trans hy.2.1.symm) (hx.2.2.1.trans hy.2.2.2.1.symm)

theorem TList2 {xs : List (Option Nat)} {w0 w : World} {b b2 i : Nat} {c d : Int × Int × Int} {R R' : List R5} {to : Key} (h : RT 65 36 52 xs w0 w b c R b2 d R') (hg : GR i d R') (hi8 : i ≤ 1000) : C Try.prog 22 [.pointer (some ⟨b2, 0, none⟩), Str to] w (Ret fun u w' => ∃ es', Er riS w' u es' ∧ R2 (KI w0) es' (R'.filter (toB to)) ∧ Ext w w') := by
  obtain ⟨K, q, s2, es2, h0⟩ := h
  obtain ⟨ex, now, last⟩ := d
  have hlen := R2.len h0.a2
  have hn3 : es2.length ≤ 1000 := by have := hg.len; omega
  have h1 := ki_one h0.a2 h0.e
  exact (RList_ok h0.c2 h0.r2 h1 hn3).ret fun u w' h => ⟨_, Es.rd h.1, R2.filter (p := toR to) (p' := toB to) (fun a b h => by unfold toR toB; rw [h.2.2.1]) h0.a2, h.2⟩
theorem TPut2 {xs : List (Option Nat)} {w0 w : World} {b b2 i : Nat} {c d : Int × Int × Int} {R R' : List R5} {fr to : Key} {a : Value} {l : List UInt8} (h : RT 65 36 52 xs w0 w b c R b2 d R') (hg : GR i d R') (hi8 : i ≤ 1000) (hfl : fr.length ≤ 1000000) (htl : to.length ≤ 1000000) (ha : ∀ W, Ext w0 W → Bs W a l) : C Try.prog 19 [.pointer (some ⟨b2, 0, none⟩), Str fr, Str to, a] w (Ret fun u w' => u = .tuple #[I (putM d R' fr to l).1, I (putM d R' fr to l).2.1] ∧ RT 65 36 52 xs w0 w' b c R b2 (putM d R' fr to l).2.2.1 (putM d R' fr to l).2.2.2 ∧ Tx w0.heap.size xs w w') := by
  obtain ⟨K, q, s2, es2, h0⟩ := h
  obtain ⟨ex, now, last⟩ := d
  have hlen := R2.len h0.a2
  have hn3 : es2.length ≤ 1000 := by have := hg.len; omega
  have h1 := ki_one h0.a2 h0.e
  have hw := ha w h0.e
  have hfl9 := R2.len (R2.filter (p := toR to) (p' := toB to) (fun a b h => by unfold toR toB; rw [h.2.2.1]) h0.a2)
  by_cases hn : nameB fr = true ∧ nameB to = true
  · by_cases hl : 6000 < l.length
    · have e : putM (ex, now, last) R' fr to l = (0, 11, (ex, now, last), R') := by unfold putM; rw [if_pos hn, if_pos hl]
      rw [e]
      exact (RPut_big h0.c2 h0.r2 h1 hw ⟨hfl, hn.1⟩ ⟨htl, hn.2⟩ hl).ret fun u w' h => ⟨h.1, ⟨K, q, s2, es2, h0.ext h.2⟩, h.2.tx⟩
    · by_cases hf : 30 ≤ (R'.filter (toB to)).length
      · have e : putM (ex, now, last) R' fr to l = (0, 9, (ex, now, last), R') := by unfold putM; rw [if_pos hn, if_neg hl, if_pos hf]
        rw [e]
        exact (RPut_full h0.c2 h0.r2 h1 hw ⟨hfl, hn.1⟩ ⟨htl, hn.2⟩ (by omega) (by omega) hn3).ret fun u w' h => ⟨h.1, ⟨K, q, s2, es2, h0.ext h.2⟩, h.2.tx⟩
      · have e : putM (ex, now, last) R' fr to l = (last + 1, 0, (ex, now, last + 1), R' ++ [((last + 1, fr, to, now, l) : R5)]) := by unfold putM; rw [if_pos hn, if_neg hl, if_neg hf]
        rw [e]
        refine (RPut_ok h0.c2 h0.r2 h0.ap h1 (fun W ht => ha W (Ext.tnk h0.e (fun q hq k e => by rw [List.mem_singleton] at hq; subst hq; cases e; exact h0.fb) ht)) ⟨hfl, hn.1⟩ ⟨htl, hn.2⟩ (by omega) (by omega) (show 0 ≤ last ∧ last ≤ 1000000000 from by have := hg.lb; simp only at this; omega) hn3).ret fun u w' h => ?_
        obtain ⟨s', rfl, g1, g2, g3, g4, g5⟩ := h
        have h8 := R2.app h0.a2 (R2.one (R := KI w0) (a := ((last + 1, fr, to, now, a) : Ri)) (b := ((last + 1, fr, to, now, l) : R5)) ⟨rfl, rfl, rfl, rfl, ha⟩)
        have t := h0.ref (d' := (ex, now, last + 1)) g5 g1 g2 g3 (fun k e => .inr (g4 k e)) h8
        exact ⟨rfl, t.1, t.2⟩
  · have e : putM (ex, now, last) R' fr to l = (0, 1, (ex, now, last), R') := by unfold putM; rw [if_neg hn]
    rw [e]
    cases h2 : nameB fr
    · exact (RPut_fr h0.c2 h0.r2 h1 hw ⟨hfl, h2⟩).ret fun u w' h => ⟨h.1, ⟨K, q, s2, es2, h0.ext h.2⟩, h.2.tx⟩
    · cases h3 : nameB to
      · exact (RPut_to h0.c2 h0.r2 h1 hw ⟨hfl, h2⟩ ⟨htl, h3⟩).ret fun u w' h => ⟨h.1, ⟨K, q, s2, es2, h0.ext h.2⟩, h.2.tx⟩
      · exact absurd ⟨h2, h3⟩ hn
theorem TAck2 {xs : List (Option Nat)} {w0 w : World} {b b2 i : Nat} {c d : Int × Int × Int} {R R' : List R5} {to : Key} {s : Value} {ids : List Int} (h : RT 65 36 52 xs w0 w b c R b2 d R') (hg : GR i d R') (hi8 : i ≤ 1000) (hi : Rd w0 s (ids.map fun x => I x)) : C Try.prog 20 [.pointer (some ⟨b2, 0, none⟩), Str to, s] w (Ret fun u w' => u = I ((R'.length : Int) - ((ackM R' to ids).length : Int)) ∧ RT 65 36 52 xs w0 w' b c R b2 d (ackM R' to ids) ∧ Tx w0.heap.size xs w w') := by
  obtain ⟨K, q, s2, es2, h0⟩ := h
  obtain ⟨ex, now, last⟩ := d
  have hlen := R2.len h0.a2
  have hn3 : es2.length ≤ 1000 := by have := hg.len; omega
  have h1 := ki_one h0.a2 h0.e
  have h8 := R2.filter (p := (fun x => !(toR to x && decide (x.1 ∈ ids)))) (p' := fun x => !(toB to x && decide (x.1 ∈ ids))) (fun a b h => by unfold toR toB; rw [h.1, h.2.2.1]) h0.a2
  refine (RAck_ok (ids := ids) h0.c2 h0.r2 h0.ap h1 (fun W ht => hi.ext (Ext.tnk h0.e (fun q hq k e => by rw [List.mem_singleton] at hq; subst hq; cases e; exact h0.fb) ht)) hn3).ret fun u w' h => ?_
  obtain ⟨s', rfl, g1, g2, g3, g4, g5⟩ := h
  have t := h0.ref (d' := (ex, now, last)) g5 g1 g2 g3 (fun k e => .inr (g4 k e)) h8
  exact ⟨by rw [hlen, R2.len h8]; rfl, t.1, t.2⟩
theorem TTick2 {xs : List (Option Nat)} {w0 w : World} {b b2 i : Nat} {c d : Int × Int × Int} {R R' : List R5} {n : Int} (h : RT 65 36 52 xs w0 w b c R b2 d R') (hg : GR i d R') (hi8 : i ≤ 1000) : C Try.prog 21 [.pointer (some ⟨b2, 0, none⟩), I n] w (Ret fun u w' => u = I ((R'.length : Int) - ((tickM d R' n).2.length : Int)) ∧ RT 65 36 52 xs w0 w' b c R b2 (tickM d R' n).1 (tickM d R' n).2 ∧ Tx w0.heap.size xs w w') := by
  obtain ⟨K, q, s2, es2, h0⟩ := h
  obtain ⟨ex, now, last⟩ := d
  have hlen := R2.len h0.a2
  have hn3 : es2.length ≤ 1000 := by have := hg.len; omega
  have h1 := ki_one h0.a2 h0.e
  by_cases hn : n < 1
  · have e : tickM (ex, now, last) R' n = ((ex, now, last), R') := by unfold tickM; rw [if_pos hn]
    rw [e]
    exact (RTick_0 h0.c2 h0.r2 hn).ret fun u w' h => ⟨by rw [h.1, Int.sub_self], ⟨K, q, s2, es2, h0.ext h.2⟩, h.2.tx⟩
  · have e : tickM (ex, now, last) R' n = ((ex, tkI now n, last), R'.filter fun x => !agR (tkI now n) ex x) := by unfold tickM; rw [if_neg hn]
    rw [e]
    have hnb := hg.nb
    have h8 := R2.filter (p := (fun x => !agRi (tkI now n) ex x)) (p' := fun x => !agR (tkI now n) ex x) (fun a b h => by unfold agRi agR; rw [h.2.2.2.1]) h0.a2
    refine (RTick_ok h0.c2 h0.r2 h0.ap h1 (by omega) hg.ex hnb (fun x hx => by
      obtain ⟨y, hy, hr⟩ := R2.mem h0.a2 hx
      have := (hg.bd y hy).2.1
      rw [hr.2.2.2.1]
      simp only at this hnb
      omega) hn3).ret fun u w' h => ?_
    obtain ⟨s', rfl, g1, g2, g3, g4, g5⟩ := h
    have t := h0.ref (d' := (ex, tkI now n, last)) g5 g1 g2 g3 (fun k e => .inr (g4 k e)) h8
    exact ⟨by rw [hlen, R2.len h8], t.1, t.2⟩
end Ytmpfgiffpdackaa
end Go.Proofs
