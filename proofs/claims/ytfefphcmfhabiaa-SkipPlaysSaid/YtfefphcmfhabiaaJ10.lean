import Derived.Test.YtfefphcmfhabiaaT
import Derived.Test.YtfefphcmfhabiaaJ9
import Derived.Test.YtfefphcmfhabiaaQm
set_option linter.unusedVariables false
set_option linter.unusedSimpArgs false
set_option maxRecDepth 100000
set_option maxHeartbeats 4000000
namespace Go.Proofs
open Go.X Go.RowKit
namespace Ytfefphcmfhabiaa
theorem SaveNil_ok {w : World} : C Try.prog 17 [.pointer none] w (Ret fun v w' => v = nilS ∧ Ext w w') := by
  have e0 := Ext.refl w
  refine C.enter Try.func17 rfl Try.ntmps17 rfl ?_
  refine J.seq ?_
  refine J.region ?_
  refine J.op (Yd.assign rfl) rfl ?_
  refine J.nil ?_
  refine J.n_then ?_
  refine J.seq ?_
  refine J.seq ?_
  refine J.region ?_
  refine J.op (Yd.move rfl) rfl ?_
  refine J.op (Yd.cast (Yd.eqPn Try.underlying23 rfl rfl) (show _ = Value.bool true from rfl)) rfl ?_
  refine J.op (Yd.move rfl) rfl ?_
  refine J.not_g rfl rfl rfl rfl rfl ?_
  refine J.not_g rfl rfl rfl rfl rfl ?_
  refine J.not_g rfl rfl rfl rfl rfl ?_
  refine J.not_g rfl rfl rfl rfl rfl ?_
  refine J.not_g rfl rfl rfl rfl rfl ?_
  refine J.op (Yd.pick_t rfl rfl) rfl ?_
  refine J.nil ?_
  refine J.n_then ?_
  refine J.cond_true rfl ?_
  refine J.seq ?_
  refine J.region ?_
  refine J.op (Yd.assign rfl) rfl ?_
  refine J.nil ?_
  refine J.n_then ?_
  refine J.ret ?_
  refine J.r_then ?_
  exact J.ret1 rfl rfl (⟨_, rfl, rfl, e0⟩)

theorem New_sk {n : Int} {w : World} (hn : 1 ≤ n ∧ n ≤ 1000) : C Try.prog 9 [I n] w (Ret fun u w' => ∃ b, u = .tuple #[.pointer (some ⟨b, 0, none⟩), I 0] ∧ Sk 56 60 w.heap.size w' b n [] ∧ Ext w w') :=
  (New_yes hn).ret fun u w' h => by obtain ⟨b, h1, h2, h3, h4⟩ := h; exact ⟨b, h1, Sk.new h2 h3, h4⟩
theorem Put_sk {base b : Nat} {n m1 m2 : Int} {L : List Key} {a : Value} {l : List UInt8} {w1 w : World} (hs : Sk 56 60 base w1 b n L) (hx : Ext w1 w) (ha : Ob w1.heap.size 5 w a l) (hbw : base ≤ w1.heap.size) (hn : 1 ≤ n ∧ n ≤ 1000) (hL : L.length ≤ 1000) (hv : wiK m1 ∧ wiK m2 ∧ l.length = 32) (hno : ∀ y ∈ L, ¬ (y.1 = m1 ∧ y.2.1 = m2)) :
    C Try.prog 10 [.pointer (some ⟨b, 0, none⟩), I m1, I m2, a] w (Ret fun u w' => u = .tuple #[I (pshR n L), I 0] ∧ Sk 56 60 base w' b n (psh n L (m1, m2, l)) ∧ Th base w w') := by
  have hs2 := hs
  obtain ⟨s, es, h1, h2, h3, h4, h5, h6⟩ := hs2
  have hfa := Ow.fr ha
  have a1 : Ap a.ownBlock (some b) := (Ap.mk (Cel.live h2) hfa).symm
  have a2 : Ap a.ownBlock s.ownBlock := (Ap.mk (Es.live h3) hfa).symm
  have hst : ∀ w', Tn [some b, s.ownBlock] w w' → Bs w' a l := fun w' ht => Rd.tnk (Ow.rd ha) ht (ApL.two a1 a2)
  have h2 := h2.ext hx
  have h3 := h3.ext hx
  have h6 := h6.mono fun a b h => h.ext hx
  have hq : decide (idxI (eqE m1 m2) es ≥ 0) = false := by
    rw [h6.idx fun a b h => h.eq m1 m2]; exact idx_neg fun y hy => eqK_no (hno y hy)
  have hlen := h6.len
  have hw := hx.size
  by_cases hlt : (L.length : Int) < n
  · refine (Put_new h2 h3 h5 (sk_one h6) hst hn.1 hv hq (by omega) hn.2).ret fun u w' h => ?_
    obtain ⟨s', v', rfl, g1, g2, g3, g4, g5, g6, g7, g8⟩ := h
    refine ⟨by unfold pshR; rw [if_pos hlt], ?_, th_two h1 h4 g8⟩
    unfold psh; rw [if_pos hlt]
    exact ⟨s', _, h1, g1, g2, Fr.sf h4 g7 (by omega), g4, (h6.mono fun a b h => h.tnk g7 g8).app (All2.one ⟨rfl, rfl, Ow.rd g3, Ow.live g3, (Ow.fr g3).le (by omega), g5, g6⟩)⟩
  · refine (Put_over h2 h3 h5 (sk_one h6) hst hn.1 hv hq (by omega) (by omega)).ret fun u w' h => ?_
    obtain ⟨s', v', rfl, g1, g2, g3, g4, g5, g6, g7, g8⟩ := h
    refine ⟨by unfold pshR; rw [if_neg hlt], ?_, th_two h1 h4 g8⟩
    unfold psh; rw [if_neg hlt]
    rw [List.take_zero, List.nil_append] at g2
    exact ⟨s', _, h1, g1, g2, Fr.sf h4 g7 (by omega), g4, ((h6.mono fun a b h => h.tnk g7 g8).app (All2.one ⟨rfl, rfl, Ow.rd g3, Ow.live g3, (Ow.fr g3).le (by omega), g5, g6⟩)).drop 1⟩
theorem Take_sk {base b : Nat} {n : Int} {L : List Key} {w : World} {m1 m2 : Int} {k : Nat} (hs : Sk 56 60 base w b n L) (hk : k < L.length) (hq : idxI (eqK m1 m2) L = (k : Int)) :
    C Try.prog 12 [.pointer (some ⟨b, 0, none⟩), I m1, I m2] w (Ret fun u w' => ∃ v, u = .tuple #[v, I 0] ∧ Bs w' v (L.getD k kD).2.2 ∧ Sk 56 60 base w' b n (L.take k ++ L.drop (k + 1)) ∧ Th base w w') := by
  obtain ⟨s, es, h1, h2, h3, h4, h5, h6⟩ := hs
  have hlen := h6.len
  have hb := (Es.live h3)
  refine (Take_yes h2 h3 h5 (sk_one h6) (by omega) ((h6.idx fun a b h => h.eq m1 m2).trans hq)).ret fun u w' h => ?_
  obtain ⟨s', rfl, g1, g2, g3, g4, g5⟩ := h
  have h7 := h6.mono fun a b h => h.tnk g3 g5
  exact ⟨_, rfl, (h7.get entD kD k (by omega)).bs, ⟨s', _, h1, g1, g2, (fun q hq => (g3 q hq).elim (fun e => h4 q e) (fun h => Nat.le_trans h1 (Nat.le_trans (Nat.le_of_lt (Cel.lt h2)) h))), g4, (h7.take k).app (h7.drop (k + 1))⟩, th_two h1 h4 g5⟩
theorem Take_skno {base b : Nat} {n : Int} {L : List Key} {w : World} {m1 m2 : Int} (hs : Sk 56 60 base w b n L) (hq : idxI (eqK m1 m2) L = -1) : C Try.prog 12 [.pointer (some ⟨b, 0, none⟩), I m1, I m2] w (Ret fun v w' => v = .tuple #[nilS, I 7] ∧ Ext w w') := by
  obtain ⟨s, es, h1, h2, h3, h4, h5, h6⟩ := hs
  exact Take_no h2 (Es.rd h3) ((h6.idx fun a b h => h.eq m1 m2).trans hq)
theorem Has_sk {base b : Nat} {n : Int} {L : List Key} {w : World} {m1 m2 : Int} {t : Bool} (hs : Sk 56 60 base w b n L) (hq : decide (idxI (eqK m1 m2) L ≥ 0) = t) : C Try.prog 16 [.pointer (some ⟨b, 0, none⟩), I m1, I m2] w (Ret fun v w' => v = .bool t ∧ Ext w w') := by
  obtain ⟨s, es, h1, h2, h3, h4, h5, h6⟩ := hs
  exact Has_is h2 (Es.rd h3) (by rw [h6.idx fun a b h => h.eq m1 m2]; exact hq)
theorem Len_sk {base b : Nat} {n : Int} {L : List Key} {w : World} (hs : Sk 56 60 base w b n L) : C Try.prog 13 [.pointer (some ⟨b, 0, none⟩)] w (Ret fun v w' => v = I (L.length : Int) ∧ Ext w w') := by
  obtain ⟨s, es, h1, h2, h3, h4, h5, h6⟩ := hs
  exact h6.len ▸ Len_ok h2 (Es.rd h3)
theorem Forget_sk {base b : Nat} {n : Int} {L : List Key} {w : World} {m1 : Int} (hs : Sk 56 60 base w b n L) :
    C Try.prog 15 [.pointer (some ⟨b, 0, none⟩), I m1] w (Ret fun u w' => u = I ((L.length : Int) - ((L.filter fun x => !ltK m1 x).length : Int)) ∧ Sk 56 60 base w' b n (L.filter fun x => !ltK m1 x) ∧ Th base w w') := by
  obtain ⟨s, es, h1, h2, h3, h4, h5, h6⟩ := hs
  refine (Forget_ok h2 h3 h5 (sk_one h6) (m1 := m1)).ret fun u w' h => ?_
  obtain ⟨s', rfl, g1, g2, g3, g4, g5⟩ := h
  have h7 := h6.mono fun a b h => h.tnk g3 g5
  have h8 := h7.filter (p := fun x => !ltE m1 x) (q := fun x => !ltK m1 x) fun a b h => by rw [h.lt]
  refine ⟨by rw [h6.len, h8.len], ⟨s', _, h1, g1, g2, (fun q hq => (g3 q hq).elim (fun e => h4 q e) (fun h => Nat.le_trans h1 (Nat.le_trans (Nat.le_of_lt (Cel.lt h2)) h))), g4, h8⟩, th_two h1 h4 g5⟩
end Ytfefphcmfhabiaa
end Go.Proofs
