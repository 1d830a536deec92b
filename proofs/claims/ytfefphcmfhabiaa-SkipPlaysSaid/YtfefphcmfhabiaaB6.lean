import Derived.Test.YtfefphcmfhabiaaT
import Derived.Test.YtfefphcmfhabiaaQ3
import Derived.Test.YtfefphcmfhabiaaB5
set_option linter.unusedVariables false
set_option linter.unusedSimpArgs false
set_option maxRecDepth 100000
set_option maxHeartbeats 4000000
namespace Go.Proofs
open Go.X Go.RowKit
namespace Ytfefphcmfhabiaa
theorem THas1 {xs : List (Option Nat)} {w0 w : World} {b b2 : Nat} {n m1 m2 : Int} {L L2 : List Key} {t : Bool} (h : Two 56 60 46 xs w0 w b n L b2 L2) (hq : decide (idxI (eqK m1 m2) L ≥ 0) = t) : C Try.prog 16 [.pointer (some ⟨b, 0, none⟩), I m1, I m2] w (Ret fun v w' => v = .bool t ∧ Ext w w') := by
  obtain ⟨K, s2, es2, ht0⟩ := h
  obtain ⟨s, es, h1, h2, h3, h4, h5, h6⟩ := ht0.sk
  exact Has_is h2 (Es.rd h3) (by rw [h6.idx fun a b h => h.1.eq m1 m2]; exact hq)
theorem TLen1 {xs : List (Option Nat)} {w0 w : World} {b b2 : Nat} {n m1 m2 : Int} {L L2 : List Key} (h : Two 56 60 46 xs w0 w b n L b2 L2) : C Try.prog 13 [.pointer (some ⟨b, 0, none⟩)] w (Ret fun v w' => v = I (L.length : Int) ∧ Ext w w') := by
  obtain ⟨K, s2, es2, ht0⟩ := h
  obtain ⟨s, es, h1, h2, h3, h4, h5, h6⟩ := ht0.sk
  exact h6.len ▸ Len_ok h2 (Es.rd h3)
theorem TSave1 {xs : List (Option Nat)} {w0 w : World} {b b2 : Nat} {n m1 m2 : Int} {L L2 : List Key} (h : Two 56 60 46 xs w0 w b n L b2 L2) (hK : KOK L) (hn : 1 ≤ n ∧ n ≤ 1000) (hL : L.length ≤ 1000) : C Try.prog 17 [.pointer (some ⟨b, 0, none⟩)] w (Ret fun v w' => Ob w.heap.size 5 w' v (savB n L) ∧ Ext w w') := by
  obtain ⟨K, s2, es2, ht0⟩ := h
  obtain ⟨s, es, h1, h2, h3, h4, h5, h6⟩ := ht0.sk
  exact Save_raw (base := 0) h2 (Es.rd h3) (h6.mono fun a b h => h.1) hK hn hL
theorem TTake1 {xs : List (Option Nat)} {w0 w : World} {b b2 : Nat} {n m1 m2 : Int} {L L2 : List Key} (h : Two 56 60 46 xs w0 w b n L b2 L2) : C Try.prog 12 [.pointer (some ⟨b, 0, none⟩), I m1, I m2] w (Ret fun u w' => ∃ v, u = .tuple #[v, I (tkV L m1 m2).1] ∧ (∀ w2, Tn [some b2] w' w2 → Bs w2 v (tkV L m1 m2).2.1) ∧ Two 56 60 46 xs w0 w' b n (tkV L m1 m2).2.2 b2 L2 ∧ Tx w0.heap.size xs w w') := by
  obtain ⟨K, s2, es2, ht0⟩ := h
  obtain ⟨s, es, h1, h2, h3, h4, h5, h6⟩ := ht0.sk
  have hlen := h6.len
  have hix := idxI_lt (p := eqK m1 m2) (es := L)
  have hqe := h6.idx (p := eqE m1 m2) (q := eqK m1 m2) fun a b h => h.1.eq m1 m2
  by_cases hq : idxI (eqK m1 m2) L ≥ 0
  · obtain ⟨k, hk⟩ := Int.eq_ofNat_of_zero_le hq
    have hkl : k < L.length := by omega
    have htk : tkV L m1 m2 = (0, (L.getD k kD).2.2, L.take k ++ L.drop (k + 1)) := by unfold tkV; rw [if_pos hq, hk]; rfl
    rw [htk]
    refine (Take_yes h2 h3 h5 (skk_one h6) (by omega) (hqe.trans hk)).ret fun u w' h => ?_
    obtain ⟨s', rfl, g1, g2, g3, g4, g5⟩ := h
    have h7 := h6.mono fun a b h => h.tnk g3 g5
    have hg := h7.get entD kD k (by omega)
    obtain ⟨t1, t2⟩ := ht0.impl (L' := L.take k ++ L.drop (k + 1)) ⟨s', _, h1, g1, g2, (fun q hq => (g3 q hq).elim (fun e => h4 q e) (fun h9 => ht0.hb q h9)), g4, (h7.take k).app (h7.drop (k + 1))⟩ (ThK.two h1 h4 g5)
    exact ⟨_, rfl, fun w2 ht => Rd.tnk hg.1.bs ht (ApL.one (ap_out hg.2 t1.ob)), ⟨K, s2, es2, t1⟩, t2⟩
  · have htk : tkV L m1 m2 = (7, [], L) := by unfold tkV; rw [if_neg hq]
    rw [htk]
    refine (Take_no h2 (Es.rd h3) (hqe.trans (show _ = (-1 : Int) by omega))).ret fun u w' h => ?_
    exact ⟨nilS, h.1, fun w2 _ => Rd.nilM (fun x : UInt8 => B x) _, ⟨K, s2, es2, ht0.ext h.2⟩, h.2.tx⟩
theorem TForget1 {xs : List (Option Nat)} {w0 w : World} {b b2 : Nat} {n m1 m2 : Int} {L L2 : List Key} (h : Two 56 60 46 xs w0 w b n L b2 L2) : C Try.prog 15 [.pointer (some ⟨b, 0, none⟩), I m1] w (Ret fun u w' => u = I ((L.length : Int) - ((flV L m1).length : Int)) ∧ Two 56 60 46 xs w0 w' b n (flV L m1) b2 L2 ∧ Tx w0.heap.size xs w w') := by
  obtain ⟨K, s2, es2, ht0⟩ := h
  obtain ⟨s, es, h1, h2, h3, h4, h5, h6⟩ := ht0.sk
  refine (Forget_ok h2 h3 h5 (skk_one h6) (m1 := m1)).ret fun u w' h => ?_
  obtain ⟨s', rfl, g1, g2, g3, g4, g5⟩ := h
  have h7 := h6.mono fun a b h => h.tnk g3 g5
  have h8 := h7.filter (p := fun x => !ltE m1 x) (q := fun x => !ltK m1 x) fun a b h => by rw [h.1.lt]
  obtain ⟨t1, t2⟩ := ht0.impl (L' := flV L m1) ⟨s', _, h1, g1, g2, (fun q hq => (g3 q hq).elim (fun e => h4 q e) (fun h9 => ht0.hb q h9)), g4, h8⟩ (ThK.two h1 h4 g5)
  exact ⟨by rw [h6.len, h8.len]; rfl, ⟨K, s2, es2, t1⟩, t2⟩
theorem TPut1 {xs : List (Option Nat)} {w0 w : World} {b b2 : Nat} {n m1 m2 : Int} {L L2 : List Key} {a : Value} {l : List UInt8} (h : Two 56 60 46 xs w0 w b n L b2 L2) (hak : ∀ W, Ext w0 W → Bs W a l) (hn : 1 ≤ n ∧ n ≤ 1000) (hL : L.length ≤ 1000) : C Try.prog 10 [.pointer (some ⟨b, 0, none⟩), I m1, I m2, a] w (Ret fun u w' => u = .tuple #[I (putV n L m1 m2 l).1, I (putV n L m1 m2 l).2.1] ∧ Two 56 60 46 xs w0 w' b n (putV n L m1 m2 l).2.2 b2 L2 ∧ Tx w0.heap.size xs w w') := by
  obtain ⟨K, s2, es2, ht0⟩ := h
  obtain ⟨s, es, h1, h2, h3, h4, h5, h6⟩ := ht0.sk
  have hlen := h6.len
  have ha := hak w ht0.e
  have hqe := h6.idx (p := eqE m1 m2) (q := eqK m1 m2) fun a b h => h.1.eq m1 m2
  have hst : ∀ w', Tn [some b, s.ownBlock] w w' → Bs w' a l := fun w' ht => hak w' (Ext.tnk ht0.e (fun q hq k e => by
    simp only [List.mem_cons, List.mem_nil_iff, or_false] at hq
    rcases hq with rfl | rfl
    · cases e; exact ht0.k0 _ h1
    · exact ht0.k0 _ (h4 k e)) ht)
  by_cases hv : wiK m1 ∧ wiK m2 ∧ l.length = 32
  · by_cases hq : idxI (eqK m1 m2) L ≥ 0
    · rw [putV_dup hv hq]
      refine (Put_has h2 (Es.rd h3) ha hn.1 hv (by rw [hqe]; exact decide_eq_true hq)).ret fun u w' h => ?_
      exact ⟨h.1, ⟨K, s2, es2, ht0.ext h.2⟩, h.2.tx⟩
    · rw [putV_new hv hq]
      have hq' : decide (idxI (eqE m1 m2) es ≥ 0) = false := by rw [hqe]; exact decide_eq_false hq
      by_cases hlt : (L.length : Int) < n
      · refine (Put_new h2 h3 h5 (skk_one h6) hst hn.1 hv hq' (by omega) hn.2).ret fun u w' h => ?_
        obtain ⟨s', v', rfl, g1, g2, gv, g4, g5, g6, g3, g8⟩ := h
        obtain ⟨t1, t2⟩ := ht0.impl (L' := psh n L (m1, m2, l)) (by unfold psh; rw [if_pos hlt]; exact ⟨s', _, h1, g1, g2, (fun q hq => (g3 q hq).elim (fun e => h4 q e) (fun h9 => ht0.hb q h9)), g4, (h6.mono fun a b h => h.tnk g3 g8).app (All2.one ⟨⟨rfl, rfl, Ow.rd gv, Ow.live gv, fun _ _ => Nat.zero_le _, g5, g6⟩, fun k e => ht0.hb k (Ow.fr gv k e)⟩)⟩) (ThK.two h1 h4 g8)
        exact ⟨by unfold pshR; rw [if_pos hlt], ⟨K, s2, es2, t1⟩, t2⟩
      · refine (Put_over h2 h3 h5 (skk_one h6) hst hn.1 hv hq' (by omega) (by omega)).ret fun u w' h => ?_
        obtain ⟨s', v', rfl, g1, g2, gv, g4, g5, g6, g3, g8⟩ := h
        rw [List.take_zero, List.nil_append] at g2
        obtain ⟨t1, t2⟩ := ht0.impl (L' := psh n L (m1, m2, l)) (by unfold psh; rw [if_neg hlt]; exact ⟨s', _, h1, g1, g2, (fun q hq => (g3 q hq).elim (fun e => h4 q e) (fun h9 => ht0.hb q h9)), g4, ((h6.mono fun a b h => h.tnk g3 g8).app (All2.one ⟨⟨rfl, rfl, Ow.rd gv, Ow.live gv, fun _ _ => Nat.zero_le _, g5, g6⟩, fun k e => ht0.hb k (Ow.fr gv k e)⟩)).drop 1⟩) (ThK.two h1 h4 g8)
        exact ⟨by unfold pshR; rw [if_neg hlt], ⟨K, s2, es2, t1⟩, t2⟩
  · rw [putV_bad hv]
    refine (Put_inv h2 (Es.rd h3) ha hn.1 hv).ret fun u w' h => ?_
    exact ⟨h.1, ⟨K, s2, es2, ht0.ext h.2⟩, h.2.tx⟩
end Ytfefphcmfhabiaa
end Go.Proofs
