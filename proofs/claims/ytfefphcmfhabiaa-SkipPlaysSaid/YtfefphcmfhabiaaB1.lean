import Derived.Test.YtfefphcmfhabiaaT
import Derived.Test.YtfefphcmfhabiaaQ2
import Derived.Test.YtfefphcmfhabiaaX30
import Derived.Test.YtfefphcmfhabiaaX31
import Derived.Test.YtfefphcmfhabiaaW10
set_option linter.unusedVariables false
set_option linter.unusedSimpArgs false
set_option maxRecDepth 100000
set_option maxHeartbeats 4000000
namespace Go.Proofs
open Go.X Go.RowKit
namespace Ytfefphcmfhabiaa
theorem Put_inv {b : Nat} {n : Int} {s : Value} {es : List Ent} {m1 m2 : Int} {a : Value} {l : List UInt8} {w : World} (hc : Cel w b 56 [(0, 1, [I n]), (1, 1, [s])]) (hr : Er entS w s es) (ha : Bs w a l) (hn : 1 ≤ n) (hv : ¬ (wiK m1 ∧ wiK m2 ∧ l.length = 32)) : C Try.prog 10 [.pointer (some ⟨b, 0, none⟩), I m1, I m2, a] w (Ret fun v w' => v = .tuple #[I 0, I 1] ∧ Ext w w') := by
  have e0 := Ext.refl w
  refine C.enter Try.func10 rfl Try.ntmps10 rfl ?_
  refine J.seq ?_
  refine J.region ?_
  refine J.op (Yd.assign rfl) rfl ?_
  refine J.op (Yd.assign rfl) rfl ?_
  refine J.nil ?_
  refine J.n_then ?_
  refine J.seq ?_
  refine J.block ?_
  refine J.seq ?_
  refine J.region ?_
  refine J.op (Yd.move rfl) rfl ?_
  refine J.op (Yd.cast (Yd.eqPn Try.underlying23 rfl rfl) (show _ = Value.bool false from rfl)) rfl ?_
  refine J.op (Yd.move rfl) rfl ?_
  refine J.op_g rfl rfl rfl (Yd.move rfl) rfl ?_
  refine J.op_g rfl rfl rfl (Yd.nilCheck rfl) rfl ?_
  refine J.op_g rfl rfl rfl (Yd.cast (Yd.fieldA Try.underlying56 rfl ti3 rfl rfl) (show _ = Value.pointer (some ⟨b, 0, none⟩) from rfl)) rfl ?_
  refine J.op_g rfl rfl rfl (Yd.load pl3 rfl (Cel.cell1 (Cel.ext hc e0) 0 rfl)) rfl ?_
  refine J.op_g rfl rfl rfl (Yd.eql rfl rfl) rfl ?_
  refine J.op (Yd.pick_f rfl rfl) rfl ?_
  refine J.op (Yd.move rfl) rfl ?_
  refine J.split_dec (t := 20) rfl (fun g1 => ?_) (fun g1 => ?_)
  · skip
    refine J.not_g rfl rfl rfl rfl rfl ?_
    refine J.not_g rfl rfl rfl rfl rfl ?_
    refine J.not_g rfl rfl rfl rfl rfl ?_
    refine J.op (Yd.pick_t rfl rfl) rfl ?_
    refine J.op (Yd.move rfl) rfl ?_
    refine J.not_g rfl rfl rfl rfl rfl ?_
    refine J.not_g rfl rfl rfl rfl rfl ?_
    refine J.not_g rfl rfl rfl rfl rfl ?_
    refine J.op (Yd.pick_t rfl rfl) rfl ?_
    refine J.op (Yd.move rfl) rfl ?_
    refine J.not_g rfl rfl rfl rfl rfl ?_
    refine J.not_g rfl rfl rfl rfl rfl ?_
    refine J.not_g rfl rfl rfl rfl rfl ?_
    refine J.op (Yd.pick_t rfl rfl) rfl ?_
    refine J.op (Yd.assign rfl) rfl ?_
    refine J.nil ?_
    refine J.n_then ?_
    refine J.cond_true rfl ?_
    refine J.seq ?_
    refine J.region ?_
    refine J.op (Yd.assign rfl) rfl ?_
    refine J.op (Yd.assign rfl) rfl ?_
    refine J.nil ?_
    refine J.n_then ?_
    refine J.ret ?_
    refine J.r_block ?_
    refine J.r_then ?_
    exact J.ret2 rfl rfl rfl (⟨_, rfl, rfl, e0⟩)
  · skip
    refine J.op_g rfl rfl rfl (Yd.move rfl) rfl ?_
    refine J.eff_g rfl rfl rfl (Ye.call cl23 rfl (Within_ok)) rfl ?_
    rintro _ w1 ⟨rfl, x1⟩
    have e0 := e0.trans x1
    clear x1
    refine J.op_g rfl rfl rfl (Yd.not_dec rfl) rfl ?_
    refine J.op (Yd.pick_f rfl rfl) rfl ?_
    refine J.op (Yd.move rfl) rfl ?_
    refine J.split_dec (t := 25) rfl (fun g2 => ?_) (fun g2 => ?_)
    · skip
      refine J.not_g rfl rfl rfl rfl rfl ?_
      refine J.not_g rfl rfl rfl rfl rfl ?_
      refine J.not_g rfl rfl rfl rfl rfl ?_
      refine J.op (Yd.pick_t rfl rfl) rfl ?_
      refine J.op (Yd.move rfl) rfl ?_
      refine J.not_g rfl rfl rfl rfl rfl ?_
      refine J.not_g rfl rfl rfl rfl rfl ?_
      refine J.not_g rfl rfl rfl rfl rfl ?_
      refine J.op (Yd.pick_t rfl rfl) rfl ?_
      refine J.op (Yd.assign rfl) rfl ?_
      refine J.nil ?_
      refine J.n_then ?_
      refine J.cond_true rfl ?_
      refine J.seq ?_
      refine J.region ?_
      refine J.op (Yd.assign rfl) rfl ?_
      refine J.op (Yd.assign rfl) rfl ?_
      refine J.nil ?_
      refine J.n_then ?_
      refine J.ret ?_
      refine J.r_block ?_
      refine J.r_then ?_
      exact J.ret2 rfl rfl rfl (⟨_, rfl, rfl, e0⟩)
    · skip
      refine J.op_g rfl rfl rfl (Yd.move rfl) rfl ?_
      refine J.eff_g rfl rfl rfl (Ye.call cl23 rfl (Within_ok)) rfl ?_
      rintro _ w2 ⟨rfl, x1⟩
      have e0 := e0.trans x1
      clear x1
      refine J.op_g rfl rfl rfl (Yd.not_dec rfl) rfl ?_
      refine J.op (Yd.pick_f rfl rfl) rfl ?_
      refine J.op (Yd.move rfl) rfl ?_
      refine J.split_dec (t := 30) rfl (fun g3 => ?_) (fun g3 => ?_)
      · skip
        refine J.not_g rfl rfl rfl rfl rfl ?_
        refine J.not_g rfl rfl rfl rfl rfl ?_
        refine J.not_g rfl rfl rfl rfl rfl ?_
        refine J.op (Yd.pick_t rfl rfl) rfl ?_
        refine J.op (Yd.assign rfl) rfl ?_
        refine J.nil ?_
        refine J.n_then ?_
        refine J.cond_true rfl ?_
        refine J.seq ?_
        refine J.region ?_
        refine J.op (Yd.assign rfl) rfl ?_
        refine J.op (Yd.assign rfl) rfl ?_
        refine J.nil ?_
        refine J.n_then ?_
        refine J.ret ?_
        refine J.r_block ?_
        refine J.r_then ?_
        exact J.ret2 rfl rfl rfl (⟨_, rfl, rfl, e0⟩)
      · skip
        refine J.op_g rfl rfl rfl (Yd.move rfl) rfl ?_
        refine J.op_g rfl rfl rfl (Yd.len_b Try.underlying29 rfl (Rd.ext ha e0)) rfl ?_
        refine J.op_g rfl rfl rfl (Yd.neq rfl rfl) rfl ?_
        refine J.op (Yd.pick_f rfl rfl) rfl ?_
        refine J.op (Yd.assign rfl) rfl ?_
        refine J.nil ?_
        refine J.n_then ?_
        refine J.know (t := 10) (v' := .bool true) rfl (tt (by first | omega | (intro h; exact hv ⟨by first | assumption | exact Classical.not_not.1 (by assumption), by first | assumption | exact Classical.not_not.1 (by assumption), by omega⟩))) ?_
        refine J.cond_true rfl ?_
        refine J.seq ?_
        refine J.region ?_
        refine J.op (Yd.assign rfl) rfl ?_
        refine J.op (Yd.assign rfl) rfl ?_
        refine J.nil ?_
        refine J.n_then ?_
        refine J.ret ?_
        refine J.r_block ?_
        refine J.r_then ?_
        exact J.ret2 rfl rfl rfl (⟨_, rfl, rfl, e0⟩)

theorem Put_all {base b : Nat} {n m1 m2 : Int} {L : List Key} {a : Value} {l : List UInt8} {rs : List (Option Nat)} {w1 w : World} (hs : Sk 56 60 base w1 b n L) (ht : Tn rs w1 w) (hrs : LoL base rs) (ha : Bs w a l) (hap : ∀ q, Fr base q → Live w1 q → Ap a.ownBlock q) (hbw : base ≤ w1.heap.size) (hn : 1 ≤ n ∧ n ≤ 1000) (hL : L.length ≤ 1000) :
    C Try.prog 10 [.pointer (some ⟨b, 0, none⟩), I m1, I m2, a] w (Ret fun u w' => u = .tuple #[I (putV n L m1 m2 l).1, I (putV n L m1 m2 l).2.1] ∧ Sk 56 60 base w' b n (putV n L m1 m2 l).2.2 ∧ Th base w w') := by
  obtain ⟨s, es, h1, h20, h30, h4, h5, h60⟩ := hs
  have a1 := hap (some b) (Fr.blk h1) (Cel.live h20)
  have a2 := hap s.ownBlock h4 (Es.live h30)
  have h2 := h20.tnk ht (fun q hq k e1 e2 => by cases e1; have := hrs q hq _ e2; omega)
  have h3 := h30.tnk ht (fun q hq k e1 e2 => by have := h4 k e1; have := hrs q hq _ e2; omega)
  have h6 := h60.mono fun a b h => h.lo ht hrs
  have hst : ∀ w', Tn [some b, s.ownBlock] w w' → Bs w' a l := fun w' ht => Rd.tnk ha ht (ApL.two a1 a2)
  have hw := ht.size
  have hlen := h6.len
  by_cases hv : wiK m1 ∧ wiK m2 ∧ l.length = 32
  · by_cases hq : idxI (eqK m1 m2) L ≥ 0
    · rw [putV_dup hv hq]
      refine (Put_has h2 (Es.rd h3) ha hn.1 hv (by rw [h6.idx fun a b h => h.eq m1 m2]; exact decide_eq_true hq)).ret fun u w' h => ?_
      exact ⟨h.1, Sk.ext ⟨s, es, h1, h2, h3, h4, h5, h6⟩ h.2, h.2.Th⟩
    · rw [putV_new hv hq]
      have hq' : decide (idxI (eqE m1 m2) es ≥ 0) = false := by rw [h6.idx fun a b h => h.eq m1 m2]; exact decide_eq_false hq
      by_cases hlt : (L.length : Int) < n
      · refine (Put_new h2 h3 h5 (sk_one h6) hst hn.1 hv hq' (by omega) hn.2).ret fun u w' h => ?_
        obtain ⟨s', v', rfl, g1, g2, g3, g4, g5, g6, g7, g8⟩ := h
        refine ⟨by unfold pshR; rw [if_pos hlt], ?_, th_two h1 h4 g8⟩
        show Sk _ _ _ _ _ _ (psh n L (m1, m2, l))
        unfold psh; rw [if_pos hlt]
        exact ⟨s', _, h1, g1, g2, Fr.sf h4 g7 (by omega), g4, (h6.mono fun a b h => h.tnk g7 g8).app (All2.one ⟨rfl, rfl, Ow.rd g3, Ow.live g3, (Ow.fr g3).le (by omega), g5, g6⟩)⟩
      · refine (Put_over h2 h3 h5 (sk_one h6) hst hn.1 hv hq' (by omega) (by omega)).ret fun u w' h => ?_
        obtain ⟨s', v', rfl, g1, g2, g3, g4, g5, g6, g7, g8⟩ := h
        refine ⟨by unfold pshR; rw [if_neg hlt], ?_, th_two h1 h4 g8⟩
        show Sk _ _ _ _ _ _ (psh n L (m1, m2, l))
        unfold psh; rw [if_neg hlt]
        rw [List.take_zero, List.nil_append] at g2
        exact ⟨s', _, h1, g1, g2, Fr.sf h4 g7 (by omega), g4, ((h6.mono fun a b h => h.tnk g7 g8).app (All2.one ⟨rfl, rfl, Ow.rd g3, Ow.live g3, (Ow.fr g3).le (by omega), g5, g6⟩)).drop 1⟩
  · rw [putV_bad hv]
    refine (Put_inv h2 (Es.rd h3) ha hn.1 hv).ret fun u w' h => ?_
    exact ⟨h.1, Sk.ext ⟨s, es, h1, h2, h3, h4, h5, h6⟩ h.2, h.2.Th⟩

theorem New_big {n : Int} {w : World} (hn : 1000 < n) : C Try.prog 9 [I n] w (Ret fun v w' => v = .tuple #[.pointer none, I 1] ∧ Ext w w') := by
  have e0 := Ext.refl w
  refine C.enter Try.func9 rfl Try.ntmps9 rfl ?_
  refine J.seq ?_
  refine J.region ?_
  refine J.op (Yd.assign rfl) rfl ?_
  refine J.op (Yd.assign rfl) rfl ?_
  refine J.nil ?_
  refine J.n_then ?_
  refine J.seq ?_
  refine J.seq ?_
  refine J.region ?_
  refine J.op (Yd.move rfl) rfl ?_
  refine J.op (Yd.lss rfl rfl) rfl ?_
  refine J.op (Yd.move rfl) rfl ?_
  refine J.know (t := 6) (v' := .bool false) rfl (ff (by omega)) ?_
  refine J.op_g rfl rfl rfl (Yd.move rfl) rfl ?_
  refine J.op_g rfl rfl rfl (Yd.gtr rfl rfl) rfl ?_
  refine J.op (Yd.pick_f rfl rfl) rfl ?_
  refine J.nil ?_
  refine J.n_then ?_
  refine J.know (t := 9) (v' := .bool true) rfl (tt (by omega)) ?_
  refine J.cond_true rfl ?_
  refine J.seq ?_
  refine J.region ?_
  refine J.op (Yd.assign rfl) rfl ?_
  refine J.op (Yd.assign rfl) rfl ?_
  refine J.nil ?_
  refine J.n_then ?_
  refine J.ret ?_
  refine J.r_then ?_
  exact J.ret2 rfl rfl rfl (⟨_, rfl, rfl, e0⟩)

theorem Save_raw {base b : Nat} {n : Int} {s : Value} {es : List Ent} {L : List Key} {w : World} (hc : Cel w b 56 [(0, 1, [I n]), (1, 1, [s])]) (hr : Er entS w s es) (h6 : All2 (KR w b s.ownBlock base) es L) (hK : KOK L) (hn : 1 ≤ n ∧ n ≤ 1000) (hL : L.length ≤ 1000) : C Try.prog 17 [.pointer (some ⟨b, 0, none⟩)] w (Ret fun v w' => Ob w.heap.size 5 w' v (savB n L) ∧ Ext w w') := by
  have hlen := h6.len
  have hmx := Er.max hr
  have hsk := sk_one h6
  have e0 := Ext.refl w
  refine C.enter Try.func17 rfl Try.ntmps17 rfl ?_
  refine J.seq ?_
  refine J.region ?_
  refine J.op (Yd.assign rfl) rfl ?_
  refine J.nil ?_
  refine J.n_then ?_
  refine J.seq ?_
  refine J.seq ?_
  refine J.region ?_
  refine J.op (Yd.move rfl) rfl ?_
  refine J.op (Yd.cast (Yd.eqPn Try.underlying23 rfl rfl) (show _ = Value.bool false from rfl)) rfl ?_
  refine J.op (Yd.move rfl) rfl ?_
  refine J.op_g rfl rfl rfl (Yd.move rfl) rfl ?_
  refine J.op_g rfl rfl rfl (Yd.nilCheck rfl) rfl ?_
  refine J.op_g rfl rfl rfl (Yd.cast (Yd.fieldA Try.underlying56 rfl ti3 rfl rfl) (show _ = Value.pointer (some ⟨b, 0, none⟩) from rfl)) rfl ?_
  refine J.op_g rfl rfl rfl (Yd.load pl3 rfl (Cel.cell1 (Cel.ext hc e0) 0 rfl)) rfl ?_
  refine J.op_g rfl rfl rfl (Yd.eql rfl rfl) rfl ?_
  refine J.op (Yd.pick_f rfl rfl) rfl ?_
  refine J.nil ?_
  refine J.n_then ?_
  refine J.know (t := 14) (v' := .bool false) rfl (ff (by omega)) ?_
  refine J.cond_false rfl ?_
  refine J.skip ?_
  refine J.n_then ?_
  refine J.seq ?_
  refine J.region ?_
  refine J.op (Yd.buildS (pl := [(0, 1)]) Try.underlying66 (by kernel_rfl) ti66 rfl rfl) rfl ?_
  refine J.eff (Ye.box (S := [(0, 1, [.slice none 0 0])]) rfl (by simp [SegAll, SegOK, Value.cells])) rfl ?_
  rintro _ w1 ⟨b16_0, rfl, hb_, c16_0, x1⟩
  have fr_b16_0 : Fr w.heap.size (some b16_0) := Fr.le (Fr.blk hb_) e0.size
  have e0 := e0.trans x1
  clear x1 hb_
  refine J.op (Yd.assign rfl) rfl ?_
  refine J.nil ?_
  refine J.n_then ?_
  refine J.seq ?_
  have hw := Wr.new (TW := 66) (E := 5) (Ge w1.heap.size) c16_0
  have hbw : Hb (Ge w1.heap.size) w1 := Hb.ge (Nat.le_refl _)
  have hek := e0.size
  refine J.regionG (Thb (Ge w1.heap.size) b16_0) [(0, true), (1, true), (2, true), (3, true), (7, true), (8, true), (9, true)] [(4, 1), (10, 1), (11, 1), (5, 1), (12, 1), (6, 0)] [(13, false)] mix (by kernel_rfl) ?_
  refine J.s_op rfl (fun _ => Yd.move rfl) rfl ?_
  refine J.s_op rfl (fun _ => Yd.move rfl) rfl ?_
  refine J.s_op rfl (fun _ => Yd.nilCheck rfl) rfl ?_
  refine J.s_op rfl (fun _ => Yd.cast (Yd.fieldA Try.underlying56 rfl ti3 rfl rfl) (show _ = Value.pointer (some ⟨b, 0, none⟩) from rfl)) rfl ?_
  refine J.s_op rfl (fun _ => Yd.move rfl) rfl ?_
  refine J.s_op rfl (fun _ => Yd.nilCheck rfl) rfl ?_
  refine J.s_op rfl (fun _ => Yd.cast (Yd.fieldA Try.underlying56 rfl ti54 rfl rfl) (show _ = Value.pointer (some ⟨b, 1, none⟩) from rfl)) rfl ?_
  refine J.s_nil ?_
  refine J.g_op rfl (fun w1 ht => Yd.load pl3 rfl (Cel.cell1 (Cel.ext hc (e0.th' (Thb.th ht (fr_b16_0 _ rfl) hek))) 0 rfl)) rfl ?_
  refine J.g_op rfl (fun w1 ht => Yd.load pl54 rfl (Cel.cell1 (Cel.ext hc (e0.th' (Thb.th ht (fr_b16_0 _ rfl) hek))) 1 rfl)) rfl ?_
  refine J.g_op rfl (fun w1 ht => Yd.lenE (K := entS) Try.underlying54 rfl (Er.ext hr (e0.th' (Thb.th ht (fr_b16_0 _ rfl) hek)))) rfl ?_
  refine J.g_op rfl (fun _ _ => Yd.cv_i_64 Try.underlying3 Try.underlying68 rfl (by first | omega | exact idx_u8' _ | (simp only [Int.toNat_natCast]; omega) | (simp only [List.length_map, List.length_drop, List.length_take, List.length_append, List.length_replicate]; omega) | (simp <;> omega))) rfl ?_
  refine J.g_op rfl (fun _ _ => Yd.cv_i_64 Try.underlying3 Try.underlying68 rfl (by first | omega | exact idx_u8' _ | (simp only [Int.toNat_natCast]; omega) | (simp only [List.length_map, List.length_drop, List.length_take, List.length_append, List.length_replicate]; omega) | (simp <;> omega))) rfl ?_
  refine J.g_eff rfl (Ye.call cl29 rfl (WNum_ok hw hbw (by have h92 := putN_len (UInt64.ofNat n.toNat); simp only [List.length_append, List.length_nil]; omega))) rfl (fun _ _ h => h.2.2) ?_
  rintro _ w2 ⟨rfl, hw2, x1⟩
  have hbw := Hb.le hbw x1.size
  have e0 := e0.th' (Thb.th x1 (fr_b16_0 _ rfl) hek)
  replace hw := hw2
  clear hw2 x1
  refine J.g_nil ?_
  refine J.s_eff rfl (Ye.call cl29 rfl (WNum_ok hw hbw (by have h92 := putN_len (UInt64.ofNat n.toNat); simp only [List.length_append, List.length_nil]; omega))) rfl ?_
  rintro _ w3 ⟨rfl, hw2, x1⟩
  have hbw := Hb.le hbw x1.size
  have e0 := e0.th' (Thb.th x1 (fr_b16_0 _ rfl) hek)
  replace hw := hw2
  clear hw2 x1
  refine J.s_nil ?_
  refine J.n_np ?_
  refine J.n_then ?_
  refine J.seq ?_
  refine J.seq ?_
  refine J.region ?_
  refine J.op (Yd.move rfl) rfl ?_
  refine J.op (Yd.nilCheck rfl) rfl ?_
  refine J.op (Yd.cast (Yd.fieldA Try.underlying56 rfl ti54 rfl rfl) (show _ = Value.pointer (some ⟨b, 1, none⟩) from rfl)) rfl ?_
  refine J.op (Yd.load pl54 rfl (Cel.cell1 (Cel.ext hc e0) 1 rfl)) rfl ?_
  refine J.op (Yd.lenE (K := entS) Try.underlying54 rfl (Er.ext hr e0)) rfl ?_
  refine J.op (Yd.move rfl) rfl ?_
  refine J.nil ?_
  refine J.n_then ?_
  refine J.block ?_
  refine J.loop (ι := Nat) (fun i => [(34, s), (35, I (es.length : Int)), (36, I (i : Int)), (0, .pointer (some ⟨b, 0, none⟩)), (3, .pointer (some ⟨b16_0, 0, none⟩))]) (fun i w' => i ≤ es.length ∧ Wr 66 5 (Ge w.heap.size) w' b16_0 (([] ++ putN (UInt64.ofNat n.toNat) ++ putN (UInt64.ofNat L.length)) ++ (L.take i).flatMap encK) ∧ Ext w w') (fun i => es.length - i) (0) ⟨rfl, rfl, rfl, rfl, rfl, trivial⟩ (⟨Nat.zero_le _, (by rw [List.take_zero, List.flatMap_nil, List.append_nil]; rw [Int.toNat_natCast, hlen] at hw; exact Wr.ge hw hek), e0⟩) ?_
  rintro i w4 ⟨hk, hw, e0⟩
  have hw0 := hw
  obtain ⟨sW, cW, oW, kW, aW⟩ := hw0
  have fr_sW : Fr w.heap.size sW.ownBlock := kW
  refine J.seq ?_
  refine J.region ?_
  refine J.op (Yd.lss rfl rfl) rfl ?_
  refine J.nil ?_
  refine J.n_then ?_
  refine J.seq ?_
  refine J.cond_dec rfl (fun hc1 => ?_) (fun hc1 => ?_)
  · skip
    refine J.skip ?_
    refine J.n_then ?_
    refine J.seq ?_
    refine J.block ?_
    refine J.seq ?_
    refine J.region ?_
    have hkr := h6.get entD kD i (by omega)
    have hkk := hK _ (getD_memE kD (show i < L.length by omega))
    have hx1 : 0 ≤ (es.getD i entD).1 ∧ (es.getD i entD).1 ≤ 1099511627776 := by rw [hkr.c]; exact hkk.1
    have hx2 : 0 ≤ (es.getD i entD).2.1 ∧ (es.getD i entD).2.1 ≤ 1099511627776 := by rw [hkr.m]; exact hkk.2.1
    have hky := hkr.bs
    refine J.op (Yd.idxE (K := entS) Try.underlying54 ti60 rfl rfl (Er.ext hr e0) (by first | omega | exact idx_u8' _ | (simp only [Int.toNat_natCast]; omega) | (simp only [List.length_map, List.length_drop, List.length_take, List.length_append, List.length_replicate]; omega) | (simp <;> omega))) rfl ?_
    refine J.op (Yd.loadEd (K := entS) entD ag60 ti60 rfl (Er.ext hr e0) (by first | omega | exact idx_u8' _ | (simp only [Int.toNat_natCast]; omega) | (simp only [List.length_map, List.length_drop, List.length_take, List.length_append, List.length_replicate]; omega) | (simp <;> omega))) rfl ?_
    refine J.eff (Ye.alloc ti60 (S := [(0, 3, [I 0, I 0, nilS])]) (by simp [SegAll, SegOK, Value.cells, nilS])) rfl ?_
    rintro _ w5 ⟨b5_4, rfl, hb_, c5_4, x1⟩
    have ap_b16_0_b5_4 : Ap (some b16_0) (some b5_4) := Ap.mk (Cel.live cW) (Fr.blk hb_)
    have ap_sW_b5_4 : Ap sW.ownBlock (some b5_4) := Ap.mk (Ow.live oW) (Fr.blk hb_)
    have fr_b5_4 : Fr w.heap.size (some b5_4) := Fr.le (Fr.blk hb_) e0.size
    have e0 := e0.trans x1
    have cW := cW.ext x1
    have oW := oW.ext x1
    clear x1 hb_
    refine J.eff0 (Ye.storeA (ys := entS.c (es.getD (i : Int).toNat entD)) ti60 c5_4 0 rfl rfl rfl rfl (by rfl) (ent_one hsk _ (getD_memE entD (by rw [Int.toNat_natCast]; omega)))) ?_
    rintro _ w6 ⟨cX, hu⟩
    simp only [List.set_cons_zero, List.set_cons_succ] at cX
    have hg := hu.gb
    have cW := Cel.gbk cW hg ap_b16_0_b5_4
    have oW := Ow.gbk oW hg ap_sW_b5_4
    have e0 := Ext.gbk e0 fr_b5_4 hg
    clear hg
    replace c5_4 := cX
    clear cX hu
    refine J.nil ?_
    refine J.n_then ?_
    have c5_4 := Cel.s3 c5_4
    have hw := Wr.kn cW oW aW
    have hbw := Hb.kn w6 sW.ownBlock
    have htc := Thb.refl (Kn w6 sW.ownBlock) b16_0 w6
    have c5_4k := c5_4
    have e0k := e0
    have hfr2 : ∀ q ∈ [some b16_0, sW.ownBlock], Fr w.heap.size q := by intro q hq; simp only [List.mem_cons, List.mem_nil_iff, or_false] at hq; rcases hq with rfl | rfl; exact fr_b16_0; exact fr_sW
    refine J.regionG (Thb (Kn w6 sW.ownBlock) b16_0) [(0, true), (1, true), (5, true), (9, true)] [(2, 1), (6, 1), (10, 1), (3, 1), (7, 1), (4, 0), (8, 0)] [(11, false)] mix (by kernel_rfl) ?_
    refine J.s_op rfl (fun _ => Yd.move rfl) rfl ?_
    refine J.s_op rfl (fun _ => Yd.cast (Yd.fieldA Try.underlying60 rfl ti3 rfl rfl) (show _ = Value.pointer (some ⟨b5_4, 0, none⟩) from rfl)) rfl ?_
    refine J.s_op rfl (fun _ => Yd.cast (Yd.fieldA Try.underlying60 rfl ti3 rfl rfl) (show _ = Value.pointer (some ⟨b5_4, 1, none⟩) from rfl)) rfl ?_
    refine J.s_op rfl (fun _ => Yd.cast (Yd.fieldA Try.underlying60 rfl ti29 rfl rfl) (show _ = Value.pointer (some ⟨b5_4, 2, none⟩) from rfl)) rfl ?_
    refine J.s_nil ?_
    refine J.g_op rfl (fun w1 ht => Yd.load pl3 rfl (Cel.cell1 (Cel.tnk c5_4k (Thb.tn (Thb.trans htc ht)) (ApL.two (Ap.symm ap_b16_0_b5_4) (Ap.symm ap_sW_b5_4))) 0 rfl)) rfl ?_
    refine J.g_op rfl (fun w1 ht => Yd.load pl3 rfl (Cel.cell1 (Cel.tnk c5_4k (Thb.tn (Thb.trans htc ht)) (ApL.two (Ap.symm ap_b16_0_b5_4) (Ap.symm ap_sW_b5_4))) 1 rfl)) rfl ?_
    refine J.g_op rfl (fun w1 ht => Yd.load pl29 rfl (Cel.cell1 (Cel.tnk c5_4k (Thb.tn (Thb.trans htc ht)) (ApL.two (Ap.symm ap_b16_0_b5_4) (Ap.symm ap_sW_b5_4))) 2 rfl)) rfl ?_
    refine J.g_op rfl (fun _ _ => Yd.cv_i_64 Try.underlying3 Try.underlying68 rfl (by first | omega | exact idx_u8' _ | (simp only [Int.toNat_natCast]; omega) | (simp only [List.length_map, List.length_drop, List.length_take, List.length_append, List.length_replicate]; omega) | (simp <;> omega))) rfl ?_
    refine J.g_op rfl (fun _ _ => Yd.cv_i_64 Try.underlying3 Try.underlying68 rfl (by first | omega | exact idx_u8' _ | (simp only [Int.toNat_natCast]; omega) | (simp only [List.length_map, List.length_drop, List.length_take, List.length_append, List.length_replicate]; omega) | (simp <;> omega))) rfl ?_
    refine J.g_eff rfl (Ye.call cl29 rfl (WNum_ok hw hbw (by have h91 := encKs_len (hK.take i); have h92 := putN_len (UInt64.ofNat n.toNat); have h93 := putN_len (UInt64.ofNat L.length); have h94 := putN_len (UInt64.ofNat (es.getD (i : Int).toNat entD).1.toNat); have h95 := putN_len (UInt64.ofNat (es.getD (i : Int).toNat entD).2.1.toNat); simp only [List.length_append, List.length_nil, List.length_take] at *; omega))) rfl (fun _ _ h => h.2.2) ?_
    rintro _ w7 ⟨rfl, hw2, x1⟩
    have hbw := Hb.le hbw x1.size
    have htc := Thb.trans htc x1
    have e0 := Ext.tnk e0k hfr2 (Thb.tn htc)
    have c5_4 := Cel.tnk c5_4k (Thb.tn htc) (ApL.two (Ap.symm ap_b16_0_b5_4) (Ap.symm ap_sW_b5_4))
    replace hw := hw2
    clear hw2 x1
    refine J.g_eff rfl (Ye.call cl29 rfl (WNum_ok hw hbw (by have h91 := encKs_len (hK.take i); have h92 := putN_len (UInt64.ofNat n.toNat); have h93 := putN_len (UInt64.ofNat L.length); have h94 := putN_len (UInt64.ofNat (es.getD (i : Int).toNat entD).1.toNat); have h95 := putN_len (UInt64.ofNat (es.getD (i : Int).toNat entD).2.1.toNat); simp only [List.length_append, List.length_nil, List.length_take] at *; omega))) rfl (fun _ _ h => h.2.2) ?_
    rintro _ w8 ⟨rfl, hw2, x1⟩
    have hbw := Hb.le hbw x1.size
    have htc := Thb.trans htc x1
    have e0 := Ext.tnk e0k hfr2 (Thb.tn htc)
    have c5_4 := Cel.tnk c5_4k (Thb.tn htc) (ApL.two (Ap.symm ap_b16_0_b5_4) (Ap.symm ap_sW_b5_4))
    replace hw := hw2
    clear hw2 x1
    refine J.g_nil ?_
    refine J.s_eff rfl (Ye.call cl30 rfl (WFixed_ok hw hbw (Rd.ext hky e0) (by have h91 := encKs_len (hK.take i); have h92 := putN_len (UInt64.ofNat n.toNat); have h93 := putN_len (UInt64.ofNat L.length); have h94 := putN_len (UInt64.ofNat (es.getD (i : Int).toNat entD).1.toNat); have h95 := putN_len (UInt64.ofNat (es.getD (i : Int).toNat entD).2.1.toNat); simp only [List.length_append, List.length_nil, List.length_take] at *; omega))) rfl ?_
    rintro _ w9 ⟨rfl, hw2, x1⟩
    have hbw := Hb.le hbw x1.size
    have htc := Thb.trans htc x1
    have e0 := Ext.tnk e0k hfr2 (Thb.tn htc)
    have c5_4 := Cel.tnk c5_4k (Thb.tn htc) (ApL.two (Ap.symm ap_b16_0_b5_4) (Ap.symm ap_sW_b5_4))
    replace hw := hw2
    clear hw2 x1
    refine J.s_nil ?_
    refine J.n_np ?_
    refine J.n_block ?_
    refine J.n_then ?_
    refine J.region ?_
    refine J.op (Yd.add rfl rfl (by first | omega | exact idx_u8' _ | (simp only [Int.toNat_natCast]; omega) | (simp only [List.length_map, List.length_drop, List.length_take, List.length_append, List.length_replicate]; omega) | (simp <;> omega))) rfl ?_
    refine J.op (Yd.move rfl) rfl ?_
    refine J.nil ?_
    refine J.n_then ?_
    exact J.round (i + 1) ⟨rfl, rfl, rfl, rfl, rfl, trivial⟩ (⟨by omega, (by have h9 := Wr.kge hw e0k.size fr_sW; rw [Int.toNat_natCast, hkr.c, hkr.m] at h9; rw [encK_take (by omega), show encK (L.getD i kD) = putN (UInt64.ofNat (L.getD i kD).1.toNat) ++ putN (UInt64.ofNat (L.getD i kD).2.1.toNat) ++ (L.getD i kD).2.2 from rfl]; simp only [List.append_assoc] at h9 ⊢; exact h9), e0⟩) (by omega)
  · skip
    refine J.exit ?_
    refine J.x_then ?_
    refine J.x_then ?_
    refine J.x_block ?_
    refine J.n_then ?_
    refine J.seq ?_
    refine J.region ?_
    refine J.op (Yd.move rfl) rfl ?_
    refine J.eff (Ye.call cl31 rfl (WDone_ok hw (by have h91 := encKs_len (hK.take i); have h92 := putN_len (UInt64.ofNat n.toNat); have h93 := putN_len (UInt64.ofNat L.length); simp only [List.length_append, List.length_nil, List.length_take] at *; omega))) rfl ?_
    rintro s54_10 w10 ⟨os54_10, x1⟩
    have ap_b16_0_s54_10 : Ap (some b16_0) s54_10.ownBlock := Ap.mk (Cel.live cW) (Ow.fr os54_10)
    have ap_sW_s54_10 : Ap sW.ownBlock s54_10.ownBlock := Ap.mk (Ow.live oW) (Ow.fr os54_10)
    have fr_s54_10 : Fr w.heap.size s54_10.ownBlock := Fr.le (Ow.fr os54_10) e0.size
    replace os54_10 := Ow.base os54_10 e0.size
    have e0 := e0.trans x1
    have cW := cW.ext x1
    have oW := oW.ext x1
    clear x1
    refine J.op (Yd.assign rfl) rfl ?_
    refine J.nil ?_
    refine J.n_then ?_
    refine J.ret ?_
    exact J.ret1 rfl rfl (⟨_, rfl, (by have h9 := os54_10; rw [List.take_of_length_le (by omega)] at h9; exact h9), e0⟩)

theorem Save_sk {base b : Nat} {n : Int} {L : List Key} {w : World} (hs : Sk 56 60 base w b n L) (hK : KOK L) (hn : 1 ≤ n ∧ n ≤ 1000) (hL : L.length ≤ 1000) : C Try.prog 17 [.pointer (some ⟨b, 0, none⟩)] w (Ret fun v w' => Ob w.heap.size 5 w' v (savB n L) ∧ Ext w w') := by
  obtain ⟨s, es, h1, h2, h3, h4, h5, h6⟩ := hs
  exact Save_raw h2 (Es.rd h3) h6 hK hn hL
end Ytfefphcmfhabiaa
end Go.Proofs
