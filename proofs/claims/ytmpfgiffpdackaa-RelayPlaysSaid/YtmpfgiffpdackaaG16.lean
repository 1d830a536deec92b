import Derived.Test.YtmpfgiffpdackaaT
import Derived.Test.YtmpfgiffpdackaaG15
set_option linter.unusedVariables false
set_option linter.unusedSimpArgs false
set_option maxRecDepth 100000
set_option maxHeartbeats 4000000
namespace Go.Proofs
open Go.X Go.RowKit
namespace Ytmpfgiffpdackaa
theorem TLen1 {xs : List (Option Nat)} {w0 w : World} {b b2 i : Nat} {c d : Int × Int × Int} {R R' : List R5} {to : Key} (h : RT 65 36 52 xs w0 w b c R b2 d R') : C Try.prog 15 [.pointer (some ⟨b, 0, none⟩), Str to] w (Ret fun v w' => v = I ((R.filter (toB to)).length : Int) ∧ Ext w w') := by
  obtain ⟨K, q, s2, es2, h0⟩ := h
  obtain ⟨ex, now, last⟩ := c
  have := LenQ_ok (to := to) h0.rq
  rw [h0.qr to, List.length_map] at this
  exact this
theorem TNow1 {xs : List (Option Nat)} {w0 w : World} {b b2 i : Nat} {c d : Int × Int × Int} {R R' : List R5} (h : RT 65 36 52 xs w0 w b c R b2 d R') : C Try.prog 14 [.pointer (some ⟨b, 0, none⟩)] w (Ret fun v w' => v = I c.2.1 ∧ Ext w w') := by
  obtain ⟨K, q, s2, es2, h0⟩ := h
  obtain ⟨ex, now, last⟩ := c
  exact NowQ_ok h0.rq
theorem TList1 {xs : List (Option Nat)} {w0 w : World} {b b2 i : Nat} {c d : Int × Int × Int} {R R' : List R5} {to : Key} (h : RT 65 36 52 xs w0 w b c R b2 d R') (hg : GR i c R) (hi8 : i ≤ 1000) : C Try.prog 13 [.pointer (some ⟨b, 0, none⟩), Str to] w (Ret fun u w' => ∃ es', Es itmS w.heap.size 36 w' u es' ∧ LsB w' es' ((R.filter (toB to)).map strp) ∧ Ext w w') := by
  obtain ⟨K, q, s2, es2, h0⟩ := h
  obtain ⟨ex, now, last⟩ := c
  rw [← h0.qr to]
  exact ListQ_bs h0.rq (fun x hx => Nat.le_trans (h0.qr.bd hg to x hx).2 (by decide)) (Nat.le_trans (h0.qr.len hg to) hi8)
theorem TGet1 {xs : List (Option Nat)} {w0 w : World} {b b2 i : Nat} {c d : Int × Int × Int} {R R' : List R5} {to : Key} {id : Int} (h : RT 65 36 52 xs w0 w b c R b2 d R') (hg : GR i c R) (hi8 : i ≤ 1000) : C Try.prog 23 [.pointer (some ⟨b, 0, none⟩), Str to, I id] w (Ret fun u w' => ∃ x : Itm, u = .tuple #[.agg (itmS.c x).toArray, I (gtE ((R.filter (toB to)).map strp) id)] ∧ Eq3 w' x (gtI ((R.filter (toB to)).map strp) id) ∧ Ext w w') := by
  obtain ⟨K, q, s2, es2, h0⟩ := h
  obtain ⟨ex, now, last⟩ := c
  rw [← h0.qr to]
  exact GetQ_any h0.rq (fun x hx => Nat.le_trans (h0.qr.bd hg to x hx).2 (by decide))
theorem TPut1 {xs : List (Option Nat)} {w0 w : World} {b b2 i : Nat} {c d : Int × Int × Int} {R R' : List R5} {fr to : Key} {a : Value} {l : List UInt8} (h : RT 65 36 52 xs w0 w b c R b2 d R') (hg : GR i c R) (hi8 : i ≤ 1000) (hfl : fr.length ≤ 1000000) (htl : to.length ≤ 1000000) (ha : ∀ W, Ext w0 W → Bs W a l) : C Try.prog 10 [.pointer (some ⟨b, 0, none⟩), Str fr, Str to, a] w (Ret fun u w' => u = .tuple #[I (putM c R fr to l).1, I (putM c R fr to l).2.1] ∧ RT 65 36 52 xs w0 w' b (putM c R fr to l).2.2.1 (putM c R fr to l).2.2.2 b2 d R' ∧ Tx w0.heap.size xs w w') := by
  obtain ⟨K, q, s2, es2, h0⟩ := h
  obtain ⟨ex, now, last⟩ := c
  have hw := ha w h0.e
  by_cases hn : nameB fr = true ∧ nameB to = true
  · by_cases hl : 6000 < l.length
    · have e : putM (ex, now, last) R fr to l = (0, 11, (ex, now, last), R) := by unfold putM; rw [if_pos hn, if_pos hl]
      rw [e]
      exact (PutQ_11 h0.rq ⟨hfl, hn.1⟩ ⟨htl, hn.2⟩ hw hl).ret fun u w' h => ⟨h.1, ⟨K, q, s2, es2, h0.ext h.2⟩, h.2.tx⟩
    · have hq := congrArg List.length (h0.qr to)
      rw [List.length_map] at hq
      by_cases hf : 30 ≤ (R.filter (toB to)).length
      · have e : putM (ex, now, last) R fr to l = (0, 9, (ex, now, last), R) := by unfold putM; rw [if_pos hn, if_neg hl, if_pos hf]
        rw [e]
        exact (PutQ_full h0.rq ⟨hfl, hn.1⟩ ⟨htl, hn.2⟩ hw (by omega) (by omega)).ret fun u w' h => ⟨h.1, ⟨K, q, s2, es2, h0.ext h.2⟩, h.2.tx⟩
      · have e : putM (ex, now, last) R fr to l = (last + 1, 0, (ex, now, last + 1), R ++ [((last + 1, fr, to, now, l) : R5)]) := by unfold putM; rw [if_pos hn, if_neg hl, if_neg hf]
        rw [e]
        refine (PutQ_ok2 h0.rq ⟨hfl, hn.1⟩ ⟨htl, hn.2⟩ (fun w' ht => ha w' (Ext.thK h0.e ht h0.rq.bb (fun k hk => (h0.rq.kb k hk).1))) (by omega) (by omega) (by have := hg.lb; simp only at this; omega)).ret fun u w' h => ?_
        have t := h0.impl h.2 (h0.qr.put to fr (last + 1) now l)
        exact ⟨h.1, t.1, t.2⟩
  · have e : putM (ex, now, last) R fr to l = (0, 1, (ex, now, last), R) := by unfold putM; rw [if_neg hn]
    rw [e]
    exact (PutQ_1 h0.rq hw hfl htl hn).ret fun u w' h => ⟨h.1, ⟨K, q, s2, es2, h0.ext h.2⟩, h.2.tx⟩
theorem TAck1 {xs : List (Option Nat)} {w0 w : World} {b b2 i : Nat} {c d : Int × Int × Int} {R R' : List R5} {to : Key} {s : Value} {ids : List Int} (h : RT 65 36 52 xs w0 w b c R b2 d R') (hg : GR i c R) (hi8 : i ≤ 1000) (hi : Rd w0 s (ids.map fun x => I x)) : C Try.prog 16 [.pointer (some ⟨b, 0, none⟩), Str to, s] w (Ret fun u w' => u = I ((R.length : Int) - ((ackM R to ids).length : Int)) ∧ RT 65 36 52 xs w0 w' b c (ackM R to ids) b2 d R' ∧ Tx w0.heap.size xs w w') := by
  obtain ⟨K, q, s2, es2, h0⟩ := h
  obtain ⟨ex, now, last⟩ := c
  refine (AckQ_ok h0.rq (hi.ext h0.e) (fun hz => h0.rq.outA hi (by rw [List.length_map]; exact hz))).ret fun u w' h => ?_
  obtain ⟨h1, q', h2, h3⟩ := h
  have t := h0.impl h3 (h0.qr.ack hg h2)
  exact ⟨by rw [h1, h0.qr.ackn hg], t.1, t.2⟩
theorem TTick1 {xs : List (Option Nat)} {w0 w : World} {b b2 i : Nat} {c d : Int × Int × Int} {R R' : List R5} {n : Int} (h : RT 65 36 52 xs w0 w b c R b2 d R') (hg : GR i c R) (hi8 : i ≤ 1000) : C Try.prog 12 [.pointer (some ⟨b, 0, none⟩), I n] w (Ret fun u w' => u = I ((R.length : Int) - ((tickM c R n).2.length : Int)) ∧ RT 65 36 52 xs w0 w' b (tickM c R n).1 (tickM c R n).2 b2 d R' ∧ Tx w0.heap.size xs w w') := by
  obtain ⟨K, q, s2, es2, h0⟩ := h
  obtain ⟨ex, now, last⟩ := c
  have hnd : (q.map (·.1)).Nodup := by obtain ⟨D, mb, m, hx⟩ := h0.rq; exact hx.nodup
  by_cases hn : n < 1
  · have e : tickM (ex, now, last) R n = ((ex, now, last), R) := by unfold tickM; rw [if_pos hn]
    rw [e]
    exact (Tick0_ok hn).ret fun u w' h => ⟨by rw [h.1, Int.sub_self], ⟨K, q, s2, es2, h0.ext h.2⟩, h.2.tx⟩
  · have e : tickM (ex, now, last) R n = ((ex, tkI now n, last), R.filter fun x => !agR (tkI now n) ex x) := by unfold tickM; rw [if_neg hn]
    rw [e]
    have ht := QR_tot hnd h0.qr
    refine (TickQ_ok h0.rq (by omega) hg.ex.1 hg.nb (fun p hp x hx => (h0.qr.bd hg p.1 x (by rw [qget_at hnd hp]; exact hx)).1) (by rw [ht]; have := hg.len; omega)).ret fun u w' h => ?_
    have hq2 := h0.qr.tick (tkI now n) ex
    have ht2 := QR_tot (by rw [List.map_map]; exact hnd) hq2
    have t := h0.impl h.2 hq2
    exact ⟨by rw [h.1, ht, ht2], t.1, t.2⟩
end Ytmpfgiffpdackaa
end Go.Proofs
