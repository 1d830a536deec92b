import Derived.Test.YtmpfgiffpdackaaT
import Derived.Test.YtmpfgiffpdackaaG8
set_option linter.unusedVariables false
set_option linter.unusedSimpArgs false
set_option maxRecDepth 100000
set_option maxHeartbeats 4000000
namespace Go.Proofs
open Go.X Go.RowKit
namespace Ytmpfgiffpdackaa
theorem New_ok {t : Int} {w : World} : C Try.prog 9 [I t] w (Ret fun u w' => ∃ b K, u = .pointer (some ⟨b, 0, none⟩) ∧ Rq 65 36 w.heap.size K w' b (exI t, 0, 0) [] ∧ Ext w w') := by
  refine New_raw.ret fun u w' h => ?_
  obtain ⟨b, mb, rfl, hb, hmb, hne, hc, hm, hx⟩ := h
  exact ⟨b, fun k => w.heap.size ≤ k ∧ k < w'.heap.size, rfl, ⟨fun _ => False, mb, [], ⟨fun k hk => hk, fun _ h => h.elim, ⟨⟨hb, hc.lt⟩, id⟩, ⟨⟨hmb, hm.lt⟩, id⟩, hne, hc, hm, trivial, List.Pairwise.nil, by simp⟩⟩, hx⟩
theorem LenQ_ok {base b : Nat} {K : Nat → Prop} {ex now last : Int} {q : List (Key × List It)} {w : World} {to : Key} (h : Rq 65 36 base K w b (ex, now, last) q) : C Try.prog 15 [.pointer (some ⟨b, 0, none⟩), Str to] w (Ret fun v w' => v = I ((qget q to).length : Int) ∧ Ext w w') := by
  obtain ⟨D, mb, m, hx⟩ := h
  obtain ⟨⟨es, ho, hr2⟩, hrow⟩ := hx.get to
  have hlen := R2.len hr2
  rw [← hlen]
  exact Len_raw hx.cel hx.mp (Es.rd ho)
theorem NowQ_ok {base b : Nat} {K : Nat → Prop} {ex now last : Int} {q : List (Key × List It)} {w : World} (h : Rq 65 36 base K w b (ex, now, last) q) : C Try.prog 14 [.pointer (some ⟨b, 0, none⟩)] w (Ret fun v w' => v = I now ∧ Ext w w') := by
  obtain ⟨D, mb, m, hx⟩ := h
  exact Now_raw hx.cel hx.mp
theorem GetQ_no {base b : Nat} {K : Nat → Prop} {ex now last : Int} {q : List (Key × List It)} {w : World} {to : Key} {id : Int} (h : Rq 65 36 base K w b (ex, now, last) q) (hi : idxI (eqP id) (qget q to) = -1) : C Try.prog 23 [.pointer (some ⟨b, 0, none⟩), Str to, I id] w (Ret fun u w' => u = .tuple #[.agg (itmS.c itmD).toArray, I 7] ∧ Ext w w') := by
  obtain ⟨D, mb, m, hx⟩ := h
  obtain ⟨⟨es, ho, hr2⟩, hrow⟩ := hx.get to
  have hlen := R2.len hr2
  exact Get_no hx.cel hx.mp (Es.rd ho) (by rw [← hi]; exact R2.idx (fun a b h => by unfold eqI eqP; rw [h.1.1]) hr2)
theorem ListQ_ok {base b : Nat} {K : Nat → Prop} {ex now last : Int} {q : List (Key × List It)} {w : World} {to : Key} (h : Rq 65 36 base K w b (ex, now, last) q) (hl : ∀ x ∈ qget q to, x.2.2.2.length ≤ 1000000) (hn : (qget q to).length ≤ 1000) : C Try.prog 13 [.pointer (some ⟨b, 0, none⟩), Str to] w (Ret fun u w' => ∃ es', Es itmS w.heap.size 36 w' u es' ∧ es'.map hdr = (qget q to).map hdP ∧ Ext w w') := by
  obtain ⟨D, mb, m, hx⟩ := h
  obtain ⟨⟨es, ho, hr2⟩, hrow⟩ := hx.get to
  have hlen := R2.len hr2
  refine (List_raw hx.cel hx.mp (Es.rd ho) (fun i hi => ?_) (by omega)).ret fun u w' h => ?_
  · obtain ⟨b', hb', hr'⟩ := R2.mem hr2 (getD_memE itmD hi)
    exact ⟨_, hr'.1.2.2.2, hl _ hb'⟩
  · obtain ⟨es', h1, h2, h3⟩ := h
    exact ⟨es', h1, by rw [h2, hdr_R2 hr2], h3⟩
theorem PutQ_full {base b : Nat} {K : Nat → Prop} {ex now last : Int} {q : List (Key × List It)} {w : World} {fr to : Key} {a : Value} {l : List UInt8} (h : Rq 65 36 base K w b (ex, now, last) q) (hn1 : fr.length ≤ 1000000 ∧ nameB fr = true) (hn2 : to.length ≤ 1000000 ∧ nameB to = true) (ha : Bs w a l) (hl : l.length ≤ 6000) (hf : 30 ≤ (qget q to).length) : C Try.prog 10 [.pointer (some ⟨b, 0, none⟩), Str fr, Str to, a] w (Ret fun v w' => v = .tuple #[I 0, I 9] ∧ Ext w w') := by
  obtain ⟨D, mb, m, hx⟩ := h
  obtain ⟨⟨es, ho, hr2⟩, hrow⟩ := hx.get to
  have hlen := R2.len hr2
  exact Put_full hx.cel hx.mp (Es.rd ho) ha hn1 hn2 hl (by omega)
theorem PutQ_ok {base b : Nat} {K : Nat → Prop} {ex now last : Int} {q : List (Key × List It)} {w : World} {fr to : Key} {a : Value} {l : List UInt8} (h : Rq 65 36 base K w b (ex, now, last) q) (hn1 : fr.length ≤ 1000000 ∧ nameB fr = true) (hn2 : to.length ≤ 1000000 ∧ nameB to = true) (ha : Bs w a l) (hao : Out K a.ownBlock) (hl : l.length ≤ 6000) (hf : (qget q to).length < 30) (hlast : 0 ≤ last ∧ last ≤ 1000000000) :
    C Try.prog 10 [.pointer (some ⟨b, 0, none⟩), Str fr, Str to, a] w (Ret fun u w' => u = .tuple #[I (last + 1), I 0] ∧ RqP 65 36 base K w w' b (ex, now, last + 1) (qset to (qget q to ++ [(last + 1, fr, now, l)]) q)) := by
  obtain ⟨D, mb, m, hx⟩ := h
  obtain ⟨⟨es, ho, hr2⟩, hrow⟩ := hx.get to
  have hlen := R2.len hr2
  have hV := hrow
  refine (Put_raw hx.cel hx.mp ho (fun k e1 e2 => by cases e1; cases e2; exact hx.ne rfl) (fun k e1 e2 => by cases e1; exact (hrow _ e2).2.2.1 rfl) (fun k e1 e2 => by cases e1; exact (hrow _ e2).2.2.2 rfl) hn1 hn2 (fun w' ht => Rd.tnk ha ht (fun r hr k e1 e2 => ?_)) hl (by omega) hlast).ret fun u w' h => ?_
  · simp only [List.mem_cons, List.mem_nil_iff, or_false] at hr
    rcases hr with rfl | rfl | rfl
    · cases e2; exact hao _ e1 hx.bb.1
    · cases e2; exact hao _ e1 hx.mm.1
    · exact hao _ e1 (hrow _ e2).1
  · obtain ⟨v', d, rfl, hc', hm', ho', hd', hsf, abv', amv', adv, ht⟩ := h
    have hout : OutD D [some b, some mb, ((mget m to).getD nilS).ownBlock] := fun x hx' j e hd => by
      simp only [List.mem_cons, List.mem_nil_iff, or_false] at hx'
      rcases hx' with rfl | rfl | rfl
      · cases e; exact hx.bb.2 hd
      · cases e; exact hx.mm.2 hd
      · exact (hrow j e).2.1 hd
    have hsz := ht.size
    refine ⟨rfl, fun k => K k ∨ (w.heap.size ≤ k ∧ k < w'.heap.size), ⟨fun k => D k ∨ d.ownBlock = some k, mb, mset to v' m, RqX.upd hx ht hc' hm' ⟨_, ho', R2.app (R2.imp (fun _ _ h => (h.tnk ht hout).mono (fun _ h => .inl h)) hr2) (R2.one ⟨⟨rfl, rfl, rfl, Ow.rd hd'⟩, fun k e => .inr e, Ow.live hd'⟩)⟩ hsf (fun _ h => .inl h) (fun k hk => ?_) (fun k hk => ?_) (fun _ h => .inl h) (fun k hk hd => ?_) (fun k e => ?_)⟩, fun k hk => hk.imp id (·.1), ⟨_, fun x hx' => ?_, ht⟩⟩
    · rcases hk with hk | hk
      · have := hx.kb k hk; omega
      · exact ⟨Nat.le_trans (by have := (hx.kb _ hx.bb.1); omega) hk.1, hk.2⟩
    · rcases hk with hk | hk
      · exact .inl (hx.dk k hk)
      · exact .inr ⟨Ow.fr hd' k hk, Ow.live hd' k hk⟩
    · rcases hd with hd | hd
      · exact hd
      · have := Ow.fr hd' k hd; omega
    · have hlv := (Es.live ho') k e
      refine ⟨?_, ?_, fun e2 => abv' _ rfl (by rw [e, e2]), fun e2 => amv' _ rfl (by rw [e, e2])⟩
      · rcases hsf k e with h1 | h1
        · exact .inl (hrow k h1).1
        · exact .inr ⟨h1, hlv⟩
      · rintro (hd | hd)
        · rcases hsf k e with h1 | h1
          · exact (hrow k h1).2.1 hd
          · have := (hx.kb _ (hx.dk _ hd)).2; omega
        · exact adv k hd e
    · simp only [List.mem_cons, List.mem_nil_iff, or_false] at hx'
      rcases hx' with rfl | rfl | rfl
      · exact .inl rfl
      · exact .inr fun k e => by cases e; exact hx.mm.1
      · exact .inr fun k e => (hrow k e).1
theorem AckQ_ok {base b : Nat} {K : Nat → Prop} {ex now last : Int} {q : List (Key × List It)} {w : World} {to : Key} {s : Value} {ids : List Int} (h : Rq 65 36 base K w b (ex, now, last) q) (hi : Rd w s (ids.map fun x => I x)) (hio : 0 < ids.length → Out K s.ownBlock) : C Try.prog 16 [.pointer (some ⟨b, 0, none⟩), Str to, s] w (Ret fun u w' => u = I (((qget q to).length : Int) - ((acks eqP ids (qget q to)).length : Int)) ∧ ∃ q', (∀ k, qget q' k = if k = to then acks eqP ids (qget q to) else qget q k) ∧ RqP 65 36 base K w w' b (ex, now, last) q') := by
  obtain ⟨D, mb, m, hx⟩ := h
  obtain ⟨⟨es, ho, hr2⟩, hrow⟩ := hx.get to
  have hlen := R2.len hr2
  refine (Ack_raw (ids := ids) hx.cel hx.mp ho (fun k e1 e2 => by cases e1; cases e2; exact hx.ne rfl) (fun k e1 e2 => by cases e1; exact (hrow _ e2).2.2.1 rfl) (fun k e1 e2 => by cases e1; exact (hrow _ e2).2.2.2 rfl) (Eq4.one hr2) (fun w' ht => ?_)).ret fun u w' h => ?_
  · rcases Nat.eq_zero_or_pos ids.length with h0 | h0
    · rw [List.eq_nil_of_length_eq_zero h0] at hi ⊢
      exact Rd.nilw hi
    · refine Rd.tnk hi ht (fun r hr k e1 e2 => ?_)
      simp only [List.mem_cons, List.mem_nil_iff, or_false] at hr
      rcases hr with rfl | rfl
      · cases e2; exact hio h0 _ e1 hx.mm.1
      · exact hio h0 _ e1 (hrow _ e2).1
  · obtain ⟨m', v', rfl, hc', hm', hmm, ho', hsf, abv', amv', ht⟩ := h
    have hout : OutD D [some mb, ((mget m to).getD nilS).ownBlock] := fun x hx' j e hd => by
      simp only [List.mem_cons, List.mem_nil_iff, or_false] at hx'
      rcases hx' with rfl | rfl
      · cases e; exact hx.mm.2 hd
      · exact (hrow j e).2.1 hd
    have hra := R2.acks (p := eqI) (p' := eqP) (R := Eq4 w D) (fun i a b h => by unfold eqI eqP; rw [h.1.1]) ids hr2
    have hsz := ht.size
    refine ⟨congrArg (fun z => I z) (by rw [hlen, R2.len hra]), ?_⟩
    have hth : Thb K b w w' := ⟨_, fun x hx' => by
      simp only [List.mem_cons, List.mem_nil_iff, or_false] at hx'
      rcases hx' with rfl | rfl
      · exact .inr fun k e => by cases e; exact hx.mm.1
      · exact .inr fun k e => (hrow k e).1, ht⟩
    have big : ∀ m1, m1 = mset to v' m → Mp w' mb m1 → ∃ q', (∀ k, qget q' k = if k = to then acks eqP ids (qget q to) else qget q k) ∧ RqP 65 36 base K w w' b (ex, now, last) q' := fun m1 e1 hm1 => by
      subst e1
      refine ⟨qset to (acks eqP ids (qget q to)) q, fun k => qget_set _ _ _ _, fun k => K k ∨ (w.heap.size ≤ k ∧ k < w'.heap.size), ⟨D, mb, mset to v' m, RqX.upd hx (ht.mono (fun r hr => List.mem_cons_of_mem _ hr)) hc' hm1 ⟨_, ho', R2.imp (fun _ _ h => h.tnk ht hout) hra⟩ hsf (fun _ h => .inl h) (fun k hk => ?_) (fun k hk => .inl (hx.dk k hk)) (fun _ h => h) (fun _ _ h => h) (fun k e => ?_)⟩, fun k hk => hk.imp id (·.1), hth⟩
      · rcases hk with hk | hk
        · have := hx.kb k hk; omega
        · exact ⟨Nat.le_trans (by have := (hx.kb _ hx.bb.1); omega) hk.1, hk.2⟩
      · have hlv := (Es.live ho') k e
        refine ⟨?_, ?_, fun e2 => abv' _ rfl (by rw [e, e2]), fun e2 => amv' _ rfl (by rw [e, e2])⟩
        · rcases hsf k e with h1 | h1
          · exact .inl (hrow k h1).1
          · exact .inr ⟨h1, hlv⟩
        · intro hd
          rcases hsf k e with h1 | h1
          · exact (hrow k h1).2.1 hd
          · have := (hx.kb _ (hx.dk _ hd)).2; omega
    rcases hmm with ⟨rfl, rfl, hee⟩ | hmm
    · cases hg : mget m' to with
      | some v0 => exact big m' (by rw [hg]; exact (mset_self hg).symm) hm'
      | none =>
        refine ⟨q, fun k => ?_, K, ⟨D, mb, m', hx.mbc (by rw [hg]; rfl) ht hm'⟩, fun k hk => .inl hk, hth⟩
        split
        · next e =>
          subst e
          exact ((acks_sub eqP ids (qget q k)).eq_of_length (by rw [← R2.len hra, hee, hlen])).symm
        · rfl
    · exact big m' hmm hm'
theorem TickQ_ok {base b : Nat} {K : Nat → Prop} {ex now last : Int} {q : List (Key × List It)} {w : World} {n : Int} (h : Rq 65 36 base K w b (ex, now, last) q) (hn1 : 1 ≤ n) (hex : 1 ≤ ex) (hnow : 0 ≤ now ∧ now ≤ 1099511627776) (hqb : ∀ p ∈ q, ∀ x ∈ p.2, 0 ≤ x.2.2.1 ∧ x.2.2.1 ≤ 1099511627776) (htq : tot q ≤ 1000000000) : C Try.prog 12 [.pointer (some ⟨b, 0, none⟩), I n] w (Ret fun u w' => u = I ((tot q : Int) - (tot (q.map fun p => (p.1, p.2.filter fun x => !agP (tkI now n) ex x)) : Int)) ∧ RqP 65 36 base K w w' b (ex, tkI now n, last) (q.map fun p => (p.1, p.2.filter fun x => !agP (tkI now n) ex x))) := by
  obtain ⟨D, mb, m, hx⟩ := h
  refine (Tick_x hx hn1 hex hnow hqb htq).ret fun u w' h => ?_
  obtain ⟨m', rfl, h1, h2⟩ := h
  exact ⟨rfl, K, ⟨D, mb, m', h1⟩, fun k hk => .inl hk, h2⟩

theorem Tick0_ok {b : Nat} {n : Int} {w : World} (hn : n < 1) : C Try.prog 12 [.pointer (some ⟨b, 0, none⟩), I n] w (Ret fun v w' => v = I 0 ∧ Ext w w') := by
  have e0 := Ext.refl w
  refine C.enter Try.func12 rfl Try.ntmps12 rfl ?_
  refine J.seq ?_
  refine J.region ?_
  refine J.eff (Ye.box (S := [(0, 1, [.pointer (some ⟨b, 0, none⟩)])]) rfl (by simp [SegAll, SegOK, Value.cells])) rfl ?_
  rintro _ w1 ⟨b2_0, rfl, hb_, c2_0, x1⟩
  have fr_b2_0 : Fr w.heap.size (some b2_0) := Fr.le (Fr.blk hb_) e0.size
  have e0 := e0.trans x1
  clear x1 hb_
  refine J.op (Yd.assign rfl) rfl ?_
  refine J.nil ?_
  refine J.n_then ?_
  refine J.seq ?_
  refine J.seq ?_
  refine J.region ?_
  refine J.op (Yd.load pl24 rfl (Cel.cell1 c2_0 0 rfl)) rfl ?_
  refine J.op (Yd.cast (Yd.eqPn Try.underlying24 rfl rfl) (show _ = Value.bool false from rfl)) rfl ?_
  refine J.op (Yd.move rfl) rfl ?_
  refine J.op_g rfl rfl rfl (Yd.move rfl) rfl ?_
  refine J.op_g rfl rfl rfl (Yd.lss rfl rfl) rfl ?_
  refine J.op (Yd.pick_f rfl rfl) rfl ?_
  refine J.nil ?_
  refine J.n_then ?_
  refine J.know (t := 13) (v' := .bool true) rfl (tt (by omega)) ?_
  refine J.cond_true rfl ?_
  refine J.seq ?_
  refine J.region ?_
  refine J.op (Yd.assign rfl) rfl ?_
  refine J.nil ?_
  refine J.n_then ?_
  refine J.ret ?_
  refine J.r_then ?_
  exact J.ret1 rfl rfl (⟨_, rfl, rfl, e0⟩)

theorem TickNil_ok {n : Int} {w : World} : C Try.prog 12 [.pointer none, I n] w (Ret fun v w' => v = I 0 ∧ Ext w w') := by
  have e0 := Ext.refl w
  refine C.enter Try.func12 rfl Try.ntmps12 rfl ?_
  refine J.seq ?_
  refine J.region ?_
  refine J.eff (Ye.box (S := [(0, 1, [.pointer none])]) rfl (by simp [SegAll, SegOK, Value.cells])) rfl ?_
  rintro _ w1 ⟨b2_0, rfl, hb_, c2_0, x1⟩
  have fr_b2_0 : Fr w.heap.size (some b2_0) := Fr.le (Fr.blk hb_) e0.size
  have e0 := e0.trans x1
  clear x1 hb_
  refine J.op (Yd.assign rfl) rfl ?_
  refine J.nil ?_
  refine J.n_then ?_
  refine J.seq ?_
  refine J.seq ?_
  refine J.region ?_
  refine J.op (Yd.load pl24 rfl (Cel.cell1 c2_0 0 rfl)) rfl ?_
  refine J.op (Yd.cast (Yd.eqPn Try.underlying24 rfl rfl) (show _ = Value.bool true from rfl)) rfl ?_
  refine J.op (Yd.move rfl) rfl ?_
  refine J.not_g rfl rfl rfl rfl rfl ?_
  refine J.not_g rfl rfl rfl rfl rfl ?_
  refine J.op (Yd.pick_t rfl rfl) rfl ?_
  refine J.nil ?_
  refine J.n_then ?_
  refine J.cond_true rfl ?_
  refine J.seq ?_
  refine J.region ?_
  refine J.op (Yd.assign rfl) rfl ?_
  refine J.nil ?_
  refine J.n_then ?_
  refine J.ret ?_
  refine J.r_then ?_
  exact J.ret1 rfl rfl (⟨_, rfl, rfl, e0⟩)
end Ytmpfgiffpdackaa
end Go.Proofs
