import Derived.Test.YtfefphcmfhabiaaT
import Derived.Test.YtfefphcmfhabiaaB1
set_option linter.unusedVariables false
set_option linter.unusedSimpArgs false
set_option maxRecDepth 100000
set_option maxHeartbeats 4000000
namespace Go.Proofs
open Go.X Go.RowKit
namespace Ytfefphcmfhabiaa
theorem Lnum_yes {K : Nat → Prop} {b : Nat} {l : List UInt8} {w : World} {q : UInt64} {k : Nat} (hr : Rdr 92 K w b l) (hl : l.length ≤ 1000000) (hg : gN 0 l 0 = some (q, k)) (hq : q.toNat ≤ 1099511627776) : C Try.prog 34 [.pointer (some ⟨b, 0, none⟩)] w (Ret fun u w' => u = I (q.toNat : Int) ∧ Rdr 92 K w' b (l.drop k) ∧ Tn [some b] w w') := by
  have e0 := Tn.refl [(some b)] w
  refine C.enter Try.func34 rfl Try.ntmps34 rfl ?_
  refine J.seq ?_
  refine J.region ?_
  refine J.op (Yd.assign rfl) rfl ?_
  refine J.nil ?_
  refine J.n_then ?_
  refine J.seq ?_
  refine J.region ?_
  refine J.op (Yd.move rfl) rfl ?_
  refine J.eff (Ye.call cl51 rfl (RNum_ok hr (by omega) hg)) rfl ?_
  rintro _ w1 ⟨rfl, hr2, x1⟩
  have e0 := Tn.tnk e0 (fun q hq => by simp only [List.mem_singleton] at hq; subst hq; exact .inl (by simp)) x1
  clear x1
  replace hr := hr2
  clear hr2
  refine J.op (Yd.assign rfl) rfl ?_
  refine J.nil ?_
  refine J.n_then ?_
  refine J.seq ?_
  refine J.seq ?_
  refine J.region ?_
  refine J.op (Yd.move rfl) rfl ?_
  refine J.op (Yd.gtr rfl rfl) rfl ?_
  refine J.nil ?_
  refine J.n_then ?_
  refine J.know (t := 7) (v' := .bool false) rfl (ff (by omega)) ?_
  refine J.cond_false rfl ?_
  refine J.skip ?_
  refine J.n_then ?_
  refine J.seq ?_
  refine J.region ?_
  refine J.op (Yd.move rfl) rfl ?_
  refine J.op (Yd.cv_64_i Try.underlying68 Try.underlying3 rfl (by first | omega | exact idx_u8' _ | (simp only [Int.toNat_natCast]; omega) | (simp only [List.length_map, List.length_drop, List.length_take, List.length_append, List.length_replicate]; omega) | (simp <;> omega))) rfl ?_
  refine J.op (Yd.assign rfl) rfl ?_
  refine J.nil ?_
  refine J.n_then ?_
  refine J.ret ?_
  exact J.ret1 rfl rfl (⟨_, rfl, rfl, hr, e0⟩)

theorem Lnum_big {K : Nat → Prop} {b : Nat} {l : List UInt8} {w : World} {q : UInt64} {k : Nat} (hr : Rdr 92 K w b l) (hl : l.length ≤ 1000000) (hg : gN 0 l 0 = some (q, k)) (hq : ¬ q.toNat ≤ 1099511627776) : C Try.prog 34 [.pointer (some ⟨b, 0, none⟩)] w (Pan fun ch w' => ch = [{ v := .iface 24 (I 2), recovered := false }] ∧ Tn [some b] w w') := by
  have e0 := Tn.refl [(some b)] w
  refine C.enter Try.func34 rfl Try.ntmps34 rfl ?_
  refine J.seq ?_
  refine J.region ?_
  refine J.op (Yd.assign rfl) rfl ?_
  refine J.nil ?_
  refine J.n_then ?_
  refine J.seq ?_
  refine J.region ?_
  refine J.op (Yd.move rfl) rfl ?_
  refine J.eff (Ye.call cl51 rfl (RNum_ok hr (by omega) hg)) rfl ?_
  rintro _ w1 ⟨rfl, hr2, x1⟩
  have e0 := Tn.tnk e0 (fun q hq => by simp only [List.mem_singleton] at hq; subst hq; exact .inl (by simp)) x1
  clear x1
  replace hr := hr2
  clear hr2
  refine J.op (Yd.assign rfl) rfl ?_
  refine J.nil ?_
  refine J.n_then ?_
  refine J.seq ?_
  refine J.seq ?_
  refine J.region ?_
  refine J.op (Yd.move rfl) rfl ?_
  refine J.op (Yd.gtr rfl rfl) rfl ?_
  refine J.nil ?_
  refine J.n_then ?_
  refine J.know (t := 7) (v' := .bool true) rfl (tt (by omega)) ?_
  refine J.cond_true rfl ?_
  refine J.region ?_
  refine J.op (Yd.mkIface Try.underlying24 rfl rfl) rfl ?_
  refine J.pan (Yp.panic rfl) ?_
  rintro _ _ ⟨rfl, rfl⟩
  refine J.p_then ?_
  exact J.fin_p (⟨_, rfl, rfl, e0⟩)

theorem Lnum_bad {K : Nat → Prop} {b : Nat} {l : List UInt8} {w : World} (hr : Rdr 92 K w b l) (hl : l.length ≤ 1000000) (hg : gN 0 l 0 = none) : C Try.prog 34 [.pointer (some ⟨b, 0, none⟩)] w (Pan fun ch w' => ch = [{ v := .iface 24 (I 2), recovered := false }] ∧ Tn [some b] w w') := by
  have e0 := Tn.refl [(some b)] w
  refine C.enter Try.func34 rfl Try.ntmps34 rfl ?_
  refine J.seq ?_
  refine J.region ?_
  refine J.op (Yd.assign rfl) rfl ?_
  refine J.nil ?_
  refine J.n_then ?_
  refine J.seq ?_
  refine J.region ?_
  refine J.op (Yd.move rfl) rfl ?_
  refine J.pan (Yp.call cl51 rfl (RNum_bad hr (by omega) hg)) ?_
  rintro _ w1 ⟨rfl, x1⟩
  have e0 := Tn.tnk e0 (fun q hq => by simp only [List.mem_singleton] at hq; subst hq; exact .inl (by simp)) x1
  clear x1
  refine J.p_then ?_
  exact J.fin_p (⟨_, rfl, rfl, e0⟩)

theorem Lnum_ok {K : Nat → Prop} {b : Nat} {l : List UInt8} {w : World} {n : Nat} {r : List UInt8} (hr : Rdr 92 K w b l) (hl : l.length ≤ 1000000) (h : rdT 1099511627776 l = some (n, r)) : C Try.prog 34 [.pointer (some ⟨b, 0, none⟩)] w (Ret fun u w' => u = I (n : Int) ∧ Rdr 92 K w' b r ∧ Tn [some b] w w') := by
  obtain ⟨q, k, h1, rfl, h3, rfl, _⟩ := rdT_some h
  exact Lnum_yes hr hl h1 h3
theorem Lnum_no {K : Nat → Prop} {b : Nat} {l : List UInt8} {w : World} (hr : Rdr 92 K w b l) (hl : l.length ≤ 1000000) (h : rdT 1099511627776 l = none) : C Try.prog 34 [.pointer (some ⟨b, 0, none⟩)] w (Pan fun ch w' => ch = [{ v := .iface 24 (I 2), recovered := false }] ∧ Tn [some b] w w') := by
  rcases rdT_none h with h1 | ⟨q, k, h1, h2⟩
  · exact Lnum_bad hr hl h1
  · exact Lnum_big hr hl h1 h2

theorem LdC_bad {K : Nat → Prop} {b p : Nat} {l : List UInt8} {w : World} (hr : Rdr 92 K w b l) (hp : Cel w p 23 [(0, 1, [.pointer none])]) (hop : Out K (some p)) (hl : l.length ≤ 1000000) (hld : ldR l = none) : C Try.prog 33 [.pointer (some ⟨b, 0, none⟩), .pointer (some ⟨p, 0, none⟩)] w (Pan fun ch w' => ch = [{ v := .iface 24 (I 2), recovered := false }] ∧ Tn [some b, some p] w w') := by
  have hbl : b < w.heap.size := Rdr.live hr _ rfl
  have hlt_p := Cel.lt hp
  have apb : Ap (some p) (some b) := fun k e1 e2 => by cases e1; cases e2; exact hop _ rfl (by obtain ⟨_, h1, _⟩ := hr; exact h1)
  replace hop : Out (fun k => K k ∧ k < w.heap.size) (some p) := fun k e h => hop k e h.1
  replace hr := hr.lo
  have e0 := Tn.refl [(some b), (some p)] w
  refine C.enter Try.func33 rfl Try.ntmps33 rfl ?_
  refine J.seq ?_
  refine J.region ?_
  refine J.op (Yd.assign rfl) rfl ?_
  refine J.nil ?_
  refine J.n_then ?_
  refine J.seq ?_
  refine J.seq ?_
  refine J.region ?_
  rcases ldR_no hld with h1 | ⟨m0, c1, h1, hm⟩ | ⟨m0, c1, h1, hm⟩ | ⟨m0, c1, h1, hm, h2⟩ | ⟨m0, c1, n, c2, h1, hm, h2, h3⟩
  · skip
    refine J.op (Yd.move rfl) rfl ?_
    refine J.pan (Yp.call cl34 rfl (Lnum_no hr hl h1)) ?_
    rintro _ w1 ⟨rfl, x1⟩
    have hp := Cel.tnk hp x1 (ApL.one apb)
    have e0 := Tn.tnk e0 (fun q hq => by simp only [List.mem_singleton] at hq; subst hq; exact .inl (by simp)) x1
    clear x1
    refine J.p_then ?_
    refine J.p_then ?_
    exact J.fin_p (⟨_, rfl, rfl, e0⟩)
  · skip
    refine J.op (Yd.move rfl) rfl ?_
    refine J.eff (Ye.call cl34 rfl (Lnum_ok hr hl h1)) rfl ?_
    rintro _ w2 ⟨rfl, hr2, x1⟩
    have hp := Cel.tnk hp x1 (ApL.one apb)
    have e0 := Tn.tnk e0 (fun q hq => by simp only [List.mem_singleton] at hq; subst hq; exact .inl (by simp)) x1
    clear x1
    replace hr := hr2
    clear hr2
    refine J.eff (Ye.call cl9 rfl (New_no (by omega))) rfl ?_
    rintro _ w3 ⟨rfl, x1⟩
    have e0 := Tn.ext e0 x1
    have hp := hp.ext x1
    have hr := hr.ext x1
    clear x1
    refine J.op (Yd.move rfl) rfl ?_
    refine J.op (Yd.extract rfl rfl) rfl ?_
    refine J.op (Yd.extract rfl rfl) rfl ?_
    refine J.eff0 (Ye.store1 ti23 hp 0 rfl rfl rfl rfl rfl rfl) ?_
    rintro _ w4 ⟨cX, hu⟩
    simp only [List.set_cons_zero, List.set_cons_succ] at cX
    have hg := hu.gb
    have hr := Rdr.gbk hr hg hop
    have e0 := Tn.gbk e0 (.inl (by simp)) hg
    clear hg
    replace hp := cX
    clear cX hu
    refine J.op (Yd.assign rfl) rfl ?_
    refine J.nil ?_
    refine J.n_then ?_
    refine J.seq ?_
    refine J.region ?_
    refine J.op (Yd.move rfl) rfl ?_
    refine J.op (Yd.neq rfl rfl) rfl ?_
    refine J.nil ?_
    refine J.n_then ?_
    refine J.know (t := 14) (v' := .bool true) rfl (tt (by decide)) ?_
    refine J.cond_true rfl ?_
    refine J.region ?_
    refine J.op (Yd.mkIface Try.underlying24 rfl rfl) rfl ?_
    refine J.pan (Yp.panic rfl) ?_
    rintro _ _ ⟨rfl, rfl⟩
    refine J.p_then ?_
    exact J.fin_p (⟨_, rfl, rfl, e0⟩)
  · skip
    refine J.op (Yd.move rfl) rfl ?_
    refine J.eff (Ye.call cl34 rfl (Lnum_ok hr hl h1)) rfl ?_
    rintro _ w5 ⟨rfl, hr2, x1⟩
    have hp := Cel.tnk hp x1 (ApL.one apb)
    have e0 := Tn.tnk e0 (fun q hq => by simp only [List.mem_singleton] at hq; subst hq; exact .inl (by simp)) x1
    clear x1
    replace hr := hr2
    clear hr2
    refine J.eff (Ye.call cl9 rfl (New_big (by omega))) rfl ?_
    rintro _ w6 ⟨rfl, x1⟩
    have e0 := Tn.ext e0 x1
    have hp := hp.ext x1
    have hr := hr.ext x1
    clear x1
    refine J.op (Yd.move rfl) rfl ?_
    refine J.op (Yd.extract rfl rfl) rfl ?_
    refine J.op (Yd.extract rfl rfl) rfl ?_
    refine J.eff0 (Ye.store1 ti23 hp 0 rfl rfl rfl rfl rfl rfl) ?_
    rintro _ w7 ⟨cX, hu⟩
    simp only [List.set_cons_zero, List.set_cons_succ] at cX
    have hg := hu.gb
    have hr := Rdr.gbk hr hg hop
    have e0 := Tn.gbk e0 (.inl (by simp)) hg
    clear hg
    replace hp := cX
    clear cX hu
    refine J.op (Yd.assign rfl) rfl ?_
    refine J.nil ?_
    refine J.n_then ?_
    refine J.seq ?_
    refine J.region ?_
    refine J.op (Yd.move rfl) rfl ?_
    refine J.op (Yd.neq rfl rfl) rfl ?_
    refine J.nil ?_
    refine J.n_then ?_
    refine J.know (t := 14) (v' := .bool true) rfl (tt (by decide)) ?_
    refine J.cond_true rfl ?_
    refine J.region ?_
    refine J.op (Yd.mkIface Try.underlying24 rfl rfl) rfl ?_
    refine J.pan (Yp.panic rfl) ?_
    rintro _ _ ⟨rfl, rfl⟩
    refine J.p_then ?_
    exact J.fin_p (⟨_, rfl, rfl, e0⟩)
  · skip
    refine J.op (Yd.move rfl) rfl ?_
    refine J.eff (Ye.call cl34 rfl (Lnum_ok hr hl h1)) rfl ?_
    rintro _ w8 ⟨rfl, hr2, x1⟩
    have hp := Cel.tnk hp x1 (ApL.one apb)
    have e0 := Tn.tnk e0 (fun q hq => by simp only [List.mem_singleton] at hq; subst hq; exact .inl (by simp)) x1
    clear x1
    replace hr := hr2
    clear hr2
    refine J.eff (Ye.call cl9 rfl (New_sk (by omega))) rfl ?_
    rintro _ w9 ⟨bs, rfl, hs, x1⟩
    replace hs := Sk.le hs e0.size
    have e0 := Tn.ext e0 x1
    have hp := hp.ext x1
    have hr := hr.ext x1
    clear x1
    refine J.op (Yd.move rfl) rfl ?_
    refine J.op (Yd.extract rfl rfl) rfl ?_
    refine J.op (Yd.extract rfl rfl) rfl ?_
    refine J.eff0 (Ye.store1 ti23 hp 0 rfl rfl rfl rfl rfl rfl) ?_
    rintro _ w10 ⟨cX, hu⟩
    simp only [List.set_cons_zero, List.set_cons_succ] at cX
    have hg := hu.gb
    have hr := Rdr.gbk hr hg hop
    have e0 := Tn.gbk e0 (.inl (by simp)) hg
    have hs := Sk.lo hs (Tn.ofGB hg) (LoL.of1 hlt_p)
    clear hg
    replace hp := cX
    clear cX hu
    refine J.op (Yd.assign rfl) rfl ?_
    refine J.nil ?_
    refine J.n_then ?_
    refine J.seq ?_
    refine J.region ?_
    refine J.op (Yd.move rfl) rfl ?_
    refine J.op (Yd.neq rfl rfl) rfl ?_
    refine J.nil ?_
    refine J.n_then ?_
    refine J.know (t := 14) (v' := .bool false) rfl (ff (by decide)) ?_
    refine J.cond_false rfl ?_
    refine J.skip ?_
    refine J.n_then ?_
    refine J.seq ?_
    refine J.region ?_
    refine J.op (Yd.move rfl) rfl ?_
    refine J.pan (Yp.call cl34 rfl (Lnum_no hr (by have h81 := rdT_le h1; omega) h2)) ?_
    rintro _ w11 ⟨rfl, x1⟩
    have hp := Cel.tnk hp x1 (ApL.one apb)
    have e0 := Tn.tnk e0 (fun q hq => by simp only [List.mem_singleton] at hq; subst hq; exact .inl (by simp)) x1
    have hs := Sk.lo hs x1 (LoL.of1 hbl)
    clear x1
    refine J.p_then ?_
    exact J.fin_p (⟨_, rfl, rfl, e0⟩)
  · skip
    refine J.op (Yd.move rfl) rfl ?_
    refine J.eff (Ye.call cl34 rfl (Lnum_ok hr hl h1)) rfl ?_
    rintro _ w12 ⟨rfl, hr2, x1⟩
    have hp := Cel.tnk hp x1 (ApL.one apb)
    have e0 := Tn.tnk e0 (fun q hq => by simp only [List.mem_singleton] at hq; subst hq; exact .inl (by simp)) x1
    clear x1
    replace hr := hr2
    clear hr2
    refine J.eff (Ye.call cl9 rfl (New_sk (by omega))) rfl ?_
    rintro _ w13 ⟨bs, rfl, hs, x1⟩
    replace hs := Sk.le hs e0.size
    have e0 := Tn.ext e0 x1
    have hp := hp.ext x1
    have hr := hr.ext x1
    clear x1
    refine J.op (Yd.move rfl) rfl ?_
    refine J.op (Yd.extract rfl rfl) rfl ?_
    refine J.op (Yd.extract rfl rfl) rfl ?_
    refine J.eff0 (Ye.store1 ti23 hp 0 rfl rfl rfl rfl rfl rfl) ?_
    rintro _ w14 ⟨cX, hu⟩
    simp only [List.set_cons_zero, List.set_cons_succ] at cX
    have hg := hu.gb
    have hr := Rdr.gbk hr hg hop
    have e0 := Tn.gbk e0 (.inl (by simp)) hg
    have hs := Sk.lo hs (Tn.ofGB hg) (LoL.of1 hlt_p)
    clear hg
    replace hp := cX
    clear cX hu
    refine J.op (Yd.assign rfl) rfl ?_
    refine J.nil ?_
    refine J.n_then ?_
    refine J.seq ?_
    refine J.region ?_
    refine J.op (Yd.move rfl) rfl ?_
    refine J.op (Yd.neq rfl rfl) rfl ?_
    refine J.nil ?_
    refine J.n_then ?_
    refine J.know (t := 14) (v' := .bool false) rfl (ff (by decide)) ?_
    refine J.cond_false rfl ?_
    refine J.skip ?_
    refine J.n_then ?_
    refine J.seq ?_
    refine J.region ?_
    refine J.op (Yd.move rfl) rfl ?_
    refine J.eff (Ye.call cl34 rfl (Lnum_ok hr (by have h81 := rdT_le h1; omega) h2)) rfl ?_
    rintro _ w15 ⟨rfl, hr2, x1⟩
    have hp := Cel.tnk hp x1 (ApL.one apb)
    have e0 := Tn.tnk e0 (fun q hq => by simp only [List.mem_singleton] at hq; subst hq; exact .inl (by simp)) x1
    have hs := Sk.lo hs x1 (LoL.of1 hbl)
    clear x1
    replace hr := hr2
    clear hr2
    refine J.op (Yd.assign rfl) rfl ?_
    refine J.nil ?_
    refine J.n_then ?_
    refine J.block ?_
    refine J.loop (ι := Nat × List Key × List UInt8) (fun i => [(4, I ((n : Int) - (i.1 : Int))), (0, .pointer (some ⟨b, 0, none⟩)), (1, .pointer (some ⟨p, 0, none⟩))]) (fun i w' => i.1 ≤ n ∧ i.2.1.length = i.1 ∧ (i.2.1.length : Int) ≤ (m0 : Int) ∧ rdKs (m0 : Int) (n - i.1) i.2.1 i.2.2 = none ∧ i.2.2.length ≤ 1000000 ∧ Rdr 92 (fun k => K k ∧ k < w.heap.size) w' b i.2.2 ∧ Sk 56 60 w.heap.size w' bs (m0 : Int) i.2.1 ∧ Cel w' p 23 [(0, 1, [.pointer (some ⟨bs, 0, none⟩)])] ∧ Tn [(some b), (some p)] w w') (fun i => n - i.1) ((0, [], c2)) ⟨(someI (by show (n : Int) = (n : Int) - ((0 : Nat) : Int); omega)), rfl, rfl, trivial⟩ (⟨Nat.zero_le _, rfl, (by show (0 : Int) ≤ (m0 : Int); omega), h3, (by have h81 := rdT_le h1; have h82 := rdT_le h2; show c2.length ≤ 1000000; omega), hr, hs, hp, e0⟩) ?_
    rintro ⟨j, L, c⟩ w16 ⟨hi, hLi, hLm, hR, hcl, hr, hs, hp, e0⟩
    dsimp only at *
    refine J.seq ?_
    refine J.seq ?_
    refine J.region ?_
    refine J.op (Yd.move rfl) rfl ?_
    refine J.op (Yd.gtr rfl rfl) rfl ?_
    refine J.nil ?_
    refine J.n_then ?_
    refine J.cond_dec rfl (fun hc1 => ?_) (fun hc1 => ?_)
    · skip
      refine J.skip ?_
      refine J.n_then ?_
      refine J.seq ?_
      refine J.block ?_
      refine J.seq ?_
      refine J.regionGP (Thb (Ge w.heap.size) b) [(1, true), (3, true), (5, true)] [(0, 1), (2, 0), (4, 0), (6, 0)] [(7, false), (8, true), (9, true), (10, true), (11, true), (12, true)] mix (by kernel_rfl) (by intro _ _ _ d_ _ h_; cases d_ <;> exact h_) ?_
      refine J.s_op rfl (fun _ => Yd.move rfl) rfl ?_
      refine J.s_op rfl (fun _ => Yd.move rfl) rfl ?_
      refine J.s_op rfl (fun _ => Yd.move rfl) rfl ?_
      refine J.s_nil ?_
      rcases rdKs_not (show j < n by omega) hR with g1 | ⟨e, d1, g1, g2⟩ | ⟨e, i, d1, d2, g1, g2, hsh⟩ | ⟨e, i, d1, d2, g1, g2, hsh, hdu⟩ | ⟨e, i, d1, d2, g1, g2, hsh, hdu, hov⟩ | ⟨e, i, d1, d2, g1, g2, hst, hR2⟩
      · skip
        refine J.g_op rfl (fun w1 ht => Yd.load pl23 rfl (Cel.cell1 (Cel.thb hp ht hlt_p (fun e => apb _ rfl (by rw [e]))) 0 rfl)) rfl ?_
        refine J.g_pan rfl (Yp.call cl34 rfl (Lnum_no hr hcl g1)) ?_
        rintro _ w17 ⟨rfl, x1⟩
        have hp := Cel.tnk hp x1 (ApL.one apb)
        have e0 := Tn.tnk e0 (fun q hq => by simp only [List.mem_singleton] at hq; subst hq; exact .inl (by simp)) x1
        have hs := Sk.lo hs x1 (LoL.of1 hbl)
        clear x1
        refine J.p_then ?_
        refine J.p_block ?_
        refine J.p_then ?_
        refine J.p_then ?_
        refine J.p_block ?_
        exact J.fin_p (⟨_, rfl, rfl, e0⟩)
      · skip
        refine J.g_op rfl (fun w1 ht => Yd.load pl23 rfl (Cel.cell1 (Cel.thb hp ht hlt_p (fun e => apb _ rfl (by rw [e]))) 0 rfl)) rfl ?_
        refine J.g_eff rfl (Ye.call cl34 rfl (Lnum_ok hr hcl g1)) rfl (fun _ _ h => Thb.one h.2.2) ?_
        rintro _ w18 ⟨rfl, hr2, x1⟩
        have hp := Cel.tnk hp x1 (ApL.one apb)
        have e0 := Tn.tnk e0 (fun q hq => by simp only [List.mem_singleton] at hq; subst hq; exact .inl (by simp)) x1
        have hs := Sk.lo hs x1 (LoL.of1 hbl)
        clear x1
        replace hr := hr2
        clear hr2
        refine J.g_pan rfl (Yp.call cl34 rfl (Lnum_no hr (by have h81 := rdT_le g1; omega) g2)) ?_
        rintro _ w19 ⟨rfl, x1⟩
        have hp := Cel.tnk hp x1 (ApL.one apb)
        have e0 := Tn.tnk e0 (fun q hq => by simp only [List.mem_singleton] at hq; subst hq; exact .inl (by simp)) x1
        have hs := Sk.lo hs x1 (LoL.of1 hbl)
        clear x1
        refine J.p_then ?_
        refine J.p_block ?_
        refine J.p_then ?_
        refine J.p_then ?_
        refine J.p_block ?_
        exact J.fin_p (⟨_, rfl, rfl, e0⟩)
      · skip
        have h83 := rdT_le g1
        have h84 := rdT_le g2
        obtain ⟨_, _, _, _, ge1, _⟩ := rdT_some g1
        obtain ⟨_, _, _, _, gi1, _⟩ := rdT_some g2
        obtain ⟨_, _, _, _, hn40, _⟩ := rdT_some h2
        refine J.g_op rfl (fun w1 ht => Yd.load pl23 rfl (Cel.cell1 (Cel.thb hp ht hlt_p (fun e => apb _ rfl (by rw [e]))) 0 rfl)) rfl ?_
        refine J.g_eff rfl (Ye.call cl34 rfl (Lnum_ok hr hcl g1)) rfl (fun _ _ h => Thb.one h.2.2) ?_
        rintro _ w20 ⟨rfl, hr2, x1⟩
        have hp := Cel.tnk hp x1 (ApL.one apb)
        have e0 := Tn.tnk e0 (fun q hq => by simp only [List.mem_singleton] at hq; subst hq; exact .inl (by simp)) x1
        have hs := Sk.lo hs x1 (LoL.of1 hbl)
        clear x1
        replace hr := hr2
        clear hr2
        refine J.g_eff rfl (Ye.call cl34 rfl (Lnum_ok hr (by have h81 := rdT_le g1; omega) g2)) rfl (fun _ _ h => Thb.one h.2.2) ?_
        rintro _ w21 ⟨rfl, hr2, x1⟩
        have hp := Cel.tnk hp x1 (ApL.one apb)
        have e0 := Tn.tnk e0 (fun q hq => by simp only [List.mem_singleton] at hq; subst hq; exact .inl (by simp)) x1
        have hs := Sk.lo hs x1 (LoL.of1 hbl)
        clear x1
        replace hr := hr2
        clear hr2
        refine J.g_pan rfl (Yp.call cl35 rfl (RFixed_bad hr (by omega))) ?_
        rintro _ w22 ⟨rfl, x1⟩
        have hs := hs.ext x1
        have e0 := Tn.ext e0 x1
        have hp := hp.ext x1
        have hr := hr.ext x1
        clear x1
        refine J.p_then ?_
        refine J.p_block ?_
        refine J.p_then ?_
        refine J.p_then ?_
        refine J.p_block ?_
        exact J.fin_p (⟨_, rfl, rfl, e0⟩)
      · skip
        have h83 := rdT_le g1
        have h84 := rdT_le g2
        obtain ⟨_, _, _, _, ge1, _⟩ := rdT_some g1
        obtain ⟨_, _, _, _, gi1, _⟩ := rdT_some g2
        obtain ⟨_, _, _, _, hn40, _⟩ := rdT_some h2
        refine J.g_op rfl (fun w1 ht => Yd.load pl23 rfl (Cel.cell1 (Cel.thb hp ht hlt_p (fun e => apb _ rfl (by rw [e]))) 0 rfl)) rfl ?_
        refine J.g_eff rfl (Ye.call cl34 rfl (Lnum_ok hr hcl g1)) rfl (fun _ _ h => Thb.one h.2.2) ?_
        rintro _ w23 ⟨rfl, hr2, x1⟩
        have hp := Cel.tnk hp x1 (ApL.one apb)
        have e0 := Tn.tnk e0 (fun q hq => by simp only [List.mem_singleton] at hq; subst hq; exact .inl (by simp)) x1
        have hs := Sk.lo hs x1 (LoL.of1 hbl)
        clear x1
        replace hr := hr2
        clear hr2
        refine J.g_eff rfl (Ye.call cl34 rfl (Lnum_ok hr (by have h81 := rdT_le g1; omega) g2)) rfl (fun _ _ h => Thb.one h.2.2) ?_
        rintro _ w24 ⟨rfl, hr2, x1⟩
        have hp := Cel.tnk hp x1 (ApL.one apb)
        have e0 := Tn.tnk e0 (fun q hq => by simp only [List.mem_singleton] at hq; subst hq; exact .inl (by simp)) x1
        have hs := Sk.lo hs x1 (LoL.of1 hbl)
        clear x1
        replace hr := hr2
        clear hr2
        refine J.g_eff rfl (Ye.call cl35 rfl (RFixed_ok hr (by omega) (by omega))) rfl (fun _ _ h => Thb.one h.2.2) ?_
        have hsF := hs
        have hwF := e0.size
        rintro vk w25 ⟨ovk, hr2, x1⟩
        have hfk := Ow.fr ovk
        have ap_p_vk : Ap (some p) vk.ownBlock := Ap.mk (Cel.live hp) hfk
        have fr_vk : Fr w.heap.size vk.ownBlock := Fr.le hfk e0.size
        have hp := Cel.tnk hp x1 (ApL.one apb)
        have e0 := Tn.tnk e0 (fun q hq => by simp only [List.mem_singleton] at hq; subst hq; exact .inl (by simp)) x1
        have hs := Sk.lo hs x1 (LoL.of1 hbl)
        have xF := x1
        clear x1
        replace ovk := Ow.base ovk hwF
        replace hr := hr2
        clear hr2
        refine J.g_nil ?_
        refine J.s_eff rfl (Ye.call cl10 rfl (Put_all hsF xF (LoL.of1 hbl) (Ow.rd ovk) (fun q _ hq => (Ap.mk hq hfk).symm) hwF (by omega) (by omega))) rfl ?_
        rintro _ w26 ⟨rfl, hs2, x1⟩
        have e0 := Tn.th e0 x1 (Nat.le_refl _)
        have hp := Cel.th hp x1 hlt_p
        have hr := Rdr.th hr x1 (fun _ h => h.2)
        replace hs := hs2
        clear hs2 x1
        refine J.s_op rfl (fun _ => Yd.move rfl) rfl ?_
        refine J.s_op rfl (fun _ => Yd.extract rfl rfl) rfl ?_
        refine J.s_op rfl (fun _ => Yd.extract rfl rfl) rfl ?_
        refine J.s_op rfl (fun _ => Yd.assign rfl) rfl ?_
        refine J.s_op rfl (fun _ => Yd.assign rfl) rfl ?_
        refine J.s_nil ?_
        refine J.n_then ?_
        refine J.seq ?_
        refine J.region ?_
        have hpv : putV (m0 : Int) L (e : Int) (i : Int) (d2.take (32 : Int).toNat) = (0, 8, L) := putV_dup (show wiK (e : Int) ∧ wiK (i : Int) ∧ (d2.take 32).length = 32 from ⟨wiN (by omega), wiN (by omega), by rw [List.length_take]; omega⟩) hdu
        refine J.op (Yd.move rfl) rfl ?_
        refine J.op (Yd.neq rfl rfl) rfl ?_
        refine J.op (Yd.move rfl) rfl ?_
        refine J.know (t := 35) (v' := .bool true) rfl (tt (by rw [hpv]; simp)) ?_
        refine J.not_g rfl rfl rfl rfl rfl ?_
        refine J.not_g rfl rfl rfl rfl rfl ?_
        refine J.op (Yd.pick_t rfl rfl) rfl ?_
        refine J.nil ?_
        refine J.n_then ?_
        refine J.cond_true rfl ?_
        refine J.region ?_
        refine J.op (Yd.mkIface Try.underlying24 rfl rfl) rfl ?_
        refine J.pan (Yp.panic rfl) ?_
        rintro _ _ ⟨rfl, rfl⟩
        refine J.p_block ?_
        refine J.p_then ?_
        refine J.p_then ?_
        refine J.p_block ?_
        exact J.fin_p (⟨_, rfl, rfl, e0⟩)
      · skip
        have h83 := rdT_le g1
        have h84 := rdT_le g2
        obtain ⟨_, _, _, _, ge1, _⟩ := rdT_some g1
        obtain ⟨_, _, _, _, gi1, _⟩ := rdT_some g2
        obtain ⟨_, _, _, _, hn40, _⟩ := rdT_some h2
        refine J.g_op rfl (fun w1 ht => Yd.load pl23 rfl (Cel.cell1 (Cel.thb hp ht hlt_p (fun e => apb _ rfl (by rw [e]))) 0 rfl)) rfl ?_
        refine J.g_eff rfl (Ye.call cl34 rfl (Lnum_ok hr hcl g1)) rfl (fun _ _ h => Thb.one h.2.2) ?_
        rintro _ w27 ⟨rfl, hr2, x1⟩
        have hp := Cel.tnk hp x1 (ApL.one apb)
        have e0 := Tn.tnk e0 (fun q hq => by simp only [List.mem_singleton] at hq; subst hq; exact .inl (by simp)) x1
        have hs := Sk.lo hs x1 (LoL.of1 hbl)
        clear x1
        replace hr := hr2
        clear hr2
        refine J.g_eff rfl (Ye.call cl34 rfl (Lnum_ok hr (by have h81 := rdT_le g1; omega) g2)) rfl (fun _ _ h => Thb.one h.2.2) ?_
        rintro _ w28 ⟨rfl, hr2, x1⟩
        have hp := Cel.tnk hp x1 (ApL.one apb)
        have e0 := Tn.tnk e0 (fun q hq => by simp only [List.mem_singleton] at hq; subst hq; exact .inl (by simp)) x1
        have hs := Sk.lo hs x1 (LoL.of1 hbl)
        clear x1
        replace hr := hr2
        clear hr2
        refine J.g_eff rfl (Ye.call cl35 rfl (RFixed_ok hr (by omega) (by omega))) rfl (fun _ _ h => Thb.one h.2.2) ?_
        have hsF := hs
        have hwF := e0.size
        rintro vk w29 ⟨ovk, hr2, x1⟩
        have hfk := Ow.fr ovk
        have ap_p_vk : Ap (some p) vk.ownBlock := Ap.mk (Cel.live hp) hfk
        have fr_vk : Fr w.heap.size vk.ownBlock := Fr.le hfk e0.size
        have hp := Cel.tnk hp x1 (ApL.one apb)
        have e0 := Tn.tnk e0 (fun q hq => by simp only [List.mem_singleton] at hq; subst hq; exact .inl (by simp)) x1
        have hs := Sk.lo hs x1 (LoL.of1 hbl)
        have xF := x1
        clear x1
        replace ovk := Ow.base ovk hwF
        replace hr := hr2
        clear hr2
        refine J.g_nil ?_
        refine J.s_eff rfl (Ye.call cl10 rfl (Put_all hsF xF (LoL.of1 hbl) (Ow.rd ovk) (fun q _ hq => (Ap.mk hq hfk).symm) hwF (by omega) (by omega))) rfl ?_
        rintro _ w30 ⟨rfl, hs2, x1⟩
        have e0 := Tn.th e0 x1 (Nat.le_refl _)
        have hp := Cel.th hp x1 hlt_p
        have hr := Rdr.th hr x1 (fun _ h => h.2)
        replace hs := hs2
        clear hs2 x1
        refine J.s_op rfl (fun _ => Yd.move rfl) rfl ?_
        refine J.s_op rfl (fun _ => Yd.extract rfl rfl) rfl ?_
        refine J.s_op rfl (fun _ => Yd.extract rfl rfl) rfl ?_
        refine J.s_op rfl (fun _ => Yd.assign rfl) rfl ?_
        refine J.s_op rfl (fun _ => Yd.assign rfl) rfl ?_
        refine J.s_nil ?_
        refine J.n_then ?_
        refine J.seq ?_
        refine J.region ?_
        have hpv : putV (m0 : Int) L (e : Int) (i : Int) (d2.take (32 : Int).toNat) = (1, 0, (L ++ [((e : Int), (i : Int), d2.take 32)]).drop 1) := putV_over (show wiK (e : Int) ∧ wiK (i : Int) ∧ (d2.take 32).length = 32 from ⟨wiN (by omega), wiN (by omega), by rw [List.length_take]; omega⟩) hdu hov
        refine J.op (Yd.move rfl) rfl ?_
        refine J.op (Yd.neq rfl rfl) rfl ?_
        refine J.op (Yd.move rfl) rfl ?_
        refine J.know (t := 35) (v' := .bool false) rfl (ff (by rw [hpv]; simp)) ?_
        refine J.op_g rfl rfl rfl (Yd.move rfl) rfl ?_
        refine J.op_g rfl rfl rfl (Yd.gtr rfl rfl) rfl ?_
        refine J.op (Yd.pick_f rfl rfl) rfl ?_
        refine J.nil ?_
        refine J.n_then ?_
        refine J.know (t := 38) (v' := .bool true) rfl (tt (by rw [hpv]; simp)) ?_
        refine J.cond_true rfl ?_
        refine J.region ?_
        refine J.op (Yd.mkIface Try.underlying24 rfl rfl) rfl ?_
        refine J.pan (Yp.panic rfl) ?_
        rintro _ _ ⟨rfl, rfl⟩
        refine J.p_block ?_
        refine J.p_then ?_
        refine J.p_then ?_
        refine J.p_block ?_
        exact J.fin_p (⟨_, rfl, rfl, e0⟩)
      · skip
        have h83 := rdT_le g1
        have h84 := rdT_le g2
        obtain ⟨_, _, _, _, ge1, _⟩ := rdT_some g1
        obtain ⟨_, _, _, _, gi1, _⟩ := rdT_some g2
        obtain ⟨_, _, _, _, hn40, _⟩ := rdT_some h2
        refine J.g_op rfl (fun w1 ht => Yd.load pl23 rfl (Cel.cell1 (Cel.thb hp ht hlt_p (fun e => apb _ rfl (by rw [e]))) 0 rfl)) rfl ?_
        refine J.g_eff rfl (Ye.call cl34 rfl (Lnum_ok hr hcl g1)) rfl (fun _ _ h => Thb.one h.2.2) ?_
        rintro _ w31 ⟨rfl, hr2, x1⟩
        have hp := Cel.tnk hp x1 (ApL.one apb)
        have e0 := Tn.tnk e0 (fun q hq => by simp only [List.mem_singleton] at hq; subst hq; exact .inl (by simp)) x1
        have hs := Sk.lo hs x1 (LoL.of1 hbl)
        clear x1
        replace hr := hr2
        clear hr2
        refine J.g_eff rfl (Ye.call cl34 rfl (Lnum_ok hr (by have h81 := rdT_le g1; omega) g2)) rfl (fun _ _ h => Thb.one h.2.2) ?_
        rintro _ w32 ⟨rfl, hr2, x1⟩
        have hp := Cel.tnk hp x1 (ApL.one apb)
        have e0 := Tn.tnk e0 (fun q hq => by simp only [List.mem_singleton] at hq; subst hq; exact .inl (by simp)) x1
        have hs := Sk.lo hs x1 (LoL.of1 hbl)
        clear x1
        replace hr := hr2
        clear hr2
        refine J.g_eff rfl (Ye.call cl35 rfl (RFixed_ok hr (by omega) (by omega))) rfl (fun _ _ h => Thb.one h.2.2) ?_
        have hsF := hs
        have hwF := e0.size
        rintro vk w33 ⟨ovk, hr2, x1⟩
        have hfk := Ow.fr ovk
        have ap_p_vk : Ap (some p) vk.ownBlock := Ap.mk (Cel.live hp) hfk
        have fr_vk : Fr w.heap.size vk.ownBlock := Fr.le hfk e0.size
        have hp := Cel.tnk hp x1 (ApL.one apb)
        have e0 := Tn.tnk e0 (fun q hq => by simp only [List.mem_singleton] at hq; subst hq; exact .inl (by simp)) x1
        have hs := Sk.lo hs x1 (LoL.of1 hbl)
        have xF := x1
        clear x1
        replace ovk := Ow.base ovk hwF
        replace hr := hr2
        clear hr2
        refine J.g_nil ?_
        refine J.s_eff rfl (Ye.call cl10 rfl (Put_all hsF xF (LoL.of1 hbl) (Ow.rd ovk) (fun q _ hq => (Ap.mk hq hfk).symm) hwF (by omega) (by omega))) rfl ?_
        rintro _ w34 ⟨rfl, hs2, x1⟩
        have e0 := Tn.th e0 x1 (Nat.le_refl _)
        have hp := Cel.th hp x1 hlt_p
        have hr := Rdr.th hr x1 (fun _ h => h.2)
        replace hs := hs2
        clear hs2 x1
        refine J.s_op rfl (fun _ => Yd.move rfl) rfl ?_
        refine J.s_op rfl (fun _ => Yd.extract rfl rfl) rfl ?_
        refine J.s_op rfl (fun _ => Yd.extract rfl rfl) rfl ?_
        refine J.s_op rfl (fun _ => Yd.assign rfl) rfl ?_
        refine J.s_op rfl (fun _ => Yd.assign rfl) rfl ?_
        refine J.s_nil ?_
        refine J.n_then ?_
        refine J.seq ?_
        refine J.region ?_
        have hpv : putV (m0 : Int) L (e : Int) (i : Int) (d2.take (32 : Int).toNat) = (0, 0, L ++ [((e : Int), (i : Int), d2.take 32)]) := putV_add (show wiK (e : Int) ∧ wiK (i : Int) ∧ (d2.take 32).length = 32 from ⟨wiN (by omega), wiN (by omega), by rw [List.length_take]; omega⟩) hst.2.1 hst.2.2
        refine J.op (Yd.move rfl) rfl ?_
        refine J.op (Yd.neq rfl rfl) rfl ?_
        refine J.op (Yd.move rfl) rfl ?_
        refine J.know (t := 35) (v' := .bool false) rfl (ff (by rw [hpv]; simp)) ?_
        refine J.op_g rfl rfl rfl (Yd.move rfl) rfl ?_
        refine J.op_g rfl rfl rfl (Yd.gtr rfl rfl) rfl ?_
        refine J.op (Yd.pick_f rfl rfl) rfl ?_
        refine J.nil ?_
        refine J.n_then ?_
        refine J.know (t := 38) (v' := .bool false) rfl (ff (by rw [hpv]; simp)) ?_
        refine J.cond_false rfl ?_
        refine J.skip ?_
        refine J.n_block ?_
        refine J.n_then ?_
        refine J.region ?_
        refine J.op (Yd.move rfl) rfl ?_
        refine J.op (Yd.sub rfl rfl (by first | omega | exact idx_u8' _ | (simp only [Int.toNat_natCast]; omega) | (simp only [List.length_map, List.length_drop, List.length_take, List.length_append, List.length_replicate]; omega) | (simp <;> omega))) rfl ?_
        refine J.op (Yd.assign rfl) rfl ?_
        refine J.nil ?_
        refine J.n_then ?_
        exact J.round ((j + 1, L ++ [((e : Int), (i : Int), d2.take 32)], d2.drop 32)) ⟨(someI (by show (n : Int) - (j : Int) - 1 = (n : Int) - ((j + 1 : Nat) : Int); omega)), rfl, rfl, trivial⟩ (⟨by show j + 1 ≤ n; omega, (by show (L ++ [_]).length = j + 1; rw [List.length_append, hLi]; rfl), (by show ((L ++ [_]).length : Int) ≤ (m0 : Int); rw [List.length_append, List.length_singleton]; omega), hR2, (by show (d2.drop 32).length ≤ 1000000; rw [List.length_drop]; omega), (by have h9 := hr; exact h9), (by rw [hpv] at hs; exact hs), hp, e0⟩) (by show n - (j + 1) < n - j; omega)
    · skip
      exact absurd hR (by rw [show n - j = 0 by omega]; intro h; cases h)

theorem LdC_ok {K : Nat → Prop} {b p : Nat} {l : List UInt8} {w : World} {m : Int} {Lf : List Key} {rf : List UInt8} (hr : Rdr 92 K w b l) (hp : Cel w p 23 [(0, 1, [.pointer none])]) (hop : Out K (some p)) (hl : l.length ≤ 1000000) (hld : ldR l = some (m, Lf, rf)) : C Try.prog 33 [.pointer (some ⟨b, 0, none⟩), .pointer (some ⟨p, 0, none⟩)] w (Ret fun _ w' => ∃ bs, Rdr 92 K w' b rf ∧ Cel w' p 23 [(0, 1, [.pointer (some ⟨bs, 0, none⟩)])] ∧ Sk 56 60 w.heap.size w' bs m Lf ∧ Tn [some b, some p] w w') := by
  have hbl : b < w.heap.size := Rdr.live hr _ rfl
  have hlt_p := Cel.lt hp
  have apb : Ap (some p) (some b) := fun k e1 e2 => by cases e1; cases e2; exact hop _ rfl (by obtain ⟨_, h1, _⟩ := hr; exact h1)
  replace hop : Out (fun k => K k ∧ k < w.heap.size) (some p) := fun k e h => hop k e h.1
  replace hr := hr.lo
  have e0 := Tn.refl [(some b), (some p)] w
  refine C.enter Try.func33 rfl Try.ntmps33 rfl ?_
  refine J.seq ?_
  refine J.region ?_
  refine J.op (Yd.assign rfl) rfl ?_
  refine J.nil ?_
  refine J.n_then ?_
  refine J.seq ?_
  refine J.seq ?_
  refine J.region ?_
  rcases ldR_yes hld with ⟨m0, c1, n, c2, h1, hm, h2, h3, rfl⟩
  · skip
    refine J.op (Yd.move rfl) rfl ?_
    refine J.eff (Ye.call cl34 rfl (Lnum_ok hr hl h1)) rfl ?_
    rintro _ w1 ⟨rfl, hr2, x1⟩
    have hp := Cel.tnk hp x1 (ApL.one apb)
    have e0 := Tn.tnk e0 (fun q hq => by simp only [List.mem_singleton] at hq; subst hq; exact .inl (by simp)) x1
    clear x1
    replace hr := hr2
    clear hr2
    refine J.eff (Ye.call cl9 rfl (New_sk (by omega))) rfl ?_
    rintro _ w2 ⟨bs, rfl, hs, x1⟩
    replace hs := Sk.le hs e0.size
    have e0 := Tn.ext e0 x1
    have hp := hp.ext x1
    have hr := hr.ext x1
    clear x1
    refine J.op (Yd.move rfl) rfl ?_
    refine J.op (Yd.extract rfl rfl) rfl ?_
    refine J.op (Yd.extract rfl rfl) rfl ?_
    refine J.eff0 (Ye.store1 ti23 hp 0 rfl rfl rfl rfl rfl rfl) ?_
    rintro _ w3 ⟨cX, hu⟩
    simp only [List.set_cons_zero, List.set_cons_succ] at cX
    have hg := hu.gb
    have hr := Rdr.gbk hr hg hop
    have e0 := Tn.gbk e0 (.inl (by simp)) hg
    have hs := Sk.lo hs (Tn.ofGB hg) (LoL.of1 hlt_p)
    clear hg
    replace hp := cX
    clear cX hu
    refine J.op (Yd.assign rfl) rfl ?_
    refine J.nil ?_
    refine J.n_then ?_
    refine J.seq ?_
    refine J.region ?_
    refine J.op (Yd.move rfl) rfl ?_
    refine J.op (Yd.neq rfl rfl) rfl ?_
    refine J.nil ?_
    refine J.n_then ?_
    refine J.know (t := 14) (v' := .bool false) rfl (ff (by decide)) ?_
    refine J.cond_false rfl ?_
    refine J.skip ?_
    refine J.n_then ?_
    refine J.seq ?_
    refine J.region ?_
    refine J.op (Yd.move rfl) rfl ?_
    refine J.eff (Ye.call cl34 rfl (Lnum_ok hr (by have h81 := rdT_le h1; omega) h2)) rfl ?_
    rintro _ w4 ⟨rfl, hr2, x1⟩
    have hp := Cel.tnk hp x1 (ApL.one apb)
    have e0 := Tn.tnk e0 (fun q hq => by simp only [List.mem_singleton] at hq; subst hq; exact .inl (by simp)) x1
    have hs := Sk.lo hs x1 (LoL.of1 hbl)
    clear x1
    replace hr := hr2
    clear hr2
    refine J.op (Yd.assign rfl) rfl ?_
    refine J.nil ?_
    refine J.n_then ?_
    refine J.block ?_
    refine J.loop (ι := Nat × List Key × List UInt8) (fun i => [(4, I ((n : Int) - (i.1 : Int))), (0, .pointer (some ⟨b, 0, none⟩)), (1, .pointer (some ⟨p, 0, none⟩))]) (fun i w' => i.1 ≤ n ∧ i.2.1.length = i.1 ∧ (i.2.1.length : Int) ≤ (m0 : Int) ∧ rdKs (m0 : Int) (n - i.1) i.2.1 i.2.2 = some (Lf, rf) ∧ i.2.2.length ≤ 1000000 ∧ Rdr 92 (fun k => K k ∧ k < w.heap.size) w' b i.2.2 ∧ Sk 56 60 w.heap.size w' bs (m0 : Int) i.2.1 ∧ Cel w' p 23 [(0, 1, [.pointer (some ⟨bs, 0, none⟩)])] ∧ Tn [(some b), (some p)] w w') (fun i => n - i.1) ((0, [], c2)) ⟨(someI (by show (n : Int) = (n : Int) - ((0 : Nat) : Int); omega)), rfl, rfl, trivial⟩ (⟨Nat.zero_le _, rfl, (by show (0 : Int) ≤ (m0 : Int); omega), h3, (by have h81 := rdT_le h1; have h82 := rdT_le h2; show c2.length ≤ 1000000; omega), hr, hs, hp, e0⟩) ?_
    rintro ⟨j, L, c⟩ w5 ⟨hi, hLi, hLm, hR, hcl, hr, hs, hp, e0⟩
    dsimp only at *
    refine J.seq ?_
    refine J.seq ?_
    refine J.region ?_
    refine J.op (Yd.move rfl) rfl ?_
    refine J.op (Yd.gtr rfl rfl) rfl ?_
    refine J.nil ?_
    refine J.n_then ?_
    refine J.cond_dec rfl (fun hc1 => ?_) (fun hc1 => ?_)
    · skip
      refine J.skip ?_
      refine J.n_then ?_
      refine J.seq ?_
      refine J.block ?_
      refine J.seq ?_
      refine J.regionGP (Thb (Ge w.heap.size) b) [(1, true), (3, true), (5, true)] [(0, 1), (2, 0), (4, 0), (6, 0)] [(7, false), (8, true), (9, true), (10, true), (11, true), (12, true)] mix (by kernel_rfl) (by intro _ _ _ d_ _ h_; cases d_ <;> exact h_) ?_
      refine J.s_op rfl (fun _ => Yd.move rfl) rfl ?_
      refine J.s_op rfl (fun _ => Yd.move rfl) rfl ?_
      refine J.s_op rfl (fun _ => Yd.move rfl) rfl ?_
      refine J.s_nil ?_
      rcases rdKs_yes (show j < n by omega) hR with ⟨e, i, d1, d2, g1, g2, hst, hR2⟩
      · skip
        have h83 := rdT_le g1
        have h84 := rdT_le g2
        obtain ⟨_, _, _, _, ge1, _⟩ := rdT_some g1
        obtain ⟨_, _, _, _, gi1, _⟩ := rdT_some g2
        obtain ⟨_, _, _, _, hn40, _⟩ := rdT_some h2
        refine J.g_op rfl (fun w1 ht => Yd.load pl23 rfl (Cel.cell1 (Cel.thb hp ht hlt_p (fun e => apb _ rfl (by rw [e]))) 0 rfl)) rfl ?_
        refine J.g_eff rfl (Ye.call cl34 rfl (Lnum_ok hr hcl g1)) rfl (fun _ _ h => Thb.one h.2.2) ?_
        rintro _ w6 ⟨rfl, hr2, x1⟩
        have hp := Cel.tnk hp x1 (ApL.one apb)
        have e0 := Tn.tnk e0 (fun q hq => by simp only [List.mem_singleton] at hq; subst hq; exact .inl (by simp)) x1
        have hs := Sk.lo hs x1 (LoL.of1 hbl)
        clear x1
        replace hr := hr2
        clear hr2
        refine J.g_eff rfl (Ye.call cl34 rfl (Lnum_ok hr (by have h81 := rdT_le g1; omega) g2)) rfl (fun _ _ h => Thb.one h.2.2) ?_
        rintro _ w7 ⟨rfl, hr2, x1⟩
        have hp := Cel.tnk hp x1 (ApL.one apb)
        have e0 := Tn.tnk e0 (fun q hq => by simp only [List.mem_singleton] at hq; subst hq; exact .inl (by simp)) x1
        have hs := Sk.lo hs x1 (LoL.of1 hbl)
        clear x1
        replace hr := hr2
        clear hr2
        refine J.g_eff rfl (Ye.call cl35 rfl (RFixed_ok hr (by omega) (by omega))) rfl (fun _ _ h => Thb.one h.2.2) ?_
        have hsF := hs
        have hwF := e0.size
        rintro vk w8 ⟨ovk, hr2, x1⟩
        have hfk := Ow.fr ovk
        have ap_p_vk : Ap (some p) vk.ownBlock := Ap.mk (Cel.live hp) hfk
        have fr_vk : Fr w.heap.size vk.ownBlock := Fr.le hfk e0.size
        have hp := Cel.tnk hp x1 (ApL.one apb)
        have e0 := Tn.tnk e0 (fun q hq => by simp only [List.mem_singleton] at hq; subst hq; exact .inl (by simp)) x1
        have hs := Sk.lo hs x1 (LoL.of1 hbl)
        have xF := x1
        clear x1
        replace ovk := Ow.base ovk hwF
        replace hr := hr2
        clear hr2
        refine J.g_nil ?_
        refine J.s_eff rfl (Ye.call cl10 rfl (Put_all hsF xF (LoL.of1 hbl) (Ow.rd ovk) (fun q _ hq => (Ap.mk hq hfk).symm) hwF (by omega) (by omega))) rfl ?_
        rintro _ w9 ⟨rfl, hs2, x1⟩
        have e0 := Tn.th e0 x1 (Nat.le_refl _)
        have hp := Cel.th hp x1 hlt_p
        have hr := Rdr.th hr x1 (fun _ h => h.2)
        replace hs := hs2
        clear hs2 x1
        refine J.s_op rfl (fun _ => Yd.move rfl) rfl ?_
        refine J.s_op rfl (fun _ => Yd.extract rfl rfl) rfl ?_
        refine J.s_op rfl (fun _ => Yd.extract rfl rfl) rfl ?_
        refine J.s_op rfl (fun _ => Yd.assign rfl) rfl ?_
        refine J.s_op rfl (fun _ => Yd.assign rfl) rfl ?_
        refine J.s_nil ?_
        refine J.n_then ?_
        refine J.seq ?_
        refine J.region ?_
        have hpv : putV (m0 : Int) L (e : Int) (i : Int) (d2.take (32 : Int).toNat) = (0, 0, L ++ [((e : Int), (i : Int), d2.take 32)]) := putV_add (show wiK (e : Int) ∧ wiK (i : Int) ∧ (d2.take 32).length = 32 from ⟨wiN (by omega), wiN (by omega), by rw [List.length_take]; omega⟩) hst.2.1 hst.2.2
        refine J.op (Yd.move rfl) rfl ?_
        refine J.op (Yd.neq rfl rfl) rfl ?_
        refine J.op (Yd.move rfl) rfl ?_
        refine J.know (t := 35) (v' := .bool false) rfl (ff (by rw [hpv]; simp)) ?_
        refine J.op_g rfl rfl rfl (Yd.move rfl) rfl ?_
        refine J.op_g rfl rfl rfl (Yd.gtr rfl rfl) rfl ?_
        refine J.op (Yd.pick_f rfl rfl) rfl ?_
        refine J.nil ?_
        refine J.n_then ?_
        refine J.know (t := 38) (v' := .bool false) rfl (ff (by rw [hpv]; simp)) ?_
        refine J.cond_false rfl ?_
        refine J.skip ?_
        refine J.n_block ?_
        refine J.n_then ?_
        refine J.region ?_
        refine J.op (Yd.move rfl) rfl ?_
        refine J.op (Yd.sub rfl rfl (by first | omega | exact idx_u8' _ | (simp only [Int.toNat_natCast]; omega) | (simp only [List.length_map, List.length_drop, List.length_take, List.length_append, List.length_replicate]; omega) | (simp <;> omega))) rfl ?_
        refine J.op (Yd.assign rfl) rfl ?_
        refine J.nil ?_
        refine J.n_then ?_
        exact J.round ((j + 1, L ++ [((e : Int), (i : Int), d2.take 32)], d2.drop 32)) ⟨(someI (by show (n : Int) - (j : Int) - 1 = (n : Int) - ((j + 1 : Nat) : Int); omega)), rfl, rfl, trivial⟩ (⟨by show j + 1 ≤ n; omega, (by show (L ++ [_]).length = j + 1; rw [List.length_append, hLi]; rfl), (by show ((L ++ [_]).length : Int) ≤ (m0 : Int); rw [List.length_append, List.length_singleton]; omega), hR2, (by show (d2.drop 32).length ≤ 1000000; rw [List.length_drop]; omega), (by have h9 := hr; exact h9), (by rw [hpv] at hs; exact hs), hp, e0⟩) (by show n - (j + 1) < n - j; omega)
    · skip
      obtain rfl : j = n := by omega
      rw [Nat.sub_self] at hR
      cases hR
      refine J.exit ?_
      refine J.x_then ?_
      refine J.x_then ?_
      refine J.x_block ?_
      exact J.end0 rfl (⟨_, rfl, bs, hr.mono fun _ h => h.1, hp, hs, e0⟩)

theorem ReadL_bad {p : Nat} {a : Value} {l : List UInt8} {w : World} (ha : Bs w a l) (hl : l.length ≤ 1000000) (hp : Cel w p 23 [(0, 1, [.pointer none])]) (hld : ldR l = none) : C Try.prog 32 [a, .func (.func 33) #[] #[.pointer (some ⟨p, 0, none⟩)]] w (Ret fun u w' => u = I 2 ∧ Tn [some p] w w') := by
  have hlp := Cel.lt hp
  exact (Read_err (f := 33) (fst := #[]) (cap := #[.pointer (some ⟨p, 0, none⟩)]) (rs := [some p]) (n := 2) (Φ := fun _ => True) cl33 (LoL.one (Cel.live hp)) ha (by omega) (by decide) (fun w1 be br hx hbe hlt hr => (LdC_bad hr (hp.ext hx) (Lo.out (Cel.live hp)) hl hld).pan fun ch w2 h => ⟨h.1, h.2, fun _ _ => trivial⟩)).ret fun u w' h => ⟨h.1, h.2.1⟩
theorem ReadL_ok {p : Nat} {a : Value} {l : List UInt8} {w : World} {m : Int} {L : List Key} {r : List UInt8} (ha : Bs w a l) (hl : l.length ≤ 1000000) (hp : Cel w p 23 [(0, 1, [.pointer none])]) (hld : ldR l = some (m, L, r)) : C Try.prog 32 [a, .func (.func 33) #[] #[.pointer (some ⟨p, 0, none⟩)]] w (Ret fun u w' => ∃ bs, u = I (if r.length = 0 then 0 else 2) ∧ Cel w' p 23 [(0, 1, [.pointer (some ⟨bs, 0, none⟩)])] ∧ Sk 56 60 w.heap.size w' bs m L ∧ Tn [some p] w w') := by
  have hlp := Cel.lt hp
  refine (Read_ret (f := 33) (fst := #[]) (cap := #[.pointer (some ⟨p, 0, none⟩)]) (rs := [some p]) (Φ := fun w' l2 => l2 = r ∧ ∃ bs, Cel w' p 23 [(0, 1, [.pointer (some ⟨bs, 0, none⟩)])] ∧ Sk 56 60 w.heap.size w' bs m L) cl33 (LoL.one (Cel.live hp)) ha (by omega) (fun w1 be br hx hbe hlt hr => (LdC_ok hr (hp.ext hx) (Lo.out (Cel.live hp)) hl hld).ret fun _ w2 h => ?_)).ret fun u w' h => ?_
  · obtain ⟨bs, h1, h2, h3, h4⟩ := h
    have hbr := Rdr.live hr _ rfl
    exact ⟨_, h1, h4, fun w3 ht => ⟨rfl, bs, h2.tnk ht (ApL.one (fun k e1 e2 => by cases e1; cases e2; omega)), (h3.lo ht (LoL.of1 (by omega))).le hx.size⟩⟩
  · obtain ⟨l2, h1, h2, rfl, bs, h3, h4⟩ := h
    exact ⟨bs, h1, h3, h4, h2⟩

theorem Load_any {a : Value} {l : List UInt8} {w : World} (ha : Bs w a l) (hl : l.length ≤ 100000) : C Try.prog 18 [a] w (Ret fun u w' => (∀ m L, skR l = some (m, L) → ∃ bs, u = .tuple #[.pointer (some ⟨bs, 0, none⟩), I 0] ∧ Sk 56 60 w.heap.size w' bs m L ∧ (1 ≤ m ∧ m ≤ 1000) ∧ (L.length : Int) ≤ m ∧ KOK L ∧ l = savB m L ∧ Ext w w') ∧ (skR l = none → u = .tuple #[.pointer none, I 2] ∧ Ext w w')) := by
  have e0 := Ext.refl w
  refine C.enter Try.func18 rfl Try.ntmps18 rfl ?_
  refine J.seq ?_
  refine J.region ?_
  refine J.op (Yd.assign rfl) rfl ?_
  refine J.op (Yd.assign rfl) rfl ?_
  refine J.nil ?_
  refine J.n_then ?_
  refine J.seq ?_
  refine J.region ?_
  refine J.eff (Ye.alloc ti23 (S := [(0, 1, [.pointer none])]) (by simp [SegAll, SegOK, Value.cells])) rfl ?_
  rintro _ w1 ⟨b4_0, rfl, hb_, c4_0, x1⟩
  have fr_b4_0 : Fr w.heap.size (some b4_0) := Fr.le (Fr.blk hb_) e0.size
  have e0 := e0.trans x1
  clear x1 hb_
  refine J.nil ?_
  refine J.n_then ?_
  refine J.seq ?_
  refine J.region ?_
  rcases ld_cases l with ⟨hld, hno⟩ | ⟨m, L, r, hld, hr0, hno⟩ | ⟨m, L, hld, hsk, hm, hLm, hK, hsv⟩
  · skip
    refine J.op (Yd.move rfl) rfl ?_
    refine J.op (Yd.mkFuncC rfl rfl) rfl ?_
    have hszR := e0.size
    refine J.eff (Ye.call cl32 rfl (ReadL_bad (Rd.ext ha e0) (by omega) c4_0 hld)) rfl ?_
    rintro _ w2 ⟨rfl, x1⟩
    have e0 := Ext.tnk e0 (fun q hq => by simp only [List.mem_singleton] at hq; subst hq; exact fr_b4_0) x1
    clear x1
    refine J.op (Yd.assign rfl) rfl ?_
    refine J.nil ?_
    refine J.n_then ?_
    refine J.seq ?_
    refine J.seq ?_
    refine J.region ?_
    refine J.op (Yd.move rfl) rfl ?_
    refine J.op (Yd.neq rfl rfl) rfl ?_
    refine J.op (Yd.move rfl) rfl ?_
    refine J.know (t := 11) (v' := .bool true) rfl (tt (by decide)) ?_
    refine J.not_g rfl rfl rfl rfl rfl ?_
    refine J.not_g rfl rfl rfl rfl rfl ?_
    refine J.not_g rfl rfl rfl rfl rfl ?_
    refine J.not_g rfl rfl rfl rfl rfl ?_
    refine J.not_g rfl rfl rfl rfl rfl ?_
    refine J.op (Yd.pick_t rfl rfl) rfl ?_
    refine J.nil ?_
    refine J.n_then ?_
    refine J.cond_true rfl ?_
    refine J.seq ?_
    refine J.region ?_
    refine J.op (Yd.assign rfl) rfl ?_
    refine J.op (Yd.assign rfl) rfl ?_
    refine J.nil ?_
    refine J.n_then ?_
    refine J.ret ?_
    refine J.r_then ?_
    exact J.ret2 rfl rfl rfl (⟨_, rfl, fun m' L' h => (by rw [hno] at h; cases h), fun _ => ⟨rfl, e0⟩⟩)
  · skip
    refine J.op (Yd.move rfl) rfl ?_
    refine J.op (Yd.mkFuncC rfl rfl) rfl ?_
    have hszR := e0.size
    refine J.eff (Ye.call cl32 rfl (ReadL_ok (Rd.ext ha e0) (by omega) c4_0 hld)) rfl ?_
    rintro _ w3 ⟨bs, rfl, hc2, hs, x1⟩
    have e0 := Ext.tnk e0 (fun q hq => by simp only [List.mem_singleton] at hq; subst hq; exact fr_b4_0) x1
    clear x1
    replace c4_0 := hc2
    clear hc2
    replace hs := Sk.le hs hszR
    refine J.op (Yd.assign rfl) rfl ?_
    refine J.nil ?_
    refine J.n_then ?_
    refine J.seq ?_
    refine J.seq ?_
    refine J.region ?_
    refine J.op (Yd.move rfl) rfl ?_
    refine J.op (Yd.neq rfl rfl) rfl ?_
    refine J.op (Yd.move rfl) rfl ?_
    refine J.know (t := 11) (v' := .bool true) rfl (tt (by rw [if_neg hr0]; decide)) ?_
    refine J.not_g rfl rfl rfl rfl rfl ?_
    refine J.not_g rfl rfl rfl rfl rfl ?_
    refine J.not_g rfl rfl rfl rfl rfl ?_
    refine J.not_g rfl rfl rfl rfl rfl ?_
    refine J.not_g rfl rfl rfl rfl rfl ?_
    refine J.op (Yd.pick_t rfl rfl) rfl ?_
    refine J.nil ?_
    refine J.n_then ?_
    refine J.cond_true rfl ?_
    refine J.seq ?_
    refine J.region ?_
    refine J.op (Yd.assign rfl) rfl ?_
    refine J.op (Yd.assign rfl) rfl ?_
    refine J.nil ?_
    refine J.n_then ?_
    refine J.ret ?_
    refine J.r_then ?_
    exact J.ret2 rfl rfl rfl (⟨_, rfl, fun m' L' h => (by rw [hno] at h; cases h), fun _ => ⟨rfl, e0⟩⟩)
  · skip
    refine J.op (Yd.move rfl) rfl ?_
    refine J.op (Yd.mkFuncC rfl rfl) rfl ?_
    have hszR := e0.size
    refine J.eff (Ye.call cl32 rfl (ReadL_ok (Rd.ext ha e0) (by omega) c4_0 hld)) rfl ?_
    rintro _ w4 ⟨bs, rfl, hc2, hs, x1⟩
    have e0 := Ext.tnk e0 (fun q hq => by simp only [List.mem_singleton] at hq; subst hq; exact fr_b4_0) x1
    clear x1
    replace c4_0 := hc2
    clear hc2
    replace hs := Sk.le hs hszR
    refine J.op (Yd.assign rfl) rfl ?_
    refine J.nil ?_
    refine J.n_then ?_
    refine J.seq ?_
    refine J.seq ?_
    refine J.region ?_
    refine J.op (Yd.move rfl) rfl ?_
    refine J.op (Yd.neq rfl rfl) rfl ?_
    refine J.op (Yd.move rfl) rfl ?_
    refine J.know (t := 11) (v' := .bool false) rfl (ff (by decide)) ?_
    refine J.op_g rfl rfl rfl (Yd.load pl23 rfl (Cel.cell1 c4_0 0 rfl)) rfl ?_
    refine J.eff_g rfl rfl rfl (Ye.call cl17 rfl (Save_sk hs hK hm (by omega))) rfl ?_
    rintro s13_5 w5 ⟨os13_5, x1⟩
    have ap_b4_0_s13_5 : Ap (some b4_0) s13_5.ownBlock := Ap.mk (Cel.live c4_0) (Ow.fr os13_5)
    have fr_s13_5 : Fr w.heap.size s13_5.ownBlock := Fr.le (Ow.fr os13_5) e0.size
    replace os13_5 := Ow.base os13_5 e0.size
    have hs := hs.ext x1
    have e0 := e0.trans x1
    have c4_0 := c4_0.ext x1
    clear x1
    refine J.op_g rfl rfl rfl (Yd.move rfl) rfl ?_
    refine J.eff_g rfl rfl rfl (Ye.call cl36 rfl (Equal_ok (Ow.rd os13_5) (Rd.ext ha e0))) rfl ?_
    rintro _ w6 ⟨rfl, x1⟩
    have hs := hs.ext x1
    have e0 := e0.trans x1
    have c4_0 := c4_0.ext x1
    have os13_5 := os13_5.ext x1
    clear x1
    refine J.op_g rfl rfl rfl (Yd.not_dec rfl) rfl ?_
    refine J.op (Yd.pick_f rfl rfl) rfl ?_
    refine J.nil ?_
    refine J.n_then ?_
    refine J.know (t := 17) (v' := .bool false) rfl (ff (by exact fun h => h hsv.symm)) ?_
    refine J.cond_false rfl ?_
    refine J.skip ?_
    refine J.n_then ?_
    refine J.seq ?_
    refine J.region ?_
    refine J.op (Yd.load pl23 rfl (Cel.cell1 c4_0 0 rfl)) rfl ?_
    refine J.op (Yd.assign rfl) rfl ?_
    refine J.op (Yd.assign rfl) rfl ?_
    refine J.nil ?_
    refine J.n_then ?_
    refine J.ret ?_
    exact J.ret2 rfl rfl rfl (⟨_, rfl, fun m' L' h => (by rw [hsk] at h; cases h; exact ⟨bs, rfl, hs, hm, hLm, hK, hsv, e0⟩), fun h => (by rw [hsk] at h; cases h)⟩)
end Ytfefphcmfhabiaa
end Go.Proofs
