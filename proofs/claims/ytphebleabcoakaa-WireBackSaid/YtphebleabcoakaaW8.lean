import Derived.Test.YtphebleabcoakaaT
import Derived.Test.YtphebleabcoakaaW7
set_option linter.unusedVariables false
set_option linter.unusedSimpArgs false
set_option maxRecDepth 100000
set_option maxHeartbeats 4000000
namespace Go.Proofs
open Go.X Go.RowKit
namespace Ytphebleabcoakaa
theorem WBytes_ok {base : Nat → Prop} {b : Nat} {l : List UInt8} {w : World} {a : Value} {m : List UInt8} (hw : Wr 34 5 base w b l) (hbw : Hb base w) (ha : ∀ w', Thb base b w w' → Bs w' a m) (hm : l.length + m.length ≤ 100000000) : C Try.prog 20 [.pointer (some ⟨b, 0, none⟩), a] w (Ret fun u w' => u = .pointer (some ⟨b, 0, none⟩) ∧ Wr 34 5 base w' b (l ++ putN (UInt64.ofNat m.length) ++ m) ∧ Thb base b w w') := by
  have h10 := putN_len (UInt64.ofNat m.length)
  have e0 := Thb.refl base b w
  refine C.enter Try.func20 rfl Try.ntmps20 rfl ?_
  refine J.seq ?_
  refine J.region ?_
  refine J.op (Yd.assign rfl) rfl ?_
  refine J.nil ?_
  refine J.n_then ?_
  refine J.seq ?_
  refine J.region ?_
  refine J.op (Yd.move rfl) rfl ?_
  refine J.op (Yd.move rfl) rfl ?_
  refine J.op (Yd.len_b Try.underlying32 rfl (ha _ e0)) rfl ?_
  refine J.op (Yd.cv_i_64 Try.underlying3 Try.underlying37 rfl (by first | omega | exact idx_u8' _ | (simp only [Int.toNat_natCast]; omega) | (simp only [List.length_map, List.length_drop, List.length_take, List.length_append, List.length_replicate]; omega) | (simp <;> omega))) rfl ?_
  refine J.eff (Ye.call cl27 rfl (WNum_ok hw hbw  (by omega))) rfl ?_
  rintro _ w1 ⟨rfl, hw2, x1⟩
  have e0 := Thb.trans e0 x1
  have hbw := Hb.le hbw x1.size
  replace hw := hw2
  clear hw2 x1
  refine J.op (Yd.move rfl) rfl ?_
  refine J.eff (Ye.call cl36 rfl (WFixed_ok hw hbw (ha _ e0) (by simp only [List.length_append, Int.toNat_natCast]; omega))) rfl ?_
  rintro _ w2 ⟨rfl, hw2, x1⟩
  have e0 := Thb.trans e0 x1
  have hbw := Hb.le hbw x1.size
  replace hw := hw2
  clear hw2 x1
  refine J.op (Yd.assign rfl) rfl ?_
  refine J.nil ?_
  refine J.n_then ?_
  refine J.ret ?_
  exact J.ret1 rfl rfl (⟨_, rfl, rfl, (by rw [Int.toNat_natCast] at hw; exact hw), e0⟩)

theorem WList0_ok {base : Nat → Prop} {b : Nat} {l : List UInt8} {w : World} {a : Value} {n : Nat} (hw : Wr 34 5 base w b l) (hbw : Hb base w) (hrow : ∀ w', Thb base b w w' → Rd w' a (List.replicate n nilS)) (hm : l.length + n ≤ 10000000) : C Try.prog 22 [.pointer (some ⟨b, 0, none⟩), a] w (Ret fun u w' => u = .pointer (some ⟨b, 0, none⟩) ∧ Wr 34 5 base w' b (l ++ putN (UInt64.ofNat n) ++ List.replicate n 0) ∧ Thb base b w w') := by
  have e0 := Thb.refl base b w
  refine C.enter Try.func22 rfl Try.ntmps22 rfl ?_
  refine J.seq ?_
  refine J.region ?_
  refine J.op (Yd.assign rfl) rfl ?_
  refine J.nil ?_
  refine J.n_then ?_
  refine J.seq ?_
  refine J.region ?_
  refine J.op (Yd.move rfl) rfl ?_
  refine J.op (Yd.move rfl) rfl ?_
  refine J.op (Yd.len Try.underlying38 rfl (hrow _ e0)) rfl ?_
  refine J.op (Yd.cv_i_64 Try.underlying3 Try.underlying37 rfl (by first | omega | (simp only [List.length_replicate, Int.toNat_natCast]; omega))) rfl ?_
  refine J.eff (Ye.call cl27 rfl (WNum_ok hw hbw  (by omega))) rfl ?_
  rintro _ w1 ⟨rfl, hw2, x1⟩
  have e0 := Thb.trans e0 x1
  have hbw := Hb.le hbw x1.size
  replace hw := hw2
  clear hw2 x1
  refine J.nil ?_
  refine J.n_then ?_
  refine J.seq ?_
  refine J.seq ?_
  refine J.region ?_
  refine J.op (Yd.move rfl) rfl ?_
  refine J.op (Yd.cast (Yd.len Try.underlying38 rfl (hrow _ e0)) (congrArg (fun z : Nat => I (z : Int)) List.length_replicate)) rfl ?_
  refine J.op (Yd.move rfl) rfl ?_
  refine J.nil ?_
  refine J.n_then ?_
  refine J.block ?_
  refine J.loop (ι := Nat) (fun i => [(12, a), (13, I (n : Int)), (14, I (i : Int)), (0, .pointer (some ⟨b, 0, none⟩))]) (fun i w' => i ≤ n ∧ Wr 34 5 base w' b (l ++ putN (UInt64.ofNat n) ++ List.replicate i 0) ∧ Hb base w' ∧ Thb base b w w') (fun i => n - i) (0) ⟨rfl, rfl, rfl, rfl, trivial⟩ (⟨Nat.zero_le _, (by rw [List.replicate_zero, List.append_nil]; rw [List.length_replicate, Int.toNat_natCast] at hw; exact hw), hbw, e0⟩) ?_
  rintro i w2 ⟨hk, hw, hbw, e0⟩
  have h10 := putN_len (UInt64.ofNat n)
  refine J.seq ?_
  refine J.region ?_
  refine J.op (Yd.lss rfl rfl) rfl ?_
  refine J.nil ?_
  refine J.n_then ?_
  refine J.seq ?_
  refine J.cond_dec rfl (fun hc0 => ?_) (fun hc0 => ?_)
  · skip
    refine J.skip ?_
    refine J.n_then ?_
    refine J.seq ?_
    refine J.block ?_
    refine J.seq ?_
    refine J.region ?_
    refine J.op (Yd.idx Try.underlying38 ti32 rfl rfl (hrow _ e0) (by first | omega | (simp only [List.length_replicate, Int.toNat_natCast]; omega))) rfl ?_
    refine J.op (Yd.load pl32 rfl (Rd.cell (hrow _ e0) (by rw [Int.toNat_natCast, List.getElem?_replicate, if_pos (by omega)]))) rfl ?_
    refine J.op (Yd.assign rfl) rfl ?_
    refine J.nil ?_
    refine J.n_then ?_
    refine J.region ?_
    refine J.op (Yd.move rfl) rfl ?_
    refine J.op (Yd.move rfl) rfl ?_
    refine J.eff (Ye.call cl20 rfl (WBytes_ok hw hbw (fun w' _ => Rd.nilM (fun x : UInt8 => B x) _) (by simp only [List.length_append, List.length_replicate, List.length_nil]; omega))) rfl ?_
    rintro _ w3 ⟨rfl, hw2, x1⟩
    have e0 := Thb.trans e0 x1
    have hbw := Hb.le hbw x1.size
    replace hw := hw2
    clear hw2 x1
    refine J.nil ?_
    refine J.n_block ?_
    refine J.n_then ?_
    refine J.region ?_
    refine J.op (Yd.add rfl rfl (by first | omega | (simp only [List.length_replicate, Int.toNat_natCast]; omega))) rfl ?_
    refine J.op (Yd.move rfl) rfl ?_
    refine J.nil ?_
    refine J.n_then ?_
    exact J.round (i + 1) ⟨rfl, rfl, rfl, rfl, trivial⟩ (⟨by omega, (by rw [show UInt64.ofNat ([] : List UInt8).length = 0 from rfl, putN_0, List.append_nil, List.append_assoc, ← List.replicate_succ'] at hw; exact hw), hbw, e0⟩) (by omega)
  · skip
    refine J.exit ?_
    refine J.x_then ?_
    refine J.x_then ?_
    refine J.x_block ?_
    refine J.n_then ?_
    refine J.seq ?_
    refine J.region ?_
    refine J.op (Yd.move rfl) rfl ?_
    refine J.op (Yd.assign rfl) rfl ?_
    refine J.nil ?_
    refine J.n_then ?_
    refine J.ret ?_
    exact J.ret1 rfl rfl (⟨_, rfl, rfl, (by rw [show i = n by omega] at hw; exact hw), e0⟩)

theorem RList0_ok {K : Nat → Prop} {b k z : Nat} {q : UInt64} {l : List UInt8} {m : Int} {w : World} (hr : Rdr 61 K w b l) (hl : l.length ≤ 1000000000) (hm : 0 ≤ m ∧ m ≤ 1000000000) (hg : gN 0 l 0 = some (q, k)) (hq : (q.toNat : Int) ≤ m) (hz : l.drop k = List.replicate z 0) (hzq : z = q.toNat) (hz5 : z ≤ 1000000) : C Try.prog 26 [.pointer (some ⟨b, 0, none⟩), I m, I 0] w (Ret fun _ w' => Rdr 61 K w' b [] ∧ Tn [some b] w w') := by
  have hlb := Rdr.live hr
  replace hr := hr.lo
  have e0 := Tn.refl [(some b)] w
  refine C.enter Try.func26 rfl Try.ntmps26 rfl ?_
  refine J.seq ?_
  refine J.region ?_
  refine J.op (Yd.assign rfl) rfl ?_
  refine J.nil ?_
  refine J.n_then ?_
  refine J.seq ?_
  refine J.seq ?_
  refine J.region ?_
  refine J.op (Yd.move rfl) rfl ?_
  refine J.op (Yd.lss rfl rfl) rfl ?_
  refine J.nil ?_
  refine J.n_then ?_
  refine J.know (t := 9) (v' := .bool false) rfl (ff (by decide)) ?_
  refine J.cond_false rfl ?_
  refine J.skip ?_
  refine J.n_then ?_
  refine J.seq ?_
  refine J.seq ?_
  refine J.region ?_
  refine J.op (Yd.move rfl) rfl ?_
  refine J.op (Yd.move rfl) rfl ?_
  refine J.eff (Ye.call cl43 rfl (RSmall_ok hr (by omega) hm hg hq)) rfl ?_
  rintro _ w1 ⟨rfl, hr2, x1⟩
  have e0 := Tn.tnk e0 (fun q hq => by simp only [List.mem_singleton] at hq; subst hq; exact .inl (by simp)) x1
  clear x1
  replace hr := hr2
  clear hr2
  refine J.op (Yd.assign rfl) rfl ?_
  refine J.nil ?_
  refine J.n_then ?_
  refine J.block ?_
  refine J.loop (ι := Nat × Value × List Value) (fun i => [(2, I 0), (7, I ((q.toNat : Int) - (i.1 : Int))), (0, .pointer (some ⟨b, 0, none⟩)), (6, i.2.1)]) (fun i w' => i.1 ≤ q.toNat ∧ i.1 ≤ z ∧ Rdr 61 (fun k => K k ∧ k < w.heap.size) w' b (List.replicate (z - i.1) 0) ∧ Rw w.heap.size 32 5 w' i.2.1 i.2.2 (List.replicate i.1 []) ∧ Fr w.heap.size (i.2.1).ownBlock ∧ Tn [(some b)] w w') (fun i => q.toNat - i.1) ((0, nilS, [])) ⟨rfl, (someI (by show (q.toNat : Int) = (q.toNat : Int) - ((0 : Nat) : Int); omega)), rfl, rfl, trivial⟩ (⟨Nat.zero_le _, Nat.zero_le _, (by rw [hz] at hr; exact hr), Rw.nil _ _ _ _, Fr.nil, e0⟩) ?_
  rintro ⟨i, v6, vs6⟩ w2 ⟨hk, hkz, hr, ho6, fr_v6, e0⟩
  dsimp only at *
  have hvl : vs6.length = i := by have h9 := ho6.len; rw [List.length_replicate] at h9; exact h9
  refine J.seq ?_
  refine J.seq ?_
  refine J.region ?_
  refine J.op (Yd.move rfl) rfl ?_
  refine J.op (Yd.gtr rfl rfl) rfl ?_
  refine J.nil ?_
  refine J.n_then ?_
  refine J.cond_dec rfl (fun hc1 => ?_) (fun hc1 => ?_)
  · skip
    refine J.skip ?_
    refine J.n_then ?_
    refine J.seq ?_
    refine J.block ?_
    refine J.region ?_
    refine J.op (Yd.move rfl) rfl ?_
    refine J.op (Yd.move rfl) rfl ?_
    refine J.op (Yd.move rfl) rfl ?_
    refine J.eff (Ye.call cl24 rfl (RBytes_ok (q := 0) (k := 1) (m := 0) hr (by rw [List.length_replicate]; omega) (by decide) (by rw [rep_cons (show 0 < z - i by omega)]; exact gN_zero _) (by decide) (by rw [List.length_replicate, show (0 : UInt64).toNat = 0 from rfl]; omega))) rfl ?_
    rintro v21 w3 ⟨ov21, fr0, hr2, x1⟩
    have ap_v6_v21 : Ap v6.ownBlock v21.ownBlock := Ap.mk (Rw.live ho6) fr0
    have fr_v21 : Fr w.heap.size v21.ownBlock := Fr.le fr0 e0.size
    have ho6 := Rw.tnk ho6 x1 (LoL.one hlb)
    have e0 := Tn.tnk e0 (fun q hq => by simp only [List.mem_singleton] at hq; subst hq; exact .inl (by simp)) x1
    clear x1
    have ov21 := Ow.up (show Ob 0 5 w3 v21 [] from ov21) fr_v21
    replace hr := hr2
    clear hr2 fr0
    refine J.eff (Ye.litS1 Try.underlying38 ti32 rfl rfl (Ow.rd ov21)) rfl ?_
    rintro s22_4 w4 ⟨o22_4, x1⟩
    have e0 := Tn.ext e0 x1
    have ho6 := ho6.ext x1
    have hr := hr.ext x1
    have ov21 := ov21.ext x1
    clear x1
    refine J.eff (Ye.appendR Try.underlying38 ti32 rfl rfl rfl rfl (Rw.row ho6) (Rl.rd o22_4) (by intro v_ hv_; simp only [List.mem_singleton] at hv_; subst hv_; exact Rd.one (Ow.rd ov21)) (by first | omega | exact idx_u8' _ | (simp only [Int.toNat_natCast]; omega) | (simp only [List.length_map, List.length_drop, List.length_take, List.length_append, List.length_replicate]; omega) | (simp <;> omega)) e0.size) rfl ?_
    rintro s23_5 w5 ⟨o23_5, hg, hsf⟩
    have o23_5 := Rw.push ho6 ov21 (Ap.symm ap_v6_v21) hg hsf o23_5
    have ap_v21_s23_5 : Ap v21.ownBlock s23_5.ownBlock := Ap.sf (Ap.symm ap_v6_v21) (Ow.live ov21) hsf
    have fr_s23_5 : Fr w.heap.size s23_5.ownBlock := Fr.sf fr_v6 hsf e0.size
    have hr := Rdr.gbk hr hg (fun k e h => by have := fr_v6 k e; omega)
    have e0 := Tn.gbk e0 (.inr fr_v6) hg
    clear hg hsf
    refine J.op (Yd.assign rfl) rfl ?_
    refine J.nil ?_
    refine J.n_block ?_
    refine J.n_then ?_
    refine J.region ?_
    refine J.op (Yd.move rfl) rfl ?_
    refine J.op (Yd.sub rfl rfl (by first | omega | exact idx_u8' _ | (simp only [Int.toNat_natCast]; omega) | (simp only [List.length_map, List.length_drop, List.length_take, List.length_append, List.length_replicate]; omega) | (simp <;> omega))) rfl ?_
    refine J.op (Yd.assign rfl) rfl ?_
    refine J.nil ?_
    refine J.n_then ?_
    exact J.round ((i + 1, s23_5, _)) ⟨rfl, (someI (by show (q.toNat : Int) - (i : Int) - 1 = (q.toNat : Int) - ((i + 1 : Nat) : Int); omega)), rfl, rfl, trivial⟩ (⟨by show i + 1 ≤ q.toNat; omega, by show i + 1 ≤ z; omega, (by rw [List.drop_replicate, show z - i - (1 + (0 : UInt64).toNat) = z - (i + 1) from by show z - i - 1 = z - (i + 1); omega] at hr; exact hr), (show Rw _ _ _ _ _ _ (List.replicate (i + 1) []) from by rw [List.replicate_succ']; exact o23_5), fr_s23_5, e0⟩) (by show q.toNat - (i + 1) < q.toNat - i; omega)
  · skip
    refine J.exit ?_
    refine J.x_then ?_
    refine J.x_then ?_
    refine J.x_block ?_
    refine J.n_then ?_
    refine J.seq ?_
    refine J.region ?_
    refine J.op (Yd.move rfl) rfl ?_
    refine J.op (Yd.assign rfl) rfl ?_
    refine J.nil ?_
    refine J.n_then ?_
    refine J.ret ?_
    exact J.ret1 rfl rfl (⟨_, rfl, (by rw [show z - i = 0 by omega] at hr; exact hr.mono fun _ h => h.1), e0⟩)

theorem RList0_bad {K : Nat → Prop} {b k z : Nat} {q : UInt64} {l : List UInt8} {m : Int} {w : World} (hr : Rdr 61 K w b l) (hl : l.length ≤ 1000000000) (hm : 0 ≤ m ∧ m ≤ 1000000000) (hg : gN 0 l 0 = some (q, k)) (hq : (q.toNat : Int) ≤ m) (hz : l.drop k = List.replicate z 0) (hzq : z < q.toNat) (hz5 : z ≤ 1000000) : C Try.prog 26 [.pointer (some ⟨b, 0, none⟩), I m, I 0] w (Pan fun ch w' => ch = [{ v := .iface 24 (I 2), recovered := false }] ∧ Tn [some b] w w') := by
  have hlb := Rdr.live hr
  replace hr := hr.lo
  have e0 := Tn.refl [(some b)] w
  refine C.enter Try.func26 rfl Try.ntmps26 rfl ?_
  refine J.seq ?_
  refine J.region ?_
  refine J.op (Yd.assign rfl) rfl ?_
  refine J.nil ?_
  refine J.n_then ?_
  refine J.seq ?_
  refine J.seq ?_
  refine J.region ?_
  refine J.op (Yd.move rfl) rfl ?_
  refine J.op (Yd.lss rfl rfl) rfl ?_
  refine J.nil ?_
  refine J.n_then ?_
  refine J.know (t := 9) (v' := .bool false) rfl (ff (by decide)) ?_
  refine J.cond_false rfl ?_
  refine J.skip ?_
  refine J.n_then ?_
  refine J.seq ?_
  refine J.seq ?_
  refine J.region ?_
  refine J.op (Yd.move rfl) rfl ?_
  refine J.op (Yd.move rfl) rfl ?_
  refine J.eff (Ye.call cl43 rfl (RSmall_ok hr (by omega) hm hg hq)) rfl ?_
  rintro _ w1 ⟨rfl, hr2, x1⟩
  have e0 := Tn.tnk e0 (fun q hq => by simp only [List.mem_singleton] at hq; subst hq; exact .inl (by simp)) x1
  clear x1
  replace hr := hr2
  clear hr2
  refine J.op (Yd.assign rfl) rfl ?_
  refine J.nil ?_
  refine J.n_then ?_
  refine J.block ?_
  refine J.loop (ι := Nat × Value × List Value) (fun i => [(2, I 0), (7, I ((q.toNat : Int) - (i.1 : Int))), (0, .pointer (some ⟨b, 0, none⟩)), (6, i.2.1)]) (fun i w' => i.1 ≤ q.toNat ∧ i.1 ≤ z ∧ Rdr 61 (fun k => K k ∧ k < w.heap.size) w' b (List.replicate (z - i.1) 0) ∧ Rw w.heap.size 32 5 w' i.2.1 i.2.2 (List.replicate i.1 []) ∧ Fr w.heap.size (i.2.1).ownBlock ∧ Tn [(some b)] w w') (fun i => q.toNat - i.1) ((0, nilS, [])) ⟨rfl, (someI (by show (q.toNat : Int) = (q.toNat : Int) - ((0 : Nat) : Int); omega)), rfl, rfl, trivial⟩ (⟨Nat.zero_le _, Nat.zero_le _, (by rw [hz] at hr; exact hr), Rw.nil _ _ _ _, Fr.nil, e0⟩) ?_
  rintro ⟨i, v6, vs6⟩ w2 ⟨hk, hkz, hr, ho6, fr_v6, e0⟩
  dsimp only at *
  have hvl : vs6.length = i := by have h9 := ho6.len; rw [List.length_replicate] at h9; exact h9
  refine J.seq ?_
  refine J.seq ?_
  refine J.region ?_
  refine J.op (Yd.move rfl) rfl ?_
  refine J.op (Yd.gtr rfl rfl) rfl ?_
  refine J.nil ?_
  refine J.n_then ?_
  refine J.cond_dec rfl (fun hc1 => ?_) (fun hc1 => ?_)
  · skip
    refine J.skip ?_
    refine J.n_then ?_
    refine J.seq ?_
    refine J.block ?_
    refine J.region ?_
    refine J.op (Yd.move rfl) rfl ?_
    refine J.op (Yd.move rfl) rfl ?_
    refine J.op (Yd.move rfl) rfl ?_
    by_cases hin : i < z
    · skip
      refine J.eff (Ye.call cl24 rfl (RBytes_ok (q := 0) (k := 1) (m := 0) hr (by rw [List.length_replicate]; omega) (by decide) (by rw [rep_cons (show 0 < z - i by omega)]; exact gN_zero _) (by decide) (by rw [List.length_replicate, show (0 : UInt64).toNat = 0 from rfl]; omega))) rfl ?_
      rintro v21 w3 ⟨ov21, fr0, hr2, x1⟩
      have ap_v6_v21 : Ap v6.ownBlock v21.ownBlock := Ap.mk (Rw.live ho6) fr0
      have fr_v21 : Fr w.heap.size v21.ownBlock := Fr.le fr0 e0.size
      have ho6 := Rw.tnk ho6 x1 (LoL.one hlb)
      have e0 := Tn.tnk e0 (fun q hq => by simp only [List.mem_singleton] at hq; subst hq; exact .inl (by simp)) x1
      clear x1
      have ov21 := Ow.up (show Ob 0 5 w3 v21 [] from ov21) fr_v21
      replace hr := hr2
      clear hr2 fr0
      refine J.eff (Ye.litS1 Try.underlying38 ti32 rfl rfl (Ow.rd ov21)) rfl ?_
      rintro s22_4 w4 ⟨o22_4, x1⟩
      have e0 := Tn.ext e0 x1
      have ho6 := ho6.ext x1
      have hr := hr.ext x1
      have ov21 := ov21.ext x1
      clear x1
      refine J.eff (Ye.appendR Try.underlying38 ti32 rfl rfl rfl rfl (Rw.row ho6) (Rl.rd o22_4) (by intro v_ hv_; simp only [List.mem_singleton] at hv_; subst hv_; exact Rd.one (Ow.rd ov21)) (by first | omega | exact idx_u8' _ | (simp only [Int.toNat_natCast]; omega) | (simp only [List.length_map, List.length_drop, List.length_take, List.length_append, List.length_replicate]; omega) | (simp <;> omega)) e0.size) rfl ?_
      rintro s23_5 w5 ⟨o23_5, hg, hsf⟩
      have o23_5 := Rw.push ho6 ov21 (Ap.symm ap_v6_v21) hg hsf o23_5
      have ap_v21_s23_5 : Ap v21.ownBlock s23_5.ownBlock := Ap.sf (Ap.symm ap_v6_v21) (Ow.live ov21) hsf
      have fr_s23_5 : Fr w.heap.size s23_5.ownBlock := Fr.sf fr_v6 hsf e0.size
      have hr := Rdr.gbk hr hg (fun k e h => by have := fr_v6 k e; omega)
      have e0 := Tn.gbk e0 (.inr fr_v6) hg
      clear hg hsf
      refine J.op (Yd.assign rfl) rfl ?_
      refine J.nil ?_
      refine J.n_block ?_
      refine J.n_then ?_
      refine J.region ?_
      refine J.op (Yd.move rfl) rfl ?_
      refine J.op (Yd.sub rfl rfl (by first | omega | exact idx_u8' _ | (simp only [Int.toNat_natCast]; omega) | (simp only [List.length_map, List.length_drop, List.length_take, List.length_append, List.length_replicate]; omega) | (simp <;> omega))) rfl ?_
      refine J.op (Yd.assign rfl) rfl ?_
      refine J.nil ?_
      refine J.n_then ?_
      exact J.round ((i + 1, s23_5, _)) ⟨rfl, (someI (by show (q.toNat : Int) - (i : Int) - 1 = (q.toNat : Int) - ((i + 1 : Nat) : Int); omega)), rfl, rfl, trivial⟩ (⟨by show i + 1 ≤ q.toNat; omega, by show i + 1 ≤ z; omega, (by rw [List.drop_replicate, show z - i - (1 + (0 : UInt64).toNat) = z - (i + 1) from by show z - i - 1 = z - (i + 1); omega] at hr; exact hr), (show Rw _ _ _ _ _ _ (List.replicate (i + 1) []) from by rw [List.replicate_succ']; exact o23_5), fr_s23_5, e0⟩) (by show q.toNat - (i + 1) < q.toNat - i; omega)
    · skip
      refine J.pan (Yp.call cl24 rfl (RBytes_bad (m := 0) hr (by rw [List.length_replicate]; omega) (by decide) (by rw [show z - i = 0 by omega]; rfl))) ?_
      rintro _ w6 ⟨rfl, x1⟩
      have e0 := Tn.tnk e0 (fun q hq => by simp only [List.mem_singleton] at hq; subst hq; exact .inl (by simp)) x1
      refine J.p_block ?_
      refine J.p_then ?_
      refine J.p_then ?_
      refine J.p_block ?_
      refine J.p_then ?_
      exact J.fin_p (⟨_, rfl, rfl, e0⟩)
  · skip
    refine J.exit ?_
    refine J.x_then ?_
    refine J.x_then ?_
    refine J.x_block ?_
    refine J.n_then ?_
    refine J.seq ?_
    refine J.region ?_
    refine J.op (Yd.move rfl) rfl ?_
    refine J.op (Yd.assign rfl) rfl ?_
    refine J.nil ?_
    refine J.n_then ?_
    refine J.ret ?_
    exact J.ret1 rfl rfl ((by exfalso; omega))

theorem RList0_big {K : Nat → Prop} {b k : Nat} {q : UInt64} {l : List UInt8} {m : Int} {w : World} (hr : Rdr 61 K w b l) (hl : l.length ≤ 1000000000) (hm : 0 ≤ m ∧ m ≤ 1000000000) (hg : gN 0 l 0 = some (q, k)) (hq : ¬ (q.toNat : Int) ≤ m) : C Try.prog 26 [.pointer (some ⟨b, 0, none⟩), I m, I 0] w (Pan fun ch w' => ch = [{ v := .iface 24 (I 11), recovered := false }] ∧ Tn [some b] w w') := by
  have e0 := Tn.refl [(some b)] w
  refine C.enter Try.func26 rfl Try.ntmps26 rfl ?_
  refine J.seq ?_
  refine J.region ?_
  refine J.op (Yd.assign rfl) rfl ?_
  refine J.nil ?_
  refine J.n_then ?_
  refine J.seq ?_
  refine J.seq ?_
  refine J.region ?_
  refine J.op (Yd.move rfl) rfl ?_
  refine J.op (Yd.lss rfl rfl) rfl ?_
  refine J.nil ?_
  refine J.n_then ?_
  refine J.know (t := 9) (v' := .bool false) rfl (ff (by decide)) ?_
  refine J.cond_false rfl ?_
  refine J.skip ?_
  refine J.n_then ?_
  refine J.seq ?_
  refine J.seq ?_
  refine J.region ?_
  refine J.op (Yd.move rfl) rfl ?_
  refine J.op (Yd.move rfl) rfl ?_
  refine J.pan (Yp.call cl43 rfl (RSmall_big hr (by omega) hm hg hq)) ?_
  rintro _ w1 ⟨rfl, x1⟩
  have e0 := Tn.tnk e0 (fun q hq => by simp only [List.mem_singleton] at hq; subst hq; exact .inl (by simp)) x1
  refine J.p_then ?_
  refine J.p_then ?_
  exact J.fin_p (⟨_, rfl, rfl, e0⟩)
end Ytphebleabcoakaa
end Go.Proofs
