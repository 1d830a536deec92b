import Derived.Test.YtphebleabcoakaaT
import Derived.Test.YtphebleabcoakaaW9
set_option linter.unusedVariables false
set_option linter.unusedSimpArgs false
set_option maxRecDepth 100000
set_option maxHeartbeats 4000000
namespace Go.Proofs
open Go.X Go.RowKit
namespace Ytphebleabcoakaa
theorem RNumP {K : Nat → Prop} {b : Nat} {r : List UInt8} {w : World} {v : UInt64} (hr : Rdr 61 K w b (putN v ++ r)) (hl : r.length ≤ 900000000) : C Try.prog 30 [.pointer (some ⟨b, 0, none⟩)] w (Ret fun u w' => u = W64 v ∧ Rdr 61 K w' b r ∧ Tn [some b] w w') := by
  have h9 := putN_len v
  refine (RNum_ok hr (by rw [List.length_append]; omega) (gN_put _ _)).ret fun u w' h => ?_
  obtain ⟨h1, h2, h3⟩ := h
  rw [List.drop_left] at h2
  exact ⟨h1, h2, h3⟩
theorem RFixedP {K : Nat → Prop} {b : Nat} {r : List UInt8} {w : World} {m : List UInt8} (hr : Rdr 61 K w b (m ++ r)) (hl : m.length + r.length ≤ 900000000) : C Try.prog 41 [.pointer (some ⟨b, 0, none⟩), I (m.length : Int)] w (Ret fun u w' => (Ob 0 5 w' u m ∧ Fr w.heap.size u.ownBlock) ∧ Rdr 61 K w' b r ∧ Tn [some b] w w') := by
  refine (RFixed_ok hr (by rw [List.length_append]; omega) (by rw [List.length_append]; omega)).ret fun u w' h => ?_
  obtain ⟨h1, h2, h3⟩ := h
  rw [Int.toNat_natCast, List.drop_left] at h2
  rw [Int.toNat_natCast, List.take_left] at h1
  exact ⟨⟨Ow.base h1 (Nat.zero_le _), Ow.fr h1⟩, h2, h3⟩
theorem RBytesP {K : Nat → Prop} {b : Nat} {r : List UInt8} {w : World} {m : List UInt8} {t : Int} (hr : Rdr 61 K w b (bF m ++ r)) (hl : m.length + r.length ≤ 900000000) (ht : (m.length : Int) ≤ t ∧ t ≤ 1000000000) : C Try.prog 24 [.pointer (some ⟨b, 0, none⟩), I t] w (Ret fun u w' => (Ob 0 5 w' u m ∧ Fr w.heap.size u.ownBlock) ∧ Rdr 61 K w' b r ∧ Tn [some b] w w') := by
  have h9 := putN_len (UInt64.ofNat m.length)
  have hn : (UInt64.ofNat m.length).toNat = m.length := u64_nat (by omega)
  unfold bF at hr
  rw [List.append_assoc] at hr
  refine (RBytes_ok (q := UInt64.ofNat m.length) hr (by simp only [List.length_append]; omega) (by omega) (gN_put _ _) (by rw [hn]; exact ht.1) (by simp only [List.length_append]; omega)).ret fun u w' h => ?_
  obtain ⟨h1, h2, h3, h4⟩ := h
  rw [List.drop_left, hn, List.take_left] at h1
  rw [hn, ← List.append_assoc, show (putN (UInt64.ofNat m.length)).length + m.length = (putN (UInt64.ofNat m.length) ++ m).length by rw [List.length_append], List.drop_left] at h3
  exact ⟨⟨h1, h2⟩, h3, h4⟩
theorem RSmallP {K : Nat → Prop} {b : Nat} {r : List UInt8} {w : World} {n : Nat} {t : Int} (hr : Rdr 61 K w b (putN (UInt64.ofNat n) ++ r)) (hl : r.length ≤ 900000000) (ht : (n : Int) ≤ t ∧ t ≤ 1000000000) : C Try.prog 43 [.pointer (some ⟨b, 0, none⟩), I t] w (Ret fun u w' => u = I (n : Int) ∧ Rdr 61 K w' b r ∧ Tn [some b] w w') := by
  have h9 := putN_len (UInt64.ofNat n)
  have hn : (UInt64.ofNat n).toNat = n := u64_nat (by omega)
  refine (RSmall_ok (q := UInt64.ofNat n) hr (by simp only [List.length_append]; omega) (by omega) (gN_put _ _) (by rw [hn]; exact ht.1)).ret fun u w' h => ?_
  obtain ⟨h1, h2, h3⟩ := h
  rw [List.drop_left] at h2
  rw [hn] at h1
  exact ⟨h1, h2, h3⟩

theorem RListP {K : Nat → Prop} {b : Nat} {r : List UInt8} {w : World} {ll : List (List UInt8)} {t e : Int} (hr : Rdr 61 K w b (putN (UInt64.ofNat ll.length) ++ ll.flatMap bF ++ r)) (hl : 11 * ll.length + ll.flatten.length + r.length ≤ 100000000) (ht : (ll.length : Int) ≤ t ∧ t ≤ 1000000000) (he : (0 ≤ e ∧ e ≤ 1000000000) ∧ ∀ i, i < ll.length → ((ll.getD i []).length : Int) ≤ e) : C Try.prog 26 [.pointer (some ⟨b, 0, none⟩), I t, I e] w (Ret fun u w' => (∃ vs, Rl w' u vs ll) ∧ Rdr 61 K w' b r ∧ Tn [some b] w w') := by
  have hlb := Rdr.live hr
  replace hr := hr.lo
  have hb0 := bFs_len ll
  replace hr := by rw [List.append_assoc] at hr; exact hr
  have e0 := Tn.refl [(some b)] w
  refine C.enter Try.func26 rfl Try.ntmps26 rfl ?_
  refine J.seq ?_
  refine J.region ?_
  refine J.op (Yd.assign rfl) rfl ?_
  refine J.nil ?_
  refine J.n_then ?_
  refine J.seq ?_
  refine J.seq ?_
  refine J.region ?_
  refine J.op (Yd.move rfl) rfl ?_
  refine J.op (Yd.lss rfl rfl) rfl ?_
  refine J.nil ?_
  refine J.n_then ?_
  refine J.know (t := 9) (v' := .bool false) rfl (ff (by omega)) ?_
  refine J.cond_false rfl ?_
  refine J.skip ?_
  refine J.n_then ?_
  refine J.seq ?_
  refine J.seq ?_
  refine J.region ?_
  refine J.op (Yd.move rfl) rfl ?_
  refine J.op (Yd.move rfl) rfl ?_
  refine J.eff (Ye.call cl43 rfl (RSmallP hr (by rw [List.length_append]; omega) (by omega))) rfl ?_
  rintro _ w1 ⟨rfl, hr2, x1⟩
  have e0 := Tn.tnk e0 (fun q hq => by simp only [List.mem_singleton] at hq; subst hq; exact .inl (by simp)) x1
  clear x1
  replace hr := hr2
  clear hr2
  refine J.op (Yd.assign rfl) rfl ?_
  refine J.nil ?_
  refine J.n_then ?_
  refine J.block ?_
  refine J.loop (ι := Nat × Value × List Value) (fun i => [(2, I e), (7, I ((ll.length : Int) - (i.1 : Int))), (0, .pointer (some ⟨b, 0, none⟩)), (6, i.2.1)]) (fun i w' => i.1 ≤ ll.length ∧ Rdr 61 (fun k => K k ∧ k < w.heap.size) w' b ((ll.drop i.1).flatMap bF ++ r) ∧ Rw w.heap.size 32 5 w' i.2.1 i.2.2 (ll.take i.1) ∧ Fr w.heap.size (i.2.1).ownBlock ∧ Tn [(some b)] w w') (fun i => ll.length - i.1) ((0, nilS, [])) ⟨rfl, (someI (by show (ll.length : Int) = (ll.length : Int) - ((0 : Nat) : Int); omega)), rfl, rfl, trivial⟩ (⟨Nat.zero_le _, hr, Rw.nil _ _ _ _, Fr.nil, e0⟩) ?_
  rintro ⟨i, v6, vs6⟩ w2 ⟨hk, hr, ho6, fr_v6, e0⟩
  dsimp only at *
  have hvl : vs6.length = i := by have h9 := ho6.len; rw [List.length_take] at h9; omega
  have hft := flat_le ll (i + 1)
  have hbd := bFd_len ll (i + 1)
  refine J.seq ?_
  refine J.seq ?_
  refine J.region ?_
  refine J.op (Yd.move rfl) rfl ?_
  refine J.op (Yd.gtr rfl rfl) rfl ?_
  refine J.nil ?_
  refine J.n_then ?_
  refine J.cond_dec rfl (fun hc1 => ?_) (fun hc1 => ?_)
  · skip
    have hgl := ll_get_len (ll := ll) (i := i) (by omega)
    refine J.skip ?_
    refine J.n_then ?_
    refine J.seq ?_
    refine J.block ?_
    refine J.region ?_
    refine J.op (Yd.move rfl) rfl ?_
    refine J.op (Yd.move rfl) rfl ?_
    refine J.op (Yd.move rfl) rfl ?_
    refine J.eff (Ye.call cl24 rfl (RBytesP (m := ll.getD i []) (by rw [bF_drop _ (by omega)] at hr; exact hr) (by rw [List.length_append]; omega) ⟨he.2 i (by omega), he.1.2⟩)) rfl ?_
    rintro v21 w3 ⟨⟨ov21, fr0⟩, hr2, x1⟩
    have ap_v6_v21 : Ap v6.ownBlock v21.ownBlock := Ap.mk (Rw.live ho6) fr0
    have fr_v21 : Fr w.heap.size v21.ownBlock := Fr.le fr0 e0.size
    have ho6 := Rw.tnk ho6 x1 (LoL.one hlb)
    have e0 := Tn.tnk e0 (fun q hq => by simp only [List.mem_singleton] at hq; subst hq; exact .inl (by simp)) x1
    clear x1
    have ov21 := Ow.up (show Ob 0 5 w3 v21 (ll.getD i []) from ov21) fr_v21
    replace hr := hr2
    clear hr2 fr0
    refine J.eff (Ye.litS1 Try.underlying38 ti32 rfl rfl (Ow.rd ov21)) rfl ?_
    rintro s22_4 w4 ⟨o22_4, x1⟩
    have e0 := Tn.ext e0 x1
    have ho6 := ho6.ext x1
    have hr := hr.ext x1
    have ov21 := ov21.ext x1
    clear x1
    refine J.eff (Ye.appendR Try.underlying38 ti32 rfl rfl rfl rfl (Rw.row ho6) (Rl.rd o22_4) (by intro v_ hv_; simp only [List.mem_singleton] at hv_; subst hv_; exact Rd.one (Ow.rd ov21)) (by first | omega | exact idx_u8' _ | (simp only [Int.toNat_natCast]; omega) | (simp only [List.length_map, List.length_drop, List.length_take, List.length_append, List.length_replicate]; omega) | (simp <;> omega)) e0.size) rfl ?_
    rintro s23_5 w5 ⟨o23_5, hg, hsf⟩
    have o23_5 := Rw.push ho6 ov21 (Ap.symm ap_v6_v21) hg hsf o23_5
    have ap_v21_s23_5 : Ap v21.ownBlock s23_5.ownBlock := Ap.sf (Ap.symm ap_v6_v21) (Ow.live ov21) hsf
    have fr_s23_5 : Fr w.heap.size s23_5.ownBlock := Fr.sf fr_v6 hsf e0.size
    have hr := Rdr.gbk hr hg (fun k e h => by have := fr_v6 k e; omega)
    have e0 := Tn.gbk e0 (.inr fr_v6) hg
    clear hg hsf
    refine J.op (Yd.assign rfl) rfl ?_
    refine J.nil ?_
    refine J.n_block ?_
    refine J.n_then ?_
    refine J.region ?_
    refine J.op (Yd.move rfl) rfl ?_
    refine J.op (Yd.sub rfl rfl (by first | omega | exact idx_u8' _ | (simp only [Int.toNat_natCast]; omega) | (simp only [List.length_map, List.length_drop, List.length_take, List.length_append, List.length_replicate]; omega) | (simp <;> omega))) rfl ?_
    refine J.op (Yd.assign rfl) rfl ?_
    refine J.nil ?_
    refine J.n_then ?_
    exact J.round ((i + 1, s23_5, _)) ⟨rfl, (someI (by show (ll.length : Int) - (i : Int) - 1 = (ll.length : Int) - ((i + 1 : Nat) : Int); omega)), rfl, rfl, trivial⟩ (⟨by show i + 1 ≤ ll.length; omega, hr, (show Rw _ _ _ _ _ _ (ll.take (i + 1)) from by rw [take_getD (by omega)]; exact o23_5), fr_s23_5, e0⟩) (by show ll.length - (i + 1) < ll.length - i; omega)
  · skip
    refine J.exit ?_
    refine J.x_then ?_
    refine J.x_then ?_
    refine J.x_block ?_
    refine J.n_then ?_
    refine J.seq ?_
    refine J.region ?_
    refine J.op (Yd.move rfl) rfl ?_
    refine J.op (Yd.assign rfl) rfl ?_
    refine J.nil ?_
    refine J.n_then ?_
    refine J.ret ?_
    exact J.ret1 rfl rfl (⟨_, rfl, ⟨_, by have h9 := Rw.rl ho6; rw [show i = ll.length by omega, List.take_length] at h9; exact h9⟩, (by rw [show i = ll.length by omega, List.drop_length, List.flatMap_nil, List.nil_append] at hr; exact hr.mono fun _ h => h.1), e0⟩)
end Ytphebleabcoakaa
end Go.Proofs
