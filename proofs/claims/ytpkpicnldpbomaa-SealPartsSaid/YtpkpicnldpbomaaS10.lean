import Derived.Test.YtpkpicnldpbomaaT
import Derived.Test.YtpkpicnldpbomaaPB
import Derived.Test.YtpkpicnldpbomaaS9
set_option linter.unusedVariables false
set_option linter.unusedSimpArgs false
set_option maxRecDepth 100000
set_option maxHeartbeats 4000000
namespace Go.Proofs
open Go.X Go.RowKit
namespace Ytpkpicnldpbomaa
theorem Add_ok {b : Nat} {s v : Value} {a x : List UInt8} {w : World} (hc : Cel w b 62 (hseg a s)) (hs : Ob 0 5 w s (restL a)) (hn : Ap (some b) s.ownBlock) (hx : ∀ w', Tn [some b] w w' → Bs w' v x) (hl : a.length ≤ 1000000000) (hl2 : x.length ≤ 1000000000) : C Try.prog 37 [.pointer (some ⟨b, 0, none⟩), v] w (Ret fun u w' => ∃ s', u = .tuple #[] ∧ Cel w' b 62 (hseg (a ++ x) s') ∧ Ob w.heap.size 5 w' s' (restL (a ++ x)) ∧ Tn [some b] w w') := by
  unfold hseg at hc
  have hh0 := blk256_len start256L a rfl (a.length / 64)
  have hrl := restL_len a
  have hax : (restL a ++ x).length = a.length - 64 * (a.length / 64) + x.length := by rw [List.length_append, hrl]
  have e0 := Tn.refl [(some b)] w
  refine C.enter Try.func37 rfl Try.ntmps37 rfl ?_
  refine J.seq ?_
  refine J.seq ?_
  refine J.region ?_
  refine J.op (Yd.move rfl) rfl ?_
  refine J.op (Yd.cast (Yd.eqPn Try.underlying58 rfl rfl) (show _ = Value.bool false from rfl)) rfl ?_
  refine J.nil ?_
  refine J.n_then ?_
  refine J.cond_false rfl ?_
  refine J.skip ?_
  refine J.n_then ?_
  refine J.seq ?_
  refine J.region ?_
  refine J.op (Yd.move rfl) rfl ?_
  refine J.op (Yd.nilCheck rfl) rfl ?_
  refine J.op (Yd.cast (Yd.fieldA Try.underlying62 rfl ti42 rfl rfl) (show _ = Value.pointer (some ⟨b, 9, none⟩) from rfl)) rfl ?_
  refine J.op (Yd.load pl42 rfl (Cel.cell1 hc 2 rfl)) rfl ?_
  refine J.op (Yd.move rfl) rfl ?_
  refine J.op (Yd.len_b Try.underlying22 rfl (hx _ e0)) rfl ?_
  refine J.op (Yd.cv_i_64 Try.underlying3 Try.underlying42 rfl (by omega)) rfl ?_
  refine J.op (Yd.add_u64 rfl rfl) rfl ?_
  refine J.op (Yd.nilCheck rfl) rfl ?_
  refine J.op (Yd.cast (Yd.fieldA Try.underlying62 rfl ti42 rfl rfl) (show _ = Value.pointer (some ⟨b, 9, none⟩) from rfl)) rfl ?_
  refine J.eff0 (Ye.store1 ti42 hc 2 rfl rfl rfl rfl rfl rfl) ?_
  rintro _ w1 ⟨cX, hu⟩
  simp only [List.set_cons_zero, List.set_cons_succ] at cX
  have hg := hu.gb
  have hs := Ow.gbk hs hg (Ap.symm hn)
  have e0 := Tn.gbk e0 (.inl (by simp)) hg
  clear hg
  replace hc := cX
  clear cX hu
  refine J.nil ?_
  refine J.n_then ?_
  refine J.seq ?_
  refine J.region ?_
  refine J.op (Yd.move rfl) rfl ?_
  refine J.op (Yd.nilCheck rfl) rfl ?_
  refine J.op (Yd.cast (Yd.fieldA Try.underlying62 rfl ti22 rfl rfl) (show _ = Value.pointer (some ⟨b, 8, none⟩) from rfl)) rfl ?_
  refine J.op (Yd.load pl22 rfl (Cel.cell1 hc 1 rfl)) rfl ?_
  refine J.op (Yd.move rfl) rfl ?_
  refine J.eff (Ye.litS2 Try.underlying57 ti22 rfl rfl rfl (Ow.rd hs) (hx _ e0)) rfl ?_
  rintro s23_2 w2 ⟨o23_2, x1⟩
  have e0 := Tn.ext e0 x1
  have hs := hs.ext x1
  have hc := hc.ext x1
  clear x1
  refine J.eff (Ye.call cl50 rfl (ConcatB_ok o23_2 (by first | omega | (simp [beN_len, leN_len, flipL_len, xorL_len] <;> omega)))) rfl ?_
  rintro s24_3 w3 ⟨os24_3, x1⟩
  have ap_s_s24_3 : Ap s.ownBlock s24_3.ownBlock := Ap.mk (Ow.live hs) (Ow.fr os24_3)
  have ap_b_s24_3 : Ap (some b) s24_3.ownBlock := Ap.mk (Cel.live hc) (Ow.fr os24_3)
  have fr_s24_3 : Fr w.heap.size s24_3.ownBlock := Fr.le (Ow.fr os24_3) e0.size
  replace os24_3 := Ow.base os24_3 e0.size
  have e0 := Tn.ext e0 x1
  have hs := hs.ext x1
  have hc := hc.ext x1
  have o23_2 := o23_2.ext x1
  clear x1
  refine J.op (Yd.assign rfl) rfl ?_
  refine J.nil ?_
  refine J.n_then ?_
  refine J.seq ?_
  refine J.region ?_
  refine J.op (Yd.move rfl) rfl ?_
  refine J.op (Yd.nilCheck rfl) rfl ?_
  refine J.op (Yd.cast (Yd.fieldA Try.underlying62 rfl ti60 rfl rfl) (show _ = Value.pointer (some ⟨b, 0, none⟩) from rfl)) rfl ?_
  refine J.op (Yd.loadA ag60 ti60 rfl hc 0 rfl) rfl ?_
  refine J.eff (Ye.call cl51 rfl (Over_ok (by first | assumption | exact overL_len _ | exact blk256_len _ _ hh0 _ | simp | omega))) rfl ?_
  rintro _ w4 ⟨rfl, x1⟩
  have e0 := Tn.ext e0 x1
  have hs := hs.ext x1
  have hc := hc.ext x1
  have o23_2 := o23_2.ext x1
  have os24_3 := os24_3.ext x1
  clear x1
  refine J.eff (Ye.alloc ti60 (S := [(0, 8, (List.replicate 8 0).map (fun x : UInt32 => W32 x))]) (by simp [SegAll, SegOK, Value.cells])) rfl ?_
  rintro _ w5 ⟨b5_4, rfl, hb_, c5_4, x1⟩
  have ap_s_b5_4 : Ap s.ownBlock (some b5_4) := Ap.mk (Ow.live hs) (Fr.blk hb_)
  have ap_b_b5_4 : Ap (some b) (some b5_4) := Ap.mk (Cel.live hc) (Fr.blk hb_)
  have ap_s24_3_b5_4 : Ap s24_3.ownBlock (some b5_4) := Ap.mk (Ow.live os24_3) (Fr.blk hb_)
  have fr_b5_4 : Fr w.heap.size (some b5_4) := Fr.le (Fr.blk hb_) e0.size
  have e0 := Tn.ext e0 x1
  have hs := hs.ext x1
  have hc := hc.ext x1
  have o23_2 := o23_2.ext x1
  have os24_3 := os24_3.ext x1
  clear x1 hb_
  refine J.eff0 (Ye.storeA (ys := List.map (fun x : UInt32 => W32 x) _) ti60 c5_4 0 rfl rfl rfl rfl (by first | (rw [List.length_map]; omega) | (simp; done) | rfl | (simp <;> omega)) (one_M _ (fun _ => rfl))) ?_
  rintro _ w6 ⟨cX, hu⟩
  simp only [List.set_cons_zero, List.set_cons_succ] at cX
  have hg := hu.gb
  have hs := Ow.gbk hs hg ap_s_b5_4
  have hc := Cel.gbk hc hg ap_b_b5_4
  have os24_3 := Ow.gbk os24_3 hg ap_s24_3_b5_4
  have e0 := Tn.gbk e0 (.inr fr_b5_4) hg
  clear hg
  replace c5_4 := cX
  clear cX hu
  refine J.nil ?_
  refine J.n_then ?_
  refine J.seq ?_
  refine J.block ?_
  refine J.loop (ι := Nat × Value) (fun i => [(0, .pointer (some ⟨b, 0, none⟩)), (5, .pointer (some ⟨b5_4, 0, none⟩)), (4, i.2)]) (fun i w' => 64 * i.1 ≤ (restL a ++ x).length ∧ Cel w' b5_4 60 [(0, 8, (blk256 (blk256 start256L a (a.length / 64)) (restL a ++ x) i.1).map fun x => W32 x)] ∧ Cel w' b 62 [(0, 8, (overL (blk256 start256L a (a.length / 64))).map fun x => W32 x), (8, 1, [s]), (9, 1, [W64 (UInt64.ofNat a.length + UInt64.ofNat x.length)])] ∧ Bs w' i.2 ((restL a ++ x).drop (64 * i.1)) ∧ Ap (some b5_4) (i.2).ownBlock ∧ Ap (some b) (i.2).ownBlock ∧ Tn [(some b)] w w') (fun i => (restL a ++ x).length - 64 * i.1) ((0, s24_3)) ⟨rfl, rfl, rfl, trivial⟩ (⟨Nat.zero_le _, Cel.cong c5_4 (by exact over_over hh0), hc, by have h := Ow.rd os24_3; rw [show ([restL a, x] : List (List UInt8)).flatten = (restL a ++ x) by simp] at h; exact h, (Ap.symm ap_s24_3_b5_4), ap_b_s24_3, e0⟩) ?_
  rintro ⟨k, v⟩ w7 ⟨hk, c5_4, hc, hv, ap_b5_4_v, ap_b_v, e0⟩
  dsimp only at hk hv ⊢
  have hbl := blk256_len (blk256 start256L a (a.length / 64)) (restL a ++ x) hh0 k
  refine J.seq ?_
  refine J.seq ?_
  refine J.region ?_
  refine J.op (Yd.move rfl) rfl ?_
  refine J.op (Yd.len_b Try.underlying22 rfl hv) rfl ?_
  refine J.op (Yd.geq rfl rfl) rfl ?_
  refine J.nil ?_
  refine J.n_then ?_
  refine J.cond_dec rfl (fun hc1 => ?_) (fun hc1 => ?_)
  · skip
    rw [List.length_drop] at hc1
    refine J.skip ?_
    refine J.n_then ?_
    refine J.block ?_
    refine J.seq ?_
    refine J.region ?_
    refine J.op (Yd.loadA ag60 ti60 rfl c5_4 0 rfl) rfl ?_
    refine J.op (Yd.move rfl) rfl ?_
    refine J.eff (Ye.call cl52 rfl (Turn256_ok (by first | assumption | simp | omega) hv (by first | omega | (rw [List.length_drop]; omega) | (simp <;> omega)))) rfl ?_
    rintro _ w8 ⟨rfl, x1⟩
    have e0 := Tn.ext e0 x1
    have c5_4 := c5_4.ext x1
    have hc := hc.ext x1
    have hv := hv.ext x1
    clear x1
    refine J.eff0 (Ye.storeA (ys := List.map (fun x : UInt32 => W32 x) _) ti60 c5_4 0 rfl rfl rfl rfl (by first | (rw [List.length_map]; omega) | (simp; done) | rfl | (simp <;> omega)) (one_M _ (fun _ => rfl))) ?_
    rintro _ w9 ⟨cX, hu⟩
    simp only [List.set_cons_zero, List.set_cons_succ] at cX
    have hg := hu.gb
    have hc := Cel.gbk hc hg ap_b_b5_4
    have hv := Rd.gbk hv hg (Ap.symm ap_b5_4_v)
    have e0 := Tn.gbk e0 (.inr fr_b5_4) hg
    clear hg
    replace c5_4 := cX
    clear cX hu
    refine J.nil ?_
    refine J.n_then ?_
    refine J.region ?_
    refine J.op (Yd.move rfl) rfl ?_
    refine J.op (Yd.slcL Try.underlying22 ti5 rfl hv rfl (by first | omega | exact idx_u8' _ | (simp only [Int.toNat_natCast]; omega) | (simp only [List.length_map, List.length_drop, List.length_take, List.length_append, List.length_replicate]; omega) | (simp <;> omega))) rfl ?_
    refine J.op (Yd.assign rfl) rfl ?_
    refine J.nil ?_
    refine J.n_block ?_
    refine J.n_then ?_
    exact J.round ((k + 1, _)) ⟨rfl, rfl, rfl, trivial⟩ (⟨by show 64 * (k + 1) ≤ (restL a ++ x).length; omega, Cel.cong c5_4 (by rfl), hc, by show Bs _ _ ((restL a ++ x).drop (64 * (k + 1))); rw [show 64 * (k + 1) = 64 * k + 64 by omega, ← List.drop_drop]; exact Bs.tail hv (by rw [List.length_drop]; omega) (by rw [List.length_map]), (Ap.symm (Ap.slc (Ap.symm ap_b5_4_v))), (Ap.symm (Ap.slc (Ap.symm ap_b_v))), e0⟩) (by show (restL a ++ x).length - 64 * (k + 1) < (restL a ++ x).length - 64 * k; omega)
  · skip
    rw [List.length_drop] at hc1
    refine J.exit ?_
    refine J.x_then ?_
    refine J.x_then ?_
    refine J.x_block ?_
    refine J.n_then ?_
    refine J.region ?_
    refine J.op (Yd.move rfl) rfl ?_
    refine J.op (Yd.move rfl) rfl ?_
    refine J.op (Yd.loadA ag60 ti60 rfl c5_4 0 rfl) rfl ?_
    refine J.eff (Ye.call cl51 rfl (Over_ok (by first | assumption | exact overL_len _ | exact blk256_len _ _ hh0 _ | simp | omega))) rfl ?_
    rintro _ w10 ⟨rfl, x1⟩
    have e0 := Tn.ext e0 x1
    have c5_4 := c5_4.ext x1
    have hc := hc.ext x1
    have hv := hv.ext x1
    clear x1
    refine J.op (Yd.move rfl) rfl ?_
    refine J.eff (Ye.call cl53 rfl (Clone_ok hv (by first | omega | (simp <;> omega)))) rfl ?_
    rintro s43_11 w11 ⟨os43_11, x1⟩
    have ap_b5_4_s43_11 : Ap (some b5_4) s43_11.ownBlock := Ap.mk (Cel.live c5_4) (Ow.fr os43_11)
    have ap_b_s43_11 : Ap (some b) s43_11.ownBlock := Ap.mk (Cel.live hc) (Ow.fr os43_11)
    have fr_s43_11 : Fr w.heap.size s43_11.ownBlock := Fr.le (Ow.fr os43_11) e0.size
    replace os43_11 := Ow.base os43_11 e0.size
    have e0 := Tn.ext e0 x1
    have c5_4 := c5_4.ext x1
    have hc := hc.ext x1
    have hv := hv.ext x1
    clear x1
    refine J.op (Yd.nilCheck rfl) rfl ?_
    refine J.op (Yd.cast (Yd.fieldA Try.underlying62 rfl ti60 rfl rfl) (show _ = Value.pointer (some ⟨b, 0, none⟩) from rfl)) rfl ?_
    refine J.eff0 (Ye.storeA (ys := List.map (fun x : UInt32 => W32 x) _) ti60 hc 0 rfl rfl rfl rfl (by first | (rw [List.length_map]; omega) | (simp; done) | rfl | (simp <;> omega)) (one_M _ (fun _ => rfl))) ?_
    rintro _ w12 ⟨cX, hu⟩
    simp only [List.set_cons_zero, List.set_cons_succ] at cX
    have hg := hu.gb
    have c5_4 := Cel.gbk c5_4 hg (Ap.symm ap_b_b5_4)
    have hv := Rd.gbk hv hg (Ap.symm ap_b_v)
    have os43_11 := Ow.gbk os43_11 hg (Ap.symm ap_b_s43_11)
    have e0 := Tn.gbk e0 (.inl (by simp)) hg
    clear hg
    replace hc := cX
    clear cX hu
    refine J.op (Yd.nilCheck rfl) rfl ?_
    refine J.op (Yd.cast (Yd.fieldA Try.underlying62 rfl ti22 rfl rfl) (show _ = Value.pointer (some ⟨b, 8, none⟩) from rfl)) rfl ?_
    refine J.eff0 (Ye.store1 ti22 hc 1 rfl rfl rfl rfl (Rd.cells (Ow.rd os43_11)) (Rd.one (Ow.rd os43_11))) ?_
    rintro _ w13 ⟨cX, hu⟩
    simp only [List.set_cons_zero, List.set_cons_succ] at cX
    have hg := hu.gb
    have c5_4 := Cel.gbk c5_4 hg (Ap.symm ap_b_b5_4)
    have hv := Rd.gbk hv hg (Ap.symm ap_b_v)
    have os43_11 := Ow.gbk os43_11 hg (Ap.symm ap_b_s43_11)
    have e0 := Tn.gbk e0 (.inl (by simp)) hg
    clear hg
    replace hc := cX
    clear cX hu
    refine J.nil ?_
    exact J.end0 rfl (⟨_, rfl, s43_11, rfl, hseg_next (by omega) (by omega) ▸ hc, (hs_blk a x k (by omega) (by omega)).2 ▸ os43_11, e0⟩)
end Ytpkpicnldpbomaa
end Go.Proofs
