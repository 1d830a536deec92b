import Derived.Test.YtpkpicnldpbomaaT
import Derived.Test.YtpkpicnldpbomaaXB
import Derived.Test.YtpkpicnldpbomaaS10
set_option linter.unusedVariables false
set_option linter.unusedSimpArgs false
set_option maxRecDepth 100000
set_option maxHeartbeats 4000000
namespace Go.Proofs
open Go.X Go.RowKit
namespace Ytpkpicnldpbomaa
theorem HSum_ok {b : Nat} {s : Value} {a : List UInt8} {w : World} (hc : Cel w b 62 (hseg a s)) (hs : Ob 0 5 w s (restL a)) (hl : a.length ≤ 1000000000) : C Try.prog 49 [.pointer (some ⟨b, 0, none⟩)] w (Ret fun v w' => Ob w.heap.size 5 w' v (sha256L a) ∧ Ext w w') := by
  unfold hseg at hc
  have hh0 := blk256_len start256L a rfl (a.length / 64)
  have hrl := restL_len a
  have hpm := pad64_mod (restL a) (UInt64.ofNat a.length)
  have hpl := pad64L_len (restL a) (UInt64.ofNat a.length)
  have e0 := Ext.refl w
  refine C.enter Try.func49 rfl Try.ntmps49 rfl ?_
  refine J.seq ?_
  refine J.region ?_
  refine J.op (Yd.assign rfl) rfl ?_
  refine J.nil ?_
  refine J.n_then ?_
  refine J.seq ?_
  refine J.seq ?_
  refine J.region ?_
  refine J.op (Yd.move rfl) rfl ?_
  refine J.op (Yd.cast (Yd.eqPn Try.underlying58 rfl rfl) (show _ = Value.bool false from rfl)) rfl ?_
  refine J.nil ?_
  refine J.n_then ?_
  refine J.cond_false rfl ?_
  refine J.skip ?_
  refine J.n_then ?_
  refine J.seq ?_
  refine J.region ?_
  refine J.op (Yd.move rfl) rfl ?_
  refine J.op (Yd.nilCheck rfl) rfl ?_
  refine J.op (Yd.cast (Yd.fieldA Try.underlying62 rfl ti60 rfl rfl) (show _ = Value.pointer (some ⟨b, 0, none⟩) from rfl)) rfl ?_
  refine J.op (Yd.loadA ag60 ti60 rfl (Cel.ext hc e0) 0 rfl) rfl ?_
  refine J.eff (Ye.call cl51 rfl (Over_ok (by first | assumption | exact overL_len _ | exact blk256_len _ _ hh0 _ | simp | omega))) rfl ?_
  rintro _ w1 ⟨rfl, x1⟩
  have e0 := e0.trans x1
  clear x1
  refine J.eff (Ye.alloc ti60 (S := [(0, 8, (List.replicate 8 0).map (fun x : UInt32 => W32 x))]) (by simp [SegAll, SegOK, Value.cells])) rfl ?_
  rintro _ w2 ⟨b3_1, rfl, hb_, c3_1, x1⟩
  have fr_b3_1 : Fr w.heap.size (some b3_1) := Fr.le (Fr.blk hb_) e0.size
  have e0 := e0.trans x1
  clear x1 hb_
  refine J.eff0 (Ye.storeA (ys := List.map (fun x : UInt32 => W32 x) _) ti60 c3_1 0 rfl rfl rfl rfl (by first | (rw [List.length_map]; omega) | (simp; done) | rfl | (simp <;> omega)) (one_M _ (fun _ => rfl))) ?_
  rintro _ w3 ⟨cX, hu⟩
  simp only [List.set_cons_zero, List.set_cons_succ] at cX
  have hg := hu.gb
  have e0 := Ext.gbk e0 fr_b3_1 hg
  clear hg
  replace c3_1 := cX
  clear cX hu
  refine J.nil ?_
  refine J.n_then ?_
  refine J.seq ?_
  refine J.seq ?_
  refine J.regionO [(0, true), (1, true), (2, true), (4, true), (5, true), (6, true)] [(3, 1), (7, 1)] [(8, false), (9, true)] mix (by kernel_rfl) ?_
  refine J.s_op rfl (fun _ => Yd.move rfl) rfl ?_
  refine J.s_op rfl (fun _ => Yd.nilCheck rfl) rfl ?_
  refine J.s_op rfl (fun _ => Yd.cast (Yd.fieldA Try.underlying62 rfl ti22 rfl rfl) (show _ = Value.pointer (some ⟨b, 8, none⟩) from rfl)) rfl ?_
  refine J.s_op rfl (fun _ => Yd.move rfl) rfl ?_
  refine J.s_op rfl (fun _ => Yd.nilCheck rfl) rfl ?_
  refine J.s_op rfl (fun _ => Yd.cast (Yd.fieldA Try.underlying62 rfl ti42 rfl rfl) (show _ = Value.pointer (some ⟨b, 9, none⟩) from rfl)) rfl ?_
  refine J.s_nil ?_
  refine J.o_op rfl (Yd.load pl22 rfl (Cel.cell1 (Cel.ext hc e0) 1 rfl)) rfl ?_
  refine J.o_op rfl (Yd.load pl42 rfl (Cel.cell1 (Cel.ext hc e0) 2 rfl)) rfl ?_
  refine J.o_nil ?_
  refine J.s_eff rfl (Ye.call cl62 rfl (Padded64_ok (Rd.ext (Ow.rd hs) e0) (by first | omega | (simp <;> omega)))) rfl ?_
  rintro s22_4 w4 ⟨os22_4, x1⟩
  have ap_b3_1_s22_4 : Ap (some b3_1) s22_4.ownBlock := Ap.mk (Cel.live c3_1) (Ow.fr os22_4)
  have fr_s22_4 : Fr w.heap.size s22_4.ownBlock := Fr.le (Ow.fr os22_4) e0.size
  replace os22_4 := Ow.base os22_4 e0.size
  have e0 := e0.trans x1
  have c3_1 := c3_1.ext x1
  clear x1
  refine J.s_op rfl (fun _ => Yd.assign rfl) rfl ?_
  refine J.s_nil ?_
  refine J.n_np ?_
  refine J.n_then ?_
  refine J.block ?_
  refine J.loop (ι := Nat × Value) (fun i => [(2, nilS), (3, .pointer (some ⟨b3_1, 0, none⟩)), (4, i.2)]) (fun i w' => 64 * i.1 ≤ (pad64L (restL a) (UInt64.ofNat a.length)).length ∧ Cel w' b3_1 60 [(0, 8, (blk256 (blk256 start256L a (a.length / 64)) (pad64L (restL a) (UInt64.ofNat a.length)) i.1).map fun x => W32 x)] ∧ Bs w' i.2 ((pad64L (restL a) (UInt64.ofNat a.length)).drop (64 * i.1)) ∧ Ap (some b3_1) (i.2).ownBlock ∧ Ext w w') (fun i => (pad64L (restL a) (UInt64.ofNat a.length)).length - 64 * i.1) ((0, s22_4)) ⟨rfl, rfl, rfl, trivial⟩ (⟨Nat.zero_le _, Cel.cong c3_1 (by exact over_over hh0), Ow.rd os22_4, ap_b3_1_s22_4, e0⟩) ?_
  rintro ⟨k, v⟩ w5 ⟨hk, c3_1, hv, ap_b3_1_v, e0⟩
  dsimp only at hk hv ⊢
  have hbl := blk256_len (blk256 start256L a (a.length / 64)) (pad64L (restL a) (UInt64.ofNat a.length)) hh0 k
  refine J.seq ?_
  refine J.seq ?_
  refine J.region ?_
  refine J.op (Yd.move rfl) rfl ?_
  refine J.op (Yd.len_b Try.underlying22 rfl hv) rfl ?_
  refine J.op (Yd.gtr rfl rfl) rfl ?_
  refine J.nil ?_
  refine J.n_then ?_
  refine J.cond_dec rfl (fun hc1 => ?_) (fun hc1 => ?_)
  · skip
    rw [List.length_drop] at hc1
    refine J.skip ?_
    refine J.n_then ?_
    refine J.seq ?_
    refine J.block ?_
    refine J.region ?_
    refine J.op (Yd.loadA ag60 ti60 rfl c3_1 0 rfl) rfl ?_
    refine J.op (Yd.move rfl) rfl ?_
    refine J.eff (Ye.call cl52 rfl (Turn256_ok (by first | assumption | simp | omega) hv (by first | omega | (rw [List.length_drop]; omega) | (simp <;> omega)))) rfl ?_
    rintro _ w6 ⟨rfl, x1⟩
    have e0 := e0.trans x1
    have c3_1 := c3_1.ext x1
    have hv := hv.ext x1
    clear x1
    refine J.eff0 (Ye.storeA (ys := List.map (fun x : UInt32 => W32 x) _) ti60 c3_1 0 rfl rfl rfl rfl (by first | (rw [List.length_map]; omega) | (simp; done) | rfl | (simp <;> omega)) (one_M _ (fun _ => rfl))) ?_
    rintro _ w7 ⟨cX, hu⟩
    simp only [List.set_cons_zero, List.set_cons_succ] at cX
    have hg := hu.gb
    have hv := Rd.gbk hv hg (Ap.symm ap_b3_1_v)
    have e0 := Ext.gbk e0 fr_b3_1 hg
    clear hg
    replace c3_1 := cX
    clear cX hu
    refine J.nil ?_
    refine J.n_block ?_
    refine J.n_then ?_
    refine J.region ?_
    refine J.op (Yd.move rfl) rfl ?_
    refine J.op (Yd.slcL Try.underlying22 ti5 rfl hv rfl (by first | omega | exact idx_u8' _ | (simp only [Int.toNat_natCast]; omega) | (simp only [List.length_map, List.length_drop, List.length_take, List.length_append, List.length_replicate]; omega) | (simp <;> omega))) rfl ?_
    refine J.op (Yd.assign rfl) rfl ?_
    refine J.nil ?_
    refine J.n_then ?_
    exact J.round ((k + 1, _)) ⟨rfl, rfl, rfl, trivial⟩ (⟨by show 64 * (k + 1) ≤ (pad64L (restL a) (UInt64.ofNat a.length)).length; omega, Cel.cong c3_1 (by rfl), by show Bs _ _ ((pad64L (restL a) (UInt64.ofNat a.length)).drop (64 * (k + 1))); rw [show 64 * (k + 1) = 64 * k + 64 by omega, ← List.drop_drop]; exact Bs.tail hv (by rw [List.length_drop]; omega) (by rw [List.length_map]), (Ap.symm (Ap.slc (Ap.symm ap_b3_1_v))), e0⟩) (by show (pad64L (restL a) (UInt64.ofNat a.length)).length - 64 * (k + 1) < (pad64L (restL a) (UInt64.ofNat a.length)).length - 64 * k; omega)
  · skip
    rw [List.length_drop] at hc1
    refine J.exit ?_
    refine J.x_then ?_
    refine J.x_then ?_
    refine J.x_block ?_
    refine J.n_then ?_
    refine J.seq ?_
    refine J.seq ?_
    refine J.region ?_
    refine J.op (Yd.loadA ag60 ti60 rfl c3_1 0 rfl) rfl ?_
    refine J.op (Yd.move rfl) rfl ?_
    refine J.nil ?_
    refine J.n_then ?_
    refine J.block ?_
    refine J.loop (ι := Nat × Value) (fun i => [(31, Ag (fun x => W32 x) (blk256 (blk256 start256L a (a.length / 64)) (pad64L (restL a) (UInt64.ofNat a.length)) k)), (32, I i.1), (2, i.2)]) (fun i w' => i.1 ≤ 8 ∧ Ob w.heap.size 5 w' i.2 (((blk256 (blk256 start256L a (a.length / 64)) (pad64L (restL a) (UInt64.ofNat a.length)) k).take i.1).flatMap fun x => beN x.toUInt64 4) ∧ Fr w.heap.size (i.2).ownBlock ∧ Ext w w') (fun i => 8 - i.1) ((0, nilS)) ⟨rfl, rfl, rfl, trivial⟩ (⟨Nat.zero_le _, Ow.nil _ _ _, Fr.nil, e0⟩) ?_
    rintro ⟨j, v2⟩ w8 ⟨hj, ho, fr_v2, e0⟩
    dsimp only at hj ho ⊢
    have hol : (((blk256 (blk256 start256L a (a.length / 64)) (pad64L (restL a) (UInt64.ofNat a.length)) k).take j).flatMap fun x => beN x.toUInt64 4).length = 4 * ((blk256 (blk256 start256L a (a.length / 64)) (pad64L (restL a) (UInt64.ofNat a.length)) k).take j).length := out256_len _
    have htl := List.length_take_le j (blk256 (blk256 start256L a (a.length / 64)) (pad64L (restL a) (UInt64.ofNat a.length)) k)
    have hHl : (blk256 (blk256 start256L a (a.length / 64)) (pad64L (restL a) (UInt64.ofNat a.length)) k).length = 8 := blk256_len _ _ hh0 _
    refine J.seq ?_
    refine J.region ?_
    refine J.op (Yd.lss rfl rfl) rfl ?_
    refine J.nil ?_
    refine J.n_then ?_
    refine J.seq ?_
    refine J.cond_dec rfl (fun hc2 => ?_) (fun hc2 => ?_)
    · skip
      refine J.skip ?_
      refine J.n_then ?_
      refine J.seq ?_
      refine J.block ?_
      refine J.seq ?_
      refine J.region ?_
      refine J.op (Yd.idxV Try.underlying60 pl59 ti59 rfl rfl (by first | omega | exact idx_u8' _ | (simp only [Int.toNat_natCast]; omega) | (simp only [List.length_map, List.length_drop, List.length_take, List.length_append, List.length_replicate]; omega) | (simp <;> omega)) (Ag.get (fun x : UInt32 => W32 x) _ 0 (by first | omega | exact idx_u8' _ | (simp only [Int.toNat_natCast]; omega) | (simp only [List.length_map, List.length_drop, List.length_take, List.length_append, List.length_replicate]; omega) | (simp <;> omega)))) rfl ?_
      refine J.op (Yd.assign rfl) rfl ?_
      refine J.nil ?_
      refine J.n_then ?_
      refine J.region ?_
      refine J.op (Yd.move rfl) rfl ?_
      refine J.op (Yd.move rfl) rfl ?_
      refine J.eff (Ye.call cl57 rfl (Put32_ok)) rfl ?_
      rintro s37_9 w9 ⟨rs37_9, x1⟩
      have e0 := e0.trans x1
      have ho := ho.ext x1
      clear x1
      refine J.eff (Ye.appendS Try.underlying22 ti5 rfl rfl rfl rfl ho rs37_9 (fun _ => rfl) (by simp only [List.length_drop, List.length_take, beN_len]; omega) e0.size) rfl ?_
      rintro s38_10 w10 ⟨o38_10, hg, hsf⟩
      have fr_s38_10 : Fr w.heap.size s38_10.ownBlock := Fr.sf fr_v2 hsf e0.size
      have e0 := Ext.gbk e0 fr_v2 hg
      clear hg hsf
      refine J.op (Yd.assign rfl) rfl ?_
      refine J.nil ?_
      refine J.n_block ?_
      refine J.n_then ?_
      refine J.region ?_
      refine J.op (Yd.add rfl rfl (by first | omega | exact idx_u8' _ | (simp only [Int.toNat_natCast]; omega) | (simp only [List.length_map, List.length_drop, List.length_take, List.length_append, List.length_replicate]; omega) | (simp <;> omega))) rfl ?_
      refine J.op (Yd.move rfl) rfl ?_
      refine J.nil ?_
      refine J.n_then ?_
      have h9 := o38_10
      rw [put32_take, beN_drop4, Int.toNat_natCast] at h9
      generalize (blk256 (blk256 start256L a (a.length / 64)) (pad64L (restL a) (UInt64.ofNat a.length)) k) = H at *
      have h10 := flatMap_take (fun x : UInt32 => beN x.toUInt64 4) H j 0 (by omega)
      rw [← h10] at h9
      exact J.round ((j + 1, s38_10)) ⟨rfl, rfl, rfl, trivial⟩ (⟨by show j + 1 ≤ 8; omega, h9, fr_s38_10, e0⟩) (by show 8 - (j + 1) < 8 - j; omega)
    · skip
      refine J.exit ?_
      refine J.x_then ?_
      refine J.x_then ?_
      refine J.x_block ?_
      refine J.n_then ?_
      refine J.seq ?_
      refine J.region ?_
      refine J.op (Yd.move rfl) rfl ?_
      refine J.op (Yd.assign rfl) rfl ?_
      refine J.nil ?_
      refine J.n_then ?_
      refine J.ret ?_
      exact J.ret1 rfl rfl (⟨_, rfl, by rw [← hs_sum a (j := k) (by omega)]; rw [List.take_of_length_le (by omega)] at ho; exact ho, e0⟩)

theorem HSumNil_ok {w : World} : C Try.prog 49 [.pointer none] w (Ret fun v w' => v = nilS ∧ Ext w w') := by
  have e0 := Ext.refl w
  refine C.enter Try.func49 rfl Try.ntmps49 rfl ?_
  refine J.seq ?_
  refine J.region ?_
  refine J.op (Yd.assign rfl) rfl ?_
  refine J.nil ?_
  refine J.n_then ?_
  refine J.seq ?_
  refine J.seq ?_
  refine J.region ?_
  refine J.op (Yd.move rfl) rfl ?_
  refine J.op (Yd.cast (Yd.eqPn Try.underlying58 rfl rfl) (show _ = Value.bool true from rfl)) rfl ?_
  refine J.nil ?_
  refine J.n_then ?_
  refine J.cond_true rfl ?_
  refine J.seq ?_
  refine J.region ?_
  refine J.op (Yd.assign rfl) rfl ?_
  refine J.nil ?_
  refine J.n_then ?_
  refine J.ret ?_
  refine J.r_then ?_
  exact J.ret1 rfl rfl (⟨_, rfl, rfl, e0⟩)

theorem AddNil_ok {v : Value} {w : World} : C Try.prog 37 [.pointer none, v] w (Ret fun v w' => v = .tuple #[] ∧ Ext w w') := by
  have e0 := Ext.refl w
  refine C.enter Try.func37 rfl Try.ntmps37 rfl ?_
  refine J.seq ?_
  refine J.seq ?_
  refine J.region ?_
  refine J.op (Yd.move rfl) rfl ?_
  refine J.op (Yd.cast (Yd.eqPn Try.underlying58 rfl rfl) (show _ = Value.bool true from rfl)) rfl ?_
  refine J.nil ?_
  refine J.n_then ?_
  refine J.cond_true rfl ?_
  refine J.ret ?_
  refine J.r_then ?_
  exact J.ret0 rfl (⟨_, rfl, rfl, e0⟩)
end Ytpkpicnldpbomaa
end Go.Proofs
