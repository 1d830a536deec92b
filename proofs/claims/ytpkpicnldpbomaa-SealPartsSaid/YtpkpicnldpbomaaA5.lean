import Derived.Test.YtpkpicnldpbomaaT
import Derived.Test.YtpkpicnldpbomaaXB
import Derived.Test.YtpkpicnldpbomaaA4
set_option linter.unusedVariables false
set_option linter.unusedSimpArgs false
set_option maxRecDepth 100000
set_option maxHeartbeats 4000000
namespace Go.Proofs
open Go.X Go.RowKit
namespace Ytpkpicnldpbomaa
theorem First_ok {a : Value} {l : List UInt8} {n : Nat} {w : World} (ha : Bs w a l) (hn : n ≤ 1000000000) : C Try.prog 58 [a, I n] w (Ret fun v w' => Ob w.heap.size 5 w' v (firstL l n) ∧ Ext w w') := by
  have e0 := Ext.refl w
  refine C.enter Try.func58 rfl Try.ntmps58 rfl ?_
  refine J.seq ?_
  refine J.region ?_
  refine J.op (Yd.assign rfl) rfl ?_
  refine J.nil ?_
  refine J.n_then ?_
  refine J.seq ?_
  refine J.region ?_
  refine J.op (Yd.move rfl) rfl ?_
  refine J.eff (Ye.make (n := (n : Int)) (w.heap.size) Try.underlying22 ti5 rfl rfl (by omega) (by omega) (by unfold maxLen; omega) rfl e0.size) rfl ?_
  rintro s7_1 w1 ⟨o7_1, x1⟩
  have fr_s7_1 : Fr w.heap.size s7_1.ownBlock := Fr.le (Ow.fr o7_1) e0.size
  replace o7_1 := Ow.base o7_1 e0.size
  have e0 := e0.trans x1
  clear x1
  rw [rep_B] at o7_1
  refine J.op (Yd.assign rfl) rfl ?_
  refine J.nil ?_
  refine J.n_then ?_
  refine J.seq ?_
  refine J.region ?_
  refine J.op (Yd.move rfl) rfl ?_
  refine J.op (Yd.move rfl) rfl ?_
  refine J.eff (Ye.copyO Try.underlying22 ti5 rfl rfl o7_1 (Rd.ext ha e0) (one_M _ (fun _ => rfl))) rfl ?_
  rintro _ w2 ⟨rfl, o', hg⟩
  have e0 := Ext.gbk e0 fr_s7_1 hg
  replace o7_1 := o'
  clear hg o'
  simp only [List.length_map, ← List.map_take, ← List.map_drop, ← List.map_append] at o7_1; rw [first_law] at o7_1
  refine J.nil ?_
  refine J.n_then ?_
  refine J.seq ?_
  refine J.region ?_
  refine J.op (Yd.move rfl) rfl ?_
  refine J.op (Yd.assign rfl) rfl ?_
  refine J.nil ?_
  refine J.n_then ?_
  refine J.ret ?_
  exact J.ret1 rfl rfl (⟨_, rfl, o7_1, e0⟩)

theorem Stream_ok {a v : Value} {key nonce : List UInt8} {n : Int} {w : World} (hk : Bs w a key) (ho : Bs w v nonce) : C Try.prog 38 [a, v, I n] w (Ret fun u w' => ∃ s, u = .tuple #[s, I (strE key nonce n)] ∧ Bs w' s (strQ key nonce n) ∧ Ext w w') := by
  have e0 := Ext.refl w
  refine C.enter Try.func38 rfl Try.ntmps38 rfl ?_
  refine J.seq ?_
  refine J.region ?_
  refine J.op (Yd.assign rfl) rfl ?_
  refine J.op (Yd.assign rfl) rfl ?_
  refine J.nil ?_
  refine J.n_then ?_
  refine J.seq ?_
  refine J.seq ?_
  refine J.region ?_
  refine J.op (Yd.move rfl) rfl ?_
  refine J.op (Yd.len_b Try.underlying22 rfl hk) rfl ?_
  refine J.op (Yd.neq rfl rfl) rfl ?_
  refine J.op (Yd.move rfl) rfl ?_
  refine J.split_dec (t := 15) rfl (fun h1 => ?_) (fun h1 => ?_)
  · skip
    refine J.not_g rfl rfl rfl rfl rfl ?_
    refine J.not_g rfl rfl rfl rfl rfl ?_
    refine J.not_g rfl rfl rfl rfl rfl ?_
    refine J.op (Yd.pick_t rfl rfl) rfl ?_
    refine J.op (Yd.move rfl) rfl ?_
    refine J.not_g rfl rfl rfl rfl rfl ?_
    refine J.not_g rfl rfl rfl rfl rfl ?_
    refine J.op (Yd.pick_t rfl rfl) rfl ?_
    refine J.op (Yd.move rfl) rfl ?_
    refine J.not_g rfl rfl rfl rfl rfl ?_
    refine J.not_g rfl rfl rfl rfl rfl ?_
    refine J.op (Yd.pick_t rfl rfl) rfl ?_
    refine J.nil ?_
    refine J.n_then ?_
    refine J.cond_true rfl ?_
    refine J.seq ?_
    refine J.region ?_
    refine J.op (Yd.assign rfl) rfl ?_
    refine J.op (Yd.assign rfl) rfl ?_
    refine J.nil ?_
    refine J.n_then ?_
    refine J.ret ?_
    refine J.r_then ?_
    exact J.ret2 rfl rfl rfl (⟨_, rfl, nilS, by rw [strE_no (by omega)]; try rfl, by rw [strQ_no (by omega)]; exact Rd.nilM _ _, e0⟩)
  · skip
    refine J.op_g rfl rfl rfl (Yd.move rfl) rfl ?_
    refine J.op_g rfl rfl rfl (Yd.len_b Try.underlying22 rfl ho) rfl ?_
    refine J.op_g rfl rfl rfl (Yd.neq rfl rfl) rfl ?_
    refine J.op (Yd.pick_f rfl rfl) rfl ?_
    refine J.op (Yd.move rfl) rfl ?_
    refine J.split_dec (t := 20) rfl (fun h2 => ?_) (fun h2 => ?_)
    · skip
      refine J.not_g rfl rfl rfl rfl rfl ?_
      refine J.not_g rfl rfl rfl rfl rfl ?_
      refine J.op (Yd.pick_t rfl rfl) rfl ?_
      refine J.op (Yd.move rfl) rfl ?_
      refine J.not_g rfl rfl rfl rfl rfl ?_
      refine J.not_g rfl rfl rfl rfl rfl ?_
      refine J.op (Yd.pick_t rfl rfl) rfl ?_
      refine J.nil ?_
      refine J.n_then ?_
      refine J.cond_true rfl ?_
      refine J.seq ?_
      refine J.region ?_
      refine J.op (Yd.assign rfl) rfl ?_
      refine J.op (Yd.assign rfl) rfl ?_
      refine J.nil ?_
      refine J.n_then ?_
      refine J.ret ?_
      refine J.r_then ?_
      exact J.ret2 rfl rfl rfl (⟨_, rfl, nilS, by rw [strE_no (by omega)]; try rfl, by rw [strQ_no (by omega)]; exact Rd.nilM _ _, e0⟩)
    · skip
      refine J.op_g rfl rfl rfl (Yd.move rfl) rfl ?_
      refine J.op_g rfl rfl rfl (Yd.lss rfl rfl) rfl ?_
      refine J.op (Yd.pick_f rfl rfl) rfl ?_
      refine J.op (Yd.move rfl) rfl ?_
      refine J.split_dec (t := 24) rfl (fun h3 => ?_) (fun h3 => ?_)
      · skip
        refine J.not_g rfl rfl rfl rfl rfl ?_
        refine J.not_g rfl rfl rfl rfl rfl ?_
        refine J.op (Yd.pick_t rfl rfl) rfl ?_
        refine J.nil ?_
        refine J.n_then ?_
        refine J.cond_true rfl ?_
        refine J.seq ?_
        refine J.region ?_
        refine J.op (Yd.assign rfl) rfl ?_
        refine J.op (Yd.assign rfl) rfl ?_
        refine J.nil ?_
        refine J.n_then ?_
        refine J.ret ?_
        refine J.r_then ?_
        exact J.ret2 rfl rfl rfl (⟨_, rfl, nilS, by rw [strE_no (by omega)]; try rfl, by rw [strQ_no (by omega)]; exact Rd.nilM _ _, e0⟩)
      · skip
        refine J.op_g rfl rfl rfl (Yd.move rfl) rfl ?_
        refine J.op_g rfl rfl rfl (Yd.gtr rfl rfl) rfl ?_
        refine J.op (Yd.pick_f rfl rfl) rfl ?_
        refine J.nil ?_
        refine J.n_then ?_
        refine J.cond_dec rfl (fun hc0 => ?_) (fun hc0 => ?_)
        · skip
          refine J.seq ?_
          refine J.region ?_
          refine J.op (Yd.assign rfl) rfl ?_
          refine J.op (Yd.assign rfl) rfl ?_
          refine J.nil ?_
          refine J.n_then ?_
          refine J.ret ?_
          refine J.r_then ?_
          exact J.ret2 rfl rfl rfl (⟨_, rfl, nilS, by rw [strE_no (by omega)]; try rfl, by rw [strQ_no (by omega)]; exact Rd.nilM _ _, e0⟩)
        · skip
          have hn0 : 0 ≤ n ∧ n ≤ 1048576 := by omega
          obtain ⟨N, rfl⟩ := Int.eq_ofNat_of_zero_le hn0.1
          refine J.skip ?_
          refine J.n_then ?_
          refine J.seq ?_
          refine J.region ?_
          refine J.op (Yd.move rfl) rfl ?_
          refine J.eff (Ye.call cl54 rfl (Ready_ok hk (by omega))) rfl ?_
          rintro _ w1 ⟨b29_1, rfl, hbb29_1, cb29_1, x1⟩
          have fr_b29_1 : Fr w.heap.size (some b29_1) := Fr.le (Fr.blk hbb29_1) e0.size
          have e0 := e0.trans x1
          clear x1
          refine J.op (Yd.assign rfl) rfl ?_
          refine J.nil ?_
          refine J.n_then ?_
          refine J.seq ?_
          refine J.region ?_
          refine J.op (Yd.assign rfl) rfl ?_
          refine J.nil ?_
          refine J.n_then ?_
          refine J.seq ?_
          refine J.seq ?_
          refine J.region ?_
          refine J.op (Yd.assign rfl) rfl ?_
          refine J.nil ?_
          refine J.n_then ?_
          refine J.block ?_
          refine J.loop (ι := Nat × Value) (fun i => [(1, v), (2, I (N : Int)), (10, W32 (UInt32.ofNat i.1)), (8, .pointer (some ⟨b29_1, 0, none⟩)), (9, i.2)]) (fun i w' => 16 * i.1 ≤ N + 15 ∧ Cel w' b29_1 95 [(0, 256, boxT.map (fun x : UInt8 => B x)), (256, 240, (kx key 52).map (fun x : UInt8 => B x))] ∧ Ob w.heap.size 5 w' i.2 (strB key nonce i.1) ∧ Fr w.heap.size (i.2).ownBlock ∧ Ap (some b29_1) (i.2).ownBlock ∧ Ext w w') (fun i => (N + 15) - 16 * i.1) ((0, nilS)) ⟨rfl, rfl, rfl, rfl, rfl, trivial⟩ (⟨by show 16 * 0 ≤ N + 15; omega, cb29_1, Ow.nil _ _ _, Fr.nil, Ap.nil_r, e0⟩) ?_
          rintro ⟨k, v2⟩ w2 ⟨hk2, cb29_1, hout, fr_v2, ap_b29_1_v2, e0⟩
          dsimp only at *
          have hsl := strB_len key nonce k
          refine J.seq ?_
          refine J.seq ?_
          refine J.region ?_
          refine J.op (Yd.move rfl) rfl ?_
          refine J.op (Yd.len_b Try.underlying22 rfl (Ow.rd hout)) rfl ?_
          refine J.op (Yd.move rfl) rfl ?_
          refine J.op (Yd.lss rfl rfl) rfl ?_
          refine J.nil ?_
          refine J.n_then ?_
          refine J.cond_dec rfl (fun hc1 => ?_) (fun hc1 => ?_)
          · skip
            refine J.skip ?_
            refine J.n_then ?_
            refine J.seq ?_
            refine J.block ?_
            refine J.seq ?_
            refine J.region ?_
            refine J.op (Yd.move rfl) rfl ?_
            refine J.op (Yd.move rfl) rfl ?_
            refine J.op (Yd.move rfl) rfl ?_
            refine J.eff (Ye.call cl57 rfl (Put32_ok)) rfl ?_
            rintro s39_3 w3 ⟨rs39_3, x1⟩
            have e0 := e0.trans x1
            have cb29_1 := cb29_1.ext x1
            have hout := hout.ext x1
            clear x1
            refine J.eff (Ye.litS2 Try.underlying57 ti22 rfl rfl rfl (Rd.ext ho e0) rs39_3) rfl ?_
            rintro s40_4 w4 ⟨o40_4, x1⟩
            have e0 := e0.trans x1
            have cb29_1 := cb29_1.ext x1
            have hout := hout.ext x1
            have rs39_3 := rs39_3.ext x1
            clear x1
            refine J.eff (Ye.call cl56 rfl (Cat_ok o40_4 (by first | omega | assumption | (simp only [List.length_append, List.flatten_cons, List.flatten_nil, List.append_nil, List.length_drop, List.length_take, beN_len, padL_len, sha256L_len, macL_len, List.length_nil, List.length_cons, Int.toNat_natCast]; omega) | (simp [beN_len] <;> omega)))) rfl ?_
            rintro s41_5 w5 ⟨os41_5, x1⟩
            have ap_b29_1_s41_5 : Ap (some b29_1) s41_5.ownBlock := Ap.mk (Cel.live cb29_1) (Ow.fr os41_5)
            have ap_v2_s41_5 : Ap v2.ownBlock s41_5.ownBlock := Ap.mk (Ow.live hout) (Ow.fr os41_5)
            have fr_s41_5 : Fr w.heap.size s41_5.ownBlock := Fr.le (Ow.fr os41_5) e0.size
            replace os41_5 := Ow.base os41_5 e0.size
            have e0 := e0.trans x1
            have cb29_1 := cb29_1.ext x1
            have hout := hout.ext x1
            have rs39_3 := rs39_3.ext x1
            have o40_4 := o40_4.ext x1
            clear x1
            refine J.op (Yd.arrPB Try.underlying86 rfl (Ow.rd os41_5) (by first | omega | (simp only [Int.toNat_natCast]; omega) | (simp only [List.length_map, List.length_drop, List.length_take, List.length_append, List.length_replicate]; omega) | (simp [beN_len] <;> omega))) rfl ?_
            refine J.op (Yd.loadPB ag86 ti86 rfl (Ow.rd os41_5) (by first | omega | (simp only [Int.toNat_natCast]; omega) | (simp only [List.length_map, List.length_drop, List.length_take, List.length_append, List.length_replicate]; omega) | (simp [beN_len] <;> omega)) rfl) rfl ?_
            refine J.eff (Ye.call cl55 rfl (CBlock_ok cb29_1 (by simp [beN_len]; omega) (by rw [kx_len _ (by omega)]))) rfl ?_
            rintro _ w6 ⟨rfl, x1⟩
            have e0 := e0.trans x1
            have cb29_1 := cb29_1.ext x1
            have hout := hout.ext x1
            have rs39_3 := rs39_3.ext x1
            have o40_4 := o40_4.ext x1
            have os41_5 := os41_5.ext x1
            clear x1
            refine J.eff (Ye.alloc ti86 (S := [(0, 16, (List.replicate 16 0).map (fun x : UInt8 => B x))]) (by simp [SegAll, SegOK, Value.cells])) rfl ?_
            rintro _ w7 ⟨b11_6, rfl, hb_, c11_6, x1⟩
            have ap_b29_1_b11_6 : Ap (some b29_1) (some b11_6) := Ap.mk (Cel.live cb29_1) (Fr.blk hb_)
            have ap_v2_b11_6 : Ap v2.ownBlock (some b11_6) := Ap.mk (Ow.live hout) (Fr.blk hb_)
            have ap_s41_5_b11_6 : Ap s41_5.ownBlock (some b11_6) := Ap.mk (Ow.live os41_5) (Fr.blk hb_)
            have fr_b11_6 : Fr w.heap.size (some b11_6) := Fr.le (Fr.blk hb_) e0.size
            have e0 := e0.trans x1
            have cb29_1 := cb29_1.ext x1
            have hout := hout.ext x1
            have rs39_3 := rs39_3.ext x1
            have o40_4 := o40_4.ext x1
            have os41_5 := os41_5.ext x1
            clear x1 hb_
            refine J.eff0 (Ye.storeA (ys := List.map (fun x : UInt8 => B x) _) ti86 c11_6 0 rfl rfl rfl rfl (by first | (rw [List.length_map]; omega) | (simp; done) | rfl | (simp <;> omega)) (one_M _ (fun _ => rfl))) ?_
            rintro _ w8 ⟨cX, hu⟩
            simp only [List.set_cons_zero, List.set_cons_succ] at cX
            have hg := hu.gb
            have cb29_1 := Cel.gbk cb29_1 hg ap_b29_1_b11_6
            have hout := Ow.gbk hout hg ap_v2_b11_6
            have os41_5 := Ow.gbk os41_5 hg ap_s41_5_b11_6
            have e0 := Ext.gbk e0 fr_b11_6 hg
            clear hg
            replace c11_6 := cX
            clear cX hu
            refine J.nil ?_
            refine J.n_then ?_
            refine J.region ?_
            refine J.op (Yd.move rfl) rfl ?_
            refine J.op (Yd.sliceA Try.underlying86 ti5 rfl) rfl ?_
            refine J.eff (Ye.appendS Try.underlying22 ti5 rfl rfl rfl rfl hout (Cel.bs c11_6 0 rfl (l := 0) (k := 16) (by omega) (by omega) (by decide)) (fun _ => rfl) (by simp only [List.length_drop, List.length_take, encR_len]; omega) e0.size) rfl ?_
            rintro s47_9 w9 ⟨o47_9, hg, hsf⟩
            have ap_b29_1_s47_9 : Ap (some b29_1) s47_9.ownBlock := Ap.sf ap_b29_1_v2 (Cel.live cb29_1) hsf
            have ap_s41_5_s47_9 : Ap s41_5.ownBlock s47_9.ownBlock := Ap.sf (Ap.symm ap_v2_s41_5) (Ow.live os41_5) hsf
            have ap_b11_6_s47_9 : Ap (some b11_6) s47_9.ownBlock := Ap.sf (Ap.symm ap_v2_b11_6) (Cel.live c11_6) hsf
            have fr_s47_9 : Fr w.heap.size s47_9.ownBlock := Fr.sf fr_v2 hsf e0.size
            have cb29_1 := Cel.gbk cb29_1 hg ap_b29_1_v2
            have os41_5 := Ow.gbk os41_5 hg (Ap.symm ap_v2_s41_5)
            have c11_6 := Cel.gbk c11_6 hg (Ap.symm ap_v2_b11_6)
            have e0 := Ext.gbk e0 fr_v2 hg
            clear hg hsf
            refine J.op (Yd.assign rfl) rfl ?_
            refine J.nil ?_
            refine J.n_block ?_
            refine J.n_then ?_
            refine J.region ?_
            refine J.op (Yd.move rfl) rfl ?_
            refine J.op (Yd.add_u32 (n := 1) rfl rfl) rfl ?_
            refine J.op (Yd.assign rfl) rfl ?_
            refine J.nil ?_
            refine J.n_then ?_
            exact J.round ((k + 1, s47_9)) ⟨rfl, rfl, (congrArg (fun z => some (W32 z)) (u32_succ k)), rfl, rfl, trivial⟩ (⟨by show 16 * (k + 1) ≤ N + 15; omega, cb29_1, by show Ob _ _ _ _ (strB key nonce (k + 1)); rw [← str_next key nonce _ k (by omega) rfl (by omega)]; exact o47_9, fr_s47_9, ap_b29_1_s47_9, e0⟩) (by show (N + 15) - 16 * (k + 1) < (N + 15) - 16 * k; omega)
          · skip
            refine J.exit ?_
            refine J.x_then ?_
            refine J.x_then ?_
            refine J.x_block ?_
            refine J.n_then ?_
            refine J.seq ?_
            refine J.region ?_
            refine J.op (Yd.move rfl) rfl ?_
            refine J.op (Yd.move rfl) rfl ?_
            refine J.eff (Ye.call cl58 rfl (First_ok (n := N) (Ow.rd hout) (by omega))) rfl ?_
            rintro s50_10 w10 ⟨os50_10, x1⟩
            have ap_b29_1_s50_10 : Ap (some b29_1) s50_10.ownBlock := Ap.mk (Cel.live cb29_1) (Ow.fr os50_10)
            have ap_v2_s50_10 : Ap v2.ownBlock s50_10.ownBlock := Ap.mk (Ow.live hout) (Ow.fr os50_10)
            have fr_s50_10 : Fr w.heap.size s50_10.ownBlock := Fr.le (Ow.fr os50_10) e0.size
            replace os50_10 := Ow.base os50_10 e0.size
            have e0 := e0.trans x1
            have cb29_1 := cb29_1.ext x1
            have hout := hout.ext x1
            clear x1
            refine J.op (Yd.assign rfl) rfl ?_
            refine J.op (Yd.assign rfl) rfl ?_
            refine J.nil ?_
            refine J.n_then ?_
            refine J.ret ?_
            exact J.ret2 rfl rfl rfl (⟨_, rfl, _, by rw [strE_yes (by omega)]; try rfl, by have h9 := (Ow.rd os50_10); rw [firstL_take (by rw [strB_len]; omega), strL_of _ _ (by omega)] at h9; rw [strQ_yes (by omega)]; exact h9, e0⟩)
end Ytpkpicnldpbomaa
end Go.Proofs
