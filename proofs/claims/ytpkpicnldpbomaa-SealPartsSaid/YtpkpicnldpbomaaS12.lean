import Derived.Test.YtpkpicnldpbomaaT
import Derived.Test.YtpkpicnldpbomaaS11
set_option linter.unusedVariables false
set_option linter.unusedSimpArgs false
set_option maxRecDepth 100000
set_option maxHeartbeats 4000000
namespace Go.Proofs
open Go.X Go.RowKit
namespace Ytpkpicnldpbomaa
theorem HCopy_ok {b : Nat} {s : Value} {a : List UInt8} {w : World} (hc : Cel w b 62 (hseg a s)) (hs : Ob 0 5 w s (restL a)) (hl : a.length ≤ 1000000000) : C Try.prog 59 [.pointer (some ⟨b, 0, none⟩)] w (Ret fun u w' => ∃ b' s', u = .pointer (some ⟨b', 0, none⟩) ∧ w.heap.size ≤ b' ∧ Cel w' b' 62 (hseg a s') ∧ Ob w.heap.size 5 w' s' (restL a) ∧ Ap (some b') s'.ownBlock ∧ Ext w w') := by
  unfold hseg at hc
  have hh0 := blk256_len start256L a rfl (a.length / 64)
  have hrl := restL_len a
  have e0 := Ext.refl w
  refine C.enter Try.func59 rfl Try.ntmps59 rfl ?_
  refine J.seq ?_
  refine J.region ?_
  refine J.op (Yd.assign rfl) rfl ?_
  refine J.nil ?_
  refine J.n_then ?_
  refine J.seq ?_
  refine J.seq ?_
  refine J.region ?_
  refine J.op (Yd.move rfl) rfl ?_
  refine J.op (Yd.cast (Yd.eqPn Try.underlying58 rfl rfl) (show _ = Value.bool false from rfl)) rfl ?_
  refine J.nil ?_
  refine J.n_then ?_
  refine J.cond_false rfl ?_
  refine J.skip ?_
  refine J.n_then ?_
  refine J.seq ?_
  refine J.regionO [(0, true), (1, true), (2, true), (4, true), (5, true), (6, true), (9, true), (10, true), (11, true)] [(3, 1), (7, 1), (12, 1), (8, 0)] [(13, false), (14, false), (15, true)] mix (by kernel_rfl) ?_
  refine J.s_op rfl (fun _ => Yd.move rfl) rfl ?_
  refine J.s_op rfl (fun _ => Yd.nilCheck rfl) rfl ?_
  refine J.s_op rfl (fun _ => Yd.cast (Yd.fieldA Try.underlying62 rfl ti60 rfl rfl) (show _ = Value.pointer (some ⟨b, 0, none⟩) from rfl)) rfl ?_
  refine J.s_op rfl (fun _ => Yd.move rfl) rfl ?_
  refine J.s_op rfl (fun _ => Yd.nilCheck rfl) rfl ?_
  refine J.s_op rfl (fun _ => Yd.cast (Yd.fieldA Try.underlying62 rfl ti22 rfl rfl) (show _ = Value.pointer (some ⟨b, 8, none⟩) from rfl)) rfl ?_
  refine J.s_op rfl (fun _ => Yd.move rfl) rfl ?_
  refine J.s_op rfl (fun _ => Yd.nilCheck rfl) rfl ?_
  refine J.s_op rfl (fun _ => Yd.cast (Yd.fieldA Try.underlying62 rfl ti42 rfl rfl) (show _ = Value.pointer (some ⟨b, 9, none⟩) from rfl)) rfl ?_
  refine J.s_nil ?_
  refine J.o_op rfl (Yd.loadA ag60 ti60 rfl (Cel.ext hc e0) 0 rfl) rfl ?_
  refine J.o_op rfl (Yd.load pl22 rfl (Cel.cell1 (Cel.ext hc e0) 1 rfl)) rfl ?_
  refine J.o_op rfl (Yd.load pl42 rfl (Cel.cell1 (Cel.ext hc e0) 2 rfl)) rfl ?_
  refine J.o_eff rfl (Ye.call cl53 rfl (Clone_ok (Ow.rd hs) (by first | omega | (simp <;> omega)))) rfl (fun _ _ h => h.2) ?_
  rintro s13_1 w1 ⟨os13_1, x1⟩
  have fr_s13_1 : Fr w.heap.size s13_1.ownBlock := Fr.le (Ow.fr os13_1) e0.size
  replace os13_1 := Ow.base os13_1 e0.size
  have e0 := e0.trans x1
  clear x1
  refine J.o_nil ?_
  have hcS := Rd.cells (Ow.rd os13_1)
  have hoL := overL_len (blk256 start256L a (a.length / 64))
  refine J.s_one rfl (Yd.buildV (pl := [(0, 8), (8, 1), (9, 1)]) Try.underlying62 (by kernel_rfl) ti62 rfl rfl (by simp [OffOK, cells_agg, cells_int, hcS, hoL]) (by simp [catV, cells_agg, cells_int, hcS, hoL])) rfl ?_
  refine J.s_eff rfl (Ye.box (S := hseg a s13_1) rfl (by have h := box_segs [(overL (blk256 start256L a (a.length / 64))).map (fun x => W32 x), [s13_1], [W64 (UInt64.ofNat a.length)]]; simpa [hseg, segsOf, catV, cells_agg, cells_int, hcS, hoL, -UInt64.toNat_ofNat'] using h)) rfl ?_
  rintro _ w2 ⟨b19_1, rfl, hb_, c19_1, x1⟩
  have ap_s13_1_b19_1 : Ap s13_1.ownBlock (some b19_1) := Ap.mk (Ow.live os13_1) (Fr.blk hb_)
  have fr_b19_1 : Fr w.heap.size (some b19_1) := Fr.le (Fr.blk hb_) e0.size
  have e0 := e0.trans x1
  have os13_1 := os13_1.ext x1
  clear x1 hb_
  refine J.s_op rfl (fun _ => Yd.assign rfl) rfl ?_
  refine J.s_nil ?_
  refine J.n_np ?_
  refine J.n_then ?_
  refine J.ret ?_
  exact J.ret1 rfl rfl (⟨_, rfl, b19_1, s13_1, rfl, fr_b19_1 _ rfl, c19_1, os13_1, (Ap.symm ap_s13_1_b19_1), e0⟩)

theorem HCopyNil_ok {w : World} : C Try.prog 59 [.pointer none] w (Ret fun v w' => v = .pointer none ∧ Ext w w') := by
  have e0 := Ext.refl w
  refine C.enter Try.func59 rfl Try.ntmps59 rfl ?_
  refine J.seq ?_
  refine J.region ?_
  refine J.op (Yd.assign rfl) rfl ?_
  refine J.nil ?_
  refine J.n_then ?_
  refine J.seq ?_
  refine J.seq ?_
  refine J.region ?_
  refine J.op (Yd.move rfl) rfl ?_
  refine J.op (Yd.cast (Yd.eqPn Try.underlying58 rfl rfl) (show _ = Value.bool true from rfl)) rfl ?_
  refine J.nil ?_
  refine J.n_then ?_
  refine J.cond_true rfl ?_
  refine J.seq ?_
  refine J.region ?_
  refine J.op (Yd.assign rfl) rfl ?_
  refine J.nil ?_
  refine J.n_then ?_
  refine J.ret ?_
  refine J.r_then ?_
  exact J.ret1 rfl rfl (⟨_, rfl, rfl, e0⟩)

theorem Sum256_ok {sl : Value} {vs : List Value} {ll : List (List UInt8)} {w : World} (hl : Rl w sl vs ll) (ht : ll.flatten.length ≤ 1000000000) : C Try.prog 36 [sl] w (Ret fun v w' => Ob w.heap.size 5 w' v (sha256L ll.flatten) ∧ Ext w w') := by
  have hlm := Rd.max hl.rd
  rw [hl.len] at hlm
  have e0 := Ext.refl w
  refine C.enter Try.func36 rfl Try.ntmps36 rfl ?_
  refine J.seq ?_
  refine J.region ?_
  refine J.op (Yd.assign rfl) rfl ?_
  refine J.nil ?_
  refine J.n_then ?_
  refine J.seq ?_
  refine J.region ?_
  refine J.op (Yd.buildS (pl := [(0, 8), (8, 1), (9, 1)]) Try.underlying62 (by kernel_rfl) ti62 rfl rfl) rfl ?_
  refine J.eff (Ye.box (S := [(0, 8, (List.replicate 8 0).map (fun x : UInt32 => W32 x)), (8, 1, [.slice none 0 0]), (9, 1, [.int .u64 0])]) rfl (by simp [SegAll, SegOK, Value.cells])) rfl ?_
  rintro _ w1 ⟨b7_0, rfl, hb_, c7_0, x1⟩
  have fr_b7_0 : Fr w.heap.size (some b7_0) := Fr.le (Fr.blk hb_) e0.size
  have e0 := e0.trans x1
  clear x1 hb_
  refine J.op (Yd.assign rfl) rfl ?_
  refine J.nil ?_
  refine J.n_then ?_
  refine J.seq ?_
  refine J.seq ?_
  refine J.region ?_
  refine J.op (Yd.move rfl) rfl ?_
  refine J.op (Yd.len_l Try.underlying57 rfl (Rl.ext hl e0)) rfl ?_
  refine J.op (Yd.move rfl) rfl ?_
  refine J.nil ?_
  refine J.n_then ?_
  refine J.block ?_
  refine J.loop (ι := Nat × Value) (fun i => [(8, sl), (9, I (ll.length : Int)), (10, I i.1), (3, .pointer (some ⟨b7_0, 0, none⟩))]) (fun i w' => i.1 ≤ ll.length ∧ Cel w' b7_0 62 (hseg (ll.take i.1).flatten i.2) ∧ Ob w.heap.size 5 w' i.2 (restL (ll.take i.1).flatten) ∧ Fr w.heap.size (i.2).ownBlock ∧ Ap (some b7_0) (i.2).ownBlock ∧ Ext w w') (fun i => ll.length - i.1) ((0, nilS)) ⟨rfl, rfl, rfl, rfl, trivial⟩ (⟨Nat.zero_le _, by show Cel _ _ _ (hseg ([] : List UInt8) nilS); rw [hseg_nil]; exact c7_0, by show Ob _ _ _ nilS (restL ([] : List UInt8)); exact Ow.nil _ _ _, Fr.nil, Ap.nil_r, e0⟩) ?_
  rintro ⟨k, s1⟩ w2 ⟨hk, c7_0, hs, fr_s1, ap_b7_0_s1, e0⟩
  dsimp only at *
  have hft := flat_step ll k
  have hle := flat_le ll (k + 1)
  have hle0 := flat_le ll k
  refine J.seq ?_
  refine J.region ?_
  refine J.op (Yd.lss rfl rfl) rfl ?_
  refine J.nil ?_
  refine J.n_then ?_
  refine J.seq ?_
  refine J.cond_dec rfl (fun hc0 => ?_) (fun hc0 => ?_)
  · skip
    replace hft := hft (by omega)
    refine J.skip ?_
    refine J.n_then ?_
    refine J.seq ?_
    refine J.block ?_
    refine J.seq ?_
    refine J.region ?_
    refine J.op (Yd.idx_l Try.underlying57 ti22 rfl rfl (Rl.ext hl e0) (by first | omega | exact idx_u8' _ | (simp only [Int.toNat_natCast]; omega) | (simp only [List.length_map, List.length_drop, List.length_take, List.length_append, List.length_replicate]; omega) | (simp <;> omega))) rfl ?_
    refine J.op (Yd.load pl22 rfl (Rl.cell (Rl.ext hl e0) (by first | omega | exact idx_u8' _ | (simp only [Int.toNat_natCast]; omega) | (simp only [List.length_map, List.length_drop, List.length_take, List.length_append, List.length_replicate]; omega) | (simp <;> omega)))) rfl ?_
    refine J.op (Yd.assign rfl) rfl ?_
    refine J.nil ?_
    refine J.n_then ?_
    refine J.region ?_
    refine J.op (Yd.move rfl) rfl ?_
    refine J.op (Yd.move rfl) rfl ?_
    refine J.eff (Ye.call cl37 rfl (Add_ok c7_0 (Ow.base hs (Nat.zero_le _)) ap_b7_0_s1 (fun w' ht => (Rl.at' (Rl.ext hl (Ext.tnk e0 (fun q hq => by simp only [List.mem_singleton] at hq; subst hq; exact fr_b7_0) ht)) (by first | omega | exact idx_u8' _ | (simp only [Int.toNat_natCast]; omega) | (simp only [List.length_map, List.length_drop, List.length_take, List.length_append, List.length_replicate]; omega) | (simp <;> omega)))) (by first | omega | (simp only [Int.toNat_natCast]; omega) | (simp <;> omega)) (by first | omega | (simp only [Int.toNat_natCast]; omega) | (simp <;> omega)))) rfl ?_
    rintro _ w3 ⟨s16_3, rfl, cX2, os16_3, x1⟩
    have ap_b7_0_s16_3 : Ap (some b7_0) s16_3.ownBlock := Ap.mk (Cel.live c7_0) (Ow.fr os16_3)
    have ap_s1_s16_3 : Ap s1.ownBlock s16_3.ownBlock := Ap.mk (Ow.live hs) (Ow.fr os16_3)
    have fr_s16_3 : Fr w.heap.size s16_3.ownBlock := Fr.le (Ow.fr os16_3) e0.size
    replace os16_3 := Ow.base os16_3 e0.size
    have hs := Ow.tnk hs x1 (ApL.one (Ap.symm ap_b7_0_s1))
    have e0 := Ext.tnk e0 (fun q hq => by simp only [List.mem_singleton] at hq; subst hq; exact fr_b7_0) x1
    clear x1
    replace c7_0 := cX2
    clear cX2
    refine J.nil ?_
    refine J.n_block ?_
    refine J.n_then ?_
    refine J.region ?_
    refine J.op (Yd.add rfl rfl (by first | omega | exact idx_u8' _ | (simp only [Int.toNat_natCast]; omega) | (simp only [List.length_map, List.length_drop, List.length_take, List.length_append, List.length_replicate]; omega) | (simp <;> omega))) rfl ?_
    refine J.op (Yd.move rfl) rfl ?_
    refine J.nil ?_
    refine J.n_then ?_
    exact J.round ((k + 1, s16_3)) ⟨rfl, rfl, rfl, rfl, trivial⟩ (⟨by show k + 1 ≤ ll.length; omega, by show Cel _ _ _ (hseg (ll.take (k + 1)).flatten _); rw [flat_take ll k (by omega)]; exact c7_0, by show Ob _ _ _ _ (restL (ll.take (k + 1)).flatten); rw [flat_take ll k (by omega)]; exact os16_3, fr_s16_3, ap_b7_0_s16_3, e0⟩) (by show ll.length - (k + 1) < ll.length - k; omega)
  · skip
    refine J.exit ?_
    refine J.x_then ?_
    refine J.x_then ?_
    refine J.x_block ?_
    refine J.n_then ?_
    refine J.seq ?_
    refine J.region ?_
    refine J.op (Yd.move rfl) rfl ?_
    refine J.eff (Ye.call cl49 rfl (HSum_ok c7_0 (Ow.base hs (Nat.zero_le _)) (by first | omega | (simp <;> omega)))) rfl ?_
    rintro s19_4 w4 ⟨os19_4, x1⟩
    have ap_b7_0_s19_4 : Ap (some b7_0) s19_4.ownBlock := Ap.mk (Cel.live c7_0) (Ow.fr os19_4)
    have ap_s1_s19_4 : Ap s1.ownBlock s19_4.ownBlock := Ap.mk (Ow.live hs) (Ow.fr os19_4)
    have fr_s19_4 : Fr w.heap.size s19_4.ownBlock := Fr.le (Ow.fr os19_4) e0.size
    replace os19_4 := Ow.base os19_4 e0.size
    have e0 := e0.trans x1
    have c7_0 := c7_0.ext x1
    have hs := hs.ext x1
    clear x1
    refine J.op (Yd.assign rfl) rfl ?_
    refine J.nil ?_
    refine J.n_then ?_
    refine J.ret ?_
    exact J.ret1 rfl rfl (⟨_, rfl, by have h9 := os19_4; rw [List.take_of_length_le (by omega)] at h9; exact h9, e0⟩)
end Ytpkpicnldpbomaa
end Go.Proofs
