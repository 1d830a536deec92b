import Derived.Test.YtpkpicnldpbomaaT
import Derived.Test.YtpkpicnldpbomaaM1
set_option linter.unusedVariables false
set_option linter.unusedSimpArgs false
set_option maxRecDepth 100000
set_option maxHeartbeats 4000000
namespace Go.Proofs
open Go.X Go.RowKit
namespace Ytpkpicnldpbomaa
theorem KMac_ok {bk : Nat} {sl : Value} {vs : List Value} {ll : List (List UInt8)} {key : List UInt8} {w : World} (hK : KeyP 64 62 5 w bk key) (hl : Rl w sl vs ll) (ht : ll.flatten.length ≤ 100000000) : C Try.prog 40 [.pointer (some ⟨bk, 0, none⟩), sl] w (Ret fun v w' => Ob w.heap.size 5 w' v (macL key ll.flatten) ∧ Ext w w') := by
  obtain ⟨bi, si, bo, so, hkc, hci, hsi, hni, hco, hso, hno⟩ := hK
  have hp1 := padL_len 54 key
  have hp2 := padL_len 92 key
  have hlm := Rd.max hl.rd
  rw [hl.len] at hlm
  have e0 := Ext.refl w
  refine C.enter Try.func40 rfl Try.ntmps40 rfl ?_
  refine J.seq ?_
  refine J.region ?_
  refine J.op (Yd.assign rfl) rfl ?_
  refine J.nil ?_
  refine J.n_then ?_
  refine J.seq ?_
  refine J.seq ?_
  refine J.region ?_
  refine J.op (Yd.move rfl) rfl ?_
  refine J.op (Yd.cast (Yd.eqPn Try.underlying43 rfl rfl) (show _ = Value.bool false from rfl)) rfl ?_
  refine J.nil ?_
  refine J.n_then ?_
  refine J.cond_false rfl ?_
  refine J.skip ?_
  refine J.n_then ?_
  refine J.seq ?_
  refine J.seq ?_
  refine J.region ?_
  refine J.op (Yd.move rfl) rfl ?_
  refine J.op (Yd.nilCheck rfl) rfl ?_
  refine J.op (Yd.cast (Yd.fieldA Try.underlying64 rfl ti58 rfl rfl) (show _ = Value.pointer (some ⟨bk, 0, none⟩) from rfl)) rfl ?_
  refine J.op (Yd.load pl58 rfl (Cel.cell1 (Cel.ext hkc e0) 0 rfl)) rfl ?_
  refine J.op (Yd.cast (Yd.eqPn Try.underlying58 rfl rfl) (show _ = Value.bool false from rfl)) rfl ?_
  refine J.nil ?_
  refine J.n_then ?_
  refine J.cond_false rfl ?_
  refine J.skip ?_
  refine J.n_then ?_
  refine J.seq ?_
  refine J.regionO [(0, true), (1, true), (2, true), (5, true), (6, true), (7, true)] [(3, 1), (8, 1), (4, 0)] [(9, false), (10, true), (11, true)] mix (by kernel_rfl) ?_
  refine J.s_op rfl (fun _ => Yd.move rfl) rfl ?_
  refine J.s_op rfl (fun _ => Yd.nilCheck rfl) rfl ?_
  refine J.s_op rfl (fun _ => Yd.cast (Yd.fieldA Try.underlying64 rfl ti58 rfl rfl) (show _ = Value.pointer (some ⟨bk, 0, none⟩) from rfl)) rfl ?_
  refine J.s_op rfl (fun _ => Yd.move rfl) rfl ?_
  refine J.s_op rfl (fun _ => Yd.nilCheck rfl) rfl ?_
  refine J.s_op rfl (fun _ => Yd.cast (Yd.fieldA Try.underlying64 rfl ti58 rfl rfl) (show _ = Value.pointer (some ⟨bk, 1, none⟩) from rfl)) rfl ?_
  refine J.s_nil ?_
  refine J.o_op rfl (Yd.load pl58 rfl (Cel.cell1 (Cel.ext hkc e0) 0 rfl)) rfl ?_
  refine J.o_op rfl (Yd.load pl58 rfl (Cel.cell1 (Cel.ext hkc e0) 1 rfl)) rfl ?_
  refine J.o_eff rfl (Ye.call cl59 rfl (HCopy_ok (Cel.ext hci e0) (Ow.ext hsi e0) (by first | omega | (simp only [List.length_append, List.flatten_cons, List.flatten_nil, List.append_nil, padL_len, sha256L_len, macL_len, List.length_nil, List.length_cons, Int.toNat_natCast]; omega) | (simp <;> omega)))) rfl (fun _ _ ⟨_, _, _, _, _, _, _, h⟩ => h) ?_
  rintro _ w1 ⟨b22_1, s22_1, rfl, hbb22_1, cb22_1, os22_1, ap_b22_1_s22_1, x1⟩
  have fr_b22_1 : Fr w.heap.size (some b22_1) := Fr.le (Fr.blk hbb22_1) e0.size
  have fr_s22_1 : Fr w.heap.size s22_1.ownBlock := Fr.le (Ow.fr os22_1) e0.size
  replace os22_1 := Ow.base os22_1 e0.size
  have e0 := e0.trans x1
  clear x1
  refine J.o_nil ?_
  refine J.s_eff rfl (Ye.call cl59 rfl (HCopy_ok (Cel.ext hco e0) (Ow.ext hso e0) (by first | omega | (simp only [List.length_append, List.flatten_cons, List.flatten_nil, List.append_nil, padL_len, sha256L_len, macL_len, List.length_nil, List.length_cons, Int.toNat_natCast]; omega) | (simp <;> omega)))) rfl ?_
  rintro _ w2 ⟨b27_2, s27_2, rfl, hbb27_2, cb27_2, os27_2, ap_b27_2_s27_2, x1⟩
  have ap_s22_1_b27_2 : Ap s22_1.ownBlock (some b27_2) := Ap.mk (Ow.live os22_1) (Fr.blk hbb27_2)
  have ap_b22_1_b27_2 : Ap (some b22_1) (some b27_2) := Ap.mk (Cel.live cb22_1) (Fr.blk hbb27_2)
  have fr_b27_2 : Fr w.heap.size (some b27_2) := Fr.le (Fr.blk hbb27_2) e0.size
  have ap_s22_1_s27_2 : Ap s22_1.ownBlock s27_2.ownBlock := Ap.mk (Ow.live os22_1) (Ow.fr os27_2)
  have ap_b22_1_s27_2 : Ap (some b22_1) s27_2.ownBlock := Ap.mk (Cel.live cb22_1) (Ow.fr os27_2)
  have fr_s27_2 : Fr w.heap.size s27_2.ownBlock := Fr.le (Ow.fr os27_2) e0.size
  replace os27_2 := Ow.base os27_2 e0.size
  have e0 := e0.trans x1
  have os22_1 := os22_1.ext x1
  have cb22_1 := cb22_1.ext x1
  clear x1
  refine J.s_op rfl (fun _ => Yd.assign rfl) rfl ?_
  refine J.s_op rfl (fun _ => Yd.assign rfl) rfl ?_
  refine J.s_nil ?_
  refine J.n_np ?_
  refine J.n_then ?_
  refine J.seq ?_
  refine J.seq ?_
  refine J.region ?_
  refine J.op (Yd.move rfl) rfl ?_
  refine J.op (Yd.len_l Try.underlying57 rfl (Rl.ext hl e0)) rfl ?_
  refine J.op (Yd.move rfl) rfl ?_
  refine J.nil ?_
  refine J.n_then ?_
  refine J.block ?_
  refine J.loop (ι := Nat × Value) (fun i => [(28, sl), (29, I (ll.length : Int)), (30, I i.1), (5, .pointer (some ⟨b22_1, 0, none⟩)), (6, .pointer (some ⟨b27_2, 0, none⟩))]) (fun i w' => i.1 ≤ ll.length ∧ Cel w' b22_1 62 (hseg (padL 54 key ++ (ll.take i.1).flatten) i.2) ∧ Cel w' b27_2 62 (hseg (padL 92 key) s27_2) ∧ Ob w.heap.size 5 w' i.2 (restL (padL 54 key ++ (ll.take i.1).flatten)) ∧ Ob w.heap.size 5 w' s27_2 (restL (padL 92 key)) ∧ Fr w.heap.size (i.2).ownBlock ∧ Ap (some b22_1) (i.2).ownBlock ∧ Ap (some b27_2) (i.2).ownBlock ∧ Ap s27_2.ownBlock (i.2).ownBlock ∧ Ext w w') (fun i => ll.length - i.1) ((0, s22_1)) ⟨rfl, rfl, rfl, rfl, rfl, trivial⟩ (⟨Nat.zero_le _, by show Cel _ _ _ (hseg (padL 54 key ++ []) _); rw [List.append_nil]; exact cb22_1, cb27_2, by show Ob _ _ _ _ (restL (padL 54 key ++ [])); rw [List.append_nil]; exact os22_1, os27_2, fr_s22_1, ap_b22_1_s22_1, (Ap.symm ap_s22_1_b27_2), (Ap.symm ap_s22_1_s27_2), e0⟩) ?_
  rintro ⟨k, s1⟩ w3 ⟨hk, cb22_1, cb27_2, hs1, hso2, fr_s1, ap_b22_1_s1, ap_b27_2_s1, ap_s27_2_s1, e0⟩
  dsimp only at *
  have hft := flat_step ll k
  have hle := flat_le ll (k + 1)
  have hle0 := flat_le ll k
  refine J.seq ?_
  refine J.region ?_
  refine J.op (Yd.lss rfl rfl) rfl ?_
  refine J.nil ?_
  refine J.n_then ?_
  refine J.seq ?_
  refine J.cond_dec rfl (fun hc2 => ?_) (fun hc2 => ?_)
  · skip
    replace hft := hft (by omega)
    have hfI : (ll.getD (k : Int).toNat []).length = (ll.getD k []).length := by rw [Int.toNat_natCast]
    refine J.skip ?_
    refine J.n_then ?_
    refine J.seq ?_
    refine J.block ?_
    refine J.seq ?_
    refine J.region ?_
    refine J.op (Yd.idx_l Try.underlying57 ti22 rfl rfl (Rl.ext hl e0) (by first | omega | exact idx_u8' _ | (simp only [Int.toNat_natCast]; omega) | (simp only [List.length_map, List.length_drop, List.length_take, List.length_append, List.length_replicate]; omega) | (simp <;> omega))) rfl ?_
    refine J.op (Yd.load pl22 rfl (Rl.cell (Rl.ext hl e0) (by first | omega | exact idx_u8' _ | (simp only [Int.toNat_natCast]; omega) | (simp only [List.length_map, List.length_drop, List.length_take, List.length_append, List.length_replicate]; omega) | (simp <;> omega)))) rfl ?_
    refine J.op (Yd.assign rfl) rfl ?_
    refine J.nil ?_
    refine J.n_then ?_
    refine J.region ?_
    refine J.op (Yd.move rfl) rfl ?_
    refine J.op (Yd.move rfl) rfl ?_
    refine J.eff (Ye.call cl37 rfl (Add_ok cb22_1 (Ow.base hs1 (Nat.zero_le _)) ap_b22_1_s1 (fun w' ht => (Rl.at' (Rl.ext hl (Ext.tnk e0 (fun q hq => by simp only [List.mem_singleton] at hq; subst hq; exact fr_b22_1) ht)) (by first | omega | exact idx_u8' _ | (simp only [Int.toNat_natCast]; omega) | (simp only [List.length_map, List.length_drop, List.length_take, List.length_append, List.length_replicate]; omega) | (simp <;> omega)))) (by first | omega | (simp only [List.length_append, List.flatten_cons, List.flatten_nil, List.append_nil, padL_len, sha256L_len, macL_len, List.length_nil, List.length_cons, Int.toNat_natCast]; omega) | (simp <;> omega)) (by first | omega | (simp only [List.length_append, List.flatten_cons, List.flatten_nil, List.append_nil, padL_len, sha256L_len, macL_len, List.length_nil, List.length_cons, Int.toNat_natCast]; omega) | (simp <;> omega)))) rfl ?_
    rintro _ w4 ⟨s36_4, rfl, cX2, os36_4, x1⟩
    have ap_b22_1_s36_4 : Ap (some b22_1) s36_4.ownBlock := Ap.mk (Cel.live cb22_1) (Ow.fr os36_4)
    have ap_b27_2_s36_4 : Ap (some b27_2) s36_4.ownBlock := Ap.mk (Cel.live cb27_2) (Ow.fr os36_4)
    have ap_s1_s36_4 : Ap s1.ownBlock s36_4.ownBlock := Ap.mk (Ow.live hs1) (Ow.fr os36_4)
    have ap_s27_2_s36_4 : Ap s27_2.ownBlock s36_4.ownBlock := Ap.mk (Ow.live hso2) (Ow.fr os36_4)
    have fr_s36_4 : Fr w.heap.size s36_4.ownBlock := Fr.le (Ow.fr os36_4) e0.size
    replace os36_4 := Ow.base os36_4 e0.size
    have cb27_2 := Cel.tnk cb27_2 x1 (ApL.one (Ap.symm ap_b22_1_b27_2))
    have hs1 := Ow.tnk hs1 x1 (ApL.one (Ap.symm ap_b22_1_s1))
    have hso2 := Ow.tnk hso2 x1 (ApL.one (Ap.symm ap_b22_1_s27_2))
    have e0 := Ext.tnk e0 (fun q hq => by simp only [List.mem_singleton] at hq; subst hq; exact fr_b22_1) x1
    clear x1
    replace cb22_1 := cX2
    clear cX2
    refine J.nil ?_
    refine J.n_block ?_
    refine J.n_then ?_
    refine J.region ?_
    refine J.op (Yd.add rfl rfl (by first | omega | exact idx_u8' _ | (simp only [Int.toNat_natCast]; omega) | (simp only [List.length_map, List.length_drop, List.length_take, List.length_append, List.length_replicate]; omega) | (simp <;> omega))) rfl ?_
    refine J.op (Yd.move rfl) rfl ?_
    refine J.nil ?_
    refine J.n_then ?_
    exact J.round ((k + 1, s36_4)) ⟨rfl, rfl, rfl, rfl, rfl, trivial⟩ (⟨by show k + 1 ≤ ll.length; omega, by show Cel _ _ _ (hseg (padL 54 key ++ (ll.take (k + 1)).flatten) _); rw [flat_take ll k (by omega), ← List.append_assoc]; exact cb22_1, cb27_2, by show Ob _ _ _ _ (restL (padL 54 key ++ (ll.take (k + 1)).flatten)); rw [flat_take ll k (by omega), ← List.append_assoc]; exact os36_4, hso2, fr_s36_4, ap_b22_1_s36_4, ap_b27_2_s36_4, ap_s27_2_s36_4, e0⟩) (by show ll.length - (k + 1) < ll.length - k; omega)
  · skip
    refine J.exit ?_
    refine J.x_then ?_
    refine J.x_then ?_
    refine J.x_block ?_
    refine J.n_then ?_
    refine J.seq ?_
    refine J.region ?_
    refine J.op (Yd.move rfl) rfl ?_
    refine J.op (Yd.move rfl) rfl ?_
    refine J.eff (Ye.call cl49 rfl (HSum_ok cb22_1 (Ow.base hs1 (Nat.zero_le _)) (by first | omega | (simp only [List.length_append, List.flatten_cons, List.flatten_nil, List.append_nil, padL_len, sha256L_len, macL_len, List.length_nil, List.length_cons, Int.toNat_natCast]; omega) | (simp <;> omega)))) rfl ?_
    rintro s40_5 w5 ⟨os40_5, x1⟩
    have ap_b22_1_s40_5 : Ap (some b22_1) s40_5.ownBlock := Ap.mk (Cel.live cb22_1) (Ow.fr os40_5)
    have ap_b27_2_s40_5 : Ap (some b27_2) s40_5.ownBlock := Ap.mk (Cel.live cb27_2) (Ow.fr os40_5)
    have ap_s1_s40_5 : Ap s1.ownBlock s40_5.ownBlock := Ap.mk (Ow.live hs1) (Ow.fr os40_5)
    have ap_s27_2_s40_5 : Ap s27_2.ownBlock s40_5.ownBlock := Ap.mk (Ow.live hso2) (Ow.fr os40_5)
    have fr_s40_5 : Fr w.heap.size s40_5.ownBlock := Fr.le (Ow.fr os40_5) e0.size
    replace os40_5 := Ow.base os40_5 e0.size
    have e0 := e0.trans x1
    have cb22_1 := cb22_1.ext x1
    have cb27_2 := cb27_2.ext x1
    have hs1 := hs1.ext x1
    have hso2 := hso2.ext x1
    clear x1
    refine J.eff (Ye.call cl37 rfl (Add_ok cb27_2 (Ow.base hso2 (Nat.zero_le _)) ap_b27_2_s27_2 (fun w' ht => Rd.tnk (Ow.rd os40_5) ht (ApL.one (Ap.symm ap_b27_2_s40_5))) (by first | omega | (simp only [List.length_append, List.flatten_cons, List.flatten_nil, List.append_nil, padL_len, sha256L_len, macL_len, List.length_nil, List.length_cons, Int.toNat_natCast]; omega) | (simp <;> omega)) (by first | omega | (simp only [List.length_append, List.flatten_cons, List.flatten_nil, List.append_nil, padL_len, sha256L_len, macL_len, List.length_nil, List.length_cons, Int.toNat_natCast]; omega) | (simp <;> omega)))) rfl ?_
    rintro _ w6 ⟨s41_6, rfl, cX2, os41_6, x1⟩
    have ap_b22_1_s41_6 : Ap (some b22_1) s41_6.ownBlock := Ap.mk (Cel.live cb22_1) (Ow.fr os41_6)
    have ap_b27_2_s41_6 : Ap (some b27_2) s41_6.ownBlock := Ap.mk (Cel.live cb27_2) (Ow.fr os41_6)
    have ap_s1_s41_6 : Ap s1.ownBlock s41_6.ownBlock := Ap.mk (Ow.live hs1) (Ow.fr os41_6)
    have ap_s27_2_s41_6 : Ap s27_2.ownBlock s41_6.ownBlock := Ap.mk (Ow.live hso2) (Ow.fr os41_6)
    have ap_s40_5_s41_6 : Ap s40_5.ownBlock s41_6.ownBlock := Ap.mk (Ow.live os40_5) (Ow.fr os41_6)
    have fr_s41_6 : Fr w.heap.size s41_6.ownBlock := Fr.le (Ow.fr os41_6) e0.size
    replace os41_6 := Ow.base os41_6 e0.size
    have cb22_1 := Cel.tnk cb22_1 x1 (ApL.one ap_b22_1_b27_2)
    have hs1 := Ow.tnk hs1 x1 (ApL.one (Ap.symm ap_b27_2_s1))
    have hso2 := Ow.tnk hso2 x1 (ApL.one (Ap.symm ap_b27_2_s27_2))
    have os40_5 := Ow.tnk os40_5 x1 (ApL.one (Ap.symm ap_b27_2_s40_5))
    have e0 := Ext.tnk e0 (fun q hq => by simp only [List.mem_singleton] at hq; subst hq; exact fr_b27_2) x1
    clear x1
    replace cb27_2 := cX2
    clear cX2
    refine J.nil ?_
    refine J.n_then ?_
    refine J.seq ?_
    refine J.region ?_
    refine J.op (Yd.move rfl) rfl ?_
    refine J.eff (Ye.call cl49 rfl (HSum_ok cb27_2 (Ow.base os41_6 (Nat.zero_le _)) (by first | omega | (simp only [List.length_append, List.flatten_cons, List.flatten_nil, List.append_nil, padL_len, sha256L_len, macL_len, List.length_nil, List.length_cons, Int.toNat_natCast]; omega) | (simp <;> omega)))) rfl ?_
    rintro s43_7 w7 ⟨os43_7, x1⟩
    have ap_b22_1_s43_7 : Ap (some b22_1) s43_7.ownBlock := Ap.mk (Cel.live cb22_1) (Ow.fr os43_7)
    have ap_b27_2_s43_7 : Ap (some b27_2) s43_7.ownBlock := Ap.mk (Cel.live cb27_2) (Ow.fr os43_7)
    have ap_s1_s43_7 : Ap s1.ownBlock s43_7.ownBlock := Ap.mk (Ow.live hs1) (Ow.fr os43_7)
    have ap_s27_2_s43_7 : Ap s27_2.ownBlock s43_7.ownBlock := Ap.mk (Ow.live hso2) (Ow.fr os43_7)
    have ap_s40_5_s43_7 : Ap s40_5.ownBlock s43_7.ownBlock := Ap.mk (Ow.live os40_5) (Ow.fr os43_7)
    have ap_s41_6_s43_7 : Ap s41_6.ownBlock s43_7.ownBlock := Ap.mk (Ow.live os41_6) (Ow.fr os43_7)
    have fr_s43_7 : Fr w.heap.size s43_7.ownBlock := Fr.le (Ow.fr os43_7) e0.size
    replace os43_7 := Ow.base os43_7 e0.size
    have e0 := e0.trans x1
    have cb22_1 := cb22_1.ext x1
    have cb27_2 := cb27_2.ext x1
    have hs1 := hs1.ext x1
    have hso2 := hso2.ext x1
    have os40_5 := os40_5.ext x1
    have os41_6 := os41_6.ext x1
    clear x1
    refine J.op (Yd.assign rfl) rfl ?_
    refine J.nil ?_
    refine J.n_then ?_
    refine J.ret ?_
    exact J.ret1 rfl rfl (⟨_, rfl, by have h9 := os43_7; rw [List.take_of_length_le (by omega)] at h9; exact h9, e0⟩)

theorem KMacNil_ok {v : Value} {w : World} : C Try.prog 40 [.pointer none, v] w (Ret fun v w' => v = nilS ∧ Ext w w') := by
  have e0 := Ext.refl w
  refine C.enter Try.func40 rfl Try.ntmps40 rfl ?_
  refine J.seq ?_
  refine J.region ?_
  refine J.op (Yd.assign rfl) rfl ?_
  refine J.nil ?_
  refine J.n_then ?_
  refine J.seq ?_
  refine J.seq ?_
  refine J.region ?_
  refine J.op (Yd.move rfl) rfl ?_
  refine J.op (Yd.cast (Yd.eqPn Try.underlying43 rfl rfl) (show _ = Value.bool true from rfl)) rfl ?_
  refine J.nil ?_
  refine J.n_then ?_
  refine J.cond_true rfl ?_
  refine J.seq ?_
  refine J.region ?_
  refine J.op (Yd.assign rfl) rfl ?_
  refine J.nil ?_
  refine J.n_then ?_
  refine J.ret ?_
  refine J.r_then ?_
  exact J.ret1 rfl rfl (⟨_, rfl, rfl, e0⟩)

theorem Mac_ok {a sl : Value} {vs : List Value} {ll : List (List UInt8)} {key : List UInt8} {w : World} (ha : Bs w a key) (hl : Rl w sl vs ll) (hkl : key.length ≤ 1000000) (ht : ll.flatten.length ≤ 100000000) : C Try.prog 48 [a, sl] w (Ret fun v w' => Ob w.heap.size 5 w' v (macL key ll.flatten) ∧ Ext w w') := by
  have e0 := Ext.refl w
  refine C.enter Try.func48 rfl Try.ntmps48 rfl ?_
  refine J.seq ?_
  refine J.region ?_
  refine J.op (Yd.assign rfl) rfl ?_
  refine J.nil ?_
  refine J.n_then ?_
  refine J.seq ?_
  refine J.region ?_
  refine J.op (Yd.move rfl) rfl ?_
  refine J.eff (Ye.call cl23 rfl (NewKey_ok ha (by first | omega | (simp only [List.length_append, List.flatten_cons, List.flatten_nil, List.append_nil, padL_len, sha256L_len, macL_len, List.length_nil, List.length_cons, Int.toNat_natCast]; omega) | (simp <;> omega)))) rfl ?_
  rintro _ w1 ⟨b6_1, rfl, kb6_1, x1⟩
  have e0 := e0.trans x1
  clear x1
  refine J.op (Yd.move rfl) rfl ?_
  refine J.eff (Ye.call cl40 rfl (KMac_ok kb6_1 (Rl.ext hl e0) (by first | omega | (simp only [List.length_append, List.flatten_cons, List.flatten_nil, List.append_nil, padL_len, sha256L_len, macL_len, List.length_nil, List.length_cons, Int.toNat_natCast]; omega) | (simp <;> omega)))) rfl ?_
  rintro s8_2 w2 ⟨os8_2, x1⟩
  have fr_s8_2 : Fr w.heap.size s8_2.ownBlock := Fr.le (Ow.fr os8_2) e0.size
  replace os8_2 := Ow.base os8_2 e0.size
  have e0 := e0.trans x1
  have kb6_1 := kb6_1.ext x1
  clear x1
  refine J.op (Yd.assign rfl) rfl ?_
  refine J.nil ?_
  refine J.n_then ?_
  refine J.ret ?_
  exact J.ret1 rfl rfl (⟨_, rfl, os8_2, e0⟩)

theorem Extract_ok {a v : Value} {key l : List UInt8} {w : World} (ha : Bs w a key) (hb : Bs w v l) (hkl : key.length ≤ 1000000) (ht : l.length ≤ 1000000) : C Try.prog 35 [a, v] w (Ret fun v w' => Ob w.heap.size 5 w' v (macL key l) ∧ Ext w w') := by
  have e0 := Ext.refl w
  refine C.enter Try.func35 rfl Try.ntmps35 rfl ?_
  refine J.seq ?_
  refine J.region ?_
  refine J.op (Yd.assign rfl) rfl ?_
  refine J.nil ?_
  refine J.n_then ?_
  refine J.seq ?_
  refine J.region ?_
  refine J.op (Yd.move rfl) rfl ?_
  refine J.op (Yd.move rfl) rfl ?_
  refine J.eff (Ye.litS1 Try.underlying57 ti22 rfl rfl hb) rfl ?_
  rintro s7_1 w1 ⟨o7_1, x1⟩
  have e0 := e0.trans x1
  clear x1
  refine J.eff (Ye.call cl48 rfl (Mac_ok (Rd.ext ha e0) o7_1 (by first | omega | (simp only [List.length_append, List.flatten_cons, List.flatten_nil, List.append_nil, padL_len, sha256L_len, macL_len, List.length_nil, List.length_cons, Int.toNat_natCast]; omega) | (simp <;> omega)) (by first | omega | (simp only [List.length_append, List.flatten_cons, List.flatten_nil, List.append_nil, padL_len, sha256L_len, macL_len, List.length_nil, List.length_cons, Int.toNat_natCast]; omega) | (simp <;> omega)))) rfl ?_
  rintro s8_2 w2 ⟨os8_2, x1⟩
  have fr_s8_2 : Fr w.heap.size s8_2.ownBlock := Fr.le (Ow.fr os8_2) e0.size
  replace os8_2 := Ow.base os8_2 e0.size
  have e0 := e0.trans x1
  have o7_1 := o7_1.ext x1
  clear x1
  refine J.op (Yd.assign rfl) rfl ?_
  refine J.nil ?_
  refine J.n_then ?_
  refine J.ret ?_
  exact J.ret1 rfl rfl (⟨_, rfl, by have h9 := os8_2; rw [show ([l] : List (List UInt8)).flatten = l by simp] at h9; exact h9, e0⟩)
end Ytpkpicnldpbomaa
end Go.Proofs
