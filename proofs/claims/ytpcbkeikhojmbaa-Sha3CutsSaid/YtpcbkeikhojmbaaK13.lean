import Derived.Test.YtpcbkeikhojmbaaT
import Derived.Test.YtpcbkeikhojmbaaX22
import Derived.Test.YtpcbkeikhojmbaaK8
set_option linter.unusedVariables false
set_option linter.unusedSimpArgs false
set_option maxRecDepth 100000
set_option maxHeartbeats 4000000
namespace Go.Proofs
open Go.X Go.RowKit
namespace Ytpcbkeikhojmbaa
theorem Sha3Cuts_ok {a : Value} {l : List UInt8} {n m : Int} {w : World} (ha : Bs w a l) : C Try.prog 7 [a, I n, I m] w (Ret fun v w' => v = .bool true ∧ Ext w w') := by
  have e0 := Ext.refl w
  refine C.enter Try.func7 rfl Try.ntmps7 rfl ?_
  refine J.seq ?_
  refine J.region ?_
  refine J.op (Yd.assign rfl) rfl ?_
  refine J.nil ?_
  refine J.n_then ?_
  refine J.seq ?_
  refine J.seq ?_
  refine J.region ?_
  refine J.op (Yd.move rfl) rfl ?_
  refine J.op (Yd.len_b Try.underlying31 rfl ha) rfl ?_
  refine J.op (Yd.gtr rfl rfl) rfl ?_
  refine J.op (Yd.move rfl) rfl ?_
  refine J.split_dec (t := 13) rfl (fun h1 => ?_) (fun h1 => ?_)
  · skip
    refine J.not_g rfl rfl rfl rfl rfl ?_
    refine J.not_g rfl rfl rfl rfl rfl ?_
    refine J.op (Yd.pick_t rfl rfl) rfl ?_
    refine J.op (Yd.move rfl) rfl ?_
    refine J.not_g rfl rfl rfl rfl rfl ?_
    refine J.not_g rfl rfl rfl rfl rfl ?_
    refine J.op (Yd.pick_t rfl rfl) rfl ?_
    refine J.nil ?_
    refine J.n_then ?_
    refine J.cond_true rfl ?_
    refine J.seq ?_
    refine J.region ?_
    refine J.eff (Ye.call cl11 rfl (awake_ok)) rfl ?_
    rintro _ w1 ⟨rfl, x1⟩
    have e0 := e0.trans x1
    clear x1
    refine J.op (Yd.assign rfl) rfl ?_
    refine J.nil ?_
    refine J.n_then ?_
    refine J.ret ?_
    refine J.r_then ?_
    exact J.ret1 rfl rfl (⟨_, rfl, rfl, e0⟩)
  · skip
    refine J.op_g rfl rfl rfl (Yd.move rfl) rfl ?_
    refine J.op_g rfl rfl rfl (Yd.lss rfl rfl) rfl ?_
    refine J.op (Yd.pick_f rfl rfl) rfl ?_
    refine J.op (Yd.move rfl) rfl ?_
    refine J.split_dec (t := 17) rfl (fun h2 => ?_) (fun h2 => ?_)
    · skip
      refine J.not_g rfl rfl rfl rfl rfl ?_
      refine J.not_g rfl rfl rfl rfl rfl ?_
      refine J.op (Yd.pick_t rfl rfl) rfl ?_
      refine J.nil ?_
      refine J.n_then ?_
      refine J.cond_true rfl ?_
      refine J.seq ?_
      refine J.region ?_
      refine J.eff (Ye.call cl11 rfl (awake_ok)) rfl ?_
      rintro _ w2 ⟨rfl, x1⟩
      have e0 := e0.trans x1
      clear x1
      refine J.op (Yd.assign rfl) rfl ?_
      refine J.nil ?_
      refine J.n_then ?_
      refine J.ret ?_
      refine J.r_then ?_
      exact J.ret1 rfl rfl (⟨_, rfl, rfl, e0⟩)
    · skip
      refine J.op_g rfl rfl rfl (Yd.move rfl) rfl ?_
      refine J.op_g rfl rfl rfl (Yd.gtr rfl rfl) rfl ?_
      refine J.op (Yd.pick_f rfl rfl) rfl ?_
      refine J.nil ?_
      refine J.n_then ?_
      refine J.cond_dec rfl (fun hc0 => ?_) (fun hc0 => ?_)
      · skip
        refine J.seq ?_
        refine J.region ?_
        refine J.eff (Ye.call cl11 rfl (awake_ok)) rfl ?_
        rintro _ w3 ⟨rfl, x1⟩
        have e0 := e0.trans x1
        clear x1
        refine J.op (Yd.assign rfl) rfl ?_
        refine J.nil ?_
        refine J.n_then ?_
        refine J.ret ?_
        refine J.r_then ?_
        exact J.ret1 rfl rfl (⟨_, rfl, rfl, e0⟩)
      · skip
        refine J.skip ?_
        refine J.n_then ?_
        refine J.seq ?_
        refine J.region ?_
        refine J.op (Yd.move rfl) rfl ?_
        refine J.op (Yd.move rfl) rfl ?_
        refine J.op (Yd.len_b Try.underlying31 rfl ha) rfl ?_
        refine J.op (Yd.add rfl rfl (by first | omega | (simp only [Int.toNat_natCast]; omega) | (simp only [List.length_map, List.length_drop, List.length_take, List.length_append, List.length_replicate, sqL_len, sqF_len]; omega) | (simp only [List.flatten_cons, List.flatten_nil, List.append_nil]; omega))) rfl ?_
        refine J.eff (Ye.call cl8 rfl (Round_ok (by omega) (by omega))) rfl ?_
        rintro _ w4 ⟨rfl, x1⟩
        have e0 := e0.trans x1
        clear x1
        refine J.op (Yd.assign rfl) rfl ?_
        refine J.nil ?_
        refine J.n_then ?_
        refine J.seq ?_
        refine J.region ?_
        have hm0 := Int.emod_nonneg n (show ((l.length : Int) + 1) ≠ 0 by omega)
        have hm1 := Int.emod_lt_of_pos n (show 0 < ((l.length : Int) + 1) by omega)
        obtain ⟨p, hp⟩ := Int.eq_ofNat_of_zero_le hm0
        rw [hp]
        have hpl : p ≤ l.length := by omega
        have hlm : (List.map (fun x : UInt8 => B x) l).length = l.length := List.length_map ..
        have hf2 : ([(List.drop 0 (List.take (p : Int).toNat l)), (List.drop (p : Int).toNat (List.take (List.map (fun x : UInt8 => B x) l).length l))] : List (List UInt8)).flatten = l := cut2_law hpl hlm
        have hf3 : ([(List.drop 0 (List.take (p : Int).toNat l)), [], (List.drop (p : Int).toNat (List.take (List.map (fun x : UInt8 => B x) l).length l))] : List (List UInt8)).flatten = l := cut3_law hpl hlm
        have hf1 : ([l] : List (List UInt8)).flatten = l := by simp
        have hf0 : ([[], l] : List (List UInt8)).flatten = l := by simp
        clear hm0 hm1 hp
        refine J.op (Yd.move rfl) rfl ?_
        refine J.eff (Ye.litS1 Try.underlying29 ti31 rfl rfl (Rd.ext ha e0)) rfl ?_
        rintro s28_5 w5 ⟨o28_5, x1⟩
        have e0 := e0.trans x1
        clear x1
        refine J.eff (Ye.call cl14 rfl (Sum256_ok o28_5 (by first | omega | (rw [hf2]; omega) | (rw [hf3]; omega) | (rw [hf1]; omega) | (rw [hf0]; omega) | (simp only [List.flatten_cons, List.flatten_nil, List.append_nil]; omega)))) rfl ?_
        rintro s29_6 w6 ⟨os29_6, x1⟩
        have fr_s29_6 : Fr w.heap.size s29_6.ownBlock := Fr.le (Ow.fr os29_6) e0.size
        replace os29_6 := Ow.base os29_6 e0.size
        have e0 := e0.trans x1
        have o28_5 := o28_5.ext x1
        clear x1
        refine J.op (Yd.assign rfl) rfl ?_
        refine J.nil ?_
        refine J.n_then ?_
        refine J.seq ?_
        refine J.regionA [(0, true), (1, true), (3, true), (4, true)] [(2, Asr.v 32 (slc a 0 (p : Int).toNat)), (5, Asr.v 35 (slc a (p : Int).toNat (List.map (fun x : UInt8 => B x) l).length))] [2, 5] [32, 35] [[], []] [(6, false), (7, false), (8, true)] rfl rfl mix (by kernel_rfl) ?_
        refine J.s_op rfl (fun _ => Yd.move rfl) rfl ?_
        refine J.s_op rfl (fun _ => Yd.move rfl) rfl ?_
        refine J.s_op rfl (fun _ => Yd.move rfl) rfl ?_
        refine J.s_op rfl (fun _ => Yd.move rfl) rfl ?_
        refine J.s_nil ?_
        refine J.a_in [0, 1] rfl (by rfl) ⟨?_, ?_, trivial⟩ ?_
        · skip
          intro w7 x1
          have xs1 := x1.size
          have e0 := e0.trans x1
          have o28_5 := o28_5.ext x1
          have os29_6 := os29_6.ext x1
          clear x1
          refine PremP.nil ?_
          exact OpYe.val rfl (Yd.slcH Try.underlying31 ti5 rfl (Rd.ext ha e0) rfl (by first | omega | (simp only [Int.toNat_natCast]; omega) | (simp only [List.length_map, List.length_drop, List.length_take, List.length_append, List.length_replicate, sqL_len, sqF_len]; omega) | (simp only [List.flatten_cons, List.flatten_nil, List.append_nil]; omega)))
        · skip
          intro w8 x1
          have xs1 := x1.size
          have e0 := e0.trans x1
          have o28_5 := o28_5.ext x1
          have os29_6 := os29_6.ext x1
          clear x1
          refine PremP.nil ?_
          exact OpYe.val rfl (Yd.slcL Try.underlying31 ti5 rfl (Rd.ext ha e0) rfl (by first | omega | (simp only [Int.toNat_natCast]; omega) | (simp only [List.length_map, List.length_drop, List.length_take, List.length_append, List.length_replicate, sqL_len, sqF_len]; omega) | (simp only [List.flatten_cons, List.flatten_nil, List.append_nil]; omega)))
        intro w9 x1
        refine PremP.v rfl ?_
        refine PremP.v rfl ?_
        have xs1 := x1.size
        have e0 := e0.trans x1
        have o28_5 := o28_5.ext x1
        have os29_6 := os29_6.ext x1
        clear x1
        refine PremP.nil ?_
        refine J.s_eff rfl (Ye.litS3 Try.underlying29 ti31 rfl rfl rfl rfl (Bs.slc (Rd.ext ha e0) (by first | omega | (simp only [List.length_map]; omega) | exact Nat.zero_le _) (by first | omega | (simp only [List.length_map]; omega) | exact Nat.zero_le _)) (Rd.nilM (fun x : UInt8 => B x) _) (Bs.slc (Rd.ext ha e0) (by first | omega | (simp only [List.length_map]; omega) | exact Nat.zero_le _) (by first | omega | (simp only [List.length_map]; omega) | exact Nat.zero_le _))) rfl ?_
        rintro s36_10 w10 ⟨o36_10, x1⟩
        have e0 := e0.trans x1
        have o28_5 := o28_5.ext x1
        have os29_6 := os29_6.ext x1
        clear x1
        refine J.s_eff rfl (Ye.call cl20 rfl (NewReader_ok o36_10 (by first | omega | (rw [hf2]; omega) | (rw [hf3]; omega) | (rw [hf1]; omega) | (rw [hf0]; omega) | (simp only [List.flatten_cons, List.flatten_nil, List.append_nil]; omega)))) rfl ?_
        rintro _ w11 ⟨b37_11, p37_11, rfl, hb_b37_11, hb_p37_11, ap_p37_11_b37_11, cb37_11, cp37_11, x1⟩
        have ap_s29_6_b37_11 : Ap s29_6.ownBlock (some b37_11) := Ap.mk (Ow.live os29_6) (Fr.blk hb_b37_11)
        have fr_b37_11 : Fr w.heap.size (some b37_11) := Fr.le (Fr.blk hb_b37_11) e0.size
        have ap_s29_6_p37_11 : Ap s29_6.ownBlock (some p37_11) := Ap.mk (Ow.live os29_6) (Fr.blk hb_p37_11)
        have fr_p37_11 : Fr w.heap.size (some p37_11) := Fr.le (Fr.blk hb_p37_11) e0.size
        have e0 := e0.trans x1
        have o28_5 := o28_5.ext x1
        have os29_6 := os29_6.ext x1
        have o36_10 := o36_10.ext x1
        clear x1
        refine J.s_op rfl (fun _ => Yd.assign rfl) rfl ?_
        refine J.s_nil ?_
        refine J.n_np ?_
        refine J.n_then ?_
        refine J.seq ?_
        refine J.seq ?_
        refine J.region ?_
        refine J.op (Yd.move rfl) rfl ?_
        refine J.op (Yd.cast (Yd.eqPn Try.underlying39 rfl rfl) (show _ = Value.bool false from rfl)) rfl ?_
        refine J.nil ?_
        refine J.n_then ?_
        refine J.cond_false rfl ?_
        refine J.skip ?_
        refine J.n_then ?_
        refine J.seq ?_
        refine J.regionR mix (by kernel_rfl) (n := 80) rfl ?_
        refine J.rg_seq (m := 71) [(0, true), (1, false), (2, true), (3, true), (4, true), (5, true), (7, true), (8, true), (13, true)] rfl (by kernel_rfl) ?_
        refine J.s_op rfl (fun _ => Yd.move rfl) rfl ?_
        refine J.s_one rfl (Yd.len_b Try.underlying31 rfl (Ow.rd os29_6)) rfl ?_
        refine J.s_op rfl (fun _ => Yd.eql rfl rfl) rfl ?_
        refine J.s_op rfl (fun _ => Yd.move rfl) rfl ?_
        refine J.know (t := 43) (v' := .bool true) rfl (tt (by rw [sqL_len]; rfl)) ?_
        refine J.s_op_g rfl rfl rfl rfl (fun _ => Yd.move rfl) rfl ?_
        refine J.s_op_g rfl rfl rfl rfl (fun _ => Yd.move rfl) rfl ?_
        refine J.s_op_g rfl rfl rfl rfl (fun _ => Yd.move rfl) rfl ?_
        refine J.s_op_g rfl rfl rfl rfl (fun _ => Yd.move rfl) rfl ?_
        refine J.s_op_g rfl rfl rfl rfl (fun _ => Yd.move rfl) rfl ?_
        refine J.s_nil ?_
        have lolAT : LoL w11.heap.size [] := LoL.nil
        refine J.rg_blk (m := 65) [(6, AsrT.v [] 46 (slc a 0 (p : Int).toNat)), (9, AsrT.v [] 49 (slc a (p : Int).toNat (List.map (fun x : UInt8 => B x) l).length)), (10, AsrT.own [] 50 w11.heap.size 31 [slc a 0 (p : Int).toNat, slc a (p : Int).toNat (List.map (fun x : UInt8 => B x) l).length]), (11, AsrT.own [] 51 w11.heap.size 5 (((sqL (soakK 136 6 ([(List.drop 0 (List.take (p : Int).toNat l)), (List.drop (p : Int).toNat (List.take (List.map (fun x : UInt8 => B x) l).length l))] : List (List UInt8)).flatten) 136 32)).map fun x => B x)), (12, AsrT.v [] 52 (Str (sqL (soakK 136 6 ([(List.drop 0 (List.take (p : Int).toNat l)), (List.drop (p : Int).toNat (List.take (List.map (fun x : UInt8 => B x) l).length l))] : List (List UInt8)).flatten) 136 32))), (14, AsrT.v [] 54 (Str (sqL (soakK 136 6 ([l] : List (List UInt8)).flatten) 136 32)))] [6, 9, 10, 11, 12, 14] [46, 49, 50, 51, 52, 54] [[], [], [0, 1], [0, 1, 2], [0, 1, 2, 3], []] [[], [], [], [], [], []] [] [] rfl rfl rfl rfl ⟨(fun p hp => by cases hp), (fun p hp => by cases hp), (fun p hp => by cases hp), (fun p hp => by cases hp), (fun p hp => by cases hp), (fun p hp => by cases hp), trivial⟩ (by kernel_rfl) ?_
        refine J.at_in [0, 1, 2, 3, 4, 5] rfl (by rfl) ⟨?_, ?_, ?_, ?_, ?_, ?_, trivial⟩ ?_
        · skip
          intro w12 x1
          have x1 : Tn [] w11 w12 := x1
          have xs1 := x1.size
          have x1 := Tn.nil x1
          have e0 := e0.trans x1
          have o28_5 := o28_5.ext x1
          have os29_6 := os29_6.ext x1
          have o36_10 := o36_10.ext x1
          have cb37_11 := cb37_11.ext x1
          have cp37_11 := cp37_11.ext x1
          clear x1
          refine PremT.nil ?_
          exact OpYeT.valg rfl rfl rfl rfl (Yd.slcH Try.underlying31 ti5 rfl (Rd.ext ha e0) rfl (by first | omega | (simp only [Int.toNat_natCast]; omega) | (simp only [List.length_map, List.length_drop, List.length_take, List.length_append, List.length_replicate, sqL_len, sqF_len]; omega) | (simp only [List.flatten_cons, List.flatten_nil, List.append_nil]; omega)))
        · skip
          intro w13 x1
          have x1 : Tn [] w11 w13 := x1
          have xs1 := x1.size
          have x1 := Tn.nil x1
          have e0 := e0.trans x1
          have o28_5 := o28_5.ext x1
          have os29_6 := os29_6.ext x1
          have o36_10 := o36_10.ext x1
          have cb37_11 := cb37_11.ext x1
          have cp37_11 := cp37_11.ext x1
          clear x1
          refine PremT.nil ?_
          exact OpYeT.valg rfl rfl rfl rfl (Yd.slcL Try.underlying31 ti5 rfl (Rd.ext ha e0) rfl (by first | omega | (simp only [Int.toNat_natCast]; omega) | (simp only [List.length_map, List.length_drop, List.length_take, List.length_append, List.length_replicate, sqL_len, sqF_len]; omega) | (simp only [List.flatten_cons, List.flatten_nil, List.append_nil]; omega)))
        · skip
          intro w14 x1
          refine PremT.v rfl ?_
          refine PremT.v rfl ?_
          have x1 : Tn [] w11 w14 := x1
          have xs1 := x1.size
          have x1 := Tn.nil x1
          have e0 := e0.trans x1
          have o28_5 := o28_5.ext x1
          have os29_6 := os29_6.ext x1
          have o36_10 := o36_10.ext x1
          have cb37_11 := cb37_11.ext x1
          have cp37_11 := cp37_11.ext x1
          clear x1
          refine PremT.nil ?_
          exact OpYeT.mkg rfl rfl rfl rfl ((Ye.lit (base := w11.heap.size) (vs := [slc a 0 (p : Int).toNat, slc a (p : Int).toNat (List.map (fun x : UInt8 => B x) l).length]) Try.underlying29 ti31 rfl rfl rfl rfl (by intro v_ hv_; simp only [List.mem_cons, List.mem_nil_iff, or_false] at hv_; rcases hv_ with rfl | rfl; exact Rd.cells (Bs.slc (Rd.ext ha e0) (by first | omega | (simp only [List.length_map]; omega) | exact Nat.zero_le _) (by first | omega | (simp only [List.length_map]; omega) | exact Nat.zero_le _)); exact Rd.cells (Bs.slc (Rd.ext ha e0) (by first | omega | (simp only [List.length_map]; omega) | exact Nat.zero_le _) (by first | omega | (simp only [List.length_map]; omega) | exact Nat.zero_le _))) rfl xs1).mono fun v w2 h => ⟨⟨v, rfl, own_cl h.1 LoL.nil⟩, Ext.tn h.2 _⟩)
        · skip
          intro w15 x1
          refine PremT.v rfl ?_
          refine PremT.v rfl ?_
          refine PremT.a rfl fun s50_15 o50_15 => ?_
          have o50_15 := o50_15 _ (Tn.refl _ _)
          have ap_s29_6_s50_15 : Ap s29_6.ownBlock s50_15.ownBlock := Ap.mk (Ow.live os29_6) (Ow.fr o50_15)
          have ap_b37_11_s50_15 : Ap (some b37_11) s50_15.ownBlock := Ap.mk (Cel.live cb37_11) (Ow.fr o50_15)
          have ap_p37_11_s50_15 : Ap (some p37_11) s50_15.ownBlock := Ap.mk (Cel.live cp37_11) (Ow.fr o50_15)
          have fr_s50_15 : Fr w.heap.size s50_15.ownBlock := Fr.le (Ow.fr o50_15) e0.size
          have x1 : Tn [] w11 w15 := x1
          have xs1 := x1.size
          have x1 := Tn.nil x1
          have e0 := e0.trans x1
          have o28_5 := o28_5.ext x1
          have os29_6 := os29_6.ext x1
          have o36_10 := o36_10.ext x1
          have cb37_11 := cb37_11.ext x1
          have cp37_11 := cp37_11.ext x1
          have ro50_15 := Rl.two (Ow.rd o50_15) (Bs.slc (Rd.ext ha e0) (by first | omega | (simp only [List.length_map]; omega) | exact Nat.zero_le _) (by first | omega | (simp only [List.length_map]; omega) | exact Nat.zero_le _)) (Bs.slc (Rd.ext ha e0) (by first | omega | (simp only [List.length_map]; omega) | exact Nat.zero_le _) (by first | omega | (simp only [List.length_map]; omega) | exact Nat.zero_le _))
          clear x1
          refine PremT.nil ?_
          exact OpYeT.mkg rfl rfl rfl rfl ((Ye.call cl14 rfl (Sum256_ok ro50_15 (by first | omega | (rw [hf2]; omega) | (rw [hf3]; omega) | (rw [hf1]; omega) | (rw [hf0]; omega) | (simp only [List.flatten_cons, List.flatten_nil, List.append_nil]; omega)))).mono fun v w2 h => ⟨⟨v, rfl, own_cl (Ow.base h.1 xs1) LoL.nil⟩, Ext.tn h.2 _⟩)
        · skip
          intro w16 x1
          refine PremT.v rfl ?_
          refine PremT.v rfl ?_
          refine PremT.a rfl fun s50_16 o50_16 => ?_
          have o50_16 := o50_16 _ (Tn.refl _ _)
          have ap_s29_6_s50_16 : Ap s29_6.ownBlock s50_16.ownBlock := Ap.mk (Ow.live os29_6) (Ow.fr o50_16)
          have ap_b37_11_s50_16 : Ap (some b37_11) s50_16.ownBlock := Ap.mk (Cel.live cb37_11) (Ow.fr o50_16)
          have ap_p37_11_s50_16 : Ap (some p37_11) s50_16.ownBlock := Ap.mk (Cel.live cp37_11) (Ow.fr o50_16)
          have fr_s50_16 : Fr w.heap.size s50_16.ownBlock := Fr.le (Ow.fr o50_16) e0.size
          refine PremT.a rfl fun s51_16 o51_16 => ?_
          have o51_16 := o51_16 _ (Tn.refl _ _)
          have ap_s29_6_s51_16 : Ap s29_6.ownBlock s51_16.ownBlock := Ap.mk (Ow.live os29_6) (Ow.fr o51_16)
          have ap_b37_11_s51_16 : Ap (some b37_11) s51_16.ownBlock := Ap.mk (Cel.live cb37_11) (Ow.fr o51_16)
          have ap_p37_11_s51_16 : Ap (some p37_11) s51_16.ownBlock := Ap.mk (Cel.live cp37_11) (Ow.fr o51_16)
          have fr_s51_16 : Fr w.heap.size s51_16.ownBlock := Fr.le (Ow.fr o51_16) e0.size
          replace o51_16 := Ow.base o51_16 e0.size
          have x1 : Tn [] w11 w16 := x1
          have xs1 := x1.size
          have x1 := Tn.nil x1
          have e0 := e0.trans x1
          have o28_5 := o28_5.ext x1
          have os29_6 := os29_6.ext x1
          have o36_10 := o36_10.ext x1
          have cb37_11 := cb37_11.ext x1
          have cp37_11 := cp37_11.ext x1
          have ro50_16 := Rl.two (Ow.rd o50_16) (Bs.slc (Rd.ext ha e0) (by first | omega | (simp only [List.length_map]; omega) | exact Nat.zero_le _) (by first | omega | (simp only [List.length_map]; omega) | exact Nat.zero_le _)) (Bs.slc (Rd.ext ha e0) (by first | omega | (simp only [List.length_map]; omega) | exact Nat.zero_le _) (by first | omega | (simp only [List.length_map]; omega) | exact Nat.zero_le _))
          clear x1
          refine PremT.nil ?_
          exact OpYeT.valg rfl rfl rfl rfl (Yd.bstr Try.underlying31 Try.underlying5 Try.underlying9 rfl (Ow.rd o51_16))
        · skip
          intro w17 x1
          have x1 : Tn [] w11 w17 := x1
          have xs1 := x1.size
          have x1 := Tn.nil x1
          have e0 := e0.trans x1
          have o28_5 := o28_5.ext x1
          have os29_6 := os29_6.ext x1
          have o36_10 := o36_10.ext x1
          have cb37_11 := cb37_11.ext x1
          have cp37_11 := cp37_11.ext x1
          clear x1
          refine PremT.nil ?_
          exact OpYeT.valg rfl rfl rfl rfl (Yd.bstr Try.underlying31 Try.underlying5 Try.underlying9 rfl (Ow.rd os29_6))
        intro w18 x1
        refine PremT.v rfl ?_
        refine PremT.v rfl ?_
        refine PremT.a rfl fun s50_18 o50_18 => ?_
        have o50_18 := o50_18 _ (Tn.refl _ _)
        have ap_s29_6_s50_18 : Ap s29_6.ownBlock s50_18.ownBlock := Ap.mk (Ow.live os29_6) (Ow.fr o50_18)
        have ap_b37_11_s50_18 : Ap (some b37_11) s50_18.ownBlock := Ap.mk (Cel.live cb37_11) (Ow.fr o50_18)
        have ap_p37_11_s50_18 : Ap (some p37_11) s50_18.ownBlock := Ap.mk (Cel.live cp37_11) (Ow.fr o50_18)
        have fr_s50_18 : Fr w.heap.size s50_18.ownBlock := Fr.le (Ow.fr o50_18) e0.size
        refine PremT.a rfl fun s51_18 o51_18 => ?_
        have o51_18 := o51_18 _ (Tn.refl _ _)
        have ap_s29_6_s51_18 : Ap s29_6.ownBlock s51_18.ownBlock := Ap.mk (Ow.live os29_6) (Ow.fr o51_18)
        have ap_b37_11_s51_18 : Ap (some b37_11) s51_18.ownBlock := Ap.mk (Cel.live cb37_11) (Ow.fr o51_18)
        have ap_p37_11_s51_18 : Ap (some p37_11) s51_18.ownBlock := Ap.mk (Cel.live cp37_11) (Ow.fr o51_18)
        have fr_s51_18 : Fr w.heap.size s51_18.ownBlock := Fr.le (Ow.fr o51_18) e0.size
        replace o51_18 := Ow.base o51_18 e0.size
        refine PremT.v rfl ?_
        refine PremT.v rfl ?_
        have x1 : Tn [] w11 w18 := x1
        have xs1 := x1.size
        have x1 := Tn.nil x1
        have e0 := e0.trans x1
        have o28_5 := o28_5.ext x1
        have os29_6 := os29_6.ext x1
        have o36_10 := o36_10.ext x1
        have cb37_11 := cb37_11.ext x1
        have cp37_11 := cp37_11.ext x1
        have ro50_18 := Rl.two (Ow.rd o50_18) (Bs.slc (Rd.ext ha e0) (by first | omega | (simp only [List.length_map]; omega) | exact Nat.zero_le _) (by first | omega | (simp only [List.length_map]; omega) | exact Nat.zero_le _)) (Bs.slc (Rd.ext ha e0) (by first | omega | (simp only [List.length_map]; omega) | exact Nat.zero_le _) (by first | omega | (simp only [List.length_map]; omega) | exact Nat.zero_le _))
        clear x1
        refine PremT.nil ?_
        refine J.rg_seq (m := 57) [(15, true), (16, true), (17, true), (18, true), (19, true), (21, true), (22, true), (27, true)] rfl (by kernel_rfl) ?_
        refine J.s_op_g rfl rfl rfl rfl (fun _ => Yd.seq rfl rfl) rfl ?_
        refine J.s_op rfl (fun _ => Yd.pick_t rfl rfl) rfl ?_
        refine J.s_op rfl (fun _ => Yd.move rfl) rfl ?_
        refine J.know (t := 57) (v' := .bool true) rfl (tt (by rw [hf2, hf1])) ?_
        refine J.s_op_g rfl rfl rfl rfl (fun _ => Yd.move rfl) rfl ?_
        refine J.s_op_g rfl rfl rfl rfl (fun _ => Yd.move rfl) rfl ?_
        refine J.s_op_g rfl rfl rfl rfl (fun _ => Yd.move rfl) rfl ?_
        refine J.s_op_g rfl rfl rfl rfl (fun _ => Yd.move rfl) rfl ?_
        refine J.s_op_g rfl rfl rfl rfl (fun _ => Yd.move rfl) rfl ?_
        refine J.s_nil ?_
        have lolAT : LoL w18.heap.size [] := LoL.nil
        refine J.rg_blk (m := 49) [(20, AsrT.v [] 60 (slc a 0 (p : Int).toNat)), (23, AsrT.v [] 63 (slc a (p : Int).toNat (List.map (fun x : UInt8 => B x) l).length)), (24, AsrT.own [] 64 w18.heap.size 31 [slc a 0 (p : Int).toNat, slc a (p : Int).toNat (List.map (fun x : UInt8 => B x) l).length]), (25, AsrT.own [] 65 w18.heap.size 5 (((sqL (soakK 72 6 ([(List.drop 0 (List.take (p : Int).toNat l)), (List.drop (p : Int).toNat (List.take (List.map (fun x : UInt8 => B x) l).length l))] : List (List UInt8)).flatten) 72 64)).map fun x => B x)), (26, AsrT.v [] 66 (Str (sqL (soakK 72 6 ([(List.drop 0 (List.take (p : Int).toNat l)), (List.drop (p : Int).toNat (List.take (List.map (fun x : UInt8 => B x) l).length l))] : List (List UInt8)).flatten) 72 64))), (28, AsrT.own [] 68 w18.heap.size 31 [a]), (29, AsrT.own [] 69 w18.heap.size 5 (((sqL (soakK 72 6 ([l] : List (List UInt8)).flatten) 72 64)).map fun x => B x)), (30, AsrT.v [] 70 (Str (sqL (soakK 72 6 ([l] : List (List UInt8)).flatten) 72 64)))] [20, 23, 24, 25, 26, 28, 29, 30] [60, 63, 64, 65, 66, 68, 69, 70] [[], [], [0, 1], [0, 1, 2], [0, 1, 2, 3], [], [0, 1, 2, 3, 5], [0, 1, 2, 3, 5, 6]] [[], [], [], [], [], [], [], []] [] [] rfl rfl rfl rfl ⟨(fun p hp => by cases hp), (fun p hp => by cases hp), (fun p hp => by cases hp), (fun p hp => by cases hp), (fun p hp => by cases hp), (fun p hp => by cases hp), (fun p hp => by cases hp), (fun p hp => by cases hp), trivial⟩ (by kernel_rfl) ?_
        refine J.at_in [0, 1, 2, 3, 4, 5, 6, 7] rfl (by rfl) ⟨?_, ?_, ?_, ?_, ?_, ?_, ?_, ?_, trivial⟩ ?_
        · skip
          intro w19 x1
          have x1 : Tn [] w18 w19 := x1
          have xs1 := x1.size
          have x1 := Tn.nil x1
          have e0 := e0.trans x1
          have o28_5 := o28_5.ext x1
          have os29_6 := os29_6.ext x1
          have o36_10 := o36_10.ext x1
          have cb37_11 := cb37_11.ext x1
          have cp37_11 := cp37_11.ext x1
          have o51_18 := o51_18.ext x1
          have ro50_18 := ro50_18.ext x1
          clear x1
          refine PremT.nil ?_
          exact OpYeT.valg rfl rfl rfl rfl (Yd.slcH Try.underlying31 ti5 rfl (Rd.ext ha e0) rfl (by first | omega | (simp only [Int.toNat_natCast]; omega) | (simp only [List.length_map, List.length_drop, List.length_take, List.length_append, List.length_replicate, sqL_len, sqF_len]; omega) | (simp only [List.flatten_cons, List.flatten_nil, List.append_nil]; omega)))
        · skip
          intro w20 x1
          have x1 : Tn [] w18 w20 := x1
          have xs1 := x1.size
          have x1 := Tn.nil x1
          have e0 := e0.trans x1
          have o28_5 := o28_5.ext x1
          have os29_6 := os29_6.ext x1
          have o36_10 := o36_10.ext x1
          have cb37_11 := cb37_11.ext x1
          have cp37_11 := cp37_11.ext x1
          have o51_18 := o51_18.ext x1
          have ro50_18 := ro50_18.ext x1
          clear x1
          refine PremT.nil ?_
          exact OpYeT.valg rfl rfl rfl rfl (Yd.slcL Try.underlying31 ti5 rfl (Rd.ext ha e0) rfl (by first | omega | (simp only [Int.toNat_natCast]; omega) | (simp only [List.length_map, List.length_drop, List.length_take, List.length_append, List.length_replicate, sqL_len, sqF_len]; omega) | (simp only [List.flatten_cons, List.flatten_nil, List.append_nil]; omega)))
        · skip
          intro w21 x1
          refine PremT.v rfl ?_
          refine PremT.v rfl ?_
          have x1 : Tn [] w18 w21 := x1
          have xs1 := x1.size
          have x1 := Tn.nil x1
          have e0 := e0.trans x1
          have o28_5 := o28_5.ext x1
          have os29_6 := os29_6.ext x1
          have o36_10 := o36_10.ext x1
          have cb37_11 := cb37_11.ext x1
          have cp37_11 := cp37_11.ext x1
          have o51_18 := o51_18.ext x1
          have ro50_18 := ro50_18.ext x1
          clear x1
          refine PremT.nil ?_
          exact OpYeT.mkg rfl rfl rfl rfl ((Ye.lit (base := w18.heap.size) (vs := [slc a 0 (p : Int).toNat, slc a (p : Int).toNat (List.map (fun x : UInt8 => B x) l).length]) Try.underlying29 ti31 rfl rfl rfl rfl (by intro v_ hv_; simp only [List.mem_cons, List.mem_nil_iff, or_false] at hv_; rcases hv_ with rfl | rfl; exact Rd.cells (Bs.slc (Rd.ext ha e0) (by first | omega | (simp only [List.length_map]; omega) | exact Nat.zero_le _) (by first | omega | (simp only [List.length_map]; omega) | exact Nat.zero_le _)); exact Rd.cells (Bs.slc (Rd.ext ha e0) (by first | omega | (simp only [List.length_map]; omega) | exact Nat.zero_le _) (by first | omega | (simp only [List.length_map]; omega) | exact Nat.zero_le _))) rfl xs1).mono fun v w2 h => ⟨⟨v, rfl, own_cl h.1 LoL.nil⟩, Ext.tn h.2 _⟩)
        · skip
          intro w22 x1
          refine PremT.v rfl ?_
          refine PremT.v rfl ?_
          refine PremT.a rfl fun s64_22 o64_22 => ?_
          have o64_22 := o64_22 _ (Tn.refl _ _)
          have ap_s29_6_s64_22 : Ap s29_6.ownBlock s64_22.ownBlock := Ap.mk (Ow.live os29_6) (Ow.fr o64_22)
          have ap_b37_11_s64_22 : Ap (some b37_11) s64_22.ownBlock := Ap.mk (Cel.live cb37_11) (Ow.fr o64_22)
          have ap_p37_11_s64_22 : Ap (some p37_11) s64_22.ownBlock := Ap.mk (Cel.live cp37_11) (Ow.fr o64_22)
          have ap_s51_18_s64_22 : Ap s51_18.ownBlock s64_22.ownBlock := Ap.mk (Ow.live o51_18) (Ow.fr o64_22)
          have fr_s64_22 : Fr w.heap.size s64_22.ownBlock := Fr.le (Ow.fr o64_22) e0.size
          have x1 : Tn [] w18 w22 := x1
          have xs1 := x1.size
          have x1 := Tn.nil x1
          have e0 := e0.trans x1
          have o28_5 := o28_5.ext x1
          have os29_6 := os29_6.ext x1
          have o36_10 := o36_10.ext x1
          have cb37_11 := cb37_11.ext x1
          have cp37_11 := cp37_11.ext x1
          have o51_18 := o51_18.ext x1
          have ro50_18 := ro50_18.ext x1
          have ro64_22 := Rl.two (Ow.rd o64_22) (Bs.slc (Rd.ext ha e0) (by first | omega | (simp only [List.length_map]; omega) | exact Nat.zero_le _) (by first | omega | (simp only [List.length_map]; omega) | exact Nat.zero_le _)) (Bs.slc (Rd.ext ha e0) (by first | omega | (simp only [List.length_map]; omega) | exact Nat.zero_le _) (by first | omega | (simp only [List.length_map]; omega) | exact Nat.zero_le _))
          clear x1
          refine PremT.nil ?_
          exact OpYeT.mkg rfl rfl rfl rfl ((Ye.call cl16 rfl (Sum512_ok ro64_22 (by first | omega | (rw [hf2]; omega) | (rw [hf3]; omega) | (rw [hf1]; omega) | (rw [hf0]; omega) | (simp only [List.flatten_cons, List.flatten_nil, List.append_nil]; omega)))).mono fun v w2 h => ⟨⟨v, rfl, own_cl (Ow.base h.1 xs1) LoL.nil⟩, Ext.tn h.2 _⟩)
        · skip
          intro w23 x1
          refine PremT.v rfl ?_
          refine PremT.v rfl ?_
          refine PremT.a rfl fun s64_23 o64_23 => ?_
          have o64_23 := o64_23 _ (Tn.refl _ _)
          have ap_s29_6_s64_23 : Ap s29_6.ownBlock s64_23.ownBlock := Ap.mk (Ow.live os29_6) (Ow.fr o64_23)
          have ap_b37_11_s64_23 : Ap (some b37_11) s64_23.ownBlock := Ap.mk (Cel.live cb37_11) (Ow.fr o64_23)
          have ap_p37_11_s64_23 : Ap (some p37_11) s64_23.ownBlock := Ap.mk (Cel.live cp37_11) (Ow.fr o64_23)
          have ap_s51_18_s64_23 : Ap s51_18.ownBlock s64_23.ownBlock := Ap.mk (Ow.live o51_18) (Ow.fr o64_23)
          have fr_s64_23 : Fr w.heap.size s64_23.ownBlock := Fr.le (Ow.fr o64_23) e0.size
          refine PremT.a rfl fun s65_23 o65_23 => ?_
          have o65_23 := o65_23 _ (Tn.refl _ _)
          have ap_s29_6_s65_23 : Ap s29_6.ownBlock s65_23.ownBlock := Ap.mk (Ow.live os29_6) (Ow.fr o65_23)
          have ap_b37_11_s65_23 : Ap (some b37_11) s65_23.ownBlock := Ap.mk (Cel.live cb37_11) (Ow.fr o65_23)
          have ap_p37_11_s65_23 : Ap (some p37_11) s65_23.ownBlock := Ap.mk (Cel.live cp37_11) (Ow.fr o65_23)
          have ap_s51_18_s65_23 : Ap s51_18.ownBlock s65_23.ownBlock := Ap.mk (Ow.live o51_18) (Ow.fr o65_23)
          have fr_s65_23 : Fr w.heap.size s65_23.ownBlock := Fr.le (Ow.fr o65_23) e0.size
          replace o65_23 := Ow.base o65_23 e0.size
          have x1 : Tn [] w18 w23 := x1
          have xs1 := x1.size
          have x1 := Tn.nil x1
          have e0 := e0.trans x1
          have o28_5 := o28_5.ext x1
          have os29_6 := os29_6.ext x1
          have o36_10 := o36_10.ext x1
          have cb37_11 := cb37_11.ext x1
          have cp37_11 := cp37_11.ext x1
          have o51_18 := o51_18.ext x1
          have ro50_18 := ro50_18.ext x1
          have ro64_23 := Rl.two (Ow.rd o64_23) (Bs.slc (Rd.ext ha e0) (by first | omega | (simp only [List.length_map]; omega) | exact Nat.zero_le _) (by first | omega | (simp only [List.length_map]; omega) | exact Nat.zero_le _)) (Bs.slc (Rd.ext ha e0) (by first | omega | (simp only [List.length_map]; omega) | exact Nat.zero_le _) (by first | omega | (simp only [List.length_map]; omega) | exact Nat.zero_le _))
          clear x1
          refine PremT.nil ?_
          exact OpYeT.valg rfl rfl rfl rfl (Yd.bstr Try.underlying31 Try.underlying5 Try.underlying9 rfl (Ow.rd o65_23))
        · skip
          intro w24 x1
          have x1 : Tn [] w18 w24 := x1
          have xs1 := x1.size
          have x1 := Tn.nil x1
          have e0 := e0.trans x1
          have o28_5 := o28_5.ext x1
          have os29_6 := os29_6.ext x1
          have o36_10 := o36_10.ext x1
          have cb37_11 := cb37_11.ext x1
          have cp37_11 := cp37_11.ext x1
          have o51_18 := o51_18.ext x1
          have ro50_18 := ro50_18.ext x1
          clear x1
          refine PremT.nil ?_
          exact OpYeT.mkg rfl rfl rfl rfl ((Ye.lit (base := w18.heap.size) (vs := [a]) Try.underlying29 ti31 rfl rfl rfl rfl (by intro v_ hv_; simp only [List.mem_cons, List.mem_nil_iff, or_false] at hv_; subst hv_; exact Rd.cells (Rd.ext ha e0)) rfl xs1).mono fun v w2 h => ⟨⟨v, rfl, own_cl h.1 LoL.nil⟩, Ext.tn h.2 _⟩)
        · skip
          intro w25 x1
          refine PremT.v rfl ?_
          refine PremT.v rfl ?_
          refine PremT.a rfl fun s64_25 o64_25 => ?_
          have o64_25 := o64_25 _ (Tn.refl _ _)
          have ap_s29_6_s64_25 : Ap s29_6.ownBlock s64_25.ownBlock := Ap.mk (Ow.live os29_6) (Ow.fr o64_25)
          have ap_b37_11_s64_25 : Ap (some b37_11) s64_25.ownBlock := Ap.mk (Cel.live cb37_11) (Ow.fr o64_25)
          have ap_p37_11_s64_25 : Ap (some p37_11) s64_25.ownBlock := Ap.mk (Cel.live cp37_11) (Ow.fr o64_25)
          have ap_s51_18_s64_25 : Ap s51_18.ownBlock s64_25.ownBlock := Ap.mk (Ow.live o51_18) (Ow.fr o64_25)
          have fr_s64_25 : Fr w.heap.size s64_25.ownBlock := Fr.le (Ow.fr o64_25) e0.size
          refine PremT.a rfl fun s65_25 o65_25 => ?_
          have o65_25 := o65_25 _ (Tn.refl _ _)
          have ap_s29_6_s65_25 : Ap s29_6.ownBlock s65_25.ownBlock := Ap.mk (Ow.live os29_6) (Ow.fr o65_25)
          have ap_b37_11_s65_25 : Ap (some b37_11) s65_25.ownBlock := Ap.mk (Cel.live cb37_11) (Ow.fr o65_25)
          have ap_p37_11_s65_25 : Ap (some p37_11) s65_25.ownBlock := Ap.mk (Cel.live cp37_11) (Ow.fr o65_25)
          have ap_s51_18_s65_25 : Ap s51_18.ownBlock s65_25.ownBlock := Ap.mk (Ow.live o51_18) (Ow.fr o65_25)
          have fr_s65_25 : Fr w.heap.size s65_25.ownBlock := Fr.le (Ow.fr o65_25) e0.size
          replace o65_25 := Ow.base o65_25 e0.size
          refine PremT.a rfl fun s68_25 o68_25 => ?_
          have o68_25 := o68_25 _ (Tn.refl _ _)
          have ap_s29_6_s68_25 : Ap s29_6.ownBlock s68_25.ownBlock := Ap.mk (Ow.live os29_6) (Ow.fr o68_25)
          have ap_b37_11_s68_25 : Ap (some b37_11) s68_25.ownBlock := Ap.mk (Cel.live cb37_11) (Ow.fr o68_25)
          have ap_p37_11_s68_25 : Ap (some p37_11) s68_25.ownBlock := Ap.mk (Cel.live cp37_11) (Ow.fr o68_25)
          have ap_s51_18_s68_25 : Ap s51_18.ownBlock s68_25.ownBlock := Ap.mk (Ow.live o51_18) (Ow.fr o68_25)
          have fr_s68_25 : Fr w.heap.size s68_25.ownBlock := Fr.le (Ow.fr o68_25) e0.size
          have x1 : Tn [] w18 w25 := x1
          have xs1 := x1.size
          have x1 := Tn.nil x1
          have e0 := e0.trans x1
          have o28_5 := o28_5.ext x1
          have os29_6 := os29_6.ext x1
          have o36_10 := o36_10.ext x1
          have cb37_11 := cb37_11.ext x1
          have cp37_11 := cp37_11.ext x1
          have o51_18 := o51_18.ext x1
          have ro50_18 := ro50_18.ext x1
          have ro64_25 := Rl.two (Ow.rd o64_25) (Bs.slc (Rd.ext ha e0) (by first | omega | (simp only [List.length_map]; omega) | exact Nat.zero_le _) (by first | omega | (simp only [List.length_map]; omega) | exact Nat.zero_le _)) (Bs.slc (Rd.ext ha e0) (by first | omega | (simp only [List.length_map]; omega) | exact Nat.zero_le _) (by first | omega | (simp only [List.length_map]; omega) | exact Nat.zero_le _))
          have ro68_25 := Rl.one (Ow.rd o68_25) (Rd.ext ha e0)
          clear x1
          refine PremT.nil ?_
          exact OpYeT.mkg rfl rfl rfl rfl ((Ye.call cl16 rfl (Sum512_ok ro68_25 (by first | omega | (rw [hf2]; omega) | (rw [hf3]; omega) | (rw [hf1]; omega) | (rw [hf0]; omega) | (simp only [List.flatten_cons, List.flatten_nil, List.append_nil]; omega)))).mono fun v w2 h => ⟨⟨v, rfl, own_cl (Ow.base h.1 xs1) LoL.nil⟩, Ext.tn h.2 _⟩)
        · skip
          intro w26 x1
          refine PremT.v rfl ?_
          refine PremT.v rfl ?_
          refine PremT.a rfl fun s64_26 o64_26 => ?_
          have o64_26 := o64_26 _ (Tn.refl _ _)
          have ap_s29_6_s64_26 : Ap s29_6.ownBlock s64_26.ownBlock := Ap.mk (Ow.live os29_6) (Ow.fr o64_26)
          have ap_b37_11_s64_26 : Ap (some b37_11) s64_26.ownBlock := Ap.mk (Cel.live cb37_11) (Ow.fr o64_26)
          have ap_p37_11_s64_26 : Ap (some p37_11) s64_26.ownBlock := Ap.mk (Cel.live cp37_11) (Ow.fr o64_26)
          have ap_s51_18_s64_26 : Ap s51_18.ownBlock s64_26.ownBlock := Ap.mk (Ow.live o51_18) (Ow.fr o64_26)
          have fr_s64_26 : Fr w.heap.size s64_26.ownBlock := Fr.le (Ow.fr o64_26) e0.size
          refine PremT.a rfl fun s65_26 o65_26 => ?_
          have o65_26 := o65_26 _ (Tn.refl _ _)
          have ap_s29_6_s65_26 : Ap s29_6.ownBlock s65_26.ownBlock := Ap.mk (Ow.live os29_6) (Ow.fr o65_26)
          have ap_b37_11_s65_26 : Ap (some b37_11) s65_26.ownBlock := Ap.mk (Cel.live cb37_11) (Ow.fr o65_26)
          have ap_p37_11_s65_26 : Ap (some p37_11) s65_26.ownBlock := Ap.mk (Cel.live cp37_11) (Ow.fr o65_26)
          have ap_s51_18_s65_26 : Ap s51_18.ownBlock s65_26.ownBlock := Ap.mk (Ow.live o51_18) (Ow.fr o65_26)
          have fr_s65_26 : Fr w.heap.size s65_26.ownBlock := Fr.le (Ow.fr o65_26) e0.size
          replace o65_26 := Ow.base o65_26 e0.size
          refine PremT.a rfl fun s68_26 o68_26 => ?_
          have o68_26 := o68_26 _ (Tn.refl _ _)
          have ap_s29_6_s68_26 : Ap s29_6.ownBlock s68_26.ownBlock := Ap.mk (Ow.live os29_6) (Ow.fr o68_26)
          have ap_b37_11_s68_26 : Ap (some b37_11) s68_26.ownBlock := Ap.mk (Cel.live cb37_11) (Ow.fr o68_26)
          have ap_p37_11_s68_26 : Ap (some p37_11) s68_26.ownBlock := Ap.mk (Cel.live cp37_11) (Ow.fr o68_26)
          have ap_s51_18_s68_26 : Ap s51_18.ownBlock s68_26.ownBlock := Ap.mk (Ow.live o51_18) (Ow.fr o68_26)
          have fr_s68_26 : Fr w.heap.size s68_26.ownBlock := Fr.le (Ow.fr o68_26) e0.size
          refine PremT.a rfl fun s69_26 o69_26 => ?_
          have o69_26 := o69_26 _ (Tn.refl _ _)
          have ap_s29_6_s69_26 : Ap s29_6.ownBlock s69_26.ownBlock := Ap.mk (Ow.live os29_6) (Ow.fr o69_26)
          have ap_b37_11_s69_26 : Ap (some b37_11) s69_26.ownBlock := Ap.mk (Cel.live cb37_11) (Ow.fr o69_26)
          have ap_p37_11_s69_26 : Ap (some p37_11) s69_26.ownBlock := Ap.mk (Cel.live cp37_11) (Ow.fr o69_26)
          have ap_s51_18_s69_26 : Ap s51_18.ownBlock s69_26.ownBlock := Ap.mk (Ow.live o51_18) (Ow.fr o69_26)
          have fr_s69_26 : Fr w.heap.size s69_26.ownBlock := Fr.le (Ow.fr o69_26) e0.size
          replace o69_26 := Ow.base o69_26 e0.size
          have x1 : Tn [] w18 w26 := x1
          have xs1 := x1.size
          have x1 := Tn.nil x1
          have e0 := e0.trans x1
          have o28_5 := o28_5.ext x1
          have os29_6 := os29_6.ext x1
          have o36_10 := o36_10.ext x1
          have cb37_11 := cb37_11.ext x1
          have cp37_11 := cp37_11.ext x1
          have o51_18 := o51_18.ext x1
          have ro50_18 := ro50_18.ext x1
          have ro64_26 := Rl.two (Ow.rd o64_26) (Bs.slc (Rd.ext ha e0) (by first | omega | (simp only [List.length_map]; omega) | exact Nat.zero_le _) (by first | omega | (simp only [List.length_map]; omega) | exact Nat.zero_le _)) (Bs.slc (Rd.ext ha e0) (by first | omega | (simp only [List.length_map]; omega) | exact Nat.zero_le _) (by first | omega | (simp only [List.length_map]; omega) | exact Nat.zero_le _))
          have ro68_26 := Rl.one (Ow.rd o68_26) (Rd.ext ha e0)
          clear x1
          refine PremT.nil ?_
          exact OpYeT.valg rfl rfl rfl rfl (Yd.bstr Try.underlying31 Try.underlying5 Try.underlying9 rfl (Ow.rd o69_26))
        intro w27 x1
        refine PremT.v rfl ?_
        refine PremT.v rfl ?_
        refine PremT.a rfl fun s64_27 o64_27 => ?_
        have o64_27 := o64_27 _ (Tn.refl _ _)
        have ap_s29_6_s64_27 : Ap s29_6.ownBlock s64_27.ownBlock := Ap.mk (Ow.live os29_6) (Ow.fr o64_27)
        have ap_b37_11_s64_27 : Ap (some b37_11) s64_27.ownBlock := Ap.mk (Cel.live cb37_11) (Ow.fr o64_27)
        have ap_p37_11_s64_27 : Ap (some p37_11) s64_27.ownBlock := Ap.mk (Cel.live cp37_11) (Ow.fr o64_27)
        have ap_s51_18_s64_27 : Ap s51_18.ownBlock s64_27.ownBlock := Ap.mk (Ow.live o51_18) (Ow.fr o64_27)
        have fr_s64_27 : Fr w.heap.size s64_27.ownBlock := Fr.le (Ow.fr o64_27) e0.size
        refine PremT.a rfl fun s65_27 o65_27 => ?_
        have o65_27 := o65_27 _ (Tn.refl _ _)
        have ap_s29_6_s65_27 : Ap s29_6.ownBlock s65_27.ownBlock := Ap.mk (Ow.live os29_6) (Ow.fr o65_27)
        have ap_b37_11_s65_27 : Ap (some b37_11) s65_27.ownBlock := Ap.mk (Cel.live cb37_11) (Ow.fr o65_27)
        have ap_p37_11_s65_27 : Ap (some p37_11) s65_27.ownBlock := Ap.mk (Cel.live cp37_11) (Ow.fr o65_27)
        have ap_s51_18_s65_27 : Ap s51_18.ownBlock s65_27.ownBlock := Ap.mk (Ow.live o51_18) (Ow.fr o65_27)
        have fr_s65_27 : Fr w.heap.size s65_27.ownBlock := Fr.le (Ow.fr o65_27) e0.size
        replace o65_27 := Ow.base o65_27 e0.size
        refine PremT.v rfl ?_
        refine PremT.a rfl fun s68_27 o68_27 => ?_
        have o68_27 := o68_27 _ (Tn.refl _ _)
        have ap_s29_6_s68_27 : Ap s29_6.ownBlock s68_27.ownBlock := Ap.mk (Ow.live os29_6) (Ow.fr o68_27)
        have ap_b37_11_s68_27 : Ap (some b37_11) s68_27.ownBlock := Ap.mk (Cel.live cb37_11) (Ow.fr o68_27)
        have ap_p37_11_s68_27 : Ap (some p37_11) s68_27.ownBlock := Ap.mk (Cel.live cp37_11) (Ow.fr o68_27)
        have ap_s51_18_s68_27 : Ap s51_18.ownBlock s68_27.ownBlock := Ap.mk (Ow.live o51_18) (Ow.fr o68_27)
        have fr_s68_27 : Fr w.heap.size s68_27.ownBlock := Fr.le (Ow.fr o68_27) e0.size
        refine PremT.a rfl fun s69_27 o69_27 => ?_
        have o69_27 := o69_27 _ (Tn.refl _ _)
        have ap_s29_6_s69_27 : Ap s29_6.ownBlock s69_27.ownBlock := Ap.mk (Ow.live os29_6) (Ow.fr o69_27)
        have ap_b37_11_s69_27 : Ap (some b37_11) s69_27.ownBlock := Ap.mk (Cel.live cb37_11) (Ow.fr o69_27)
        have ap_p37_11_s69_27 : Ap (some p37_11) s69_27.ownBlock := Ap.mk (Cel.live cp37_11) (Ow.fr o69_27)
        have ap_s51_18_s69_27 : Ap s51_18.ownBlock s69_27.ownBlock := Ap.mk (Ow.live o51_18) (Ow.fr o69_27)
        have fr_s69_27 : Fr w.heap.size s69_27.ownBlock := Fr.le (Ow.fr o69_27) e0.size
        replace o69_27 := Ow.base o69_27 e0.size
        refine PremT.v rfl ?_
        have x1 : Tn [] w18 w27 := x1
        have xs1 := x1.size
        have x1 := Tn.nil x1
        have e0 := e0.trans x1
        have o28_5 := o28_5.ext x1
        have os29_6 := os29_6.ext x1
        have o36_10 := o36_10.ext x1
        have cb37_11 := cb37_11.ext x1
        have cp37_11 := cp37_11.ext x1
        have o51_18 := o51_18.ext x1
        have ro50_18 := ro50_18.ext x1
        have ro64_27 := Rl.two (Ow.rd o64_27) (Bs.slc (Rd.ext ha e0) (by first | omega | (simp only [List.length_map]; omega) | exact Nat.zero_le _) (by first | omega | (simp only [List.length_map]; omega) | exact Nat.zero_le _)) (Bs.slc (Rd.ext ha e0) (by first | omega | (simp only [List.length_map]; omega) | exact Nat.zero_le _) (by first | omega | (simp only [List.length_map]; omega) | exact Nat.zero_le _))
        have ro68_27 := Rl.one (Ow.rd o68_27) (Rd.ext ha e0)
        clear x1
        refine PremT.nil ?_
        refine J.rg_seq (m := 39) [(31, true), (32, true), (33, true), (34, true), (35, true), (36, true), (38, true), (39, true), (44, true), (45, true)] rfl (by kernel_rfl) ?_
        refine J.s_op_g rfl rfl rfl rfl (fun _ => Yd.seq rfl rfl) rfl ?_
        refine J.s_op rfl (fun _ => Yd.pick_t rfl rfl) rfl ?_
        refine J.s_op rfl (fun _ => Yd.move rfl) rfl ?_
        refine J.know (t := 73) (v' := .bool true) rfl (tt (by rw [hf2, hf1])) ?_
        refine J.s_op_g rfl rfl rfl rfl (fun _ => Yd.move rfl) rfl ?_
        refine J.s_op_g rfl rfl rfl rfl (fun _ => Yd.move rfl) rfl ?_
        refine J.s_op_g rfl rfl rfl rfl (fun _ => Yd.move rfl) rfl ?_
        refine J.s_op_g rfl rfl rfl rfl (fun _ => Yd.move rfl) rfl ?_
        refine J.s_op_g rfl rfl rfl rfl (fun _ => Yd.move rfl) rfl ?_
        refine J.s_op_g rfl rfl rfl rfl (fun _ => Yd.move rfl) rfl ?_
        refine J.s_op_g rfl rfl rfl rfl (fun _ => Yd.move rfl) rfl ?_
        refine J.s_nil ?_
        have lolAT : LoL w27.heap.size [] := LoL.nil
        refine J.rg_blk (m := 31) [(37, AsrT.v [] 77 (slc a 0 (p : Int).toNat)), (40, AsrT.v [] 80 (slc a (p : Int).toNat (List.map (fun x : UInt8 => B x) l).length)), (41, AsrT.own [] 81 w27.heap.size 31 [slc a 0 (p : Int).toNat, slc a (p : Int).toNat (List.map (fun x : UInt8 => B x) l).length]), (42, AsrT.own [] 82 w27.heap.size 5 (((sqL (soakK 168 31 ([(List.drop 0 (List.take (p : Int).toNat l)), (List.drop (p : Int).toNat (List.take (List.map (fun x : UInt8 => B x) l).length l))] : List (List UInt8)).flatten) 168 (shN m))).map fun x => B x)), (43, AsrT.v [] 83 (Str (sqL (soakK 168 31 ([(List.drop 0 (List.take (p : Int).toNat l)), (List.drop (p : Int).toNat (List.take (List.map (fun x : UInt8 => B x) l).length l))] : List (List UInt8)).flatten) 168 (shN m)))), (46, AsrT.own [] 86 w27.heap.size 31 [a]), (47, AsrT.own [] 87 w27.heap.size 5 (((sqL (soakK 168 31 ([l] : List (List UInt8)).flatten) 168 (shN m))).map fun x => B x)), (48, AsrT.v [] 88 (Str (sqL (soakK 168 31 ([l] : List (List UInt8)).flatten) 168 (shN m))))] [37, 40, 41, 42, 43, 46, 47, 48] [77, 80, 81, 82, 83, 86, 87, 88] [[], [], [0, 1], [0, 1, 2], [0, 1, 2, 3], [], [0, 1, 2, 3, 5], [0, 1, 2, 3, 5, 6]] [[], [], [], [], [], [], [], []] [] [] rfl rfl rfl rfl ⟨(fun p hp => by cases hp), (fun p hp => by cases hp), (fun p hp => by cases hp), (fun p hp => by cases hp), (fun p hp => by cases hp), (fun p hp => by cases hp), (fun p hp => by cases hp), (fun p hp => by cases hp), trivial⟩ (by kernel_rfl) ?_
        refine J.at_in [0, 1, 2, 3, 4, 5, 6, 7] rfl (by rfl) ⟨?_, ?_, ?_, ?_, ?_, ?_, ?_, ?_, trivial⟩ ?_
        · skip
          intro w28 x1
          have x1 : Tn [] w27 w28 := x1
          have xs1 := x1.size
          have x1 := Tn.nil x1
          have e0 := e0.trans x1
          have o28_5 := o28_5.ext x1
          have os29_6 := os29_6.ext x1
          have o36_10 := o36_10.ext x1
          have cb37_11 := cb37_11.ext x1
          have cp37_11 := cp37_11.ext x1
          have o51_18 := o51_18.ext x1
          have ro50_18 := ro50_18.ext x1
          have o65_27 := o65_27.ext x1
          have o69_27 := o69_27.ext x1
          have ro64_27 := ro64_27.ext x1
          have ro68_27 := ro68_27.ext x1
          clear x1
          refine PremT.nil ?_
          exact OpYeT.valg rfl rfl rfl rfl (Yd.slcH Try.underlying31 ti5 rfl (Rd.ext ha e0) rfl (by first | omega | (simp only [Int.toNat_natCast]; omega) | (simp only [List.length_map, List.length_drop, List.length_take, List.length_append, List.length_replicate, sqL_len, sqF_len]; omega) | (simp only [List.flatten_cons, List.flatten_nil, List.append_nil]; omega)))
        · skip
          intro w29 x1
          have x1 : Tn [] w27 w29 := x1
          have xs1 := x1.size
          have x1 := Tn.nil x1
          have e0 := e0.trans x1
          have o28_5 := o28_5.ext x1
          have os29_6 := os29_6.ext x1
          have o36_10 := o36_10.ext x1
          have cb37_11 := cb37_11.ext x1
          have cp37_11 := cp37_11.ext x1
          have o51_18 := o51_18.ext x1
          have ro50_18 := ro50_18.ext x1
          have o65_27 := o65_27.ext x1
          have o69_27 := o69_27.ext x1
          have ro64_27 := ro64_27.ext x1
          have ro68_27 := ro68_27.ext x1
          clear x1
          refine PremT.nil ?_
          exact OpYeT.valg rfl rfl rfl rfl (Yd.slcL Try.underlying31 ti5 rfl (Rd.ext ha e0) rfl (by first | omega | (simp only [Int.toNat_natCast]; omega) | (simp only [List.length_map, List.length_drop, List.length_take, List.length_append, List.length_replicate, sqL_len, sqF_len]; omega) | (simp only [List.flatten_cons, List.flatten_nil, List.append_nil]; omega)))
        · skip
          intro w30 x1
          refine PremT.v rfl ?_
          refine PremT.v rfl ?_
          have x1 : Tn [] w27 w30 := x1
          have xs1 := x1.size
          have x1 := Tn.nil x1
          have e0 := e0.trans x1
          have o28_5 := o28_5.ext x1
          have os29_6 := os29_6.ext x1
          have o36_10 := o36_10.ext x1
          have cb37_11 := cb37_11.ext x1
          have cp37_11 := cp37_11.ext x1
          have o51_18 := o51_18.ext x1
          have ro50_18 := ro50_18.ext x1
          have o65_27 := o65_27.ext x1
          have o69_27 := o69_27.ext x1
          have ro64_27 := ro64_27.ext x1
          have ro68_27 := ro68_27.ext x1
          clear x1
          refine PremT.nil ?_
          exact OpYeT.mkg rfl rfl rfl rfl ((Ye.lit (base := w27.heap.size) (vs := [slc a 0 (p : Int).toNat, slc a (p : Int).toNat (List.map (fun x : UInt8 => B x) l).length]) Try.underlying29 ti31 rfl rfl rfl rfl (by intro v_ hv_; simp only [List.mem_cons, List.mem_nil_iff, or_false] at hv_; rcases hv_ with rfl | rfl; exact Rd.cells (Bs.slc (Rd.ext ha e0) (by first | omega | (simp only [List.length_map]; omega) | exact Nat.zero_le _) (by first | omega | (simp only [List.length_map]; omega) | exact Nat.zero_le _)); exact Rd.cells (Bs.slc (Rd.ext ha e0) (by first | omega | (simp only [List.length_map]; omega) | exact Nat.zero_le _) (by first | omega | (simp only [List.length_map]; omega) | exact Nat.zero_le _))) rfl xs1).mono fun v w2 h => ⟨⟨v, rfl, own_cl h.1 LoL.nil⟩, Ext.tn h.2 _⟩)
        · skip
          intro w31 x1
          refine PremT.v rfl ?_
          refine PremT.v rfl ?_
          refine PremT.a rfl fun s81_31 o81_31 => ?_
          have o81_31 := o81_31 _ (Tn.refl _ _)
          have ap_s29_6_s81_31 : Ap s29_6.ownBlock s81_31.ownBlock := Ap.mk (Ow.live os29_6) (Ow.fr o81_31)
          have ap_b37_11_s81_31 : Ap (some b37_11) s81_31.ownBlock := Ap.mk (Cel.live cb37_11) (Ow.fr o81_31)
          have ap_p37_11_s81_31 : Ap (some p37_11) s81_31.ownBlock := Ap.mk (Cel.live cp37_11) (Ow.fr o81_31)
          have ap_s51_18_s81_31 : Ap s51_18.ownBlock s81_31.ownBlock := Ap.mk (Ow.live o51_18) (Ow.fr o81_31)
          have ap_s65_27_s81_31 : Ap s65_27.ownBlock s81_31.ownBlock := Ap.mk (Ow.live o65_27) (Ow.fr o81_31)
          have ap_s69_27_s81_31 : Ap s69_27.ownBlock s81_31.ownBlock := Ap.mk (Ow.live o69_27) (Ow.fr o81_31)
          have fr_s81_31 : Fr w.heap.size s81_31.ownBlock := Fr.le (Ow.fr o81_31) e0.size
          have x1 : Tn [] w27 w31 := x1
          have xs1 := x1.size
          have x1 := Tn.nil x1
          have e0 := e0.trans x1
          have o28_5 := o28_5.ext x1
          have os29_6 := os29_6.ext x1
          have o36_10 := o36_10.ext x1
          have cb37_11 := cb37_11.ext x1
          have cp37_11 := cp37_11.ext x1
          have o51_18 := o51_18.ext x1
          have ro50_18 := ro50_18.ext x1
          have o65_27 := o65_27.ext x1
          have o69_27 := o69_27.ext x1
          have ro64_27 := ro64_27.ext x1
          have ro68_27 := ro68_27.ext x1
          have ro81_31 := Rl.two (Ow.rd o81_31) (Bs.slc (Rd.ext ha e0) (by first | omega | (simp only [List.length_map]; omega) | exact Nat.zero_le _) (by first | omega | (simp only [List.length_map]; omega) | exact Nat.zero_le _)) (Bs.slc (Rd.ext ha e0) (by first | omega | (simp only [List.length_map]; omega) | exact Nat.zero_le _) (by first | omega | (simp only [List.length_map]; omega) | exact Nat.zero_le _))
          clear x1
          refine PremT.nil ?_
          exact OpYeT.mkg rfl rfl rfl rfl ((Ye.call cl17 rfl (Shake128_ok ro81_31 (by first | omega | (rw [hf2]; omega) | (rw [hf3]; omega) | (rw [hf1]; omega) | (rw [hf0]; omega) | (simp only [List.flatten_cons, List.flatten_nil, List.append_nil]; omega)))).mono fun v w2 h => ⟨⟨v, rfl, own_cl (Ow.base h.1 xs1) LoL.nil⟩, Ext.tn h.2 _⟩)
        · skip
          intro w32 x1
          refine PremT.v rfl ?_
          refine PremT.v rfl ?_
          refine PremT.a rfl fun s81_32 o81_32 => ?_
          have o81_32 := o81_32 _ (Tn.refl _ _)
          have ap_s29_6_s81_32 : Ap s29_6.ownBlock s81_32.ownBlock := Ap.mk (Ow.live os29_6) (Ow.fr o81_32)
          have ap_b37_11_s81_32 : Ap (some b37_11) s81_32.ownBlock := Ap.mk (Cel.live cb37_11) (Ow.fr o81_32)
          have ap_p37_11_s81_32 : Ap (some p37_11) s81_32.ownBlock := Ap.mk (Cel.live cp37_11) (Ow.fr o81_32)
          have ap_s51_18_s81_32 : Ap s51_18.ownBlock s81_32.ownBlock := Ap.mk (Ow.live o51_18) (Ow.fr o81_32)
          have ap_s65_27_s81_32 : Ap s65_27.ownBlock s81_32.ownBlock := Ap.mk (Ow.live o65_27) (Ow.fr o81_32)
          have ap_s69_27_s81_32 : Ap s69_27.ownBlock s81_32.ownBlock := Ap.mk (Ow.live o69_27) (Ow.fr o81_32)
          have fr_s81_32 : Fr w.heap.size s81_32.ownBlock := Fr.le (Ow.fr o81_32) e0.size
          refine PremT.a rfl fun s82_32 o82_32 => ?_
          have o82_32 := o82_32 _ (Tn.refl _ _)
          have ap_s29_6_s82_32 : Ap s29_6.ownBlock s82_32.ownBlock := Ap.mk (Ow.live os29_6) (Ow.fr o82_32)
          have ap_b37_11_s82_32 : Ap (some b37_11) s82_32.ownBlock := Ap.mk (Cel.live cb37_11) (Ow.fr o82_32)
          have ap_p37_11_s82_32 : Ap (some p37_11) s82_32.ownBlock := Ap.mk (Cel.live cp37_11) (Ow.fr o82_32)
          have ap_s51_18_s82_32 : Ap s51_18.ownBlock s82_32.ownBlock := Ap.mk (Ow.live o51_18) (Ow.fr o82_32)
          have ap_s65_27_s82_32 : Ap s65_27.ownBlock s82_32.ownBlock := Ap.mk (Ow.live o65_27) (Ow.fr o82_32)
          have ap_s69_27_s82_32 : Ap s69_27.ownBlock s82_32.ownBlock := Ap.mk (Ow.live o69_27) (Ow.fr o82_32)
          have fr_s82_32 : Fr w.heap.size s82_32.ownBlock := Fr.le (Ow.fr o82_32) e0.size
          replace o82_32 := Ow.base o82_32 e0.size
          have x1 : Tn [] w27 w32 := x1
          have xs1 := x1.size
          have x1 := Tn.nil x1
          have e0 := e0.trans x1
          have o28_5 := o28_5.ext x1
          have os29_6 := os29_6.ext x1
          have o36_10 := o36_10.ext x1
          have cb37_11 := cb37_11.ext x1
          have cp37_11 := cp37_11.ext x1
          have o51_18 := o51_18.ext x1
          have ro50_18 := ro50_18.ext x1
          have o65_27 := o65_27.ext x1
          have o69_27 := o69_27.ext x1
          have ro64_27 := ro64_27.ext x1
          have ro68_27 := ro68_27.ext x1
          have ro81_32 := Rl.two (Ow.rd o81_32) (Bs.slc (Rd.ext ha e0) (by first | omega | (simp only [List.length_map]; omega) | exact Nat.zero_le _) (by first | omega | (simp only [List.length_map]; omega) | exact Nat.zero_le _)) (Bs.slc (Rd.ext ha e0) (by first | omega | (simp only [List.length_map]; omega) | exact Nat.zero_le _) (by first | omega | (simp only [List.length_map]; omega) | exact Nat.zero_le _))
          clear x1
          refine PremT.nil ?_
          exact OpYeT.valg rfl rfl rfl rfl (Yd.bstr Try.underlying31 Try.underlying5 Try.underlying9 rfl (Ow.rd o82_32))
        · skip
          intro w33 x1
          have x1 : Tn [] w27 w33 := x1
          have xs1 := x1.size
          have x1 := Tn.nil x1
          have e0 := e0.trans x1
          have o28_5 := o28_5.ext x1
          have os29_6 := os29_6.ext x1
          have o36_10 := o36_10.ext x1
          have cb37_11 := cb37_11.ext x1
          have cp37_11 := cp37_11.ext x1
          have o51_18 := o51_18.ext x1
          have ro50_18 := ro50_18.ext x1
          have o65_27 := o65_27.ext x1
          have o69_27 := o69_27.ext x1
          have ro64_27 := ro64_27.ext x1
          have ro68_27 := ro68_27.ext x1
          clear x1
          refine PremT.nil ?_
          exact OpYeT.mkg rfl rfl rfl rfl ((Ye.lit (base := w27.heap.size) (vs := [a]) Try.underlying29 ti31 rfl rfl rfl rfl (by intro v_ hv_; simp only [List.mem_cons, List.mem_nil_iff, or_false] at hv_; subst hv_; exact Rd.cells (Rd.ext ha e0)) rfl xs1).mono fun v w2 h => ⟨⟨v, rfl, own_cl h.1 LoL.nil⟩, Ext.tn h.2 _⟩)
        · skip
          intro w34 x1
          refine PremT.v rfl ?_
          refine PremT.v rfl ?_
          refine PremT.a rfl fun s81_34 o81_34 => ?_
          have o81_34 := o81_34 _ (Tn.refl _ _)
          have ap_s29_6_s81_34 : Ap s29_6.ownBlock s81_34.ownBlock := Ap.mk (Ow.live os29_6) (Ow.fr o81_34)
          have ap_b37_11_s81_34 : Ap (some b37_11) s81_34.ownBlock := Ap.mk (Cel.live cb37_11) (Ow.fr o81_34)
          have ap_p37_11_s81_34 : Ap (some p37_11) s81_34.ownBlock := Ap.mk (Cel.live cp37_11) (Ow.fr o81_34)
          have ap_s51_18_s81_34 : Ap s51_18.ownBlock s81_34.ownBlock := Ap.mk (Ow.live o51_18) (Ow.fr o81_34)
          have ap_s65_27_s81_34 : Ap s65_27.ownBlock s81_34.ownBlock := Ap.mk (Ow.live o65_27) (Ow.fr o81_34)
          have ap_s69_27_s81_34 : Ap s69_27.ownBlock s81_34.ownBlock := Ap.mk (Ow.live o69_27) (Ow.fr o81_34)
          have fr_s81_34 : Fr w.heap.size s81_34.ownBlock := Fr.le (Ow.fr o81_34) e0.size
          refine PremT.a rfl fun s82_34 o82_34 => ?_
          have o82_34 := o82_34 _ (Tn.refl _ _)
          have ap_s29_6_s82_34 : Ap s29_6.ownBlock s82_34.ownBlock := Ap.mk (Ow.live os29_6) (Ow.fr o82_34)
          have ap_b37_11_s82_34 : Ap (some b37_11) s82_34.ownBlock := Ap.mk (Cel.live cb37_11) (Ow.fr o82_34)
          have ap_p37_11_s82_34 : Ap (some p37_11) s82_34.ownBlock := Ap.mk (Cel.live cp37_11) (Ow.fr o82_34)
          have ap_s51_18_s82_34 : Ap s51_18.ownBlock s82_34.ownBlock := Ap.mk (Ow.live o51_18) (Ow.fr o82_34)
          have ap_s65_27_s82_34 : Ap s65_27.ownBlock s82_34.ownBlock := Ap.mk (Ow.live o65_27) (Ow.fr o82_34)
          have ap_s69_27_s82_34 : Ap s69_27.ownBlock s82_34.ownBlock := Ap.mk (Ow.live o69_27) (Ow.fr o82_34)
          have fr_s82_34 : Fr w.heap.size s82_34.ownBlock := Fr.le (Ow.fr o82_34) e0.size
          replace o82_34 := Ow.base o82_34 e0.size
          refine PremT.a rfl fun s86_34 o86_34 => ?_
          have o86_34 := o86_34 _ (Tn.refl _ _)
          have ap_s29_6_s86_34 : Ap s29_6.ownBlock s86_34.ownBlock := Ap.mk (Ow.live os29_6) (Ow.fr o86_34)
          have ap_b37_11_s86_34 : Ap (some b37_11) s86_34.ownBlock := Ap.mk (Cel.live cb37_11) (Ow.fr o86_34)
          have ap_p37_11_s86_34 : Ap (some p37_11) s86_34.ownBlock := Ap.mk (Cel.live cp37_11) (Ow.fr o86_34)
          have ap_s51_18_s86_34 : Ap s51_18.ownBlock s86_34.ownBlock := Ap.mk (Ow.live o51_18) (Ow.fr o86_34)
          have ap_s65_27_s86_34 : Ap s65_27.ownBlock s86_34.ownBlock := Ap.mk (Ow.live o65_27) (Ow.fr o86_34)
          have ap_s69_27_s86_34 : Ap s69_27.ownBlock s86_34.ownBlock := Ap.mk (Ow.live o69_27) (Ow.fr o86_34)
          have fr_s86_34 : Fr w.heap.size s86_34.ownBlock := Fr.le (Ow.fr o86_34) e0.size
          have x1 : Tn [] w27 w34 := x1
          have xs1 := x1.size
          have x1 := Tn.nil x1
          have e0 := e0.trans x1
          have o28_5 := o28_5.ext x1
          have os29_6 := os29_6.ext x1
          have o36_10 := o36_10.ext x1
          have cb37_11 := cb37_11.ext x1
          have cp37_11 := cp37_11.ext x1
          have o51_18 := o51_18.ext x1
          have ro50_18 := ro50_18.ext x1
          have o65_27 := o65_27.ext x1
          have o69_27 := o69_27.ext x1
          have ro64_27 := ro64_27.ext x1
          have ro68_27 := ro68_27.ext x1
          have ro81_34 := Rl.two (Ow.rd o81_34) (Bs.slc (Rd.ext ha e0) (by first | omega | (simp only [List.length_map]; omega) | exact Nat.zero_le _) (by first | omega | (simp only [List.length_map]; omega) | exact Nat.zero_le _)) (Bs.slc (Rd.ext ha e0) (by first | omega | (simp only [List.length_map]; omega) | exact Nat.zero_le _) (by first | omega | (simp only [List.length_map]; omega) | exact Nat.zero_le _))
          have ro86_34 := Rl.one (Ow.rd o86_34) (Rd.ext ha e0)
          clear x1
          refine PremT.nil ?_
          exact OpYeT.mkg rfl rfl rfl rfl ((Ye.call cl17 rfl (Shake128_ok ro86_34 (by first | omega | (rw [hf2]; omega) | (rw [hf3]; omega) | (rw [hf1]; omega) | (rw [hf0]; omega) | (simp only [List.flatten_cons, List.flatten_nil, List.append_nil]; omega)))).mono fun v w2 h => ⟨⟨v, rfl, own_cl (Ow.base h.1 xs1) LoL.nil⟩, Ext.tn h.2 _⟩)
        · skip
          intro w35 x1
          refine PremT.v rfl ?_
          refine PremT.v rfl ?_
          refine PremT.a rfl fun s81_35 o81_35 => ?_
          have o81_35 := o81_35 _ (Tn.refl _ _)
          have ap_s29_6_s81_35 : Ap s29_6.ownBlock s81_35.ownBlock := Ap.mk (Ow.live os29_6) (Ow.fr o81_35)
          have ap_b37_11_s81_35 : Ap (some b37_11) s81_35.ownBlock := Ap.mk (Cel.live cb37_11) (Ow.fr o81_35)
          have ap_p37_11_s81_35 : Ap (some p37_11) s81_35.ownBlock := Ap.mk (Cel.live cp37_11) (Ow.fr o81_35)
          have ap_s51_18_s81_35 : Ap s51_18.ownBlock s81_35.ownBlock := Ap.mk (Ow.live o51_18) (Ow.fr o81_35)
          have ap_s65_27_s81_35 : Ap s65_27.ownBlock s81_35.ownBlock := Ap.mk (Ow.live o65_27) (Ow.fr o81_35)
          have ap_s69_27_s81_35 : Ap s69_27.ownBlock s81_35.ownBlock := Ap.mk (Ow.live o69_27) (Ow.fr o81_35)
          have fr_s81_35 : Fr w.heap.size s81_35.ownBlock := Fr.le (Ow.fr o81_35) e0.size
          refine PremT.a rfl fun s82_35 o82_35 => ?_
          have o82_35 := o82_35 _ (Tn.refl _ _)
          have ap_s29_6_s82_35 : Ap s29_6.ownBlock s82_35.ownBlock := Ap.mk (Ow.live os29_6) (Ow.fr o82_35)
          have ap_b37_11_s82_35 : Ap (some b37_11) s82_35.ownBlock := Ap.mk (Cel.live cb37_11) (Ow.fr o82_35)
          have ap_p37_11_s82_35 : Ap (some p37_11) s82_35.ownBlock := Ap.mk (Cel.live cp37_11) (Ow.fr o82_35)
          have ap_s51_18_s82_35 : Ap s51_18.ownBlock s82_35.ownBlock := Ap.mk (Ow.live o51_18) (Ow.fr o82_35)
          have ap_s65_27_s82_35 : Ap s65_27.ownBlock s82_35.ownBlock := Ap.mk (Ow.live o65_27) (Ow.fr o82_35)
          have ap_s69_27_s82_35 : Ap s69_27.ownBlock s82_35.ownBlock := Ap.mk (Ow.live o69_27) (Ow.fr o82_35)
          have fr_s82_35 : Fr w.heap.size s82_35.ownBlock := Fr.le (Ow.fr o82_35) e0.size
          replace o82_35 := Ow.base o82_35 e0.size
          refine PremT.a rfl fun s86_35 o86_35 => ?_
          have o86_35 := o86_35 _ (Tn.refl _ _)
          have ap_s29_6_s86_35 : Ap s29_6.ownBlock s86_35.ownBlock := Ap.mk (Ow.live os29_6) (Ow.fr o86_35)
          have ap_b37_11_s86_35 : Ap (some b37_11) s86_35.ownBlock := Ap.mk (Cel.live cb37_11) (Ow.fr o86_35)
          have ap_p37_11_s86_35 : Ap (some p37_11) s86_35.ownBlock := Ap.mk (Cel.live cp37_11) (Ow.fr o86_35)
          have ap_s51_18_s86_35 : Ap s51_18.ownBlock s86_35.ownBlock := Ap.mk (Ow.live o51_18) (Ow.fr o86_35)
          have ap_s65_27_s86_35 : Ap s65_27.ownBlock s86_35.ownBlock := Ap.mk (Ow.live o65_27) (Ow.fr o86_35)
          have ap_s69_27_s86_35 : Ap s69_27.ownBlock s86_35.ownBlock := Ap.mk (Ow.live o69_27) (Ow.fr o86_35)
          have fr_s86_35 : Fr w.heap.size s86_35.ownBlock := Fr.le (Ow.fr o86_35) e0.size
          refine PremT.a rfl fun s87_35 o87_35 => ?_
          have o87_35 := o87_35 _ (Tn.refl _ _)
          have ap_s29_6_s87_35 : Ap s29_6.ownBlock s87_35.ownBlock := Ap.mk (Ow.live os29_6) (Ow.fr o87_35)
          have ap_b37_11_s87_35 : Ap (some b37_11) s87_35.ownBlock := Ap.mk (Cel.live cb37_11) (Ow.fr o87_35)
          have ap_p37_11_s87_35 : Ap (some p37_11) s87_35.ownBlock := Ap.mk (Cel.live cp37_11) (Ow.fr o87_35)
          have ap_s51_18_s87_35 : Ap s51_18.ownBlock s87_35.ownBlock := Ap.mk (Ow.live o51_18) (Ow.fr o87_35)
          have ap_s65_27_s87_35 : Ap s65_27.ownBlock s87_35.ownBlock := Ap.mk (Ow.live o65_27) (Ow.fr o87_35)
          have ap_s69_27_s87_35 : Ap s69_27.ownBlock s87_35.ownBlock := Ap.mk (Ow.live o69_27) (Ow.fr o87_35)
          have fr_s87_35 : Fr w.heap.size s87_35.ownBlock := Fr.le (Ow.fr o87_35) e0.size
          replace o87_35 := Ow.base o87_35 e0.size
          have x1 : Tn [] w27 w35 := x1
          have xs1 := x1.size
          have x1 := Tn.nil x1
          have e0 := e0.trans x1
          have o28_5 := o28_5.ext x1
          have os29_6 := os29_6.ext x1
          have o36_10 := o36_10.ext x1
          have cb37_11 := cb37_11.ext x1
          have cp37_11 := cp37_11.ext x1
          have o51_18 := o51_18.ext x1
          have ro50_18 := ro50_18.ext x1
          have o65_27 := o65_27.ext x1
          have o69_27 := o69_27.ext x1
          have ro64_27 := ro64_27.ext x1
          have ro68_27 := ro68_27.ext x1
          have ro81_35 := Rl.two (Ow.rd o81_35) (Bs.slc (Rd.ext ha e0) (by first | omega | (simp only [List.length_map]; omega) | exact Nat.zero_le _) (by first | omega | (simp only [List.length_map]; omega) | exact Nat.zero_le _)) (Bs.slc (Rd.ext ha e0) (by first | omega | (simp only [List.length_map]; omega) | exact Nat.zero_le _) (by first | omega | (simp only [List.length_map]; omega) | exact Nat.zero_le _))
          have ro86_35 := Rl.one (Ow.rd o86_35) (Rd.ext ha e0)
          clear x1
          refine PremT.nil ?_
          exact OpYeT.valg rfl rfl rfl rfl (Yd.bstr Try.underlying31 Try.underlying5 Try.underlying9 rfl (Ow.rd o87_35))
        intro w36 x1
        refine PremT.v rfl ?_
        refine PremT.v rfl ?_
        refine PremT.a rfl fun s81_36 o81_36 => ?_
        have o81_36 := o81_36 _ (Tn.refl _ _)
        have ap_s29_6_s81_36 : Ap s29_6.ownBlock s81_36.ownBlock := Ap.mk (Ow.live os29_6) (Ow.fr o81_36)
        have ap_b37_11_s81_36 : Ap (some b37_11) s81_36.ownBlock := Ap.mk (Cel.live cb37_11) (Ow.fr o81_36)
        have ap_p37_11_s81_36 : Ap (some p37_11) s81_36.ownBlock := Ap.mk (Cel.live cp37_11) (Ow.fr o81_36)
        have ap_s51_18_s81_36 : Ap s51_18.ownBlock s81_36.ownBlock := Ap.mk (Ow.live o51_18) (Ow.fr o81_36)
        have ap_s65_27_s81_36 : Ap s65_27.ownBlock s81_36.ownBlock := Ap.mk (Ow.live o65_27) (Ow.fr o81_36)
        have ap_s69_27_s81_36 : Ap s69_27.ownBlock s81_36.ownBlock := Ap.mk (Ow.live o69_27) (Ow.fr o81_36)
        have fr_s81_36 : Fr w.heap.size s81_36.ownBlock := Fr.le (Ow.fr o81_36) e0.size
        refine PremT.a rfl fun s82_36 o82_36 => ?_
        have o82_36 := o82_36 _ (Tn.refl _ _)
        have ap_s29_6_s82_36 : Ap s29_6.ownBlock s82_36.ownBlock := Ap.mk (Ow.live os29_6) (Ow.fr o82_36)
        have ap_b37_11_s82_36 : Ap (some b37_11) s82_36.ownBlock := Ap.mk (Cel.live cb37_11) (Ow.fr o82_36)
        have ap_p37_11_s82_36 : Ap (some p37_11) s82_36.ownBlock := Ap.mk (Cel.live cp37_11) (Ow.fr o82_36)
        have ap_s51_18_s82_36 : Ap s51_18.ownBlock s82_36.ownBlock := Ap.mk (Ow.live o51_18) (Ow.fr o82_36)
        have ap_s65_27_s82_36 : Ap s65_27.ownBlock s82_36.ownBlock := Ap.mk (Ow.live o65_27) (Ow.fr o82_36)
        have ap_s69_27_s82_36 : Ap s69_27.ownBlock s82_36.ownBlock := Ap.mk (Ow.live o69_27) (Ow.fr o82_36)
        have fr_s82_36 : Fr w.heap.size s82_36.ownBlock := Fr.le (Ow.fr o82_36) e0.size
        replace o82_36 := Ow.base o82_36 e0.size
        refine PremT.v rfl ?_
        refine PremT.a rfl fun s86_36 o86_36 => ?_
        have o86_36 := o86_36 _ (Tn.refl _ _)
        have ap_s29_6_s86_36 : Ap s29_6.ownBlock s86_36.ownBlock := Ap.mk (Ow.live os29_6) (Ow.fr o86_36)
        have ap_b37_11_s86_36 : Ap (some b37_11) s86_36.ownBlock := Ap.mk (Cel.live cb37_11) (Ow.fr o86_36)
        have ap_p37_11_s86_36 : Ap (some p37_11) s86_36.ownBlock := Ap.mk (Cel.live cp37_11) (Ow.fr o86_36)
        have ap_s51_18_s86_36 : Ap s51_18.ownBlock s86_36.ownBlock := Ap.mk (Ow.live o51_18) (Ow.fr o86_36)
        have ap_s65_27_s86_36 : Ap s65_27.ownBlock s86_36.ownBlock := Ap.mk (Ow.live o65_27) (Ow.fr o86_36)
        have ap_s69_27_s86_36 : Ap s69_27.ownBlock s86_36.ownBlock := Ap.mk (Ow.live o69_27) (Ow.fr o86_36)
        have fr_s86_36 : Fr w.heap.size s86_36.ownBlock := Fr.le (Ow.fr o86_36) e0.size
        refine PremT.a rfl fun s87_36 o87_36 => ?_
        have o87_36 := o87_36 _ (Tn.refl _ _)
        have ap_s29_6_s87_36 : Ap s29_6.ownBlock s87_36.ownBlock := Ap.mk (Ow.live os29_6) (Ow.fr o87_36)
        have ap_b37_11_s87_36 : Ap (some b37_11) s87_36.ownBlock := Ap.mk (Cel.live cb37_11) (Ow.fr o87_36)
        have ap_p37_11_s87_36 : Ap (some p37_11) s87_36.ownBlock := Ap.mk (Cel.live cp37_11) (Ow.fr o87_36)
        have ap_s51_18_s87_36 : Ap s51_18.ownBlock s87_36.ownBlock := Ap.mk (Ow.live o51_18) (Ow.fr o87_36)
        have ap_s65_27_s87_36 : Ap s65_27.ownBlock s87_36.ownBlock := Ap.mk (Ow.live o65_27) (Ow.fr o87_36)
        have ap_s69_27_s87_36 : Ap s69_27.ownBlock s87_36.ownBlock := Ap.mk (Ow.live o69_27) (Ow.fr o87_36)
        have fr_s87_36 : Fr w.heap.size s87_36.ownBlock := Fr.le (Ow.fr o87_36) e0.size
        replace o87_36 := Ow.base o87_36 e0.size
        refine PremT.v rfl ?_
        have x1 : Tn [] w27 w36 := x1
        have xs1 := x1.size
        have x1 := Tn.nil x1
        have e0 := e0.trans x1
        have o28_5 := o28_5.ext x1
        have os29_6 := os29_6.ext x1
        have o36_10 := o36_10.ext x1
        have cb37_11 := cb37_11.ext x1
        have cp37_11 := cp37_11.ext x1
        have o51_18 := o51_18.ext x1
        have ro50_18 := ro50_18.ext x1
        have o65_27 := o65_27.ext x1
        have o69_27 := o69_27.ext x1
        have ro64_27 := ro64_27.ext x1
        have ro68_27 := ro68_27.ext x1
        have ro81_36 := Rl.two (Ow.rd o81_36) (Bs.slc (Rd.ext ha e0) (by first | omega | (simp only [List.length_map]; omega) | exact Nat.zero_le _) (by first | omega | (simp only [List.length_map]; omega) | exact Nat.zero_le _)) (Bs.slc (Rd.ext ha e0) (by first | omega | (simp only [List.length_map]; omega) | exact Nat.zero_le _) (by first | omega | (simp only [List.length_map]; omega) | exact Nat.zero_le _))
        have ro86_36 := Rl.one (Ow.rd o86_36) (Rd.ext ha e0)
        clear x1
        refine PremT.nil ?_
        refine J.rg_seq (m := 24) [(49, true), (50, true), (51, true), (52, true), (53, true), (57, true), (58, true)] rfl (by kernel_rfl) ?_
        refine J.s_op_g rfl rfl rfl rfl (fun _ => Yd.seq rfl rfl) rfl ?_
        refine J.s_op rfl (fun _ => Yd.pick_t rfl rfl) rfl ?_
        refine J.s_op rfl (fun _ => Yd.move rfl) rfl ?_
        refine J.know (t := 91) (v' := .bool true) rfl (tt (by rw [hf2, hf1])) ?_
        refine J.s_op_g rfl rfl rfl rfl (fun _ => Yd.move rfl) rfl ?_
        refine J.s_op_g rfl rfl rfl rfl (fun _ => Yd.move rfl) rfl ?_
        refine J.s_op_g rfl rfl rfl rfl (fun _ => Yd.move rfl) rfl ?_
        refine J.s_op_g rfl rfl rfl rfl (fun _ => Yd.move rfl) rfl ?_
        refine J.s_nil ?_
        have lolAT : LoL w36.heap.size [] := LoL.nil
        refine J.rg_blk (m := 18) [(54, AsrT.own [] 94 w36.heap.size 31 [nilS, a]), (55, AsrT.own [] 95 w36.heap.size 5 (((sqL (soakK 136 31 ([[], l] : List (List UInt8)).flatten) 136 (shN m))).map fun x => B x)), (56, AsrT.v [] 96 (Str (sqL (soakK 136 31 ([[], l] : List (List UInt8)).flatten) 136 (shN m)))), (59, AsrT.own [] 99 w36.heap.size 31 [a]), (60, AsrT.own [] 100 w36.heap.size 5 (((sqL (soakK 136 31 ([l] : List (List UInt8)).flatten) 136 (shN m))).map fun x => B x)), (61, AsrT.v [] 101 (Str (sqL (soakK 136 31 ([l] : List (List UInt8)).flatten) 136 (shN m))))] [54, 55, 56, 59, 60, 61] [94, 95, 96, 99, 100, 101] [[], [0], [0, 1], [], [0, 1, 3], [0, 1, 3, 4]] [[], [], [], [], [], []] [] [] rfl rfl rfl rfl ⟨(fun p hp => by cases hp), (fun p hp => by cases hp), (fun p hp => by cases hp), (fun p hp => by cases hp), (fun p hp => by cases hp), (fun p hp => by cases hp), trivial⟩ (by kernel_rfl) ?_
        refine J.at_in [0, 1, 2, 3, 4, 5] rfl (by rfl) ⟨?_, ?_, ?_, ?_, ?_, ?_, trivial⟩ ?_
        · skip
          intro w37 x1
          have x1 : Tn [] w36 w37 := x1
          have xs1 := x1.size
          have x1 := Tn.nil x1
          have e0 := e0.trans x1
          have o28_5 := o28_5.ext x1
          have os29_6 := os29_6.ext x1
          have o36_10 := o36_10.ext x1
          have cb37_11 := cb37_11.ext x1
          have cp37_11 := cp37_11.ext x1
          have o51_18 := o51_18.ext x1
          have ro50_18 := ro50_18.ext x1
          have o65_27 := o65_27.ext x1
          have o69_27 := o69_27.ext x1
          have ro64_27 := ro64_27.ext x1
          have ro68_27 := ro68_27.ext x1
          have o82_36 := o82_36.ext x1
          have o87_36 := o87_36.ext x1
          have ro81_36 := ro81_36.ext x1
          have ro86_36 := ro86_36.ext x1
          clear x1
          refine PremT.nil ?_
          exact OpYeT.mkg rfl rfl rfl rfl ((Ye.lit (base := w36.heap.size) (vs := [nilS, a]) Try.underlying29 ti31 rfl rfl rfl rfl (by intro v_ hv_; simp only [List.mem_cons, List.mem_nil_iff, or_false] at hv_; rcases hv_ with rfl | rfl; exact rfl; exact Rd.cells (Rd.ext ha e0)) rfl xs1).mono fun v w2 h => ⟨⟨v, rfl, own_cl h.1 LoL.nil⟩, Ext.tn h.2 _⟩)
        · skip
          intro w38 x1
          refine PremT.a rfl fun s94_38 o94_38 => ?_
          have o94_38 := o94_38 _ (Tn.refl _ _)
          have ap_s29_6_s94_38 : Ap s29_6.ownBlock s94_38.ownBlock := Ap.mk (Ow.live os29_6) (Ow.fr o94_38)
          have ap_b37_11_s94_38 : Ap (some b37_11) s94_38.ownBlock := Ap.mk (Cel.live cb37_11) (Ow.fr o94_38)
          have ap_p37_11_s94_38 : Ap (some p37_11) s94_38.ownBlock := Ap.mk (Cel.live cp37_11) (Ow.fr o94_38)
          have ap_s51_18_s94_38 : Ap s51_18.ownBlock s94_38.ownBlock := Ap.mk (Ow.live o51_18) (Ow.fr o94_38)
          have ap_s65_27_s94_38 : Ap s65_27.ownBlock s94_38.ownBlock := Ap.mk (Ow.live o65_27) (Ow.fr o94_38)
          have ap_s69_27_s94_38 : Ap s69_27.ownBlock s94_38.ownBlock := Ap.mk (Ow.live o69_27) (Ow.fr o94_38)
          have ap_s82_36_s94_38 : Ap s82_36.ownBlock s94_38.ownBlock := Ap.mk (Ow.live o82_36) (Ow.fr o94_38)
          have ap_s87_36_s94_38 : Ap s87_36.ownBlock s94_38.ownBlock := Ap.mk (Ow.live o87_36) (Ow.fr o94_38)
          have fr_s94_38 : Fr w.heap.size s94_38.ownBlock := Fr.le (Ow.fr o94_38) e0.size
          have x1 : Tn [] w36 w38 := x1
          have xs1 := x1.size
          have x1 := Tn.nil x1
          have e0 := e0.trans x1
          have o28_5 := o28_5.ext x1
          have os29_6 := os29_6.ext x1
          have o36_10 := o36_10.ext x1
          have cb37_11 := cb37_11.ext x1
          have cp37_11 := cp37_11.ext x1
          have o51_18 := o51_18.ext x1
          have ro50_18 := ro50_18.ext x1
          have o65_27 := o65_27.ext x1
          have o69_27 := o69_27.ext x1
          have ro64_27 := ro64_27.ext x1
          have ro68_27 := ro68_27.ext x1
          have o82_36 := o82_36.ext x1
          have o87_36 := o87_36.ext x1
          have ro81_36 := ro81_36.ext x1
          have ro86_36 := ro86_36.ext x1
          have ro94_38 := Rl.two (Ow.rd o94_38) (Rd.nilM (fun x : UInt8 => B x) _) (Rd.ext ha e0)
          clear x1
          refine PremT.nil ?_
          exact OpYeT.mkg rfl rfl rfl rfl ((Ye.call cl19 rfl (Shake256_ok ro94_38 (by first | omega | (rw [hf2]; omega) | (rw [hf3]; omega) | (rw [hf1]; omega) | (rw [hf0]; omega) | (simp only [List.flatten_cons, List.flatten_nil, List.append_nil]; omega)))).mono fun v w2 h => ⟨⟨v, rfl, own_cl (Ow.base h.1 xs1) LoL.nil⟩, Ext.tn h.2 _⟩)
        · skip
          intro w39 x1
          refine PremT.a rfl fun s94_39 o94_39 => ?_
          have o94_39 := o94_39 _ (Tn.refl _ _)
          have ap_s29_6_s94_39 : Ap s29_6.ownBlock s94_39.ownBlock := Ap.mk (Ow.live os29_6) (Ow.fr o94_39)
          have ap_b37_11_s94_39 : Ap (some b37_11) s94_39.ownBlock := Ap.mk (Cel.live cb37_11) (Ow.fr o94_39)
          have ap_p37_11_s94_39 : Ap (some p37_11) s94_39.ownBlock := Ap.mk (Cel.live cp37_11) (Ow.fr o94_39)
          have ap_s51_18_s94_39 : Ap s51_18.ownBlock s94_39.ownBlock := Ap.mk (Ow.live o51_18) (Ow.fr o94_39)
          have ap_s65_27_s94_39 : Ap s65_27.ownBlock s94_39.ownBlock := Ap.mk (Ow.live o65_27) (Ow.fr o94_39)
          have ap_s69_27_s94_39 : Ap s69_27.ownBlock s94_39.ownBlock := Ap.mk (Ow.live o69_27) (Ow.fr o94_39)
          have ap_s82_36_s94_39 : Ap s82_36.ownBlock s94_39.ownBlock := Ap.mk (Ow.live o82_36) (Ow.fr o94_39)
          have ap_s87_36_s94_39 : Ap s87_36.ownBlock s94_39.ownBlock := Ap.mk (Ow.live o87_36) (Ow.fr o94_39)
          have fr_s94_39 : Fr w.heap.size s94_39.ownBlock := Fr.le (Ow.fr o94_39) e0.size
          refine PremT.a rfl fun s95_39 o95_39 => ?_
          have o95_39 := o95_39 _ (Tn.refl _ _)
          have ap_s29_6_s95_39 : Ap s29_6.ownBlock s95_39.ownBlock := Ap.mk (Ow.live os29_6) (Ow.fr o95_39)
          have ap_b37_11_s95_39 : Ap (some b37_11) s95_39.ownBlock := Ap.mk (Cel.live cb37_11) (Ow.fr o95_39)
          have ap_p37_11_s95_39 : Ap (some p37_11) s95_39.ownBlock := Ap.mk (Cel.live cp37_11) (Ow.fr o95_39)
          have ap_s51_18_s95_39 : Ap s51_18.ownBlock s95_39.ownBlock := Ap.mk (Ow.live o51_18) (Ow.fr o95_39)
          have ap_s65_27_s95_39 : Ap s65_27.ownBlock s95_39.ownBlock := Ap.mk (Ow.live o65_27) (Ow.fr o95_39)
          have ap_s69_27_s95_39 : Ap s69_27.ownBlock s95_39.ownBlock := Ap.mk (Ow.live o69_27) (Ow.fr o95_39)
          have ap_s82_36_s95_39 : Ap s82_36.ownBlock s95_39.ownBlock := Ap.mk (Ow.live o82_36) (Ow.fr o95_39)
          have ap_s87_36_s95_39 : Ap s87_36.ownBlock s95_39.ownBlock := Ap.mk (Ow.live o87_36) (Ow.fr o95_39)
          have fr_s95_39 : Fr w.heap.size s95_39.ownBlock := Fr.le (Ow.fr o95_39) e0.size
          replace o95_39 := Ow.base o95_39 e0.size
          have x1 : Tn [] w36 w39 := x1
          have xs1 := x1.size
          have x1 := Tn.nil x1
          have e0 := e0.trans x1
          have o28_5 := o28_5.ext x1
          have os29_6 := os29_6.ext x1
          have o36_10 := o36_10.ext x1
          have cb37_11 := cb37_11.ext x1
          have cp37_11 := cp37_11.ext x1
          have o51_18 := o51_18.ext x1
          have ro50_18 := ro50_18.ext x1
          have o65_27 := o65_27.ext x1
          have o69_27 := o69_27.ext x1
          have ro64_27 := ro64_27.ext x1
          have ro68_27 := ro68_27.ext x1
          have o82_36 := o82_36.ext x1
          have o87_36 := o87_36.ext x1
          have ro81_36 := ro81_36.ext x1
          have ro86_36 := ro86_36.ext x1
          have ro94_39 := Rl.two (Ow.rd o94_39) (Rd.nilM (fun x : UInt8 => B x) _) (Rd.ext ha e0)
          clear x1
          refine PremT.nil ?_
          exact OpYeT.valg rfl rfl rfl rfl (Yd.bstr Try.underlying31 Try.underlying5 Try.underlying9 rfl (Ow.rd o95_39))
        · skip
          intro w40 x1
          have x1 : Tn [] w36 w40 := x1
          have xs1 := x1.size
          have x1 := Tn.nil x1
          have e0 := e0.trans x1
          have o28_5 := o28_5.ext x1
          have os29_6 := os29_6.ext x1
          have o36_10 := o36_10.ext x1
          have cb37_11 := cb37_11.ext x1
          have cp37_11 := cp37_11.ext x1
          have o51_18 := o51_18.ext x1
          have ro50_18 := ro50_18.ext x1
          have o65_27 := o65_27.ext x1
          have o69_27 := o69_27.ext x1
          have ro64_27 := ro64_27.ext x1
          have ro68_27 := ro68_27.ext x1
          have o82_36 := o82_36.ext x1
          have o87_36 := o87_36.ext x1
          have ro81_36 := ro81_36.ext x1
          have ro86_36 := ro86_36.ext x1
          clear x1
          refine PremT.nil ?_
          exact OpYeT.mkg rfl rfl rfl rfl ((Ye.lit (base := w36.heap.size) (vs := [a]) Try.underlying29 ti31 rfl rfl rfl rfl (by intro v_ hv_; simp only [List.mem_cons, List.mem_nil_iff, or_false] at hv_; subst hv_; exact Rd.cells (Rd.ext ha e0)) rfl xs1).mono fun v w2 h => ⟨⟨v, rfl, own_cl h.1 LoL.nil⟩, Ext.tn h.2 _⟩)
        · skip
          intro w41 x1
          refine PremT.a rfl fun s94_41 o94_41 => ?_
          have o94_41 := o94_41 _ (Tn.refl _ _)
          have ap_s29_6_s94_41 : Ap s29_6.ownBlock s94_41.ownBlock := Ap.mk (Ow.live os29_6) (Ow.fr o94_41)
          have ap_b37_11_s94_41 : Ap (some b37_11) s94_41.ownBlock := Ap.mk (Cel.live cb37_11) (Ow.fr o94_41)
          have ap_p37_11_s94_41 : Ap (some p37_11) s94_41.ownBlock := Ap.mk (Cel.live cp37_11) (Ow.fr o94_41)
          have ap_s51_18_s94_41 : Ap s51_18.ownBlock s94_41.ownBlock := Ap.mk (Ow.live o51_18) (Ow.fr o94_41)
          have ap_s65_27_s94_41 : Ap s65_27.ownBlock s94_41.ownBlock := Ap.mk (Ow.live o65_27) (Ow.fr o94_41)
          have ap_s69_27_s94_41 : Ap s69_27.ownBlock s94_41.ownBlock := Ap.mk (Ow.live o69_27) (Ow.fr o94_41)
          have ap_s82_36_s94_41 : Ap s82_36.ownBlock s94_41.ownBlock := Ap.mk (Ow.live o82_36) (Ow.fr o94_41)
          have ap_s87_36_s94_41 : Ap s87_36.ownBlock s94_41.ownBlock := Ap.mk (Ow.live o87_36) (Ow.fr o94_41)
          have fr_s94_41 : Fr w.heap.size s94_41.ownBlock := Fr.le (Ow.fr o94_41) e0.size
          refine PremT.a rfl fun s95_41 o95_41 => ?_
          have o95_41 := o95_41 _ (Tn.refl _ _)
          have ap_s29_6_s95_41 : Ap s29_6.ownBlock s95_41.ownBlock := Ap.mk (Ow.live os29_6) (Ow.fr o95_41)
          have ap_b37_11_s95_41 : Ap (some b37_11) s95_41.ownBlock := Ap.mk (Cel.live cb37_11) (Ow.fr o95_41)
          have ap_p37_11_s95_41 : Ap (some p37_11) s95_41.ownBlock := Ap.mk (Cel.live cp37_11) (Ow.fr o95_41)
          have ap_s51_18_s95_41 : Ap s51_18.ownBlock s95_41.ownBlock := Ap.mk (Ow.live o51_18) (Ow.fr o95_41)
          have ap_s65_27_s95_41 : Ap s65_27.ownBlock s95_41.ownBlock := Ap.mk (Ow.live o65_27) (Ow.fr o95_41)
          have ap_s69_27_s95_41 : Ap s69_27.ownBlock s95_41.ownBlock := Ap.mk (Ow.live o69_27) (Ow.fr o95_41)
          have ap_s82_36_s95_41 : Ap s82_36.ownBlock s95_41.ownBlock := Ap.mk (Ow.live o82_36) (Ow.fr o95_41)
          have ap_s87_36_s95_41 : Ap s87_36.ownBlock s95_41.ownBlock := Ap.mk (Ow.live o87_36) (Ow.fr o95_41)
          have fr_s95_41 : Fr w.heap.size s95_41.ownBlock := Fr.le (Ow.fr o95_41) e0.size
          replace o95_41 := Ow.base o95_41 e0.size
          refine PremT.a rfl fun s99_41 o99_41 => ?_
          have o99_41 := o99_41 _ (Tn.refl _ _)
          have ap_s29_6_s99_41 : Ap s29_6.ownBlock s99_41.ownBlock := Ap.mk (Ow.live os29_6) (Ow.fr o99_41)
          have ap_b37_11_s99_41 : Ap (some b37_11) s99_41.ownBlock := Ap.mk (Cel.live cb37_11) (Ow.fr o99_41)
          have ap_p37_11_s99_41 : Ap (some p37_11) s99_41.ownBlock := Ap.mk (Cel.live cp37_11) (Ow.fr o99_41)
          have ap_s51_18_s99_41 : Ap s51_18.ownBlock s99_41.ownBlock := Ap.mk (Ow.live o51_18) (Ow.fr o99_41)
          have ap_s65_27_s99_41 : Ap s65_27.ownBlock s99_41.ownBlock := Ap.mk (Ow.live o65_27) (Ow.fr o99_41)
          have ap_s69_27_s99_41 : Ap s69_27.ownBlock s99_41.ownBlock := Ap.mk (Ow.live o69_27) (Ow.fr o99_41)
          have ap_s82_36_s99_41 : Ap s82_36.ownBlock s99_41.ownBlock := Ap.mk (Ow.live o82_36) (Ow.fr o99_41)
          have ap_s87_36_s99_41 : Ap s87_36.ownBlock s99_41.ownBlock := Ap.mk (Ow.live o87_36) (Ow.fr o99_41)
          have fr_s99_41 : Fr w.heap.size s99_41.ownBlock := Fr.le (Ow.fr o99_41) e0.size
          have x1 : Tn [] w36 w41 := x1
          have xs1 := x1.size
          have x1 := Tn.nil x1
          have e0 := e0.trans x1
          have o28_5 := o28_5.ext x1
          have os29_6 := os29_6.ext x1
          have o36_10 := o36_10.ext x1
          have cb37_11 := cb37_11.ext x1
          have cp37_11 := cp37_11.ext x1
          have o51_18 := o51_18.ext x1
          have ro50_18 := ro50_18.ext x1
          have o65_27 := o65_27.ext x1
          have o69_27 := o69_27.ext x1
          have ro64_27 := ro64_27.ext x1
          have ro68_27 := ro68_27.ext x1
          have o82_36 := o82_36.ext x1
          have o87_36 := o87_36.ext x1
          have ro81_36 := ro81_36.ext x1
          have ro86_36 := ro86_36.ext x1
          have ro94_41 := Rl.two (Ow.rd o94_41) (Rd.nilM (fun x : UInt8 => B x) _) (Rd.ext ha e0)
          have ro99_41 := Rl.one (Ow.rd o99_41) (Rd.ext ha e0)
          clear x1
          refine PremT.nil ?_
          exact OpYeT.mkg rfl rfl rfl rfl ((Ye.call cl19 rfl (Shake256_ok ro99_41 (by first | omega | (rw [hf2]; omega) | (rw [hf3]; omega) | (rw [hf1]; omega) | (rw [hf0]; omega) | (simp only [List.flatten_cons, List.flatten_nil, List.append_nil]; omega)))).mono fun v w2 h => ⟨⟨v, rfl, own_cl (Ow.base h.1 xs1) LoL.nil⟩, Ext.tn h.2 _⟩)
        · skip
          intro w42 x1
          refine PremT.a rfl fun s94_42 o94_42 => ?_
          have o94_42 := o94_42 _ (Tn.refl _ _)
          have ap_s29_6_s94_42 : Ap s29_6.ownBlock s94_42.ownBlock := Ap.mk (Ow.live os29_6) (Ow.fr o94_42)
          have ap_b37_11_s94_42 : Ap (some b37_11) s94_42.ownBlock := Ap.mk (Cel.live cb37_11) (Ow.fr o94_42)
          have ap_p37_11_s94_42 : Ap (some p37_11) s94_42.ownBlock := Ap.mk (Cel.live cp37_11) (Ow.fr o94_42)
          have ap_s51_18_s94_42 : Ap s51_18.ownBlock s94_42.ownBlock := Ap.mk (Ow.live o51_18) (Ow.fr o94_42)
          have ap_s65_27_s94_42 : Ap s65_27.ownBlock s94_42.ownBlock := Ap.mk (Ow.live o65_27) (Ow.fr o94_42)
          have ap_s69_27_s94_42 : Ap s69_27.ownBlock s94_42.ownBlock := Ap.mk (Ow.live o69_27) (Ow.fr o94_42)
          have ap_s82_36_s94_42 : Ap s82_36.ownBlock s94_42.ownBlock := Ap.mk (Ow.live o82_36) (Ow.fr o94_42)
          have ap_s87_36_s94_42 : Ap s87_36.ownBlock s94_42.ownBlock := Ap.mk (Ow.live o87_36) (Ow.fr o94_42)
          have fr_s94_42 : Fr w.heap.size s94_42.ownBlock := Fr.le (Ow.fr o94_42) e0.size
          refine PremT.a rfl fun s95_42 o95_42 => ?_
          have o95_42 := o95_42 _ (Tn.refl _ _)
          have ap_s29_6_s95_42 : Ap s29_6.ownBlock s95_42.ownBlock := Ap.mk (Ow.live os29_6) (Ow.fr o95_42)
          have ap_b37_11_s95_42 : Ap (some b37_11) s95_42.ownBlock := Ap.mk (Cel.live cb37_11) (Ow.fr o95_42)
          have ap_p37_11_s95_42 : Ap (some p37_11) s95_42.ownBlock := Ap.mk (Cel.live cp37_11) (Ow.fr o95_42)
          have ap_s51_18_s95_42 : Ap s51_18.ownBlock s95_42.ownBlock := Ap.mk (Ow.live o51_18) (Ow.fr o95_42)
          have ap_s65_27_s95_42 : Ap s65_27.ownBlock s95_42.ownBlock := Ap.mk (Ow.live o65_27) (Ow.fr o95_42)
          have ap_s69_27_s95_42 : Ap s69_27.ownBlock s95_42.ownBlock := Ap.mk (Ow.live o69_27) (Ow.fr o95_42)
          have ap_s82_36_s95_42 : Ap s82_36.ownBlock s95_42.ownBlock := Ap.mk (Ow.live o82_36) (Ow.fr o95_42)
          have ap_s87_36_s95_42 : Ap s87_36.ownBlock s95_42.ownBlock := Ap.mk (Ow.live o87_36) (Ow.fr o95_42)
          have fr_s95_42 : Fr w.heap.size s95_42.ownBlock := Fr.le (Ow.fr o95_42) e0.size
          replace o95_42 := Ow.base o95_42 e0.size
          refine PremT.a rfl fun s99_42 o99_42 => ?_
          have o99_42 := o99_42 _ (Tn.refl _ _)
          have ap_s29_6_s99_42 : Ap s29_6.ownBlock s99_42.ownBlock := Ap.mk (Ow.live os29_6) (Ow.fr o99_42)
          have ap_b37_11_s99_42 : Ap (some b37_11) s99_42.ownBlock := Ap.mk (Cel.live cb37_11) (Ow.fr o99_42)
          have ap_p37_11_s99_42 : Ap (some p37_11) s99_42.ownBlock := Ap.mk (Cel.live cp37_11) (Ow.fr o99_42)
          have ap_s51_18_s99_42 : Ap s51_18.ownBlock s99_42.ownBlock := Ap.mk (Ow.live o51_18) (Ow.fr o99_42)
          have ap_s65_27_s99_42 : Ap s65_27.ownBlock s99_42.ownBlock := Ap.mk (Ow.live o65_27) (Ow.fr o99_42)
          have ap_s69_27_s99_42 : Ap s69_27.ownBlock s99_42.ownBlock := Ap.mk (Ow.live o69_27) (Ow.fr o99_42)
          have ap_s82_36_s99_42 : Ap s82_36.ownBlock s99_42.ownBlock := Ap.mk (Ow.live o82_36) (Ow.fr o99_42)
          have ap_s87_36_s99_42 : Ap s87_36.ownBlock s99_42.ownBlock := Ap.mk (Ow.live o87_36) (Ow.fr o99_42)
          have fr_s99_42 : Fr w.heap.size s99_42.ownBlock := Fr.le (Ow.fr o99_42) e0.size
          refine PremT.a rfl fun s100_42 o100_42 => ?_
          have o100_42 := o100_42 _ (Tn.refl _ _)
          have ap_s29_6_s100_42 : Ap s29_6.ownBlock s100_42.ownBlock := Ap.mk (Ow.live os29_6) (Ow.fr o100_42)
          have ap_b37_11_s100_42 : Ap (some b37_11) s100_42.ownBlock := Ap.mk (Cel.live cb37_11) (Ow.fr o100_42)
          have ap_p37_11_s100_42 : Ap (some p37_11) s100_42.ownBlock := Ap.mk (Cel.live cp37_11) (Ow.fr o100_42)
          have ap_s51_18_s100_42 : Ap s51_18.ownBlock s100_42.ownBlock := Ap.mk (Ow.live o51_18) (Ow.fr o100_42)
          have ap_s65_27_s100_42 : Ap s65_27.ownBlock s100_42.ownBlock := Ap.mk (Ow.live o65_27) (Ow.fr o100_42)
          have ap_s69_27_s100_42 : Ap s69_27.ownBlock s100_42.ownBlock := Ap.mk (Ow.live o69_27) (Ow.fr o100_42)
          have ap_s82_36_s100_42 : Ap s82_36.ownBlock s100_42.ownBlock := Ap.mk (Ow.live o82_36) (Ow.fr o100_42)
          have ap_s87_36_s100_42 : Ap s87_36.ownBlock s100_42.ownBlock := Ap.mk (Ow.live o87_36) (Ow.fr o100_42)
          have fr_s100_42 : Fr w.heap.size s100_42.ownBlock := Fr.le (Ow.fr o100_42) e0.size
          replace o100_42 := Ow.base o100_42 e0.size
          have x1 : Tn [] w36 w42 := x1
          have xs1 := x1.size
          have x1 := Tn.nil x1
          have e0 := e0.trans x1
          have o28_5 := o28_5.ext x1
          have os29_6 := os29_6.ext x1
          have o36_10 := o36_10.ext x1
          have cb37_11 := cb37_11.ext x1
          have cp37_11 := cp37_11.ext x1
          have o51_18 := o51_18.ext x1
          have ro50_18 := ro50_18.ext x1
          have o65_27 := o65_27.ext x1
          have o69_27 := o69_27.ext x1
          have ro64_27 := ro64_27.ext x1
          have ro68_27 := ro68_27.ext x1
          have o82_36 := o82_36.ext x1
          have o87_36 := o87_36.ext x1
          have ro81_36 := ro81_36.ext x1
          have ro86_36 := ro86_36.ext x1
          have ro94_42 := Rl.two (Ow.rd o94_42) (Rd.nilM (fun x : UInt8 => B x) _) (Rd.ext ha e0)
          have ro99_42 := Rl.one (Ow.rd o99_42) (Rd.ext ha e0)
          clear x1
          refine PremT.nil ?_
          exact OpYeT.valg rfl rfl rfl rfl (Yd.bstr Try.underlying31 Try.underlying5 Try.underlying9 rfl (Ow.rd o100_42))
        intro w43 x1
        refine PremT.a rfl fun s94_43 o94_43 => ?_
        have o94_43 := o94_43 _ (Tn.refl _ _)
        have ap_s29_6_s94_43 : Ap s29_6.ownBlock s94_43.ownBlock := Ap.mk (Ow.live os29_6) (Ow.fr o94_43)
        have ap_b37_11_s94_43 : Ap (some b37_11) s94_43.ownBlock := Ap.mk (Cel.live cb37_11) (Ow.fr o94_43)
        have ap_p37_11_s94_43 : Ap (some p37_11) s94_43.ownBlock := Ap.mk (Cel.live cp37_11) (Ow.fr o94_43)
        have ap_s51_18_s94_43 : Ap s51_18.ownBlock s94_43.ownBlock := Ap.mk (Ow.live o51_18) (Ow.fr o94_43)
        have ap_s65_27_s94_43 : Ap s65_27.ownBlock s94_43.ownBlock := Ap.mk (Ow.live o65_27) (Ow.fr o94_43)
        have ap_s69_27_s94_43 : Ap s69_27.ownBlock s94_43.ownBlock := Ap.mk (Ow.live o69_27) (Ow.fr o94_43)
        have ap_s82_36_s94_43 : Ap s82_36.ownBlock s94_43.ownBlock := Ap.mk (Ow.live o82_36) (Ow.fr o94_43)
        have ap_s87_36_s94_43 : Ap s87_36.ownBlock s94_43.ownBlock := Ap.mk (Ow.live o87_36) (Ow.fr o94_43)
        have fr_s94_43 : Fr w.heap.size s94_43.ownBlock := Fr.le (Ow.fr o94_43) e0.size
        refine PremT.a rfl fun s95_43 o95_43 => ?_
        have o95_43 := o95_43 _ (Tn.refl _ _)
        have ap_s29_6_s95_43 : Ap s29_6.ownBlock s95_43.ownBlock := Ap.mk (Ow.live os29_6) (Ow.fr o95_43)
        have ap_b37_11_s95_43 : Ap (some b37_11) s95_43.ownBlock := Ap.mk (Cel.live cb37_11) (Ow.fr o95_43)
        have ap_p37_11_s95_43 : Ap (some p37_11) s95_43.ownBlock := Ap.mk (Cel.live cp37_11) (Ow.fr o95_43)
        have ap_s51_18_s95_43 : Ap s51_18.ownBlock s95_43.ownBlock := Ap.mk (Ow.live o51_18) (Ow.fr o95_43)
        have ap_s65_27_s95_43 : Ap s65_27.ownBlock s95_43.ownBlock := Ap.mk (Ow.live o65_27) (Ow.fr o95_43)
        have ap_s69_27_s95_43 : Ap s69_27.ownBlock s95_43.ownBlock := Ap.mk (Ow.live o69_27) (Ow.fr o95_43)
        have ap_s82_36_s95_43 : Ap s82_36.ownBlock s95_43.ownBlock := Ap.mk (Ow.live o82_36) (Ow.fr o95_43)
        have ap_s87_36_s95_43 : Ap s87_36.ownBlock s95_43.ownBlock := Ap.mk (Ow.live o87_36) (Ow.fr o95_43)
        have fr_s95_43 : Fr w.heap.size s95_43.ownBlock := Fr.le (Ow.fr o95_43) e0.size
        replace o95_43 := Ow.base o95_43 e0.size
        refine PremT.v rfl ?_
        refine PremT.a rfl fun s99_43 o99_43 => ?_
        have o99_43 := o99_43 _ (Tn.refl _ _)
        have ap_s29_6_s99_43 : Ap s29_6.ownBlock s99_43.ownBlock := Ap.mk (Ow.live os29_6) (Ow.fr o99_43)
        have ap_b37_11_s99_43 : Ap (some b37_11) s99_43.ownBlock := Ap.mk (Cel.live cb37_11) (Ow.fr o99_43)
        have ap_p37_11_s99_43 : Ap (some p37_11) s99_43.ownBlock := Ap.mk (Cel.live cp37_11) (Ow.fr o99_43)
        have ap_s51_18_s99_43 : Ap s51_18.ownBlock s99_43.ownBlock := Ap.mk (Ow.live o51_18) (Ow.fr o99_43)
        have ap_s65_27_s99_43 : Ap s65_27.ownBlock s99_43.ownBlock := Ap.mk (Ow.live o65_27) (Ow.fr o99_43)
        have ap_s69_27_s99_43 : Ap s69_27.ownBlock s99_43.ownBlock := Ap.mk (Ow.live o69_27) (Ow.fr o99_43)
        have ap_s82_36_s99_43 : Ap s82_36.ownBlock s99_43.ownBlock := Ap.mk (Ow.live o82_36) (Ow.fr o99_43)
        have ap_s87_36_s99_43 : Ap s87_36.ownBlock s99_43.ownBlock := Ap.mk (Ow.live o87_36) (Ow.fr o99_43)
        have fr_s99_43 : Fr w.heap.size s99_43.ownBlock := Fr.le (Ow.fr o99_43) e0.size
        refine PremT.a rfl fun s100_43 o100_43 => ?_
        have o100_43 := o100_43 _ (Tn.refl _ _)
        have ap_s29_6_s100_43 : Ap s29_6.ownBlock s100_43.ownBlock := Ap.mk (Ow.live os29_6) (Ow.fr o100_43)
        have ap_b37_11_s100_43 : Ap (some b37_11) s100_43.ownBlock := Ap.mk (Cel.live cb37_11) (Ow.fr o100_43)
        have ap_p37_11_s100_43 : Ap (some p37_11) s100_43.ownBlock := Ap.mk (Cel.live cp37_11) (Ow.fr o100_43)
        have ap_s51_18_s100_43 : Ap s51_18.ownBlock s100_43.ownBlock := Ap.mk (Ow.live o51_18) (Ow.fr o100_43)
        have ap_s65_27_s100_43 : Ap s65_27.ownBlock s100_43.ownBlock := Ap.mk (Ow.live o65_27) (Ow.fr o100_43)
        have ap_s69_27_s100_43 : Ap s69_27.ownBlock s100_43.ownBlock := Ap.mk (Ow.live o69_27) (Ow.fr o100_43)
        have ap_s82_36_s100_43 : Ap s82_36.ownBlock s100_43.ownBlock := Ap.mk (Ow.live o82_36) (Ow.fr o100_43)
        have ap_s87_36_s100_43 : Ap s87_36.ownBlock s100_43.ownBlock := Ap.mk (Ow.live o87_36) (Ow.fr o100_43)
        have fr_s100_43 : Fr w.heap.size s100_43.ownBlock := Fr.le (Ow.fr o100_43) e0.size
        replace o100_43 := Ow.base o100_43 e0.size
        refine PremT.v rfl ?_
        have x1 : Tn [] w36 w43 := x1
        have xs1 := x1.size
        have x1 := Tn.nil x1
        have e0 := e0.trans x1
        have o28_5 := o28_5.ext x1
        have os29_6 := os29_6.ext x1
        have o36_10 := o36_10.ext x1
        have cb37_11 := cb37_11.ext x1
        have cp37_11 := cp37_11.ext x1
        have o51_18 := o51_18.ext x1
        have ro50_18 := ro50_18.ext x1
        have o65_27 := o65_27.ext x1
        have o69_27 := o69_27.ext x1
        have ro64_27 := ro64_27.ext x1
        have ro68_27 := ro68_27.ext x1
        have o82_36 := o82_36.ext x1
        have o87_36 := o87_36.ext x1
        have ro81_36 := ro81_36.ext x1
        have ro86_36 := ro86_36.ext x1
        have ro94_43 := Rl.two (Ow.rd o94_43) (Rd.nilM (fun x : UInt8 => B x) _) (Rd.ext ha e0)
        have ro99_43 := Rl.one (Ow.rd o99_43) (Rd.ext ha e0)
        clear x1
        refine PremT.nil ?_
        refine J.rg_seq (m := 11) [(62, true), (63, true), (64, true), (65, true), (66, true), (69, true), (70, true)] rfl (by kernel_rfl) ?_
        refine J.s_op_g rfl rfl rfl rfl (fun _ => Yd.seq rfl rfl) rfl ?_
        refine J.s_op rfl (fun _ => Yd.pick_t rfl rfl) rfl ?_
        refine J.s_op rfl (fun _ => Yd.move rfl) rfl ?_
        refine J.know (t := 104) (v' := .bool true) rfl (tt (by rw [hf0, hf1])) ?_
        refine J.s_op_g rfl rfl rfl rfl (fun _ => Yd.move rfl) rfl ?_
        refine J.s_op_g rfl rfl rfl rfl (fun _ => Yd.move rfl) rfl ?_
        refine J.s_op_g rfl rfl rfl rfl (fun _ => Yd.move rfl) rfl ?_
        refine J.s_op_g rfl rfl rfl rfl (fun _ => Yd.move rfl) rfl ?_
        refine J.s_nil ?_
        have lolAT : LoL w43.heap.size [(some p37_11)] := LoL.one (Cel.live cp37_11)
        refine J.rg_blk (m := 6) [(67, AsrT.c [] 107 (Value) (fun x => x) (fun x w' => Ob w43.heap.size 5 w' x (sqF (soakK 168 31 ([(List.drop 0 (List.take (p : Int).toNat l)), [], (List.drop (p : Int).toNat (List.take (List.map (fun x : UInt8 => B x) l).length l))] : List (List UInt8)).flatten) 168 0 (rdN m)) ∧ Cel w' p37_11 61 (spS (soakK 168 31 ([(List.drop 0 (List.take (p : Int).toNat l)), [], (List.drop (p : Int).toNat (List.take (List.map (fun x : UInt8 => B x) l).length l))] : List (List UInt8)).flatten) 168 (0 + rdN m)))), (68, AsrT.v [(some p37_11)] 108 (Str (sqF (soakK 168 31 ([(List.drop 0 (List.take (p : Int).toNat l)), [], (List.drop (p : Int).toNat (List.take (List.map (fun x : UInt8 => B x) l).length l))] : List (List UInt8)).flatten) 168 0 (rdN m)))), (71, AsrT.own [(some p37_11)] 111 w43.heap.size 31 [a]), (72, AsrT.own [(some p37_11)] 112 w43.heap.size 5 (((sqL (soakK 168 31 ([l] : List (List UInt8)).flatten) 168 (shN m))).map fun x => B x)), (73, AsrT.v [(some p37_11)] 113 (Str (sqL (soakK 168 31 ([l] : List (List UInt8)).flatten) 168 (shN m))))] [67, 68, 71, 72, 73] [107, 108, 111, 112, 113] [[], [0], [], [0, 2], [0, 2, 3]] [[], [67], [67], [67], [67]] [(67, [(some p37_11)])] [67] rfl rfl rfl rfl ⟨(fun p hp hne x hx => by simp only [List.mem_singleton] at hp; subst hp; first | exact absurd rfl hne | exact hx), (fun p hp hne x hx => by simp only [List.mem_singleton] at hp; subst hp; first | exact absurd rfl hne | exact hx), (fun p hp hne x hx => by simp only [List.mem_singleton] at hp; subst hp; first | exact absurd rfl hne | exact hx), (fun p hp hne x hx => by simp only [List.mem_singleton] at hp; subst hp; first | exact absurd rfl hne | exact hx), (fun p hp hne x hx => by simp only [List.mem_singleton] at hp; subst hp; first | exact absurd rfl hne | exact hx), trivial⟩ (by kernel_rfl) ?_
        refine J.at_in [0, 1, 2, 3, 4] rfl (by rfl) ⟨?_, ?_, ?_, ?_, ?_, trivial⟩ ?_
        · skip
          intro w44 x1
          have x1 : Tn [] w43 w44 := x1
          have xs1 := x1.size
          have x1 := Tn.nil x1
          have e0 := e0.trans x1
          have o28_5 := o28_5.ext x1
          have os29_6 := os29_6.ext x1
          have o36_10 := o36_10.ext x1
          have cb37_11 := cb37_11.ext x1
          have cp37_11 := cp37_11.ext x1
          have o51_18 := o51_18.ext x1
          have ro50_18 := ro50_18.ext x1
          have o65_27 := o65_27.ext x1
          have o69_27 := o69_27.ext x1
          have ro64_27 := ro64_27.ext x1
          have ro68_27 := ro68_27.ext x1
          have o82_36 := o82_36.ext x1
          have o87_36 := o87_36.ext x1
          have ro81_36 := ro81_36.ext x1
          have ro86_36 := ro86_36.ext x1
          have o95_43 := o95_43.ext x1
          have o100_43 := o100_43.ext x1
          have ro94_43 := ro94_43.ext x1
          have ro99_43 := ro99_43.ext x1
          clear x1
          refine PremT.nil ?_
          exact OpYeT.mkg rfl rfl rfl rfl ((Ye.call cl21 rfl (RRead_ok (soakK_len _ _ _) cb37_11 cp37_11 ap_p37_11_b37_11)).mono fun v w2 h => ⟨⟨v, rfl, fun w3 ht => ⟨(Ow.base h.1 xs1).ext ht.nil, Cel.ext h.2.1 ht.nil⟩⟩, h.2.2⟩)
        · skip
          intro w45 x1
          refine PremT.a rfl fun x107_ hx107_ => ?_
          have hx107_ := hx107_ _ (Tn.refl _ _)
          obtain ⟨o107_n, cX107_n⟩ := hx107_
          have ap_s29_6_x107_ : Ap s29_6.ownBlock x107_.ownBlock := Ap.mk (Ow.live os29_6) (Ow.fr o107_n)
          have ap_b37_11_x107_ : Ap (some b37_11) x107_.ownBlock := Ap.mk (Cel.live cb37_11) (Ow.fr o107_n)
          have ap_p37_11_x107_ : Ap (some p37_11) x107_.ownBlock := Ap.mk (Cel.live cp37_11) (Ow.fr o107_n)
          have ap_s51_18_x107_ : Ap s51_18.ownBlock x107_.ownBlock := Ap.mk (Ow.live o51_18) (Ow.fr o107_n)
          have ap_s65_27_x107_ : Ap s65_27.ownBlock x107_.ownBlock := Ap.mk (Ow.live o65_27) (Ow.fr o107_n)
          have ap_s69_27_x107_ : Ap s69_27.ownBlock x107_.ownBlock := Ap.mk (Ow.live o69_27) (Ow.fr o107_n)
          have ap_s82_36_x107_ : Ap s82_36.ownBlock x107_.ownBlock := Ap.mk (Ow.live o82_36) (Ow.fr o107_n)
          have ap_s87_36_x107_ : Ap s87_36.ownBlock x107_.ownBlock := Ap.mk (Ow.live o87_36) (Ow.fr o107_n)
          have ap_s95_43_x107_ : Ap s95_43.ownBlock x107_.ownBlock := Ap.mk (Ow.live o95_43) (Ow.fr o107_n)
          have ap_s100_43_x107_ : Ap s100_43.ownBlock x107_.ownBlock := Ap.mk (Ow.live o100_43) (Ow.fr o107_n)
          have fr_x107_ : Fr w.heap.size x107_.ownBlock := Fr.le (Ow.fr o107_n) e0.size
          replace o107_n := Ow.base o107_n e0.size
          have x1 : Tn [(some p37_11)] w43 w45 := x1
          have xs1 := x1.size
          have os29_6 := Ow.tnk os29_6 x1 (ApL.one ap_s29_6_p37_11)
          have cb37_11 := Cel.tnk cb37_11 x1 (ApL.one (Ap.symm ap_p37_11_b37_11))
          have o51_18 := Ow.tnk o51_18 x1 (ApL.one (Ap.symm ap_p37_11_s51_18))
          have o65_27 := Ow.tnk o65_27 x1 (ApL.one (Ap.symm ap_p37_11_s65_27))
          have o69_27 := Ow.tnk o69_27 x1 (ApL.one (Ap.symm ap_p37_11_s69_27))
          have o82_36 := Ow.tnk o82_36 x1 (ApL.one (Ap.symm ap_p37_11_s82_36))
          have o87_36 := Ow.tnk o87_36 x1 (ApL.one (Ap.symm ap_p37_11_s87_36))
          have o95_43 := Ow.tnk o95_43 x1 (ApL.one (Ap.symm ap_p37_11_s95_43))
          have o100_43 := Ow.tnk o100_43 x1 (ApL.one (Ap.symm ap_p37_11_s100_43))
          have e0 := Ext.tnk e0 (fun q hq => by simp only [List.mem_singleton] at hq; subst hq; exact fr_p37_11) x1
          clear x1
          refine PremT.nil ?_
          exact OpYeT.valg rfl rfl rfl rfl (Yd.bstr Try.underlying31 Try.underlying5 Try.underlying9 rfl (Ow.rd o107_n))
        · skip
          intro w46 x1
          have x1 : Tn [(some p37_11)] w43 w46 := x1
          have xs1 := x1.size
          have os29_6 := Ow.tnk os29_6 x1 (ApL.one ap_s29_6_p37_11)
          have cb37_11 := Cel.tnk cb37_11 x1 (ApL.one (Ap.symm ap_p37_11_b37_11))
          have o51_18 := Ow.tnk o51_18 x1 (ApL.one (Ap.symm ap_p37_11_s51_18))
          have o65_27 := Ow.tnk o65_27 x1 (ApL.one (Ap.symm ap_p37_11_s65_27))
          have o69_27 := Ow.tnk o69_27 x1 (ApL.one (Ap.symm ap_p37_11_s69_27))
          have o82_36 := Ow.tnk o82_36 x1 (ApL.one (Ap.symm ap_p37_11_s82_36))
          have o87_36 := Ow.tnk o87_36 x1 (ApL.one (Ap.symm ap_p37_11_s87_36))
          have o95_43 := Ow.tnk o95_43 x1 (ApL.one (Ap.symm ap_p37_11_s95_43))
          have o100_43 := Ow.tnk o100_43 x1 (ApL.one (Ap.symm ap_p37_11_s100_43))
          have e0 := Ext.tnk e0 (fun q hq => by simp only [List.mem_singleton] at hq; subst hq; exact fr_p37_11) x1
          clear x1
          refine PremT.nil ?_
          exact OpYeT.mkg rfl rfl rfl rfl ((Ye.lit (base := w43.heap.size) (vs := [a]) Try.underlying29 ti31 rfl rfl rfl rfl (by intro v_ hv_; simp only [List.mem_cons, List.mem_nil_iff, or_false] at hv_; subst hv_; exact Rd.cells (Rd.ext ha e0)) rfl xs1).mono fun v w2 h => ⟨⟨v, rfl, own_cl h.1 lolAT⟩, Ext.tn h.2 _⟩)
        · skip
          intro w47 x1
          refine PremT.a rfl fun x107_ hx107_ => ?_
          have hx107_ := hx107_ _ (Tn.refl _ _)
          obtain ⟨o107_n, cX107_n⟩ := hx107_
          have ap_s29_6_x107_ : Ap s29_6.ownBlock x107_.ownBlock := Ap.mk (Ow.live os29_6) (Ow.fr o107_n)
          have ap_b37_11_x107_ : Ap (some b37_11) x107_.ownBlock := Ap.mk (Cel.live cb37_11) (Ow.fr o107_n)
          have ap_p37_11_x107_ : Ap (some p37_11) x107_.ownBlock := Ap.mk (Cel.live cp37_11) (Ow.fr o107_n)
          have ap_s51_18_x107_ : Ap s51_18.ownBlock x107_.ownBlock := Ap.mk (Ow.live o51_18) (Ow.fr o107_n)
          have ap_s65_27_x107_ : Ap s65_27.ownBlock x107_.ownBlock := Ap.mk (Ow.live o65_27) (Ow.fr o107_n)
          have ap_s69_27_x107_ : Ap s69_27.ownBlock x107_.ownBlock := Ap.mk (Ow.live o69_27) (Ow.fr o107_n)
          have ap_s82_36_x107_ : Ap s82_36.ownBlock x107_.ownBlock := Ap.mk (Ow.live o82_36) (Ow.fr o107_n)
          have ap_s87_36_x107_ : Ap s87_36.ownBlock x107_.ownBlock := Ap.mk (Ow.live o87_36) (Ow.fr o107_n)
          have ap_s95_43_x107_ : Ap s95_43.ownBlock x107_.ownBlock := Ap.mk (Ow.live o95_43) (Ow.fr o107_n)
          have ap_s100_43_x107_ : Ap s100_43.ownBlock x107_.ownBlock := Ap.mk (Ow.live o100_43) (Ow.fr o107_n)
          have fr_x107_ : Fr w.heap.size x107_.ownBlock := Fr.le (Ow.fr o107_n) e0.size
          replace o107_n := Ow.base o107_n e0.size
          refine PremT.a rfl fun s111_47 o111_47 => ?_
          have o111_47 := o111_47 _ (Tn.refl _ _)
          have ap_s29_6_s111_47 : Ap s29_6.ownBlock s111_47.ownBlock := Ap.mk (Ow.live os29_6) (Ow.fr o111_47)
          have ap_b37_11_s111_47 : Ap (some b37_11) s111_47.ownBlock := Ap.mk (Cel.live cb37_11) (Ow.fr o111_47)
          have ap_p37_11_s111_47 : Ap (some p37_11) s111_47.ownBlock := Ap.mk (Cel.live cp37_11) (Ow.fr o111_47)
          have ap_s51_18_s111_47 : Ap s51_18.ownBlock s111_47.ownBlock := Ap.mk (Ow.live o51_18) (Ow.fr o111_47)
          have ap_s65_27_s111_47 : Ap s65_27.ownBlock s111_47.ownBlock := Ap.mk (Ow.live o65_27) (Ow.fr o111_47)
          have ap_s69_27_s111_47 : Ap s69_27.ownBlock s111_47.ownBlock := Ap.mk (Ow.live o69_27) (Ow.fr o111_47)
          have ap_s82_36_s111_47 : Ap s82_36.ownBlock s111_47.ownBlock := Ap.mk (Ow.live o82_36) (Ow.fr o111_47)
          have ap_s87_36_s111_47 : Ap s87_36.ownBlock s111_47.ownBlock := Ap.mk (Ow.live o87_36) (Ow.fr o111_47)
          have ap_s95_43_s111_47 : Ap s95_43.ownBlock s111_47.ownBlock := Ap.mk (Ow.live o95_43) (Ow.fr o111_47)
          have ap_s100_43_s111_47 : Ap s100_43.ownBlock s111_47.ownBlock := Ap.mk (Ow.live o100_43) (Ow.fr o111_47)
          have fr_s111_47 : Fr w.heap.size s111_47.ownBlock := Fr.le (Ow.fr o111_47) e0.size
          have x1 : Tn [(some p37_11)] w43 w47 := x1
          have xs1 := x1.size
          have os29_6 := Ow.tnk os29_6 x1 (ApL.one ap_s29_6_p37_11)
          have cb37_11 := Cel.tnk cb37_11 x1 (ApL.one (Ap.symm ap_p37_11_b37_11))
          have o51_18 := Ow.tnk o51_18 x1 (ApL.one (Ap.symm ap_p37_11_s51_18))
          have o65_27 := Ow.tnk o65_27 x1 (ApL.one (Ap.symm ap_p37_11_s65_27))
          have o69_27 := Ow.tnk o69_27 x1 (ApL.one (Ap.symm ap_p37_11_s69_27))
          have o82_36 := Ow.tnk o82_36 x1 (ApL.one (Ap.symm ap_p37_11_s82_36))
          have o87_36 := Ow.tnk o87_36 x1 (ApL.one (Ap.symm ap_p37_11_s87_36))
          have o95_43 := Ow.tnk o95_43 x1 (ApL.one (Ap.symm ap_p37_11_s95_43))
          have o100_43 := Ow.tnk o100_43 x1 (ApL.one (Ap.symm ap_p37_11_s100_43))
          have e0 := Ext.tnk e0 (fun q hq => by simp only [List.mem_singleton] at hq; subst hq; exact fr_p37_11) x1
          have ro111_47 := Rl.one (Ow.rd o111_47) (Rd.ext ha e0)
          clear x1
          refine PremT.nil ?_
          exact OpYeT.mkg rfl rfl rfl rfl ((Ye.call cl17 rfl (Shake128_ok ro111_47 (by first | omega | (rw [hf2]; omega) | (rw [hf3]; omega) | (rw [hf1]; omega) | (rw [hf0]; omega) | (simp only [List.flatten_cons, List.flatten_nil, List.append_nil]; omega)))).mono fun v w2 h => ⟨⟨v, rfl, own_cl (Ow.base h.1 xs1) lolAT⟩, Ext.tn h.2 _⟩)
        · skip
          intro w48 x1
          refine PremT.a rfl fun x107_ hx107_ => ?_
          have hx107_ := hx107_ _ (Tn.refl _ _)
          obtain ⟨o107_n, cX107_n⟩ := hx107_
          have ap_s29_6_x107_ : Ap s29_6.ownBlock x107_.ownBlock := Ap.mk (Ow.live os29_6) (Ow.fr o107_n)
          have ap_b37_11_x107_ : Ap (some b37_11) x107_.ownBlock := Ap.mk (Cel.live cb37_11) (Ow.fr o107_n)
          have ap_p37_11_x107_ : Ap (some p37_11) x107_.ownBlock := Ap.mk (Cel.live cp37_11) (Ow.fr o107_n)
          have ap_s51_18_x107_ : Ap s51_18.ownBlock x107_.ownBlock := Ap.mk (Ow.live o51_18) (Ow.fr o107_n)
          have ap_s65_27_x107_ : Ap s65_27.ownBlock x107_.ownBlock := Ap.mk (Ow.live o65_27) (Ow.fr o107_n)
          have ap_s69_27_x107_ : Ap s69_27.ownBlock x107_.ownBlock := Ap.mk (Ow.live o69_27) (Ow.fr o107_n)
          have ap_s82_36_x107_ : Ap s82_36.ownBlock x107_.ownBlock := Ap.mk (Ow.live o82_36) (Ow.fr o107_n)
          have ap_s87_36_x107_ : Ap s87_36.ownBlock x107_.ownBlock := Ap.mk (Ow.live o87_36) (Ow.fr o107_n)
          have ap_s95_43_x107_ : Ap s95_43.ownBlock x107_.ownBlock := Ap.mk (Ow.live o95_43) (Ow.fr o107_n)
          have ap_s100_43_x107_ : Ap s100_43.ownBlock x107_.ownBlock := Ap.mk (Ow.live o100_43) (Ow.fr o107_n)
          have fr_x107_ : Fr w.heap.size x107_.ownBlock := Fr.le (Ow.fr o107_n) e0.size
          replace o107_n := Ow.base o107_n e0.size
          refine PremT.a rfl fun s111_48 o111_48 => ?_
          have o111_48 := o111_48 _ (Tn.refl _ _)
          have ap_s29_6_s111_48 : Ap s29_6.ownBlock s111_48.ownBlock := Ap.mk (Ow.live os29_6) (Ow.fr o111_48)
          have ap_b37_11_s111_48 : Ap (some b37_11) s111_48.ownBlock := Ap.mk (Cel.live cb37_11) (Ow.fr o111_48)
          have ap_p37_11_s111_48 : Ap (some p37_11) s111_48.ownBlock := Ap.mk (Cel.live cp37_11) (Ow.fr o111_48)
          have ap_s51_18_s111_48 : Ap s51_18.ownBlock s111_48.ownBlock := Ap.mk (Ow.live o51_18) (Ow.fr o111_48)
          have ap_s65_27_s111_48 : Ap s65_27.ownBlock s111_48.ownBlock := Ap.mk (Ow.live o65_27) (Ow.fr o111_48)
          have ap_s69_27_s111_48 : Ap s69_27.ownBlock s111_48.ownBlock := Ap.mk (Ow.live o69_27) (Ow.fr o111_48)
          have ap_s82_36_s111_48 : Ap s82_36.ownBlock s111_48.ownBlock := Ap.mk (Ow.live o82_36) (Ow.fr o111_48)
          have ap_s87_36_s111_48 : Ap s87_36.ownBlock s111_48.ownBlock := Ap.mk (Ow.live o87_36) (Ow.fr o111_48)
          have ap_s95_43_s111_48 : Ap s95_43.ownBlock s111_48.ownBlock := Ap.mk (Ow.live o95_43) (Ow.fr o111_48)
          have ap_s100_43_s111_48 : Ap s100_43.ownBlock s111_48.ownBlock := Ap.mk (Ow.live o100_43) (Ow.fr o111_48)
          have fr_s111_48 : Fr w.heap.size s111_48.ownBlock := Fr.le (Ow.fr o111_48) e0.size
          refine PremT.a rfl fun s112_48 o112_48 => ?_
          have o112_48 := o112_48 _ (Tn.refl _ _)
          have ap_s29_6_s112_48 : Ap s29_6.ownBlock s112_48.ownBlock := Ap.mk (Ow.live os29_6) (Ow.fr o112_48)
          have ap_b37_11_s112_48 : Ap (some b37_11) s112_48.ownBlock := Ap.mk (Cel.live cb37_11) (Ow.fr o112_48)
          have ap_p37_11_s112_48 : Ap (some p37_11) s112_48.ownBlock := Ap.mk (Cel.live cp37_11) (Ow.fr o112_48)
          have ap_s51_18_s112_48 : Ap s51_18.ownBlock s112_48.ownBlock := Ap.mk (Ow.live o51_18) (Ow.fr o112_48)
          have ap_s65_27_s112_48 : Ap s65_27.ownBlock s112_48.ownBlock := Ap.mk (Ow.live o65_27) (Ow.fr o112_48)
          have ap_s69_27_s112_48 : Ap s69_27.ownBlock s112_48.ownBlock := Ap.mk (Ow.live o69_27) (Ow.fr o112_48)
          have ap_s82_36_s112_48 : Ap s82_36.ownBlock s112_48.ownBlock := Ap.mk (Ow.live o82_36) (Ow.fr o112_48)
          have ap_s87_36_s112_48 : Ap s87_36.ownBlock s112_48.ownBlock := Ap.mk (Ow.live o87_36) (Ow.fr o112_48)
          have ap_s95_43_s112_48 : Ap s95_43.ownBlock s112_48.ownBlock := Ap.mk (Ow.live o95_43) (Ow.fr o112_48)
          have ap_s100_43_s112_48 : Ap s100_43.ownBlock s112_48.ownBlock := Ap.mk (Ow.live o100_43) (Ow.fr o112_48)
          have fr_s112_48 : Fr w.heap.size s112_48.ownBlock := Fr.le (Ow.fr o112_48) e0.size
          replace o112_48 := Ow.base o112_48 e0.size
          have x1 : Tn [(some p37_11)] w43 w48 := x1
          have xs1 := x1.size
          have os29_6 := Ow.tnk os29_6 x1 (ApL.one ap_s29_6_p37_11)
          have cb37_11 := Cel.tnk cb37_11 x1 (ApL.one (Ap.symm ap_p37_11_b37_11))
          have o51_18 := Ow.tnk o51_18 x1 (ApL.one (Ap.symm ap_p37_11_s51_18))
          have o65_27 := Ow.tnk o65_27 x1 (ApL.one (Ap.symm ap_p37_11_s65_27))
          have o69_27 := Ow.tnk o69_27 x1 (ApL.one (Ap.symm ap_p37_11_s69_27))
          have o82_36 := Ow.tnk o82_36 x1 (ApL.one (Ap.symm ap_p37_11_s82_36))
          have o87_36 := Ow.tnk o87_36 x1 (ApL.one (Ap.symm ap_p37_11_s87_36))
          have o95_43 := Ow.tnk o95_43 x1 (ApL.one (Ap.symm ap_p37_11_s95_43))
          have o100_43 := Ow.tnk o100_43 x1 (ApL.one (Ap.symm ap_p37_11_s100_43))
          have e0 := Ext.tnk e0 (fun q hq => by simp only [List.mem_singleton] at hq; subst hq; exact fr_p37_11) x1
          have ro111_48 := Rl.one (Ow.rd o111_48) (Rd.ext ha e0)
          clear x1
          refine PremT.nil ?_
          exact OpYeT.valg rfl rfl rfl rfl (Yd.bstr Try.underlying31 Try.underlying5 Try.underlying9 rfl (Ow.rd o112_48))
        intro w49 x1
        refine PremT.a rfl fun x107_ hx107_ => ?_
        have hx107_ := hx107_ _ (Tn.refl _ _)
        obtain ⟨o107_n, cX107_n⟩ := hx107_
        have ap_s29_6_x107_ : Ap s29_6.ownBlock x107_.ownBlock := Ap.mk (Ow.live os29_6) (Ow.fr o107_n)
        have ap_b37_11_x107_ : Ap (some b37_11) x107_.ownBlock := Ap.mk (Cel.live cb37_11) (Ow.fr o107_n)
        have ap_p37_11_x107_ : Ap (some p37_11) x107_.ownBlock := Ap.mk (Cel.live cp37_11) (Ow.fr o107_n)
        have ap_s51_18_x107_ : Ap s51_18.ownBlock x107_.ownBlock := Ap.mk (Ow.live o51_18) (Ow.fr o107_n)
        have ap_s65_27_x107_ : Ap s65_27.ownBlock x107_.ownBlock := Ap.mk (Ow.live o65_27) (Ow.fr o107_n)
        have ap_s69_27_x107_ : Ap s69_27.ownBlock x107_.ownBlock := Ap.mk (Ow.live o69_27) (Ow.fr o107_n)
        have ap_s82_36_x107_ : Ap s82_36.ownBlock x107_.ownBlock := Ap.mk (Ow.live o82_36) (Ow.fr o107_n)
        have ap_s87_36_x107_ : Ap s87_36.ownBlock x107_.ownBlock := Ap.mk (Ow.live o87_36) (Ow.fr o107_n)
        have ap_s95_43_x107_ : Ap s95_43.ownBlock x107_.ownBlock := Ap.mk (Ow.live o95_43) (Ow.fr o107_n)
        have ap_s100_43_x107_ : Ap s100_43.ownBlock x107_.ownBlock := Ap.mk (Ow.live o100_43) (Ow.fr o107_n)
        have fr_x107_ : Fr w.heap.size x107_.ownBlock := Fr.le (Ow.fr o107_n) e0.size
        replace o107_n := Ow.base o107_n e0.size
        refine PremT.v rfl ?_
        refine PremT.a rfl fun s111_49 o111_49 => ?_
        have o111_49 := o111_49 _ (Tn.refl _ _)
        have ap_s29_6_s111_49 : Ap s29_6.ownBlock s111_49.ownBlock := Ap.mk (Ow.live os29_6) (Ow.fr o111_49)
        have ap_b37_11_s111_49 : Ap (some b37_11) s111_49.ownBlock := Ap.mk (Cel.live cb37_11) (Ow.fr o111_49)
        have ap_p37_11_s111_49 : Ap (some p37_11) s111_49.ownBlock := Ap.mk (Cel.live cp37_11) (Ow.fr o111_49)
        have ap_s51_18_s111_49 : Ap s51_18.ownBlock s111_49.ownBlock := Ap.mk (Ow.live o51_18) (Ow.fr o111_49)
        have ap_s65_27_s111_49 : Ap s65_27.ownBlock s111_49.ownBlock := Ap.mk (Ow.live o65_27) (Ow.fr o111_49)
        have ap_s69_27_s111_49 : Ap s69_27.ownBlock s111_49.ownBlock := Ap.mk (Ow.live o69_27) (Ow.fr o111_49)
        have ap_s82_36_s111_49 : Ap s82_36.ownBlock s111_49.ownBlock := Ap.mk (Ow.live o82_36) (Ow.fr o111_49)
        have ap_s87_36_s111_49 : Ap s87_36.ownBlock s111_49.ownBlock := Ap.mk (Ow.live o87_36) (Ow.fr o111_49)
        have ap_s95_43_s111_49 : Ap s95_43.ownBlock s111_49.ownBlock := Ap.mk (Ow.live o95_43) (Ow.fr o111_49)
        have ap_s100_43_s111_49 : Ap s100_43.ownBlock s111_49.ownBlock := Ap.mk (Ow.live o100_43) (Ow.fr o111_49)
        have fr_s111_49 : Fr w.heap.size s111_49.ownBlock := Fr.le (Ow.fr o111_49) e0.size
        refine PremT.a rfl fun s112_49 o112_49 => ?_
        have o112_49 := o112_49 _ (Tn.refl _ _)
        have ap_s29_6_s112_49 : Ap s29_6.ownBlock s112_49.ownBlock := Ap.mk (Ow.live os29_6) (Ow.fr o112_49)
        have ap_b37_11_s112_49 : Ap (some b37_11) s112_49.ownBlock := Ap.mk (Cel.live cb37_11) (Ow.fr o112_49)
        have ap_p37_11_s112_49 : Ap (some p37_11) s112_49.ownBlock := Ap.mk (Cel.live cp37_11) (Ow.fr o112_49)
        have ap_s51_18_s112_49 : Ap s51_18.ownBlock s112_49.ownBlock := Ap.mk (Ow.live o51_18) (Ow.fr o112_49)
        have ap_s65_27_s112_49 : Ap s65_27.ownBlock s112_49.ownBlock := Ap.mk (Ow.live o65_27) (Ow.fr o112_49)
        have ap_s69_27_s112_49 : Ap s69_27.ownBlock s112_49.ownBlock := Ap.mk (Ow.live o69_27) (Ow.fr o112_49)
        have ap_s82_36_s112_49 : Ap s82_36.ownBlock s112_49.ownBlock := Ap.mk (Ow.live o82_36) (Ow.fr o112_49)
        have ap_s87_36_s112_49 : Ap s87_36.ownBlock s112_49.ownBlock := Ap.mk (Ow.live o87_36) (Ow.fr o112_49)
        have ap_s95_43_s112_49 : Ap s95_43.ownBlock s112_49.ownBlock := Ap.mk (Ow.live o95_43) (Ow.fr o112_49)
        have ap_s100_43_s112_49 : Ap s100_43.ownBlock s112_49.ownBlock := Ap.mk (Ow.live o100_43) (Ow.fr o112_49)
        have fr_s112_49 : Fr w.heap.size s112_49.ownBlock := Fr.le (Ow.fr o112_49) e0.size
        replace o112_49 := Ow.base o112_49 e0.size
        refine PremT.v rfl ?_
        have x1 : Tn [(some p37_11)] w43 w49 := x1
        have xs1 := x1.size
        have os29_6 := Ow.tnk os29_6 x1 (ApL.one ap_s29_6_p37_11)
        have cb37_11 := Cel.tnk cb37_11 x1 (ApL.one (Ap.symm ap_p37_11_b37_11))
        have o51_18 := Ow.tnk o51_18 x1 (ApL.one (Ap.symm ap_p37_11_s51_18))
        have o65_27 := Ow.tnk o65_27 x1 (ApL.one (Ap.symm ap_p37_11_s65_27))
        have o69_27 := Ow.tnk o69_27 x1 (ApL.one (Ap.symm ap_p37_11_s69_27))
        have o82_36 := Ow.tnk o82_36 x1 (ApL.one (Ap.symm ap_p37_11_s82_36))
        have o87_36 := Ow.tnk o87_36 x1 (ApL.one (Ap.symm ap_p37_11_s87_36))
        have o95_43 := Ow.tnk o95_43 x1 (ApL.one (Ap.symm ap_p37_11_s95_43))
        have o100_43 := Ow.tnk o100_43 x1 (ApL.one (Ap.symm ap_p37_11_s100_43))
        have e0 := Ext.tnk e0 (fun q hq => by simp only [List.mem_singleton] at hq; subst hq; exact fr_p37_11) x1
        have ro111_49 := Rl.one (Ow.rd o111_49) (Rd.ext ha e0)
        replace cp37_11 := cX107_n
        clear cX107_n
        clear x1
        refine PremT.nil ?_
        refine J.rg_seq (m := 0) [(74, true), (75, true), (76, true), (77, false), (78, true), (79, true)] rfl (by kernel_rfl) ?_
        refine J.s_op_g rfl rfl rfl rfl (fun _ => Yd.seq rfl rfl) rfl ?_
        refine J.s_op rfl (fun _ => Yd.pick_t rfl rfl) rfl ?_
        refine J.s_op rfl (fun _ => Yd.move rfl) rfl ?_
        refine J.know (t := 116) (v' := .bool true) rfl (tt (by rw [hf3, hf1, rdN_yes (by omega), shN_of (by omega)]; rfl)) ?_
        refine J.s_eff_g rfl rfl rfl rfl (Ye.call cl11 rfl (awake_ok)) rfl ?_
        rintro _ w50 ⟨rfl, x1⟩
        have e0 := e0.trans x1
        have os29_6 := os29_6.ext x1
        have cb37_11 := cb37_11.ext x1
        have cp37_11 := cp37_11.ext x1
        have o51_18 := o51_18.ext x1
        have o65_27 := o65_27.ext x1
        have o69_27 := o69_27.ext x1
        have o82_36 := o82_36.ext x1
        have o87_36 := o87_36.ext x1
        have o95_43 := o95_43.ext x1
        have o100_43 := o100_43.ext x1
        have o107_n := o107_n.ext x1
        have o112_49 := o112_49.ext x1
        have ro111_49 := ro111_49.ext x1
        clear x1
        refine J.s_op rfl (fun _ => Yd.pick_t rfl rfl) rfl ?_
        refine J.s_op rfl (fun _ => Yd.assign rfl) rfl ?_
        refine J.s_nil ?_
        refine J.rg_nil (by kernel_rfl) ?_
        refine J.n_np ?_
        refine J.n_then ?_
        refine J.ret ?_
        exact J.ret1 rfl rfl (⟨_, rfl, rfl, e0⟩)
end Ytpcbkeikhojmbaa
end Go.Proofs
