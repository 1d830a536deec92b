import Derived.Test.YtpcbkeikhojmbaaT
import Derived.Test.YtpcbkeikhojmbaaX20
import Derived.Test.YtpcbkeikhojmbaaK8
set_option linter.unusedVariables false
set_option linter.unusedSimpArgs false
set_option maxRecDepth 100000
set_option maxHeartbeats 4000000
namespace Go.Proofs
open Go.X Go.RowKit
namespace Ytpcbkeikhojmbaa
theorem Sha3Reads_ok {a v : Value} {l : List UInt8} {xs : List Int} {n m : Int} {w : World} (ha : Bs w a l) (hv : Rd w v (xs.map fun x => I x)) : C Try.prog 5 [a, v, I n, I m] w (Ret fun v w' => v = .bool true ∧ Ext w w') := by
  have e0 := Ext.refl w
  refine C.enter Try.func5 rfl Try.ntmps5 rfl ?_
  refine J.seq ?_
  refine J.region ?_
  refine J.op (Yd.assign rfl) rfl ?_
  refine J.nil ?_
  refine J.n_then ?_
  refine J.seq ?_
  refine J.seq ?_
  refine J.region ?_
  refine J.op (Yd.move rfl) rfl ?_
  refine J.op (Yd.len_b Try.underlying31 rfl ha) rfl ?_
  refine J.op (Yd.gtr rfl rfl) rfl ?_
  refine J.op (Yd.move rfl) rfl ?_
  refine J.split_dec (t := 20) rfl (fun h1 => ?_) (fun h1 => ?_)
  · skip
    refine J.not_g rfl rfl rfl rfl rfl ?_
    refine J.not_g rfl rfl rfl rfl rfl ?_
    refine J.not_g rfl rfl rfl rfl rfl ?_
    refine J.op (Yd.pick_t rfl rfl) rfl ?_
    refine J.op (Yd.move rfl) rfl ?_
    refine J.not_g rfl rfl rfl rfl rfl ?_
    refine J.not_g rfl rfl rfl rfl rfl ?_
    refine J.op (Yd.pick_t rfl rfl) rfl ?_
    refine J.op (Yd.move rfl) rfl ?_
    refine J.not_g rfl rfl rfl rfl rfl ?_
    refine J.not_g rfl rfl rfl rfl rfl ?_
    refine J.op (Yd.pick_t rfl rfl) rfl ?_
    refine J.op (Yd.move rfl) rfl ?_
    refine J.not_g rfl rfl rfl rfl rfl ?_
    refine J.not_g rfl rfl rfl rfl rfl ?_
    refine J.not_g rfl rfl rfl rfl rfl ?_
    refine J.op (Yd.pick_t rfl rfl) rfl ?_
    refine J.op (Yd.move rfl) rfl ?_
    refine J.not_g rfl rfl rfl rfl rfl ?_
    refine J.not_g rfl rfl rfl rfl rfl ?_
    refine J.op (Yd.pick_t rfl rfl) rfl ?_
    refine J.nil ?_
    refine J.n_then ?_
    refine J.cond_true rfl ?_
    refine J.seq ?_
    refine J.region ?_
    refine J.eff (Ye.call cl11 rfl (awake_ok)) rfl ?_
    rintro _ w1 ⟨rfl, x1⟩
    have e0 := e0.trans x1
    clear x1
    refine J.op (Yd.assign rfl) rfl ?_
    refine J.nil ?_
    refine J.n_then ?_
    refine J.ret ?_
    refine J.r_then ?_
    exact J.ret1 rfl rfl (⟨_, rfl, rfl, e0⟩)
  · skip
    refine J.op_g rfl rfl rfl (Yd.move rfl) rfl ?_
    refine J.op_g rfl rfl rfl (Yd.len_m Try.underlying38 rfl hv) rfl ?_
    refine J.op_g rfl rfl rfl (Yd.gtr rfl rfl) rfl ?_
    refine J.op (Yd.pick_f rfl rfl) rfl ?_
    refine J.op (Yd.move rfl) rfl ?_
    refine J.split_dec (t := 25) rfl (fun h2 => ?_) (fun h2 => ?_)
    · skip
      refine J.not_g rfl rfl rfl rfl rfl ?_
      refine J.not_g rfl rfl rfl rfl rfl ?_
      refine J.op (Yd.pick_t rfl rfl) rfl ?_
      refine J.op (Yd.move rfl) rfl ?_
      refine J.not_g rfl rfl rfl rfl rfl ?_
      refine J.not_g rfl rfl rfl rfl rfl ?_
      refine J.op (Yd.pick_t rfl rfl) rfl ?_
      refine J.op (Yd.move rfl) rfl ?_
      refine J.not_g rfl rfl rfl rfl rfl ?_
      refine J.not_g rfl rfl rfl rfl rfl ?_
      refine J.not_g rfl rfl rfl rfl rfl ?_
      refine J.op (Yd.pick_t rfl rfl) rfl ?_
      refine J.op (Yd.move rfl) rfl ?_
      refine J.not_g rfl rfl rfl rfl rfl ?_
      refine J.not_g rfl rfl rfl rfl rfl ?_
      refine J.op (Yd.pick_t rfl rfl) rfl ?_
      refine J.nil ?_
      refine J.n_then ?_
      refine J.cond_true rfl ?_
      refine J.seq ?_
      refine J.region ?_
      refine J.eff (Ye.call cl11 rfl (awake_ok)) rfl ?_
      rintro _ w2 ⟨rfl, x1⟩
      have e0 := e0.trans x1
      clear x1
      refine J.op (Yd.assign rfl) rfl ?_
      refine J.nil ?_
      refine J.n_then ?_
      refine J.ret ?_
      refine J.r_then ?_
      exact J.ret1 rfl rfl (⟨_, rfl, rfl, e0⟩)
    · skip
      refine J.op_g rfl rfl rfl (Yd.move rfl) rfl ?_
      refine J.op_g rfl rfl rfl (Yd.lss rfl rfl) rfl ?_
      refine J.op (Yd.pick_f rfl rfl) rfl ?_
      refine J.op (Yd.move rfl) rfl ?_
      refine J.split_dec (t := 29) rfl (fun h3 => ?_) (fun h3 => ?_)
      · skip
        refine J.not_g rfl rfl rfl rfl rfl ?_
        refine J.not_g rfl rfl rfl rfl rfl ?_
        refine J.op (Yd.pick_t rfl rfl) rfl ?_
        refine J.op (Yd.move rfl) rfl ?_
        refine J.not_g rfl rfl rfl rfl rfl ?_
        refine J.not_g rfl rfl rfl rfl rfl ?_
        refine J.not_g rfl rfl rfl rfl rfl ?_
        refine J.op (Yd.pick_t rfl rfl) rfl ?_
        refine J.op (Yd.move rfl) rfl ?_
        refine J.not_g rfl rfl rfl rfl rfl ?_
        refine J.not_g rfl rfl rfl rfl rfl ?_
        refine J.op (Yd.pick_t rfl rfl) rfl ?_
        refine J.nil ?_
        refine J.n_then ?_
        refine J.cond_true rfl ?_
        refine J.seq ?_
        refine J.region ?_
        refine J.eff (Ye.call cl11 rfl (awake_ok)) rfl ?_
        rintro _ w3 ⟨rfl, x1⟩
        have e0 := e0.trans x1
        clear x1
        refine J.op (Yd.assign rfl) rfl ?_
        refine J.nil ?_
        refine J.n_then ?_
        refine J.ret ?_
        refine J.r_then ?_
        exact J.ret1 rfl rfl (⟨_, rfl, rfl, e0⟩)
      · skip
        refine J.op_g rfl rfl rfl (Yd.move rfl) rfl ?_
        refine J.op_g rfl rfl rfl (Yd.gtr rfl rfl) rfl ?_
        refine J.op (Yd.pick_f rfl rfl) rfl ?_
        refine J.op (Yd.move rfl) rfl ?_
        refine J.split_dec (t := 33) rfl (fun h4 => ?_) (fun h4 => ?_)
        · skip
          refine J.not_g rfl rfl rfl rfl rfl ?_
          refine J.not_g rfl rfl rfl rfl rfl ?_
          refine J.not_g rfl rfl rfl rfl rfl ?_
          refine J.op (Yd.pick_t rfl rfl) rfl ?_
          refine J.op (Yd.move rfl) rfl ?_
          refine J.not_g rfl rfl rfl rfl rfl ?_
          refine J.not_g rfl rfl rfl rfl rfl ?_
          refine J.op (Yd.pick_t rfl rfl) rfl ?_
          refine J.nil ?_
          refine J.n_then ?_
          refine J.cond_true rfl ?_
          refine J.seq ?_
          refine J.region ?_
          refine J.eff (Ye.call cl11 rfl (awake_ok)) rfl ?_
          rintro _ w4 ⟨rfl, x1⟩
          have e0 := e0.trans x1
          clear x1
          refine J.op (Yd.assign rfl) rfl ?_
          refine J.nil ?_
          refine J.n_then ?_
          refine J.ret ?_
          refine J.r_then ?_
          exact J.ret1 rfl rfl (⟨_, rfl, rfl, e0⟩)
        · skip
          refine J.op_g rfl rfl rfl (Yd.move rfl) rfl ?_
          refine J.op_g rfl rfl rfl (Yd.move rfl) rfl ?_
          refine J.op_g rfl rfl rfl (Yd.lss rfl rfl) rfl ?_
          refine J.op (Yd.pick_f rfl rfl) rfl ?_
          refine J.op (Yd.move rfl) rfl ?_
          refine J.split_dec (t := 38) rfl (fun h5 => ?_) (fun h5 => ?_)
          · skip
            refine J.not_g rfl rfl rfl rfl rfl ?_
            refine J.not_g rfl rfl rfl rfl rfl ?_
            refine J.op (Yd.pick_t rfl rfl) rfl ?_
            refine J.nil ?_
            refine J.n_then ?_
            refine J.cond_true rfl ?_
            refine J.seq ?_
            refine J.region ?_
            refine J.eff (Ye.call cl11 rfl (awake_ok)) rfl ?_
            rintro _ w5 ⟨rfl, x1⟩
            have e0 := e0.trans x1
            clear x1
            refine J.op (Yd.assign rfl) rfl ?_
            refine J.nil ?_
            refine J.n_then ?_
            refine J.ret ?_
            refine J.r_then ?_
            exact J.ret1 rfl rfl (⟨_, rfl, rfl, e0⟩)
          · skip
            refine J.op_g rfl rfl rfl (Yd.move rfl) rfl ?_
            refine J.op_g rfl rfl rfl (Yd.gtr rfl rfl) rfl ?_
            refine J.op (Yd.pick_f rfl rfl) rfl ?_
            refine J.nil ?_
            refine J.n_then ?_
            refine J.cond_dec rfl (fun hc0 => ?_) (fun hc0 => ?_)
            · skip
              refine J.seq ?_
              refine J.region ?_
              refine J.eff (Ye.call cl11 rfl (awake_ok)) rfl ?_
              rintro _ w6 ⟨rfl, x1⟩
              have e0 := e0.trans x1
              clear x1
              refine J.op (Yd.assign rfl) rfl ?_
              refine J.nil ?_
              refine J.n_then ?_
              refine J.ret ?_
              refine J.r_then ?_
              exact J.ret1 rfl rfl (⟨_, rfl, rfl, e0⟩)
            · skip
              have hs1 : shN n = n.toNat := shN_of (by omega)
              have hs2 : shN m = m.toNat := shN_of (by omega)
              refine J.skip ?_
              refine J.n_then ?_
              refine J.seq ?_
              refine J.region ?_
              refine J.op (Yd.move rfl) rfl ?_
              refine J.eff (Ye.litS1 Try.underlying29 ti31 rfl rfl ha) rfl ?_
              rintro s44_7 w7 ⟨o44_7, x1⟩
              have e0 := e0.trans x1
              clear x1
              refine J.eff (Ye.call cl20 rfl (NewReader_ok o44_7 (by first | omega | (simp only [Int.toNat_natCast]; omega) | (simp only [List.length_map, List.length_drop, List.length_take, List.length_append, List.length_replicate, sqL_len, sqF_len]; omega) | (simp only [List.flatten_cons, List.flatten_nil, List.append_nil]; omega)))) rfl ?_
              rintro _ w8 ⟨b45_8, p45_8, rfl, hb_b45_8, hb_p45_8, ap_p45_8_b45_8, cb45_8, cp45_8, x1⟩
              have fr_b45_8 : Fr w.heap.size (some b45_8) := Fr.le (Fr.blk hb_b45_8) e0.size
              have fr_p45_8 : Fr w.heap.size (some p45_8) := Fr.le (Fr.blk hb_p45_8) e0.size
              have e0 := e0.trans x1
              have o44_7 := o44_7.ext x1
              clear x1
              refine J.op (Yd.assign rfl) rfl ?_
              refine J.nil ?_
              refine J.n_then ?_
              refine J.seq ?_
              refine J.seq ?_
              refine J.region ?_
              refine J.op (Yd.move rfl) rfl ?_
              refine J.op (Yd.cast (Yd.eqPn Try.underlying39 rfl rfl) (show _ = Value.bool false from rfl)) rfl ?_
              refine J.nil ?_
              refine J.n_then ?_
              refine J.cond_false rfl ?_
              refine J.skip ?_
              refine J.n_then ?_
              refine J.seq ?_
              refine J.region ?_
              refine J.op (Yd.assign rfl) rfl ?_
              refine J.nil ?_
              refine J.n_then ?_
              refine J.seq ?_
              refine J.seq ?_
              refine J.region ?_
              refine J.op (Yd.assign rfl) rfl ?_
              refine J.nil ?_
              refine J.n_then ?_
              refine J.block ?_
              refine J.loop (ι := Nat × Value × Nat) (fun i => [(0, a), (1, v), (2, I n), (3, I m), (11, I (i.1 : Int)), (9, .pointer (some ⟨b45_8, 0, none⟩)), (10, i.2.1)]) (fun i w' => i.1 ≤ xs.length ∧ i.2.2 ≤ 199 * i.1 ∧ Cel w' b45_8 58 [(0, 1, [.pointer (some ⟨p45_8, 0, none⟩)])] ∧ Cel w' p45_8 61 (spS (soakK 168 31 ([l] : List (List UInt8)).flatten) 168 i.2.2) ∧ Ob w.heap.size 5 w' i.2.1 (sqL (soakK 168 31 ([l] : List (List UInt8)).flatten) 168 i.2.2) ∧ Fr w.heap.size (i.2.1).ownBlock ∧ Ap (some b45_8) (i.2.1).ownBlock ∧ Ap (some p45_8) (i.2.1).ownBlock ∧ Ext w w') (fun i => xs.length - i.1) ((0, nilS, 0)) ⟨rfl, rfl, rfl, rfl, rfl, rfl, rfl, trivial⟩ (⟨Nat.zero_le _, Nat.zero_le _, cb45_8, cp45_8, Ow.nil _ _ _, Fr.nil, Ap.nil_r, Ap.nil_r, e0⟩) ?_
              rintro ⟨k, v10, t⟩ w9 ⟨hk, ht, cb45_8, cp45_8, ho10, fr_v10, ap_b45_8_v10, ap_p45_8_v10, e0⟩
              dsimp only at *
              have hsl := sqL_len (soakK 168 31 ([l] : List (List UInt8)).flatten) 168 t
              have hsf := sqF_len (soakK 168 31 ([l] : List (List UInt8)).flatten) 168 t (rdN (xs.getD (k : Int).toNat 0 % 200))
              have hm0 := Int.emod_nonneg (xs.getD (k : Int).toNat 0) (show (200 : Int) ≠ 0 by decide)
              have hm1 := Int.emod_lt_of_pos (xs.getD (k : Int).toNat 0) (show (0 : Int) < 200 by decide)
              have hrn : (rdN (xs.getD (k : Int).toNat 0 % 200) : Int) = (xs.getD (k : Int).toNat 0 % 200) := by unfold rdN; split <;> omega
              refine J.seq ?_
              refine J.seq ?_
              refine J.region ?_
              refine J.op (Yd.move rfl) rfl ?_
              refine J.op (Yd.move rfl) rfl ?_
              refine J.op (Yd.len_m Try.underlying38 rfl (Rd.ext hv e0)) rfl ?_
              refine J.op (Yd.lss rfl rfl) rfl ?_
              refine J.nil ?_
              refine J.n_then ?_
              refine J.cond_dec rfl (fun hc2 => ?_) (fun hc2 => ?_)
              · skip
                refine J.skip ?_
                refine J.n_then ?_
                refine J.seq ?_
                refine J.block ?_
                refine J.seq ?_
                refine J.region ?_
                refine J.op (Yd.move rfl) rfl ?_
                refine J.op (Yd.move rfl) rfl ?_
                refine J.op (Yd.idx_m Try.underlying38 ti3 rfl rfl (Rd.ext hv e0) (by first | omega | (simp only [Int.toNat_natCast]; omega) | (simp only [List.length_map, List.length_drop, List.length_take, List.length_append, List.length_replicate, sqL_len, sqF_len]; omega) | (simp only [List.flatten_cons, List.flatten_nil, List.append_nil]; omega))) rfl ?_
                refine J.op (Yd.load pl3 rfl (Rd.cellI (Rd.ext hv e0) (by first | omega | (simp only [Int.toNat_natCast]; omega) | (simp only [List.length_map, List.length_drop, List.length_take, List.length_append, List.length_replicate, sqL_len, sqF_len]; omega) | (simp only [List.flatten_cons, List.flatten_nil, List.append_nil]; omega)))) rfl ?_
                refine J.eff (Ye.call cl8 rfl (Round_ok (by omega) (by omega))) rfl ?_
                rintro _ w10 ⟨rfl, x1⟩
                have e0 := e0.trans x1
                have cb45_8 := cb45_8.ext x1
                have cp45_8 := cp45_8.ext x1
                have ho10 := ho10.ext x1
                clear x1
                refine J.op (Yd.assign rfl) rfl ?_
                refine J.nil ?_
                refine J.n_then ?_
                refine J.seq ?_
                refine J.region ?_
                refine J.op (Yd.move rfl) rfl ?_
                refine J.op (Yd.move rfl) rfl ?_
                refine J.eff (Ye.call cl21 rfl (RRead_ok (soakK_len _ _ _) cb45_8 cp45_8 ap_p45_8_b45_8)) rfl ?_
                rintro v61_11 w11 ⟨ov61_11, cX1, x1⟩
                have ap_b45_8_v61_11 : Ap (some b45_8) v61_11.ownBlock := Ap.mk (Cel.live cb45_8) (Ow.fr ov61_11)
                have ap_p45_8_v61_11 : Ap (some p45_8) v61_11.ownBlock := Ap.mk (Cel.live cp45_8) (Ow.fr ov61_11)
                have ap_v10_v61_11 : Ap v10.ownBlock v61_11.ownBlock := Ap.mk (Ow.live ho10) (Ow.fr ov61_11)
                have fr_v61_11 : Fr w.heap.size v61_11.ownBlock := Fr.le (Ow.fr ov61_11) e0.size
                replace ov61_11 := Ow.base ov61_11 e0.size
                have cb45_8 := Cel.tnk cb45_8 x1 (ApL.one (Ap.symm ap_p45_8_b45_8))
                have ho10 := Ow.tnk ho10 x1 (ApL.one (Ap.symm ap_p45_8_v10))
                have e0 := Ext.tnk e0 (fun q hq => by simp only [List.mem_singleton] at hq; subst hq; exact fr_p45_8) x1
                clear x1
                replace cp45_8 := cX1
                clear cX1
                refine J.op (Yd.assign rfl) rfl ?_
                refine J.nil ?_
                refine J.n_then ?_
                refine J.seq ?_
                refine J.seq ?_
                refine J.region ?_
                refine J.op (Yd.move rfl) rfl ?_
                refine J.op (Yd.len_b Try.underlying31 rfl (Ow.rd ov61_11)) rfl ?_
                refine J.op (Yd.move rfl) rfl ?_
                refine J.op (Yd.neq rfl rfl) rfl ?_
                refine J.nil ?_
                refine J.n_then ?_
                refine J.know (t := 65) (v' := .bool false) rfl (ff (by rw [hsf]; exact fun h => h hrn)) ?_
                refine J.cond_false rfl ?_
                refine J.skip ?_
                refine J.n_then ?_
                refine J.region ?_
                refine J.op (Yd.move rfl) rfl ?_
                refine J.op (Yd.move rfl) rfl ?_
                refine J.eff (Ye.appendS Try.underlying31 ti5 rfl rfl rfl rfl ho10 (Ow.rd ov61_11) (fun _ => rfl) (by first | omega | (simp only [Int.toNat_natCast]; omega) | (simp only [List.length_map, List.length_drop, List.length_take, List.length_append, List.length_replicate, sqL_len, sqF_len]; omega) | (simp only [List.flatten_cons, List.flatten_nil, List.append_nil]; omega)) e0.size) rfl ?_
                rintro s68_12 w12 ⟨o68_12, hg, hsf⟩
                have ap_b45_8_s68_12 : Ap (some b45_8) s68_12.ownBlock := Ap.sf ap_b45_8_v10 (Cel.live cb45_8) hsf
                have ap_p45_8_s68_12 : Ap (some p45_8) s68_12.ownBlock := Ap.sf ap_p45_8_v10 (Cel.live cp45_8) hsf
                have ap_v61_11_s68_12 : Ap v61_11.ownBlock s68_12.ownBlock := Ap.sf (Ap.symm ap_v10_v61_11) (Ow.live ov61_11) hsf
                have fr_s68_12 : Fr w.heap.size s68_12.ownBlock := Fr.sf fr_v10 hsf e0.size
                have cb45_8 := Cel.gbk cb45_8 hg ap_b45_8_v10
                have cp45_8 := Cel.gbk cp45_8 hg ap_p45_8_v10
                have ov61_11 := Ow.gbk ov61_11 hg (Ap.symm ap_v10_v61_11)
                have e0 := Ext.gbk e0 fr_v10 hg
                clear hg hsf
                refine J.op (Yd.assign rfl) rfl ?_
                refine J.nil ?_
                refine J.n_block ?_
                refine J.n_then ?_
                refine J.region ?_
                refine J.op (Yd.move rfl) rfl ?_
                refine J.op (Yd.add rfl rfl (by first | omega | (simp only [Int.toNat_natCast]; omega) | (simp only [List.length_map, List.length_drop, List.length_take, List.length_append, List.length_replicate, sqL_len, sqF_len]; omega) | (simp only [List.flatten_cons, List.flatten_nil, List.append_nil]; omega))) rfl ?_
                refine J.op (Yd.assign rfl) rfl ?_
                refine J.nil ?_
                refine J.n_then ?_
                exact J.round ((k + 1, s68_12, t + rdN (xs.getD (k : Int).toNat 0 % 200))) ⟨rfl, rfl, rfl, rfl, rfl, rfl, rfl, trivial⟩ (⟨by show k + 1 ≤ xs.length; omega, by show t + rdN (xs.getD (k : Int).toNat 0 % 200) ≤ 199 * (k + 1); omega, cb45_8, cp45_8, (by show Ob _ _ _ _ (sqL (soakK 168 31 ([l] : List (List UInt8)).flatten) 168 (t + rdN (xs.getD (k : Int).toNat 0 % 200))); have h9 := o68_12; rw [show sqL (soakK 168 31 ([l] : List (List UInt8)).flatten) 168 t ++ sqF (soakK 168 31 ([l] : List (List UInt8)).flatten) 168 t (rdN (xs.getD (k : Int).toNat 0 % 200)) = sqL (soakK 168 31 ([l] : List (List UInt8)).flatten) 168 (t + rdN (xs.getD (k : Int).toNat 0 % 200)) from by have h8 := sqF_app (soakK 168 31 ([l] : List (List UInt8)).flatten) 168 0 t (rdN (xs.getD (k : Int).toNat 0 % 200)); rw [Nat.zero_add] at h8; exact h8] at h9; exact h9), fr_s68_12, ap_b45_8_s68_12, ap_p45_8_s68_12, e0⟩) (by show xs.length - (k + 1) < xs.length - k; omega)
              · skip
                refine J.exit ?_
                refine J.x_then ?_
                refine J.x_then ?_
                refine J.x_block ?_
                refine J.n_then ?_
                refine J.seq ?_
                refine J.region ?_
                refine J.op (Yd.move rfl) rfl ?_
                refine J.op (Yd.move rfl) rfl ?_
                refine J.eff (Ye.litS1 Try.underlying29 ti31 rfl rfl (Rd.ext ha e0)) rfl ?_
                rintro s71_13 w13 ⟨o71_13, x1⟩
                have e0 := e0.trans x1
                have cb45_8 := cb45_8.ext x1
                have cp45_8 := cp45_8.ext x1
                have ho10 := ho10.ext x1
                clear x1
                refine J.eff (Ye.call cl19 rfl (Shake256_ok o71_13 (by first | omega | (simp only [Int.toNat_natCast]; omega) | (simp only [List.length_map, List.length_drop, List.length_take, List.length_append, List.length_replicate, sqL_len, sqF_len]; omega) | (simp only [List.flatten_cons, List.flatten_nil, List.append_nil]; omega)))) rfl ?_
                rintro s72_14 w14 ⟨os72_14, x1⟩
                have ap_b45_8_s72_14 : Ap (some b45_8) s72_14.ownBlock := Ap.mk (Cel.live cb45_8) (Ow.fr os72_14)
                have ap_p45_8_s72_14 : Ap (some p45_8) s72_14.ownBlock := Ap.mk (Cel.live cp45_8) (Ow.fr os72_14)
                have ap_v10_s72_14 : Ap v10.ownBlock s72_14.ownBlock := Ap.mk (Ow.live ho10) (Ow.fr os72_14)
                have fr_s72_14 : Fr w.heap.size s72_14.ownBlock := Fr.le (Ow.fr os72_14) e0.size
                replace os72_14 := Ow.base os72_14 e0.size
                have e0 := e0.trans x1
                have cb45_8 := cb45_8.ext x1
                have cp45_8 := cp45_8.ext x1
                have ho10 := ho10.ext x1
                have o71_13 := o71_13.ext x1
                clear x1
                refine J.op (Yd.assign rfl) rfl ?_
                refine J.nil ?_
                refine J.n_then ?_
                refine J.seq ?_
                refine J.region ?_
                refine J.op (Yd.move rfl) rfl ?_
                refine J.op (Yd.move rfl) rfl ?_
                refine J.eff (Ye.litS1 Try.underlying29 ti31 rfl rfl (Rd.ext ha e0)) rfl ?_
                rintro s75_15 w15 ⟨o75_15, x1⟩
                have e0 := e0.trans x1
                have cb45_8 := cb45_8.ext x1
                have cp45_8 := cp45_8.ext x1
                have ho10 := ho10.ext x1
                have o71_13 := o71_13.ext x1
                have os72_14 := os72_14.ext x1
                clear x1
                refine J.eff (Ye.call cl19 rfl (Shake256_ok o75_15 (by first | omega | (simp only [Int.toNat_natCast]; omega) | (simp only [List.length_map, List.length_drop, List.length_take, List.length_append, List.length_replicate, sqL_len, sqF_len]; omega) | (simp only [List.flatten_cons, List.flatten_nil, List.append_nil]; omega)))) rfl ?_
                rintro s76_16 w16 ⟨os76_16, x1⟩
                have ap_b45_8_s76_16 : Ap (some b45_8) s76_16.ownBlock := Ap.mk (Cel.live cb45_8) (Ow.fr os76_16)
                have ap_p45_8_s76_16 : Ap (some p45_8) s76_16.ownBlock := Ap.mk (Cel.live cp45_8) (Ow.fr os76_16)
                have ap_v10_s76_16 : Ap v10.ownBlock s76_16.ownBlock := Ap.mk (Ow.live ho10) (Ow.fr os76_16)
                have ap_s72_14_s76_16 : Ap s72_14.ownBlock s76_16.ownBlock := Ap.mk (Ow.live os72_14) (Ow.fr os76_16)
                have fr_s76_16 : Fr w.heap.size s76_16.ownBlock := Fr.le (Ow.fr os76_16) e0.size
                replace os76_16 := Ow.base os76_16 e0.size
                have e0 := e0.trans x1
                have cb45_8 := cb45_8.ext x1
                have cp45_8 := cp45_8.ext x1
                have ho10 := ho10.ext x1
                have o71_13 := o71_13.ext x1
                have os72_14 := os72_14.ext x1
                have o75_15 := o75_15.ext x1
                clear x1
                refine J.op (Yd.assign rfl) rfl ?_
                refine J.nil ?_
                refine J.n_then ?_
                refine J.seq ?_
                refine J.region ?_
                refine J.op (Yd.assign rfl) rfl ?_
                refine J.nil ?_
                refine J.n_then ?_
                refine J.seq ?_
                refine J.regionT [(some p45_8)] [(0, true), (2, true), (4, true)] [(1, 1), (3, 1), (5, 0), (6, 0), (7, 1), (8, 1), (9, 1), (10, 1), (11, 1), (12, 1), (13, 1), (14, 1), (15, 1), (16, 1), (17, 1), (18, 1), (19, 1), (20, 1), (21, 1), (22, 1), (23, 1), (24, 1), (25, 1), (26, 1), (27, 1)] [(28, true), (29, true), (30, true), (31, true), (32, true), (33, false), (34, false), (35, true), (36, true), (37, true), (38, true), (39, false), (40, false), (41, true), (42, true), (43, true), (44, false), (45, true), (46, true)] mix (by kernel_rfl) ?_
                refine J.s_op rfl (fun _ => Yd.move rfl) rfl ?_
                refine J.s_op rfl (fun _ => Yd.move rfl) rfl ?_
                refine J.s_op rfl (fun _ => Yd.move rfl) rfl ?_
                refine J.s_nil ?_
                refine J.t_op rfl (fun w1 ht => Yd.bstr Try.underlying31 Try.underlying5 Try.underlying9 rfl ((fun w' ht => Rd.tnk (Ow.rd ho10) ht (ApL.one (Ap.symm ap_p45_8_v10))) w1 ht)) rfl ?_
                refine J.t_op rfl (fun w1 ht => Yd.len_b Try.underlying31 rfl ((fun w' ht => Rd.tnk (Ow.rd ho10) ht (ApL.one (Ap.symm ap_p45_8_v10))) w1 ht)) rfl ?_
                refine J.t_eff rfl (Ye.litS1 Try.underlying29 ti31 rfl rfl (Rd.ext ha e0)) rfl (fun _ _ h => Ext.tn h.2 _) ?_
                rintro s82_17 w17 ⟨o82_17, x1⟩
                have e0 := e0.trans x1
                have cb45_8 := cb45_8.ext x1
                have cp45_8 := cp45_8.ext x1
                have ho10 := ho10.ext x1
                have o71_13 := o71_13.ext x1
                have os72_14 := os72_14.ext x1
                have o75_15 := o75_15.ext x1
                have os76_16 := os76_16.ext x1
                clear x1
                refine J.t_eff rfl (Ye.call cl17 rfl (Shake128_ok o82_17 (by first | omega | (simp only [Int.toNat_natCast]; omega) | (simp only [List.length_map, List.length_drop, List.length_take, List.length_append, List.length_replicate, sqL_len, sqF_len]; omega) | (simp only [List.flatten_cons, List.flatten_nil, List.append_nil]; omega)))) rfl (fun _ _ h => Ext.tn h.2 _) ?_
                rintro s83_18 w18 ⟨os83_18, x1⟩
                have ap_b45_8_s83_18 : Ap (some b45_8) s83_18.ownBlock := Ap.mk (Cel.live cb45_8) (Ow.fr os83_18)
                have ap_p45_8_s83_18 : Ap (some p45_8) s83_18.ownBlock := Ap.mk (Cel.live cp45_8) (Ow.fr os83_18)
                have ap_v10_s83_18 : Ap v10.ownBlock s83_18.ownBlock := Ap.mk (Ow.live ho10) (Ow.fr os83_18)
                have ap_s72_14_s83_18 : Ap s72_14.ownBlock s83_18.ownBlock := Ap.mk (Ow.live os72_14) (Ow.fr os83_18)
                have ap_s76_16_s83_18 : Ap s76_16.ownBlock s83_18.ownBlock := Ap.mk (Ow.live os76_16) (Ow.fr os83_18)
                have fr_s83_18 : Fr w.heap.size s83_18.ownBlock := Fr.le (Ow.fr os83_18) e0.size
                replace os83_18 := Ow.base os83_18 e0.size
                have e0 := e0.trans x1
                have cb45_8 := cb45_8.ext x1
                have cp45_8 := cp45_8.ext x1
                have ho10 := ho10.ext x1
                have o71_13 := o71_13.ext x1
                have os72_14 := os72_14.ext x1
                have o75_15 := o75_15.ext x1
                have os76_16 := os76_16.ext x1
                have o82_17 := o82_17.ext x1
                clear x1
                refine J.t_op rfl (fun w1 ht => Yd.bstr Try.underlying31 Try.underlying5 Try.underlying9 rfl ((fun w' ht => Rd.tnk (Ow.rd os83_18) ht (ApL.one (Ap.symm ap_p45_8_s83_18))) w1 ht)) rfl ?_
                refine J.t_op rfl (fun _ _ => Yd.seq rfl rfl) rfl ?_
                refine J.t_op rfl (fun _ _ => Yd.move rfl) rfl ?_
                refine J.know (t := 86) (v' := .bool true) rfl (tt (by rw [hsl, shN_of (by omega), Int.toNat_natCast])) ?_
                refine J.t_op_g rfl rfl rfl rfl (fun _ _ => Yd.move rfl) rfl ?_
                refine J.t_op_g rfl rfl rfl rfl (fun w1 ht => Yd.len_b Try.underlying31 rfl ((fun w' ht => Rd.tnk (Ow.rd os72_14) ht (ApL.one (Ap.symm ap_p45_8_s72_14))) w1 ht)) rfl ?_
                refine J.t_op_g rfl rfl rfl rfl (fun _ _ => Yd.move rfl) rfl ?_
                refine J.t_op_g rfl rfl rfl rfl (fun _ _ => Yd.eql rfl rfl) rfl ?_
                refine J.t_op rfl (fun _ _ => Yd.pick_t rfl rfl) rfl ?_
                refine J.t_op rfl (fun _ _ => Yd.move rfl) rfl ?_
                refine J.know (t := 92) (v' := .bool true) rfl (tt (by rw [sqL_len]; unfold shN; omega)) ?_
                refine J.t_op_g rfl rfl rfl rfl (fun _ _ => Yd.move rfl) rfl ?_
                refine J.t_op_g rfl rfl rfl rfl (fun w1 ht => Yd.len_b Try.underlying31 rfl ((fun w' ht => Rd.tnk (Ow.rd os76_16) ht (ApL.one (Ap.symm ap_p45_8_s76_16))) w1 ht)) rfl ?_
                refine J.t_op_g rfl rfl rfl rfl (fun _ _ => Yd.move rfl) rfl ?_
                refine J.t_op_g rfl rfl rfl rfl (fun _ _ => Yd.eql rfl rfl) rfl ?_
                refine J.t_op rfl (fun _ _ => Yd.pick_t rfl rfl) rfl ?_
                refine J.t_op rfl (fun _ _ => Yd.move rfl) rfl ?_
                refine J.know (t := 98) (v' := .bool true) rfl (tt (by rw [sqL_len]; unfold shN; omega)) ?_
                refine J.t_op_g rfl rfl rfl rfl (fun _ _ => Yd.move rfl) rfl ?_
                refine J.t_op_g rfl rfl rfl rfl (fun _ _ => Yd.move rfl) rfl ?_
                refine J.t_op_g rfl rfl rfl rfl (fun w1 ht => Yd.slcH Try.underlying31 ti5 rfl ((fun w' ht => Rd.tnk (Ow.rd os76_16) ht (ApL.one (Ap.symm ap_p45_8_s76_16))) w1 ht) rfl (by first | omega | (simp only [Int.toNat_natCast]; omega) | (simp only [List.length_map, List.length_drop, List.length_take, List.length_append, List.length_replicate, sqL_len, sqF_len]; omega) | (simp only [List.flatten_cons, List.flatten_nil, List.append_nil]; omega))) rfl ?_
                refine J.t_op_g rfl rfl rfl rfl (fun w1 ht => Yd.bstr Try.underlying31 Try.underlying5 Try.underlying9 rfl ((fun w' ht => Bs.slc ((fun w' ht => Rd.tnk (Ow.rd os76_16) ht (ApL.one (Ap.symm ap_p45_8_s76_16))) w' ht) (by first | omega | (simp only [Int.toNat_natCast]; omega) | (simp only [List.length_map, List.length_drop, List.length_take, List.length_append, List.length_replicate, sqL_len, sqF_len]; omega) | (simp only [List.flatten_cons, List.flatten_nil, List.append_nil]; omega)) (by first | omega | (simp only [Int.toNat_natCast]; omega) | (simp only [List.length_map, List.length_drop, List.length_take, List.length_append, List.length_replicate, sqL_len, sqF_len]; omega) | (simp only [List.flatten_cons, List.flatten_nil, List.append_nil]; omega))) w1 ht)) rfl ?_
                refine J.t_op_g rfl rfl rfl rfl (fun _ _ => Yd.move rfl) rfl ?_
                refine J.t_op_g rfl rfl rfl rfl (fun w1 ht => Yd.bstr Try.underlying31 Try.underlying5 Try.underlying9 rfl ((fun w' ht => Rd.tnk (Ow.rd os72_14) ht (ApL.one (Ap.symm ap_p45_8_s72_14))) w1 ht)) rfl ?_
                refine J.t_nil ?_
                refine J.s_op_g rfl rfl rfl rfl (fun _ => Yd.seq rfl rfl) rfl ?_
                refine J.s_op rfl (fun _ => Yd.pick_t rfl rfl) rfl ?_
                refine J.s_op rfl (fun _ => Yd.move rfl) rfl ?_
                refine J.know (t := 107) (v' := .bool true) rfl (tt (by rw [hs1, hs2]; first | exact sqL_take (n := n.toNat) (m := m.toNat) _ _ (by omega) | (rw [List.drop_zero]; exact sqL_take (n := n.toNat) (m := m.toNat) _ _ (by omega)))) ?_
                refine J.s_op_g rfl rfl rfl rfl (fun _ => Yd.move rfl) rfl ?_
                refine J.s_op_g rfl rfl rfl rfl (fun _ => Yd.move rfl) rfl ?_
                refine J.s_eff_g rfl rfl rfl rfl (Ye.call cl21 rfl (RReadNil_ok)) rfl ?_
                rintro _ w19 ⟨rfl, x1⟩
                have e0 := e0.trans x1
                have cb45_8 := cb45_8.ext x1
                have cp45_8 := cp45_8.ext x1
                have ho10 := ho10.ext x1
                have o71_13 := o71_13.ext x1
                have os72_14 := os72_14.ext x1
                have o75_15 := o75_15.ext x1
                have os76_16 := os76_16.ext x1
                have o82_17 := o82_17.ext x1
                have os83_18 := os83_18.ext x1
                clear x1
                refine J.s_one_g rfl rfl rfl rfl (Yd.len_nil Try.underlying31 rfl) rfl ?_
                refine J.s_op_g rfl rfl rfl rfl (fun _ => Yd.eql rfl rfl) rfl ?_
                refine J.s_op rfl (fun _ => Yd.pick_t rfl rfl) rfl ?_
                refine J.s_op rfl (fun _ => Yd.move rfl) rfl ?_
                refine J.know (t := 114) (v' := .bool true) rfl (tt (by rfl)) ?_
                refine J.s_op_g rfl rfl rfl rfl (fun _ => Yd.move rfl) rfl ?_
                refine J.s_eff_g rfl rfl rfl rfl (Ye.call cl21 rfl (RRead_ok (soakK_len _ _ _) cb45_8 cp45_8 ap_p45_8_b45_8)) rfl ?_
                rintro v116_20 w20 ⟨ov116_20, cX1, x1⟩
                have ap_b45_8_v116_20 : Ap (some b45_8) v116_20.ownBlock := Ap.mk (Cel.live cb45_8) (Ow.fr ov116_20)
                have ap_p45_8_v116_20 : Ap (some p45_8) v116_20.ownBlock := Ap.mk (Cel.live cp45_8) (Ow.fr ov116_20)
                have ap_v10_v116_20 : Ap v10.ownBlock v116_20.ownBlock := Ap.mk (Ow.live ho10) (Ow.fr ov116_20)
                have ap_s72_14_v116_20 : Ap s72_14.ownBlock v116_20.ownBlock := Ap.mk (Ow.live os72_14) (Ow.fr ov116_20)
                have ap_s76_16_v116_20 : Ap s76_16.ownBlock v116_20.ownBlock := Ap.mk (Ow.live os76_16) (Ow.fr ov116_20)
                have ap_s83_18_v116_20 : Ap s83_18.ownBlock v116_20.ownBlock := Ap.mk (Ow.live os83_18) (Ow.fr ov116_20)
                have fr_v116_20 : Fr w.heap.size v116_20.ownBlock := Fr.le (Ow.fr ov116_20) e0.size
                replace ov116_20 := Ow.base ov116_20 e0.size
                have cb45_8 := Cel.tnk cb45_8 x1 (ApL.one (Ap.symm ap_p45_8_b45_8))
                have ho10 := Ow.tnk ho10 x1 (ApL.one (Ap.symm ap_p45_8_v10))
                have os72_14 := Ow.tnk os72_14 x1 (ApL.one (Ap.symm ap_p45_8_s72_14))
                have os76_16 := Ow.tnk os76_16 x1 (ApL.one (Ap.symm ap_p45_8_s76_16))
                have os83_18 := Ow.tnk os83_18 x1 (ApL.one (Ap.symm ap_p45_8_s83_18))
                have e0 := Ext.tnk e0 (fun q hq => by simp only [List.mem_singleton] at hq; subst hq; exact fr_p45_8) x1
                clear x1
                replace cp45_8 := cX1
                clear cX1
                refine J.s_one_g rfl rfl rfl rfl (Yd.len_b Try.underlying31 rfl (Ow.rd ov116_20)) rfl ?_
                refine J.s_op_g rfl rfl rfl rfl (fun _ => Yd.eql rfl rfl) rfl ?_
                refine J.s_op rfl (fun _ => Yd.pick_t rfl rfl) rfl ?_
                refine J.s_op rfl (fun _ => Yd.move rfl) rfl ?_
                refine J.know (t := 120) (v' := .bool true) rfl (tt (by rw [sqF_len]; rfl)) ?_
                refine J.s_eff_g rfl rfl rfl rfl (Ye.call cl11 rfl (awake_ok)) rfl ?_
                rintro _ w21 ⟨rfl, x1⟩
                have e0 := e0.trans x1
                have cb45_8 := cb45_8.ext x1
                have cp45_8 := cp45_8.ext x1
                have ho10 := ho10.ext x1
                have os72_14 := os72_14.ext x1
                have os76_16 := os76_16.ext x1
                have os83_18 := os83_18.ext x1
                have ov116_20 := ov116_20.ext x1
                clear x1
                refine J.s_op rfl (fun _ => Yd.pick_t rfl rfl) rfl ?_
                refine J.s_op rfl (fun _ => Yd.assign rfl) rfl ?_
                refine J.s_nil ?_
                refine J.n_np ?_
                refine J.n_then ?_
                refine J.ret ?_
                exact J.ret1 rfl rfl (⟨_, rfl, rfl, e0⟩)
end Ytpcbkeikhojmbaa
end Go.Proofs
