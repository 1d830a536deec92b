import Derived.Test.YtbklhpdfbdhoeaaT
import Derived.Test.YtbklhpdfbdhoeaaPd
import Derived.Test.YtbklhpdfbdhoeaaA10
set_option linter.unusedVariables false
set_option linter.unusedSimpArgs false
set_option maxRecDepth 100000
set_option maxHeartbeats 4000000
namespace Go.Proofs
open Go.X Go.RowKit
namespace Ytbklhpdfbdhoeaa
theorem AesCounters_ok {a v : Value} {key nonce : List UInt8} {n : Int} {w : World} (hk : Bs w a key) (ho : Bs w v nonce) : C Try.prog 8 [a, v, I n] w (Ret fun v w' => v = .bool true ∧ Ext w w') := by
  have e0 := Ext.refl w
  refine C.enter Try.func8 rfl Try.ntmps8 rfl ?_
  refine J.seq ?_
  refine J.region ?_
  refine J.op (Yd.assign rfl) rfl ?_
  refine J.nil ?_
  refine J.n_then ?_
  refine J.seq ?_
  refine J.seq ?_
  refine J.region ?_
  refine J.op (Yd.move rfl) rfl ?_
  refine J.op (Yd.len_b Try.underlying22 rfl hk) rfl ?_
  refine J.op (Yd.neq rfl rfl) rfl ?_
  refine J.op (Yd.move rfl) rfl ?_
  refine J.split_dec (t := 17) rfl (fun h1 => ?_) (fun h1 => ?_)
  · skip
    refine J.not_g rfl rfl rfl rfl rfl ?_
    refine J.not_g rfl rfl rfl rfl rfl ?_
    refine J.not_g rfl rfl rfl rfl rfl ?_
    refine J.op (Yd.pick_t rfl rfl) rfl ?_
    refine J.op (Yd.move rfl) rfl ?_
    refine J.not_g rfl rfl rfl rfl rfl ?_
    refine J.not_g rfl rfl rfl rfl rfl ?_
    refine J.op (Yd.pick_t rfl rfl) rfl ?_
    refine J.op (Yd.move rfl) rfl ?_
    refine J.not_g rfl rfl rfl rfl rfl ?_
    refine J.not_g rfl rfl rfl rfl rfl ?_
    refine J.op (Yd.pick_t rfl rfl) rfl ?_
    refine J.nil ?_
    refine J.n_then ?_
    refine J.cond_true rfl ?_
    refine J.seq ?_
    refine J.region ?_
    refine J.eff (Ye.call cl9 rfl (awake_ok)) rfl ?_
    rintro _ w1 ⟨rfl, x1⟩
    have e0 := e0.trans x1
    clear x1
    refine J.op (Yd.assign rfl) rfl ?_
    refine J.nil ?_
    refine J.n_then ?_
    refine J.ret ?_
    refine J.r_then ?_
    exact J.ret1 rfl rfl (⟨_, rfl, rfl, e0⟩)
  · skip
    refine J.op_g rfl rfl rfl (Yd.move rfl) rfl ?_
    refine J.op_g rfl rfl rfl (Yd.len_b Try.underlying22 rfl ho) rfl ?_
    refine J.op_g rfl rfl rfl (Yd.neq rfl rfl) rfl ?_
    refine J.op (Yd.pick_f rfl rfl) rfl ?_
    refine J.op (Yd.move rfl) rfl ?_
    refine J.split_dec (t := 22) rfl (fun h2 => ?_) (fun h2 => ?_)
    · skip
      refine J.not_g rfl rfl rfl rfl rfl ?_
      refine J.not_g rfl rfl rfl rfl rfl ?_
      refine J.op (Yd.pick_t rfl rfl) rfl ?_
      refine J.op (Yd.move rfl) rfl ?_
      refine J.not_g rfl rfl rfl rfl rfl ?_
      refine J.not_g rfl rfl rfl rfl rfl ?_
      refine J.op (Yd.pick_t rfl rfl) rfl ?_
      refine J.nil ?_
      refine J.n_then ?_
      refine J.cond_true rfl ?_
      refine J.seq ?_
      refine J.region ?_
      refine J.eff (Ye.call cl9 rfl (awake_ok)) rfl ?_
      rintro _ w2 ⟨rfl, x1⟩
      have e0 := e0.trans x1
      clear x1
      refine J.op (Yd.assign rfl) rfl ?_
      refine J.nil ?_
      refine J.n_then ?_
      refine J.ret ?_
      refine J.r_then ?_
      exact J.ret1 rfl rfl (⟨_, rfl, rfl, e0⟩)
    · skip
      refine J.op_g rfl rfl rfl (Yd.move rfl) rfl ?_
      refine J.op_g rfl rfl rfl (Yd.lss rfl rfl) rfl ?_
      refine J.op (Yd.pick_f rfl rfl) rfl ?_
      refine J.op (Yd.move rfl) rfl ?_
      refine J.split_dec (t := 26) rfl (fun h3 => ?_) (fun h3 => ?_)
      · skip
        refine J.not_g rfl rfl rfl rfl rfl ?_
        refine J.not_g rfl rfl rfl rfl rfl ?_
        refine J.op (Yd.pick_t rfl rfl) rfl ?_
        refine J.nil ?_
        refine J.n_then ?_
        refine J.cond_true rfl ?_
        refine J.seq ?_
        refine J.region ?_
        refine J.eff (Ye.call cl9 rfl (awake_ok)) rfl ?_
        rintro _ w3 ⟨rfl, x1⟩
        have e0 := e0.trans x1
        clear x1
        refine J.op (Yd.assign rfl) rfl ?_
        refine J.nil ?_
        refine J.n_then ?_
        refine J.ret ?_
        refine J.r_then ?_
        exact J.ret1 rfl rfl (⟨_, rfl, rfl, e0⟩)
      · skip
        refine J.op_g rfl rfl rfl (Yd.move rfl) rfl ?_
        refine J.op_g rfl rfl rfl (Yd.gtr rfl rfl) rfl ?_
        refine J.op (Yd.pick_f rfl rfl) rfl ?_
        refine J.nil ?_
        refine J.n_then ?_
        refine J.cond_dec rfl (fun hc0 => ?_) (fun hc0 => ?_)
        · skip
          refine J.seq ?_
          refine J.region ?_
          refine J.eff (Ye.call cl9 rfl (awake_ok)) rfl ?_
          rintro _ w4 ⟨rfl, x1⟩
          have e0 := e0.trans x1
          clear x1
          refine J.op (Yd.assign rfl) rfl ?_
          refine J.nil ?_
          refine J.n_then ?_
          refine J.ret ?_
          refine J.r_then ?_
          exact J.ret1 rfl rfl (⟨_, rfl, rfl, e0⟩)
        · skip
          have hall : key.length = 32 ∧ nonce.length = 12 ∧ 0 ≤ n ∧ n ≤ 1048576 := ⟨by omega, by omega, by omega, by omega⟩
          have hql := strQ_len hall
          obtain ⟨N, rfl⟩ := Int.eq_ofNat_of_zero_le hall.2.2.1
          refine J.skip ?_
          refine J.n_then ?_
          refine J.seq ?_
          refine J.region ?_
          refine J.op (Yd.move rfl) rfl ?_
          refine J.op (Yd.move rfl) rfl ?_
          refine J.op (Yd.move rfl) rfl ?_
          refine J.eff (Ye.call cl14 rfl (Stream_ok hk ho)) rfl ?_
          rintro _ w5 ⟨s35_5, rfl, rs35_5, x1⟩
          have e0 := e0.trans x1
          clear x1
          refine J.op (Yd.move rfl) rfl ?_
          refine J.op (Yd.extract rfl rfl) rfl ?_
          refine J.op (Yd.extract rfl rfl) rfl ?_
          refine J.op (Yd.assign rfl) rfl ?_
          refine J.op (Yd.assign rfl) rfl ?_
          refine J.nil ?_
          refine J.n_then ?_
          refine J.seq ?_
          refine J.region ?_
          refine J.op (Yd.move rfl) rfl ?_
          refine J.op (Yd.move rfl) rfl ?_
          refine J.op (Yd.move rfl) rfl ?_
          refine J.eff (Ye.make (base := w5.heap.size) Try.underlying22 ti5 rfl rfl (by first | omega | (simp only [Int.toNat_natCast]; omega) | (simp only [List.length_map, List.length_drop, List.length_take, List.length_append, List.length_replicate]; omega) | (simp [beN_len] <;> omega)) (by first | omega | (simp only [Int.toNat_natCast]; omega) | (simp only [List.length_map, List.length_drop, List.length_take, List.length_append, List.length_replicate]; omega) | (simp [beN_len] <;> omega)) (by unfold maxLen; omega) rfl (Nat.le_refl _)) rfl ?_
          rintro s42_6 w6 ⟨o42_6, x1⟩
          have fr_s42_6 : Fr w.heap.size s42_6.ownBlock := Fr.le (Ow.fr o42_6) e0.size
          replace o42_6 := Ow.base o42_6 e0.size
          have e0 := e0.trans x1
          have rs35_5 := rs35_5.ext x1
          clear x1
          rw [rep_B] at o42_6
          refine J.eff (Ye.call cl17 rfl (Crypt_ok (Rd.ext hk e0) (Rd.ext ho e0) (Ow.rd o42_6))) rfl ?_
          rintro _ w7 ⟨s43_7, rfl, rs43_7, x1⟩
          have e0 := e0.trans x1
          have rs35_5 := rs35_5.ext x1
          have o42_6 := o42_6.ext x1
          clear x1
          refine J.op (Yd.move rfl) rfl ?_
          refine J.op (Yd.extract rfl rfl) rfl ?_
          refine J.op (Yd.extract rfl rfl) rfl ?_
          refine J.op (Yd.assign rfl) rfl ?_
          refine J.op (Yd.assign rfl) rfl ?_
          refine J.nil ?_
          refine J.n_then ?_
          refine J.seq ?_
          refine J.seq ?_
          refine J.region ?_
          refine J.op (Yd.move rfl) rfl ?_
          refine J.op (Yd.neq rfl rfl) rfl ?_
          refine J.op (Yd.move rfl) rfl ?_
          refine J.know (t := 48) (v' := .bool false) rfl (ff (by rw [strE_yes hall]; decide)) ?_
          refine J.op_g rfl rfl rfl (Yd.move rfl) rfl ?_
          refine J.op_g rfl rfl rfl (Yd.neq rfl rfl) rfl ?_
          refine J.op (Yd.pick_f rfl rfl) rfl ?_
          refine J.op (Yd.move rfl) rfl ?_
          refine J.know (t := 52) (v' := .bool false) rfl (ff (by rw [cryE, List.length_replicate, Int.toNat_natCast, strE_yes hall]; decide)) ?_
          refine J.op_g rfl rfl rfl (Yd.move rfl) rfl ?_
          refine J.op_g rfl rfl rfl (Yd.len_b Try.underlying22 rfl rs35_5) rfl ?_
          refine J.op_g rfl rfl rfl (Yd.move rfl) rfl ?_
          refine J.op_g rfl rfl rfl (Yd.neq rfl rfl) rfl ?_
          refine J.op (Yd.pick_f rfl rfl) rfl ?_
          refine J.op (Yd.move rfl) rfl ?_
          refine J.know (t := 58) (v' := .bool false) rfl (ff (by rw [hql]; simp)) ?_
          refine J.op_g rfl rfl rfl (Yd.move rfl) rfl ?_
          refine J.op_g rfl rfl rfl (Yd.bstr Try.underlying22 Try.underlying5 Try.underlying9 rfl rs43_7) rfl ?_
          refine J.op_g rfl rfl rfl (Yd.move rfl) rfl ?_
          refine J.op_g rfl rfl rfl (Yd.bstr Try.underlying22 Try.underlying5 Try.underlying9 rfl rs35_5) rfl ?_
          refine J.op_g rfl rfl rfl (Yd.sne rfl rfl) rfl ?_
          refine J.op (Yd.pick_f rfl rfl) rfl ?_
          refine J.nil ?_
          refine J.n_then ?_
          refine J.know (t := 64) (v' := .bool false) rfl (ff (by rw [cry_zero hall]; simp)) ?_
          refine J.cond_false rfl ?_
          refine J.skip ?_
          refine J.n_then ?_
          refine J.seq ?_
          refine J.seq ?_
          refine J.region ?_
          refine J.op (Yd.assign rfl) rfl ?_
          refine J.nil ?_
          refine J.n_then ?_
          refine J.block ?_
          refine J.loop (ι := Nat) (fun i => [(0, a), (1, v), (2, I (N : Int)), (11, I i), (7, s35_5)]) (fun i w' => 16 * i ≤ N + 16 ∧ Bs w' s35_5 (strQ key nonce (N : Int)) ∧ Ext w w') (fun i => N + 16 - 16 * i) (0) ⟨rfl, rfl, rfl, rfl, rfl, trivial⟩ (⟨by omega, rs35_5, e0⟩) ?_
          rintro k w8 ⟨hk2, hs7, e0⟩
          refine J.seq ?_
          refine J.seq ?_
          refine J.region ?_
          refine J.op (Yd.move rfl) rfl ?_
          refine J.op (Yd.mul rfl rfl (by first | omega | (simp only [Int.toNat_natCast]; omega) | (simp only [List.length_map, List.length_drop, List.length_take, List.length_append, List.length_replicate]; omega) | (simp [beN_len] <;> omega))) rfl ?_
          refine J.op (Yd.add rfl rfl (by first | omega | (simp only [Int.toNat_natCast]; omega) | (simp only [List.length_map, List.length_drop, List.length_take, List.length_append, List.length_replicate]; omega) | (simp [beN_len] <;> omega))) rfl ?_
          refine J.op (Yd.move rfl) rfl ?_
          refine J.op (Yd.leq rfl rfl) rfl ?_
          refine J.nil ?_
          refine J.n_then ?_
          refine J.cond_dec rfl (fun hc2 => ?_) (fun hc2 => ?_)
          · skip
            refine J.skip ?_
            refine J.n_then ?_
            refine J.seq ?_
            refine J.block ?_
            refine J.seq ?_
            refine J.region ?_
            refine J.op (Yd.move rfl) rfl ?_
            refine J.op (Yd.move rfl) rfl ?_
            refine J.op (Yd.move rfl) rfl ?_
            refine J.op (Yd.cv_i_64 Try.underlying3 Try.underlying42 rfl (by omega)) rfl ?_
            refine J.eff (Ye.call cl21 rfl (RBig_ok (n := 4) (by omega))) rfl ?_
            rintro s77_9 w9 ⟨os77_9, x1⟩
            have fr_s77_9 : Fr w.heap.size s77_9.ownBlock := Fr.le (Ow.fr os77_9) e0.size
            replace os77_9 := Ow.base os77_9 e0.size
            have e0 := e0.trans x1
            have hs7 := hs7.ext x1
            clear x1
            refine J.eff (Ye.litS2 Try.underlying58 ti22 rfl rfl rfl (Rd.ext ho e0) (Ow.rd os77_9)) rfl ?_
            rintro s78_10 w10 ⟨o78_10, x1⟩
            have e0 := e0.trans x1
            have hs7 := hs7.ext x1
            have os77_9 := os77_9.ext x1
            clear x1
            refine J.eff (Ye.call cl20 rfl (RCat_ok o78_10 (by first | omega | (simp [beN_len, leN_len, flipL_len, xorL_len] <;> omega)))) rfl ?_
            rintro s79_11 w11 ⟨os79_11, x1⟩
            have ap_s77_9_s79_11 : Ap s77_9.ownBlock s79_11.ownBlock := Ap.mk (Ow.live os77_9) (Ow.fr os79_11)
            have fr_s79_11 : Fr w.heap.size s79_11.ownBlock := Fr.le (Ow.fr os79_11) e0.size
            replace os79_11 := Ow.base os79_11 e0.size
            have e0 := e0.trans x1
            have hs7 := hs7.ext x1
            have os77_9 := os77_9.ext x1
            have o78_10 := o78_10.ext x1
            clear x1
            refine J.eff (Ye.call cl10 rfl (Block_ok (Rd.ext hk e0) (Ow.rd os79_11))) rfl ?_
            rintro _ w12 ⟨s80_12, rfl, rs80_12, x1⟩
            have e0 := e0.trans x1
            have hs7 := hs7.ext x1
            have os77_9 := os77_9.ext x1
            have o78_10 := o78_10.ext x1
            have os79_11 := os79_11.ext x1
            clear x1
            refine J.op (Yd.move rfl) rfl ?_
            refine J.op (Yd.extract rfl rfl) rfl ?_
            refine J.op (Yd.extract rfl rfl) rfl ?_
            refine J.op (Yd.assign rfl) rfl ?_
            refine J.op (Yd.assign rfl) rfl ?_
            refine J.nil ?_
            refine J.n_then ?_
            refine J.seq ?_
            refine J.regionO [(0, true), (1, true), (2, true), (3, true), (5, true), (6, true), (7, true), (8, true), (9, true), (10, true)] [(4, 1), (11, 1), (12, 1)] [(13, true), (14, true)] mix (by kernel_rfl) ?_
            refine J.s_op rfl (fun _ => Yd.move rfl) rfl ?_
            refine J.s_op rfl (fun _ => Yd.neq rfl rfl) rfl ?_
            refine J.s_op rfl (fun _ => Yd.move rfl) rfl ?_
            refine J.know (t := 85) (v' := .bool false) rfl (ff (by rw [blkE_yes ⟨hall.1, by simp [beN_len]; omega⟩]; decide)) ?_
            refine J.s_op_g rfl rfl rfl rfl (fun _ => Yd.move rfl) rfl ?_
            refine J.s_op_g rfl rfl rfl rfl (fun _ => Yd.move rfl) rfl ?_
            refine J.s_op_g rfl rfl rfl rfl (fun _ => Yd.move rfl) rfl ?_
            refine J.s_op_g rfl rfl rfl rfl (fun _ => Yd.mul rfl rfl (by first | omega | (simp only [Int.toNat_natCast]; omega) | (simp only [List.length_map, List.length_drop, List.length_take, List.length_append, List.length_replicate]; omega) | (simp [beN_len] <;> omega))) rfl ?_
            refine J.s_op_g rfl rfl rfl rfl (fun _ => Yd.move rfl) rfl ?_
            refine J.s_op_g rfl rfl rfl rfl (fun _ => Yd.mul rfl rfl (by first | omega | (simp only [Int.toNat_natCast]; omega) | (simp only [List.length_map, List.length_drop, List.length_take, List.length_append, List.length_replicate]; omega) | (simp [beN_len] <;> omega))) rfl ?_
            refine J.s_op_g rfl rfl rfl rfl (fun _ => Yd.add rfl rfl (by first | omega | (simp only [Int.toNat_natCast]; omega) | (simp only [List.length_map, List.length_drop, List.length_take, List.length_append, List.length_replicate]; omega) | (simp [beN_len] <;> omega))) rfl ?_
            refine J.s_nil ?_
            refine J.o_op_g rfl rfl rfl rfl (Yd.bstr Try.underlying22 Try.underlying5 Try.underlying9 rfl rs80_12) rfl ?_
            refine J.o_op_g rfl rfl rfl rfl (Yd.slcLH Try.underlying22 ti5 rfl hs7 rfl rfl (by first | omega | (simp only [Int.toNat_natCast]; omega) | (simp only [List.length_map, List.length_drop, List.length_take, List.length_append, List.length_replicate]; omega) | (simp [beN_len] <;> omega))) rfl ?_
            refine J.o_op_g rfl rfl rfl rfl (Yd.bstr Try.underlying22 Try.underlying5 Try.underlying9 rfl (Bs.slc hs7 (by first | omega | (simp only [Int.toNat_natCast]; omega) | (simp only [List.length_map, List.length_drop, List.length_take, List.length_append, List.length_replicate]; omega) | (simp [beN_len] <;> omega)) (by first | omega | (simp only [Int.toNat_natCast]; omega) | (simp only [List.length_map, List.length_drop, List.length_take, List.length_append, List.length_replicate]; omega) | (simp [beN_len] <;> omega)))) rfl ?_
            refine J.o_nil ?_
            refine J.s_op_g rfl rfl rfl rfl (fun _ => Yd.sne rfl rfl) rfl ?_
            refine J.s_op rfl (fun _ => Yd.pick_f rfl rfl) rfl ?_
            refine J.s_nil ?_
            refine J.n_np ?_
            refine J.n_then ?_
            refine J.know (t := 97) (v' := .bool false) rfl (ff (fun h => h (cnt_law hall.1 hall.2.1 hall.2.2.2 (by omega)))) ?_
            refine J.cond_false rfl ?_
            refine J.skip ?_
            refine J.n_block ?_
            refine J.n_then ?_
            refine J.region ?_
            refine J.op (Yd.move rfl) rfl ?_
            refine J.op (Yd.add rfl rfl (by first | omega | (simp only [Int.toNat_natCast]; omega) | (simp only [List.length_map, List.length_drop, List.length_take, List.length_append, List.length_replicate]; omega) | (simp [beN_len] <;> omega))) rfl ?_
            refine J.op (Yd.assign rfl) rfl ?_
            refine J.nil ?_
            refine J.n_then ?_
            exact J.round (k + 1) ⟨rfl, rfl, rfl, rfl, rfl, trivial⟩ (⟨by omega, hs7, e0⟩) (by omega)
          · skip
            refine J.exit ?_
            refine J.x_then ?_
            refine J.x_then ?_
            refine J.x_block ?_
            refine J.n_then ?_
            refine J.seq ?_
            refine J.region ?_
            refine J.eff (Ye.call cl9 rfl (awake_ok)) rfl ?_
            rintro _ w13 ⟨rfl, x1⟩
            have e0 := e0.trans x1
            have hs7 := hs7.ext x1
            clear x1
            refine J.op (Yd.assign rfl) rfl ?_
            refine J.nil ?_
            refine J.n_then ?_
            refine J.ret ?_
            exact J.ret1 rfl rfl (⟨_, rfl, rfl, e0⟩)

theorem AesBack_ok {a v u : Value} {key nonce m : List UInt8} {n q : Int} {w : World} (hk : Bs w a key) (ho : Bs w v nonce) (hu : Bs w u m) : C Try.prog 7 [a, v, u, I n, I q] w (Ret fun v w' => v = .bool true ∧ Ext w w') := by
  have e0 := Ext.refl w
  refine C.enter Try.func7 rfl Try.ntmps7 rfl ?_
  refine J.seq ?_
  refine J.region ?_
  refine J.op (Yd.assign rfl) rfl ?_
  refine J.nil ?_
  refine J.n_then ?_
  refine J.seq ?_
  refine J.seq ?_
  refine J.region ?_
  refine J.op (Yd.move rfl) rfl ?_
  refine J.op (Yd.len_b Try.underlying22 rfl hk) rfl ?_
  refine J.op (Yd.neq rfl rfl) rfl ?_
  refine J.op (Yd.move rfl) rfl ?_
  refine J.split_dec (t := 25) rfl (fun h1 => ?_) (fun h1 => ?_)
  · skip
    refine J.not_g rfl rfl rfl rfl rfl ?_
    refine J.not_g rfl rfl rfl rfl rfl ?_
    refine J.not_g rfl rfl rfl rfl rfl ?_
    refine J.op (Yd.pick_t rfl rfl) rfl ?_
    refine J.op (Yd.move rfl) rfl ?_
    refine J.not_g rfl rfl rfl rfl rfl ?_
    refine J.not_g rfl rfl rfl rfl rfl ?_
    refine J.not_g rfl rfl rfl rfl rfl ?_
    refine J.op (Yd.pick_t rfl rfl) rfl ?_
    refine J.op (Yd.move rfl) rfl ?_
    refine J.not_g rfl rfl rfl rfl rfl ?_
    refine J.not_g rfl rfl rfl rfl rfl ?_
    refine J.op (Yd.pick_t rfl rfl) rfl ?_
    refine J.op (Yd.move rfl) rfl ?_
    refine J.not_g rfl rfl rfl rfl rfl ?_
    refine J.not_g rfl rfl rfl rfl rfl ?_
    refine J.not_g rfl rfl rfl rfl rfl ?_
    refine J.op (Yd.pick_t rfl rfl) rfl ?_
    refine J.op (Yd.move rfl) rfl ?_
    refine J.not_g rfl rfl rfl rfl rfl ?_
    refine J.not_g rfl rfl rfl rfl rfl ?_
    refine J.op (Yd.pick_t rfl rfl) rfl ?_
    refine J.nil ?_
    refine J.n_then ?_
    refine J.cond_true rfl ?_
    refine J.seq ?_
    refine J.region ?_
    refine J.eff (Ye.call cl9 rfl (awake_ok)) rfl ?_
    rintro _ w1 ⟨rfl, x1⟩
    have e0 := e0.trans x1
    clear x1
    refine J.op (Yd.assign rfl) rfl ?_
    refine J.nil ?_
    refine J.n_then ?_
    refine J.ret ?_
    refine J.r_then ?_
    exact J.ret1 rfl rfl (⟨_, rfl, rfl, e0⟩)
  · skip
    refine J.op_g rfl rfl rfl (Yd.move rfl) rfl ?_
    refine J.op_g rfl rfl rfl (Yd.len_b Try.underlying22 rfl ho) rfl ?_
    refine J.op_g rfl rfl rfl (Yd.neq rfl rfl) rfl ?_
    refine J.op (Yd.pick_f rfl rfl) rfl ?_
    refine J.op (Yd.move rfl) rfl ?_
    refine J.split_dec (t := 30) rfl (fun h2 => ?_) (fun h2 => ?_)
    · skip
      refine J.not_g rfl rfl rfl rfl rfl ?_
      refine J.not_g rfl rfl rfl rfl rfl ?_
      refine J.not_g rfl rfl rfl rfl rfl ?_
      refine J.op (Yd.pick_t rfl rfl) rfl ?_
      refine J.op (Yd.move rfl) rfl ?_
      refine J.not_g rfl rfl rfl rfl rfl ?_
      refine J.not_g rfl rfl rfl rfl rfl ?_
      refine J.op (Yd.pick_t rfl rfl) rfl ?_
      refine J.op (Yd.move rfl) rfl ?_
      refine J.not_g rfl rfl rfl rfl rfl ?_
      refine J.not_g rfl rfl rfl rfl rfl ?_
      refine J.not_g rfl rfl rfl rfl rfl ?_
      refine J.op (Yd.pick_t rfl rfl) rfl ?_
      refine J.op (Yd.move rfl) rfl ?_
      refine J.not_g rfl rfl rfl rfl rfl ?_
      refine J.not_g rfl rfl rfl rfl rfl ?_
      refine J.op (Yd.pick_t rfl rfl) rfl ?_
      refine J.nil ?_
      refine J.n_then ?_
      refine J.cond_true rfl ?_
      refine J.seq ?_
      refine J.region ?_
      refine J.eff (Ye.call cl9 rfl (awake_ok)) rfl ?_
      rintro _ w2 ⟨rfl, x1⟩
      have e0 := e0.trans x1
      clear x1
      refine J.op (Yd.assign rfl) rfl ?_
      refine J.nil ?_
      refine J.n_then ?_
      refine J.ret ?_
      refine J.r_then ?_
      exact J.ret1 rfl rfl (⟨_, rfl, rfl, e0⟩)
    · skip
      refine J.op_g rfl rfl rfl (Yd.move rfl) rfl ?_
      refine J.op_g rfl rfl rfl (Yd.len_b Try.underlying22 rfl hu) rfl ?_
      refine J.op_g rfl rfl rfl (Yd.gtr rfl rfl) rfl ?_
      refine J.op (Yd.pick_f rfl rfl) rfl ?_
      refine J.op (Yd.move rfl) rfl ?_
      refine J.split_dec (t := 35) rfl (fun h3 => ?_) (fun h3 => ?_)
      · skip
        refine J.not_g rfl rfl rfl rfl rfl ?_
        refine J.not_g rfl rfl rfl rfl rfl ?_
        refine J.op (Yd.pick_t rfl rfl) rfl ?_
        refine J.op (Yd.move rfl) rfl ?_
        refine J.not_g rfl rfl rfl rfl rfl ?_
        refine J.not_g rfl rfl rfl rfl rfl ?_
        refine J.not_g rfl rfl rfl rfl rfl ?_
        refine J.op (Yd.pick_t rfl rfl) rfl ?_
        refine J.op (Yd.move rfl) rfl ?_
        refine J.not_g rfl rfl rfl rfl rfl ?_
        refine J.not_g rfl rfl rfl rfl rfl ?_
        refine J.op (Yd.pick_t rfl rfl) rfl ?_
        refine J.nil ?_
        refine J.n_then ?_
        refine J.cond_true rfl ?_
        refine J.seq ?_
        refine J.region ?_
        refine J.eff (Ye.call cl9 rfl (awake_ok)) rfl ?_
        rintro _ w3 ⟨rfl, x1⟩
        have e0 := e0.trans x1
        clear x1
        refine J.op (Yd.assign rfl) rfl ?_
        refine J.nil ?_
        refine J.n_then ?_
        refine J.ret ?_
        refine J.r_then ?_
        exact J.ret1 rfl rfl (⟨_, rfl, rfl, e0⟩)
      · skip
        refine J.op_g rfl rfl rfl (Yd.move rfl) rfl ?_
        refine J.op_g rfl rfl rfl (Yd.lss rfl rfl) rfl ?_
        refine J.op (Yd.pick_f rfl rfl) rfl ?_
        refine J.op (Yd.move rfl) rfl ?_
        refine J.split_dec (t := 39) rfl (fun h4 => ?_) (fun h4 => ?_)
        · skip
          refine J.not_g rfl rfl rfl rfl rfl ?_
          refine J.not_g rfl rfl rfl rfl rfl ?_
          refine J.not_g rfl rfl rfl rfl rfl ?_
          refine J.op (Yd.pick_t rfl rfl) rfl ?_
          refine J.op (Yd.move rfl) rfl ?_
          refine J.not_g rfl rfl rfl rfl rfl ?_
          refine J.not_g rfl rfl rfl rfl rfl ?_
          refine J.op (Yd.pick_t rfl rfl) rfl ?_
          refine J.nil ?_
          refine J.n_then ?_
          refine J.cond_true rfl ?_
          refine J.seq ?_
          refine J.region ?_
          refine J.eff (Ye.call cl9 rfl (awake_ok)) rfl ?_
          rintro _ w4 ⟨rfl, x1⟩
          have e0 := e0.trans x1
          clear x1
          refine J.op (Yd.assign rfl) rfl ?_
          refine J.nil ?_
          refine J.n_then ?_
          refine J.ret ?_
          refine J.r_then ?_
          exact J.ret1 rfl rfl (⟨_, rfl, rfl, e0⟩)
        · skip
          refine J.op_g rfl rfl rfl (Yd.move rfl) rfl ?_
          refine J.op_g rfl rfl rfl (Yd.move rfl) rfl ?_
          refine J.op_g rfl rfl rfl (Yd.lss rfl rfl) rfl ?_
          refine J.op (Yd.pick_f rfl rfl) rfl ?_
          refine J.op (Yd.move rfl) rfl ?_
          refine J.split_dec (t := 44) rfl (fun h5 => ?_) (fun h5 => ?_)
          · skip
            refine J.not_g rfl rfl rfl rfl rfl ?_
            refine J.not_g rfl rfl rfl rfl rfl ?_
            refine J.op (Yd.pick_t rfl rfl) rfl ?_
            refine J.nil ?_
            refine J.n_then ?_
            refine J.cond_true rfl ?_
            refine J.seq ?_
            refine J.region ?_
            refine J.eff (Ye.call cl9 rfl (awake_ok)) rfl ?_
            rintro _ w5 ⟨rfl, x1⟩
            have e0 := e0.trans x1
            clear x1
            refine J.op (Yd.assign rfl) rfl ?_
            refine J.nil ?_
            refine J.n_then ?_
            refine J.ret ?_
            refine J.r_then ?_
            exact J.ret1 rfl rfl (⟨_, rfl, rfl, e0⟩)
          · skip
            refine J.op_g rfl rfl rfl (Yd.move rfl) rfl ?_
            refine J.op_g rfl rfl rfl (Yd.gtr rfl rfl) rfl ?_
            refine J.op (Yd.pick_f rfl rfl) rfl ?_
            refine J.nil ?_
            refine J.n_then ?_
            refine J.cond_dec rfl (fun hc0 => ?_) (fun hc0 => ?_)
            · skip
              refine J.seq ?_
              refine J.region ?_
              refine J.eff (Ye.call cl9 rfl (awake_ok)) rfl ?_
              rintro _ w6 ⟨rfl, x1⟩
              have e0 := e0.trans x1
              clear x1
              refine J.op (Yd.assign rfl) rfl ?_
              refine J.nil ?_
              refine J.n_then ?_
              refine J.ret ?_
              refine J.r_then ?_
              exact J.ret1 rfl rfl (⟨_, rfl, rfl, e0⟩)
            · skip
              obtain ⟨N, rfl⟩ := Int.eq_ofNat_of_zero_le (show 0 ≤ n by omega)
              obtain ⟨Q, rfl⟩ := Int.eq_ofNat_of_zero_le (show 0 ≤ q by omega)
              have hb : key.length = 32 ∧ nonce.length = 12 ∧ 0 ≤ (m.length : Int) ∧ (m.length : Int) ≤ 1048576 := ⟨by omega, by omega, by omega, by omega⟩
              have hx : key.length = 32 ∧ nonce.length = 12 ∧ 0 ≤ (N : Int) ∧ (N : Int) ≤ 1048576 := ⟨by omega, by omega, by omega, by omega⟩
              have hy : key.length = 32 ∧ nonce.length = 12 ∧ 0 ≤ (Q : Int) ∧ (Q : Int) ≤ 1048576 := ⟨by omega, by omega, by omega, by omega⟩
              have hxl := strQ_len hx
              have hyl := strQ_len hy
              have hcl := cry_len hb
              rw [Int.toNat_natCast] at hxl hyl
              have hr0 := Int.emod_nonneg (N : Int) (show ((Q : Int) / 16 + 1) ≠ 0 by omega)
              have hr1 := Int.emod_lt_of_pos (N : Int) (show 0 < ((Q : Int) / 16 + 1) by omega)
              refine J.skip ?_
              refine J.n_then ?_
              refine J.seq ?_
              refine J.region ?_
              refine J.op (Yd.move rfl) rfl ?_
              refine J.op (Yd.move rfl) rfl ?_
              refine J.op (Yd.move rfl) rfl ?_
              refine J.eff (Ye.call cl17 rfl (Crypt_ok hk ho hu)) rfl ?_
              rintro _ w7 ⟨s53_7, rfl, rs53_7, x1⟩
              have e0 := e0.trans x1
              clear x1
              refine J.op (Yd.move rfl) rfl ?_
              refine J.op (Yd.extract rfl rfl) rfl ?_
              refine J.op (Yd.extract rfl rfl) rfl ?_
              refine J.op (Yd.assign rfl) rfl ?_
              refine J.op (Yd.assign rfl) rfl ?_
              refine J.nil ?_
              refine J.n_then ?_
              refine J.seq ?_
              refine J.region ?_
              refine J.op (Yd.move rfl) rfl ?_
              refine J.op (Yd.move rfl) rfl ?_
              refine J.op (Yd.move rfl) rfl ?_
              refine J.eff (Ye.call cl17 rfl (Crypt_ok (Rd.ext hk e0) (Rd.ext ho e0) rs53_7)) rfl ?_
              rintro _ w8 ⟨s60_8, rfl, rs60_8, x1⟩
              have e0 := e0.trans x1
              have rs53_7 := rs53_7.ext x1
              clear x1
              refine J.op (Yd.move rfl) rfl ?_
              refine J.op (Yd.extract rfl rfl) rfl ?_
              refine J.op (Yd.extract rfl rfl) rfl ?_
              refine J.op (Yd.assign rfl) rfl ?_
              refine J.op (Yd.assign rfl) rfl ?_
              refine J.nil ?_
              refine J.n_then ?_
              refine J.seq ?_
              refine J.region ?_
              refine J.op (Yd.move rfl) rfl ?_
              refine J.op (Yd.move rfl) rfl ?_
              refine J.op (Yd.move rfl) rfl ?_
              refine J.eff (Ye.call cl14 rfl (Stream_ok (Rd.ext hk e0) (Rd.ext ho e0))) rfl ?_
              rintro _ w9 ⟨s67_9, rfl, rs67_9, x1⟩
              have e0 := e0.trans x1
              have rs53_7 := rs53_7.ext x1
              have rs60_8 := rs60_8.ext x1
              clear x1
              refine J.op (Yd.move rfl) rfl ?_
              refine J.op (Yd.extract rfl rfl) rfl ?_
              refine J.op (Yd.extract rfl rfl) rfl ?_
              refine J.op (Yd.assign rfl) rfl ?_
              refine J.op (Yd.assign rfl) rfl ?_
              refine J.nil ?_
              refine J.n_then ?_
              refine J.seq ?_
              refine J.region ?_
              refine J.op (Yd.move rfl) rfl ?_
              refine J.op (Yd.move rfl) rfl ?_
              refine J.op (Yd.move rfl) rfl ?_
              refine J.eff (Ye.call cl14 rfl (Stream_ok (Rd.ext hk e0) (Rd.ext ho e0))) rfl ?_
              rintro _ w10 ⟨s74_10, rfl, rs74_10, x1⟩
              have e0 := e0.trans x1
              have rs53_7 := rs53_7.ext x1
              have rs60_8 := rs60_8.ext x1
              have rs67_9 := rs67_9.ext x1
              clear x1
              refine J.op (Yd.move rfl) rfl ?_
              refine J.op (Yd.extract rfl rfl) rfl ?_
              refine J.op (Yd.extract rfl rfl) rfl ?_
              refine J.op (Yd.assign rfl) rfl ?_
              refine J.op (Yd.assign rfl) rfl ?_
              refine J.nil ?_
              refine J.n_then ?_
              refine J.seq ?_
              refine J.seq ?_
              refine J.regionO [(0, true), (1, true), (2, true), (3, true), (4, true), (5, true), (6, true), (7, true), (8, true), (9, true), (10, true), (11, true), (12, true), (13, true), (14, true), (15, true), (17, true)] [(16, 1), (18, 1), (19, 1), (20, 1), (21, 1), (22, 1), (23, 1), (24, 1), (25, 1), (26, 1), (27, 1), (28, 1), (29, 1), (30, 1), (31, 1), (32, 1), (33, 1), (34, 1), (35, 1), (36, 1), (37, 1), (38, 1), (39, 1), (40, 1), (41, 1), (42, 1), (43, 1), (44, 1), (45, 1), (46, 1)] [(47, true), (48, true)] mix (by kernel_rfl) ?_
              refine J.s_op rfl (fun _ => Yd.move rfl) rfl ?_
              refine J.s_op rfl (fun _ => Yd.neq rfl rfl) rfl ?_
              refine J.s_op rfl (fun _ => Yd.move rfl) rfl ?_
              refine J.know (t := 79) (v' := .bool false) rfl (ff (by rw [cryE, strE_yes hb]; decide)) ?_
              refine J.s_op_g rfl rfl rfl rfl (fun _ => Yd.move rfl) rfl ?_
              refine J.s_op_g rfl rfl rfl rfl (fun _ => Yd.neq rfl rfl) rfl ?_
              refine J.s_op rfl (fun _ => Yd.pick_f rfl rfl) rfl ?_
              refine J.s_op rfl (fun _ => Yd.move rfl) rfl ?_
              refine J.know (t := 83) (v' := .bool false) rfl (ff (by rw [cryE, hcl, strE_yes hb]; decide)) ?_
              refine J.s_op_g rfl rfl rfl rfl (fun _ => Yd.move rfl) rfl ?_
              refine J.s_op_g rfl rfl rfl rfl (fun _ => Yd.neq rfl rfl) rfl ?_
              refine J.s_op rfl (fun _ => Yd.pick_f rfl rfl) rfl ?_
              refine J.s_op rfl (fun _ => Yd.move rfl) rfl ?_
              refine J.know (t := 87) (v' := .bool false) rfl (ff (by rw [strE_yes hx]; decide)) ?_
              refine J.s_op_g rfl rfl rfl rfl (fun _ => Yd.move rfl) rfl ?_
              refine J.s_op_g rfl rfl rfl rfl (fun _ => Yd.neq rfl rfl) rfl ?_
              refine J.s_op rfl (fun _ => Yd.pick_f rfl rfl) rfl ?_
              refine J.s_op rfl (fun _ => Yd.move rfl) rfl ?_
              refine J.know (t := 91) (v' := .bool false) rfl (ff (by rw [strE_yes hy]; decide)) ?_
              refine J.s_op_g rfl rfl rfl rfl (fun _ => Yd.move rfl) rfl ?_
              refine J.s_op_g rfl rfl rfl rfl (fun _ => Yd.move rfl) rfl ?_
              refine J.s_nil ?_
              refine J.o_op_g rfl rfl rfl rfl (Yd.bstr Try.underlying22 Try.underlying5 Try.underlying9 rfl rs60_8) rfl ?_
              refine J.o_op_g rfl rfl rfl rfl (Yd.bstr Try.underlying22 Try.underlying5 Try.underlying9 rfl (Rd.ext hu e0)) rfl ?_
              refine J.o_op_g rfl rfl rfl rfl (Yd.sne rfl rfl) rfl ?_
              refine J.o_op rfl (Yd.pick_f rfl rfl) rfl ?_
              refine J.o_op rfl (Yd.move rfl) rfl ?_
              refine J.know (t := 98) (v' := .bool false) rfl (ff (by exact fun h => h (cry_cry hb))) ?_
              refine J.o_op_g rfl rfl rfl rfl (Yd.move rfl) rfl ?_
              refine J.o_op_g rfl rfl rfl rfl (Yd.len_b Try.underlying22 rfl rs53_7) rfl ?_
              refine J.o_op_g rfl rfl rfl rfl (Yd.move rfl) rfl ?_
              refine J.o_op_g rfl rfl rfl rfl (Yd.len_b Try.underlying22 rfl (Rd.ext hu e0)) rfl ?_
              refine J.o_op_g rfl rfl rfl rfl (Yd.neq rfl rfl) rfl ?_
              refine J.o_op rfl (Yd.pick_f rfl rfl) rfl ?_
              refine J.o_op rfl (Yd.move rfl) rfl ?_
              refine J.know (t := 105) (v' := .bool false) rfl (ff (by rw [hcl]; simp)) ?_
              refine J.o_op_g rfl rfl rfl rfl (Yd.move rfl) rfl ?_
              refine J.o_op_g rfl rfl rfl rfl (Yd.len_b Try.underlying22 rfl rs67_9) rfl ?_
              refine J.o_op_g rfl rfl rfl rfl (Yd.move rfl) rfl ?_
              refine J.o_op_g rfl rfl rfl rfl (Yd.neq rfl rfl) rfl ?_
              refine J.o_op rfl (Yd.pick_f rfl rfl) rfl ?_
              refine J.o_op rfl (Yd.move rfl) rfl ?_
              refine J.know (t := 111) (v' := .bool false) rfl (ff (by rw [hxl]; simp)) ?_
              refine J.o_op_g rfl rfl rfl rfl (Yd.move rfl) rfl ?_
              refine J.o_op_g rfl rfl rfl rfl (Yd.len_b Try.underlying22 rfl rs74_10) rfl ?_
              refine J.o_op_g rfl rfl rfl rfl (Yd.move rfl) rfl ?_
              refine J.o_op_g rfl rfl rfl rfl (Yd.neq rfl rfl) rfl ?_
              refine J.o_op rfl (Yd.pick_f rfl rfl) rfl ?_
              refine J.o_op rfl (Yd.move rfl) rfl ?_
              refine J.know (t := 117) (v' := .bool false) rfl (ff (by rw [hyl]; simp)) ?_
              refine J.o_op_g rfl rfl rfl rfl (Yd.move rfl) rfl ?_
              refine J.o_op_g rfl rfl rfl rfl (Yd.move rfl) rfl ?_
              refine J.o_op_g rfl rfl rfl rfl (Yd.slcH Try.underlying22 ti5 rfl rs74_10 rfl (by first | omega | (simp only [Int.toNat_natCast]; omega) | (simp only [List.length_map, List.length_drop, List.length_take, List.length_append, List.length_replicate]; omega) | (simp [beN_len] <;> omega))) rfl ?_
              refine J.o_op_g rfl rfl rfl rfl (Yd.bstr Try.underlying22 Try.underlying5 Try.underlying9 rfl (Bs.slc rs74_10 (by first | omega | (simp only [Int.toNat_natCast]; omega) | (simp only [List.length_map, List.length_drop, List.length_take, List.length_append, List.length_replicate]; omega) | (simp [beN_len] <;> omega)) (by first | omega | (simp only [Int.toNat_natCast]; omega) | (simp only [List.length_map, List.length_drop, List.length_take, List.length_append, List.length_replicate]; omega) | (simp [beN_len] <;> omega)))) rfl ?_
              refine J.o_op_g rfl rfl rfl rfl (Yd.move rfl) rfl ?_
              refine J.o_op_g rfl rfl rfl rfl (Yd.bstr Try.underlying22 Try.underlying5 Try.underlying9 rfl rs67_9) rfl ?_
              refine J.o_nil ?_
              refine J.s_op_g rfl rfl rfl rfl (fun _ => Yd.sne rfl rfl) rfl ?_
              refine J.s_op rfl (fun _ => Yd.pick_f rfl rfl) rfl ?_
              refine J.s_nil ?_
              refine J.n_np ?_
              refine J.n_then ?_
              refine J.know (t := 125) (v' := .bool false) rfl (ff (fun h => h (strQ_take hx.1 hx.2.1 (by omega) (by omega)))) ?_
              refine J.cond_false rfl ?_
              refine J.skip ?_
              refine J.n_then ?_
              refine J.seq ?_
              refine J.region ?_
              refine J.op (Yd.move rfl) rfl ?_
              refine J.op (Yd.move rfl) rfl ?_
              refine J.op (Yd.quo rfl rfl (by first | omega | (simp only [Int.toNat_natCast]; omega) | (simp only [List.length_map, List.length_drop, List.length_take, List.length_append, List.length_replicate]; omega) | (simp [beN_len] <;> omega)) (by first | omega | (simp only [Int.toNat_natCast]; omega) | (simp only [List.length_map, List.length_drop, List.length_take, List.length_append, List.length_replicate]; omega) | (simp [beN_len] <;> omega)) (by first | omega | (simp only [Int.toNat_natCast]; omega) | (simp only [List.length_map, List.length_drop, List.length_take, List.length_append, List.length_replicate]; omega) | (simp [beN_len] <;> omega))) rfl ?_
              refine J.op (Yd.add rfl rfl (by first | omega | (simp only [Int.toNat_natCast]; omega) | (simp only [List.length_map, List.length_drop, List.length_take, List.length_append, List.length_replicate]; omega) | (simp [beN_len] <;> omega))) rfl ?_
              refine J.eff (Ye.call cl19 rfl (Round_ok (by omega) (by omega))) rfl ?_
              rintro _ w11 ⟨rfl, x1⟩
              have e0 := e0.trans x1
              have rs53_7 := rs53_7.ext x1
              have rs60_8 := rs60_8.ext x1
              have rs67_9 := rs67_9.ext x1
              have rs74_10 := rs74_10.ext x1
              clear x1
              refine J.op (Yd.assign rfl) rfl ?_
              refine J.nil ?_
              refine J.n_then ?_
              refine J.seq ?_
              refine J.seq ?_
              refine J.region ?_
              refine J.op (Yd.move rfl) rfl ?_
              refine J.op (Yd.mul rfl rfl (by first | omega | (simp only [Int.toNat_natCast]; omega) | (simp only [List.length_map, List.length_drop, List.length_take, List.length_append, List.length_replicate]; omega) | (simp [beN_len] <;> omega))) rfl ?_
              refine J.op (Yd.add rfl rfl (by first | omega | (simp only [Int.toNat_natCast]; omega) | (simp only [List.length_map, List.length_drop, List.length_take, List.length_append, List.length_replicate]; omega) | (simp [beN_len] <;> omega))) rfl ?_
              refine J.op (Yd.move rfl) rfl ?_
              refine J.op (Yd.gtr rfl rfl) rfl ?_
              refine J.nil ?_
              refine J.n_then ?_
              refine J.cond_dec rfl (fun hc2 => ?_) (fun hc2 => ?_)
              · skip
                refine J.seq ?_
                refine J.region ?_
                refine J.eff (Ye.call cl9 rfl (awake_ok)) rfl ?_
                rintro _ w12 ⟨rfl, x1⟩
                have e0 := e0.trans x1
                have rs53_7 := rs53_7.ext x1
                have rs60_8 := rs60_8.ext x1
                have rs67_9 := rs67_9.ext x1
                have rs74_10 := rs74_10.ext x1
                clear x1
                refine J.op (Yd.assign rfl) rfl ?_
                refine J.nil ?_
                refine J.n_then ?_
                refine J.ret ?_
                refine J.r_then ?_
                exact J.ret1 rfl rfl (⟨_, rfl, rfl, e0⟩)
              · skip
                refine J.skip ?_
                refine J.n_then ?_
                refine J.seq ?_
                refine J.region ?_
                refine J.op (Yd.move rfl) rfl ?_
                refine J.op (Yd.move rfl) rfl ?_
                refine J.op (Yd.move rfl) rfl ?_
                refine J.op (Yd.cv_i_64 Try.underlying3 Try.underlying42 rfl (by omega)) rfl ?_
                refine J.eff (Ye.call cl21 rfl (RBig_ok (n := 4) (by omega))) rfl ?_
                rintro s142_13 w13 ⟨os142_13, x1⟩
                have fr_s142_13 : Fr w.heap.size s142_13.ownBlock := Fr.le (Ow.fr os142_13) e0.size
                replace os142_13 := Ow.base os142_13 e0.size
                have e0 := e0.trans x1
                have rs53_7 := rs53_7.ext x1
                have rs60_8 := rs60_8.ext x1
                have rs67_9 := rs67_9.ext x1
                have rs74_10 := rs74_10.ext x1
                clear x1
                refine J.eff (Ye.litS2 Try.underlying58 ti22 rfl rfl rfl (Rd.ext ho e0) (Ow.rd os142_13)) rfl ?_
                rintro s143_14 w14 ⟨o143_14, x1⟩
                have e0 := e0.trans x1
                have rs53_7 := rs53_7.ext x1
                have rs60_8 := rs60_8.ext x1
                have rs67_9 := rs67_9.ext x1
                have rs74_10 := rs74_10.ext x1
                have os142_13 := os142_13.ext x1
                clear x1
                refine J.eff (Ye.call cl20 rfl (RCat_ok o143_14 (by first | omega | (simp [beN_len, leN_len, flipL_len, xorL_len] <;> omega)))) rfl ?_
                rintro s144_15 w15 ⟨os144_15, x1⟩
                have ap_s142_13_s144_15 : Ap s142_13.ownBlock s144_15.ownBlock := Ap.mk (Ow.live os142_13) (Ow.fr os144_15)
                have fr_s144_15 : Fr w.heap.size s144_15.ownBlock := Fr.le (Ow.fr os144_15) e0.size
                replace os144_15 := Ow.base os144_15 e0.size
                have e0 := e0.trans x1
                have rs53_7 := rs53_7.ext x1
                have rs60_8 := rs60_8.ext x1
                have rs67_9 := rs67_9.ext x1
                have rs74_10 := rs74_10.ext x1
                have os142_13 := os142_13.ext x1
                have o143_14 := o143_14.ext x1
                clear x1
                refine J.eff (Ye.call cl10 rfl (Block_ok (Rd.ext hk e0) (Ow.rd os144_15))) rfl ?_
                rintro _ w16 ⟨s145_16, rfl, rs145_16, x1⟩
                have e0 := e0.trans x1
                have rs53_7 := rs53_7.ext x1
                have rs60_8 := rs60_8.ext x1
                have rs67_9 := rs67_9.ext x1
                have rs74_10 := rs74_10.ext x1
                have os142_13 := os142_13.ext x1
                have o143_14 := o143_14.ext x1
                have os144_15 := os144_15.ext x1
                clear x1
                refine J.op (Yd.move rfl) rfl ?_
                refine J.op (Yd.extract rfl rfl) rfl ?_
                refine J.op (Yd.extract rfl rfl) rfl ?_
                refine J.op (Yd.assign rfl) rfl ?_
                refine J.op (Yd.assign rfl) rfl ?_
                refine J.nil ?_
                refine J.n_then ?_
                refine J.seq ?_
                refine J.regionO [(0, true), (1, true), (2, true), (3, true), (5, true), (6, true), (7, true), (8, true), (9, true), (10, true)] [(4, 1), (11, 1), (12, 1)] [(13, true), (14, true), (15, true), (16, false), (17, true), (18, true)] mix (by kernel_rfl) ?_
                refine J.s_op rfl (fun _ => Yd.move rfl) rfl ?_
                refine J.s_op rfl (fun _ => Yd.eql rfl rfl) rfl ?_
                refine J.s_op rfl (fun _ => Yd.move rfl) rfl ?_
                refine J.know (t := 150) (v' := .bool true) rfl (tt (by exact blkE_yes ⟨hx.1, by simp [beN_len]; omega⟩)) ?_
                refine J.s_op_g rfl rfl rfl rfl (fun _ => Yd.move rfl) rfl ?_
                refine J.s_op_g rfl rfl rfl rfl (fun _ => Yd.move rfl) rfl ?_
                refine J.s_op_g rfl rfl rfl rfl (fun _ => Yd.move rfl) rfl ?_
                refine J.s_op_g rfl rfl rfl rfl (fun _ => Yd.mul rfl rfl (by first | omega | (simp only [Int.toNat_natCast]; omega) | (simp only [List.length_map, List.length_drop, List.length_take, List.length_append, List.length_replicate]; omega) | (simp [beN_len] <;> omega))) rfl ?_
                refine J.s_op_g rfl rfl rfl rfl (fun _ => Yd.move rfl) rfl ?_
                refine J.s_op_g rfl rfl rfl rfl (fun _ => Yd.mul rfl rfl (by first | omega | (simp only [Int.toNat_natCast]; omega) | (simp only [List.length_map, List.length_drop, List.length_take, List.length_append, List.length_replicate]; omega) | (simp [beN_len] <;> omega))) rfl ?_
                refine J.s_op_g rfl rfl rfl rfl (fun _ => Yd.add rfl rfl (by first | omega | (simp only [Int.toNat_natCast]; omega) | (simp only [List.length_map, List.length_drop, List.length_take, List.length_append, List.length_replicate]; omega) | (simp [beN_len] <;> omega))) rfl ?_
                refine J.s_nil ?_
                refine J.o_op_g rfl rfl rfl rfl (Yd.bstr Try.underlying22 Try.underlying5 Try.underlying9 rfl rs145_16) rfl ?_
                refine J.o_op_g rfl rfl rfl rfl (Yd.slcLH Try.underlying22 ti5 rfl rs74_10 rfl rfl (by first | omega | (simp only [Int.toNat_natCast]; omega) | (simp only [List.length_map, List.length_drop, List.length_take, List.length_append, List.length_replicate]; omega) | (simp [beN_len] <;> omega))) rfl ?_
                refine J.o_op_g rfl rfl rfl rfl (Yd.bstr Try.underlying22 Try.underlying5 Try.underlying9 rfl (Bs.slc rs74_10 (by first | omega | (simp only [Int.toNat_natCast]; omega) | (simp only [List.length_map, List.length_drop, List.length_take, List.length_append, List.length_replicate]; omega) | (simp [beN_len] <;> omega)) (by first | omega | (simp only [Int.toNat_natCast]; omega) | (simp only [List.length_map, List.length_drop, List.length_take, List.length_append, List.length_replicate]; omega) | (simp [beN_len] <;> omega)))) rfl ?_
                refine J.o_nil ?_
                refine J.s_op_g rfl rfl rfl rfl (fun _ => Yd.seq rfl rfl) rfl ?_
                refine J.s_op rfl (fun _ => Yd.pick_t rfl rfl) rfl ?_
                refine J.s_op rfl (fun _ => Yd.move rfl) rfl ?_
                refine J.know (t := 163) (v' := .bool true) rfl (tt (by exact back_law hy.1 hy.2.1 hy.2.2.2 hr0 (by omega))) ?_
                refine J.s_eff_g rfl rfl rfl rfl (Ye.call cl9 rfl (awake_ok)) rfl ?_
                rintro _ w17 ⟨rfl, x1⟩
                have e0 := e0.trans x1
                have rs53_7 := rs53_7.ext x1
                have rs60_8 := rs60_8.ext x1
                have rs67_9 := rs67_9.ext x1
                have rs74_10 := rs74_10.ext x1
                have os142_13 := os142_13.ext x1
                have o143_14 := o143_14.ext x1
                have os144_15 := os144_15.ext x1
                have rs145_16 := rs145_16.ext x1
                clear x1
                refine J.s_op rfl (fun _ => Yd.pick_t rfl rfl) rfl ?_
                refine J.s_op rfl (fun _ => Yd.assign rfl) rfl ?_
                refine J.s_nil ?_
                refine J.n_np ?_
                refine J.n_then ?_
                refine J.ret ?_
                exact J.ret1 rfl rfl (⟨_, rfl, rfl, e0⟩)
end Ytbklhpdfbdhoeaa
end Go.Proofs
