import Derived.Test.YtghklimejpmpnaaT
import Derived.Test.YtghklimejpmpnaaX22
import Derived.Test.YtghklimejpmpnaaC10
set_option linter.unusedVariables false
set_option linter.unusedSimpArgs false
set_option maxRecDepth 100000
set_option maxHeartbeats 4000000
namespace Go.Proofs
open Go.X Go.RowKit
namespace Ytghklimejpmpnaa
theorem Ints_ok {sl sm : Value} {l m : List Int} {w : World} (hl : Rd w sl (l.map fun x => I x)) (hm : Rd w sm (m.map fun x => I x)) : C Try.prog 17 [sl, sm] w (Ret fun v w' => v = .bool (decide (l = m)) ∧ Ext w w') := by
  have hlm := Rd.max hl
  rw [List.length_map] at hlm
  have e0 := Ext.refl w
  refine C.enter Try.func17 rfl Try.ntmps17 rfl ?_
  refine J.seq ?_
  refine J.region ?_
  refine J.op (Yd.assign rfl) rfl ?_
  refine J.nil ?_
  refine J.n_then ?_
  refine J.seq ?_
  refine J.seq ?_
  refine J.region ?_
  refine J.op (Yd.move rfl) rfl ?_
  refine J.op (Yd.len_m Try.underlying37 rfl hl) rfl ?_
  refine J.op (Yd.move rfl) rfl ?_
  refine J.op (Yd.len_m Try.underlying37 rfl hm) rfl ?_
  refine J.op (Yd.neq rfl rfl) rfl ?_
  refine J.nil ?_
  refine J.n_then ?_
  refine J.cond_dec rfl (fun hc0 => ?_) (fun hc0 => ?_)
  · skip
    refine J.seq ?_
    refine J.region ?_
    refine J.op (Yd.assign rfl) rfl ?_
    refine J.nil ?_
    refine J.n_then ?_
    refine J.ret ?_
    refine J.r_then ?_
    exact J.ret1 rfl rfl (⟨_, rfl, congrArg Value.bool (by first | exact ints_len hc0 | exact ints_no hlen (k := k) (by rw [Int.toNat_natCast] at hc2; exact hc2)), e0⟩)
  · skip
    have hlen : l.length = m.length := by omega
    refine J.skip ?_
    refine J.n_then ?_
    refine J.seq ?_
    refine J.seq ?_
    refine J.region ?_
    refine J.op (Yd.assign rfl) rfl ?_
    refine J.nil ?_
    refine J.n_then ?_
    refine J.block ?_
    refine J.loop (ι := Nat) (fun i => [(0, sl), (1, sm), (5, I (i : Int))]) (fun i w' => i ≤ l.length ∧ (∀ j, j < i → l.getD j 0 = m.getD j 0) ∧ Ext w w') (fun i => l.length - i) (0) ⟨rfl, rfl, rfl, trivial⟩ (⟨Nat.zero_le _, fun j hj => absurd hj (Nat.not_lt_zero _), e0⟩) ?_
    rintro k w1 ⟨hk, hall, e0⟩
    refine J.seq ?_
    refine J.seq ?_
    refine J.region ?_
    refine J.op (Yd.move rfl) rfl ?_
    refine J.op (Yd.move rfl) rfl ?_
    refine J.op (Yd.len_m Try.underlying37 rfl (Rd.ext hl e0)) rfl ?_
    refine J.op (Yd.lss rfl rfl) rfl ?_
    refine J.nil ?_
    refine J.n_then ?_
    refine J.cond_dec rfl (fun hc1 => ?_) (fun hc1 => ?_)
    · skip
      refine J.skip ?_
      refine J.n_then ?_
      refine J.seq ?_
      refine J.block ?_
      refine J.seq ?_
      refine J.regionO [(0, true), (1, true), (4, true), (5, true)] [(2, 1), (3, 1), (6, 1), (7, 1)] [(8, true)] mix (by kernel_rfl) ?_
      refine J.s_op rfl (fun _ => Yd.move rfl) rfl ?_
      refine J.s_op rfl (fun _ => Yd.move rfl) rfl ?_
      refine J.s_op rfl (fun _ => Yd.move rfl) rfl ?_
      refine J.s_op rfl (fun _ => Yd.move rfl) rfl ?_
      refine J.s_nil ?_
      refine J.o_op rfl (Yd.idx_m Try.underlying37 ti3 rfl rfl (Rd.ext hl e0) (by first | omega | exact idx_u8' _ | (simp only [Int.toNat_natCast]; omega) | (simp only [List.length_map, List.length_drop, List.length_take, List.length_append, List.length_replicate]; omega) | (simp <;> omega))) rfl ?_
      refine J.o_op rfl (Yd.load pl3 rfl (Rd.cellI (Rd.ext hl e0) (by first | omega | exact idx_u8' _ | (simp only [Int.toNat_natCast]; omega) | (simp only [List.length_map, List.length_drop, List.length_take, List.length_append, List.length_replicate]; omega) | (simp <;> omega)))) rfl ?_
      refine J.o_op rfl (Yd.idx_m Try.underlying37 ti3 rfl rfl (Rd.ext hm e0) (by first | omega | exact idx_u8' _ | (simp only [Int.toNat_natCast]; omega) | (simp only [List.length_map, List.length_drop, List.length_take, List.length_append, List.length_replicate]; omega) | (simp <;> omega))) rfl ?_
      refine J.o_op rfl (Yd.load pl3 rfl (Rd.cellI (Rd.ext hm e0) (by first | omega | exact idx_u8' _ | (simp only [Int.toNat_natCast]; omega) | (simp only [List.length_map, List.length_drop, List.length_take, List.length_append, List.length_replicate]; omega) | (simp <;> omega)))) rfl ?_
      refine J.o_nil ?_
      refine J.s_op rfl (fun _ => Yd.neq rfl rfl) rfl ?_
      refine J.s_nil ?_
      refine J.n_np ?_
      refine J.n_then ?_
      refine J.cond_dec rfl (fun hc2 => ?_) (fun hc2 => ?_)
      · skip
        refine J.seq ?_
        refine J.region ?_
        refine J.op (Yd.assign rfl) rfl ?_
        refine J.nil ?_
        refine J.n_then ?_
        refine J.ret ?_
        refine J.r_block ?_
        refine J.r_then ?_
        refine J.r_then ?_
        refine J.r_block ?_
        refine J.r_then ?_
        exact J.ret1 rfl rfl (⟨_, rfl, congrArg Value.bool (by first | exact ints_len hc0 | exact ints_no hlen (k := k) (by rw [Int.toNat_natCast] at hc2; exact hc2)), e0⟩)
      · skip
        refine J.skip ?_
        refine J.n_block ?_
        refine J.n_then ?_
        refine J.region ?_
        refine J.op (Yd.move rfl) rfl ?_
        refine J.op (Yd.add rfl rfl (by first | omega | exact idx_u8' _ | (simp only [Int.toNat_natCast]; omega) | (simp only [List.length_map, List.length_drop, List.length_take, List.length_append, List.length_replicate]; omega) | (simp <;> omega))) rfl ?_
        refine J.op (Yd.assign rfl) rfl ?_
        refine J.nil ?_
        refine J.n_then ?_
        exact J.round (k + 1) ⟨rfl, rfl, rfl, trivial⟩ (⟨by omega, fun j hj => by rcases (show j < k ∨ j = k by omega) with h | rfl; exact hall j h; rw [Int.toNat_natCast] at hc2; exact Classical.not_not.1 hc2, e0⟩) (by omega)
    · skip
      refine J.exit ?_
      refine J.x_then ?_
      refine J.x_then ?_
      refine J.x_block ?_
      refine J.n_then ?_
      refine J.seq ?_
      refine J.region ?_
      refine J.op (Yd.assign rfl) rfl ?_
      refine J.nil ?_
      refine J.n_then ?_
      refine J.ret ?_
      exact J.ret1 rfl rfl (⟨_, rfl, congrArg Value.bool (ints_all hlen (fun j hj => hall j (by omega))), e0⟩)

theorem BoxesOut {id n size len : Int} {se : Value} {es : List Pc} {w : World} (hse : Er pcS w se es) (hQ : ∀ u ∈ es, ∃ l : List UInt8, Bs w u.2.2.2 l) (hb : 40 < es.length) : C Try.prog 5 [I id, I n, I size, I len, se] w (Ret fun v w' => v = .bool true ∧ Ext w w') := by
  have hmx := hse.max
  have e0 := Ext.refl w
  refine C.enter Try.func5 rfl Try.ntmps5 rfl ?_
  refine J.seq ?_
  refine J.region ?_
  refine J.op (Yd.assign rfl) rfl ?_
  refine J.nil ?_
  refine J.n_then ?_
  refine J.seq ?_
  refine J.seq ?_
  refine J.region ?_
  refine J.op (Yd.move rfl) rfl ?_
  refine J.op (Yd.lenE (K := pcS) Try.underlying40 rfl (Er.ext hse e0)) rfl ?_
  refine J.op (Yd.gtr rfl rfl) rfl ?_
  refine J.nil ?_
  refine J.n_then ?_
  refine J.know (t := 21) (v' := .bool true) rfl (tt (by omega)) ?_
  refine J.cond_true rfl ?_
  refine J.seq ?_
  refine J.region ?_
  refine J.eff (Ye.call cl8 rfl (Awake_ok)) rfl ?_
  rintro _ w1 ⟨rfl, x1⟩
  have e0 := e0.trans x1
  clear x1
  refine J.op (Yd.assign rfl) rfl ?_
  refine J.nil ?_
  refine J.n_then ?_
  refine J.ret ?_
  refine J.r_then ?_
  exact J.ret1 rfl rfl (⟨_, rfl, rfl, e0⟩)

theorem BoxesNo {id n size len : Int} {se : Value} {es : List Pc} {w : World} (hse : Er pcS w se es) (hQ : ∀ u ∈ es, ∃ l : List UInt8, Bs w u.2.2.2 l) (hb : es.length ≤ 40) (hv : ¬ ((0 ≤ id ∧ id ≤ 1073741824) ∧ (1 ≤ n ∧ n ≤ 10000) ∧ (1 ≤ size ∧ size ≤ 10000) ∧ (1 ≤ len ∧ len ≤ 10000) ∧ n = (len + size - 1) / size)) : C Try.prog 5 [I id, I n, I size, I len, se] w (Ret fun v w' => v = .bool true ∧ Ext w w') := by
  have hmx := hse.max
  have e0 := Ext.refl w
  refine C.enter Try.func5 rfl Try.ntmps5 rfl ?_
  refine J.seq ?_
  refine J.region ?_
  refine J.op (Yd.assign rfl) rfl ?_
  refine J.nil ?_
  refine J.n_then ?_
  refine J.seq ?_
  refine J.seq ?_
  refine J.region ?_
  refine J.op (Yd.move rfl) rfl ?_
  refine J.op (Yd.lenE (K := pcS) Try.underlying40 rfl (Er.ext hse e0)) rfl ?_
  refine J.op (Yd.gtr rfl rfl) rfl ?_
  refine J.nil ?_
  refine J.n_then ?_
  refine J.know (t := 21) (v' := .bool false) rfl (ff (by omega)) ?_
  refine J.cond_false rfl ?_
  refine J.skip ?_
  refine J.n_then ?_
  refine J.seq ?_
  refine J.region ?_
  refine J.op (Yd.move rfl) rfl ?_
  refine J.op (Yd.move rfl) rfl ?_
  refine J.op (Yd.move rfl) rfl ?_
  refine J.op (Yd.move rfl) rfl ?_
  refine J.eff (Ye.call cl14 rfl (New_no hv)) rfl ?_
  rintro _ w1 ⟨rfl, x1⟩
  have e0 := e0.trans x1
  clear x1
  refine J.op (Yd.move rfl) rfl ?_
  refine J.op (Yd.extract rfl rfl) rfl ?_
  refine J.op (Yd.extract rfl rfl) rfl ?_
  refine J.op (Yd.assign rfl) rfl ?_
  refine J.op (Yd.assign rfl) rfl ?_
  refine J.nil ?_
  refine J.n_then ?_
  refine J.seq ?_
  refine J.region ?_
  refine J.op (Yd.move rfl) rfl ?_
  refine J.op (Yd.move rfl) rfl ?_
  refine J.op (Yd.move rfl) rfl ?_
  refine J.op (Yd.move rfl) rfl ?_
  refine J.eff (Ye.call cl15 rfl (NewBox_no hv)) rfl ?_
  rintro _ w2 ⟨rfl, x1⟩
  have e0 := e0.trans x1
  clear x1
  refine J.op (Yd.move rfl) rfl ?_
  refine J.op (Yd.extract rfl rfl) rfl ?_
  refine J.op (Yd.extract rfl rfl) rfl ?_
  refine J.op (Yd.assign rfl) rfl ?_
  refine J.op (Yd.assign rfl) rfl ?_
  refine J.nil ?_
  refine J.n_then ?_
  refine J.seq ?_
  refine J.seq ?_
  refine J.region ?_
  refine J.op (Yd.move rfl) rfl ?_
  refine J.op (Yd.move rfl) rfl ?_
  refine J.op (Yd.neq rfl rfl) rfl ?_
  refine J.op (Yd.move rfl) rfl ?_
  refine J.know (t := 42) (v' := .bool false) rfl (ff (by decide)) ?_
  refine J.op_g rfl rfl rfl (Yd.move rfl) rfl ?_
  refine J.op_g rfl rfl rfl (Yd.cast (Yd.nePn Try.underlying32 rfl rfl) (show _ = Value.bool false from rfl)) rfl ?_
  refine J.op_g rfl rfl rfl (Yd.move rfl) rfl ?_
  refine J.op_g rfl rfl rfl (Yd.cast (Yd.nePn Try.underlying43 rfl rfl) (show _ = Value.bool false from rfl)) rfl ?_
  refine J.op_g rfl rfl rfl (Yd.neqb rfl rfl Try.underlying4) rfl ?_
  refine J.op (Yd.pick_f rfl rfl) rfl ?_
  refine J.nil ?_
  refine J.n_then ?_
  refine J.know (t := 48) (v' := .bool false) rfl (ff (by decide)) ?_
  refine J.cond_false rfl ?_
  refine J.skip ?_
  refine J.n_then ?_
  refine J.seq ?_
  refine J.seq ?_
  refine J.region ?_
  refine J.op (Yd.move rfl) rfl ?_
  refine J.op (Yd.cast (Yd.eqPn Try.underlying32 rfl rfl) (show _ = Value.bool true from rfl)) rfl ?_
  refine J.nil ?_
  refine J.n_then ?_
  refine J.cond_true rfl ?_
  refine J.seq ?_
  refine J.region ?_
  refine J.eff (Ye.call cl8 rfl (Awake_ok)) rfl ?_
  rintro _ w3 ⟨rfl, x1⟩
  have e0 := e0.trans x1
  clear x1
  refine J.op (Yd.assign rfl) rfl ?_
  refine J.nil ?_
  refine J.n_then ?_
  refine J.ret ?_
  refine J.r_then ?_
  exact J.ret1 rfl rfl (⟨_, rfl, rfl, e0⟩)

theorem BoxesIn {id n size len : Int} {se : Value} {es : List Pc} {w : World} (hse : Er pcS w se es) (hQ : ∀ u ∈ es, ∃ l : List UInt8, Bs w u.2.2.2 l) (hb : es.length ≤ 40) (hv : (0 ≤ id ∧ id ≤ 1073741824) ∧ (1 ≤ n ∧ n ≤ 10000) ∧ (1 ≤ size ∧ size ≤ 10000) ∧ (1 ≤ len ∧ len ≤ 10000) ∧ n = (len + size - 1) / size) : C Try.prog 5 [I id, I n, I size, I len, se] w (Ret fun v w' => v = .bool true ∧ Ext w w') := by
  have hmx := hse.max
  have e0 := Ext.refl w
  refine C.enter Try.func5 rfl Try.ntmps5 rfl ?_
  refine J.seq ?_
  refine J.region ?_
  refine J.op (Yd.assign rfl) rfl ?_
  refine J.nil ?_
  refine J.n_then ?_
  refine J.seq ?_
  refine J.seq ?_
  refine J.region ?_
  refine J.op (Yd.move rfl) rfl ?_
  refine J.op (Yd.lenE (K := pcS) Try.underlying40 rfl (Er.ext hse e0)) rfl ?_
  refine J.op (Yd.gtr rfl rfl) rfl ?_
  refine J.nil ?_
  refine J.n_then ?_
  refine J.know (t := 21) (v' := .bool false) rfl (ff (by omega)) ?_
  refine J.cond_false rfl ?_
  refine J.skip ?_
  refine J.n_then ?_
  refine J.seq ?_
  refine J.region ?_
  refine J.op (Yd.move rfl) rfl ?_
  refine J.op (Yd.move rfl) rfl ?_
  refine J.op (Yd.move rfl) rfl ?_
  refine J.op (Yd.move rfl) rfl ?_
  refine J.eff (Ye.call cl14 rfl (New_yes hv)) rfl ?_
  rintro _ w1 ⟨b1, s1, rfl, hb_b1, hcb1, hos1, hap_b1, x1⟩
  have fr_b1 : Fr w.heap.size (some b1) := Fr.le (Fr.blk hb_b1) e0.size
  have fr_s1 : Fr w.heap.size s1.ownBlock := Fr.le (Ow.fr hos1) e0.size
  replace hos1 := Ow.base hos1 (Nat.zero_le _)
  have e0 := e0.trans x1
  clear x1
  refine J.op (Yd.move rfl) rfl ?_
  refine J.op (Yd.extract rfl rfl) rfl ?_
  refine J.op (Yd.extract rfl rfl) rfl ?_
  refine J.op (Yd.assign rfl) rfl ?_
  refine J.op (Yd.assign rfl) rfl ?_
  refine J.nil ?_
  refine J.n_then ?_
  refine J.seq ?_
  refine J.region ?_
  refine J.op (Yd.move rfl) rfl ?_
  refine J.op (Yd.move rfl) rfl ?_
  refine J.op (Yd.move rfl) rfl ?_
  refine J.op (Yd.move rfl) rfl ?_
  refine J.eff (Ye.call cl15 rfl (NewBox_yes hv)) rfl ?_
  rintro _ w2 ⟨b2, s2, rfl, hb_b2, hcb2, hos2, hap_b2, x1⟩
  have ap_b1_b2 : Ap (some b1) (some b2) := Ap.mk (Cel.live hcb1) (Fr.blk hb_b2)
  have ap_s1_b2 : Ap s1.ownBlock (some b2) := Ap.mk (Ow.live hos1) (Fr.blk hb_b2)
  have fr_b2 : Fr w.heap.size (some b2) := Fr.le (Fr.blk hb_b2) e0.size
  have ap_b1_s2 : Ap (some b1) s2.ownBlock := Ap.mk (Cel.live hcb1) (Ow.fr hos2)
  have ap_s1_s2 : Ap s1.ownBlock s2.ownBlock := Ap.mk (Ow.live hos1) (Ow.fr hos2)
  have fr_s2 : Fr w.heap.size s2.ownBlock := Fr.le (Ow.fr hos2) e0.size
  replace hos2 := Ow.base hos2 (Nat.zero_le _)
  have e0 := e0.trans x1
  have hcb1 := hcb1.ext x1
  have hos1 := hos1.ext x1
  clear x1
  refine J.op (Yd.move rfl) rfl ?_
  refine J.op (Yd.extract rfl rfl) rfl ?_
  refine J.op (Yd.extract rfl rfl) rfl ?_
  refine J.op (Yd.assign rfl) rfl ?_
  refine J.op (Yd.assign rfl) rfl ?_
  refine J.nil ?_
  refine J.n_then ?_
  refine J.seq ?_
  refine J.seq ?_
  refine J.region ?_
  refine J.op (Yd.move rfl) rfl ?_
  refine J.op (Yd.move rfl) rfl ?_
  refine J.op (Yd.neq rfl rfl) rfl ?_
  refine J.op (Yd.move rfl) rfl ?_
  refine J.know (t := 42) (v' := .bool false) rfl (ff (by decide)) ?_
  refine J.op_g rfl rfl rfl (Yd.move rfl) rfl ?_
  refine J.op_g rfl rfl rfl (Yd.cast (Yd.nePn Try.underlying32 rfl rfl) (show _ = Value.bool true from rfl)) rfl ?_
  refine J.op_g rfl rfl rfl (Yd.move rfl) rfl ?_
  refine J.op_g rfl rfl rfl (Yd.cast (Yd.nePn Try.underlying43 rfl rfl) (show _ = Value.bool true from rfl)) rfl ?_
  refine J.op_g rfl rfl rfl (Yd.neqb rfl rfl Try.underlying4) rfl ?_
  refine J.op (Yd.pick_f rfl rfl) rfl ?_
  refine J.nil ?_
  refine J.n_then ?_
  refine J.know (t := 48) (v' := .bool false) rfl (ff (by decide)) ?_
  refine J.cond_false rfl ?_
  refine J.skip ?_
  refine J.n_then ?_
  refine J.seq ?_
  refine J.seq ?_
  refine J.region ?_
  refine J.op (Yd.move rfl) rfl ?_
  refine J.op (Yd.cast (Yd.eqPn Try.underlying32 rfl rfl) (show _ = Value.bool false from rfl)) rfl ?_
  refine J.nil ?_
  refine J.n_then ?_
  refine J.cond_false rfl ?_
  refine J.skip ?_
  refine J.n_then ?_
  refine J.seq ?_
  refine J.region ?_
  refine J.op (Yd.move rfl) rfl ?_
  refine J.op (Yd.mkFunc rfl) rfl ?_
  refine J.op (Yd.assign rfl) rfl ?_
  refine J.nil ?_
  refine J.n_then ?_
  refine J.seq ?_
  refine J.seq ?_
  refine J.region ?_
  refine J.op (Yd.assign rfl) rfl ?_
  refine J.nil ?_
  refine J.n_then ?_
  refine J.block ?_
  refine J.loop (ι := Nat × List (List UInt8) × List Value × Value × List Value) (fun i => [(0, I id), (1, I n), (2, I size), (3, I len), (4, se), (15, .func (.func 11) #[.pointer (some ⟨b1, 0, none⟩)] #[]), (16, I (i.1 : Int)), (11, .pointer (some ⟨b1, 0, none⟩)), (13, .pointer (some ⟨b2, 0, none⟩))]) (fun i w' => i.1 ≤ es.length ∧ BxN id size len i.2.1.length ∧ i.2.1.flatten.length ≤ 2000 * i.1 ∧ Els [s1.ownBlock, some b2] w' i.2.2.1 i.2.1 ∧ Els [s1.ownBlock, some b2] w' i.2.2.2.2 i.2.1 ∧ Cel w' b1 72 [(0, 1, [I id]), (1, 1, [I size]), (2, 1, [I len]), (3, 1, [s1])] ∧ Cel w' b2 76 [(0, 1, [I id]), (1, 1, [I size]), (2, 1, [I len]), (3, 1, [i.2.2.2.1])] ∧ Ow 0 22 w' s1 i.2.2.1 ∧ Ow 0 22 w' i.2.2.2.1 i.2.2.2.2 ∧ Fr w.heap.size (i.2.2.2.1).ownBlock ∧ Ap (some b1) (i.2.2.2.1).ownBlock ∧ Ap (some b2) (i.2.2.2.1).ownBlock ∧ Ap s1.ownBlock (i.2.2.2.1).ownBlock ∧ Ext w w') (fun i => es.length - i.1) ((0, List.replicate n.toNat [], List.replicate n.toNat nilS, s2, List.replicate n.toNat nilS)) ⟨rfl, rfl, rfl, rfl, rfl, rfl, rfl, rfl, rfl, trivial⟩ (⟨Nat.zero_le _, (by rw [List.length_replicate]; exact ⟨hv.1, hv.2.2.1, hv.2.2.2.1, by omega⟩), (by simp), Els.new _ _ _, Els.new _ _ _, hcb1, hcb2, hos1, hos2, fr_s2, ap_b1_s2, hap_b2, ap_s1_s2, e0⟩) ?_
  rintro ⟨n0, ll, vs1, t2, vs2⟩ w3 ⟨hk, hB, hfl, he1, he2, hcb1, hcb2, hos1, hos2, fr_t2, ap_b1_t2, ap_b2_t2, ap_s1_t2, e0⟩
  dsimp only at *
  refine J.seq ?_
  refine J.seq ?_
  refine J.region ?_
  refine J.op (Yd.move rfl) rfl ?_
  refine J.op (Yd.move rfl) rfl ?_
  refine J.op (Yd.lenE (K := pcS) Try.underlying40 rfl (Er.ext hse e0)) rfl ?_
  refine J.op (Yd.lss rfl rfl) rfl ?_
  refine J.nil ?_
  refine J.n_then ?_
  refine J.cond_dec rfl (fun hc3 => ?_) (fun hc3 => ?_)
  · skip
    obtain ⟨l, hxl⟩ := hQ _ (show es.getD (n0 : Int).toNat pcD ∈ es from getD_mem' (by omega))
    refine J.skip ?_
    refine J.n_then ?_
    refine J.seq ?_
    refine J.block ?_
    refine J.seq ?_
    refine J.seq ?_
    refine J.region ?_
    rcases bx_cases id size len ll (es.getD (n0 : Int).toNat pcD) l with hbad | ⟨k, hk9, hdl, hX, hl0⟩ | ⟨k, hk9, hdl, hX, hl0, hle⟩ | ⟨k, hk9, hdl, hX, hl0, hle⟩
    · skip
      refine J.op (Yd.move rfl) rfl ?_
      refine J.op (Yd.move rfl) rfl ?_
      refine J.op (Yd.idxE (K := pcS) Try.underlying40 ti31 rfl rfl (Er.ext hse e0) (by first | omega | exact idx_u8' _ | (simp only [Int.toNat_natCast]; omega) | (simp only [List.length_map, List.length_drop, List.length_take, List.length_append, List.length_replicate]; omega) | (simp <;> omega))) rfl ?_
      refine J.op (Yd.fieldE (K := pcS) (Er.ext hse e0) (by omega) Try.underlying31 rfl ti22 rfl rfl) rfl ?_
      refine J.op (Yd.cast (Yd.loadFd (K := pcS) pcD pl22 rfl (Er.ext hse e0) (by first | omega | exact idx_u8' _ | (simp only [Int.toNat_natCast]; omega) | (simp only [List.length_map, List.length_drop, List.length_take, List.length_append, List.length_replicate]; omega) | (simp <;> omega)) rfl) (show _ = (es.getD (n0 : Int).toNat pcD).2.2.2 from rfl)) rfl ?_
      refine J.op (Yd.len_b Try.underlying22 rfl (Rd.ext hxl e0)) rfl ?_
      refine J.op (Yd.gtr rfl rfl) rfl ?_
      refine J.nil ?_
      refine J.n_then ?_
      refine J.cond_dec rfl (fun hc4 => ?_) (fun hc4 => ?_)
      · skip
        refine J.seq ?_
        refine J.region ?_
        refine J.eff (Ye.call cl8 rfl (Awake_ok)) rfl ?_
        rintro _ w4 ⟨rfl, x1⟩
        have e0 := e0.trans x1
        have hcb1 := hcb1.ext x1
        have hcb2 := hcb2.ext x1
        have hos1 := hos1.ext x1
        have hos2 := hos2.ext x1
        have he1 := he1.ext x1
        have he2 := he2.ext x1
        clear x1
        refine J.op (Yd.assign rfl) rfl ?_
        refine J.nil ?_
        refine J.n_then ?_
        refine J.ret ?_
        refine J.r_then ?_
        refine J.r_block ?_
        refine J.r_then ?_
        refine J.r_then ?_
        refine J.r_block ?_
        refine J.r_then ?_
        exact J.ret1 rfl rfl (⟨_, rfl, rfl, e0⟩)
      · skip
        refine J.skip ?_
        refine J.n_then ?_
        refine J.seq ?_
        refine J.seq ?_
        obtain ⟨ll2, hl2⟩ : ∃ z, z = ll := ⟨_, rfl⟩
        have hB2 := hB
        have hfl2 := hfl
        have he1b := he1
        have he2b := he2
        rw [← hl2] at hB2 hfl2 he1b he2b
        refine J.regionR mix (by kernel_rfl) (n := 22) rfl ?_
        refine J.rg_seq (m := 16) [(0, true), (1, true), (2, true), (7, true), (8, true), (9, true)] rfl (by kernel_rfl) ?_
        refine J.s_op rfl (fun _ => Yd.move rfl) rfl ?_
        refine J.s_op rfl (fun _ => Yd.move rfl) rfl ?_
        refine J.s_op rfl (fun _ => Yd.move rfl) rfl ?_
        refine J.s_op rfl (fun _ => Yd.move rfl) rfl ?_
        refine J.s_op rfl (fun _ => Yd.move rfl) rfl ?_
        refine J.s_op rfl (fun _ => Yd.move rfl) rfl ?_
        refine J.s_nil ?_
        have lolAT : LoL w3.heap.size [] := LoL.nil
        refine J.rg_blk (m := 9) [(3, AsrT.v [] 71 (.pointer (some (adr se ((n0 : Int).toNat * pcS.sz))))), (4, AsrT.v [] 72 (.agg (pcS.c (es.getD (n0 : Int).toNat pcD)).toArray)), (5, AsrT.v [] 73 (.agg (pcS.c (es.getD (n0 : Int).toNat pcD)).toArray)), (6, AsrT.v [] 74 (I 2)), (10, AsrT.v [] 78 (.pointer (some (adr se ((n0 : Int).toNat * pcS.sz))))), (11, AsrT.v [] 79 (.agg (pcS.c (es.getD (n0 : Int).toNat pcD)).toArray)), (12, AsrT.v [] 80 (I 2))] [3, 4, 5, 6, 10, 11, 12] [71, 72, 73, 74, 78, 79, 80] [[], [0], [0, 1], [0, 1, 2], [], [4], [0, 1, 2, 3, 4, 5]] [[], [], [], [], [], [], []] [] [] rfl rfl rfl rfl ⟨(fun p hp => by cases hp), (fun p hp => by cases hp), (fun p hp => by cases hp), (fun p hp => by cases hp), (fun p hp => by cases hp), (fun p hp => by cases hp), (fun p hp => by cases hp), trivial⟩ (by kernel_rfl) ?_
        refine J.at_in [0, 1, 2, 3, 4, 5, 6] rfl (by rfl) ⟨?_, ?_, ?_, ?_, ?_, ?_, ?_, trivial⟩ ?_
        · skip
          intro w5 x1
          have x1 : Tn [] w3 w5 := x1
          have xs1 := x1.size
          have x1 := Tn.nil x1
          have e0 := e0.trans x1
          have hcb1 := hcb1.ext x1
          have hcb2 := hcb2.ext x1
          have hos1 := hos1.ext x1
          have hos2 := hos2.ext x1
          have he1 := he1.ext x1
          have he2 := he2.ext x1
          have he1b := he1b.ext x1
          have he2b := he2b.ext x1
          clear x1
          refine PremT.nil ?_
          exact OpYeT.val rfl (Yd.idxE (K := pcS) Try.underlying40 ti31 rfl rfl (Er.ext hse e0) (by first | omega | exact idx_u8' _ | (simp only [Int.toNat_natCast]; omega) | (simp only [List.length_map, List.length_drop, List.length_take, List.length_append, List.length_replicate]; omega) | (simp <;> omega)))
        · skip
          intro w6 x1
          refine PremT.v rfl ?_
          have x1 : Tn [] w3 w6 := x1
          have xs1 := x1.size
          have x1 := Tn.nil x1
          have e0 := e0.trans x1
          have hcb1 := hcb1.ext x1
          have hcb2 := hcb2.ext x1
          have hos1 := hos1.ext x1
          have hos2 := hos2.ext x1
          have he1 := he1.ext x1
          have he2 := he2.ext x1
          have he1b := he1b.ext x1
          have he2b := he2b.ext x1
          clear x1
          refine PremT.nil ?_
          exact OpYeT.val rfl (Yd.loadEd (K := pcS) pcD ag31 ti31 rfl (Er.ext hse e0) (by first | omega | exact idx_u8' _ | (simp only [Int.toNat_natCast]; omega) | (simp only [List.length_map, List.length_drop, List.length_take, List.length_append, List.length_replicate]; omega) | (simp <;> omega)))
        · skip
          intro w7 x1
          refine PremT.v rfl ?_
          refine PremT.v rfl ?_
          have x1 : Tn [] w3 w7 := x1
          have xs1 := x1.size
          have x1 := Tn.nil x1
          have e0 := e0.trans x1
          have hcb1 := hcb1.ext x1
          have hcb2 := hcb2.ext x1
          have hos1 := hos1.ext x1
          have hos2 := hos2.ext x1
          have he1 := he1.ext x1
          have he2 := he2.ext x1
          have he1b := he1b.ext x1
          have he2b := he2b.ext x1
          clear x1
          refine PremT.nil ?_
          exact OpYeT.mk rfl (Ye.mono (Ye.call cl12 rfl (Made_ok (x := (es.getD (n0 : Int).toNat pcD)) (l := l) (hxl.ext e0))) fun v w2 h => ⟨⟨(), h.1, trivial⟩, Ext.tn h.2 _⟩)
        · skip
          intro w8 x1
          refine PremT.v rfl ?_
          refine PremT.v rfl ?_
          refine PremT.v rfl ?_
          have x1 : Tn [] w3 w8 := x1
          have xs1 := x1.size
          have x1 := Tn.nil x1
          have e0 := e0.trans x1
          have hcb1 := hcb1.ext x1
          have hcb2 := hcb2.ext x1
          have hos1 := hos1.ext x1
          have hos2 := hos2.ext x1
          have he1 := he1.ext x1
          have he2 := he2.ext x1
          have he1b := he1b.ext x1
          have he2b := he2b.ext x1
          clear x1
          refine PremT.nil ?_
          exact OpYeT.mk rfl (Ye.mono (Ye.callv cl11 rfl rfl (Add1_bad (x := (es.getD (n0 : Int).toNat pcD)) (l := l) hB hcb1 he1 (Ow.rd hos1) (hxl.ext e0) hbad)) fun v w2 h => ⟨⟨(), h.1, trivial⟩, Ext.tn h.2 _⟩)
        · skip
          intro w9 x1
          have x1 : Tn [] w3 w9 := x1
          have xs1 := x1.size
          have x1 := Tn.nil x1
          have e0 := e0.trans x1
          have hcb1 := hcb1.ext x1
          have hcb2 := hcb2.ext x1
          have hos1 := hos1.ext x1
          have hos2 := hos2.ext x1
          have he1 := he1.ext x1
          have he2 := he2.ext x1
          have he1b := he1b.ext x1
          have he2b := he2b.ext x1
          clear x1
          refine PremT.nil ?_
          exact OpYeT.val rfl (Yd.idxE (K := pcS) Try.underlying40 ti31 rfl rfl (Er.ext hse e0) (by first | omega | exact idx_u8' _ | (simp only [Int.toNat_natCast]; omega) | (simp only [List.length_map, List.length_drop, List.length_take, List.length_append, List.length_replicate]; omega) | (simp <;> omega)))
        · skip
          intro w10 x1
          refine PremT.v rfl ?_
          have x1 : Tn [] w3 w10 := x1
          have xs1 := x1.size
          have x1 := Tn.nil x1
          have e0 := e0.trans x1
          have hcb1 := hcb1.ext x1
          have hcb2 := hcb2.ext x1
          have hos1 := hos1.ext x1
          have hos2 := hos2.ext x1
          have he1 := he1.ext x1
          have he2 := he2.ext x1
          have he1b := he1b.ext x1
          have he2b := he2b.ext x1
          clear x1
          refine PremT.nil ?_
          exact OpYeT.val rfl (Yd.loadEd (K := pcS) pcD ag31 ti31 rfl (Er.ext hse e0) (by first | omega | exact idx_u8' _ | (simp only [Int.toNat_natCast]; omega) | (simp only [List.length_map, List.length_drop, List.length_take, List.length_append, List.length_replicate]; omega) | (simp <;> omega)))
        · skip
          intro w11 x1
          refine PremT.v rfl ?_
          refine PremT.v rfl ?_
          refine PremT.v rfl ?_
          refine PremT.v rfl ?_
          refine PremT.v rfl ?_
          refine PremT.v rfl ?_
          have x1 : Tn [] w3 w11 := x1
          have xs1 := x1.size
          have x1 := Tn.nil x1
          have e0 := e0.trans x1
          have hcb1 := hcb1.ext x1
          have hcb2 := hcb2.ext x1
          have hos1 := hos1.ext x1
          have hos2 := hos2.ext x1
          have he1 := he1.ext x1
          have he2 := he2.ext x1
          have he1b := he1b.ext x1
          have he2b := he2b.ext x1
          clear x1
          refine PremT.nil ?_
          exact OpYeT.mk rfl (Ye.mono (Ye.call cl16 rfl (Add2_bad (x := (es.getD (n0 : Int).toNat pcD)) (l := l) hB hcb2 he2 (Ow.rd hos2) (hxl.ext e0) hbad)) fun v w2 h => ⟨⟨(), h.1, trivial⟩, Ext.tn h.2 _⟩)
        intro w12 x1
        refine PremT.v rfl ?_
        refine PremT.v rfl ?_
        refine PremT.v rfl ?_
        refine PremT.v rfl ?_
        refine PremT.v rfl ?_
        refine PremT.v rfl ?_
        refine PremT.v rfl ?_
        have x1 : Tn [] w3 w12 := x1
        have xs1 := x1.size
        have x1 := Tn.nil x1
        have e0 := e0.trans x1
        have hcb1 := hcb1.ext x1
        have hcb2 := hcb2.ext x1
        have hos1 := hos1.ext x1
        have hos2 := hos2.ext x1
        have he1 := he1.ext x1
        have he2 := he2.ext x1
        have he1b := he1b.ext x1
        have he2b := he2b.ext x1
        clear x1
        refine PremT.nil ?_
        refine J.rg_seq (m := 5) [(13, true), (14, true), (15, true), (17, true)] rfl (by kernel_rfl) ?_
        refine J.s_op rfl (fun _ => Yd.neq rfl rfl) rfl ?_
        refine J.s_op rfl (fun _ => Yd.move rfl) rfl ?_
        refine J.know (t := 82) (v' := .bool false) rfl (ff (by decide)) ?_
        refine J.s_op_g rfl rfl rfl rfl (fun _ => Yd.move rfl) rfl ?_
        refine J.s_op_g rfl rfl rfl rfl (fun _ => Yd.move rfl) rfl ?_
        refine J.s_nil ?_
        have lolAT : LoL w12.heap.size [] := LoL.nil
        refine J.rg_blk (m := 3) [(16, AsrT.own [] 84 w12.heap.size 3 ((missL ll2).map fun x => I x)), (18, AsrT.own [] 86 w12.heap.size 3 ((missL ll2).map fun x => I x))] [16, 18] [84, 86] [[], [0]] [[], []] [] [] rfl rfl rfl rfl ⟨(fun p hp => by cases hp), (fun p hp => by cases hp), trivial⟩ (by kernel_rfl) ?_
        refine J.at_in [0, 1] rfl (by rfl) ⟨?_, ?_, trivial⟩ ?_
        · skip
          intro w13 x1
          have x1 : Tn [] w12 w13 := x1
          have xs1 := x1.size
          have x1 := Tn.nil x1
          have e0 := e0.trans x1
          have hcb1 := hcb1.ext x1
          have hcb2 := hcb2.ext x1
          have hos1 := hos1.ext x1
          have hos2 := hos2.ext x1
          have he1 := he1.ext x1
          have he2 := he2.ext x1
          have he1b := he1b.ext x1
          have he2b := he2b.ext x1
          clear x1
          refine PremT.nil ?_
          exact OpYeT.mkg rfl rfl rfl rfl (Ye.mono (Ye.call cl13 rfl (Miss1_ok hB2 hcb1 he1b (Ow.rd hos1))) fun v w2 h => ⟨⟨v, rfl, own_cl (Ow.base h.1 xs1) LoL.nil⟩, Ext.tn h.2 _⟩)
        · skip
          intro w14 x1
          refine PremT.a rfl fun s84_14 o84_14 => ?_
          have o84_14 := o84_14 _ (Tn.refl _ _)
          have ap_b1_s84_14 : Ap (some b1) s84_14.ownBlock := Ap.mk (Cel.live hcb1) (Ow.fr o84_14)
          have ap_b2_s84_14 : Ap (some b2) s84_14.ownBlock := Ap.mk (Cel.live hcb2) (Ow.fr o84_14)
          have ap_s1_s84_14 : Ap s1.ownBlock s84_14.ownBlock := Ap.mk (Ow.live hos1) (Ow.fr o84_14)
          have ap_t2_s84_14 : Ap t2.ownBlock s84_14.ownBlock := Ap.mk (Ow.live hos2) (Ow.fr o84_14)
          have fr_s84_14 : Fr w.heap.size s84_14.ownBlock := Fr.le (Ow.fr o84_14) e0.size
          replace o84_14 := Ow.base o84_14 e0.size
          have x1 : Tn [] w12 w14 := x1
          have xs1 := x1.size
          have x1 := Tn.nil x1
          have e0 := e0.trans x1
          have hcb1 := hcb1.ext x1
          have hcb2 := hcb2.ext x1
          have hos1 := hos1.ext x1
          have hos2 := hos2.ext x1
          have he1 := he1.ext x1
          have he2 := he2.ext x1
          have he1b := he1b.ext x1
          have he2b := he2b.ext x1
          clear x1
          refine PremT.nil ?_
          exact OpYeT.mkg rfl rfl rfl rfl (Ye.mono (Ye.call cl18 rfl (Miss2_ok hB2 hcb2 he2b (Ow.rd hos2))) fun v w2 h => ⟨⟨v, rfl, own_cl (Ow.base h.1 xs1) LoL.nil⟩, Ext.tn h.2 _⟩)
        intro w15 x1
        refine PremT.a rfl fun s84_15 o84_15 => ?_
        have o84_15 := o84_15 _ (Tn.refl _ _)
        have ap_b1_s84_15 : Ap (some b1) s84_15.ownBlock := Ap.mk (Cel.live hcb1) (Ow.fr o84_15)
        have ap_b2_s84_15 : Ap (some b2) s84_15.ownBlock := Ap.mk (Cel.live hcb2) (Ow.fr o84_15)
        have ap_s1_s84_15 : Ap s1.ownBlock s84_15.ownBlock := Ap.mk (Ow.live hos1) (Ow.fr o84_15)
        have ap_t2_s84_15 : Ap t2.ownBlock s84_15.ownBlock := Ap.mk (Ow.live hos2) (Ow.fr o84_15)
        have fr_s84_15 : Fr w.heap.size s84_15.ownBlock := Fr.le (Ow.fr o84_15) e0.size
        replace o84_15 := Ow.base o84_15 e0.size
        refine PremT.a rfl fun s86_15 o86_15 => ?_
        have o86_15 := o86_15 _ (Tn.refl _ _)
        have ap_b1_s86_15 : Ap (some b1) s86_15.ownBlock := Ap.mk (Cel.live hcb1) (Ow.fr o86_15)
        have ap_b2_s86_15 : Ap (some b2) s86_15.ownBlock := Ap.mk (Cel.live hcb2) (Ow.fr o86_15)
        have ap_s1_s86_15 : Ap s1.ownBlock s86_15.ownBlock := Ap.mk (Ow.live hos1) (Ow.fr o86_15)
        have ap_t2_s86_15 : Ap t2.ownBlock s86_15.ownBlock := Ap.mk (Ow.live hos2) (Ow.fr o86_15)
        have fr_s86_15 : Fr w.heap.size s86_15.ownBlock := Fr.le (Ow.fr o86_15) e0.size
        replace o86_15 := Ow.base o86_15 e0.size
        have x1 : Tn [] w12 w15 := x1
        have xs1 := x1.size
        have x1 := Tn.nil x1
        have e0 := e0.trans x1
        have hcb1 := hcb1.ext x1
        have hcb2 := hcb2.ext x1
        have hos1 := hos1.ext x1
        have hos2 := hos2.ext x1
        have he1 := he1.ext x1
        have he2 := he2.ext x1
        have he1b := he1b.ext x1
        have he2b := he2b.ext x1
        clear x1
        refine PremT.nil ?_
        refine J.rg_seq (m := 0) [(19, false), (20, true), (21, true)] rfl (by kernel_rfl) ?_
        refine J.s_eff_g rfl rfl rfl rfl (Ye.call cl17 rfl (Ints_ok (Ow.rd o84_15) (Ow.rd o86_15))) rfl ?_
        rintro _ w16 ⟨rfl, x1⟩
        have e0 := e0.trans x1
        have hcb1 := hcb1.ext x1
        have hcb2 := hcb2.ext x1
        have hos1 := hos1.ext x1
        have hos2 := hos2.ext x1
        have he1 := he1.ext x1
        have he2 := he2.ext x1
        have he1b := he1b.ext x1
        have he2b := he2b.ext x1
        have o84_15 := o84_15.ext x1
        have o86_15 := o86_15.ext x1
        clear x1
        refine J.s_op_g rfl rfl rfl rfl (fun _ => Yd.not_dec rfl) rfl ?_
        refine J.s_op rfl (fun _ => Yd.pick_f rfl rfl) rfl ?_
        refine J.s_nil ?_
        refine J.rg_nil (by kernel_rfl) ?_
        refine J.n_np ?_
        refine J.n_then ?_
        refine J.know (t := 89) (v' := .bool false) rfl (ff (by exact fun h => h rfl)) ?_
        refine J.cond_false rfl ?_
        refine J.skip ?_
        refine J.n_then ?_
        refine J.seq ?_
        refine J.region ?_
        refine J.op (Yd.move rfl) rfl ?_
        by_cases hml : missL ll2 = []
        · skip
          refine J.eff (Ye.call cl10 rfl (Done_yes hB2 hcb1 he1b (Ow.rd hos1) hml (by omega))) rfl ?_
          rintro _ w17 ⟨v92_17, rfl, ov92_17, x1⟩
          have ap_b1_v92_17 : Ap (some b1) v92_17.ownBlock := Ap.mk (Cel.live hcb1) (Ow.fr ov92_17)
          have ap_b2_v92_17 : Ap (some b2) v92_17.ownBlock := Ap.mk (Cel.live hcb2) (Ow.fr ov92_17)
          have ap_s1_v92_17 : Ap s1.ownBlock v92_17.ownBlock := Ap.mk (Ow.live hos1) (Ow.fr ov92_17)
          have ap_t2_v92_17 : Ap t2.ownBlock v92_17.ownBlock := Ap.mk (Ow.live hos2) (Ow.fr ov92_17)
          have ap_s84_15_v92_17 : Ap s84_15.ownBlock v92_17.ownBlock := Ap.mk (Ow.live o84_15) (Ow.fr ov92_17)
          have ap_s86_15_v92_17 : Ap s86_15.ownBlock v92_17.ownBlock := Ap.mk (Ow.live o86_15) (Ow.fr ov92_17)
          have fr_v92_17 : Fr w.heap.size v92_17.ownBlock := Fr.le (Ow.fr ov92_17) e0.size
          replace ov92_17 := Ow.base ov92_17 e0.size
          have e0 := e0.trans x1
          have hcb1 := hcb1.ext x1
          have hcb2 := hcb2.ext x1
          have hos1 := hos1.ext x1
          have hos2 := hos2.ext x1
          have he1 := he1.ext x1
          have he2 := he2.ext x1
          have he1b := he1b.ext x1
          have he2b := he2b.ext x1
          have o84_15 := o84_15.ext x1
          have o86_15 := o86_15.ext x1
          clear x1
          refine J.op (Yd.move rfl) rfl ?_
          refine J.op (Yd.extract rfl rfl) rfl ?_
          refine J.op (Yd.extract rfl rfl) rfl ?_
          refine J.op (Yd.assign rfl) rfl ?_
          refine J.op (Yd.assign rfl) rfl ?_
          refine J.nil ?_
          refine J.n_then ?_
          refine J.seq ?_
          refine J.regionO [(0, true), (1, true), (2, false), (3, false), (4, true), (5, true), (6, true), (7, true), (8, true), (9, true), (11, true)] [(10, 1), (12, 0), (13, 1)] [(14, true), (15, true), (16, true), (17, true), (18, true), (19, true), (20, true), (21, true), (22, false), (23, true), (24, true), (25, true)] mix (by kernel_rfl) ?_
          refine J.s_op rfl (fun _ => Yd.move rfl) rfl ?_
          refine J.s_op rfl (fun _ => Yd.move rfl) rfl ?_
          refine J.s_eff rfl (Ye.call cl18 rfl (Miss2_ok hB2 hcb2 he2b (Ow.rd hos2))) rfl ?_
          rintro v97_18 w18 ⟨ov97_18, x1⟩
          have ap_b1_v97_18 : Ap (some b1) v97_18.ownBlock := Ap.mk (Cel.live hcb1) (Ow.fr ov97_18)
          have ap_b2_v97_18 : Ap (some b2) v97_18.ownBlock := Ap.mk (Cel.live hcb2) (Ow.fr ov97_18)
          have ap_s1_v97_18 : Ap s1.ownBlock v97_18.ownBlock := Ap.mk (Ow.live hos1) (Ow.fr ov97_18)
          have ap_t2_v97_18 : Ap t2.ownBlock v97_18.ownBlock := Ap.mk (Ow.live hos2) (Ow.fr ov97_18)
          have ap_s84_15_v97_18 : Ap s84_15.ownBlock v97_18.ownBlock := Ap.mk (Ow.live o84_15) (Ow.fr ov97_18)
          have ap_s86_15_v97_18 : Ap s86_15.ownBlock v97_18.ownBlock := Ap.mk (Ow.live o86_15) (Ow.fr ov97_18)
          have ap_v92_17_v97_18 : Ap v92_17.ownBlock v97_18.ownBlock := Ap.mk (Ow.live ov92_17) (Ow.fr ov97_18)
          have fr_v97_18 : Fr w.heap.size v97_18.ownBlock := Fr.le (Ow.fr ov97_18) e0.size
          replace ov97_18 := Ow.base ov97_18 e0.size
          have e0 := e0.trans x1
          have hcb1 := hcb1.ext x1
          have hcb2 := hcb2.ext x1
          have hos1 := hos1.ext x1
          have hos2 := hos2.ext x1
          have he1 := he1.ext x1
          have he2 := he2.ext x1
          have he1b := he1b.ext x1
          have he2b := he2b.ext x1
          have o84_15 := o84_15.ext x1
          have o86_15 := o86_15.ext x1
          have ov92_17 := ov92_17.ext x1
          clear x1
          refine J.s_one rfl (Yd.len_m Try.underlying37 rfl (Ow.rd ov97_18)) rfl ?_
          refine J.s_op rfl (fun _ => Yd.eql rfl rfl) rfl ?_
          refine J.s_op rfl (fun _ => Yd.neqb rfl rfl Try.underlying4) rfl ?_
          refine J.s_op rfl (fun _ => Yd.move rfl) rfl ?_
          refine J.know (t := 101) (v' := .bool false) rfl (ff (by rw [hml]; decide)) ?_
          refine J.s_op_g rfl rfl rfl rfl (fun _ => Yd.move rfl) rfl ?_
          refine J.s_op_g rfl rfl rfl rfl (fun _ => Yd.move rfl) rfl ?_
          refine J.s_op_g rfl rfl rfl rfl (fun _ => Yd.move rfl) rfl ?_
          refine J.s_op_g rfl rfl rfl rfl (fun _ => Yd.move rfl) rfl ?_
          refine J.s_nil ?_
          refine J.o_op_g rfl rfl rfl rfl (Yd.bstr Try.underlying22 Try.underlying5 Try.underlying9 rfl (Ow.rd ov92_17)) rfl ?_
          refine J.o_eff_g rfl rfl rfl rfl (Ye.call cl19 rfl (All_bx hB2 hcb2 he2b (Ow.rd hos2) (by omega))) rfl (fun _ _ ⟨_, h⟩ => h) ?_
          rintro v107_19 w19 ⟨ov107_19, x1⟩
          have ap_b1_v107_19 : Ap (some b1) v107_19.ownBlock := Ap.mk (Cel.live hcb1) (Ow.fr ov107_19)
          have ap_b2_v107_19 : Ap (some b2) v107_19.ownBlock := Ap.mk (Cel.live hcb2) (Ow.fr ov107_19)
          have ap_s1_v107_19 : Ap s1.ownBlock v107_19.ownBlock := Ap.mk (Ow.live hos1) (Ow.fr ov107_19)
          have ap_t2_v107_19 : Ap t2.ownBlock v107_19.ownBlock := Ap.mk (Ow.live hos2) (Ow.fr ov107_19)
          have ap_s84_15_v107_19 : Ap s84_15.ownBlock v107_19.ownBlock := Ap.mk (Ow.live o84_15) (Ow.fr ov107_19)
          have ap_s86_15_v107_19 : Ap s86_15.ownBlock v107_19.ownBlock := Ap.mk (Ow.live o86_15) (Ow.fr ov107_19)
          have ap_v92_17_v107_19 : Ap v92_17.ownBlock v107_19.ownBlock := Ap.mk (Ow.live ov92_17) (Ow.fr ov107_19)
          have ap_v97_18_v107_19 : Ap v97_18.ownBlock v107_19.ownBlock := Ap.mk (Ow.live ov97_18) (Ow.fr ov107_19)
          have fr_v107_19 : Fr w.heap.size v107_19.ownBlock := Fr.le (Ow.fr ov107_19) e0.size
          replace ov107_19 := Ow.base ov107_19 e0.size
          have e0 := e0.trans x1
          have hcb1 := hcb1.ext x1
          have hcb2 := hcb2.ext x1
          have hos1 := hos1.ext x1
          have hos2 := hos2.ext x1
          have he1 := he1.ext x1
          have he2 := he2.ext x1
          have he1b := he1b.ext x1
          have he2b := he2b.ext x1
          have o84_15 := o84_15.ext x1
          have o86_15 := o86_15.ext x1
          have ov92_17 := ov92_17.ext x1
          have ov97_18 := ov97_18.ext x1
          clear x1
          refine J.o_op_g rfl rfl rfl rfl (Yd.bstr Try.underlying22 Try.underlying5 Try.underlying9 rfl (Ow.rd ov107_19)) rfl ?_
          refine J.o_nil ?_
          refine J.s_op_g rfl rfl rfl rfl (fun _ => Yd.sne rfl rfl) rfl ?_
          refine J.s_op_g rfl rfl rfl rfl (fun _ => Yd.pick_t rfl rfl) rfl ?_
          refine J.s_op rfl (fun _ => Yd.pick_f rfl rfl) rfl ?_
          refine J.s_op rfl (fun _ => Yd.move rfl) rfl ?_
          refine J.know (t := 112) (v' := .bool false) rfl (ff (by exact fun h => h rfl)) ?_
          refine J.s_op_g rfl rfl rfl rfl (fun _ => Yd.move rfl) rfl ?_
          refine J.s_op_g rfl rfl rfl rfl (fun _ => Yd.not rfl) rfl ?_
          refine J.s_op_g rfl rfl rfl rfl (fun _ => Yd.move rfl) rfl ?_
          refine J.s_not_g rfl rfl rfl rfl rfl rfl ?_
          refine J.s_skip_g rfl rfl rfl rfl rfl rfl ?_
          refine J.s_not_g rfl rfl rfl rfl rfl rfl ?_
          refine J.s_op_g rfl rfl rfl rfl (fun _ => Yd.pick_f rfl rfl) rfl ?_
          refine J.s_op rfl (fun _ => Yd.pick_f rfl rfl) rfl ?_
          refine J.s_nil ?_
          refine J.n_np ?_
          refine J.n_then ?_
          refine J.cond_false rfl ?_
          refine J.skip ?_
          refine J.n_block ?_
          refine J.n_then ?_
          refine J.region ?_
          refine J.op (Yd.move rfl) rfl ?_
          refine J.op (Yd.add rfl rfl (by first | omega | exact idx_u8' _ | (simp only [Int.toNat_natCast]; omega) | (simp only [List.length_map, List.length_drop, List.length_take, List.length_append, List.length_replicate]; omega) | (simp <;> omega))) rfl ?_
          refine J.op (Yd.assign rfl) rfl ?_
          refine J.nil ?_
          refine J.n_then ?_
          exact J.round ((n0 + 1, ll2, vs1, t2, vs2)) ⟨rfl, rfl, rfl, rfl, rfl, rfl, rfl, rfl, rfl, trivial⟩ (⟨by show n0 + 1 ≤ es.length; omega, hB2, (by show ll2.flatten.length ≤ 2000 * (n0 + 1); omega), he1b, he2b, hcb1, hcb2, hos1, hos2, fr_t2, ap_b1_t2, ap_b2_t2, ap_s1_t2, e0⟩) (by show es.length - (n0 + 1) < es.length - n0; omega)
        · skip
          refine J.eff (Ye.call cl10 rfl (Done_no hB2 hcb1 he1b (Ow.rd hos1) hml)) rfl ?_
          rintro _ w20 ⟨rfl, x1⟩
          have e0 := e0.trans x1
          have hcb1 := hcb1.ext x1
          have hcb2 := hcb2.ext x1
          have hos1 := hos1.ext x1
          have hos2 := hos2.ext x1
          have he1 := he1.ext x1
          have he2 := he2.ext x1
          have he1b := he1b.ext x1
          have he2b := he2b.ext x1
          have o84_15 := o84_15.ext x1
          have o86_15 := o86_15.ext x1
          clear x1
          refine J.op (Yd.move rfl) rfl ?_
          refine J.op (Yd.extract rfl rfl) rfl ?_
          refine J.op (Yd.extract rfl rfl) rfl ?_
          refine J.op (Yd.assign rfl) rfl ?_
          refine J.op (Yd.assign rfl) rfl ?_
          refine J.nil ?_
          refine J.n_then ?_
          refine J.seq ?_
          refine J.regionO [(0, true), (1, true), (2, false), (3, false), (4, true), (5, true), (6, true), (7, true), (8, true), (9, true), (11, true)] [(10, 1), (12, 0), (13, 1)] [(14, true), (15, true), (16, true), (17, true), (18, true), (19, true), (20, true), (21, true), (22, false), (23, true), (24, true), (25, true)] mix (by kernel_rfl) ?_
          refine J.s_op rfl (fun _ => Yd.move rfl) rfl ?_
          refine J.s_op rfl (fun _ => Yd.move rfl) rfl ?_
          refine J.s_eff rfl (Ye.call cl18 rfl (Miss2_ok hB2 hcb2 he2b (Ow.rd hos2))) rfl ?_
          rintro v97_21 w21 ⟨ov97_21, x1⟩
          have ap_b1_v97_21 : Ap (some b1) v97_21.ownBlock := Ap.mk (Cel.live hcb1) (Ow.fr ov97_21)
          have ap_b2_v97_21 : Ap (some b2) v97_21.ownBlock := Ap.mk (Cel.live hcb2) (Ow.fr ov97_21)
          have ap_s1_v97_21 : Ap s1.ownBlock v97_21.ownBlock := Ap.mk (Ow.live hos1) (Ow.fr ov97_21)
          have ap_t2_v97_21 : Ap t2.ownBlock v97_21.ownBlock := Ap.mk (Ow.live hos2) (Ow.fr ov97_21)
          have ap_s84_15_v97_21 : Ap s84_15.ownBlock v97_21.ownBlock := Ap.mk (Ow.live o84_15) (Ow.fr ov97_21)
          have ap_s86_15_v97_21 : Ap s86_15.ownBlock v97_21.ownBlock := Ap.mk (Ow.live o86_15) (Ow.fr ov97_21)
          have fr_v97_21 : Fr w.heap.size v97_21.ownBlock := Fr.le (Ow.fr ov97_21) e0.size
          replace ov97_21 := Ow.base ov97_21 e0.size
          have e0 := e0.trans x1
          have hcb1 := hcb1.ext x1
          have hcb2 := hcb2.ext x1
          have hos1 := hos1.ext x1
          have hos2 := hos2.ext x1
          have he1 := he1.ext x1
          have he2 := he2.ext x1
          have he1b := he1b.ext x1
          have he2b := he2b.ext x1
          have o84_15 := o84_15.ext x1
          have o86_15 := o86_15.ext x1
          clear x1
          refine J.s_one rfl (Yd.len_m Try.underlying37 rfl (Ow.rd ov97_21)) rfl ?_
          refine J.s_op rfl (fun _ => Yd.eql rfl rfl) rfl ?_
          refine J.s_op rfl (fun _ => Yd.neqb rfl rfl Try.underlying4) rfl ?_
          refine J.s_op rfl (fun _ => Yd.move rfl) rfl ?_
          refine J.know (t := 101) (v' := .bool false) rfl (ff (by rw [decide_eq_false (show ¬ ((missL ll2).length : Int) = 0 by have := List.length_pos_iff.2 hml; omega)]; decide)) ?_
          refine J.s_op_g rfl rfl rfl rfl (fun _ => Yd.move rfl) rfl ?_
          refine J.s_op_g rfl rfl rfl rfl (fun _ => Yd.move rfl) rfl ?_
          refine J.s_not_g rfl rfl rfl rfl rfl rfl ?_
          refine J.s_not_g rfl rfl rfl rfl rfl rfl ?_
          refine J.s_nil ?_
          refine J.o_not_g rfl rfl rfl rfl rfl rfl ?_
          refine J.o_skip_g rfl rfl rfl rfl rfl rfl ?_
          refine J.o_not_g rfl rfl rfl rfl rfl rfl ?_
          refine J.o_nil ?_
          refine J.s_not_g rfl rfl rfl rfl rfl rfl ?_
          refine J.s_op_g rfl rfl rfl rfl (fun _ => Yd.pick_f rfl rfl) rfl ?_
          refine J.s_op rfl (fun _ => Yd.pick_f rfl rfl) rfl ?_
          refine J.s_op rfl (fun _ => Yd.move rfl) rfl ?_
          refine J.s_op_g rfl rfl rfl rfl (fun _ => Yd.move rfl) rfl ?_
          refine J.s_op_g rfl rfl rfl rfl (fun _ => Yd.not rfl) rfl ?_
          refine J.s_op_g rfl rfl rfl rfl (fun _ => Yd.move rfl) rfl ?_
          refine J.s_op_g rfl rfl rfl rfl (fun _ => Yd.move rfl) rfl ?_
          refine J.s_one_g rfl rfl rfl rfl (Yd.len_nil Try.underlying22 rfl) rfl ?_
          refine J.s_op_g rfl rfl rfl rfl (fun _ => Yd.neq rfl rfl) rfl ?_
          refine J.s_op_g rfl rfl rfl rfl (fun _ => Yd.pick_t rfl rfl) rfl ?_
          refine J.s_op rfl (fun _ => Yd.pick_f rfl rfl) rfl ?_
          refine J.s_nil ?_
          refine J.n_np ?_
          refine J.n_then ?_
          refine J.know (t := 120) (v' := .bool false) rfl (ff (by decide)) ?_
          refine J.cond_false rfl ?_
          refine J.skip ?_
          refine J.n_block ?_
          refine J.n_then ?_
          refine J.region ?_
          refine J.op (Yd.move rfl) rfl ?_
          refine J.op (Yd.add rfl rfl (by first | omega | exact idx_u8' _ | (simp only [Int.toNat_natCast]; omega) | (simp only [List.length_map, List.length_drop, List.length_take, List.length_append, List.length_replicate]; omega) | (simp <;> omega))) rfl ?_
          refine J.op (Yd.assign rfl) rfl ?_
          refine J.nil ?_
          refine J.n_then ?_
          exact J.round ((n0 + 1, ll2, vs1, t2, vs2)) ⟨rfl, rfl, rfl, rfl, rfl, rfl, rfl, rfl, rfl, trivial⟩ (⟨by show n0 + 1 ≤ es.length; omega, hB2, (by show ll2.flatten.length ≤ 2000 * (n0 + 1); omega), he1b, he2b, hcb1, hcb2, hos1, hos2, fr_t2, ap_b1_t2, ap_b2_t2, ap_s1_t2, e0⟩) (by show es.length - (n0 + 1) < es.length - n0; omega)
    · skip
      refine J.op (Yd.move rfl) rfl ?_
      refine J.op (Yd.move rfl) rfl ?_
      refine J.op (Yd.idxE (K := pcS) Try.underlying40 ti31 rfl rfl (Er.ext hse e0) (by first | omega | exact idx_u8' _ | (simp only [Int.toNat_natCast]; omega) | (simp only [List.length_map, List.length_drop, List.length_take, List.length_append, List.length_replicate]; omega) | (simp <;> omega))) rfl ?_
      refine J.op (Yd.fieldE (K := pcS) (Er.ext hse e0) (by omega) Try.underlying31 rfl ti22 rfl rfl) rfl ?_
      refine J.op (Yd.cast (Yd.loadFd (K := pcS) pcD pl22 rfl (Er.ext hse e0) (by first | omega | exact idx_u8' _ | (simp only [Int.toNat_natCast]; omega) | (simp only [List.length_map, List.length_drop, List.length_take, List.length_append, List.length_replicate]; omega) | (simp <;> omega)) rfl) (show _ = (es.getD (n0 : Int).toNat pcD).2.2.2 from rfl)) rfl ?_
      refine J.op (Yd.len_b Try.underlying22 rfl (Rd.ext hxl e0)) rfl ?_
      refine J.op (Yd.gtr rfl rfl) rfl ?_
      refine J.nil ?_
      refine J.n_then ?_
      refine J.cond_dec rfl (fun hc4 => ?_) (fun hc4 => ?_)
      · skip
        refine J.seq ?_
        refine J.region ?_
        refine J.eff (Ye.call cl8 rfl (Awake_ok)) rfl ?_
        rintro _ w22 ⟨rfl, x1⟩
        have e0 := e0.trans x1
        have hcb1 := hcb1.ext x1
        have hcb2 := hcb2.ext x1
        have hos1 := hos1.ext x1
        have hos2 := hos2.ext x1
        have he1 := he1.ext x1
        have he2 := he2.ext x1
        clear x1
        refine J.op (Yd.assign rfl) rfl ?_
        refine J.nil ?_
        refine J.n_then ?_
        refine J.ret ?_
        refine J.r_then ?_
        refine J.r_block ?_
        refine J.r_then ?_
        refine J.r_then ?_
        refine J.r_block ?_
        refine J.r_then ?_
        exact J.ret1 rfl rfl (⟨_, rfl, rfl, e0⟩)
      · skip
        refine J.skip ?_
        refine J.n_then ?_
        refine J.seq ?_
        refine J.seq ?_
        have lolb2 : LoL w3.heap.size [some b2] := LoL.one (Cel.live hcb2)
        have lols1 : LoL w3.heap.size [s1.ownBlock] := LoL.one (Ow.live hos1)
        have hlne : l ≠ [] := fun h9 => by have h8 := hB.pos hk9; have h7 := hB.hsz; rw [h9] at hdl; revert hdl; show ¬ ((0 : Int) = _); split <;> omega
        refine J.regionR mix (by kernel_rfl) (n := 22) rfl ?_
        refine J.rg_seq (m := 16) [(0, true), (1, true), (2, true), (7, true), (8, true), (9, true)] rfl (by kernel_rfl) ?_
        refine J.s_op rfl (fun _ => Yd.move rfl) rfl ?_
        refine J.s_op rfl (fun _ => Yd.move rfl) rfl ?_
        refine J.s_op rfl (fun _ => Yd.move rfl) rfl ?_
        refine J.s_op rfl (fun _ => Yd.move rfl) rfl ?_
        refine J.s_op rfl (fun _ => Yd.move rfl) rfl ?_
        refine J.s_op rfl (fun _ => Yd.move rfl) rfl ?_
        refine J.s_nil ?_
        have lolAT : LoL w3.heap.size [s1.ownBlock, (some b2)] := LoL.two (Ow.live hos1) (Cel.live hcb2)
        refine J.rg_blk (m := 9) [(3, AsrT.v [s1.ownBlock, (some b2)] 71 (.pointer (some (adr se ((n0 : Int).toNat * pcS.sz))))), (4, AsrT.v [s1.ownBlock, (some b2)] 72 (.agg (pcS.c ((id, (k : Int), (ll.length : Int), (es.getD (n0 : Int).toNat pcD).2.2.2) : Pc)).toArray)), (5, AsrT.v [s1.ownBlock, (some b2)] 73 (.agg (pcS.c ((id, (k : Int), (ll.length : Int), (es.getD (n0 : Int).toNat pcD).2.2.2) : Pc)).toArray)), (6, AsrT.c [(some b2)] 74 (Value) (fun _ => I 0) (fun v' w' => Ow 0 22 w' s1 (vs1.set (k : Int).toNat v') ∧ Ob w3.heap.size 5 w' v' l)), (10, AsrT.v [s1.ownBlock, (some b2)] 78 (.pointer (some (adr se ((n0 : Int).toNat * pcS.sz))))), (11, AsrT.v [s1.ownBlock, (some b2)] 79 (.agg (pcS.c ((id, (k : Int), (ll.length : Int), (es.getD (n0 : Int).toNat pcD).2.2.2) : Pc)).toArray)), (12, AsrT.c [s1.ownBlock] 80 (Value × Value) (fun _ => I 0) (fun z w' => Cel w' b2 76 [(0, 1, [I id]), (1, 1, [I size]), (2, 1, [I len]), (3, 1, [z.1])] ∧ Ow w3.heap.size 22 w' z.1 (vs2.set (k : Int).toNat z.2) ∧ Ob w3.heap.size 5 w' z.2 l ∧ Ap z.2.ownBlock z.1.ownBlock ∧ Ap (some b2) z.1.ownBlock ∧ Ap (some b2) z.2.ownBlock))] [3, 4, 5, 6, 10, 11, 12] [71, 72, 73, 74, 78, 79, 80] [[], [0], [0, 1], [0, 1, 2], [], [4], [0, 1, 2, 3, 4, 5]] [[], [], [], [], [6], [6], [6]] [(6, [s1.ownBlock]), (12, [(some b2)])] [6, 12] rfl rfl rfl rfl ⟨(fun p hp hne x hx => by simp only [List.mem_cons, List.mem_nil_iff, or_false] at hp; rcases hp with rfl | rfl <;> first | exact absurd rfl hne | exact hx | (simp only [List.mem_singleton] at hx; subst hx; simp)), (fun p hp hne x hx => by simp only [List.mem_cons, List.mem_nil_iff, or_false] at hp; rcases hp with rfl | rfl <;> first | exact absurd rfl hne | exact hx | (simp only [List.mem_singleton] at hx; subst hx; simp)), (fun p hp hne x hx => by simp only [List.mem_cons, List.mem_nil_iff, or_false] at hp; rcases hp with rfl | rfl <;> first | exact absurd rfl hne | exact hx | (simp only [List.mem_singleton] at hx; subst hx; simp)), (fun p hp hne x hx => by simp only [List.mem_cons, List.mem_nil_iff, or_false] at hp; rcases hp with rfl | rfl <;> first | exact absurd rfl hne | exact hx | (simp only [List.mem_singleton] at hx; subst hx; simp)), (fun p hp hne x hx => by simp only [List.mem_cons, List.mem_nil_iff, or_false] at hp; rcases hp with rfl | rfl <;> first | exact absurd rfl hne | exact hx | (simp only [List.mem_singleton] at hx; subst hx; simp)), (fun p hp hne x hx => by simp only [List.mem_cons, List.mem_nil_iff, or_false] at hp; rcases hp with rfl | rfl <;> first | exact absurd rfl hne | exact hx | (simp only [List.mem_singleton] at hx; subst hx; simp)), (fun p hp hne x hx => by simp only [List.mem_cons, List.mem_nil_iff, or_false] at hp; rcases hp with rfl | rfl <;> first | exact absurd rfl hne | exact hx | (simp only [List.mem_singleton] at hx; subst hx; simp)), trivial⟩ (by kernel_rfl) ?_
        refine J.at_in [0, 1, 2, 3, 4, 5, 6] rfl (by rfl) ⟨?_, ?_, ?_, ?_, ?_, ?_, ?_, trivial⟩ ?_
        · skip
          intro w23 x1
          have x1 : Tn [] w3 w23 := x1
          have xs1 := x1.size
          have x1 := Tn.nil x1
          have e0 := e0.trans x1
          have hcb1 := hcb1.ext x1
          have hcb2 := hcb2.ext x1
          have hos1 := hos1.ext x1
          have hos2 := hos2.ext x1
          have he1 := he1.ext x1
          have he2 := he2.ext x1
          clear x1
          refine PremT.nil ?_
          exact OpYeT.val rfl (Yd.idxE (K := pcS) Try.underlying40 ti31 rfl rfl (Er.ext hse e0) (by first | omega | exact idx_u8' _ | (simp only [Int.toNat_natCast]; omega) | (simp only [List.length_map, List.length_drop, List.length_take, List.length_append, List.length_replicate]; omega) | (simp <;> omega)))
        · skip
          intro w24 x1
          refine PremT.v rfl ?_
          have x1 : Tn [] w3 w24 := x1
          have xs1 := x1.size
          have x1 := Tn.nil x1
          have e0 := e0.trans x1
          have hcb1 := hcb1.ext x1
          have hcb2 := hcb2.ext x1
          have hos1 := hos1.ext x1
          have hos2 := hos2.ext x1
          have he1 := he1.ext x1
          have he2 := he2.ext x1
          clear x1
          refine PremT.nil ?_
          exact OpYeT.val rfl (Yd.cast (Yd.loadEd (K := pcS) pcD ag31 ti31 rfl (Er.ext hse e0) (by first | omega | exact idx_u8' _ | (simp only [Int.toNat_natCast]; omega) | (simp only [List.length_map, List.length_drop, List.length_take, List.length_append, List.length_replicate]; omega) | (simp <;> omega))) (congrArg (fun z : Pc => Value.agg (pcS.c z).toArray) hX))
        · skip
          intro w25 x1
          refine PremT.v rfl ?_
          refine PremT.v rfl ?_
          have x1 : Tn [] w3 w25 := x1
          have xs1 := x1.size
          have x1 := Tn.nil x1
          have e0 := e0.trans x1
          have hcb1 := hcb1.ext x1
          have hcb2 := hcb2.ext x1
          have hos1 := hos1.ext x1
          have hos2 := hos2.ext x1
          have he1 := he1.ext x1
          have he2 := he2.ext x1
          clear x1
          refine PremT.nil ?_
          exact OpYeT.mk rfl (Ye.mono (Ye.call cl12 rfl (Made_ok (x := ((id, (k : Int), (ll.length : Int), (es.getD (n0 : Int).toNat pcD).2.2.2) : Pc)) (l := l) (hxl.ext e0))) fun v w2 h => ⟨⟨(), h.1, trivial⟩, Ext.tn h.2 _⟩)
        · skip
          intro w26 x1
          refine PremT.v rfl ?_
          refine PremT.v rfl ?_
          refine PremT.v rfl ?_
          have x1 : Tn [] w3 w26 := x1
          have xs1 := x1.size
          have x1 := Tn.nil x1
          have e0 := e0.trans x1
          have hcb1 := hcb1.ext x1
          have hcb2 := hcb2.ext x1
          have hos1 := hos1.ext x1
          have hos2 := hos2.ext x1
          have he1 := he1.ext x1
          have he2 := he2.ext x1
          clear x1
          refine PremT.nil ?_
          exact OpYeT.mk rfl (Ye.mono (Ye.callv cl11 rfl rfl (Add1_new (rs := [s1.ownBlock, some b2]) (k := k) (xv := (es.getD (n0 : Int).toNat pcD).2.2.2) (l := l) hB hcb1 he1 hos1 hap_b1 (fun w' ht => hxl.ext (e0.tnk (fun q hq => by simp only [List.mem_singleton] at hq; subst hq; exact fr_s1) ht)) hk9 hdl hl0)) (fun v w2 h => let ⟨h1, v', h2, h3, h4⟩ := h; ⟨⟨v', h1, fun w3 ht => ⟨h2.tnk ht (ApL.one ap_s1_b2), own_cl (Ow.base h3 xs1) lolb2 w3 ht⟩⟩, h4⟩))
        · skip
          intro w27 x1
          have x1 : Tn [s1.ownBlock] w3 w27 := x1
          have xs1 := x1.size
          have hcb1 := Cel.tnk hcb1 x1 (ApL.one hap_b1)
          have hcb2 := Cel.tnk hcb2 x1 (ApL.one (Ap.symm ap_s1_b2))
          have hos2 := Ow.tnk hos2 x1 (ApL.one (Ap.symm ap_s1_t2))
          have he1 := Els.tnk he1 x1 (fun r hr => by simp only [List.mem_cons, List.mem_nil_iff, or_false] at hr ⊢; first | exact hr | (rcases hr with rfl | rfl <;> simp) | (subst hr; simp))
          have he2 := Els.tnk he2 x1 (fun r hr => by simp only [List.mem_cons, List.mem_nil_iff, or_false] at hr ⊢; first | exact hr | (rcases hr with rfl | rfl <;> simp) | (subst hr; simp))
          have e0 := Ext.tnk e0 (fun q hq => by simp only [List.mem_singleton] at hq; subst hq; exact fr_s1) x1
          clear x1
          refine PremT.nil ?_
          exact OpYeT.val rfl (Yd.idxE (K := pcS) Try.underlying40 ti31 rfl rfl (Er.ext hse e0) (by first | omega | exact idx_u8' _ | (simp only [Int.toNat_natCast]; omega) | (simp only [List.length_map, List.length_drop, List.length_take, List.length_append, List.length_replicate]; omega) | (simp <;> omega)))
        · skip
          intro w28 x1
          refine PremT.v rfl ?_
          have x1 : Tn [s1.ownBlock] w3 w28 := x1
          have xs1 := x1.size
          have hcb1 := Cel.tnk hcb1 x1 (ApL.one hap_b1)
          have hcb2 := Cel.tnk hcb2 x1 (ApL.one (Ap.symm ap_s1_b2))
          have hos2 := Ow.tnk hos2 x1 (ApL.one (Ap.symm ap_s1_t2))
          have he1 := Els.tnk he1 x1 (fun r hr => by simp only [List.mem_cons, List.mem_nil_iff, or_false] at hr ⊢; first | exact hr | (rcases hr with rfl | rfl <;> simp) | (subst hr; simp))
          have he2 := Els.tnk he2 x1 (fun r hr => by simp only [List.mem_cons, List.mem_nil_iff, or_false] at hr ⊢; first | exact hr | (rcases hr with rfl | rfl <;> simp) | (subst hr; simp))
          have e0 := Ext.tnk e0 (fun q hq => by simp only [List.mem_singleton] at hq; subst hq; exact fr_s1) x1
          clear x1
          refine PremT.nil ?_
          exact OpYeT.val rfl (Yd.cast (Yd.loadEd (K := pcS) pcD ag31 ti31 rfl (Er.ext hse e0) (by first | omega | exact idx_u8' _ | (simp only [Int.toNat_natCast]; omega) | (simp only [List.length_map, List.length_drop, List.length_take, List.length_append, List.length_replicate]; omega) | (simp <;> omega))) (congrArg (fun z : Pc => Value.agg (pcS.c z).toArray) hX))
        · skip
          intro w29 x1
          refine PremT.v rfl ?_
          refine PremT.v rfl ?_
          refine PremT.v rfl ?_
          refine PremT.a rfl fun x74_ hx74_ => ?_
          have hx74_ := hx74_ _ (Tn.refl _ _)
          obtain ⟨h6a, h6b⟩ := hx74_
          try dsimp only at h6a h6b
          obtain ⟨v1n, hv1n⟩ : ∃ z, z = x74_ := ⟨_, rfl⟩
          rw [← hv1n] at h6a h6b
          have ap_b1_v1n : Ap (some b1) v1n.ownBlock := Ap.mk (Cel.live hcb1) (Ow.fr h6b)
          have ap_b2_v1n : Ap (some b2) v1n.ownBlock := Ap.mk (Cel.live hcb2) (Ow.fr h6b)
          have ap_s1_v1n : Ap s1.ownBlock v1n.ownBlock := Ap.mk (Ow.live hos1) (Ow.fr h6b)
          have ap_t2_v1n : Ap t2.ownBlock v1n.ownBlock := Ap.mk (Ow.live hos2) (Ow.fr h6b)
          have fr_v1n : Fr w.heap.size v1n.ownBlock := Fr.le (Ow.fr h6b) e0.size
          replace h6b := Ow.base h6b e0.size
          refine PremT.v rfl ?_
          refine PremT.v rfl ?_
          have x1 : Tn [s1.ownBlock] w3 w29 := x1
          have xs1 := x1.size
          have hcb1 := Cel.tnk hcb1 x1 (ApL.one hap_b1)
          have hcb2 := Cel.tnk hcb2 x1 (ApL.one (Ap.symm ap_s1_b2))
          have hos2 := Ow.tnk hos2 x1 (ApL.one (Ap.symm ap_s1_t2))
          have he1 := Els.tnk he1 x1 (fun r hr => by simp only [List.mem_cons, List.mem_nil_iff, or_false] at hr ⊢; first | exact hr | (rcases hr with rfl | rfl <;> simp) | (subst hr; simp))
          have he2 := Els.tnk he2 x1 (fun r hr => by simp only [List.mem_cons, List.mem_nil_iff, or_false] at hr ⊢; first | exact hr | (rcases hr with rfl | rfl <;> simp) | (subst hr; simp))
          have e0 := Ext.tnk e0 (fun q hq => by simp only [List.mem_singleton] at hq; subst hq; exact fr_s1) x1
          clear x1
          refine PremT.nil ?_
          exact OpYeT.mk rfl (Ye.mono (Ye.call cl16 rfl (Add2_new (rs := [s1.ownBlock, some b2]) (k := k) (xv := (es.getD (n0 : Int).toNat pcD).2.2.2) (l := l) hB hcb2 (fun w' ht => he2.tnk ht (by simp)) (fun w' ht => Rd.tnk (Ow.rd hos2) ht (ApL.one (Ap.symm ap_b2_t2))) (fun w' ht => hxl.ext (e0.tnk (fun q hq => by simp only [List.mem_singleton] at hq; subst hq; exact fr_b2) ht)) hk9 hdl hl0)) (fun v w2 h => let ⟨h1, s', v', h2, h3, h4, h5, h6, h7, h8, h9⟩ := h; ⟨⟨(s', v'), h1, fun w3 ht => ⟨h2.tnk ht (ApL.one (Ap.symm ap_s1_b2)), own_cl (Ow.base h3 xs1) lols1 w3 ht, own_cl (Ow.base h4 xs1) lols1 w3 ht, h8, h6, h7⟩⟩, h9⟩))
        intro w30 x1
        refine PremT.v rfl ?_
        refine PremT.v rfl ?_
        refine PremT.v rfl ?_
        refine PremT.a rfl fun x74_ hx74_ => ?_
        have hx74_ := hx74_ _ (Tn.refl _ _)
        obtain ⟨h6a, h6b⟩ := hx74_
        try dsimp only at h6a h6b
        obtain ⟨v1n, hv1n⟩ : ∃ z, z = x74_ := ⟨_, rfl⟩
        rw [← hv1n] at h6a h6b
        have ap_b1_v1n : Ap (some b1) v1n.ownBlock := Ap.mk (Cel.live hcb1) (Ow.fr h6b)
        have ap_b2_v1n : Ap (some b2) v1n.ownBlock := Ap.mk (Cel.live hcb2) (Ow.fr h6b)
        have ap_s1_v1n : Ap s1.ownBlock v1n.ownBlock := Ap.mk (Ow.live hos1) (Ow.fr h6b)
        have ap_t2_v1n : Ap t2.ownBlock v1n.ownBlock := Ap.mk (Ow.live hos2) (Ow.fr h6b)
        have fr_v1n : Fr w.heap.size v1n.ownBlock := Fr.le (Ow.fr h6b) e0.size
        replace h6b := Ow.base h6b e0.size
        refine PremT.v rfl ?_
        refine PremT.v rfl ?_
        refine PremT.a rfl fun x80_ hx80_ => ?_
        have hx80_ := hx80_ _ (Tn.refl _ _)
        obtain ⟨h12a, h12b, h12c, h12d, h12e, h12f⟩ := hx80_
        obtain ⟨s2n, hs2n⟩ : ∃ z, z = (x80_).1 := ⟨_, rfl⟩
        obtain ⟨v2n, hv2n⟩ : ∃ z, z = (x80_).2 := ⟨_, rfl⟩
        try dsimp only at h12a h12b h12c h12d h12e h12f
        rw [← hs2n] at h12a h12b h12d h12e
        rw [← hv2n] at h12b h12c h12d h12f
        have ap_b1_s2n : Ap (some b1) s2n.ownBlock := Ap.mk (Cel.live hcb1) (Ow.fr h12b)
        have ap_b2_s2n : Ap (some b2) s2n.ownBlock := Ap.mk (Cel.live hcb2) (Ow.fr h12b)
        have ap_s1_s2n : Ap s1.ownBlock s2n.ownBlock := Ap.mk (Ow.live hos1) (Ow.fr h12b)
        have ap_t2_s2n : Ap t2.ownBlock s2n.ownBlock := Ap.mk (Ow.live hos2) (Ow.fr h12b)
        have fr_s2n : Fr w.heap.size s2n.ownBlock := Fr.le (Ow.fr h12b) e0.size
        have ap_b1_v2n : Ap (some b1) v2n.ownBlock := Ap.mk (Cel.live hcb1) (Ow.fr h12c)
        have ap_b2_v2n : Ap (some b2) v2n.ownBlock := Ap.mk (Cel.live hcb2) (Ow.fr h12c)
        have ap_s1_v2n : Ap s1.ownBlock v2n.ownBlock := Ap.mk (Ow.live hos1) (Ow.fr h12c)
        have ap_t2_v2n : Ap t2.ownBlock v2n.ownBlock := Ap.mk (Ow.live hos2) (Ow.fr h12c)
        have fr_v2n : Fr w.heap.size v2n.ownBlock := Fr.le (Ow.fr h12c) e0.size
        replace h12b := Ow.base h12b (Nat.zero_le _)
        replace h12c := Ow.base h12c e0.size
        have x1 : Tn [s1.ownBlock, (some b2)] w3 w30 := x1
        have xs1 := x1.size
        have hcb1 := Cel.tnk hcb1 x1 (ApL.two hap_b1 ap_b1_b2)
        have hos2 := Ow.tnk hos2 x1 (ApL.two (Ap.symm ap_s1_t2) (Ap.symm ap_b2_t2))
        have he1 := Els.tnk he1 x1 (fun r hr => by simp only [List.mem_cons, List.mem_nil_iff, or_false] at hr ⊢; first | exact hr | (rcases hr with rfl | rfl <;> simp) | (subst hr; simp))
        have he2 := Els.tnk he2 x1 (fun r hr => by simp only [List.mem_cons, List.mem_nil_iff, or_false] at hr ⊢; first | exact hr | (rcases hr with rfl | rfl <;> simp) | (subst hr; simp))
        have e0 := Ext.tnk e0 (fun q hq => by simp only [List.mem_cons, List.mem_nil_iff, or_false] at hq; rcases hq with rfl | rfl; exact fr_s1; exact fr_b2) x1
        replace hos1 := h6a
        clear h6a
        rw [Int.toNat_natCast] at hos1
        have he1 := Els.set he1 hk9 (Ow.rd h6b) hlne (ApL.two (Ap.symm ap_s1_v1n) (Ap.symm ap_b2_v1n)) (Ow.live h6b)
        replace hcb2 := h12a
        clear h12a
        rw [Int.toNat_natCast] at h12b
        have he2 := Els.set he2 hk9 (Ow.rd h12c) hlne (ApL.two (Ap.symm ap_s1_v2n) (Ap.symm ap_b2_v2n)) (Ow.live h12c)
        obtain ⟨ll2, hl2⟩ : ∃ z, z = ll.set k l := ⟨_, rfl⟩
        have hB2 : BxN id size len ll2.length := by rw [hl2, List.length_set]; exact hB
        have hfl2 : ll2.flatten.length ≤ 2000 * n0 + 2000 := by rw [hl2]; have := set_flat l ll k; omega
        rw [← hl2] at he1 he2
        have he1b := he1
        have he2b := he2
        clear x1
        refine PremT.nil ?_
        refine J.rg_seq (m := 5) [(13, true), (14, true), (15, true), (17, true)] rfl (by kernel_rfl) ?_
        refine J.s_op rfl (fun _ => Yd.neq rfl rfl) rfl ?_
        refine J.s_op rfl (fun _ => Yd.move rfl) rfl ?_
        refine J.know (t := 82) (v' := .bool false) rfl (ff (by decide)) ?_
        refine J.s_op_g rfl rfl rfl rfl (fun _ => Yd.move rfl) rfl ?_
        refine J.s_op_g rfl rfl rfl rfl (fun _ => Yd.move rfl) rfl ?_
        refine J.s_nil ?_
        have lolAT : LoL w30.heap.size [] := LoL.nil
        refine J.rg_blk (m := 3) [(16, AsrT.own [] 84 w30.heap.size 3 ((missL ll2).map fun x => I x)), (18, AsrT.own [] 86 w30.heap.size 3 ((missL ll2).map fun x => I x))] [16, 18] [84, 86] [[], [0]] [[], []] [] [] rfl rfl rfl rfl ⟨(fun p hp => by cases hp), (fun p hp => by cases hp), trivial⟩ (by kernel_rfl) ?_
        refine J.at_in [0, 1] rfl (by rfl) ⟨?_, ?_, trivial⟩ ?_
        · skip
          intro w31 x1
          have x1 : Tn [] w30 w31 := x1
          have xs1 := x1.size
          have x1 := Tn.nil x1
          have e0 := e0.trans x1
          have hcb1 := hcb1.ext x1
          have hcb2 := hcb2.ext x1
          have hos1 := hos1.ext x1
          have hos2 := hos2.ext x1
          have he1 := he1.ext x1
          have he2 := he2.ext x1
          have h6b := h6b.ext x1
          have h12b := h12b.ext x1
          have h12c := h12c.ext x1
          have he1b := he1b.ext x1
          have he2b := he2b.ext x1
          clear x1
          refine PremT.nil ?_
          exact OpYeT.mkg rfl rfl rfl rfl (Ye.mono (Ye.call cl13 rfl (Miss1_ok hB2 hcb1 he1b (Ow.rd hos1))) fun v w2 h => ⟨⟨v, rfl, own_cl (Ow.base h.1 xs1) LoL.nil⟩, Ext.tn h.2 _⟩)
        · skip
          intro w32 x1
          refine PremT.a rfl fun s84_32 o84_32 => ?_
          have o84_32 := o84_32 _ (Tn.refl _ _)
          have ap_b1_s84_32 : Ap (some b1) s84_32.ownBlock := Ap.mk (Cel.live hcb1) (Ow.fr o84_32)
          have ap_b2_s84_32 : Ap (some b2) s84_32.ownBlock := Ap.mk (Cel.live hcb2) (Ow.fr o84_32)
          have ap_s1_s84_32 : Ap s1.ownBlock s84_32.ownBlock := Ap.mk (Ow.live hos1) (Ow.fr o84_32)
          have ap_t2_s84_32 : Ap t2.ownBlock s84_32.ownBlock := Ap.mk (Ow.live hos2) (Ow.fr o84_32)
          have ap_v1n_s84_32 : Ap v1n.ownBlock s84_32.ownBlock := Ap.mk (Ow.live h6b) (Ow.fr o84_32)
          have ap_s2n_s84_32 : Ap s2n.ownBlock s84_32.ownBlock := Ap.mk (Ow.live h12b) (Ow.fr o84_32)
          have ap_v2n_s84_32 : Ap v2n.ownBlock s84_32.ownBlock := Ap.mk (Ow.live h12c) (Ow.fr o84_32)
          have fr_s84_32 : Fr w.heap.size s84_32.ownBlock := Fr.le (Ow.fr o84_32) e0.size
          replace o84_32 := Ow.base o84_32 e0.size
          have x1 : Tn [] w30 w32 := x1
          have xs1 := x1.size
          have x1 := Tn.nil x1
          have e0 := e0.trans x1
          have hcb1 := hcb1.ext x1
          have hcb2 := hcb2.ext x1
          have hos1 := hos1.ext x1
          have hos2 := hos2.ext x1
          have he1 := he1.ext x1
          have he2 := he2.ext x1
          have h6b := h6b.ext x1
          have h12b := h12b.ext x1
          have h12c := h12c.ext x1
          have he1b := he1b.ext x1
          have he2b := he2b.ext x1
          clear x1
          refine PremT.nil ?_
          exact OpYeT.mkg rfl rfl rfl rfl (Ye.mono (Ye.call cl18 rfl (Miss2_ok hB2 hcb2 he2b (Ow.rd h12b))) fun v w2 h => ⟨⟨v, rfl, own_cl (Ow.base h.1 xs1) LoL.nil⟩, Ext.tn h.2 _⟩)
        intro w33 x1
        refine PremT.a rfl fun s84_33 o84_33 => ?_
        have o84_33 := o84_33 _ (Tn.refl _ _)
        have ap_b1_s84_33 : Ap (some b1) s84_33.ownBlock := Ap.mk (Cel.live hcb1) (Ow.fr o84_33)
        have ap_b2_s84_33 : Ap (some b2) s84_33.ownBlock := Ap.mk (Cel.live hcb2) (Ow.fr o84_33)
        have ap_s1_s84_33 : Ap s1.ownBlock s84_33.ownBlock := Ap.mk (Ow.live hos1) (Ow.fr o84_33)
        have ap_t2_s84_33 : Ap t2.ownBlock s84_33.ownBlock := Ap.mk (Ow.live hos2) (Ow.fr o84_33)
        have ap_v1n_s84_33 : Ap v1n.ownBlock s84_33.ownBlock := Ap.mk (Ow.live h6b) (Ow.fr o84_33)
        have ap_s2n_s84_33 : Ap s2n.ownBlock s84_33.ownBlock := Ap.mk (Ow.live h12b) (Ow.fr o84_33)
        have ap_v2n_s84_33 : Ap v2n.ownBlock s84_33.ownBlock := Ap.mk (Ow.live h12c) (Ow.fr o84_33)
        have fr_s84_33 : Fr w.heap.size s84_33.ownBlock := Fr.le (Ow.fr o84_33) e0.size
        replace o84_33 := Ow.base o84_33 e0.size
        refine PremT.a rfl fun s86_33 o86_33 => ?_
        have o86_33 := o86_33 _ (Tn.refl _ _)
        have ap_b1_s86_33 : Ap (some b1) s86_33.ownBlock := Ap.mk (Cel.live hcb1) (Ow.fr o86_33)
        have ap_b2_s86_33 : Ap (some b2) s86_33.ownBlock := Ap.mk (Cel.live hcb2) (Ow.fr o86_33)
        have ap_s1_s86_33 : Ap s1.ownBlock s86_33.ownBlock := Ap.mk (Ow.live hos1) (Ow.fr o86_33)
        have ap_t2_s86_33 : Ap t2.ownBlock s86_33.ownBlock := Ap.mk (Ow.live hos2) (Ow.fr o86_33)
        have ap_v1n_s86_33 : Ap v1n.ownBlock s86_33.ownBlock := Ap.mk (Ow.live h6b) (Ow.fr o86_33)
        have ap_s2n_s86_33 : Ap s2n.ownBlock s86_33.ownBlock := Ap.mk (Ow.live h12b) (Ow.fr o86_33)
        have ap_v2n_s86_33 : Ap v2n.ownBlock s86_33.ownBlock := Ap.mk (Ow.live h12c) (Ow.fr o86_33)
        have fr_s86_33 : Fr w.heap.size s86_33.ownBlock := Fr.le (Ow.fr o86_33) e0.size
        replace o86_33 := Ow.base o86_33 e0.size
        have x1 : Tn [] w30 w33 := x1
        have xs1 := x1.size
        have x1 := Tn.nil x1
        have e0 := e0.trans x1
        have hcb1 := hcb1.ext x1
        have hcb2 := hcb2.ext x1
        have hos1 := hos1.ext x1
        have hos2 := hos2.ext x1
        have he1 := he1.ext x1
        have he2 := he2.ext x1
        have h6b := h6b.ext x1
        have h12b := h12b.ext x1
        have h12c := h12c.ext x1
        have he1b := he1b.ext x1
        have he2b := he2b.ext x1
        clear x1
        refine PremT.nil ?_
        refine J.rg_seq (m := 0) [(19, false), (20, true), (21, true)] rfl (by kernel_rfl) ?_
        refine J.s_eff_g rfl rfl rfl rfl (Ye.call cl17 rfl (Ints_ok (Ow.rd o84_33) (Ow.rd o86_33))) rfl ?_
        rintro _ w34 ⟨rfl, x1⟩
        have e0 := e0.trans x1
        have hcb1 := hcb1.ext x1
        have hcb2 := hcb2.ext x1
        have hos1 := hos1.ext x1
        have hos2 := hos2.ext x1
        have he1 := he1.ext x1
        have he2 := he2.ext x1
        have h6b := h6b.ext x1
        have h12b := h12b.ext x1
        have h12c := h12c.ext x1
        have he1b := he1b.ext x1
        have he2b := he2b.ext x1
        have o84_33 := o84_33.ext x1
        have o86_33 := o86_33.ext x1
        clear x1
        refine J.s_op_g rfl rfl rfl rfl (fun _ => Yd.not_dec rfl) rfl ?_
        refine J.s_op rfl (fun _ => Yd.pick_f rfl rfl) rfl ?_
        refine J.s_nil ?_
        refine J.rg_nil (by kernel_rfl) ?_
        refine J.n_np ?_
        refine J.n_then ?_
        refine J.know (t := 89) (v' := .bool false) rfl (ff (by exact fun h => h rfl)) ?_
        refine J.cond_false rfl ?_
        refine J.skip ?_
        refine J.n_then ?_
        refine J.seq ?_
        refine J.region ?_
        refine J.op (Yd.move rfl) rfl ?_
        by_cases hml : missL ll2 = []
        · skip
          refine J.eff (Ye.call cl10 rfl (Done_yes hB2 hcb1 he1b (Ow.rd hos1) hml (by omega))) rfl ?_
          rintro _ w35 ⟨v92_35, rfl, ov92_35, x1⟩
          have ap_b1_v92_35 : Ap (some b1) v92_35.ownBlock := Ap.mk (Cel.live hcb1) (Ow.fr ov92_35)
          have ap_b2_v92_35 : Ap (some b2) v92_35.ownBlock := Ap.mk (Cel.live hcb2) (Ow.fr ov92_35)
          have ap_s1_v92_35 : Ap s1.ownBlock v92_35.ownBlock := Ap.mk (Ow.live hos1) (Ow.fr ov92_35)
          have ap_t2_v92_35 : Ap t2.ownBlock v92_35.ownBlock := Ap.mk (Ow.live hos2) (Ow.fr ov92_35)
          have ap_v1n_v92_35 : Ap v1n.ownBlock v92_35.ownBlock := Ap.mk (Ow.live h6b) (Ow.fr ov92_35)
          have ap_s2n_v92_35 : Ap s2n.ownBlock v92_35.ownBlock := Ap.mk (Ow.live h12b) (Ow.fr ov92_35)
          have ap_v2n_v92_35 : Ap v2n.ownBlock v92_35.ownBlock := Ap.mk (Ow.live h12c) (Ow.fr ov92_35)
          have ap_s84_33_v92_35 : Ap s84_33.ownBlock v92_35.ownBlock := Ap.mk (Ow.live o84_33) (Ow.fr ov92_35)
          have ap_s86_33_v92_35 : Ap s86_33.ownBlock v92_35.ownBlock := Ap.mk (Ow.live o86_33) (Ow.fr ov92_35)
          have fr_v92_35 : Fr w.heap.size v92_35.ownBlock := Fr.le (Ow.fr ov92_35) e0.size
          replace ov92_35 := Ow.base ov92_35 e0.size
          have e0 := e0.trans x1
          have hcb1 := hcb1.ext x1
          have hcb2 := hcb2.ext x1
          have hos1 := hos1.ext x1
          have hos2 := hos2.ext x1
          have he1 := he1.ext x1
          have he2 := he2.ext x1
          have h6b := h6b.ext x1
          have h12b := h12b.ext x1
          have h12c := h12c.ext x1
          have he1b := he1b.ext x1
          have he2b := he2b.ext x1
          have o84_33 := o84_33.ext x1
          have o86_33 := o86_33.ext x1
          clear x1
          refine J.op (Yd.move rfl) rfl ?_
          refine J.op (Yd.extract rfl rfl) rfl ?_
          refine J.op (Yd.extract rfl rfl) rfl ?_
          refine J.op (Yd.assign rfl) rfl ?_
          refine J.op (Yd.assign rfl) rfl ?_
          refine J.nil ?_
          refine J.n_then ?_
          refine J.seq ?_
          refine J.regionO [(0, true), (1, true), (2, false), (3, false), (4, true), (5, true), (6, true), (7, true), (8, true), (9, true), (11, true)] [(10, 1), (12, 0), (13, 1)] [(14, true), (15, true), (16, true), (17, true), (18, true), (19, true), (20, true), (21, true), (22, false), (23, true), (24, true), (25, true)] mix (by kernel_rfl) ?_
          refine J.s_op rfl (fun _ => Yd.move rfl) rfl ?_
          refine J.s_op rfl (fun _ => Yd.move rfl) rfl ?_
          refine J.s_eff rfl (Ye.call cl18 rfl (Miss2_ok hB2 hcb2 he2b (Ow.rd h12b))) rfl ?_
          rintro v97_36 w36 ⟨ov97_36, x1⟩
          have ap_b1_v97_36 : Ap (some b1) v97_36.ownBlock := Ap.mk (Cel.live hcb1) (Ow.fr ov97_36)
          have ap_b2_v97_36 : Ap (some b2) v97_36.ownBlock := Ap.mk (Cel.live hcb2) (Ow.fr ov97_36)
          have ap_s1_v97_36 : Ap s1.ownBlock v97_36.ownBlock := Ap.mk (Ow.live hos1) (Ow.fr ov97_36)
          have ap_t2_v97_36 : Ap t2.ownBlock v97_36.ownBlock := Ap.mk (Ow.live hos2) (Ow.fr ov97_36)
          have ap_v1n_v97_36 : Ap v1n.ownBlock v97_36.ownBlock := Ap.mk (Ow.live h6b) (Ow.fr ov97_36)
          have ap_s2n_v97_36 : Ap s2n.ownBlock v97_36.ownBlock := Ap.mk (Ow.live h12b) (Ow.fr ov97_36)
          have ap_v2n_v97_36 : Ap v2n.ownBlock v97_36.ownBlock := Ap.mk (Ow.live h12c) (Ow.fr ov97_36)
          have ap_s84_33_v97_36 : Ap s84_33.ownBlock v97_36.ownBlock := Ap.mk (Ow.live o84_33) (Ow.fr ov97_36)
          have ap_s86_33_v97_36 : Ap s86_33.ownBlock v97_36.ownBlock := Ap.mk (Ow.live o86_33) (Ow.fr ov97_36)
          have ap_v92_35_v97_36 : Ap v92_35.ownBlock v97_36.ownBlock := Ap.mk (Ow.live ov92_35) (Ow.fr ov97_36)
          have fr_v97_36 : Fr w.heap.size v97_36.ownBlock := Fr.le (Ow.fr ov97_36) e0.size
          replace ov97_36 := Ow.base ov97_36 e0.size
          have e0 := e0.trans x1
          have hcb1 := hcb1.ext x1
          have hcb2 := hcb2.ext x1
          have hos1 := hos1.ext x1
          have hos2 := hos2.ext x1
          have he1 := he1.ext x1
          have he2 := he2.ext x1
          have h6b := h6b.ext x1
          have h12b := h12b.ext x1
          have h12c := h12c.ext x1
          have he1b := he1b.ext x1
          have he2b := he2b.ext x1
          have o84_33 := o84_33.ext x1
          have o86_33 := o86_33.ext x1
          have ov92_35 := ov92_35.ext x1
          clear x1
          refine J.s_one rfl (Yd.len_m Try.underlying37 rfl (Ow.rd ov97_36)) rfl ?_
          refine J.s_op rfl (fun _ => Yd.eql rfl rfl) rfl ?_
          refine J.s_op rfl (fun _ => Yd.neqb rfl rfl Try.underlying4) rfl ?_
          refine J.s_op rfl (fun _ => Yd.move rfl) rfl ?_
          refine J.know (t := 101) (v' := .bool false) rfl (ff (by rw [hml]; decide)) ?_
          refine J.s_op_g rfl rfl rfl rfl (fun _ => Yd.move rfl) rfl ?_
          refine J.s_op_g rfl rfl rfl rfl (fun _ => Yd.move rfl) rfl ?_
          refine J.s_op_g rfl rfl rfl rfl (fun _ => Yd.move rfl) rfl ?_
          refine J.s_op_g rfl rfl rfl rfl (fun _ => Yd.move rfl) rfl ?_
          refine J.s_nil ?_
          refine J.o_op_g rfl rfl rfl rfl (Yd.bstr Try.underlying22 Try.underlying5 Try.underlying9 rfl (Ow.rd ov92_35)) rfl ?_
          refine J.o_eff_g rfl rfl rfl rfl (Ye.call cl19 rfl (All_bx hB2 hcb2 he2b (Ow.rd h12b) (by omega))) rfl (fun _ _ ⟨_, h⟩ => h) ?_
          rintro v107_37 w37 ⟨ov107_37, x1⟩
          have ap_b1_v107_37 : Ap (some b1) v107_37.ownBlock := Ap.mk (Cel.live hcb1) (Ow.fr ov107_37)
          have ap_b2_v107_37 : Ap (some b2) v107_37.ownBlock := Ap.mk (Cel.live hcb2) (Ow.fr ov107_37)
          have ap_s1_v107_37 : Ap s1.ownBlock v107_37.ownBlock := Ap.mk (Ow.live hos1) (Ow.fr ov107_37)
          have ap_t2_v107_37 : Ap t2.ownBlock v107_37.ownBlock := Ap.mk (Ow.live hos2) (Ow.fr ov107_37)
          have ap_v1n_v107_37 : Ap v1n.ownBlock v107_37.ownBlock := Ap.mk (Ow.live h6b) (Ow.fr ov107_37)
          have ap_s2n_v107_37 : Ap s2n.ownBlock v107_37.ownBlock := Ap.mk (Ow.live h12b) (Ow.fr ov107_37)
          have ap_v2n_v107_37 : Ap v2n.ownBlock v107_37.ownBlock := Ap.mk (Ow.live h12c) (Ow.fr ov107_37)
          have ap_s84_33_v107_37 : Ap s84_33.ownBlock v107_37.ownBlock := Ap.mk (Ow.live o84_33) (Ow.fr ov107_37)
          have ap_s86_33_v107_37 : Ap s86_33.ownBlock v107_37.ownBlock := Ap.mk (Ow.live o86_33) (Ow.fr ov107_37)
          have ap_v92_35_v107_37 : Ap v92_35.ownBlock v107_37.ownBlock := Ap.mk (Ow.live ov92_35) (Ow.fr ov107_37)
          have ap_v97_36_v107_37 : Ap v97_36.ownBlock v107_37.ownBlock := Ap.mk (Ow.live ov97_36) (Ow.fr ov107_37)
          have fr_v107_37 : Fr w.heap.size v107_37.ownBlock := Fr.le (Ow.fr ov107_37) e0.size
          replace ov107_37 := Ow.base ov107_37 e0.size
          have e0 := e0.trans x1
          have hcb1 := hcb1.ext x1
          have hcb2 := hcb2.ext x1
          have hos1 := hos1.ext x1
          have hos2 := hos2.ext x1
          have he1 := he1.ext x1
          have he2 := he2.ext x1
          have h6b := h6b.ext x1
          have h12b := h12b.ext x1
          have h12c := h12c.ext x1
          have he1b := he1b.ext x1
          have he2b := he2b.ext x1
          have o84_33 := o84_33.ext x1
          have o86_33 := o86_33.ext x1
          have ov92_35 := ov92_35.ext x1
          have ov97_36 := ov97_36.ext x1
          clear x1
          refine J.o_op_g rfl rfl rfl rfl (Yd.bstr Try.underlying22 Try.underlying5 Try.underlying9 rfl (Ow.rd ov107_37)) rfl ?_
          refine J.o_nil ?_
          refine J.s_op_g rfl rfl rfl rfl (fun _ => Yd.sne rfl rfl) rfl ?_
          refine J.s_op_g rfl rfl rfl rfl (fun _ => Yd.pick_t rfl rfl) rfl ?_
          refine J.s_op rfl (fun _ => Yd.pick_f rfl rfl) rfl ?_
          refine J.s_op rfl (fun _ => Yd.move rfl) rfl ?_
          refine J.know (t := 112) (v' := .bool false) rfl (ff (by exact fun h => h rfl)) ?_
          refine J.s_op_g rfl rfl rfl rfl (fun _ => Yd.move rfl) rfl ?_
          refine J.s_op_g rfl rfl rfl rfl (fun _ => Yd.not rfl) rfl ?_
          refine J.s_op_g rfl rfl rfl rfl (fun _ => Yd.move rfl) rfl ?_
          refine J.s_not_g rfl rfl rfl rfl rfl rfl ?_
          refine J.s_skip_g rfl rfl rfl rfl rfl rfl ?_
          refine J.s_not_g rfl rfl rfl rfl rfl rfl ?_
          refine J.s_op_g rfl rfl rfl rfl (fun _ => Yd.pick_f rfl rfl) rfl ?_
          refine J.s_op rfl (fun _ => Yd.pick_f rfl rfl) rfl ?_
          refine J.s_nil ?_
          refine J.n_np ?_
          refine J.n_then ?_
          refine J.cond_false rfl ?_
          refine J.skip ?_
          refine J.n_block ?_
          refine J.n_then ?_
          refine J.region ?_
          refine J.op (Yd.move rfl) rfl ?_
          refine J.op (Yd.add rfl rfl (by first | omega | exact idx_u8' _ | (simp only [Int.toNat_natCast]; omega) | (simp only [List.length_map, List.length_drop, List.length_take, List.length_append, List.length_replicate]; omega) | (simp <;> omega))) rfl ?_
          refine J.op (Yd.assign rfl) rfl ?_
          refine J.nil ?_
          refine J.n_then ?_
          exact J.round ((n0 + 1, ll2, (vs1.set k v1n), s2n, (vs2.set k v2n))) ⟨rfl, rfl, rfl, rfl, rfl, rfl, rfl, rfl, rfl, trivial⟩ (⟨by show n0 + 1 ≤ es.length; omega, hB2, (by show ll2.flatten.length ≤ 2000 * (n0 + 1); omega), he1b, he2b, hcb1, hcb2, hos1, h12b, fr_s2n, ap_b1_s2n, ap_b2_s2n, ap_s1_s2n, e0⟩) (by show es.length - (n0 + 1) < es.length - n0; omega)
        · skip
          refine J.eff (Ye.call cl10 rfl (Done_no hB2 hcb1 he1b (Ow.rd hos1) hml)) rfl ?_
          rintro _ w38 ⟨rfl, x1⟩
          have e0 := e0.trans x1
          have hcb1 := hcb1.ext x1
          have hcb2 := hcb2.ext x1
          have hos1 := hos1.ext x1
          have hos2 := hos2.ext x1
          have he1 := he1.ext x1
          have he2 := he2.ext x1
          have h6b := h6b.ext x1
          have h12b := h12b.ext x1
          have h12c := h12c.ext x1
          have he1b := he1b.ext x1
          have he2b := he2b.ext x1
          have o84_33 := o84_33.ext x1
          have o86_33 := o86_33.ext x1
          clear x1
          refine J.op (Yd.move rfl) rfl ?_
          refine J.op (Yd.extract rfl rfl) rfl ?_
          refine J.op (Yd.extract rfl rfl) rfl ?_
          refine J.op (Yd.assign rfl) rfl ?_
          refine J.op (Yd.assign rfl) rfl ?_
          refine J.nil ?_
          refine J.n_then ?_
          refine J.seq ?_
          refine J.regionO [(0, true), (1, true), (2, false), (3, false), (4, true), (5, true), (6, true), (7, true), (8, true), (9, true), (11, true)] [(10, 1), (12, 0), (13, 1)] [(14, true), (15, true), (16, true), (17, true), (18, true), (19, true), (20, true), (21, true), (22, false), (23, true), (24, true), (25, true)] mix (by kernel_rfl) ?_
          refine J.s_op rfl (fun _ => Yd.move rfl) rfl ?_
          refine J.s_op rfl (fun _ => Yd.move rfl) rfl ?_
          refine J.s_eff rfl (Ye.call cl18 rfl (Miss2_ok hB2 hcb2 he2b (Ow.rd h12b))) rfl ?_
          rintro v97_39 w39 ⟨ov97_39, x1⟩
          have ap_b1_v97_39 : Ap (some b1) v97_39.ownBlock := Ap.mk (Cel.live hcb1) (Ow.fr ov97_39)
          have ap_b2_v97_39 : Ap (some b2) v97_39.ownBlock := Ap.mk (Cel.live hcb2) (Ow.fr ov97_39)
          have ap_s1_v97_39 : Ap s1.ownBlock v97_39.ownBlock := Ap.mk (Ow.live hos1) (Ow.fr ov97_39)
          have ap_t2_v97_39 : Ap t2.ownBlock v97_39.ownBlock := Ap.mk (Ow.live hos2) (Ow.fr ov97_39)
          have ap_v1n_v97_39 : Ap v1n.ownBlock v97_39.ownBlock := Ap.mk (Ow.live h6b) (Ow.fr ov97_39)
          have ap_s2n_v97_39 : Ap s2n.ownBlock v97_39.ownBlock := Ap.mk (Ow.live h12b) (Ow.fr ov97_39)
          have ap_v2n_v97_39 : Ap v2n.ownBlock v97_39.ownBlock := Ap.mk (Ow.live h12c) (Ow.fr ov97_39)
          have ap_s84_33_v97_39 : Ap s84_33.ownBlock v97_39.ownBlock := Ap.mk (Ow.live o84_33) (Ow.fr ov97_39)
          have ap_s86_33_v97_39 : Ap s86_33.ownBlock v97_39.ownBlock := Ap.mk (Ow.live o86_33) (Ow.fr ov97_39)
          have fr_v97_39 : Fr w.heap.size v97_39.ownBlock := Fr.le (Ow.fr ov97_39) e0.size
          replace ov97_39 := Ow.base ov97_39 e0.size
          have e0 := e0.trans x1
          have hcb1 := hcb1.ext x1
          have hcb2 := hcb2.ext x1
          have hos1 := hos1.ext x1
          have hos2 := hos2.ext x1
          have he1 := he1.ext x1
          have he2 := he2.ext x1
          have h6b := h6b.ext x1
          have h12b := h12b.ext x1
          have h12c := h12c.ext x1
          have he1b := he1b.ext x1
          have he2b := he2b.ext x1
          have o84_33 := o84_33.ext x1
          have o86_33 := o86_33.ext x1
          clear x1
          refine J.s_one rfl (Yd.len_m Try.underlying37 rfl (Ow.rd ov97_39)) rfl ?_
          refine J.s_op rfl (fun _ => Yd.eql rfl rfl) rfl ?_
          refine J.s_op rfl (fun _ => Yd.neqb rfl rfl Try.underlying4) rfl ?_
          refine J.s_op rfl (fun _ => Yd.move rfl) rfl ?_
          refine J.know (t := 101) (v' := .bool false) rfl (ff (by rw [decide_eq_false (show ¬ ((missL ll2).length : Int) = 0 by have := List.length_pos_iff.2 hml; omega)]; decide)) ?_
          refine J.s_op_g rfl rfl rfl rfl (fun _ => Yd.move rfl) rfl ?_
          refine J.s_op_g rfl rfl rfl rfl (fun _ => Yd.move rfl) rfl ?_
          refine J.s_not_g rfl rfl rfl rfl rfl rfl ?_
          refine J.s_not_g rfl rfl rfl rfl rfl rfl ?_
          refine J.s_nil ?_
          refine J.o_not_g rfl rfl rfl rfl rfl rfl ?_
          refine J.o_skip_g rfl rfl rfl rfl rfl rfl ?_
          refine J.o_not_g rfl rfl rfl rfl rfl rfl ?_
          refine J.o_nil ?_
          refine J.s_not_g rfl rfl rfl rfl rfl rfl ?_
          refine J.s_op_g rfl rfl rfl rfl (fun _ => Yd.pick_f rfl rfl) rfl ?_
          refine J.s_op rfl (fun _ => Yd.pick_f rfl rfl) rfl ?_
          refine J.s_op rfl (fun _ => Yd.move rfl) rfl ?_
          refine J.s_op_g rfl rfl rfl rfl (fun _ => Yd.move rfl) rfl ?_
          refine J.s_op_g rfl rfl rfl rfl (fun _ => Yd.not rfl) rfl ?_
          refine J.s_op_g rfl rfl rfl rfl (fun _ => Yd.move rfl) rfl ?_
          refine J.s_op_g rfl rfl rfl rfl (fun _ => Yd.move rfl) rfl ?_
          refine J.s_one_g rfl rfl rfl rfl (Yd.len_nil Try.underlying22 rfl) rfl ?_
          refine J.s_op_g rfl rfl rfl rfl (fun _ => Yd.neq rfl rfl) rfl ?_
          refine J.s_op_g rfl rfl rfl rfl (fun _ => Yd.pick_t rfl rfl) rfl ?_
          refine J.s_op rfl (fun _ => Yd.pick_f rfl rfl) rfl ?_
          refine J.s_nil ?_
          refine J.n_np ?_
          refine J.n_then ?_
          refine J.know (t := 120) (v' := .bool false) rfl (ff (by decide)) ?_
          refine J.cond_false rfl ?_
          refine J.skip ?_
          refine J.n_block ?_
          refine J.n_then ?_
          refine J.region ?_
          refine J.op (Yd.move rfl) rfl ?_
          refine J.op (Yd.add rfl rfl (by first | omega | exact idx_u8' _ | (simp only [Int.toNat_natCast]; omega) | (simp only [List.length_map, List.length_drop, List.length_take, List.length_append, List.length_replicate]; omega) | (simp <;> omega))) rfl ?_
          refine J.op (Yd.assign rfl) rfl ?_
          refine J.nil ?_
          refine J.n_then ?_
          exact J.round ((n0 + 1, ll2, (vs1.set k v1n), s2n, (vs2.set k v2n))) ⟨rfl, rfl, rfl, rfl, rfl, rfl, rfl, rfl, rfl, trivial⟩ (⟨by show n0 + 1 ≤ es.length; omega, hB2, (by show ll2.flatten.length ≤ 2000 * (n0 + 1); omega), he1b, he2b, hcb1, hcb2, hos1, h12b, fr_s2n, ap_b1_s2n, ap_b2_s2n, ap_s1_s2n, e0⟩) (by show es.length - (n0 + 1) < es.length - n0; omega)
    · skip
      refine J.op (Yd.move rfl) rfl ?_
      refine J.op (Yd.move rfl) rfl ?_
      refine J.op (Yd.idxE (K := pcS) Try.underlying40 ti31 rfl rfl (Er.ext hse e0) (by first | omega | exact idx_u8' _ | (simp only [Int.toNat_natCast]; omega) | (simp only [List.length_map, List.length_drop, List.length_take, List.length_append, List.length_replicate]; omega) | (simp <;> omega))) rfl ?_
      refine J.op (Yd.fieldE (K := pcS) (Er.ext hse e0) (by omega) Try.underlying31 rfl ti22 rfl rfl) rfl ?_
      refine J.op (Yd.cast (Yd.loadFd (K := pcS) pcD pl22 rfl (Er.ext hse e0) (by first | omega | exact idx_u8' _ | (simp only [Int.toNat_natCast]; omega) | (simp only [List.length_map, List.length_drop, List.length_take, List.length_append, List.length_replicate]; omega) | (simp <;> omega)) rfl) (show _ = (es.getD (n0 : Int).toNat pcD).2.2.2 from rfl)) rfl ?_
      refine J.op (Yd.len_b Try.underlying22 rfl (Rd.ext hxl e0)) rfl ?_
      refine J.op (Yd.gtr rfl rfl) rfl ?_
      refine J.nil ?_
      refine J.n_then ?_
      refine J.cond_dec rfl (fun hc4 => ?_) (fun hc4 => ?_)
      · skip
        refine J.seq ?_
        refine J.region ?_
        refine J.eff (Ye.call cl8 rfl (Awake_ok)) rfl ?_
        rintro _ w40 ⟨rfl, x1⟩
        have e0 := e0.trans x1
        have hcb1 := hcb1.ext x1
        have hcb2 := hcb2.ext x1
        have hos1 := hos1.ext x1
        have hos2 := hos2.ext x1
        have he1 := he1.ext x1
        have he2 := he2.ext x1
        clear x1
        refine J.op (Yd.assign rfl) rfl ?_
        refine J.nil ?_
        refine J.n_then ?_
        refine J.ret ?_
        refine J.r_then ?_
        refine J.r_block ?_
        refine J.r_then ?_
        refine J.r_then ?_
        refine J.r_block ?_
        refine J.r_then ?_
        exact J.ret1 rfl rfl (⟨_, rfl, rfl, e0⟩)
      · skip
        refine J.skip ?_
        refine J.n_then ?_
        refine J.seq ?_
        refine J.seq ?_
        obtain ⟨ll2, hl2⟩ : ∃ z, z = ll := ⟨_, rfl⟩
        have hB2 := hB
        have hfl2 := hfl
        have he1b := he1
        have he2b := he2
        rw [← hl2] at hB2 hfl2 he1b he2b
        refine J.regionR mix (by kernel_rfl) (n := 22) rfl ?_
        refine J.rg_seq (m := 16) [(0, true), (1, true), (2, true), (7, true), (8, true), (9, true)] rfl (by kernel_rfl) ?_
        refine J.s_op rfl (fun _ => Yd.move rfl) rfl ?_
        refine J.s_op rfl (fun _ => Yd.move rfl) rfl ?_
        refine J.s_op rfl (fun _ => Yd.move rfl) rfl ?_
        refine J.s_op rfl (fun _ => Yd.move rfl) rfl ?_
        refine J.s_op rfl (fun _ => Yd.move rfl) rfl ?_
        refine J.s_op rfl (fun _ => Yd.move rfl) rfl ?_
        refine J.s_nil ?_
        have lolAT : LoL w3.heap.size [] := LoL.nil
        refine J.rg_blk (m := 9) [(3, AsrT.v [] 71 (.pointer (some (adr se ((n0 : Int).toNat * pcS.sz))))), (4, AsrT.v [] 72 (.agg (pcS.c ((id, (k : Int), (ll.length : Int), (es.getD (n0 : Int).toNat pcD).2.2.2) : Pc)).toArray)), (5, AsrT.v [] 73 (.agg (pcS.c ((id, (k : Int), (ll.length : Int), (es.getD (n0 : Int).toNat pcD).2.2.2) : Pc)).toArray)), (6, AsrT.v [] 74 (I 8)), (10, AsrT.v [] 78 (.pointer (some (adr se ((n0 : Int).toNat * pcS.sz))))), (11, AsrT.v [] 79 (.agg (pcS.c ((id, (k : Int), (ll.length : Int), (es.getD (n0 : Int).toNat pcD).2.2.2) : Pc)).toArray)), (12, AsrT.v [] 80 (I 8))] [3, 4, 5, 6, 10, 11, 12] [71, 72, 73, 74, 78, 79, 80] [[], [0], [0, 1], [0, 1, 2], [], [4], [0, 1, 2, 3, 4, 5]] [[], [], [], [], [], [], []] [] [] rfl rfl rfl rfl ⟨(fun p hp => by cases hp), (fun p hp => by cases hp), (fun p hp => by cases hp), (fun p hp => by cases hp), (fun p hp => by cases hp), (fun p hp => by cases hp), (fun p hp => by cases hp), trivial⟩ (by kernel_rfl) ?_
        refine J.at_in [0, 1, 2, 3, 4, 5, 6] rfl (by rfl) ⟨?_, ?_, ?_, ?_, ?_, ?_, ?_, trivial⟩ ?_
        · skip
          intro w41 x1
          have x1 : Tn [] w3 w41 := x1
          have xs1 := x1.size
          have x1 := Tn.nil x1
          have e0 := e0.trans x1
          have hcb1 := hcb1.ext x1
          have hcb2 := hcb2.ext x1
          have hos1 := hos1.ext x1
          have hos2 := hos2.ext x1
          have he1 := he1.ext x1
          have he2 := he2.ext x1
          have he1b := he1b.ext x1
          have he2b := he2b.ext x1
          clear x1
          refine PremT.nil ?_
          exact OpYeT.val rfl (Yd.idxE (K := pcS) Try.underlying40 ti31 rfl rfl (Er.ext hse e0) (by first | omega | exact idx_u8' _ | (simp only [Int.toNat_natCast]; omega) | (simp only [List.length_map, List.length_drop, List.length_take, List.length_append, List.length_replicate]; omega) | (simp <;> omega)))
        · skip
          intro w42 x1
          refine PremT.v rfl ?_
          have x1 : Tn [] w3 w42 := x1
          have xs1 := x1.size
          have x1 := Tn.nil x1
          have e0 := e0.trans x1
          have hcb1 := hcb1.ext x1
          have hcb2 := hcb2.ext x1
          have hos1 := hos1.ext x1
          have hos2 := hos2.ext x1
          have he1 := he1.ext x1
          have he2 := he2.ext x1
          have he1b := he1b.ext x1
          have he2b := he2b.ext x1
          clear x1
          refine PremT.nil ?_
          exact OpYeT.val rfl (Yd.cast (Yd.loadEd (K := pcS) pcD ag31 ti31 rfl (Er.ext hse e0) (by first | omega | exact idx_u8' _ | (simp only [Int.toNat_natCast]; omega) | (simp only [List.length_map, List.length_drop, List.length_take, List.length_append, List.length_replicate]; omega) | (simp <;> omega))) (congrArg (fun z : Pc => Value.agg (pcS.c z).toArray) hX))
        · skip
          intro w43 x1
          refine PremT.v rfl ?_
          refine PremT.v rfl ?_
          have x1 : Tn [] w3 w43 := x1
          have xs1 := x1.size
          have x1 := Tn.nil x1
          have e0 := e0.trans x1
          have hcb1 := hcb1.ext x1
          have hcb2 := hcb2.ext x1
          have hos1 := hos1.ext x1
          have hos2 := hos2.ext x1
          have he1 := he1.ext x1
          have he2 := he2.ext x1
          have he1b := he1b.ext x1
          have he2b := he2b.ext x1
          clear x1
          refine PremT.nil ?_
          exact OpYeT.mk rfl (Ye.mono (Ye.call cl12 rfl (Made_ok (x := ((id, (k : Int), (ll.length : Int), (es.getD (n0 : Int).toNat pcD).2.2.2) : Pc)) (l := l) (hxl.ext e0))) fun v w2 h => ⟨⟨(), h.1, trivial⟩, Ext.tn h.2 _⟩)
        · skip
          intro w44 x1
          refine PremT.v rfl ?_
          refine PremT.v rfl ?_
          refine PremT.v rfl ?_
          have x1 : Tn [] w3 w44 := x1
          have xs1 := x1.size
          have x1 := Tn.nil x1
          have e0 := e0.trans x1
          have hcb1 := hcb1.ext x1
          have hcb2 := hcb2.ext x1
          have hos1 := hos1.ext x1
          have hos2 := hos2.ext x1
          have he1 := he1.ext x1
          have he2 := he2.ext x1
          have he1b := he1b.ext x1
          have he2b := he2b.ext x1
          clear x1
          refine PremT.nil ?_
          exact OpYeT.mk rfl (Ye.mono (Ye.callv cl11 rfl rfl (Add1_same (k := k) (xv := (es.getD (n0 : Int).toNat pcD).2.2.2) (l := l) hB hcb1 he1 (Ow.rd hos1) (hxl.ext e0) hk9 hdl hl0 hle)) fun v w2 h => ⟨⟨(), h.1, trivial⟩, Ext.tn h.2 _⟩)
        · skip
          intro w45 x1
          have x1 : Tn [] w3 w45 := x1
          have xs1 := x1.size
          have x1 := Tn.nil x1
          have e0 := e0.trans x1
          have hcb1 := hcb1.ext x1
          have hcb2 := hcb2.ext x1
          have hos1 := hos1.ext x1
          have hos2 := hos2.ext x1
          have he1 := he1.ext x1
          have he2 := he2.ext x1
          have he1b := he1b.ext x1
          have he2b := he2b.ext x1
          clear x1
          refine PremT.nil ?_
          exact OpYeT.val rfl (Yd.idxE (K := pcS) Try.underlying40 ti31 rfl rfl (Er.ext hse e0) (by first | omega | exact idx_u8' _ | (simp only [Int.toNat_natCast]; omega) | (simp only [List.length_map, List.length_drop, List.length_take, List.length_append, List.length_replicate]; omega) | (simp <;> omega)))
        · skip
          intro w46 x1
          refine PremT.v rfl ?_
          have x1 : Tn [] w3 w46 := x1
          have xs1 := x1.size
          have x1 := Tn.nil x1
          have e0 := e0.trans x1
          have hcb1 := hcb1.ext x1
          have hcb2 := hcb2.ext x1
          have hos1 := hos1.ext x1
          have hos2 := hos2.ext x1
          have he1 := he1.ext x1
          have he2 := he2.ext x1
          have he1b := he1b.ext x1
          have he2b := he2b.ext x1
          clear x1
          refine PremT.nil ?_
          exact OpYeT.val rfl (Yd.cast (Yd.loadEd (K := pcS) pcD ag31 ti31 rfl (Er.ext hse e0) (by first | omega | exact idx_u8' _ | (simp only [Int.toNat_natCast]; omega) | (simp only [List.length_map, List.length_drop, List.length_take, List.length_append, List.length_replicate]; omega) | (simp <;> omega))) (congrArg (fun z : Pc => Value.agg (pcS.c z).toArray) hX))
        · skip
          intro w47 x1
          refine PremT.v rfl ?_
          refine PremT.v rfl ?_
          refine PremT.v rfl ?_
          refine PremT.v rfl ?_
          refine PremT.v rfl ?_
          refine PremT.v rfl ?_
          have x1 : Tn [] w3 w47 := x1
          have xs1 := x1.size
          have x1 := Tn.nil x1
          have e0 := e0.trans x1
          have hcb1 := hcb1.ext x1
          have hcb2 := hcb2.ext x1
          have hos1 := hos1.ext x1
          have hos2 := hos2.ext x1
          have he1 := he1.ext x1
          have he2 := he2.ext x1
          have he1b := he1b.ext x1
          have he2b := he2b.ext x1
          clear x1
          refine PremT.nil ?_
          exact OpYeT.mk rfl (Ye.mono (Ye.call cl16 rfl (Add2_same (k := k) (xv := (es.getD (n0 : Int).toNat pcD).2.2.2) (l := l) hB hcb2 he2 (Ow.rd hos2) (hxl.ext e0) hk9 hdl hl0 hle)) fun v w2 h => ⟨⟨(), h.1, trivial⟩, Ext.tn h.2 _⟩)
        intro w48 x1
        refine PremT.v rfl ?_
        refine PremT.v rfl ?_
        refine PremT.v rfl ?_
        refine PremT.v rfl ?_
        refine PremT.v rfl ?_
        refine PremT.v rfl ?_
        refine PremT.v rfl ?_
        have x1 : Tn [] w3 w48 := x1
        have xs1 := x1.size
        have x1 := Tn.nil x1
        have e0 := e0.trans x1
        have hcb1 := hcb1.ext x1
        have hcb2 := hcb2.ext x1
        have hos1 := hos1.ext x1
        have hos2 := hos2.ext x1
        have he1 := he1.ext x1
        have he2 := he2.ext x1
        have he1b := he1b.ext x1
        have he2b := he2b.ext x1
        clear x1
        refine PremT.nil ?_
        refine J.rg_seq (m := 5) [(13, true), (14, true), (15, true), (17, true)] rfl (by kernel_rfl) ?_
        refine J.s_op rfl (fun _ => Yd.neq rfl rfl) rfl ?_
        refine J.s_op rfl (fun _ => Yd.move rfl) rfl ?_
        refine J.know (t := 82) (v' := .bool false) rfl (ff (by decide)) ?_
        refine J.s_op_g rfl rfl rfl rfl (fun _ => Yd.move rfl) rfl ?_
        refine J.s_op_g rfl rfl rfl rfl (fun _ => Yd.move rfl) rfl ?_
        refine J.s_nil ?_
        have lolAT : LoL w48.heap.size [] := LoL.nil
        refine J.rg_blk (m := 3) [(16, AsrT.own [] 84 w48.heap.size 3 ((missL ll2).map fun x => I x)), (18, AsrT.own [] 86 w48.heap.size 3 ((missL ll2).map fun x => I x))] [16, 18] [84, 86] [[], [0]] [[], []] [] [] rfl rfl rfl rfl ⟨(fun p hp => by cases hp), (fun p hp => by cases hp), trivial⟩ (by kernel_rfl) ?_
        refine J.at_in [0, 1] rfl (by rfl) ⟨?_, ?_, trivial⟩ ?_
        · skip
          intro w49 x1
          have x1 : Tn [] w48 w49 := x1
          have xs1 := x1.size
          have x1 := Tn.nil x1
          have e0 := e0.trans x1
          have hcb1 := hcb1.ext x1
          have hcb2 := hcb2.ext x1
          have hos1 := hos1.ext x1
          have hos2 := hos2.ext x1
          have he1 := he1.ext x1
          have he2 := he2.ext x1
          have he1b := he1b.ext x1
          have he2b := he2b.ext x1
          clear x1
          refine PremT.nil ?_
          exact OpYeT.mkg rfl rfl rfl rfl (Ye.mono (Ye.call cl13 rfl (Miss1_ok hB2 hcb1 he1b (Ow.rd hos1))) fun v w2 h => ⟨⟨v, rfl, own_cl (Ow.base h.1 xs1) LoL.nil⟩, Ext.tn h.2 _⟩)
        · skip
          intro w50 x1
          refine PremT.a rfl fun s84_50 o84_50 => ?_
          have o84_50 := o84_50 _ (Tn.refl _ _)
          have ap_b1_s84_50 : Ap (some b1) s84_50.ownBlock := Ap.mk (Cel.live hcb1) (Ow.fr o84_50)
          have ap_b2_s84_50 : Ap (some b2) s84_50.ownBlock := Ap.mk (Cel.live hcb2) (Ow.fr o84_50)
          have ap_s1_s84_50 : Ap s1.ownBlock s84_50.ownBlock := Ap.mk (Ow.live hos1) (Ow.fr o84_50)
          have ap_t2_s84_50 : Ap t2.ownBlock s84_50.ownBlock := Ap.mk (Ow.live hos2) (Ow.fr o84_50)
          have fr_s84_50 : Fr w.heap.size s84_50.ownBlock := Fr.le (Ow.fr o84_50) e0.size
          replace o84_50 := Ow.base o84_50 e0.size
          have x1 : Tn [] w48 w50 := x1
          have xs1 := x1.size
          have x1 := Tn.nil x1
          have e0 := e0.trans x1
          have hcb1 := hcb1.ext x1
          have hcb2 := hcb2.ext x1
          have hos1 := hos1.ext x1
          have hos2 := hos2.ext x1
          have he1 := he1.ext x1
          have he2 := he2.ext x1
          have he1b := he1b.ext x1
          have he2b := he2b.ext x1
          clear x1
          refine PremT.nil ?_
          exact OpYeT.mkg rfl rfl rfl rfl (Ye.mono (Ye.call cl18 rfl (Miss2_ok hB2 hcb2 he2b (Ow.rd hos2))) fun v w2 h => ⟨⟨v, rfl, own_cl (Ow.base h.1 xs1) LoL.nil⟩, Ext.tn h.2 _⟩)
        intro w51 x1
        refine PremT.a rfl fun s84_51 o84_51 => ?_
        have o84_51 := o84_51 _ (Tn.refl _ _)
        have ap_b1_s84_51 : Ap (some b1) s84_51.ownBlock := Ap.mk (Cel.live hcb1) (Ow.fr o84_51)
        have ap_b2_s84_51 : Ap (some b2) s84_51.ownBlock := Ap.mk (Cel.live hcb2) (Ow.fr o84_51)
        have ap_s1_s84_51 : Ap s1.ownBlock s84_51.ownBlock := Ap.mk (Ow.live hos1) (Ow.fr o84_51)
        have ap_t2_s84_51 : Ap t2.ownBlock s84_51.ownBlock := Ap.mk (Ow.live hos2) (Ow.fr o84_51)
        have fr_s84_51 : Fr w.heap.size s84_51.ownBlock := Fr.le (Ow.fr o84_51) e0.size
        replace o84_51 := Ow.base o84_51 e0.size
        refine PremT.a rfl fun s86_51 o86_51 => ?_
        have o86_51 := o86_51 _ (Tn.refl _ _)
        have ap_b1_s86_51 : Ap (some b1) s86_51.ownBlock := Ap.mk (Cel.live hcb1) (Ow.fr o86_51)
        have ap_b2_s86_51 : Ap (some b2) s86_51.ownBlock := Ap.mk (Cel.live hcb2) (Ow.fr o86_51)
        have ap_s1_s86_51 : Ap s1.ownBlock s86_51.ownBlock := Ap.mk (Ow.live hos1) (Ow.fr o86_51)
        have ap_t2_s86_51 : Ap t2.ownBlock s86_51.ownBlock := Ap.mk (Ow.live hos2) (Ow.fr o86_51)
        have fr_s86_51 : Fr w.heap.size s86_51.ownBlock := Fr.le (Ow.fr o86_51) e0.size
        replace o86_51 := Ow.base o86_51 e0.size
        have x1 : Tn [] w48 w51 := x1
        have xs1 := x1.size
        have x1 := Tn.nil x1
        have e0 := e0.trans x1
        have hcb1 := hcb1.ext x1
        have hcb2 := hcb2.ext x1
        have hos1 := hos1.ext x1
        have hos2 := hos2.ext x1
        have he1 := he1.ext x1
        have he2 := he2.ext x1
        have he1b := he1b.ext x1
        have he2b := he2b.ext x1
        clear x1
        refine PremT.nil ?_
        refine J.rg_seq (m := 0) [(19, false), (20, true), (21, true)] rfl (by kernel_rfl) ?_
        refine J.s_eff_g rfl rfl rfl rfl (Ye.call cl17 rfl (Ints_ok (Ow.rd o84_51) (Ow.rd o86_51))) rfl ?_
        rintro _ w52 ⟨rfl, x1⟩
        have e0 := e0.trans x1
        have hcb1 := hcb1.ext x1
        have hcb2 := hcb2.ext x1
        have hos1 := hos1.ext x1
        have hos2 := hos2.ext x1
        have he1 := he1.ext x1
        have he2 := he2.ext x1
        have he1b := he1b.ext x1
        have he2b := he2b.ext x1
        have o84_51 := o84_51.ext x1
        have o86_51 := o86_51.ext x1
        clear x1
        refine J.s_op_g rfl rfl rfl rfl (fun _ => Yd.not_dec rfl) rfl ?_
        refine J.s_op rfl (fun _ => Yd.pick_f rfl rfl) rfl ?_
        refine J.s_nil ?_
        refine J.rg_nil (by kernel_rfl) ?_
        refine J.n_np ?_
        refine J.n_then ?_
        refine J.know (t := 89) (v' := .bool false) rfl (ff (by exact fun h => h rfl)) ?_
        refine J.cond_false rfl ?_
        refine J.skip ?_
        refine J.n_then ?_
        refine J.seq ?_
        refine J.region ?_
        refine J.op (Yd.move rfl) rfl ?_
        by_cases hml : missL ll2 = []
        · skip
          refine J.eff (Ye.call cl10 rfl (Done_yes hB2 hcb1 he1b (Ow.rd hos1) hml (by omega))) rfl ?_
          rintro _ w53 ⟨v92_53, rfl, ov92_53, x1⟩
          have ap_b1_v92_53 : Ap (some b1) v92_53.ownBlock := Ap.mk (Cel.live hcb1) (Ow.fr ov92_53)
          have ap_b2_v92_53 : Ap (some b2) v92_53.ownBlock := Ap.mk (Cel.live hcb2) (Ow.fr ov92_53)
          have ap_s1_v92_53 : Ap s1.ownBlock v92_53.ownBlock := Ap.mk (Ow.live hos1) (Ow.fr ov92_53)
          have ap_t2_v92_53 : Ap t2.ownBlock v92_53.ownBlock := Ap.mk (Ow.live hos2) (Ow.fr ov92_53)
          have ap_s84_51_v92_53 : Ap s84_51.ownBlock v92_53.ownBlock := Ap.mk (Ow.live o84_51) (Ow.fr ov92_53)
          have ap_s86_51_v92_53 : Ap s86_51.ownBlock v92_53.ownBlock := Ap.mk (Ow.live o86_51) (Ow.fr ov92_53)
          have fr_v92_53 : Fr w.heap.size v92_53.ownBlock := Fr.le (Ow.fr ov92_53) e0.size
          replace ov92_53 := Ow.base ov92_53 e0.size
          have e0 := e0.trans x1
          have hcb1 := hcb1.ext x1
          have hcb2 := hcb2.ext x1
          have hos1 := hos1.ext x1
          have hos2 := hos2.ext x1
          have he1 := he1.ext x1
          have he2 := he2.ext x1
          have he1b := he1b.ext x1
          have he2b := he2b.ext x1
          have o84_51 := o84_51.ext x1
          have o86_51 := o86_51.ext x1
          clear x1
          refine J.op (Yd.move rfl) rfl ?_
          refine J.op (Yd.extract rfl rfl) rfl ?_
          refine J.op (Yd.extract rfl rfl) rfl ?_
          refine J.op (Yd.assign rfl) rfl ?_
          refine J.op (Yd.assign rfl) rfl ?_
          refine J.nil ?_
          refine J.n_then ?_
          refine J.seq ?_
          refine J.regionO [(0, true), (1, true), (2, false), (3, false), (4, true), (5, true), (6, true), (7, true), (8, true), (9, true), (11, true)] [(10, 1), (12, 0), (13, 1)] [(14, true), (15, true), (16, true), (17, true), (18, true), (19, true), (20, true), (21, true), (22, false), (23, true), (24, true), (25, true)] mix (by kernel_rfl) ?_
          refine J.s_op rfl (fun _ => Yd.move rfl) rfl ?_
          refine J.s_op rfl (fun _ => Yd.move rfl) rfl ?_
          refine J.s_eff rfl (Ye.call cl18 rfl (Miss2_ok hB2 hcb2 he2b (Ow.rd hos2))) rfl ?_
          rintro v97_54 w54 ⟨ov97_54, x1⟩
          have ap_b1_v97_54 : Ap (some b1) v97_54.ownBlock := Ap.mk (Cel.live hcb1) (Ow.fr ov97_54)
          have ap_b2_v97_54 : Ap (some b2) v97_54.ownBlock := Ap.mk (Cel.live hcb2) (Ow.fr ov97_54)
          have ap_s1_v97_54 : Ap s1.ownBlock v97_54.ownBlock := Ap.mk (Ow.live hos1) (Ow.fr ov97_54)
          have ap_t2_v97_54 : Ap t2.ownBlock v97_54.ownBlock := Ap.mk (Ow.live hos2) (Ow.fr ov97_54)
          have ap_s84_51_v97_54 : Ap s84_51.ownBlock v97_54.ownBlock := Ap.mk (Ow.live o84_51) (Ow.fr ov97_54)
          have ap_s86_51_v97_54 : Ap s86_51.ownBlock v97_54.ownBlock := Ap.mk (Ow.live o86_51) (Ow.fr ov97_54)
          have ap_v92_53_v97_54 : Ap v92_53.ownBlock v97_54.ownBlock := Ap.mk (Ow.live ov92_53) (Ow.fr ov97_54)
          have fr_v97_54 : Fr w.heap.size v97_54.ownBlock := Fr.le (Ow.fr ov97_54) e0.size
          replace ov97_54 := Ow.base ov97_54 e0.size
          have e0 := e0.trans x1
          have hcb1 := hcb1.ext x1
          have hcb2 := hcb2.ext x1
          have hos1 := hos1.ext x1
          have hos2 := hos2.ext x1
          have he1 := he1.ext x1
          have he2 := he2.ext x1
          have he1b := he1b.ext x1
          have he2b := he2b.ext x1
          have o84_51 := o84_51.ext x1
          have o86_51 := o86_51.ext x1
          have ov92_53 := ov92_53.ext x1
          clear x1
          refine J.s_one rfl (Yd.len_m Try.underlying37 rfl (Ow.rd ov97_54)) rfl ?_
          refine J.s_op rfl (fun _ => Yd.eql rfl rfl) rfl ?_
          refine J.s_op rfl (fun _ => Yd.neqb rfl rfl Try.underlying4) rfl ?_
          refine J.s_op rfl (fun _ => Yd.move rfl) rfl ?_
          refine J.know (t := 101) (v' := .bool false) rfl (ff (by rw [hml]; decide)) ?_
          refine J.s_op_g rfl rfl rfl rfl (fun _ => Yd.move rfl) rfl ?_
          refine J.s_op_g rfl rfl rfl rfl (fun _ => Yd.move rfl) rfl ?_
          refine J.s_op_g rfl rfl rfl rfl (fun _ => Yd.move rfl) rfl ?_
          refine J.s_op_g rfl rfl rfl rfl (fun _ => Yd.move rfl) rfl ?_
          refine J.s_nil ?_
          refine J.o_op_g rfl rfl rfl rfl (Yd.bstr Try.underlying22 Try.underlying5 Try.underlying9 rfl (Ow.rd ov92_53)) rfl ?_
          refine J.o_eff_g rfl rfl rfl rfl (Ye.call cl19 rfl (All_bx hB2 hcb2 he2b (Ow.rd hos2) (by omega))) rfl (fun _ _ ⟨_, h⟩ => h) ?_
          rintro v107_55 w55 ⟨ov107_55, x1⟩
          have ap_b1_v107_55 : Ap (some b1) v107_55.ownBlock := Ap.mk (Cel.live hcb1) (Ow.fr ov107_55)
          have ap_b2_v107_55 : Ap (some b2) v107_55.ownBlock := Ap.mk (Cel.live hcb2) (Ow.fr ov107_55)
          have ap_s1_v107_55 : Ap s1.ownBlock v107_55.ownBlock := Ap.mk (Ow.live hos1) (Ow.fr ov107_55)
          have ap_t2_v107_55 : Ap t2.ownBlock v107_55.ownBlock := Ap.mk (Ow.live hos2) (Ow.fr ov107_55)
          have ap_s84_51_v107_55 : Ap s84_51.ownBlock v107_55.ownBlock := Ap.mk (Ow.live o84_51) (Ow.fr ov107_55)
          have ap_s86_51_v107_55 : Ap s86_51.ownBlock v107_55.ownBlock := Ap.mk (Ow.live o86_51) (Ow.fr ov107_55)
          have ap_v92_53_v107_55 : Ap v92_53.ownBlock v107_55.ownBlock := Ap.mk (Ow.live ov92_53) (Ow.fr ov107_55)
          have ap_v97_54_v107_55 : Ap v97_54.ownBlock v107_55.ownBlock := Ap.mk (Ow.live ov97_54) (Ow.fr ov107_55)
          have fr_v107_55 : Fr w.heap.size v107_55.ownBlock := Fr.le (Ow.fr ov107_55) e0.size
          replace ov107_55 := Ow.base ov107_55 e0.size
          have e0 := e0.trans x1
          have hcb1 := hcb1.ext x1
          have hcb2 := hcb2.ext x1
          have hos1 := hos1.ext x1
          have hos2 := hos2.ext x1
          have he1 := he1.ext x1
          have he2 := he2.ext x1
          have he1b := he1b.ext x1
          have he2b := he2b.ext x1
          have o84_51 := o84_51.ext x1
          have o86_51 := o86_51.ext x1
          have ov92_53 := ov92_53.ext x1
          have ov97_54 := ov97_54.ext x1
          clear x1
          refine J.o_op_g rfl rfl rfl rfl (Yd.bstr Try.underlying22 Try.underlying5 Try.underlying9 rfl (Ow.rd ov107_55)) rfl ?_
          refine J.o_nil ?_
          refine J.s_op_g rfl rfl rfl rfl (fun _ => Yd.sne rfl rfl) rfl ?_
          refine J.s_op_g rfl rfl rfl rfl (fun _ => Yd.pick_t rfl rfl) rfl ?_
          refine J.s_op rfl (fun _ => Yd.pick_f rfl rfl) rfl ?_
          refine J.s_op rfl (fun _ => Yd.move rfl) rfl ?_
          refine J.know (t := 112) (v' := .bool false) rfl (ff (by exact fun h => h rfl)) ?_
          refine J.s_op_g rfl rfl rfl rfl (fun _ => Yd.move rfl) rfl ?_
          refine J.s_op_g rfl rfl rfl rfl (fun _ => Yd.not rfl) rfl ?_
          refine J.s_op_g rfl rfl rfl rfl (fun _ => Yd.move rfl) rfl ?_
          refine J.s_not_g rfl rfl rfl rfl rfl rfl ?_
          refine J.s_skip_g rfl rfl rfl rfl rfl rfl ?_
          refine J.s_not_g rfl rfl rfl rfl rfl rfl ?_
          refine J.s_op_g rfl rfl rfl rfl (fun _ => Yd.pick_f rfl rfl) rfl ?_
          refine J.s_op rfl (fun _ => Yd.pick_f rfl rfl) rfl ?_
          refine J.s_nil ?_
          refine J.n_np ?_
          refine J.n_then ?_
          refine J.cond_false rfl ?_
          refine J.skip ?_
          refine J.n_block ?_
          refine J.n_then ?_
          refine J.region ?_
          refine J.op (Yd.move rfl) rfl ?_
          refine J.op (Yd.add rfl rfl (by first | omega | exact idx_u8' _ | (simp only [Int.toNat_natCast]; omega) | (simp only [List.length_map, List.length_drop, List.length_take, List.length_append, List.length_replicate]; omega) | (simp <;> omega))) rfl ?_
          refine J.op (Yd.assign rfl) rfl ?_
          refine J.nil ?_
          refine J.n_then ?_
          exact J.round ((n0 + 1, ll2, vs1, t2, vs2)) ⟨rfl, rfl, rfl, rfl, rfl, rfl, rfl, rfl, rfl, trivial⟩ (⟨by show n0 + 1 ≤ es.length; omega, hB2, (by show ll2.flatten.length ≤ 2000 * (n0 + 1); omega), he1b, he2b, hcb1, hcb2, hos1, hos2, fr_t2, ap_b1_t2, ap_b2_t2, ap_s1_t2, e0⟩) (by show es.length - (n0 + 1) < es.length - n0; omega)
        · skip
          refine J.eff (Ye.call cl10 rfl (Done_no hB2 hcb1 he1b (Ow.rd hos1) hml)) rfl ?_
          rintro _ w56 ⟨rfl, x1⟩
          have e0 := e0.trans x1
          have hcb1 := hcb1.ext x1
          have hcb2 := hcb2.ext x1
          have hos1 := hos1.ext x1
          have hos2 := hos2.ext x1
          have he1 := he1.ext x1
          have he2 := he2.ext x1
          have he1b := he1b.ext x1
          have he2b := he2b.ext x1
          have o84_51 := o84_51.ext x1
          have o86_51 := o86_51.ext x1
          clear x1
          refine J.op (Yd.move rfl) rfl ?_
          refine J.op (Yd.extract rfl rfl) rfl ?_
          refine J.op (Yd.extract rfl rfl) rfl ?_
          refine J.op (Yd.assign rfl) rfl ?_
          refine J.op (Yd.assign rfl) rfl ?_
          refine J.nil ?_
          refine J.n_then ?_
          refine J.seq ?_
          refine J.regionO [(0, true), (1, true), (2, false), (3, false), (4, true), (5, true), (6, true), (7, true), (8, true), (9, true), (11, true)] [(10, 1), (12, 0), (13, 1)] [(14, true), (15, true), (16, true), (17, true), (18, true), (19, true), (20, true), (21, true), (22, false), (23, true), (24, true), (25, true)] mix (by kernel_rfl) ?_
          refine J.s_op rfl (fun _ => Yd.move rfl) rfl ?_
          refine J.s_op rfl (fun _ => Yd.move rfl) rfl ?_
          refine J.s_eff rfl (Ye.call cl18 rfl (Miss2_ok hB2 hcb2 he2b (Ow.rd hos2))) rfl ?_
          rintro v97_57 w57 ⟨ov97_57, x1⟩
          have ap_b1_v97_57 : Ap (some b1) v97_57.ownBlock := Ap.mk (Cel.live hcb1) (Ow.fr ov97_57)
          have ap_b2_v97_57 : Ap (some b2) v97_57.ownBlock := Ap.mk (Cel.live hcb2) (Ow.fr ov97_57)
          have ap_s1_v97_57 : Ap s1.ownBlock v97_57.ownBlock := Ap.mk (Ow.live hos1) (Ow.fr ov97_57)
          have ap_t2_v97_57 : Ap t2.ownBlock v97_57.ownBlock := Ap.mk (Ow.live hos2) (Ow.fr ov97_57)
          have ap_s84_51_v97_57 : Ap s84_51.ownBlock v97_57.ownBlock := Ap.mk (Ow.live o84_51) (Ow.fr ov97_57)
          have ap_s86_51_v97_57 : Ap s86_51.ownBlock v97_57.ownBlock := Ap.mk (Ow.live o86_51) (Ow.fr ov97_57)
          have fr_v97_57 : Fr w.heap.size v97_57.ownBlock := Fr.le (Ow.fr ov97_57) e0.size
          replace ov97_57 := Ow.base ov97_57 e0.size
          have e0 := e0.trans x1
          have hcb1 := hcb1.ext x1
          have hcb2 := hcb2.ext x1
          have hos1 := hos1.ext x1
          have hos2 := hos2.ext x1
          have he1 := he1.ext x1
          have he2 := he2.ext x1
          have he1b := he1b.ext x1
          have he2b := he2b.ext x1
          have o84_51 := o84_51.ext x1
          have o86_51 := o86_51.ext x1
          clear x1
          refine J.s_one rfl (Yd.len_m Try.underlying37 rfl (Ow.rd ov97_57)) rfl ?_
          refine J.s_op rfl (fun _ => Yd.eql rfl rfl) rfl ?_
          refine J.s_op rfl (fun _ => Yd.neqb rfl rfl Try.underlying4) rfl ?_
          refine J.s_op rfl (fun _ => Yd.move rfl) rfl ?_
          refine J.know (t := 101) (v' := .bool false) rfl (ff (by rw [decide_eq_false (show ¬ ((missL ll2).length : Int) = 0 by have := List.length_pos_iff.2 hml; omega)]; decide)) ?_
          refine J.s_op_g rfl rfl rfl rfl (fun _ => Yd.move rfl) rfl ?_
          refine J.s_op_g rfl rfl rfl rfl (fun _ => Yd.move rfl) rfl ?_
          refine J.s_not_g rfl rfl rfl rfl rfl rfl ?_
          refine J.s_not_g rfl rfl rfl rfl rfl rfl ?_
          refine J.s_nil ?_
          refine J.o_not_g rfl rfl rfl rfl rfl rfl ?_
          refine J.o_skip_g rfl rfl rfl rfl rfl rfl ?_
          refine J.o_not_g rfl rfl rfl rfl rfl rfl ?_
          refine J.o_nil ?_
          refine J.s_not_g rfl rfl rfl rfl rfl rfl ?_
          refine J.s_op_g rfl rfl rfl rfl (fun _ => Yd.pick_f rfl rfl) rfl ?_
          refine J.s_op rfl (fun _ => Yd.pick_f rfl rfl) rfl ?_
          refine J.s_op rfl (fun _ => Yd.move rfl) rfl ?_
          refine J.s_op_g rfl rfl rfl rfl (fun _ => Yd.move rfl) rfl ?_
          refine J.s_op_g rfl rfl rfl rfl (fun _ => Yd.not rfl) rfl ?_
          refine J.s_op_g rfl rfl rfl rfl (fun _ => Yd.move rfl) rfl ?_
          refine J.s_op_g rfl rfl rfl rfl (fun _ => Yd.move rfl) rfl ?_
          refine J.s_one_g rfl rfl rfl rfl (Yd.len_nil Try.underlying22 rfl) rfl ?_
          refine J.s_op_g rfl rfl rfl rfl (fun _ => Yd.neq rfl rfl) rfl ?_
          refine J.s_op_g rfl rfl rfl rfl (fun _ => Yd.pick_t rfl rfl) rfl ?_
          refine J.s_op rfl (fun _ => Yd.pick_f rfl rfl) rfl ?_
          refine J.s_nil ?_
          refine J.n_np ?_
          refine J.n_then ?_
          refine J.know (t := 120) (v' := .bool false) rfl (ff (by decide)) ?_
          refine J.cond_false rfl ?_
          refine J.skip ?_
          refine J.n_block ?_
          refine J.n_then ?_
          refine J.region ?_
          refine J.op (Yd.move rfl) rfl ?_
          refine J.op (Yd.add rfl rfl (by first | omega | exact idx_u8' _ | (simp only [Int.toNat_natCast]; omega) | (simp only [List.length_map, List.length_drop, List.length_take, List.length_append, List.length_replicate]; omega) | (simp <;> omega))) rfl ?_
          refine J.op (Yd.assign rfl) rfl ?_
          refine J.nil ?_
          refine J.n_then ?_
          exact J.round ((n0 + 1, ll2, vs1, t2, vs2)) ⟨rfl, rfl, rfl, rfl, rfl, rfl, rfl, rfl, rfl, trivial⟩ (⟨by show n0 + 1 ≤ es.length; omega, hB2, (by show ll2.flatten.length ≤ 2000 * (n0 + 1); omega), he1b, he2b, hcb1, hcb2, hos1, hos2, fr_t2, ap_b1_t2, ap_b2_t2, ap_s1_t2, e0⟩) (by show es.length - (n0 + 1) < es.length - n0; omega)
    · skip
      refine J.op (Yd.move rfl) rfl ?_
      refine J.op (Yd.move rfl) rfl ?_
      refine J.op (Yd.idxE (K := pcS) Try.underlying40 ti31 rfl rfl (Er.ext hse e0) (by first | omega | exact idx_u8' _ | (simp only [Int.toNat_natCast]; omega) | (simp only [List.length_map, List.length_drop, List.length_take, List.length_append, List.length_replicate]; omega) | (simp <;> omega))) rfl ?_
      refine J.op (Yd.fieldE (K := pcS) (Er.ext hse e0) (by omega) Try.underlying31 rfl ti22 rfl rfl) rfl ?_
      refine J.op (Yd.cast (Yd.loadFd (K := pcS) pcD pl22 rfl (Er.ext hse e0) (by first | omega | exact idx_u8' _ | (simp only [Int.toNat_natCast]; omega) | (simp only [List.length_map, List.length_drop, List.length_take, List.length_append, List.length_replicate]; omega) | (simp <;> omega)) rfl) (show _ = (es.getD (n0 : Int).toNat pcD).2.2.2 from rfl)) rfl ?_
      refine J.op (Yd.len_b Try.underlying22 rfl (Rd.ext hxl e0)) rfl ?_
      refine J.op (Yd.gtr rfl rfl) rfl ?_
      refine J.nil ?_
      refine J.n_then ?_
      refine J.cond_dec rfl (fun hc4 => ?_) (fun hc4 => ?_)
      · skip
        refine J.seq ?_
        refine J.region ?_
        refine J.eff (Ye.call cl8 rfl (Awake_ok)) rfl ?_
        rintro _ w58 ⟨rfl, x1⟩
        have e0 := e0.trans x1
        have hcb1 := hcb1.ext x1
        have hcb2 := hcb2.ext x1
        have hos1 := hos1.ext x1
        have hos2 := hos2.ext x1
        have he1 := he1.ext x1
        have he2 := he2.ext x1
        clear x1
        refine J.op (Yd.assign rfl) rfl ?_
        refine J.nil ?_
        refine J.n_then ?_
        refine J.ret ?_
        refine J.r_then ?_
        refine J.r_block ?_
        refine J.r_then ?_
        refine J.r_then ?_
        refine J.r_block ?_
        refine J.r_then ?_
        exact J.ret1 rfl rfl (⟨_, rfl, rfl, e0⟩)
      · skip
        refine J.skip ?_
        refine J.n_then ?_
        refine J.seq ?_
        refine J.seq ?_
        obtain ⟨ll2, hl2⟩ : ∃ z, z = ll := ⟨_, rfl⟩
        have hB2 := hB
        have hfl2 := hfl
        have he1b := he1
        have he2b := he2
        rw [← hl2] at hB2 hfl2 he1b he2b
        refine J.regionR mix (by kernel_rfl) (n := 22) rfl ?_
        refine J.rg_seq (m := 16) [(0, true), (1, true), (2, true), (7, true), (8, true), (9, true)] rfl (by kernel_rfl) ?_
        refine J.s_op rfl (fun _ => Yd.move rfl) rfl ?_
        refine J.s_op rfl (fun _ => Yd.move rfl) rfl ?_
        refine J.s_op rfl (fun _ => Yd.move rfl) rfl ?_
        refine J.s_op rfl (fun _ => Yd.move rfl) rfl ?_
        refine J.s_op rfl (fun _ => Yd.move rfl) rfl ?_
        refine J.s_op rfl (fun _ => Yd.move rfl) rfl ?_
        refine J.s_nil ?_
        have lolAT : LoL w3.heap.size [] := LoL.nil
        refine J.rg_blk (m := 9) [(3, AsrT.v [] 71 (.pointer (some (adr se ((n0 : Int).toNat * pcS.sz))))), (4, AsrT.v [] 72 (.agg (pcS.c ((id, (k : Int), (ll.length : Int), (es.getD (n0 : Int).toNat pcD).2.2.2) : Pc)).toArray)), (5, AsrT.v [] 73 (.agg (pcS.c ((id, (k : Int), (ll.length : Int), (es.getD (n0 : Int).toNat pcD).2.2.2) : Pc)).toArray)), (6, AsrT.v [] 74 (I 2)), (10, AsrT.v [] 78 (.pointer (some (adr se ((n0 : Int).toNat * pcS.sz))))), (11, AsrT.v [] 79 (.agg (pcS.c ((id, (k : Int), (ll.length : Int), (es.getD (n0 : Int).toNat pcD).2.2.2) : Pc)).toArray)), (12, AsrT.v [] 80 (I 2))] [3, 4, 5, 6, 10, 11, 12] [71, 72, 73, 74, 78, 79, 80] [[], [0], [0, 1], [0, 1, 2], [], [4], [0, 1, 2, 3, 4, 5]] [[], [], [], [], [], [], []] [] [] rfl rfl rfl rfl ⟨(fun p hp => by cases hp), (fun p hp => by cases hp), (fun p hp => by cases hp), (fun p hp => by cases hp), (fun p hp => by cases hp), (fun p hp => by cases hp), (fun p hp => by cases hp), trivial⟩ (by kernel_rfl) ?_
        refine J.at_in [0, 1, 2, 3, 4, 5, 6] rfl (by rfl) ⟨?_, ?_, ?_, ?_, ?_, ?_, ?_, trivial⟩ ?_
        · skip
          intro w59 x1
          have x1 : Tn [] w3 w59 := x1
          have xs1 := x1.size
          have x1 := Tn.nil x1
          have e0 := e0.trans x1
          have hcb1 := hcb1.ext x1
          have hcb2 := hcb2.ext x1
          have hos1 := hos1.ext x1
          have hos2 := hos2.ext x1
          have he1 := he1.ext x1
          have he2 := he2.ext x1
          have he1b := he1b.ext x1
          have he2b := he2b.ext x1
          clear x1
          refine PremT.nil ?_
          exact OpYeT.val rfl (Yd.idxE (K := pcS) Try.underlying40 ti31 rfl rfl (Er.ext hse e0) (by first | omega | exact idx_u8' _ | (simp only [Int.toNat_natCast]; omega) | (simp only [List.length_map, List.length_drop, List.length_take, List.length_append, List.length_replicate]; omega) | (simp <;> omega)))
        · skip
          intro w60 x1
          refine PremT.v rfl ?_
          have x1 : Tn [] w3 w60 := x1
          have xs1 := x1.size
          have x1 := Tn.nil x1
          have e0 := e0.trans x1
          have hcb1 := hcb1.ext x1
          have hcb2 := hcb2.ext x1
          have hos1 := hos1.ext x1
          have hos2 := hos2.ext x1
          have he1 := he1.ext x1
          have he2 := he2.ext x1
          have he1b := he1b.ext x1
          have he2b := he2b.ext x1
          clear x1
          refine PremT.nil ?_
          exact OpYeT.val rfl (Yd.cast (Yd.loadEd (K := pcS) pcD ag31 ti31 rfl (Er.ext hse e0) (by first | omega | exact idx_u8' _ | (simp only [Int.toNat_natCast]; omega) | (simp only [List.length_map, List.length_drop, List.length_take, List.length_append, List.length_replicate]; omega) | (simp <;> omega))) (congrArg (fun z : Pc => Value.agg (pcS.c z).toArray) hX))
        · skip
          intro w61 x1
          refine PremT.v rfl ?_
          refine PremT.v rfl ?_
          have x1 : Tn [] w3 w61 := x1
          have xs1 := x1.size
          have x1 := Tn.nil x1
          have e0 := e0.trans x1
          have hcb1 := hcb1.ext x1
          have hcb2 := hcb2.ext x1
          have hos1 := hos1.ext x1
          have hos2 := hos2.ext x1
          have he1 := he1.ext x1
          have he2 := he2.ext x1
          have he1b := he1b.ext x1
          have he2b := he2b.ext x1
          clear x1
          refine PremT.nil ?_
          exact OpYeT.mk rfl (Ye.mono (Ye.call cl12 rfl (Made_ok (x := ((id, (k : Int), (ll.length : Int), (es.getD (n0 : Int).toNat pcD).2.2.2) : Pc)) (l := l) (hxl.ext e0))) fun v w2 h => ⟨⟨(), h.1, trivial⟩, Ext.tn h.2 _⟩)
        · skip
          intro w62 x1
          refine PremT.v rfl ?_
          refine PremT.v rfl ?_
          refine PremT.v rfl ?_
          have x1 : Tn [] w3 w62 := x1
          have xs1 := x1.size
          have x1 := Tn.nil x1
          have e0 := e0.trans x1
          have hcb1 := hcb1.ext x1
          have hcb2 := hcb2.ext x1
          have hos1 := hos1.ext x1
          have hos2 := hos2.ext x1
          have he1 := he1.ext x1
          have he2 := he2.ext x1
          have he1b := he1b.ext x1
          have he2b := he2b.ext x1
          clear x1
          refine PremT.nil ?_
          exact OpYeT.mk rfl (Ye.mono (Ye.callv cl11 rfl rfl (Add1_other (k := k) (xv := (es.getD (n0 : Int).toNat pcD).2.2.2) (l := l) hB hcb1 he1 (Ow.rd hos1) (hxl.ext e0) hk9 hdl hl0 hle)) fun v w2 h => ⟨⟨(), h.1, trivial⟩, Ext.tn h.2 _⟩)
        · skip
          intro w63 x1
          have x1 : Tn [] w3 w63 := x1
          have xs1 := x1.size
          have x1 := Tn.nil x1
          have e0 := e0.trans x1
          have hcb1 := hcb1.ext x1
          have hcb2 := hcb2.ext x1
          have hos1 := hos1.ext x1
          have hos2 := hos2.ext x1
          have he1 := he1.ext x1
          have he2 := he2.ext x1
          have he1b := he1b.ext x1
          have he2b := he2b.ext x1
          clear x1
          refine PremT.nil ?_
          exact OpYeT.val rfl (Yd.idxE (K := pcS) Try.underlying40 ti31 rfl rfl (Er.ext hse e0) (by first | omega | exact idx_u8' _ | (simp only [Int.toNat_natCast]; omega) | (simp only [List.length_map, List.length_drop, List.length_take, List.length_append, List.length_replicate]; omega) | (simp <;> omega)))
        · skip
          intro w64 x1
          refine PremT.v rfl ?_
          have x1 : Tn [] w3 w64 := x1
          have xs1 := x1.size
          have x1 := Tn.nil x1
          have e0 := e0.trans x1
          have hcb1 := hcb1.ext x1
          have hcb2 := hcb2.ext x1
          have hos1 := hos1.ext x1
          have hos2 := hos2.ext x1
          have he1 := he1.ext x1
          have he2 := he2.ext x1
          have he1b := he1b.ext x1
          have he2b := he2b.ext x1
          clear x1
          refine PremT.nil ?_
          exact OpYeT.val rfl (Yd.cast (Yd.loadEd (K := pcS) pcD ag31 ti31 rfl (Er.ext hse e0) (by first | omega | exact idx_u8' _ | (simp only [Int.toNat_natCast]; omega) | (simp only [List.length_map, List.length_drop, List.length_take, List.length_append, List.length_replicate]; omega) | (simp <;> omega))) (congrArg (fun z : Pc => Value.agg (pcS.c z).toArray) hX))
        · skip
          intro w65 x1
          refine PremT.v rfl ?_
          refine PremT.v rfl ?_
          refine PremT.v rfl ?_
          refine PremT.v rfl ?_
          refine PremT.v rfl ?_
          refine PremT.v rfl ?_
          have x1 : Tn [] w3 w65 := x1
          have xs1 := x1.size
          have x1 := Tn.nil x1
          have e0 := e0.trans x1
          have hcb1 := hcb1.ext x1
          have hcb2 := hcb2.ext x1
          have hos1 := hos1.ext x1
          have hos2 := hos2.ext x1
          have he1 := he1.ext x1
          have he2 := he2.ext x1
          have he1b := he1b.ext x1
          have he2b := he2b.ext x1
          clear x1
          refine PremT.nil ?_
          exact OpYeT.mk rfl (Ye.mono (Ye.call cl16 rfl (Add2_other (k := k) (xv := (es.getD (n0 : Int).toNat pcD).2.2.2) (l := l) hB hcb2 he2 (Ow.rd hos2) (hxl.ext e0) hk9 hdl hl0 hle)) fun v w2 h => ⟨⟨(), h.1, trivial⟩, Ext.tn h.2 _⟩)
        intro w66 x1
        refine PremT.v rfl ?_
        refine PremT.v rfl ?_
        refine PremT.v rfl ?_
        refine PremT.v rfl ?_
        refine PremT.v rfl ?_
        refine PremT.v rfl ?_
        refine PremT.v rfl ?_
        have x1 : Tn [] w3 w66 := x1
        have xs1 := x1.size
        have x1 := Tn.nil x1
        have e0 := e0.trans x1
        have hcb1 := hcb1.ext x1
        have hcb2 := hcb2.ext x1
        have hos1 := hos1.ext x1
        have hos2 := hos2.ext x1
        have he1 := he1.ext x1
        have he2 := he2.ext x1
        have he1b := he1b.ext x1
        have he2b := he2b.ext x1
        clear x1
        refine PremT.nil ?_
        refine J.rg_seq (m := 5) [(13, true), (14, true), (15, true), (17, true)] rfl (by kernel_rfl) ?_
        refine J.s_op rfl (fun _ => Yd.neq rfl rfl) rfl ?_
        refine J.s_op rfl (fun _ => Yd.move rfl) rfl ?_
        refine J.know (t := 82) (v' := .bool false) rfl (ff (by decide)) ?_
        refine J.s_op_g rfl rfl rfl rfl (fun _ => Yd.move rfl) rfl ?_
        refine J.s_op_g rfl rfl rfl rfl (fun _ => Yd.move rfl) rfl ?_
        refine J.s_nil ?_
        have lolAT : LoL w66.heap.size [] := LoL.nil
        refine J.rg_blk (m := 3) [(16, AsrT.own [] 84 w66.heap.size 3 ((missL ll2).map fun x => I x)), (18, AsrT.own [] 86 w66.heap.size 3 ((missL ll2).map fun x => I x))] [16, 18] [84, 86] [[], [0]] [[], []] [] [] rfl rfl rfl rfl ⟨(fun p hp => by cases hp), (fun p hp => by cases hp), trivial⟩ (by kernel_rfl) ?_
        refine J.at_in [0, 1] rfl (by rfl) ⟨?_, ?_, trivial⟩ ?_
        · skip
          intro w67 x1
          have x1 : Tn [] w66 w67 := x1
          have xs1 := x1.size
          have x1 := Tn.nil x1
          have e0 := e0.trans x1
          have hcb1 := hcb1.ext x1
          have hcb2 := hcb2.ext x1
          have hos1 := hos1.ext x1
          have hos2 := hos2.ext x1
          have he1 := he1.ext x1
          have he2 := he2.ext x1
          have he1b := he1b.ext x1
          have he2b := he2b.ext x1
          clear x1
          refine PremT.nil ?_
          exact OpYeT.mkg rfl rfl rfl rfl (Ye.mono (Ye.call cl13 rfl (Miss1_ok hB2 hcb1 he1b (Ow.rd hos1))) fun v w2 h => ⟨⟨v, rfl, own_cl (Ow.base h.1 xs1) LoL.nil⟩, Ext.tn h.2 _⟩)
        · skip
          intro w68 x1
          refine PremT.a rfl fun s84_68 o84_68 => ?_
          have o84_68 := o84_68 _ (Tn.refl _ _)
          have ap_b1_s84_68 : Ap (some b1) s84_68.ownBlock := Ap.mk (Cel.live hcb1) (Ow.fr o84_68)
          have ap_b2_s84_68 : Ap (some b2) s84_68.ownBlock := Ap.mk (Cel.live hcb2) (Ow.fr o84_68)
          have ap_s1_s84_68 : Ap s1.ownBlock s84_68.ownBlock := Ap.mk (Ow.live hos1) (Ow.fr o84_68)
          have ap_t2_s84_68 : Ap t2.ownBlock s84_68.ownBlock := Ap.mk (Ow.live hos2) (Ow.fr o84_68)
          have fr_s84_68 : Fr w.heap.size s84_68.ownBlock := Fr.le (Ow.fr o84_68) e0.size
          replace o84_68 := Ow.base o84_68 e0.size
          have x1 : Tn [] w66 w68 := x1
          have xs1 := x1.size
          have x1 := Tn.nil x1
          have e0 := e0.trans x1
          have hcb1 := hcb1.ext x1
          have hcb2 := hcb2.ext x1
          have hos1 := hos1.ext x1
          have hos2 := hos2.ext x1
          have he1 := he1.ext x1
          have he2 := he2.ext x1
          have he1b := he1b.ext x1
          have he2b := he2b.ext x1
          clear x1
          refine PremT.nil ?_
          exact OpYeT.mkg rfl rfl rfl rfl (Ye.mono (Ye.call cl18 rfl (Miss2_ok hB2 hcb2 he2b (Ow.rd hos2))) fun v w2 h => ⟨⟨v, rfl, own_cl (Ow.base h.1 xs1) LoL.nil⟩, Ext.tn h.2 _⟩)
        intro w69 x1
        refine PremT.a rfl fun s84_69 o84_69 => ?_
        have o84_69 := o84_69 _ (Tn.refl _ _)
        have ap_b1_s84_69 : Ap (some b1) s84_69.ownBlock := Ap.mk (Cel.live hcb1) (Ow.fr o84_69)
        have ap_b2_s84_69 : Ap (some b2) s84_69.ownBlock := Ap.mk (Cel.live hcb2) (Ow.fr o84_69)
        have ap_s1_s84_69 : Ap s1.ownBlock s84_69.ownBlock := Ap.mk (Ow.live hos1) (Ow.fr o84_69)
        have ap_t2_s84_69 : Ap t2.ownBlock s84_69.ownBlock := Ap.mk (Ow.live hos2) (Ow.fr o84_69)
        have fr_s84_69 : Fr w.heap.size s84_69.ownBlock := Fr.le (Ow.fr o84_69) e0.size
        replace o84_69 := Ow.base o84_69 e0.size
        refine PremT.a rfl fun s86_69 o86_69 => ?_
        have o86_69 := o86_69 _ (Tn.refl _ _)
        have ap_b1_s86_69 : Ap (some b1) s86_69.ownBlock := Ap.mk (Cel.live hcb1) (Ow.fr o86_69)
        have ap_b2_s86_69 : Ap (some b2) s86_69.ownBlock := Ap.mk (Cel.live hcb2) (Ow.fr o86_69)
        have ap_s1_s86_69 : Ap s1.ownBlock s86_69.ownBlock := Ap.mk (Ow.live hos1) (Ow.fr o86_69)
        have ap_t2_s86_69 : Ap t2.ownBlock s86_69.ownBlock := Ap.mk (Ow.live hos2) (Ow.fr o86_69)
        have fr_s86_69 : Fr w.heap.size s86_69.ownBlock := Fr.le (Ow.fr o86_69) e0.size
        replace o86_69 := Ow.base o86_69 e0.size
        have x1 : Tn [] w66 w69 := x1
        have xs1 := x1.size
        have x1 := Tn.nil x1
        have e0 := e0.trans x1
        have hcb1 := hcb1.ext x1
        have hcb2 := hcb2.ext x1
        have hos1 := hos1.ext x1
        have hos2 := hos2.ext x1
        have he1 := he1.ext x1
        have he2 := he2.ext x1
        have he1b := he1b.ext x1
        have he2b := he2b.ext x1
        clear x1
        refine PremT.nil ?_
        refine J.rg_seq (m := 0) [(19, false), (20, true), (21, true)] rfl (by kernel_rfl) ?_
        refine J.s_eff_g rfl rfl rfl rfl (Ye.call cl17 rfl (Ints_ok (Ow.rd o84_69) (Ow.rd o86_69))) rfl ?_
        rintro _ w70 ⟨rfl, x1⟩
        have e0 := e0.trans x1
        have hcb1 := hcb1.ext x1
        have hcb2 := hcb2.ext x1
        have hos1 := hos1.ext x1
        have hos2 := hos2.ext x1
        have he1 := he1.ext x1
        have he2 := he2.ext x1
        have he1b := he1b.ext x1
        have he2b := he2b.ext x1
        have o84_69 := o84_69.ext x1
        have o86_69 := o86_69.ext x1
        clear x1
        refine J.s_op_g rfl rfl rfl rfl (fun _ => Yd.not_dec rfl) rfl ?_
        refine J.s_op rfl (fun _ => Yd.pick_f rfl rfl) rfl ?_
        refine J.s_nil ?_
        refine J.rg_nil (by kernel_rfl) ?_
        refine J.n_np ?_
        refine J.n_then ?_
        refine J.know (t := 89) (v' := .bool false) rfl (ff (by exact fun h => h rfl)) ?_
        refine J.cond_false rfl ?_
        refine J.skip ?_
        refine J.n_then ?_
        refine J.seq ?_
        refine J.region ?_
        refine J.op (Yd.move rfl) rfl ?_
        by_cases hml : missL ll2 = []
        · skip
          refine J.eff (Ye.call cl10 rfl (Done_yes hB2 hcb1 he1b (Ow.rd hos1) hml (by omega))) rfl ?_
          rintro _ w71 ⟨v92_71, rfl, ov92_71, x1⟩
          have ap_b1_v92_71 : Ap (some b1) v92_71.ownBlock := Ap.mk (Cel.live hcb1) (Ow.fr ov92_71)
          have ap_b2_v92_71 : Ap (some b2) v92_71.ownBlock := Ap.mk (Cel.live hcb2) (Ow.fr ov92_71)
          have ap_s1_v92_71 : Ap s1.ownBlock v92_71.ownBlock := Ap.mk (Ow.live hos1) (Ow.fr ov92_71)
          have ap_t2_v92_71 : Ap t2.ownBlock v92_71.ownBlock := Ap.mk (Ow.live hos2) (Ow.fr ov92_71)
          have ap_s84_69_v92_71 : Ap s84_69.ownBlock v92_71.ownBlock := Ap.mk (Ow.live o84_69) (Ow.fr ov92_71)
          have ap_s86_69_v92_71 : Ap s86_69.ownBlock v92_71.ownBlock := Ap.mk (Ow.live o86_69) (Ow.fr ov92_71)
          have fr_v92_71 : Fr w.heap.size v92_71.ownBlock := Fr.le (Ow.fr ov92_71) e0.size
          replace ov92_71 := Ow.base ov92_71 e0.size
          have e0 := e0.trans x1
          have hcb1 := hcb1.ext x1
          have hcb2 := hcb2.ext x1
          have hos1 := hos1.ext x1
          have hos2 := hos2.ext x1
          have he1 := he1.ext x1
          have he2 := he2.ext x1
          have he1b := he1b.ext x1
          have he2b := he2b.ext x1
          have o84_69 := o84_69.ext x1
          have o86_69 := o86_69.ext x1
          clear x1
          refine J.op (Yd.move rfl) rfl ?_
          refine J.op (Yd.extract rfl rfl) rfl ?_
          refine J.op (Yd.extract rfl rfl) rfl ?_
          refine J.op (Yd.assign rfl) rfl ?_
          refine J.op (Yd.assign rfl) rfl ?_
          refine J.nil ?_
          refine J.n_then ?_
          refine J.seq ?_
          refine J.regionO [(0, true), (1, true), (2, false), (3, false), (4, true), (5, true), (6, true), (7, true), (8, true), (9, true), (11, true)] [(10, 1), (12, 0), (13, 1)] [(14, true), (15, true), (16, true), (17, true), (18, true), (19, true), (20, true), (21, true), (22, false), (23, true), (24, true), (25, true)] mix (by kernel_rfl) ?_
          refine J.s_op rfl (fun _ => Yd.move rfl) rfl ?_
          refine J.s_op rfl (fun _ => Yd.move rfl) rfl ?_
          refine J.s_eff rfl (Ye.call cl18 rfl (Miss2_ok hB2 hcb2 he2b (Ow.rd hos2))) rfl ?_
          rintro v97_72 w72 ⟨ov97_72, x1⟩
          have ap_b1_v97_72 : Ap (some b1) v97_72.ownBlock := Ap.mk (Cel.live hcb1) (Ow.fr ov97_72)
          have ap_b2_v97_72 : Ap (some b2) v97_72.ownBlock := Ap.mk (Cel.live hcb2) (Ow.fr ov97_72)
          have ap_s1_v97_72 : Ap s1.ownBlock v97_72.ownBlock := Ap.mk (Ow.live hos1) (Ow.fr ov97_72)
          have ap_t2_v97_72 : Ap t2.ownBlock v97_72.ownBlock := Ap.mk (Ow.live hos2) (Ow.fr ov97_72)
          have ap_s84_69_v97_72 : Ap s84_69.ownBlock v97_72.ownBlock := Ap.mk (Ow.live o84_69) (Ow.fr ov97_72)
          have ap_s86_69_v97_72 : Ap s86_69.ownBlock v97_72.ownBlock := Ap.mk (Ow.live o86_69) (Ow.fr ov97_72)
          have ap_v92_71_v97_72 : Ap v92_71.ownBlock v97_72.ownBlock := Ap.mk (Ow.live ov92_71) (Ow.fr ov97_72)
          have fr_v97_72 : Fr w.heap.size v97_72.ownBlock := Fr.le (Ow.fr ov97_72) e0.size
          replace ov97_72 := Ow.base ov97_72 e0.size
          have e0 := e0.trans x1
          have hcb1 := hcb1.ext x1
          have hcb2 := hcb2.ext x1
          have hos1 := hos1.ext x1
          have hos2 := hos2.ext x1
          have he1 := he1.ext x1
          have he2 := he2.ext x1
          have he1b := he1b.ext x1
          have he2b := he2b.ext x1
          have o84_69 := o84_69.ext x1
          have o86_69 := o86_69.ext x1
          have ov92_71 := ov92_71.ext x1
          clear x1
          refine J.s_one rfl (Yd.len_m Try.underlying37 rfl (Ow.rd ov97_72)) rfl ?_
          refine J.s_op rfl (fun _ => Yd.eql rfl rfl) rfl ?_
          refine J.s_op rfl (fun _ => Yd.neqb rfl rfl Try.underlying4) rfl ?_
          refine J.s_op rfl (fun _ => Yd.move rfl) rfl ?_
          refine J.know (t := 101) (v' := .bool false) rfl (ff (by rw [hml]; decide)) ?_
          refine J.s_op_g rfl rfl rfl rfl (fun _ => Yd.move rfl) rfl ?_
          refine J.s_op_g rfl rfl rfl rfl (fun _ => Yd.move rfl) rfl ?_
          refine J.s_op_g rfl rfl rfl rfl (fun _ => Yd.move rfl) rfl ?_
          refine J.s_op_g rfl rfl rfl rfl (fun _ => Yd.move rfl) rfl ?_
          refine J.s_nil ?_
          refine J.o_op_g rfl rfl rfl rfl (Yd.bstr Try.underlying22 Try.underlying5 Try.underlying9 rfl (Ow.rd ov92_71)) rfl ?_
          refine J.o_eff_g rfl rfl rfl rfl (Ye.call cl19 rfl (All_bx hB2 hcb2 he2b (Ow.rd hos2) (by omega))) rfl (fun _ _ ⟨_, h⟩ => h) ?_
          rintro v107_73 w73 ⟨ov107_73, x1⟩
          have ap_b1_v107_73 : Ap (some b1) v107_73.ownBlock := Ap.mk (Cel.live hcb1) (Ow.fr ov107_73)
          have ap_b2_v107_73 : Ap (some b2) v107_73.ownBlock := Ap.mk (Cel.live hcb2) (Ow.fr ov107_73)
          have ap_s1_v107_73 : Ap s1.ownBlock v107_73.ownBlock := Ap.mk (Ow.live hos1) (Ow.fr ov107_73)
          have ap_t2_v107_73 : Ap t2.ownBlock v107_73.ownBlock := Ap.mk (Ow.live hos2) (Ow.fr ov107_73)
          have ap_s84_69_v107_73 : Ap s84_69.ownBlock v107_73.ownBlock := Ap.mk (Ow.live o84_69) (Ow.fr ov107_73)
          have ap_s86_69_v107_73 : Ap s86_69.ownBlock v107_73.ownBlock := Ap.mk (Ow.live o86_69) (Ow.fr ov107_73)
          have ap_v92_71_v107_73 : Ap v92_71.ownBlock v107_73.ownBlock := Ap.mk (Ow.live ov92_71) (Ow.fr ov107_73)
          have ap_v97_72_v107_73 : Ap v97_72.ownBlock v107_73.ownBlock := Ap.mk (Ow.live ov97_72) (Ow.fr ov107_73)
          have fr_v107_73 : Fr w.heap.size v107_73.ownBlock := Fr.le (Ow.fr ov107_73) e0.size
          replace ov107_73 := Ow.base ov107_73 e0.size
          have e0 := e0.trans x1
          have hcb1 := hcb1.ext x1
          have hcb2 := hcb2.ext x1
          have hos1 := hos1.ext x1
          have hos2 := hos2.ext x1
          have he1 := he1.ext x1
          have he2 := he2.ext x1
          have he1b := he1b.ext x1
          have he2b := he2b.ext x1
          have o84_69 := o84_69.ext x1
          have o86_69 := o86_69.ext x1
          have ov92_71 := ov92_71.ext x1
          have ov97_72 := ov97_72.ext x1
          clear x1
          refine J.o_op_g rfl rfl rfl rfl (Yd.bstr Try.underlying22 Try.underlying5 Try.underlying9 rfl (Ow.rd ov107_73)) rfl ?_
          refine J.o_nil ?_
          refine J.s_op_g rfl rfl rfl rfl (fun _ => Yd.sne rfl rfl) rfl ?_
          refine J.s_op_g rfl rfl rfl rfl (fun _ => Yd.pick_t rfl rfl) rfl ?_
          refine J.s_op rfl (fun _ => Yd.pick_f rfl rfl) rfl ?_
          refine J.s_op rfl (fun _ => Yd.move rfl) rfl ?_
          refine J.know (t := 112) (v' := .bool false) rfl (ff (by exact fun h => h rfl)) ?_
          refine J.s_op_g rfl rfl rfl rfl (fun _ => Yd.move rfl) rfl ?_
          refine J.s_op_g rfl rfl rfl rfl (fun _ => Yd.not rfl) rfl ?_
          refine J.s_op_g rfl rfl rfl rfl (fun _ => Yd.move rfl) rfl ?_
          refine J.s_not_g rfl rfl rfl rfl rfl rfl ?_
          refine J.s_skip_g rfl rfl rfl rfl rfl rfl ?_
          refine J.s_not_g rfl rfl rfl rfl rfl rfl ?_
          refine J.s_op_g rfl rfl rfl rfl (fun _ => Yd.pick_f rfl rfl) rfl ?_
          refine J.s_op rfl (fun _ => Yd.pick_f rfl rfl) rfl ?_
          refine J.s_nil ?_
          refine J.n_np ?_
          refine J.n_then ?_
          refine J.cond_false rfl ?_
          refine J.skip ?_
          refine J.n_block ?_
          refine J.n_then ?_
          refine J.region ?_
          refine J.op (Yd.move rfl) rfl ?_
          refine J.op (Yd.add rfl rfl (by first | omega | exact idx_u8' _ | (simp only [Int.toNat_natCast]; omega) | (simp only [List.length_map, List.length_drop, List.length_take, List.length_append, List.length_replicate]; omega) | (simp <;> omega))) rfl ?_
          refine J.op (Yd.assign rfl) rfl ?_
          refine J.nil ?_
          refine J.n_then ?_
          exact J.round ((n0 + 1, ll2, vs1, t2, vs2)) ⟨rfl, rfl, rfl, rfl, rfl, rfl, rfl, rfl, rfl, trivial⟩ (⟨by show n0 + 1 ≤ es.length; omega, hB2, (by show ll2.flatten.length ≤ 2000 * (n0 + 1); omega), he1b, he2b, hcb1, hcb2, hos1, hos2, fr_t2, ap_b1_t2, ap_b2_t2, ap_s1_t2, e0⟩) (by show es.length - (n0 + 1) < es.length - n0; omega)
        · skip
          refine J.eff (Ye.call cl10 rfl (Done_no hB2 hcb1 he1b (Ow.rd hos1) hml)) rfl ?_
          rintro _ w74 ⟨rfl, x1⟩
          have e0 := e0.trans x1
          have hcb1 := hcb1.ext x1
          have hcb2 := hcb2.ext x1
          have hos1 := hos1.ext x1
          have hos2 := hos2.ext x1
          have he1 := he1.ext x1
          have he2 := he2.ext x1
          have he1b := he1b.ext x1
          have he2b := he2b.ext x1
          have o84_69 := o84_69.ext x1
          have o86_69 := o86_69.ext x1
          clear x1
          refine J.op (Yd.move rfl) rfl ?_
          refine J.op (Yd.extract rfl rfl) rfl ?_
          refine J.op (Yd.extract rfl rfl) rfl ?_
          refine J.op (Yd.assign rfl) rfl ?_
          refine J.op (Yd.assign rfl) rfl ?_
          refine J.nil ?_
          refine J.n_then ?_
          refine J.seq ?_
          refine J.regionO [(0, true), (1, true), (2, false), (3, false), (4, true), (5, true), (6, true), (7, true), (8, true), (9, true), (11, true)] [(10, 1), (12, 0), (13, 1)] [(14, true), (15, true), (16, true), (17, true), (18, true), (19, true), (20, true), (21, true), (22, false), (23, true), (24, true), (25, true)] mix (by kernel_rfl) ?_
          refine J.s_op rfl (fun _ => Yd.move rfl) rfl ?_
          refine J.s_op rfl (fun _ => Yd.move rfl) rfl ?_
          refine J.s_eff rfl (Ye.call cl18 rfl (Miss2_ok hB2 hcb2 he2b (Ow.rd hos2))) rfl ?_
          rintro v97_75 w75 ⟨ov97_75, x1⟩
          have ap_b1_v97_75 : Ap (some b1) v97_75.ownBlock := Ap.mk (Cel.live hcb1) (Ow.fr ov97_75)
          have ap_b2_v97_75 : Ap (some b2) v97_75.ownBlock := Ap.mk (Cel.live hcb2) (Ow.fr ov97_75)
          have ap_s1_v97_75 : Ap s1.ownBlock v97_75.ownBlock := Ap.mk (Ow.live hos1) (Ow.fr ov97_75)
          have ap_t2_v97_75 : Ap t2.ownBlock v97_75.ownBlock := Ap.mk (Ow.live hos2) (Ow.fr ov97_75)
          have ap_s84_69_v97_75 : Ap s84_69.ownBlock v97_75.ownBlock := Ap.mk (Ow.live o84_69) (Ow.fr ov97_75)
          have ap_s86_69_v97_75 : Ap s86_69.ownBlock v97_75.ownBlock := Ap.mk (Ow.live o86_69) (Ow.fr ov97_75)
          have fr_v97_75 : Fr w.heap.size v97_75.ownBlock := Fr.le (Ow.fr ov97_75) e0.size
          replace ov97_75 := Ow.base ov97_75 e0.size
          have e0 := e0.trans x1
          have hcb1 := hcb1.ext x1
          have hcb2 := hcb2.ext x1
          have hos1 := hos1.ext x1
          have hos2 := hos2.ext x1
          have he1 := he1.ext x1
          have he2 := he2.ext x1
          have he1b := he1b.ext x1
          have he2b := he2b.ext x1
          have o84_69 := o84_69.ext x1
          have o86_69 := o86_69.ext x1
          clear x1
          refine J.s_one rfl (Yd.len_m Try.underlying37 rfl (Ow.rd ov97_75)) rfl ?_
          refine J.s_op rfl (fun _ => Yd.eql rfl rfl) rfl ?_
          refine J.s_op rfl (fun _ => Yd.neqb rfl rfl Try.underlying4) rfl ?_
          refine J.s_op rfl (fun _ => Yd.move rfl) rfl ?_
          refine J.know (t := 101) (v' := .bool false) rfl (ff (by rw [decide_eq_false (show ¬ ((missL ll2).length : Int) = 0 by have := List.length_pos_iff.2 hml; omega)]; decide)) ?_
          refine J.s_op_g rfl rfl rfl rfl (fun _ => Yd.move rfl) rfl ?_
          refine J.s_op_g rfl rfl rfl rfl (fun _ => Yd.move rfl) rfl ?_
          refine J.s_not_g rfl rfl rfl rfl rfl rfl ?_
          refine J.s_not_g rfl rfl rfl rfl rfl rfl ?_
          refine J.s_nil ?_
          refine J.o_not_g rfl rfl rfl rfl rfl rfl ?_
          refine J.o_skip_g rfl rfl rfl rfl rfl rfl ?_
          refine J.o_not_g rfl rfl rfl rfl rfl rfl ?_
          refine J.o_nil ?_
          refine J.s_not_g rfl rfl rfl rfl rfl rfl ?_
          refine J.s_op_g rfl rfl rfl rfl (fun _ => Yd.pick_f rfl rfl) rfl ?_
          refine J.s_op rfl (fun _ => Yd.pick_f rfl rfl) rfl ?_
          refine J.s_op rfl (fun _ => Yd.move rfl) rfl ?_
          refine J.s_op_g rfl rfl rfl rfl (fun _ => Yd.move rfl) rfl ?_
          refine J.s_op_g rfl rfl rfl rfl (fun _ => Yd.not rfl) rfl ?_
          refine J.s_op_g rfl rfl rfl rfl (fun _ => Yd.move rfl) rfl ?_
          refine J.s_op_g rfl rfl rfl rfl (fun _ => Yd.move rfl) rfl ?_
          refine J.s_one_g rfl rfl rfl rfl (Yd.len_nil Try.underlying22 rfl) rfl ?_
          refine J.s_op_g rfl rfl rfl rfl (fun _ => Yd.neq rfl rfl) rfl ?_
          refine J.s_op_g rfl rfl rfl rfl (fun _ => Yd.pick_t rfl rfl) rfl ?_
          refine J.s_op rfl (fun _ => Yd.pick_f rfl rfl) rfl ?_
          refine J.s_nil ?_
          refine J.n_np ?_
          refine J.n_then ?_
          refine J.know (t := 120) (v' := .bool false) rfl (ff (by decide)) ?_
          refine J.cond_false rfl ?_
          refine J.skip ?_
          refine J.n_block ?_
          refine J.n_then ?_
          refine J.region ?_
          refine J.op (Yd.move rfl) rfl ?_
          refine J.op (Yd.add rfl rfl (by first | omega | exact idx_u8' _ | (simp only [Int.toNat_natCast]; omega) | (simp only [List.length_map, List.length_drop, List.length_take, List.length_append, List.length_replicate]; omega) | (simp <;> omega))) rfl ?_
          refine J.op (Yd.assign rfl) rfl ?_
          refine J.nil ?_
          refine J.n_then ?_
          exact J.round ((n0 + 1, ll2, vs1, t2, vs2)) ⟨rfl, rfl, rfl, rfl, rfl, rfl, rfl, rfl, rfl, trivial⟩ (⟨by show n0 + 1 ≤ es.length; omega, hB2, (by show ll2.flatten.length ≤ 2000 * (n0 + 1); omega), he1b, he2b, hcb1, hcb2, hos1, hos2, fr_t2, ap_b1_t2, ap_b2_t2, ap_s1_t2, e0⟩) (by show es.length - (n0 + 1) < es.length - n0; omega)
  · skip
    refine J.exit ?_
    refine J.x_then ?_
    refine J.x_then ?_
    refine J.x_block ?_
    refine J.n_then ?_
    refine J.seq ?_
    refine J.region ?_
    refine J.eff (Ye.call cl8 rfl (Awake_ok)) rfl ?_
    rintro _ w76 ⟨rfl, x1⟩
    have e0 := e0.trans x1
    have hcb1 := hcb1.ext x1
    have hcb2 := hcb2.ext x1
    have hos1 := hos1.ext x1
    have hos2 := hos2.ext x1
    have he1 := he1.ext x1
    have he2 := he2.ext x1
    clear x1
    refine J.op (Yd.assign rfl) rfl ?_
    refine J.nil ?_
    refine J.n_then ?_
    refine J.ret ?_
    exact J.ret1 rfl rfl (⟨_, rfl, rfl, e0⟩)

theorem Boxes_ok {id n size len : Int} {se : Value} {es : List Pc} {w : World} (hse : Er pcS w se es) (hQ : ∀ u ∈ es, ∃ l : List UInt8, Bs w u.2.2.2 l) : C Try.prog 5 [I id, I n, I size, I len, se] w (Ret fun v w' => v = .bool true ∧ Ext w w') := by
  by_cases hb : es.length ≤ 40
  · by_cases hv : (0 ≤ id ∧ id ≤ 1073741824) ∧ (1 ≤ n ∧ n ≤ 10000) ∧ (1 ≤ size ∧ size ≤ 10000) ∧ (1 ≤ len ∧ len ≤ 10000) ∧ n = (len + size - 1) / size
    · exact BoxesIn hse hQ hb hv
    · exact BoxesNo hse hQ hb hv
  · exact BoxesOut hse hQ (by omega)
end Ytghklimejpmpnaa
end Go.Proofs
