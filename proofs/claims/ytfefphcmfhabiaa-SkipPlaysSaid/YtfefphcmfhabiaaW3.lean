import Derived.Test.YtfefphcmfhabiaaT
import Derived.Test.YtfefphcmfhabiaaW2
set_option linter.unusedVariables false
set_option linter.unusedSimpArgs false
set_option maxRecDepth 100000
set_option maxHeartbeats 4000000
namespace Go.Proofs
open Go.X Go.RowKit
namespace Ytfefphcmfhabiaa
theorem RNum_ok {K : Nat → Prop} {b k : Nat} {q : UInt64} {l : List UInt8} {w : World} (hr : Rdr 92 K w b l) (hl : l.length ≤ 1000000000) (hg : gN 0 l 0 = some (q, k)) : C Try.prog 51 [.pointer (some ⟨b, 0, none⟩)] w (Ret fun u w' => u = W64 q ∧ Rdr 92 K w' b (l.drop k) ∧ Tn [some b] w w') := by
  have e0 := Tn.refl [(some b)] w
  refine C.enter Try.func51 rfl Try.ntmps51 rfl ?_
  refine J.seq ?_
  refine J.region ?_
  refine J.op (Yd.assign rfl) rfl ?_
  refine J.nil ?_
  refine J.n_then ?_
  refine J.seq ?_
  refine J.seq ?_
  refine J.region ?_
  refine J.op (Yd.move rfl) rfl ?_
  refine J.nil ?_
  refine J.n_then ?_
  refine J.block ?_
  refine J.loop (ι := Nat × UInt64) (fun i => [(2, W64 i.2), (5, I (i.1 : Int)), (0, .pointer (some ⟨b, 0, none⟩))]) (fun i w' => i.1 ≤ l.length ∧ i.1 ≤ 10 ∧ gN i.1 (l.drop i.1) i.2 = some (q, k) ∧ Rdr 92 K w' b (l.drop i.1) ∧ Tn [(some b)] w w') (fun i => 10 - i.1) ((0, 0)) ⟨rfl, rfl, rfl, trivial⟩ (⟨Nat.zero_le _, by omega, hg, hr, e0⟩) ?_
  rintro ⟨i, v⟩ w1 ⟨hk, hi, hg, hr, e0⟩
  dsimp only at *
  have hlt := gN_lt hg
  have hi10 := gN_i hg
  refine J.seq ?_
  refine J.region ?_
  refine J.op (Yd.lss rfl rfl) rfl ?_
  refine J.nil ?_
  refine J.n_then ?_
  refine J.seq ?_
  refine J.know (t := 6) (v' := .bool true) rfl (tt (by omega)) ?_
  refine J.cond_true rfl ?_
  refine J.skip ?_
  refine J.n_then ?_
  refine J.seq ?_
  refine J.block ?_
  refine J.seq ?_
  refine J.region ?_
  refine J.op (Yd.move rfl) rfl ?_
  refine J.op (Yd.assign rfl) rfl ?_
  refine J.nil ?_
  refine J.n_then ?_
  refine J.seq ?_
  refine J.region ?_
  refine J.op (Yd.move rfl) rfl ?_
  refine J.eff (Ye.call cl35 rfl (RFixed_ok hr (by first | omega | (simp only [List.length_drop]; omega)) (by simp only [List.length_drop]; omega))) rfl ?_
  rintro v9 w2 ⟨ov9, hr2, x1⟩
  have fr_v9 : Fr w.heap.size v9.ownBlock := Fr.le (Ow.fr ov9) e0.size
  have e0 := Tn.tnk e0 (fun q hq => by simp only [List.mem_singleton] at hq; subst hq; exact .inl (by simp)) x1
  clear x1
  replace ov9 := Ow.base ov9 (Nat.zero_le _)
  replace hr := hr2
  clear hr2
  refine J.op (Yd.idx_b Try.underlying29 ti5 rfl rfl (Ow.rd ov9) (by first | omega | exact idx_u8' _ | (simp only [Int.toNat_natCast]; omega) | (simp only [List.length_map, List.length_drop, List.length_take, List.length_append, List.length_replicate]; omega) | (simp <;> omega))) rfl ?_
  refine J.op (Yd.cast (Yd.load pl5 rfl (Bs.cell (Ow.rd ov9) (by first | omega | exact idx_u8' _ | (simp only [Int.toNat_natCast]; omega) | (simp only [List.length_map, List.length_drop, List.length_take, List.length_append, List.length_replicate]; omega) | (simp <;> omega)))) (congrArg (fun x : UInt8 => B x) (tk1 hlt))) rfl ?_
  refine J.op (Yd.assign rfl) rfl ?_
  refine J.nil ?_
  refine J.n_then ?_
  refine J.seq ?_
  refine J.region ?_
  refine J.op (Yd.move rfl) rfl ?_
  refine J.op (Yd.move rfl) rfl ?_
  refine J.op (Yd.andNot_u8 (n := 128) rfl rfl) rfl ?_
  refine J.op (Yd.cv_8_64 Try.underlying5 Try.underlying68 rfl) rfl ?_
  refine J.op (Yd.move rfl) rfl ?_
  refine J.op (Yd.mul rfl rfl (by first | omega | exact idx_u8' _ | (simp only [Int.toNat_natCast]; omega) | (simp only [List.length_map, List.length_drop, List.length_take, List.length_append, List.length_replicate]; omega) | (simp <;> omega))) rfl ?_
  refine J.op (Yd.shl_u64 rfl rfl (by first | omega | exact idx_u8' _ | (simp only [Int.toNat_natCast]; omega) | (simp only [List.length_map, List.length_drop, List.length_take, List.length_append, List.length_replicate]; omega) | (simp <;> omega))) rfl ?_
  refine J.op (Yd.cast (Yd.or_u64 rfl rfl) (show _ = W64 (gV i (l.getD i 0) v) from rfl)) rfl ?_
  refine J.op (Yd.assign rfl) rfl ?_
  refine J.nil ?_
  refine J.n_then ?_
  refine J.seq ?_
  refine J.block ?_
  refine J.seq ?_
  refine J.region ?_
  refine J.op (Yd.move rfl) rfl ?_
  refine J.op (Yd.geq rfl rfl) rfl ?_
  refine J.op (Yd.assign rfl) rfl ?_
  refine J.nil ?_
  refine J.n_then ?_
  refine J.cond_dec rfl (fun hc1 => ?_) (fun hc1 => ?_)
  · skip
    refine J.exit ?_
    refine J.x_other rfl ?_
    refine J.x_then ?_
    refine J.x_block ?_
    refine J.n_then ?_
    refine J.region ?_
    refine J.op (Yd.add rfl rfl (by first | omega | exact idx_u8' _ | (simp only [Int.toNat_natCast]; omega) | (simp only [List.length_map, List.length_drop, List.length_take, List.length_append, List.length_replicate]; omega) | (simp <;> omega))) rfl ?_
    refine J.op (Yd.move rfl) rfl ?_
    refine J.nil ?_
    refine J.n_then ?_
    exact J.round ((i + 1, gV i (l.getD i 0) v)) ⟨rfl, rfl, rfl, trivial⟩ (⟨by omega, by omega, (by rw [gN_step hlt (by omega), if_pos hc1] at hg; exact hg), (by rw [show (1 : Int).toNat = 1 from rfl, drop_one'] at hr; exact hr), e0⟩) (by show 10 - (i + 1) < 10 - i; omega)
  · skip
    rw [gN_step hlt hi10, if_neg hc1] at hg
    obtain ⟨hgb, hq, hkk⟩ := gN_end hg
    refine J.seq ?_
    refine J.seq ?_
    refine J.region ?_
    refine J.op (Yd.move rfl) rfl ?_
    refine J.op (Yd.eql rfl rfl) rfl ?_
    refine J.op (Yd.move rfl) rfl ?_
    refine J.split_dec (t := 26) rfl (fun h9 => ?_) (fun h9 => ?_)
    · skip
      refine J.op_g rfl rfl rfl (Yd.move rfl) rfl ?_
      refine J.op_g rfl rfl rfl (Yd.gtr rfl rfl) rfl ?_
      refine J.op (Yd.pick_t rfl rfl) rfl ?_
      refine J.op (Yd.assign rfl) rfl ?_
      refine J.nil ?_
      refine J.n_then ?_
      refine J.know (t := 23) (v' := .bool false) rfl (ff (by exact fun h => hgb (.inl ⟨by omega, h⟩))) ?_
      refine J.cond_false rfl ?_
      refine J.region ?_
      refine J.op (Yd.move rfl) rfl ?_
      refine J.op (Yd.gtr rfl rfl) rfl ?_
      refine J.op (Yd.move rfl) rfl ?_
      refine J.split_dec (t := 32) rfl (fun hz => ?_) (fun hz => ?_)
      · skip
        refine J.op_g rfl rfl rfl (Yd.move rfl) rfl ?_
        refine J.op_g rfl rfl rfl (Yd.eql rfl rfl) rfl ?_
        refine J.op (Yd.pick_t rfl rfl) rfl ?_
        refine J.op (Yd.assign rfl) rfl ?_
        refine J.nil ?_
        refine J.n_then ?_
        refine J.know (t := 23) (v' := .bool false) rfl (ff (by exact fun h => hgb (.inr ⟨by omega, h⟩))) ?_
        refine J.cond_false rfl ?_
        refine J.skip ?_
        refine J.n_block ?_
        refine J.n_then ?_
        refine J.seq ?_
        refine J.region ?_
        refine J.op (Yd.move rfl) rfl ?_
        refine J.op (Yd.assign rfl) rfl ?_
        refine J.nil ?_
        refine J.n_then ?_
        refine J.ret ?_
        refine J.r_block ?_
        refine J.r_then ?_
        refine J.r_then ?_
        refine J.r_block ?_
        refine J.r_then ?_
        exact J.ret1 rfl rfl (⟨_, rfl, (by rw [hq]), (by rw [hkk, ← drop_one']; exact hr), e0⟩)
      · skip
        refine J.not_g rfl rfl rfl rfl rfl ?_
        refine J.not_g rfl rfl rfl rfl rfl ?_
        refine J.op (Yd.pick_f rfl rfl) rfl ?_
        refine J.op (Yd.assign rfl) rfl ?_
        refine J.nil ?_
        refine J.n_then ?_
        refine J.cond_false rfl ?_
        refine J.skip ?_
        refine J.n_block ?_
        refine J.n_then ?_
        refine J.seq ?_
        refine J.region ?_
        refine J.op (Yd.move rfl) rfl ?_
        refine J.op (Yd.assign rfl) rfl ?_
        refine J.nil ?_
        refine J.n_then ?_
        refine J.ret ?_
        refine J.r_block ?_
        refine J.r_then ?_
        refine J.r_then ?_
        refine J.r_block ?_
        refine J.r_then ?_
        exact J.ret1 rfl rfl (⟨_, rfl, (by rw [hq]), (by rw [hkk, ← drop_one']; exact hr), e0⟩)
    · skip
      refine J.not_g rfl rfl rfl rfl rfl ?_
      refine J.not_g rfl rfl rfl rfl rfl ?_
      refine J.op (Yd.pick_f rfl rfl) rfl ?_
      refine J.op (Yd.assign rfl) rfl ?_
      refine J.nil ?_
      refine J.n_then ?_
      refine J.cond_false rfl ?_
      refine J.region ?_
      refine J.op (Yd.move rfl) rfl ?_
      refine J.op (Yd.gtr rfl rfl) rfl ?_
      refine J.op (Yd.move rfl) rfl ?_
      refine J.split_dec (t := 32) rfl (fun hz => ?_) (fun hz => ?_)
      · skip
        refine J.op_g rfl rfl rfl (Yd.move rfl) rfl ?_
        refine J.op_g rfl rfl rfl (Yd.eql rfl rfl) rfl ?_
        refine J.op (Yd.pick_t rfl rfl) rfl ?_
        refine J.op (Yd.assign rfl) rfl ?_
        refine J.nil ?_
        refine J.n_then ?_
        refine J.know (t := 23) (v' := .bool false) rfl (ff (by exact fun h => hgb (.inr ⟨by omega, h⟩))) ?_
        refine J.cond_false rfl ?_
        refine J.skip ?_
        refine J.n_block ?_
        refine J.n_then ?_
        refine J.seq ?_
        refine J.region ?_
        refine J.op (Yd.move rfl) rfl ?_
        refine J.op (Yd.assign rfl) rfl ?_
        refine J.nil ?_
        refine J.n_then ?_
        refine J.ret ?_
        refine J.r_block ?_
        refine J.r_then ?_
        refine J.r_then ?_
        refine J.r_block ?_
        refine J.r_then ?_
        exact J.ret1 rfl rfl (⟨_, rfl, (by rw [hq]), (by rw [hkk, ← drop_one']; exact hr), e0⟩)
      · skip
        refine J.not_g rfl rfl rfl rfl rfl ?_
        refine J.not_g rfl rfl rfl rfl rfl ?_
        refine J.op (Yd.pick_f rfl rfl) rfl ?_
        refine J.op (Yd.assign rfl) rfl ?_
        refine J.nil ?_
        refine J.n_then ?_
        refine J.cond_false rfl ?_
        refine J.skip ?_
        refine J.n_block ?_
        refine J.n_then ?_
        refine J.seq ?_
        refine J.region ?_
        refine J.op (Yd.move rfl) rfl ?_
        refine J.op (Yd.assign rfl) rfl ?_
        refine J.nil ?_
        refine J.n_then ?_
        refine J.ret ?_
        refine J.r_block ?_
        refine J.r_then ?_
        refine J.r_then ?_
        refine J.r_block ?_
        refine J.r_then ?_
        exact J.ret1 rfl rfl (⟨_, rfl, (by rw [hq]), (by rw [hkk, ← drop_one']; exact hr), e0⟩)

theorem RNum_bad {K : Nat → Prop} {b : Nat} {l : List UInt8} {w : World} (hr : Rdr 92 K w b l) (hl : l.length ≤ 1000000000) (hg : gN 0 l 0 = none) : C Try.prog 51 [.pointer (some ⟨b, 0, none⟩)] w (Pan fun ch w' => ch = [{ v := .iface 24 (I 2), recovered := false }] ∧ Tn [some b] w w') := by
  have e0 := Tn.refl [(some b)] w
  refine C.enter Try.func51 rfl Try.ntmps51 rfl ?_
  refine J.seq ?_
  refine J.region ?_
  refine J.op (Yd.assign rfl) rfl ?_
  refine J.nil ?_
  refine J.n_then ?_
  refine J.seq ?_
  refine J.seq ?_
  refine J.region ?_
  refine J.op (Yd.move rfl) rfl ?_
  refine J.nil ?_
  refine J.n_then ?_
  refine J.block ?_
  refine J.loop (ι := Nat × UInt64) (fun i => [(2, W64 i.2), (5, I (i.1 : Int)), (0, .pointer (some ⟨b, 0, none⟩))]) (fun i w' => i.1 ≤ l.length ∧ i.1 ≤ 10 ∧ gN i.1 (l.drop i.1) i.2 = none ∧ Rdr 92 K w' b (l.drop i.1) ∧ Tn [(some b)] w w') (fun i => 10 - i.1) ((0, 0)) ⟨rfl, rfl, rfl, trivial⟩ (⟨Nat.zero_le _, by omega, hg, hr, e0⟩) ?_
  rintro ⟨i, v⟩ w1 ⟨hk, hi, hg, hr, e0⟩
  dsimp only at *
  refine J.seq ?_
  refine J.region ?_
  refine J.op (Yd.lss rfl rfl) rfl ?_
  refine J.nil ?_
  refine J.n_then ?_
  refine J.seq ?_
  refine J.cond_dec rfl (fun hc0 => ?_) (fun hc0 => ?_)
  · skip
    refine J.skip ?_
    refine J.n_then ?_
    refine J.seq ?_
    refine J.block ?_
    refine J.seq ?_
    refine J.region ?_
    refine J.op (Yd.move rfl) rfl ?_
    refine J.op (Yd.assign rfl) rfl ?_
    refine J.nil ?_
    refine J.n_then ?_
    refine J.seq ?_
    refine J.region ?_
    refine J.op (Yd.move rfl) rfl ?_
    by_cases hlt : i < l.length
    · skip
      refine J.eff (Ye.call cl35 rfl (RFixed_ok hr (by first | omega | (simp only [List.length_drop]; omega)) (by simp only [List.length_drop]; omega))) rfl ?_
      rintro v9 w2 ⟨ov9, hr2, x1⟩
      have fr_v9 : Fr w.heap.size v9.ownBlock := Fr.le (Ow.fr ov9) e0.size
      have e0 := Tn.tnk e0 (fun q hq => by simp only [List.mem_singleton] at hq; subst hq; exact .inl (by simp)) x1
      clear x1
      replace ov9 := Ow.base ov9 (Nat.zero_le _)
      replace hr := hr2
      clear hr2
      refine J.op (Yd.idx_b Try.underlying29 ti5 rfl rfl (Ow.rd ov9) (by first | omega | exact idx_u8' _ | (simp only [Int.toNat_natCast]; omega) | (simp only [List.length_map, List.length_drop, List.length_take, List.length_append, List.length_replicate]; omega) | (simp <;> omega))) rfl ?_
      refine J.op (Yd.cast (Yd.load pl5 rfl (Bs.cell (Ow.rd ov9) (by first | omega | exact idx_u8' _ | (simp only [Int.toNat_natCast]; omega) | (simp only [List.length_map, List.length_drop, List.length_take, List.length_append, List.length_replicate]; omega) | (simp <;> omega)))) (congrArg (fun x : UInt8 => B x) (tk1 hlt))) rfl ?_
      refine J.op (Yd.assign rfl) rfl ?_
      refine J.nil ?_
      refine J.n_then ?_
      refine J.seq ?_
      refine J.region ?_
      refine J.op (Yd.move rfl) rfl ?_
      refine J.op (Yd.move rfl) rfl ?_
      refine J.op (Yd.andNot_u8 (n := 128) rfl rfl) rfl ?_
      refine J.op (Yd.cv_8_64 Try.underlying5 Try.underlying68 rfl) rfl ?_
      refine J.op (Yd.move rfl) rfl ?_
      refine J.op (Yd.mul rfl rfl (by first | omega | exact idx_u8' _ | (simp only [Int.toNat_natCast]; omega) | (simp only [List.length_map, List.length_drop, List.length_take, List.length_append, List.length_replicate]; omega) | (simp <;> omega))) rfl ?_
      refine J.op (Yd.shl_u64 rfl rfl (by first | omega | exact idx_u8' _ | (simp only [Int.toNat_natCast]; omega) | (simp only [List.length_map, List.length_drop, List.length_take, List.length_append, List.length_replicate]; omega) | (simp <;> omega))) rfl ?_
      refine J.op (Yd.cast (Yd.or_u64 rfl rfl) (show _ = W64 (gV i (l.getD i 0) v) from rfl)) rfl ?_
      refine J.op (Yd.assign rfl) rfl ?_
      refine J.nil ?_
      refine J.n_then ?_
      refine J.seq ?_
      refine J.block ?_
      refine J.seq ?_
      refine J.region ?_
      refine J.op (Yd.move rfl) rfl ?_
      refine J.op (Yd.geq rfl rfl) rfl ?_
      refine J.op (Yd.assign rfl) rfl ?_
      refine J.nil ?_
      refine J.n_then ?_
      refine J.cond_dec rfl (fun hc1 => ?_) (fun hc1 => ?_)
      · skip
        refine J.exit ?_
        refine J.x_other rfl ?_
        refine J.x_then ?_
        refine J.x_block ?_
        refine J.n_then ?_
        refine J.region ?_
        refine J.op (Yd.add rfl rfl (by first | omega | exact idx_u8' _ | (simp only [Int.toNat_natCast]; omega) | (simp only [List.length_map, List.length_drop, List.length_take, List.length_append, List.length_replicate]; omega) | (simp <;> omega))) rfl ?_
        refine J.op (Yd.move rfl) rfl ?_
        refine J.nil ?_
        refine J.n_then ?_
        exact J.round ((i + 1, gV i (l.getD i 0) v)) ⟨rfl, rfl, rfl, trivial⟩ (⟨by omega, by omega, (by rw [gN_step hlt (by omega), if_pos hc1] at hg; exact hg), (by rw [show (1 : Int).toNat = 1 from rfl, drop_one'] at hr; exact hr), e0⟩) (by show 10 - (i + 1) < 10 - i; omega)
      · skip
        rw [gN_step hlt (by omega), if_neg hc1] at hg
        have hgb := gN_endn hg
        refine J.seq ?_
        refine J.seq ?_
        refine J.region ?_
        refine J.op (Yd.move rfl) rfl ?_
        refine J.op (Yd.eql rfl rfl) rfl ?_
        refine J.op (Yd.move rfl) rfl ?_
        refine J.split_dec (t := 26) rfl (fun h9 => ?_) (fun h9 => ?_)
        · skip
          refine J.op_g rfl rfl rfl (Yd.move rfl) rfl ?_
          refine J.op_g rfl rfl rfl (Yd.gtr rfl rfl) rfl ?_
          refine J.op (Yd.pick_t rfl rfl) rfl ?_
          refine J.op (Yd.assign rfl) rfl ?_
          refine J.nil ?_
          refine J.n_then ?_
          refine J.cond_dec rfl (fun hc2 => ?_) (fun hc2 => ?_)
          · skip
            refine J.skip ?_
            refine J.n_then ?_
            refine J.know (t := 23) (v' := .bool true) rfl (tt (by first | exact hc2 | (rcases hgb with ⟨h1, h2⟩ | ⟨h1, h2⟩ <;> omega))) ?_
            refine J.cond_true rfl ?_
            refine J.region ?_
            refine J.op (Yd.mkIface Try.underlying24 rfl rfl) rfl ?_
            refine J.pan (Yp.panic rfl) ?_
            rintro _ _ ⟨rfl, rfl⟩
            refine J.p_block ?_
            refine J.p_then ?_
            refine J.p_block ?_
            refine J.p_then ?_
            refine J.p_then ?_
            refine J.p_block ?_
            refine J.p_then ?_
            exact J.fin_p (⟨_, rfl, rfl, e0⟩)
          · skip
            refine J.region ?_
            refine J.op (Yd.move rfl) rfl ?_
            refine J.op (Yd.gtr rfl rfl) rfl ?_
            refine J.op (Yd.move rfl) rfl ?_
            refine J.split_dec (t := 32) rfl (fun hz => ?_) (fun hz => ?_)
            · skip
              refine J.op_g rfl rfl rfl (Yd.move rfl) rfl ?_
              refine J.op_g rfl rfl rfl (Yd.eql rfl rfl) rfl ?_
              refine J.op (Yd.pick_t rfl rfl) rfl ?_
              refine J.op (Yd.assign rfl) rfl ?_
              refine J.nil ?_
              refine J.n_then ?_
              refine J.know (t := 23) (v' := .bool true) rfl (tt (by first | exact hc2 | (rcases hgb with ⟨h1, h2⟩ | ⟨h1, h2⟩ <;> omega))) ?_
              refine J.cond_true rfl ?_
              refine J.region ?_
              refine J.op (Yd.mkIface Try.underlying24 rfl rfl) rfl ?_
              refine J.pan (Yp.panic rfl) ?_
              rintro _ _ ⟨rfl, rfl⟩
              refine J.p_block ?_
              refine J.p_then ?_
              refine J.p_block ?_
              refine J.p_then ?_
              refine J.p_then ?_
              refine J.p_block ?_
              refine J.p_then ?_
              exact J.fin_p (⟨_, rfl, rfl, e0⟩)
            · skip
              refine J.not_g rfl rfl rfl rfl rfl ?_
              refine J.not_g rfl rfl rfl rfl rfl ?_
              refine J.op (Yd.pick_f rfl rfl) rfl ?_
              refine J.op (Yd.assign rfl) rfl ?_
              refine J.nil ?_
              refine J.n_then ?_
              refine J.cond_false rfl ?_
              refine J.skip ?_
              refine J.n_block ?_
              refine J.n_then ?_
              refine J.seq ?_
              refine J.region ?_
              refine J.op (Yd.move rfl) rfl ?_
              refine J.op (Yd.assign rfl) rfl ?_
              refine J.nil ?_
              refine J.n_then ?_
              refine J.ret ?_
              refine J.r_block ?_
              refine J.r_then ?_
              refine J.r_then ?_
              refine J.r_block ?_
              refine J.r_then ?_
              exact J.ret1 rfl rfl ((by exfalso; rcases hgb with ⟨h1, h2⟩ | ⟨h1, h2⟩ <;> omega))
        · skip
          refine J.not_g rfl rfl rfl rfl rfl ?_
          refine J.not_g rfl rfl rfl rfl rfl ?_
          refine J.op (Yd.pick_f rfl rfl) rfl ?_
          refine J.op (Yd.assign rfl) rfl ?_
          refine J.nil ?_
          refine J.n_then ?_
          refine J.cond_false rfl ?_
          refine J.region ?_
          refine J.op (Yd.move rfl) rfl ?_
          refine J.op (Yd.gtr rfl rfl) rfl ?_
          refine J.op (Yd.move rfl) rfl ?_
          refine J.split_dec (t := 32) rfl (fun hz => ?_) (fun hz => ?_)
          · skip
            refine J.op_g rfl rfl rfl (Yd.move rfl) rfl ?_
            refine J.op_g rfl rfl rfl (Yd.eql rfl rfl) rfl ?_
            refine J.op (Yd.pick_t rfl rfl) rfl ?_
            refine J.op (Yd.assign rfl) rfl ?_
            refine J.nil ?_
            refine J.n_then ?_
            refine J.know (t := 23) (v' := .bool true) rfl (tt (by first | exact hc2 | (rcases hgb with ⟨h1, h2⟩ | ⟨h1, h2⟩ <;> omega))) ?_
            refine J.cond_true rfl ?_
            refine J.region ?_
            refine J.op (Yd.mkIface Try.underlying24 rfl rfl) rfl ?_
            refine J.pan (Yp.panic rfl) ?_
            rintro _ _ ⟨rfl, rfl⟩
            refine J.p_block ?_
            refine J.p_then ?_
            refine J.p_block ?_
            refine J.p_then ?_
            refine J.p_then ?_
            refine J.p_block ?_
            refine J.p_then ?_
            exact J.fin_p (⟨_, rfl, rfl, e0⟩)
          · skip
            refine J.not_g rfl rfl rfl rfl rfl ?_
            refine J.not_g rfl rfl rfl rfl rfl ?_
            refine J.op (Yd.pick_f rfl rfl) rfl ?_
            refine J.op (Yd.assign rfl) rfl ?_
            refine J.nil ?_
            refine J.n_then ?_
            refine J.cond_false rfl ?_
            refine J.skip ?_
            refine J.n_block ?_
            refine J.n_then ?_
            refine J.seq ?_
            refine J.region ?_
            refine J.op (Yd.move rfl) rfl ?_
            refine J.op (Yd.assign rfl) rfl ?_
            refine J.nil ?_
            refine J.n_then ?_
            refine J.ret ?_
            refine J.r_block ?_
            refine J.r_then ?_
            refine J.r_then ?_
            refine J.r_block ?_
            refine J.r_then ?_
            exact J.ret1 rfl rfl ((by exfalso; rcases hgb with ⟨h1, h2⟩ | ⟨h1, h2⟩ <;> omega))
    · skip
      refine J.pan (Yp.call cl35 rfl (RFixed_bad hr (by first | omega | (simp only [List.length_drop]; omega)))) ?_
      rintro _ w3 ⟨rfl, x1⟩
      have e0 := Tn.ext e0 x1
      have hr := hr.ext x1
      clear x1
      refine J.p_then ?_
      refine J.p_block ?_
      refine J.p_then ?_
      refine J.p_then ?_
      refine J.p_block ?_
      refine J.p_then ?_
      exact J.fin_p (⟨_, rfl, rfl, e0⟩)
  · skip
    refine J.exit ?_
    refine J.x_then ?_
    refine J.x_then ?_
    refine J.x_block ?_
    refine J.n_then ?_
    refine J.region ?_
    refine J.op (Yd.mkIface Try.underlying24 rfl rfl) rfl ?_
    refine J.pan (Yp.panic rfl) ?_
    rintro _ _ ⟨rfl, rfl⟩
    exact J.fin_p (⟨_, rfl, rfl, e0⟩)
end Ytfefphcmfhabiaa
end Go.Proofs
