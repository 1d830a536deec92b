import Derived.Test.YtfefphcmfhabiaaT
import Derived.Test.YtfefphcmfhabiaaB3
set_option linter.unusedVariables false
set_option linter.unusedSimpArgs false
set_option maxRecDepth 100000
set_option maxHeartbeats 4000000
namespace Go.Proofs
open Go.X Go.RowKit
namespace Ytfefphcmfhabiaa
theorem GetNum_some {a : Value} {l : List UInt8} {w : World} {q : UInt64} {k : Nat} (ha : Bs w a l) (hl : l.length ≤ 1000000) (hg : gN 0 l 0 = some (q, k)) : C Try.prog 53 [a] w (Ret fun v w' => v = .tuple #[W64 q, I (k : Int)] ∧ Ext w w') := by
  have e0 := Ext.refl w
  refine C.enter Try.func53 rfl Try.ntmps53 rfl ?_
  refine J.seq ?_
  refine J.region ?_
  refine J.op (Yd.assign rfl) rfl ?_
  refine J.op (Yd.assign rfl) rfl ?_
  refine J.nil ?_
  refine J.n_then ?_
  refine J.seq ?_
  refine J.region ?_
  refine J.op (Yd.assign rfl) rfl ?_
  refine J.nil ?_
  refine J.n_then ?_
  refine J.seq ?_
  refine J.seq ?_
  refine J.region ?_
  refine J.op (Yd.assign rfl) rfl ?_
  refine J.nil ?_
  refine J.n_then ?_
  refine J.block ?_
  refine J.loop (ι := Nat × UInt64) (fun i => [(0, a), (4, W64 i.2), (5, I (i.1 : Int))]) (fun i w' => i.1 ≤ l.length ∧ i.1 ≤ 10 ∧ gN i.1 (l.drop i.1) i.2 = some (q, k) ∧ Ext w w') (fun i => 10 - i.1) ((0, 0)) ⟨rfl, rfl, rfl, trivial⟩ (⟨Nat.zero_le _, by omega, hg, e0⟩) ?_
  rintro ⟨i, v⟩ w1 ⟨hk, hi, hg, e0⟩
  dsimp only at *
  have hlt := gN_lt hg
  have hi10 := gN_i hg
  have hn9 := gN_ok9 hg
  refine J.seq ?_
  refine J.seq ?_
  refine J.region ?_
  refine J.op (Yd.move rfl) rfl ?_
  refine J.op (Yd.move rfl) rfl ?_
  refine J.op (Yd.len_b Try.underlying29 rfl (Rd.ext ha e0)) rfl ?_
  refine J.op (Yd.lss rfl rfl) rfl ?_
  refine J.op (Yd.move rfl) rfl ?_
  refine J.know (t := 11) (v' := .bool true) rfl (tt (by omega)) ?_
  refine J.op_g rfl rfl rfl (Yd.move rfl) rfl ?_
  refine J.op_g rfl rfl rfl (Yd.lss rfl rfl) rfl ?_
  refine J.op (Yd.pick_t rfl rfl) rfl ?_
  refine J.nil ?_
  refine J.n_then ?_
  refine J.know (t := 14) (v' := .bool true) rfl (tt (by omega)) ?_
  refine J.cond_true rfl ?_
  refine J.skip ?_
  refine J.n_then ?_
  refine J.seq ?_
  refine J.block ?_
  refine J.seq ?_
  refine J.region ?_
  refine J.op (Yd.move rfl) rfl ?_
  refine J.op (Yd.move rfl) rfl ?_
  refine J.op (Yd.idx_b Try.underlying29 ti5 rfl rfl (Rd.ext ha e0) (by first | omega | exact idx_u8' _ | (simp only [Int.toNat_natCast]; omega) | (simp only [List.length_map, List.length_drop, List.length_take, List.length_append, List.length_replicate]; omega) | (simp <;> omega))) rfl ?_
  refine J.op (Yd.load pl5 rfl (Bs.cell (Rd.ext ha e0) (by first | omega | exact idx_u8' _ | (simp only [Int.toNat_natCast]; omega) | (simp only [List.length_map, List.length_drop, List.length_take, List.length_append, List.length_replicate]; omega) | (simp <;> omega)))) rfl ?_
  refine J.op (Yd.assign rfl) rfl ?_
  refine J.nil ?_
  refine J.n_then ?_
  refine J.seq ?_
  refine J.seq ?_
  refine J.region ?_
  refine J.op (Yd.move rfl) rfl ?_
  refine J.op (Yd.eql rfl rfl) rfl ?_
  refine J.op (Yd.move rfl) rfl ?_
  refine J.split_dec (t := 23) rfl (fun h9 => ?_) (fun h9 => ?_)
  · skip
    refine J.op_g rfl rfl rfl (Yd.move rfl) rfl ?_
    refine J.op_g rfl rfl rfl (Yd.gtr rfl rfl) rfl ?_
    refine J.op (Yd.pick_t rfl rfl) rfl ?_
    refine J.nil ?_
    refine J.n_then ?_
    refine J.know (t := 26) (v' := .bool false) rfl (ff (by exact fun h => hn9 ⟨by omega, h⟩)) ?_
    refine J.cond_false rfl ?_
    refine J.skip ?_
    refine J.n_then ?_
    refine J.seq ?_
    refine J.region ?_
    refine J.op (Yd.move rfl) rfl ?_
    refine J.op (Yd.move rfl) rfl ?_
    refine J.op (Yd.and_u8 (n := 127) rfl rfl) rfl ?_
    refine J.op (Yd.cv_8_64 Try.underlying5 Try.underlying68 rfl) rfl ?_
    refine J.op (Yd.move rfl) rfl ?_
    refine J.op (Yd.mul rfl rfl (by first | omega | exact idx_u8' _ | (simp only [Int.toNat_natCast]; omega) | (simp only [List.length_map, List.length_drop, List.length_take, List.length_append, List.length_replicate]; omega) | (simp <;> omega))) rfl ?_
    refine J.op (Yd.shl_u64 rfl rfl (by first | omega | exact idx_u8' _ | (simp only [Int.toNat_natCast]; omega) | (simp only [List.length_map, List.length_drop, List.length_take, List.length_append, List.length_replicate]; omega) | (simp <;> omega))) rfl ?_
    refine J.op (Yd.cast (Yd.or_u64 rfl rfl) (show _ = W64 (gV i (l.getD i 0) v) from rfl)) rfl ?_
    refine J.op (Yd.assign rfl) rfl ?_
    refine J.nil ?_
    refine J.n_then ?_
    refine J.seq ?_
    refine J.region ?_
    refine J.op (Yd.move rfl) rfl ?_
    refine J.op (Yd.lss rfl rfl) rfl ?_
    refine J.nil ?_
    refine J.n_then ?_
    refine J.cond_dec rfl (fun hc2 => ?_) (fun hc2 => ?_)
    · skip
      rw [gN_step hlt hi10, if_neg (by simp only [Int.toNat_natCast] at hc2; omega)] at hg
      obtain ⟨hgb, hq, hkk⟩ := gN_end hg
      refine J.seq ?_
      refine J.seq ?_
      refine J.region ?_
      refine J.op (Yd.move rfl) rfl ?_
      refine J.op (Yd.eql rfl rfl) rfl ?_
      refine J.op (Yd.move rfl) rfl ?_
      refine J.split_dec (t := 39) rfl (fun hz => ?_) (fun hz => ?_)
      · skip
        refine J.op_g rfl rfl rfl (Yd.move rfl) rfl ?_
        refine J.op_g rfl rfl rfl (Yd.gtr rfl rfl) rfl ?_
        refine J.op (Yd.pick_t rfl rfl) rfl ?_
        refine J.nil ?_
        refine J.n_then ?_
        refine J.know (t := 42) (v' := .bool false) rfl (ff (by exact fun h => hgb (.inr ⟨by omega, hz⟩))) ?_
        refine J.cond_false rfl ?_
        refine J.skip ?_
        refine J.n_then ?_
        refine J.seq ?_
        refine J.region ?_
        refine J.op (Yd.move rfl) rfl ?_
        refine J.op (Yd.move rfl) rfl ?_
        refine J.op (Yd.add rfl rfl (by first | omega | exact idx_u8' _ | (simp only [Int.toNat_natCast]; omega) | (simp only [List.length_map, List.length_drop, List.length_take, List.length_append, List.length_replicate]; omega) | (simp <;> omega))) rfl ?_
        refine J.op (Yd.assign rfl) rfl ?_
        refine J.op (Yd.assign rfl) rfl ?_
        refine J.nil ?_
        refine J.n_then ?_
        refine J.ret ?_
        refine J.r_block ?_
        refine J.r_then ?_
        refine J.r_then ?_
        refine J.r_block ?_
        refine J.r_then ?_
        exact J.ret2 rfl rfl rfl (⟨_, rfl, (by rw [hq, hkk]; rfl), e0⟩)
      · skip
        refine J.not_g rfl rfl rfl rfl rfl ?_
        refine J.not_g rfl rfl rfl rfl rfl ?_
        refine J.op (Yd.pick_f rfl rfl) rfl ?_
        refine J.nil ?_
        refine J.n_then ?_
        refine J.cond_false rfl ?_
        refine J.skip ?_
        refine J.n_then ?_
        refine J.seq ?_
        refine J.region ?_
        refine J.op (Yd.move rfl) rfl ?_
        refine J.op (Yd.move rfl) rfl ?_
        refine J.op (Yd.add rfl rfl (by first | omega | exact idx_u8' _ | (simp only [Int.toNat_natCast]; omega) | (simp only [List.length_map, List.length_drop, List.length_take, List.length_append, List.length_replicate]; omega) | (simp <;> omega))) rfl ?_
        refine J.op (Yd.assign rfl) rfl ?_
        refine J.op (Yd.assign rfl) rfl ?_
        refine J.nil ?_
        refine J.n_then ?_
        refine J.ret ?_
        refine J.r_block ?_
        refine J.r_then ?_
        refine J.r_then ?_
        refine J.r_block ?_
        refine J.r_then ?_
        exact J.ret2 rfl rfl rfl (⟨_, rfl, (by rw [hq, hkk]; rfl), e0⟩)
    · skip
      rw [gN_step hlt hi10, if_pos (by simp only [Int.toNat_natCast] at hc2; omega)] at hg
      refine J.skip ?_
      refine J.n_block ?_
      refine J.n_then ?_
      refine J.region ?_
      refine J.op (Yd.move rfl) rfl ?_
      refine J.op (Yd.add rfl rfl (by first | omega | exact idx_u8' _ | (simp only [Int.toNat_natCast]; omega) | (simp only [List.length_map, List.length_drop, List.length_take, List.length_append, List.length_replicate]; omega) | (simp <;> omega))) rfl ?_
      refine J.op (Yd.assign rfl) rfl ?_
      refine J.nil ?_
      refine J.n_then ?_
      exact J.round ((i + 1, gV i (l.getD i 0) v)) ⟨rfl, rfl, rfl, trivial⟩ (⟨by show i + 1 ≤ l.length; omega, by show i + 1 ≤ 10; omega, hg, e0⟩) (by show 10 - (i + 1) < 10 - i; omega)
  · skip
    refine J.not_g rfl rfl rfl rfl rfl ?_
    refine J.not_g rfl rfl rfl rfl rfl ?_
    refine J.op (Yd.pick_f rfl rfl) rfl ?_
    refine J.nil ?_
    refine J.n_then ?_
    refine J.cond_false rfl ?_
    refine J.skip ?_
    refine J.n_then ?_
    refine J.seq ?_
    refine J.region ?_
    refine J.op (Yd.move rfl) rfl ?_
    refine J.op (Yd.move rfl) rfl ?_
    refine J.op (Yd.and_u8 (n := 127) rfl rfl) rfl ?_
    refine J.op (Yd.cv_8_64 Try.underlying5 Try.underlying68 rfl) rfl ?_
    refine J.op (Yd.move rfl) rfl ?_
    refine J.op (Yd.mul rfl rfl (by first | omega | exact idx_u8' _ | (simp only [Int.toNat_natCast]; omega) | (simp only [List.length_map, List.length_drop, List.length_take, List.length_append, List.length_replicate]; omega) | (simp <;> omega))) rfl ?_
    refine J.op (Yd.shl_u64 rfl rfl (by first | omega | exact idx_u8' _ | (simp only [Int.toNat_natCast]; omega) | (simp only [List.length_map, List.length_drop, List.length_take, List.length_append, List.length_replicate]; omega) | (simp <;> omega))) rfl ?_
    refine J.op (Yd.cast (Yd.or_u64 rfl rfl) (show _ = W64 (gV i (l.getD i 0) v) from rfl)) rfl ?_
    refine J.op (Yd.assign rfl) rfl ?_
    refine J.nil ?_
    refine J.n_then ?_
    refine J.seq ?_
    refine J.region ?_
    refine J.op (Yd.move rfl) rfl ?_
    refine J.op (Yd.lss rfl rfl) rfl ?_
    refine J.nil ?_
    refine J.n_then ?_
    refine J.cond_dec rfl (fun hc2 => ?_) (fun hc2 => ?_)
    · skip
      rw [gN_step hlt hi10, if_neg (by simp only [Int.toNat_natCast] at hc2; omega)] at hg
      obtain ⟨hgb, hq, hkk⟩ := gN_end hg
      refine J.seq ?_
      refine J.seq ?_
      refine J.region ?_
      refine J.op (Yd.move rfl) rfl ?_
      refine J.op (Yd.eql rfl rfl) rfl ?_
      refine J.op (Yd.move rfl) rfl ?_
      refine J.split_dec (t := 39) rfl (fun hz => ?_) (fun hz => ?_)
      · skip
        refine J.op_g rfl rfl rfl (Yd.move rfl) rfl ?_
        refine J.op_g rfl rfl rfl (Yd.gtr rfl rfl) rfl ?_
        refine J.op (Yd.pick_t rfl rfl) rfl ?_
        refine J.nil ?_
        refine J.n_then ?_
        refine J.know (t := 42) (v' := .bool false) rfl (ff (by exact fun h => hgb (.inr ⟨by omega, hz⟩))) ?_
        refine J.cond_false rfl ?_
        refine J.skip ?_
        refine J.n_then ?_
        refine J.seq ?_
        refine J.region ?_
        refine J.op (Yd.move rfl) rfl ?_
        refine J.op (Yd.move rfl) rfl ?_
        refine J.op (Yd.add rfl rfl (by first | omega | exact idx_u8' _ | (simp only [Int.toNat_natCast]; omega) | (simp only [List.length_map, List.length_drop, List.length_take, List.length_append, List.length_replicate]; omega) | (simp <;> omega))) rfl ?_
        refine J.op (Yd.assign rfl) rfl ?_
        refine J.op (Yd.assign rfl) rfl ?_
        refine J.nil ?_
        refine J.n_then ?_
        refine J.ret ?_
        refine J.r_block ?_
        refine J.r_then ?_
        refine J.r_then ?_
        refine J.r_block ?_
        refine J.r_then ?_
        exact J.ret2 rfl rfl rfl (⟨_, rfl, (by rw [hq, hkk]; rfl), e0⟩)
      · skip
        refine J.not_g rfl rfl rfl rfl rfl ?_
        refine J.not_g rfl rfl rfl rfl rfl ?_
        refine J.op (Yd.pick_f rfl rfl) rfl ?_
        refine J.nil ?_
        refine J.n_then ?_
        refine J.cond_false rfl ?_
        refine J.skip ?_
        refine J.n_then ?_
        refine J.seq ?_
        refine J.region ?_
        refine J.op (Yd.move rfl) rfl ?_
        refine J.op (Yd.move rfl) rfl ?_
        refine J.op (Yd.add rfl rfl (by first | omega | exact idx_u8' _ | (simp only [Int.toNat_natCast]; omega) | (simp only [List.length_map, List.length_drop, List.length_take, List.length_append, List.length_replicate]; omega) | (simp <;> omega))) rfl ?_
        refine J.op (Yd.assign rfl) rfl ?_
        refine J.op (Yd.assign rfl) rfl ?_
        refine J.nil ?_
        refine J.n_then ?_
        refine J.ret ?_
        refine J.r_block ?_
        refine J.r_then ?_
        refine J.r_then ?_
        refine J.r_block ?_
        refine J.r_then ?_
        exact J.ret2 rfl rfl rfl (⟨_, rfl, (by rw [hq, hkk]; rfl), e0⟩)
    · skip
      rw [gN_step hlt hi10, if_pos (by simp only [Int.toNat_natCast] at hc2; omega)] at hg
      refine J.skip ?_
      refine J.n_block ?_
      refine J.n_then ?_
      refine J.region ?_
      refine J.op (Yd.move rfl) rfl ?_
      refine J.op (Yd.add rfl rfl (by first | omega | exact idx_u8' _ | (simp only [Int.toNat_natCast]; omega) | (simp only [List.length_map, List.length_drop, List.length_take, List.length_append, List.length_replicate]; omega) | (simp <;> omega))) rfl ?_
      refine J.op (Yd.assign rfl) rfl ?_
      refine J.nil ?_
      refine J.n_then ?_
      exact J.round ((i + 1, gV i (l.getD i 0) v)) ⟨rfl, rfl, rfl, trivial⟩ (⟨by show i + 1 ≤ l.length; omega, by show i + 1 ≤ 10; omega, hg, e0⟩) (by show 10 - (i + 1) < 10 - i; omega)

theorem GetNum_none {a : Value} {l : List UInt8} {w : World} (ha : Bs w a l) (hl : l.length ≤ 1000000) (hg : gN 0 l 0 = none) : C Try.prog 53 [a] w (Ret fun v w' => v = .tuple #[W64 0, I 0] ∧ Ext w w') := by
  have e0 := Ext.refl w
  refine C.enter Try.func53 rfl Try.ntmps53 rfl ?_
  refine J.seq ?_
  refine J.region ?_
  refine J.op (Yd.assign rfl) rfl ?_
  refine J.op (Yd.assign rfl) rfl ?_
  refine J.nil ?_
  refine J.n_then ?_
  refine J.seq ?_
  refine J.region ?_
  refine J.op (Yd.assign rfl) rfl ?_
  refine J.nil ?_
  refine J.n_then ?_
  refine J.seq ?_
  refine J.seq ?_
  refine J.region ?_
  refine J.op (Yd.assign rfl) rfl ?_
  refine J.nil ?_
  refine J.n_then ?_
  refine J.block ?_
  refine J.loop (ι := Nat × UInt64) (fun i => [(0, a), (4, W64 i.2), (5, I (i.1 : Int))]) (fun i w' => i.1 ≤ l.length ∧ i.1 ≤ 10 ∧ gN i.1 (l.drop i.1) i.2 = none ∧ Ext w w') (fun i => 10 - i.1) ((0, 0)) ⟨rfl, rfl, rfl, trivial⟩ (⟨Nat.zero_le _, by omega, hg, e0⟩) ?_
  rintro ⟨i, v⟩ w1 ⟨hk, hi, hg, e0⟩
  dsimp only at *
  refine J.seq ?_
  refine J.seq ?_
  refine J.region ?_
  refine J.op (Yd.move rfl) rfl ?_
  refine J.op (Yd.move rfl) rfl ?_
  refine J.op (Yd.len_b Try.underlying29 rfl (Rd.ext ha e0)) rfl ?_
  refine J.op (Yd.lss rfl rfl) rfl ?_
  refine J.op (Yd.move rfl) rfl ?_
  refine J.split_dec (t := 11) rfl (fun hlt' => ?_) (fun hlt' => ?_)
  · skip
    refine J.op_g rfl rfl rfl (Yd.move rfl) rfl ?_
    refine J.op_g rfl rfl rfl (Yd.lss rfl rfl) rfl ?_
    refine J.op (Yd.pick_t rfl rfl) rfl ?_
    refine J.nil ?_
    refine J.n_then ?_
    refine J.cond_dec rfl (fun hc0 => ?_) (fun hc0 => ?_)
    · skip
      refine J.skip ?_
      refine J.n_then ?_
      refine J.seq ?_
      refine J.block ?_
      refine J.seq ?_
      refine J.region ?_
      refine J.op (Yd.move rfl) rfl ?_
      refine J.op (Yd.move rfl) rfl ?_
      refine J.op (Yd.idx_b Try.underlying29 ti5 rfl rfl (Rd.ext ha e0) (by first | omega | exact idx_u8' _ | (simp only [Int.toNat_natCast]; omega) | (simp only [List.length_map, List.length_drop, List.length_take, List.length_append, List.length_replicate]; omega) | (simp <;> omega))) rfl ?_
      refine J.op (Yd.load pl5 rfl (Bs.cell (Rd.ext ha e0) (by first | omega | exact idx_u8' _ | (simp only [Int.toNat_natCast]; omega) | (simp only [List.length_map, List.length_drop, List.length_take, List.length_append, List.length_replicate]; omega) | (simp <;> omega)))) rfl ?_
      refine J.op (Yd.assign rfl) rfl ?_
      refine J.nil ?_
      refine J.n_then ?_
      refine J.seq ?_
      refine J.seq ?_
      refine J.region ?_
      refine J.op (Yd.move rfl) rfl ?_
      refine J.op (Yd.eql rfl rfl) rfl ?_
      refine J.op (Yd.move rfl) rfl ?_
      refine J.split_dec (t := 23) rfl (fun h9 => ?_) (fun h9 => ?_)
      · skip
        refine J.op_g rfl rfl rfl (Yd.move rfl) rfl ?_
        refine J.op_g rfl rfl rfl (Yd.gtr rfl rfl) rfl ?_
        refine J.op (Yd.pick_t rfl rfl) rfl ?_
        refine J.nil ?_
        refine J.n_then ?_
        refine J.cond_dec rfl (fun hc1 => ?_) (fun hc1 => ?_)
        · skip
          refine J.seq ?_
          refine J.region ?_
          refine J.op (Yd.assign rfl) rfl ?_
          refine J.op (Yd.assign rfl) rfl ?_
          refine J.nil ?_
          refine J.n_then ?_
          refine J.ret ?_
          refine J.r_then ?_
          refine J.r_block ?_
          refine J.r_then ?_
          refine J.r_then ?_
          refine J.r_block ?_
          refine J.r_then ?_
          exact J.ret2 rfl rfl rfl ((by first | exact ⟨_, rfl, rfl, e0⟩ | (exfalso; simp only [Int.toNat_natCast] at *; rcases hgb with ⟨h1, h2⟩ | ⟨h1, h2⟩ <;> omega)))
        · skip
          refine J.skip ?_
          refine J.n_then ?_
          refine J.seq ?_
          refine J.region ?_
          refine J.op (Yd.move rfl) rfl ?_
          refine J.op (Yd.move rfl) rfl ?_
          refine J.op (Yd.and_u8 (n := 127) rfl rfl) rfl ?_
          refine J.op (Yd.cv_8_64 Try.underlying5 Try.underlying68 rfl) rfl ?_
          refine J.op (Yd.move rfl) rfl ?_
          refine J.op (Yd.mul rfl rfl (by first | omega | exact idx_u8' _ | (simp only [Int.toNat_natCast]; omega) | (simp only [List.length_map, List.length_drop, List.length_take, List.length_append, List.length_replicate]; omega) | (simp <;> omega))) rfl ?_
          refine J.op (Yd.shl_u64 rfl rfl (by first | omega | exact idx_u8' _ | (simp only [Int.toNat_natCast]; omega) | (simp only [List.length_map, List.length_drop, List.length_take, List.length_append, List.length_replicate]; omega) | (simp <;> omega))) rfl ?_
          refine J.op (Yd.cast (Yd.or_u64 rfl rfl) (show _ = W64 (gV i (l.getD i 0) v) from rfl)) rfl ?_
          refine J.op (Yd.assign rfl) rfl ?_
          refine J.nil ?_
          refine J.n_then ?_
          refine J.seq ?_
          refine J.region ?_
          refine J.op (Yd.move rfl) rfl ?_
          refine J.op (Yd.lss rfl rfl) rfl ?_
          refine J.nil ?_
          refine J.n_then ?_
          refine J.cond_dec rfl (fun hc2 => ?_) (fun hc2 => ?_)
          · skip
            have hlt : i < l.length := by omega
            have hi10 : i < 10 := by omega
            rw [gN_step hlt hi10, if_neg (by simp only [Int.toNat_natCast] at hc2; omega)] at hg
            have hgb := gN_endn hg
            refine J.seq ?_
            refine J.seq ?_
            refine J.region ?_
            refine J.op (Yd.move rfl) rfl ?_
            refine J.op (Yd.eql rfl rfl) rfl ?_
            refine J.op (Yd.move rfl) rfl ?_
            refine J.split_dec (t := 39) rfl (fun hz => ?_) (fun hz => ?_)
            · skip
              refine J.op_g rfl rfl rfl (Yd.move rfl) rfl ?_
              refine J.op_g rfl rfl rfl (Yd.gtr rfl rfl) rfl ?_
              refine J.op (Yd.pick_t rfl rfl) rfl ?_
              refine J.nil ?_
              refine J.n_then ?_
              refine J.know (t := 42) (v' := .bool true) rfl (tt (by rcases hgb with ⟨h1, h2⟩ | ⟨h1, h2⟩ <;> omega)) ?_
              refine J.cond_true rfl ?_
              refine J.seq ?_
              refine J.region ?_
              refine J.op (Yd.assign rfl) rfl ?_
              refine J.op (Yd.assign rfl) rfl ?_
              refine J.nil ?_
              refine J.n_then ?_
              refine J.ret ?_
              refine J.r_then ?_
              refine J.r_block ?_
              refine J.r_then ?_
              refine J.r_then ?_
              refine J.r_block ?_
              refine J.r_then ?_
              exact J.ret2 rfl rfl rfl ((by first | exact ⟨_, rfl, rfl, e0⟩ | (exfalso; simp only [Int.toNat_natCast] at *; rcases hgb with ⟨h1, h2⟩ | ⟨h1, h2⟩ <;> omega)))
            · skip
              refine J.not_g rfl rfl rfl rfl rfl ?_
              refine J.not_g rfl rfl rfl rfl rfl ?_
              refine J.op (Yd.pick_f rfl rfl) rfl ?_
              refine J.nil ?_
              refine J.n_then ?_
              refine J.cond_false rfl ?_
              refine J.skip ?_
              refine J.n_then ?_
              refine J.seq ?_
              refine J.region ?_
              refine J.op (Yd.move rfl) rfl ?_
              refine J.op (Yd.move rfl) rfl ?_
              refine J.op (Yd.add rfl rfl (by first | omega | exact idx_u8' _ | (simp only [Int.toNat_natCast]; omega) | (simp only [List.length_map, List.length_drop, List.length_take, List.length_append, List.length_replicate]; omega) | (simp <;> omega))) rfl ?_
              refine J.op (Yd.assign rfl) rfl ?_
              refine J.op (Yd.assign rfl) rfl ?_
              refine J.nil ?_
              refine J.n_then ?_
              refine J.ret ?_
              refine J.r_block ?_
              refine J.r_then ?_
              refine J.r_then ?_
              refine J.r_block ?_
              refine J.r_then ?_
              exact J.ret2 rfl rfl rfl ((by first | exact ⟨_, rfl, rfl, e0⟩ | (exfalso; simp only [Int.toNat_natCast] at *; rcases hgb with ⟨h1, h2⟩ | ⟨h1, h2⟩ <;> omega)))
          · skip
            have hlt : i < l.length := by omega
            have hi10 : i < 10 := by omega
            rw [gN_step hlt hi10, if_pos (by simp only [Int.toNat_natCast] at hc2; omega)] at hg
            refine J.skip ?_
            refine J.n_block ?_
            refine J.n_then ?_
            refine J.region ?_
            refine J.op (Yd.move rfl) rfl ?_
            refine J.op (Yd.add rfl rfl (by first | omega | exact idx_u8' _ | (simp only [Int.toNat_natCast]; omega) | (simp only [List.length_map, List.length_drop, List.length_take, List.length_append, List.length_replicate]; omega) | (simp <;> omega))) rfl ?_
            refine J.op (Yd.assign rfl) rfl ?_
            refine J.nil ?_
            refine J.n_then ?_
            exact J.round ((i + 1, gV i (l.getD i 0) v)) ⟨rfl, rfl, rfl, trivial⟩ (⟨by show i + 1 ≤ l.length; omega, by show i + 1 ≤ 10; omega, hg, e0⟩) (by show 10 - (i + 1) < 10 - i; omega)
      · skip
        refine J.not_g rfl rfl rfl rfl rfl ?_
        refine J.not_g rfl rfl rfl rfl rfl ?_
        refine J.op (Yd.pick_f rfl rfl) rfl ?_
        refine J.nil ?_
        refine J.n_then ?_
        refine J.cond_false rfl ?_
        refine J.skip ?_
        refine J.n_then ?_
        refine J.seq ?_
        refine J.region ?_
        refine J.op (Yd.move rfl) rfl ?_
        refine J.op (Yd.move rfl) rfl ?_
        refine J.op (Yd.and_u8 (n := 127) rfl rfl) rfl ?_
        refine J.op (Yd.cv_8_64 Try.underlying5 Try.underlying68 rfl) rfl ?_
        refine J.op (Yd.move rfl) rfl ?_
        refine J.op (Yd.mul rfl rfl (by first | omega | exact idx_u8' _ | (simp only [Int.toNat_natCast]; omega) | (simp only [List.length_map, List.length_drop, List.length_take, List.length_append, List.length_replicate]; omega) | (simp <;> omega))) rfl ?_
        refine J.op (Yd.shl_u64 rfl rfl (by first | omega | exact idx_u8' _ | (simp only [Int.toNat_natCast]; omega) | (simp only [List.length_map, List.length_drop, List.length_take, List.length_append, List.length_replicate]; omega) | (simp <;> omega))) rfl ?_
        refine J.op (Yd.cast (Yd.or_u64 rfl rfl) (show _ = W64 (gV i (l.getD i 0) v) from rfl)) rfl ?_
        refine J.op (Yd.assign rfl) rfl ?_
        refine J.nil ?_
        refine J.n_then ?_
        refine J.seq ?_
        refine J.region ?_
        refine J.op (Yd.move rfl) rfl ?_
        refine J.op (Yd.lss rfl rfl) rfl ?_
        refine J.nil ?_
        refine J.n_then ?_
        refine J.cond_dec rfl (fun hc2 => ?_) (fun hc2 => ?_)
        · skip
          have hlt : i < l.length := by omega
          have hi10 : i < 10 := by omega
          rw [gN_step hlt hi10, if_neg (by simp only [Int.toNat_natCast] at hc2; omega)] at hg
          have hgb := gN_endn hg
          refine J.seq ?_
          refine J.seq ?_
          refine J.region ?_
          refine J.op (Yd.move rfl) rfl ?_
          refine J.op (Yd.eql rfl rfl) rfl ?_
          refine J.op (Yd.move rfl) rfl ?_
          refine J.split_dec (t := 39) rfl (fun hz => ?_) (fun hz => ?_)
          · skip
            refine J.op_g rfl rfl rfl (Yd.move rfl) rfl ?_
            refine J.op_g rfl rfl rfl (Yd.gtr rfl rfl) rfl ?_
            refine J.op (Yd.pick_t rfl rfl) rfl ?_
            refine J.nil ?_
            refine J.n_then ?_
            refine J.know (t := 42) (v' := .bool true) rfl (tt (by rcases hgb with ⟨h1, h2⟩ | ⟨h1, h2⟩ <;> omega)) ?_
            refine J.cond_true rfl ?_
            refine J.seq ?_
            refine J.region ?_
            refine J.op (Yd.assign rfl) rfl ?_
            refine J.op (Yd.assign rfl) rfl ?_
            refine J.nil ?_
            refine J.n_then ?_
            refine J.ret ?_
            refine J.r_then ?_
            refine J.r_block ?_
            refine J.r_then ?_
            refine J.r_then ?_
            refine J.r_block ?_
            refine J.r_then ?_
            exact J.ret2 rfl rfl rfl ((by first | exact ⟨_, rfl, rfl, e0⟩ | (exfalso; simp only [Int.toNat_natCast] at *; rcases hgb with ⟨h1, h2⟩ | ⟨h1, h2⟩ <;> omega)))
          · skip
            refine J.not_g rfl rfl rfl rfl rfl ?_
            refine J.not_g rfl rfl rfl rfl rfl ?_
            refine J.op (Yd.pick_f rfl rfl) rfl ?_
            refine J.nil ?_
            refine J.n_then ?_
            refine J.cond_false rfl ?_
            refine J.skip ?_
            refine J.n_then ?_
            refine J.seq ?_
            refine J.region ?_
            refine J.op (Yd.move rfl) rfl ?_
            refine J.op (Yd.move rfl) rfl ?_
            refine J.op (Yd.add rfl rfl (by first | omega | exact idx_u8' _ | (simp only [Int.toNat_natCast]; omega) | (simp only [List.length_map, List.length_drop, List.length_take, List.length_append, List.length_replicate]; omega) | (simp <;> omega))) rfl ?_
            refine J.op (Yd.assign rfl) rfl ?_
            refine J.op (Yd.assign rfl) rfl ?_
            refine J.nil ?_
            refine J.n_then ?_
            refine J.ret ?_
            refine J.r_block ?_
            refine J.r_then ?_
            refine J.r_then ?_
            refine J.r_block ?_
            refine J.r_then ?_
            exact J.ret2 rfl rfl rfl ((by first | exact ⟨_, rfl, rfl, e0⟩ | (exfalso; simp only [Int.toNat_natCast] at *; rcases hgb with ⟨h1, h2⟩ | ⟨h1, h2⟩ <;> omega)))
        · skip
          have hlt : i < l.length := by omega
          have hi10 : i < 10 := by omega
          rw [gN_step hlt hi10, if_pos (by simp only [Int.toNat_natCast] at hc2; omega)] at hg
          refine J.skip ?_
          refine J.n_block ?_
          refine J.n_then ?_
          refine J.region ?_
          refine J.op (Yd.move rfl) rfl ?_
          refine J.op (Yd.add rfl rfl (by first | omega | exact idx_u8' _ | (simp only [Int.toNat_natCast]; omega) | (simp only [List.length_map, List.length_drop, List.length_take, List.length_append, List.length_replicate]; omega) | (simp <;> omega))) rfl ?_
          refine J.op (Yd.assign rfl) rfl ?_
          refine J.nil ?_
          refine J.n_then ?_
          exact J.round ((i + 1, gV i (l.getD i 0) v)) ⟨rfl, rfl, rfl, trivial⟩ (⟨by show i + 1 ≤ l.length; omega, by show i + 1 ≤ 10; omega, hg, e0⟩) (by show 10 - (i + 1) < 10 - i; omega)
    · skip
      refine J.exit ?_
      refine J.x_then ?_
      refine J.x_then ?_
      refine J.x_block ?_
      refine J.n_then ?_
      refine J.seq ?_
      refine J.region ?_
      refine J.op (Yd.assign rfl) rfl ?_
      refine J.op (Yd.assign rfl) rfl ?_
      refine J.nil ?_
      refine J.n_then ?_
      refine J.ret ?_
      exact J.ret2 rfl rfl rfl ((by first | exact ⟨_, rfl, rfl, e0⟩ | (exfalso; simp only [Int.toNat_natCast] at *; rcases hgb with ⟨h1, h2⟩ | ⟨h1, h2⟩ <;> omega)))
  · skip
    refine J.not_g rfl rfl rfl rfl rfl ?_
    refine J.not_g rfl rfl rfl rfl rfl ?_
    refine J.op (Yd.pick_f rfl rfl) rfl ?_
    refine J.nil ?_
    refine J.n_then ?_
    refine J.cond_false rfl ?_
    refine J.exit ?_
    refine J.x_then ?_
    refine J.x_then ?_
    refine J.x_block ?_
    refine J.n_then ?_
    refine J.seq ?_
    refine J.region ?_
    refine J.op (Yd.assign rfl) rfl ?_
    refine J.op (Yd.assign rfl) rfl ?_
    refine J.nil ?_
    refine J.n_then ?_
    refine J.ret ?_
    exact J.ret2 rfl rfl rfl ((by first | exact ⟨_, rfl, rfl, e0⟩ | (exfalso; simp only [Int.toNat_natCast] at *; rcases hgb with ⟨h1, h2⟩ | ⟨h1, h2⟩ <;> omega)))

theorem RNum_yes {a : Value} {l : List UInt8} {w : World} {t : UInt64} {q : UInt64} {k : Nat} (ha : Bs w a l) (hl : l.length ≤ 1000000) (hg : gN 0 l 0 = some (q, k)) (hq : q.toNat ≤ t.toNat) (ht : t.toNat ≤ 1099511627776) : C Try.prog 37 [a, W64 t] w (Ret fun u w' => ∃ v, u = .tuple #[I (q.toNat : Int), v, .bool true] ∧ (∀ W, Bs W a l → Bs W v (l.drop k)) ∧ Ext w w') := by
  have hgk := gN_le _ _ _ _ _ hg
  have e0 := Ext.refl w
  refine C.enter Try.func37 rfl Try.ntmps37 rfl ?_
  refine J.seq ?_
  refine J.region ?_
  refine J.op (Yd.assign rfl) rfl ?_
  refine J.op (Yd.assign rfl) rfl ?_
  refine J.op (Yd.assign rfl) rfl ?_
  refine J.nil ?_
  refine J.n_then ?_
  refine J.seq ?_
  refine J.region ?_
  refine J.op (Yd.move rfl) rfl ?_
  refine J.eff (Ye.call cl53 rfl (GetNum_some (ha.ext e0) hl hg)) rfl ?_
  rintro _ w1 ⟨rfl, x1⟩
  have e0 := e0.trans x1
  clear x1
  refine J.op (Yd.move rfl) rfl ?_
  refine J.op (Yd.extract rfl rfl) rfl ?_
  refine J.op (Yd.extract rfl rfl) rfl ?_
  refine J.op (Yd.assign rfl) rfl ?_
  refine J.op (Yd.assign rfl) rfl ?_
  refine J.nil ?_
  refine J.n_then ?_
  refine J.seq ?_
  refine J.seq ?_
  refine J.region ?_
  refine J.op (Yd.move rfl) rfl ?_
  refine J.op (Yd.eql rfl rfl) rfl ?_
  refine J.op (Yd.move rfl) rfl ?_
  refine J.know (t := 16) (v' := .bool false) rfl (ff (by omega)) ?_
  refine J.op_g rfl rfl rfl (Yd.move rfl) rfl ?_
  refine J.op_g rfl rfl rfl (Yd.move rfl) rfl ?_
  refine J.op_g rfl rfl rfl (Yd.gtr rfl rfl) rfl ?_
  refine J.op (Yd.pick_f rfl rfl) rfl ?_
  refine J.nil ?_
  refine J.n_then ?_
  refine J.know (t := 20) (v' := .bool false) rfl (ff (by omega)) ?_
  refine J.cond_false rfl ?_
  refine J.skip ?_
  refine J.n_then ?_
  refine J.seq ?_
  refine J.regionO [(0, true), (1, true), (2, true), (3, true), (5, true), (4, false), (6, true), (7, true)] [] [] mix (by kernel_rfl) ?_
  refine J.s_op rfl (fun _ => Yd.move rfl) rfl ?_
  refine J.s_op rfl (fun _ => Yd.cv_64_i Try.underlying68 Try.underlying3 rfl (by first | omega | exact idx_u8' _ | (simp only [Int.toNat_natCast]; omega) | (simp only [List.length_map, List.length_drop, List.length_take, List.length_append, List.length_replicate]; omega) | (simp <;> omega))) rfl ?_
  refine J.s_op rfl (fun _ => Yd.move rfl) rfl ?_
  refine J.s_op rfl (fun _ => Yd.move rfl) rfl ?_
  refine J.s_op rfl (fun _ => Yd.assign rfl) rfl ?_
  refine J.s_one rfl (Yd.slcL Try.underlying29 ti5 rfl (Rd.ext ha e0) rfl (by first | omega | exact idx_u8' _ | (simp only [Int.toNat_natCast]; omega) | (simp only [List.length_map, List.length_drop, List.length_take, List.length_append, List.length_replicate]; omega) | (simp <;> omega))) rfl ?_
  refine J.s_op rfl (fun _ => Yd.assign rfl) rfl ?_
  refine J.s_op rfl (fun _ => Yd.assign rfl) rfl ?_
  refine J.s_nil ?_
  refine J.o_nil ?_
  refine J.s_nil ?_
  refine J.n_np ?_
  refine J.n_then ?_
  refine J.ret ?_
  exact J.ret3 rfl rfl rfl rfl (⟨_, rfl, _, rfl, (fun W h => by rw [Int.toNat_natCast, List.length_map]; have h9 := Bs.slc h (l := k) (k := l.length) (by omega) (Nat.le_refl _); rw [List.take_length] at h9; exact h9), e0⟩)

theorem RNum_big {a : Value} {l : List UInt8} {w : World} {t : UInt64} {q : UInt64} {k : Nat} (ha : Bs w a l) (hl : l.length ≤ 1000000) (hg : gN 0 l 0 = some (q, k)) (hq : ¬ q.toNat ≤ t.toNat) : C Try.prog 37 [a, W64 t] w (Ret fun u w' => ∃ v, u = .tuple #[I 0, v, .bool false] ∧ (∀ W, Bs W a l → Bs W v []) ∧ Ext w w') := by
  have hgk := gN_le _ _ _ _ _ hg
  have e0 := Ext.refl w
  refine C.enter Try.func37 rfl Try.ntmps37 rfl ?_
  refine J.seq ?_
  refine J.region ?_
  refine J.op (Yd.assign rfl) rfl ?_
  refine J.op (Yd.assign rfl) rfl ?_
  refine J.op (Yd.assign rfl) rfl ?_
  refine J.nil ?_
  refine J.n_then ?_
  refine J.seq ?_
  refine J.region ?_
  refine J.op (Yd.move rfl) rfl ?_
  refine J.eff (Ye.call cl53 rfl (GetNum_some (ha.ext e0) hl hg)) rfl ?_
  rintro _ w1 ⟨rfl, x1⟩
  have e0 := e0.trans x1
  clear x1
  refine J.op (Yd.move rfl) rfl ?_
  refine J.op (Yd.extract rfl rfl) rfl ?_
  refine J.op (Yd.extract rfl rfl) rfl ?_
  refine J.op (Yd.assign rfl) rfl ?_
  refine J.op (Yd.assign rfl) rfl ?_
  refine J.nil ?_
  refine J.n_then ?_
  refine J.seq ?_
  refine J.seq ?_
  refine J.region ?_
  refine J.op (Yd.move rfl) rfl ?_
  refine J.op (Yd.eql rfl rfl) rfl ?_
  refine J.op (Yd.move rfl) rfl ?_
  refine J.know (t := 16) (v' := .bool false) rfl (ff (by omega)) ?_
  refine J.op_g rfl rfl rfl (Yd.move rfl) rfl ?_
  refine J.op_g rfl rfl rfl (Yd.move rfl) rfl ?_
  refine J.op_g rfl rfl rfl (Yd.gtr rfl rfl) rfl ?_
  refine J.op (Yd.pick_f rfl rfl) rfl ?_
  refine J.nil ?_
  refine J.n_then ?_
  refine J.know (t := 20) (v' := .bool true) rfl (tt (by omega)) ?_
  refine J.cond_true rfl ?_
  refine J.seq ?_
  refine J.region ?_
  refine J.op (Yd.assign rfl) rfl ?_
  refine J.op (Yd.assign rfl) rfl ?_
  refine J.op (Yd.assign rfl) rfl ?_
  refine J.nil ?_
  refine J.n_then ?_
  refine J.ret ?_
  refine J.r_then ?_
  exact J.ret3 rfl rfl rfl rfl (⟨_, rfl, nilS, rfl, (fun W _ => Rd.nilM _ _), e0⟩)

theorem RNum_none {a : Value} {l : List UInt8} {w : World} {t : UInt64} (ha : Bs w a l) (hl : l.length ≤ 1000000) (hg : gN 0 l 0 = none) : C Try.prog 37 [a, W64 t] w (Ret fun u w' => ∃ v, u = .tuple #[I 0, v, .bool false] ∧ (∀ W, Bs W a l → Bs W v []) ∧ Ext w w') := by
  have e0 := Ext.refl w
  refine C.enter Try.func37 rfl Try.ntmps37 rfl ?_
  refine J.seq ?_
  refine J.region ?_
  refine J.op (Yd.assign rfl) rfl ?_
  refine J.op (Yd.assign rfl) rfl ?_
  refine J.op (Yd.assign rfl) rfl ?_
  refine J.nil ?_
  refine J.n_then ?_
  refine J.seq ?_
  refine J.region ?_
  refine J.op (Yd.move rfl) rfl ?_
  refine J.eff (Ye.call cl53 rfl (GetNum_none (ha.ext e0) hl hg)) rfl ?_
  rintro _ w1 ⟨rfl, x1⟩
  have e0 := e0.trans x1
  clear x1
  refine J.op (Yd.move rfl) rfl ?_
  refine J.op (Yd.extract rfl rfl) rfl ?_
  refine J.op (Yd.extract rfl rfl) rfl ?_
  refine J.op (Yd.assign rfl) rfl ?_
  refine J.op (Yd.assign rfl) rfl ?_
  refine J.nil ?_
  refine J.n_then ?_
  refine J.seq ?_
  refine J.seq ?_
  refine J.region ?_
  refine J.op (Yd.move rfl) rfl ?_
  refine J.op (Yd.eql rfl rfl) rfl ?_
  refine J.op (Yd.move rfl) rfl ?_
  refine J.know (t := 16) (v' := .bool true) rfl (tt (by decide)) ?_
  refine J.not_g rfl rfl rfl rfl rfl ?_
  refine J.not_g rfl rfl rfl rfl rfl ?_
  refine J.not_g rfl rfl rfl rfl rfl ?_
  refine J.op (Yd.pick_t rfl rfl) rfl ?_
  refine J.nil ?_
  refine J.n_then ?_
  refine J.cond_true rfl ?_
  refine J.seq ?_
  refine J.region ?_
  refine J.op (Yd.assign rfl) rfl ?_
  refine J.op (Yd.assign rfl) rfl ?_
  refine J.op (Yd.assign rfl) rfl ?_
  refine J.nil ?_
  refine J.n_then ?_
  refine J.ret ?_
  refine J.r_then ?_
  exact J.ret3 rfl rfl rfl rfl (⟨_, rfl, nilS, rfl, (fun W _ => Rd.nilM _ _), e0⟩)

theorem RNum_any {a : Value} {l : List UInt8} {w : World} {t : UInt64} (ha : Bs w a l) (hl : l.length ≤ 1000000) (ht : t.toNat ≤ 1099511627776) : C Try.prog 37 [a, W64 t] w (Ret fun u w' => ∃ v, u = .tuple #[I (numV l t.toNat).1, v, .bool (numV l t.toNat).2.2] ∧ (∀ W, Bs W a l → Bs W v (numV l t.toNat).2.1) ∧ Ext w w') := by
  cases h : rdT t.toNat l with
  | none =>
    rw [numV_no h]
    rcases rdT_none h with h1 | ⟨q, k, h1, h2⟩
    · exact RNum_none ha hl h1
    · exact RNum_big ha hl h1 h2
  | some p =>
    obtain ⟨n, r⟩ := p
    rw [numV_yes h]
    obtain ⟨q, k, h1, rfl, h3, rfl, _⟩ := rdT_some h
    exact RNum_yes ha hl h1 h3 ht
end Ytfefphcmfhabiaa
end Go.Proofs
