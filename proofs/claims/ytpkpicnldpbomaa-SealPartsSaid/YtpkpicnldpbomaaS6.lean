import Derived.Test.YtpkpicnldpbomaaT
import Derived.Test.YtpkpicnldpbomaaPB
import Derived.Test.YtpkpicnldpbomaaXB
import Derived.Test.YtpkpicnldpbomaaS5
set_option linter.unusedVariables false
set_option linter.unusedSimpArgs false
set_option maxRecDepth 100000
set_option maxHeartbeats 4000000
namespace Go.Proofs
open Go.X Go.RowKit
namespace Ytpkpicnldpbomaa
theorem Clone_ok {a : Value} {l : List UInt8} {w : World} (ha : Bs w a l) (hl : l.length ≤ 70368744177664) : C Try.prog 53 [a] w (Ret fun v w' => Ob w.heap.size 5 w' v l ∧ Ext w w') := by
  have e0 := Ext.refl w
  refine C.enter Try.func53 rfl Try.ntmps53 rfl ?_
  refine J.seq ?_
  refine J.region ?_
  refine J.op (Yd.assign rfl) rfl ?_
  refine J.nil ?_
  refine J.n_then ?_
  refine J.seq ?_
  refine J.seq ?_
  refine J.region ?_
  refine J.op (Yd.move rfl) rfl ?_
  refine J.op (Yd.eqNil Try.underlying22 rfl rfl ha) rfl ?_
  refine J.nil ?_
  refine J.n_then ?_
  refine J.cond rfl (fun hc0 => ?_) (fun hc0 => ?_)
  · skip
    refine J.seq ?_
    refine J.region ?_
    refine J.op (Yd.assign rfl) rfl ?_
    refine J.nil ?_
    refine J.n_then ?_
    refine J.ret ?_
    refine J.r_then ?_
    exact J.ret1 rfl rfl (⟨_, rfl, by have h9 := isNilS_nil ha hc0; simp at h9; subst h9; exact Ow.nil _ _ _, e0⟩)
  · skip
    refine J.skip ?_
    refine J.n_then ?_
    refine J.seq ?_
    refine J.region ?_
    have hz_w : w.heap.size ≤ w.heap.size := e0.size
    have le_w : w.heap.size ≤ w.heap.size := Nat.le_refl _
    refine J.eff (Ye.lit0 (base := w.heap.size) (f := (fun x : UInt8 => B x)) Try.underlying22 ti5 rfl (Nat.le_refl _)) rfl ?_
    rintro s5_1 w1 ⟨o5_1, x1⟩
    have e0 := e0.trans x1
    have le_w := Nat.le_trans le_w x1.size
    clear x1
    refine J.op (Yd.move rfl) rfl ?_
    have hs_w1 : w.heap.size ≤ w1.heap.size := e0.size
    refine J.eff (Ye.appendM Try.underlying22 ti5 rfl rfl rfl rfl o5_1 (Rd.ext ha e0) (fun _ => rfl) (by first | omega | (simp only [Int.toNat_natCast]; omega) | (simp only [List.length_map, List.length_drop, List.length_take, List.length_append, List.length_replicate]; omega) | (simp <;> omega)) hs_w1) rfl ?_
    rintro s7_2 w2 ⟨o7_2, hg⟩
    have e0 := e0.grown o5_1 hz_w hg
    have le_w := Nat.le_trans le_w hg.size
    clear hg
    rw [List.nil_append] at o7_2
    refine J.op (Yd.assign rfl) rfl ?_
    refine J.nil ?_
    refine J.n_then ?_
    refine J.ret ?_
    exact J.ret1 rfl rfl (⟨_, rfl, o7_2, e0⟩)

theorem Padded64_ok {a : Value} {l : List UInt8} {n : UInt64} {w : World} (ha : Bs w a l) (hl : l.length ≤ 1000000000000) : C Try.prog 62 [a, W64 n, I 64] w (Ret fun v w' => Ob w.heap.size 5 w' v (pad64L l n) ∧ Ext w w') := by
  have hbl := beN_len (8 * n) 8
  have e0 := Ext.refl w
  refine C.enter Try.func62 rfl Try.ntmps62 rfl ?_
  refine J.seq ?_
  refine J.region ?_
  refine J.op (Yd.assign rfl) rfl ?_
  refine J.nil ?_
  refine J.n_then ?_
  refine J.seq ?_
  refine J.region ?_
  refine J.op (Yd.move rfl) rfl ?_
  have hz_w : w.heap.size ≤ w.heap.size := e0.size
  have le_w : w.heap.size ≤ w.heap.size := Nat.le_refl _
  refine J.eff (Ye.call cl53 rfl (Clone_ok ha (by first | omega | (simp <;> omega)))) rfl ?_
  rintro s10_1 w1 ⟨o10_1, x1⟩
  have e0 := e0.trans x1
  have le_w := Nat.le_trans le_w x1.size
  clear x1
  have hz_w1 : w.heap.size ≤ w1.heap.size := e0.size
  have le_w1 : w1.heap.size ≤ w1.heap.size := Nat.le_refl _
  refine J.eff (Ye.lit1 (base := w1.heap.size) (f := (fun x : UInt8 => B x)) (u := 128) Try.underlying22 ti5 rfl rfl (fun _ => rfl) (Nat.le_refl _)) rfl ?_
  rintro s11_2 w2 ⟨o11_2, x1⟩
  have e0 := e0.trans x1
  have o10_1 := o10_1.ext x1
  have le_w := Nat.le_trans le_w x1.size
  have le_w1 := Nat.le_trans le_w1 x1.size
  clear x1
  have hs_w2 : w.heap.size ≤ w2.heap.size := e0.size
  refine J.eff (Ye.appendM Try.underlying22 ti5 rfl rfl rfl rfl o10_1 (Ow.rd o11_2) (fun _ => rfl) (by first | omega | (simp only [Int.toNat_natCast]; omega) | (simp only [List.length_map, List.length_drop, List.length_take, List.length_append, List.length_replicate]; omega) | (simp <;> omega)) hs_w2) rfl ?_
  rintro s12_3 w3 ⟨o12_3, hg⟩
  have e0 := e0.grown o10_1 hz_w hg
  have le_w := Nat.le_trans le_w hg.size
  have le_w1 := Nat.le_trans le_w1 hg.size
  clear hg
  refine J.op (Yd.assign rfl) rfl ?_
  refine J.nil ?_
  refine J.n_then ?_
  refine J.seq ?_
  refine J.region ?_
  refine J.op (Yd.move rfl) rfl ?_
  refine J.op (Yd.quo rfl rfl (by omega) (by omega) (by omega)) rfl ?_
  refine J.op (Yd.assign rfl) rfl ?_
  refine J.nil ?_
  refine J.n_then ?_
  refine J.seq ?_
  refine J.region ?_
  refine J.op (Yd.move rfl) rfl ?_
  refine J.op (Yd.move rfl) rfl ?_
  refine J.op (Yd.mul rfl rfl (by first | omega | (simp only [Int.toNat_natCast]; omega) | (simp only [List.length_map, List.length_drop, List.length_take, List.length_append, List.length_replicate]; omega) | (simp <;> omega))) rfl ?_
  refine J.op (Yd.move rfl) rfl ?_
  refine J.op (Yd.sub rfl rfl (by first | omega | (simp only [Int.toNat_natCast]; omega) | (simp only [List.length_map, List.length_drop, List.length_take, List.length_append, List.length_replicate]; omega) | (simp <;> omega))) rfl ?_
  refine J.op (Yd.move rfl) rfl ?_
  refine J.op (Yd.len_b Try.underlying22 rfl (Ow.rd o12_3)) rfl ?_
  refine J.op (Yd.move rfl) rfl ?_
  refine J.op (Yd.rem rfl rfl (by omega) (by omega)) rfl ?_
  refine J.op (Yd.sub rfl rfl (by first | omega | (simp only [Int.toNat_natCast]; omega) | (simp only [List.length_map, List.length_drop, List.length_take, List.length_append, List.length_replicate]; omega) | (simp <;> omega))) rfl ?_
  refine J.op (Yd.move rfl) rfl ?_
  refine J.op (Yd.rem rfl rfl (by simp <;> omega) (by omega)) rfl ?_
  have hs_w3 : w.heap.size ≤ w3.heap.size := e0.size
  refine J.eff (Ye.appendZO Try.underlying22 Try.underlying3 ti5 rfl rfl rfl rfl rfl o12_3 (by first | omega | (simp only [Int.toNat_natCast]; omega) | (simp only [List.length_map, List.length_drop, List.length_take, List.length_append, List.length_replicate]; omega) | (simp <;> omega)) (by first | omega | (simp only [Int.toNat_natCast]; omega) | (simp only [List.length_map, List.length_drop, List.length_take, List.length_append, List.length_replicate]; omega) | (simp <;> omega)) hs_w3) rfl ?_
  rintro s27_4 w4 ⟨o27_4, hg⟩
  have e0 := e0.grown o12_3 hz_w hg
  have le_w := Nat.le_trans le_w hg.size
  have le_w1 := Nat.le_trans le_w1 hg.size
  clear hg
  rw [rep_B, ← List.map_append] at o27_4
  refine J.op (Yd.assign rfl) rfl ?_
  refine J.nil ?_
  refine J.n_then ?_
  refine J.seq ?_
  refine J.region ?_
  refine J.op (Yd.move rfl) rfl ?_
  refine J.op (Yd.move rfl) rfl ?_
  refine J.op (Yd.sub rfl rfl (by first | omega | (simp only [Int.toNat_natCast]; omega) | (simp only [List.length_map, List.length_drop, List.length_take, List.length_append, List.length_replicate]; omega) | (simp <;> omega))) rfl ?_
  have hs_w4 : w.heap.size ≤ w4.heap.size := e0.size
  refine J.eff (Ye.appendZO Try.underlying22 Try.underlying3 ti5 rfl rfl rfl rfl rfl o27_4 (by first | omega | (simp only [Int.toNat_natCast]; omega) | (simp only [List.length_map, List.length_drop, List.length_take, List.length_append, List.length_replicate]; omega) | (simp <;> omega)) (by first | omega | (simp only [Int.toNat_natCast]; omega) | (simp only [List.length_map, List.length_drop, List.length_take, List.length_append, List.length_replicate]; omega) | (simp <;> omega)) hs_w4) rfl ?_
  rintro s31_5 w5 ⟨o31_5, hg⟩
  have e0 := e0.grown o27_4 hz_w hg
  have le_w := Nat.le_trans le_w hg.size
  have le_w1 := Nat.le_trans le_w1 hg.size
  clear hg
  rw [rep_B, ← List.map_append] at o31_5
  refine J.op (Yd.assign rfl) rfl ?_
  refine J.nil ?_
  refine J.n_then ?_
  refine J.seq ?_
  refine J.region ?_
  refine J.op (Yd.move rfl) rfl ?_
  refine J.op (Yd.move rfl) rfl ?_
  refine J.op (Yd.mul_u64 (m := 8) rfl rfl) rfl ?_
  have hz_w5 : w.heap.size ≤ w5.heap.size := e0.size
  have le_w5 : w5.heap.size ≤ w5.heap.size := Nat.le_refl _
  refine J.eff (Ye.call cl41 rfl (Put64_ok)) rfl ?_
  rintro s35_6 w6 ⟨o35_6, x1⟩
  have e0 := e0.trans x1
  have o31_5 := o31_5.ext x1
  have le_w := Nat.le_trans le_w x1.size
  have le_w1 := Nat.le_trans le_w1 x1.size
  have le_w5 := Nat.le_trans le_w5 x1.size
  clear x1
  have hs_w6 : w.heap.size ≤ w6.heap.size := e0.size
  refine J.eff (Ye.appendM Try.underlying22 ti5 rfl rfl rfl rfl o31_5 (Ow.rd o35_6) (fun _ => rfl) (by first | omega | (simp only [Int.toNat_natCast]; omega) | (simp only [List.length_map, List.length_drop, List.length_take, List.length_append, List.length_replicate]; omega) | (simp <;> omega)) hs_w6) rfl ?_
  rintro s36_7 w7 ⟨o36_7, hg⟩
  have e0 := e0.grown o31_5 hz_w hg
  have le_w := Nat.le_trans le_w hg.size
  have le_w1 := Nat.le_trans le_w1 hg.size
  have le_w5 := Nat.le_trans le_w5 hg.size
  clear hg
  refine J.op (Yd.assign rfl) rfl ?_
  refine J.nil ?_
  refine J.n_then ?_
  refine J.ret ?_
  exact J.ret1 rfl rfl (⟨_, rfl, by rw [← pad64_law l n]; exact o36_7, e0⟩)

theorem Padded128_ok {a : Value} {l : List UInt8} {n : UInt64} {w : World} (ha : Bs w a l) (hl : l.length ≤ 1000000000000) : C Try.prog 62 [a, W64 n, I 128] w (Ret fun v w' => Ob w.heap.size 5 w' v (pad128L l n) ∧ Ext w w') := by
  have hbl := beN_len (8 * n) 8
  have e0 := Ext.refl w
  refine C.enter Try.func62 rfl Try.ntmps62 rfl ?_
  refine J.seq ?_
  refine J.region ?_
  refine J.op (Yd.assign rfl) rfl ?_
  refine J.nil ?_
  refine J.n_then ?_
  refine J.seq ?_
  refine J.region ?_
  refine J.op (Yd.move rfl) rfl ?_
  have hz_w : w.heap.size ≤ w.heap.size := e0.size
  have le_w : w.heap.size ≤ w.heap.size := Nat.le_refl _
  refine J.eff (Ye.call cl53 rfl (Clone_ok ha (by first | omega | (simp <;> omega)))) rfl ?_
  rintro s10_1 w1 ⟨o10_1, x1⟩
  have e0 := e0.trans x1
  have le_w := Nat.le_trans le_w x1.size
  clear x1
  have hz_w1 : w.heap.size ≤ w1.heap.size := e0.size
  have le_w1 : w1.heap.size ≤ w1.heap.size := Nat.le_refl _
  refine J.eff (Ye.lit1 (base := w1.heap.size) (f := (fun x : UInt8 => B x)) (u := 128) Try.underlying22 ti5 rfl rfl (fun _ => rfl) (Nat.le_refl _)) rfl ?_
  rintro s11_2 w2 ⟨o11_2, x1⟩
  have e0 := e0.trans x1
  have o10_1 := o10_1.ext x1
  have le_w := Nat.le_trans le_w x1.size
  have le_w1 := Nat.le_trans le_w1 x1.size
  clear x1
  have hs_w2 : w.heap.size ≤ w2.heap.size := e0.size
  refine J.eff (Ye.appendM Try.underlying22 ti5 rfl rfl rfl rfl o10_1 (Ow.rd o11_2) (fun _ => rfl) (by first | omega | (simp only [Int.toNat_natCast]; omega) | (simp only [List.length_map, List.length_drop, List.length_take, List.length_append, List.length_replicate]; omega) | (simp <;> omega)) hs_w2) rfl ?_
  rintro s12_3 w3 ⟨o12_3, hg⟩
  have e0 := e0.grown o10_1 hz_w hg
  have le_w := Nat.le_trans le_w hg.size
  have le_w1 := Nat.le_trans le_w1 hg.size
  clear hg
  refine J.op (Yd.assign rfl) rfl ?_
  refine J.nil ?_
  refine J.n_then ?_
  refine J.seq ?_
  refine J.region ?_
  refine J.op (Yd.move rfl) rfl ?_
  refine J.op (Yd.quo rfl rfl (by omega) (by omega) (by omega)) rfl ?_
  refine J.op (Yd.assign rfl) rfl ?_
  refine J.nil ?_
  refine J.n_then ?_
  refine J.seq ?_
  refine J.region ?_
  refine J.op (Yd.move rfl) rfl ?_
  refine J.op (Yd.move rfl) rfl ?_
  refine J.op (Yd.mul rfl rfl (by first | omega | (simp only [Int.toNat_natCast]; omega) | (simp only [List.length_map, List.length_drop, List.length_take, List.length_append, List.length_replicate]; omega) | (simp <;> omega))) rfl ?_
  refine J.op (Yd.move rfl) rfl ?_
  refine J.op (Yd.sub rfl rfl (by first | omega | (simp only [Int.toNat_natCast]; omega) | (simp only [List.length_map, List.length_drop, List.length_take, List.length_append, List.length_replicate]; omega) | (simp <;> omega))) rfl ?_
  refine J.op (Yd.move rfl) rfl ?_
  refine J.op (Yd.len_b Try.underlying22 rfl (Ow.rd o12_3)) rfl ?_
  refine J.op (Yd.move rfl) rfl ?_
  refine J.op (Yd.rem rfl rfl (by omega) (by omega)) rfl ?_
  refine J.op (Yd.sub rfl rfl (by first | omega | (simp only [Int.toNat_natCast]; omega) | (simp only [List.length_map, List.length_drop, List.length_take, List.length_append, List.length_replicate]; omega) | (simp <;> omega))) rfl ?_
  refine J.op (Yd.move rfl) rfl ?_
  refine J.op (Yd.rem rfl rfl (by simp <;> omega) (by omega)) rfl ?_
  have hs_w3 : w.heap.size ≤ w3.heap.size := e0.size
  refine J.eff (Ye.appendZO Try.underlying22 Try.underlying3 ti5 rfl rfl rfl rfl rfl o12_3 (by first | omega | (simp only [Int.toNat_natCast]; omega) | (simp only [List.length_map, List.length_drop, List.length_take, List.length_append, List.length_replicate]; omega) | (simp <;> omega)) (by first | omega | (simp only [Int.toNat_natCast]; omega) | (simp only [List.length_map, List.length_drop, List.length_take, List.length_append, List.length_replicate]; omega) | (simp <;> omega)) hs_w3) rfl ?_
  rintro s27_4 w4 ⟨o27_4, hg⟩
  have e0 := e0.grown o12_3 hz_w hg
  have le_w := Nat.le_trans le_w hg.size
  have le_w1 := Nat.le_trans le_w1 hg.size
  clear hg
  rw [rep_B, ← List.map_append] at o27_4
  refine J.op (Yd.assign rfl) rfl ?_
  refine J.nil ?_
  refine J.n_then ?_
  refine J.seq ?_
  refine J.region ?_
  refine J.op (Yd.move rfl) rfl ?_
  refine J.op (Yd.move rfl) rfl ?_
  refine J.op (Yd.sub rfl rfl (by first | omega | (simp only [Int.toNat_natCast]; omega) | (simp only [List.length_map, List.length_drop, List.length_take, List.length_append, List.length_replicate]; omega) | (simp <;> omega))) rfl ?_
  have hs_w4 : w.heap.size ≤ w4.heap.size := e0.size
  refine J.eff (Ye.appendZO Try.underlying22 Try.underlying3 ti5 rfl rfl rfl rfl rfl o27_4 (by first | omega | (simp only [Int.toNat_natCast]; omega) | (simp only [List.length_map, List.length_drop, List.length_take, List.length_append, List.length_replicate]; omega) | (simp <;> omega)) (by first | omega | (simp only [Int.toNat_natCast]; omega) | (simp only [List.length_map, List.length_drop, List.length_take, List.length_append, List.length_replicate]; omega) | (simp <;> omega)) hs_w4) rfl ?_
  rintro s31_5 w5 ⟨o31_5, hg⟩
  have e0 := e0.grown o27_4 hz_w hg
  have le_w := Nat.le_trans le_w hg.size
  have le_w1 := Nat.le_trans le_w1 hg.size
  clear hg
  rw [rep_B, ← List.map_append] at o31_5
  refine J.op (Yd.assign rfl) rfl ?_
  refine J.nil ?_
  refine J.n_then ?_
  refine J.seq ?_
  refine J.region ?_
  refine J.op (Yd.move rfl) rfl ?_
  refine J.op (Yd.move rfl) rfl ?_
  refine J.op (Yd.mul_u64 (m := 8) rfl rfl) rfl ?_
  have hz_w5 : w.heap.size ≤ w5.heap.size := e0.size
  have le_w5 : w5.heap.size ≤ w5.heap.size := Nat.le_refl _
  refine J.eff (Ye.call cl41 rfl (Put64_ok)) rfl ?_
  rintro s35_6 w6 ⟨o35_6, x1⟩
  have e0 := e0.trans x1
  have o31_5 := o31_5.ext x1
  have le_w := Nat.le_trans le_w x1.size
  have le_w1 := Nat.le_trans le_w1 x1.size
  have le_w5 := Nat.le_trans le_w5 x1.size
  clear x1
  have hs_w6 : w.heap.size ≤ w6.heap.size := e0.size
  refine J.eff (Ye.appendM Try.underlying22 ti5 rfl rfl rfl rfl o31_5 (Ow.rd o35_6) (fun _ => rfl) (by first | omega | (simp only [Int.toNat_natCast]; omega) | (simp only [List.length_map, List.length_drop, List.length_take, List.length_append, List.length_replicate]; omega) | (simp <;> omega)) hs_w6) rfl ?_
  rintro s36_7 w7 ⟨o36_7, hg⟩
  have e0 := e0.grown o31_5 hz_w hg
  have le_w := Nat.le_trans le_w hg.size
  have le_w1 := Nat.le_trans le_w1 hg.size
  have le_w5 := Nat.le_trans le_w5 hg.size
  clear hg
  refine J.op (Yd.assign rfl) rfl ?_
  refine J.nil ?_
  refine J.n_then ?_
  refine J.ret ?_
  exact J.ret1 rfl rfl (⟨_, rfl, by rw [← pad128_law l n]; exact o36_7, e0⟩)
end Ytpkpicnldpbomaa
end Go.Proofs
