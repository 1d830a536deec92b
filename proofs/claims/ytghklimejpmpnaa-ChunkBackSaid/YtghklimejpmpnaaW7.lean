import Derived.Test.YtghklimejpmpnaaT
import Derived.Test.YtghklimejpmpnaaW5
set_option linter.unusedVariables false
set_option linter.unusedSimpArgs false
set_option maxRecDepth 100000
set_option maxHeartbeats 4000000
namespace Go.Proofs
open Go.X Go.RowKit
namespace Ytghklimejpmpnaa
theorem RSmall_ok {K : Nat → Prop} {b k : Nat} {q : UInt64} {l : List UInt8} {m : Int} {w : World} (hr : Rdr 103 K w b l) (hl : l.length ≤ 1000000000) (hm : 0 ≤ m ∧ m ≤ 1000000000) (hg : gN 0 l 0 = some (q, k)) (hq : (q.toNat : Int) ≤ m) : C Try.prog 52 [.pointer (some ⟨b, 0, none⟩), I m] w (Ret fun u w' => u = I (q.toNat : Int) ∧ Rdr 103 K w' b (l.drop k) ∧ Tn [some b] w w') := by
  have e0 := Tn.refl [(some b)] w
  refine C.enter Try.func52 rfl Try.ntmps52 rfl ?_
  refine J.seq ?_
  refine J.region ?_
  refine J.op (Yd.assign rfl) rfl ?_
  refine J.nil ?_
  refine J.n_then ?_
  refine J.seq ?_
  refine J.seq ?_
  refine J.region ?_
  refine J.op (Yd.move rfl) rfl ?_
  refine J.op (Yd.lss rfl rfl) rfl ?_
  refine J.nil ?_
  refine J.n_then ?_
  refine J.know (t := 7) (v' := .bool false) rfl (ff (by omega)) ?_
  refine J.cond_false rfl ?_
  refine J.skip ?_
  refine J.n_then ?_
  refine J.seq ?_
  refine J.region ?_
  refine J.op (Yd.move rfl) rfl ?_
  refine J.eff (Ye.call cl40 rfl (RNum_ok hr (by omega) hg)) rfl ?_
  rintro _ w1 ⟨rfl, hr2, x1⟩
  have e0 := Tn.tnk e0 (fun q hq => by simp only [List.mem_singleton] at hq; subst hq; exact .inl (by simp)) x1
  clear x1
  replace hr := hr2
  clear hr2
  refine J.op (Yd.assign rfl) rfl ?_
  refine J.nil ?_
  refine J.n_then ?_
  refine J.seq ?_
  refine J.seq ?_
  refine J.region ?_
  refine J.op (Yd.move rfl) rfl ?_
  refine J.op (Yd.move rfl) rfl ?_
  refine J.op (Yd.cv_i_64 Try.underlying3 Try.underlying81 rfl (by first | omega | exact idx_u8' _ | (simp only [Int.toNat_natCast]; omega) | (simp only [List.length_map, List.length_drop, List.length_take, List.length_append, List.length_replicate]; omega) | (simp <;> omega))) rfl ?_
  refine J.op (Yd.gtr rfl rfl) rfl ?_
  refine J.nil ?_
  refine J.n_then ?_
  refine J.know (t := 14) (v' := .bool false) rfl (ff (by rw [u64_nat (by omega)]; omega)) ?_
  refine J.cond_false rfl ?_
  refine J.skip ?_
  refine J.n_then ?_
  refine J.seq ?_
  refine J.region ?_
  refine J.op (Yd.move rfl) rfl ?_
  refine J.op (Yd.cv_64_i Try.underlying81 Try.underlying3 rfl (by first | omega | exact idx_u8' _ | (simp only [Int.toNat_natCast]; omega) | (simp only [List.length_map, List.length_drop, List.length_take, List.length_append, List.length_replicate]; omega) | (simp <;> omega))) rfl ?_
  refine J.op (Yd.assign rfl) rfl ?_
  refine J.nil ?_
  refine J.n_then ?_
  refine J.ret ?_
  exact J.ret1 rfl rfl (⟨_, rfl, rfl, hr, e0⟩)

theorem RSmall_big {K : Nat → Prop} {b k : Nat} {q : UInt64} {l : List UInt8} {m : Int} {w : World} (hr : Rdr 103 K w b l) (hl : l.length ≤ 1000000000) (hm : 0 ≤ m ∧ m ≤ 1000000000) (hg : gN 0 l 0 = some (q, k)) (hq : ¬ (q.toNat : Int) ≤ m) : C Try.prog 52 [.pointer (some ⟨b, 0, none⟩), I m] w (Pan fun ch w' => ch = [{ v := .iface 25 (I 11), recovered := false }] ∧ Tn [some b] w w') := by
  have e0 := Tn.refl [(some b)] w
  refine C.enter Try.func52 rfl Try.ntmps52 rfl ?_
  refine J.seq ?_
  refine J.region ?_
  refine J.op (Yd.assign rfl) rfl ?_
  refine J.nil ?_
  refine J.n_then ?_
  refine J.seq ?_
  refine J.seq ?_
  refine J.region ?_
  refine J.op (Yd.move rfl) rfl ?_
  refine J.op (Yd.lss rfl rfl) rfl ?_
  refine J.nil ?_
  refine J.n_then ?_
  refine J.know (t := 7) (v' := .bool false) rfl (ff (by omega)) ?_
  refine J.cond_false rfl ?_
  refine J.skip ?_
  refine J.n_then ?_
  refine J.seq ?_
  refine J.region ?_
  refine J.op (Yd.move rfl) rfl ?_
  refine J.eff (Ye.call cl40 rfl (RNum_ok hr (by omega) hg)) rfl ?_
  rintro _ w1 ⟨rfl, hr2, x1⟩
  have e0 := Tn.tnk e0 (fun q hq => by simp only [List.mem_singleton] at hq; subst hq; exact .inl (by simp)) x1
  clear x1
  replace hr := hr2
  clear hr2
  refine J.op (Yd.assign rfl) rfl ?_
  refine J.nil ?_
  refine J.n_then ?_
  refine J.seq ?_
  refine J.seq ?_
  refine J.region ?_
  refine J.op (Yd.move rfl) rfl ?_
  refine J.op (Yd.move rfl) rfl ?_
  refine J.op (Yd.cv_i_64 Try.underlying3 Try.underlying81 rfl (by first | omega | exact idx_u8' _ | (simp only [Int.toNat_natCast]; omega) | (simp only [List.length_map, List.length_drop, List.length_take, List.length_append, List.length_replicate]; omega) | (simp <;> omega))) rfl ?_
  refine J.op (Yd.gtr rfl rfl) rfl ?_
  refine J.nil ?_
  refine J.n_then ?_
  refine J.know (t := 14) (v' := .bool true) rfl (tt (by rw [u64_nat (by omega)]; omega)) ?_
  refine J.cond_true rfl ?_
  refine J.region ?_
  refine J.op (Yd.mkIface Try.underlying25 rfl rfl) rfl ?_
  refine J.pan (Yp.panic rfl) ?_
  rintro _ _ ⟨rfl, rfl⟩
  refine J.p_then ?_
  exact J.fin_p (⟨_, rfl, rfl, e0⟩)

theorem RSmall_bad {K : Nat → Prop} {b : Nat} {l : List UInt8} {m : Int} {w : World} (hr : Rdr 103 K w b l) (hl : l.length ≤ 1000000000) (hm : 0 ≤ m ∧ m ≤ 1000000000) (hg : gN 0 l 0 = none) : C Try.prog 52 [.pointer (some ⟨b, 0, none⟩), I m] w (Pan fun ch w' => ch = [{ v := .iface 25 (I 2), recovered := false }] ∧ Tn [some b] w w') := by
  have e0 := Tn.refl [(some b)] w
  refine C.enter Try.func52 rfl Try.ntmps52 rfl ?_
  refine J.seq ?_
  refine J.region ?_
  refine J.op (Yd.assign rfl) rfl ?_
  refine J.nil ?_
  refine J.n_then ?_
  refine J.seq ?_
  refine J.seq ?_
  refine J.region ?_
  refine J.op (Yd.move rfl) rfl ?_
  refine J.op (Yd.lss rfl rfl) rfl ?_
  refine J.nil ?_
  refine J.n_then ?_
  refine J.know (t := 7) (v' := .bool false) rfl (ff (by omega)) ?_
  refine J.cond_false rfl ?_
  refine J.skip ?_
  refine J.n_then ?_
  refine J.seq ?_
  refine J.region ?_
  refine J.op (Yd.move rfl) rfl ?_
  refine J.pan (Yp.call cl40 rfl (RNum_bad hr (by omega) hg)) ?_
  rintro _ w1 ⟨rfl, x1⟩
  have e0 := Tn.tnk e0 (fun q hq => by simp only [List.mem_singleton] at hq; subst hq; exact .inl (by simp)) x1
  refine J.p_then ?_
  exact J.fin_p (⟨_, rfl, rfl, e0⟩)

theorem RBytes_ok {K : Nat → Prop} {b k : Nat} {q : UInt64} {l : List UInt8} {m : Int} {w : World} (hr : Rdr 103 K w b l) (hl : l.length ≤ 1000000000) (hm : 0 ≤ m ∧ m ≤ 1000000000) (hg : gN 0 l 0 = some (q, k)) (hq : (q.toNat : Int) ≤ m) (hk : k + q.toNat ≤ l.length) : C Try.prog 41 [.pointer (some ⟨b, 0, none⟩), I m] w (Ret fun u w' => Ob 0 5 w' u ((l.drop k).take q.toNat) ∧ Fr w.heap.size u.ownBlock ∧ Rdr 103 K w' b (l.drop (k + q.toNat)) ∧ Tn [some b] w w') := by
  have e0 := Tn.refl [(some b)] w
  refine C.enter Try.func41 rfl Try.ntmps41 rfl ?_
  refine J.seq ?_
  refine J.region ?_
  refine J.op (Yd.assign rfl) rfl ?_
  refine J.nil ?_
  refine J.n_then ?_
  refine J.seq ?_
  refine J.region ?_
  refine J.op (Yd.move rfl) rfl ?_
  refine J.op (Yd.move rfl) rfl ?_
  refine J.op (Yd.move rfl) rfl ?_
  refine J.eff (Ye.call cl52 rfl (RSmall_ok hr (by first | omega | (simp only [List.length_drop]; omega)) hm hg hq)) rfl ?_
  rintro _ w1 ⟨rfl, hr2, x1⟩
  have e0 := Tn.tnk e0 (fun q hq => by simp only [List.mem_singleton] at hq; subst hq; exact .inl (by simp)) x1
  clear x1
  replace hr := hr2
  clear hr2
  refine J.eff (Ye.call cl51 rfl (RFixed_ok hr (by have := gN_le _ _ _ _ _ hg; simp only [List.length_drop]; omega) (by first | omega | (simp only [List.length_drop]; omega)))) rfl ?_
  rintro v9 w2 ⟨ov9, hr2, x1⟩
  have fr_v9 : Fr w.heap.size v9.ownBlock := Fr.le (Ow.fr ov9) e0.size
  have e0 := Tn.tnk e0 (fun q hq => by simp only [List.mem_singleton] at hq; subst hq; exact .inl (by simp)) x1
  clear x1
  replace ov9 := Ow.base ov9 (Nat.zero_le _)
  replace hr := hr2
  clear hr2
  refine J.op (Yd.assign rfl) rfl ?_
  refine J.nil ?_
  refine J.n_then ?_
  refine J.ret ?_
  exact J.ret1 rfl rfl (⟨_, rfl, ov9, fr_v9, (by rw [Int.toNat_natCast, List.drop_drop] at hr; exact hr), e0⟩)

theorem RBytes_short {K : Nat → Prop} {b k : Nat} {q : UInt64} {l : List UInt8} {m : Int} {w : World} (hr : Rdr 103 K w b l) (hl : l.length ≤ 1000000000) (hm : 0 ≤ m ∧ m ≤ 1000000000) (hg : gN 0 l 0 = some (q, k)) (hq : (q.toNat : Int) ≤ m) (hk : l.length < k + q.toNat) : C Try.prog 41 [.pointer (some ⟨b, 0, none⟩), I m] w (Pan fun ch w' => ch = [{ v := .iface 25 (I 2), recovered := false }] ∧ Tn [some b] w w') := by
  have e0 := Tn.refl [(some b)] w
  refine C.enter Try.func41 rfl Try.ntmps41 rfl ?_
  refine J.seq ?_
  refine J.region ?_
  refine J.op (Yd.assign rfl) rfl ?_
  refine J.nil ?_
  refine J.n_then ?_
  refine J.seq ?_
  refine J.region ?_
  refine J.op (Yd.move rfl) rfl ?_
  refine J.op (Yd.move rfl) rfl ?_
  refine J.op (Yd.move rfl) rfl ?_
  refine J.eff (Ye.call cl52 rfl (RSmall_ok hr (by omega) hm hg hq)) rfl ?_
  rintro _ w1 ⟨rfl, hr2, x1⟩
  have e0 := Tn.tnk e0 (fun q hq => by simp only [List.mem_singleton] at hq; subst hq; exact .inl (by simp)) x1
  clear x1
  replace hr := hr2
  clear hr2
  refine J.pan (Yp.call cl51 rfl (RFixed_bad hr (by have := gN_le _ _ _ _ _ hg; simp only [List.length_drop]; omega))) ?_
  rintro _ w2 ⟨rfl, x1⟩
  have e0 := Tn.ext e0 x1
  have hr := hr.ext x1
  clear x1
  refine J.p_then ?_
  exact J.fin_p (⟨_, rfl, rfl, e0⟩)

theorem RBytes_big {K : Nat → Prop} {b k : Nat} {q : UInt64} {l : List UInt8} {m : Int} {w : World} (hr : Rdr 103 K w b l) (hl : l.length ≤ 1000000000) (hm : 0 ≤ m ∧ m ≤ 1000000000) (hg : gN 0 l 0 = some (q, k)) (hq : ¬ (q.toNat : Int) ≤ m) : C Try.prog 41 [.pointer (some ⟨b, 0, none⟩), I m] w (Pan fun ch w' => ch = [{ v := .iface 25 (I 11), recovered := false }] ∧ Tn [some b] w w') := by
  have e0 := Tn.refl [(some b)] w
  refine C.enter Try.func41 rfl Try.ntmps41 rfl ?_
  refine J.seq ?_
  refine J.region ?_
  refine J.op (Yd.assign rfl) rfl ?_
  refine J.nil ?_
  refine J.n_then ?_
  refine J.seq ?_
  refine J.region ?_
  refine J.op (Yd.move rfl) rfl ?_
  refine J.op (Yd.move rfl) rfl ?_
  refine J.op (Yd.move rfl) rfl ?_
  refine J.pan (Yp.call cl52 rfl (RSmall_big hr (by omega) hm hg hq)) ?_
  rintro _ w1 ⟨rfl, x1⟩
  have e0 := Tn.tnk e0 (fun q hq => by simp only [List.mem_singleton] at hq; subst hq; exact .inl (by simp)) x1
  refine J.p_then ?_
  exact J.fin_p (⟨_, rfl, rfl, e0⟩)

theorem RBytes_bad {K : Nat → Prop} {b : Nat} {l : List UInt8} {m : Int} {w : World} (hr : Rdr 103 K w b l) (hl : l.length ≤ 1000000000) (hm : 0 ≤ m ∧ m ≤ 1000000000) (hg : gN 0 l 0 = none) : C Try.prog 41 [.pointer (some ⟨b, 0, none⟩), I m] w (Pan fun ch w' => ch = [{ v := .iface 25 (I 2), recovered := false }] ∧ Tn [some b] w w') := by
  have e0 := Tn.refl [(some b)] w
  refine C.enter Try.func41 rfl Try.ntmps41 rfl ?_
  refine J.seq ?_
  refine J.region ?_
  refine J.op (Yd.assign rfl) rfl ?_
  refine J.nil ?_
  refine J.n_then ?_
  refine J.seq ?_
  refine J.region ?_
  refine J.op (Yd.move rfl) rfl ?_
  refine J.op (Yd.move rfl) rfl ?_
  refine J.op (Yd.move rfl) rfl ?_
  refine J.pan (Yp.call cl52 rfl (RSmall_bad hr (by omega) hm hg)) ?_
  rintro _ w1 ⟨rfl, x1⟩
  have e0 := Tn.tnk e0 (fun q hq => by simp only [List.mem_singleton] at hq; subst hq; exact .inl (by simp)) x1
  refine J.p_then ?_
  exact J.fin_p (⟨_, rfl, rfl, e0⟩)
end Ytghklimejpmpnaa
end Go.Proofs
