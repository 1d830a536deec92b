import Derived.Test.YtphebleabcoakaaT
import Derived.Test.YtphebleabcoakaaW6
set_option linter.unusedVariables false
set_option linter.unusedSimpArgs false
set_option maxRecDepth 100000
set_option maxHeartbeats 4000000
namespace Go.Proofs
open Go.X Go.RowKit
namespace Ytphebleabcoakaa
theorem Down0T {b7 b8 b5 b4 : Nat} {n q : Int} {w : World} (h7 : Cel w b7 3 [(0, 1, [I n])]) (h8 : Cel w b8 23 [(0, 1, [.func (.func 8) #[] #[.pointer (some ⟨b7, 0, none⟩), .pointer (some ⟨b8, 0, none⟩), .pointer (some ⟨b5, 0, none⟩), .pointer (some ⟨b4, 0, none⟩)]])]) (h5 : Cel w b5 4 [(0, 1, [.bool true])]) (h4 : Cel w b4 3 [(0, 1, [I q])]) (a78 : Ap (some b7) (some b8)) (a75 : Ap (some b7) (some b5)) (a74 : Ap (some b7) (some b4)) (hn : 0 ≤ n ∧ n ≤ 1000) : C Try.prog 8 [I 0, .pointer (some ⟨b7, 0, none⟩), .pointer (some ⟨b8, 0, none⟩), .pointer (some ⟨b5, 0, none⟩), .pointer (some ⟨b4, 0, none⟩)] w (Pan fun ch w' => ch = [{ v := .iface 9 (Str [111, 116, 104, 101, 114]), recovered := false }] ∧ Cel w' b7 3 [(0, 1, [I (n + 0 + 1)])] ∧ Tn [some b7] w w') := by
  have e0 := Tn.refl [(some b7)] w
  refine C.enter Try.func8 rfl Try.ntmps8 rfl ?_
  refine J.seq ?_
  refine J.region ?_
  refine J.op (Yd.load pl3 rfl (Cel.cell1 h7 0 rfl)) rfl ?_
  refine J.op (Yd.add rfl rfl (by first | omega | exact idx_u8' _ | (simp only [Int.toNat_natCast]; omega) | (simp only [List.length_map, List.length_drop, List.length_take, List.length_append, List.length_replicate]; omega) | (simp <;> omega))) rfl ?_
  refine J.eff0 (Ye.store1 ti3 h7 0 rfl rfl rfl rfl rfl rfl) ?_
  rintro _ w1 ⟨cX, hu⟩
  simp only [List.set_cons_zero, List.set_cons_succ] at cX
  have hg := hu.gb
  have h8 := Cel.gbk h8 hg (Ap.symm a78)
  have h5 := Cel.gbk h5 hg (Ap.symm a75)
  have h4 := Cel.gbk h4 hg (Ap.symm a74)
  have e0 := Tn.gbk e0 (.inl (by simp)) hg
  clear hg
  replace h7 := cX
  clear cX hu
  refine J.nil ?_
  refine J.n_then ?_
  refine J.seq ?_
  refine J.seq ?_
  refine J.region ?_
  refine J.op (Yd.move rfl) rfl ?_
  refine J.op (Yd.gtr rfl rfl) rfl ?_
  refine J.nil ?_
  refine J.n_then ?_
  refine J.know (t := 9) (v' := .bool false) rfl (ff (by decide)) ?_
  refine J.cond_false rfl ?_
  refine J.skip ?_
  refine J.n_then ?_
  refine J.seq ?_
  refine J.seq ?_
  refine J.region ?_
  refine J.op (Yd.load pl4 rfl (Cel.cell1 h5 0 rfl)) rfl ?_
  refine J.nil ?_
  refine J.n_then ?_
  refine J.know (t := 14) (v' := .bool true) rfl (rfl) ?_
  refine J.cond_true rfl ?_
  refine J.region ?_
  refine J.op (Yd.mkIface Try.underlying9 rfl rfl) rfl ?_
  refine J.pan (Yp.panic rfl) ?_
  rintro _ _ ⟨rfl, rfl⟩
  refine J.p_then ?_
  exact J.fin_p (⟨_, rfl, rfl, (by rw [show n + 0 + 1 = n + 1 by omega]; exact h7), e0⟩)

theorem DownST {b7 b8 b5 b4 : Nat} {n q : Int} {w : World} {k : Nat} (ih : ∀ {n : Int} {w : World} (h7 : Cel w b7 3 [(0, 1, [I n])]) (h8 : Cel w b8 23 [(0, 1, [.func (.func 8) #[] #[.pointer (some ⟨b7, 0, none⟩), .pointer (some ⟨b8, 0, none⟩), .pointer (some ⟨b5, 0, none⟩), .pointer (some ⟨b4, 0, none⟩)]])]) (h5 : Cel w b5 4 [(0, 1, [.bool true])]) (h4 : Cel w b4 3 [(0, 1, [I q])]) (a78 : Ap (some b7) (some b8)) (a75 : Ap (some b7) (some b5)) (a74 : Ap (some b7) (some b4)) (_ : 0 ≤ n ∧ n + (k : Int) ≤ 1000), C Try.prog 8 [I (k : Int), .pointer (some ⟨b7, 0, none⟩), .pointer (some ⟨b8, 0, none⟩), .pointer (some ⟨b5, 0, none⟩), .pointer (some ⟨b4, 0, none⟩)] w (Pan fun ch w' => ch = [{ v := .iface 9 (Str [111, 116, 104, 101, 114]), recovered := false }] ∧ Cel w' b7 3 [(0, 1, [I (n + (k : Int) + 1)])] ∧ Tn [some b7] w w')) (h7 : Cel w b7 3 [(0, 1, [I n])]) (h8 : Cel w b8 23 [(0, 1, [.func (.func 8) #[] #[.pointer (some ⟨b7, 0, none⟩), .pointer (some ⟨b8, 0, none⟩), .pointer (some ⟨b5, 0, none⟩), .pointer (some ⟨b4, 0, none⟩)]])]) (h5 : Cel w b5 4 [(0, 1, [.bool true])]) (h4 : Cel w b4 3 [(0, 1, [I q])]) (a78 : Ap (some b7) (some b8)) (a75 : Ap (some b7) (some b5)) (a74 : Ap (some b7) (some b4)) (hn : 0 ≤ n ∧ n + ((k + 1 : Nat) : Int) ≤ 1000) : C Try.prog 8 [I ((k + 1 : Nat) : Int), .pointer (some ⟨b7, 0, none⟩), .pointer (some ⟨b8, 0, none⟩), .pointer (some ⟨b5, 0, none⟩), .pointer (some ⟨b4, 0, none⟩)] w (Pan fun ch w' => ch = [{ v := .iface 9 (Str [111, 116, 104, 101, 114]), recovered := false }] ∧ Cel w' b7 3 [(0, 1, [I (n + ((k + 1 : Nat) : Int) + 1)])] ∧ Tn [some b7] w w') := by
  have e0 := Tn.refl [(some b7)] w
  refine C.enter Try.func8 rfl Try.ntmps8 rfl ?_
  refine J.seq ?_
  refine J.region ?_
  refine J.op (Yd.load pl3 rfl (Cel.cell1 h7 0 rfl)) rfl ?_
  refine J.op (Yd.add rfl rfl (by first | omega | exact idx_u8' _ | (simp only [Int.toNat_natCast]; omega) | (simp only [List.length_map, List.length_drop, List.length_take, List.length_append, List.length_replicate]; omega) | (simp <;> omega))) rfl ?_
  refine J.eff0 (Ye.store1 ti3 h7 0 rfl rfl rfl rfl rfl rfl) ?_
  rintro _ w1 ⟨cX, hu⟩
  simp only [List.set_cons_zero, List.set_cons_succ] at cX
  have hg := hu.gb
  have h8 := Cel.gbk h8 hg (Ap.symm a78)
  have h5 := Cel.gbk h5 hg (Ap.symm a75)
  have h4 := Cel.gbk h4 hg (Ap.symm a74)
  have e0 := Tn.gbk e0 (.inl (by simp)) hg
  clear hg
  replace h7 := cX
  clear cX hu
  refine J.nil ?_
  refine J.n_then ?_
  refine J.seq ?_
  refine J.seq ?_
  refine J.region ?_
  refine J.op (Yd.move rfl) rfl ?_
  refine J.op (Yd.gtr rfl rfl) rfl ?_
  refine J.nil ?_
  refine J.n_then ?_
  refine J.know (t := 9) (v' := .bool true) rfl (tt (by omega)) ?_
  refine J.cond_true rfl ?_
  refine J.seq ?_
  refine J.region ?_
  refine J.op (Yd.load pl23 rfl (Cel.cell1 h8 0 rfl)) rfl ?_
  refine J.op (Yd.move rfl) rfl ?_
  refine J.op (Yd.cast (Yd.sub rfl rfl (by omega)) (show _ = I (k : Int) from congrArg (fun z => I z) (by omega))) rfl ?_
  refine J.pan (Yp.callv cl8 rfl rfl (ih h7 h8 h5 h4 a78 a75 a74 (by omega))) ?_
  rintro _ w2 ⟨rfl, h7', x1⟩
  have e0 := Tn.tnk e0 (fun q hq => by simp only [List.mem_singleton] at hq; subst hq; exact .inl (by simp)) x1
  refine J.p_then ?_
  refine J.p_then ?_
  exact J.fin_p (⟨_, rfl, rfl, (by rw [show n + ((k + 1 : Nat) : Int) + 1 = n + 1 + (k : Int) + 1 by omega]; exact h7'), e0⟩)

theorem DownT {b7 b8 b5 b4 : Nat} {q : Int} : ∀ (k : Nat) {n : Int} {w : World} (h7 : Cel w b7 3 [(0, 1, [I n])]) (h8 : Cel w b8 23 [(0, 1, [.func (.func 8) #[] #[.pointer (some ⟨b7, 0, none⟩), .pointer (some ⟨b8, 0, none⟩), .pointer (some ⟨b5, 0, none⟩), .pointer (some ⟨b4, 0, none⟩)]])]) (h5 : Cel w b5 4 [(0, 1, [.bool true])]) (h4 : Cel w b4 3 [(0, 1, [I q])]) (a78 : Ap (some b7) (some b8)) (a75 : Ap (some b7) (some b5)) (a74 : Ap (some b7) (some b4)) (hn : 0 ≤ n ∧ n + (k : Int) ≤ 1000), C Try.prog 8 [I (k : Int), .pointer (some ⟨b7, 0, none⟩), .pointer (some ⟨b8, 0, none⟩), .pointer (some ⟨b5, 0, none⟩), .pointer (some ⟨b4, 0, none⟩)] w (Pan fun ch w' => ch = [{ v := .iface 9 (Str [111, 116, 104, 101, 114]), recovered := false }] ∧ Cel w' b7 3 [(0, 1, [I (n + (k : Int) + 1)])] ∧ Tn [some b7] w w')
  | 0, n, w, h7, h8, h5, h4, a78, a75, a74, hn => Down0T h7 h8 h5 h4 a78 a75 a74 (by omega)
  | k + 1, n, w, h7, h8, h5, h4, a78, a75, a74, hn => DownST (fun {n w} h7 h8 h5 h4 a78 a75 a74 hn => DownT k h7 h8 h5 h4 a78 a75 a74 hn) h7 h8 h5 h4 a78 a75 a74 hn

theorem CbT {b7 b8 b5 b4 b3 br k : Nat} {n q : Int} {w : World} (h7 : Cel w b7 3 [(0, 1, [I n])]) (h8 : Cel w b8 23 [(0, 1, [.func (.func 8) #[] #[.pointer (some ⟨b7, 0, none⟩), .pointer (some ⟨b8, 0, none⟩), .pointer (some ⟨b5, 0, none⟩), .pointer (some ⟨b4, 0, none⟩)]])]) (h5 : Cel w b5 4 [(0, 1, [.bool true])]) (h4 : Cel w b4 3 [(0, 1, [I q])]) (h3 : Cel w b3 3 [(0, 1, [I (k : Int)])]) (a78 : Ap (some b7) (some b8)) (a75 : Ap (some b7) (some b5)) (a74 : Ap (some b7) (some b4)) (a73 : Ap (some b7) (some b3)) (hn : 0 ≤ n ∧ n + (k : Int) ≤ 1000) : C Try.prog 12 [.pointer (some ⟨br, 0, none⟩), .pointer (some ⟨b8, 0, none⟩), .pointer (some ⟨b3, 0, none⟩)] w (Pan fun ch w' => ch = [{ v := .iface 9 (Str [111, 116, 104, 101, 114]), recovered := false }] ∧ Cel w' b7 3 [(0, 1, [I (n + (k : Int) + 1)])] ∧ Tn [some b7] w w') := by
  have e0 := Tn.refl [(some b7)] w
  refine C.enter Try.func12 rfl Try.ntmps12 rfl ?_
  refine J.region ?_
  refine J.op (Yd.load pl23 rfl (Cel.cell1 h8 0 rfl)) rfl ?_
  refine J.op (Yd.load pl3 rfl (Cel.cell1 h3 0 rfl)) rfl ?_
  refine J.pan (Yp.callv cl8 rfl rfl (DownT k h7 h8 h5 h4 a78 a75 a74 hn)) ?_
  rintro _ w1 ⟨rfl, h7', x1⟩
  have e0 := Tn.tnk e0 (fun q hq => by simp only [List.mem_singleton] at hq; subst hq; exact .inl (by simp)) x1
  exact J.fin_p (⟨_, rfl, rfl, h7', e0⟩)

theorem Down0F {b7 b8 b5 b4 : Nat} {n q : Int} {w : World} (h7 : Cel w b7 3 [(0, 1, [I n])]) (h8 : Cel w b8 23 [(0, 1, [.func (.func 8) #[] #[.pointer (some ⟨b7, 0, none⟩), .pointer (some ⟨b8, 0, none⟩), .pointer (some ⟨b5, 0, none⟩), .pointer (some ⟨b4, 0, none⟩)]])]) (h5 : Cel w b5 4 [(0, 1, [.bool false])]) (h4 : Cel w b4 3 [(0, 1, [I q])]) (a78 : Ap (some b7) (some b8)) (a75 : Ap (some b7) (some b5)) (a74 : Ap (some b7) (some b4)) (hn : 0 ≤ n ∧ n ≤ 1000) : C Try.prog 8 [I 0, .pointer (some ⟨b7, 0, none⟩), .pointer (some ⟨b8, 0, none⟩), .pointer (some ⟨b5, 0, none⟩), .pointer (some ⟨b4, 0, none⟩)] w (Pan fun ch w' => ch = [{ v := .iface 24 (I q), recovered := false }] ∧ Cel w' b7 3 [(0, 1, [I (n + 0 + 1)])] ∧ Tn [some b7] w w') := by
  have e0 := Tn.refl [(some b7)] w
  refine C.enter Try.func8 rfl Try.ntmps8 rfl ?_
  refine J.seq ?_
  refine J.region ?_
  refine J.op (Yd.load pl3 rfl (Cel.cell1 h7 0 rfl)) rfl ?_
  refine J.op (Yd.add rfl rfl (by first | omega | exact idx_u8' _ | (simp only [Int.toNat_natCast]; omega) | (simp only [List.length_map, List.length_drop, List.length_take, List.length_append, List.length_replicate]; omega) | (simp <;> omega))) rfl ?_
  refine J.eff0 (Ye.store1 ti3 h7 0 rfl rfl rfl rfl rfl rfl) ?_
  rintro _ w1 ⟨cX, hu⟩
  simp only [List.set_cons_zero, List.set_cons_succ] at cX
  have hg := hu.gb
  have h8 := Cel.gbk h8 hg (Ap.symm a78)
  have h5 := Cel.gbk h5 hg (Ap.symm a75)
  have h4 := Cel.gbk h4 hg (Ap.symm a74)
  have e0 := Tn.gbk e0 (.inl (by simp)) hg
  clear hg
  replace h7 := cX
  clear cX hu
  refine J.nil ?_
  refine J.n_then ?_
  refine J.seq ?_
  refine J.seq ?_
  refine J.region ?_
  refine J.op (Yd.move rfl) rfl ?_
  refine J.op (Yd.gtr rfl rfl) rfl ?_
  refine J.nil ?_
  refine J.n_then ?_
  refine J.know (t := 9) (v' := .bool false) rfl (ff (by decide)) ?_
  refine J.cond_false rfl ?_
  refine J.skip ?_
  refine J.n_then ?_
  refine J.seq ?_
  refine J.seq ?_
  refine J.region ?_
  refine J.op (Yd.load pl4 rfl (Cel.cell1 h5 0 rfl)) rfl ?_
  refine J.nil ?_
  refine J.n_then ?_
  refine J.know (t := 14) (v' := .bool false) rfl (rfl) ?_
  refine J.cond_false rfl ?_
  refine J.skip ?_
  refine J.n_then ?_
  refine J.region ?_
  refine J.op (Yd.load pl3 rfl (Cel.cell1 h4 0 rfl)) rfl ?_
  refine J.op (Yd.mkIface Try.underlying24 rfl rfl) rfl ?_
  refine J.pan (Yp.panic rfl) ?_
  rintro _ _ ⟨rfl, rfl⟩
  exact J.fin_p (⟨_, rfl, rfl, (by rw [show n + 0 + 1 = n + 1 by omega]; exact h7), e0⟩)

theorem DownSF {b7 b8 b5 b4 : Nat} {n q : Int} {w : World} {k : Nat} (ih : ∀ {n : Int} {w : World} (h7 : Cel w b7 3 [(0, 1, [I n])]) (h8 : Cel w b8 23 [(0, 1, [.func (.func 8) #[] #[.pointer (some ⟨b7, 0, none⟩), .pointer (some ⟨b8, 0, none⟩), .pointer (some ⟨b5, 0, none⟩), .pointer (some ⟨b4, 0, none⟩)]])]) (h5 : Cel w b5 4 [(0, 1, [.bool false])]) (h4 : Cel w b4 3 [(0, 1, [I q])]) (a78 : Ap (some b7) (some b8)) (a75 : Ap (some b7) (some b5)) (a74 : Ap (some b7) (some b4)) (_ : 0 ≤ n ∧ n + (k : Int) ≤ 1000), C Try.prog 8 [I (k : Int), .pointer (some ⟨b7, 0, none⟩), .pointer (some ⟨b8, 0, none⟩), .pointer (some ⟨b5, 0, none⟩), .pointer (some ⟨b4, 0, none⟩)] w (Pan fun ch w' => ch = [{ v := .iface 24 (I q), recovered := false }] ∧ Cel w' b7 3 [(0, 1, [I (n + (k : Int) + 1)])] ∧ Tn [some b7] w w')) (h7 : Cel w b7 3 [(0, 1, [I n])]) (h8 : Cel w b8 23 [(0, 1, [.func (.func 8) #[] #[.pointer (some ⟨b7, 0, none⟩), .pointer (some ⟨b8, 0, none⟩), .pointer (some ⟨b5, 0, none⟩), .pointer (some ⟨b4, 0, none⟩)]])]) (h5 : Cel w b5 4 [(0, 1, [.bool false])]) (h4 : Cel w b4 3 [(0, 1, [I q])]) (a78 : Ap (some b7) (some b8)) (a75 : Ap (some b7) (some b5)) (a74 : Ap (some b7) (some b4)) (hn : 0 ≤ n ∧ n + ((k + 1 : Nat) : Int) ≤ 1000) : C Try.prog 8 [I ((k + 1 : Nat) : Int), .pointer (some ⟨b7, 0, none⟩), .pointer (some ⟨b8, 0, none⟩), .pointer (some ⟨b5, 0, none⟩), .pointer (some ⟨b4, 0, none⟩)] w (Pan fun ch w' => ch = [{ v := .iface 24 (I q), recovered := false }] ∧ Cel w' b7 3 [(0, 1, [I (n + ((k + 1 : Nat) : Int) + 1)])] ∧ Tn [some b7] w w') := by
  have e0 := Tn.refl [(some b7)] w
  refine C.enter Try.func8 rfl Try.ntmps8 rfl ?_
  refine J.seq ?_
  refine J.region ?_
  refine J.op (Yd.load pl3 rfl (Cel.cell1 h7 0 rfl)) rfl ?_
  refine J.op (Yd.add rfl rfl (by first | omega | exact idx_u8' _ | (simp only [Int.toNat_natCast]; omega) | (simp only [List.length_map, List.length_drop, List.length_take, List.length_append, List.length_replicate]; omega) | (simp <;> omega))) rfl ?_
  refine J.eff0 (Ye.store1 ti3 h7 0 rfl rfl rfl rfl rfl rfl) ?_
  rintro _ w1 ⟨cX, hu⟩
  simp only [List.set_cons_zero, List.set_cons_succ] at cX
  have hg := hu.gb
  have h8 := Cel.gbk h8 hg (Ap.symm a78)
  have h5 := Cel.gbk h5 hg (Ap.symm a75)
  have h4 := Cel.gbk h4 hg (Ap.symm a74)
  have e0 := Tn.gbk e0 (.inl (by simp)) hg
  clear hg
  replace h7 := cX
  clear cX hu
  refine J.nil ?_
  refine J.n_then ?_
  refine J.seq ?_
  refine J.seq ?_
  refine J.region ?_
  refine J.op (Yd.move rfl) rfl ?_
  refine J.op (Yd.gtr rfl rfl) rfl ?_
  refine J.nil ?_
  refine J.n_then ?_
  refine J.know (t := 9) (v' := .bool true) rfl (tt (by omega)) ?_
  refine J.cond_true rfl ?_
  refine J.seq ?_
  refine J.region ?_
  refine J.op (Yd.load pl23 rfl (Cel.cell1 h8 0 rfl)) rfl ?_
  refine J.op (Yd.move rfl) rfl ?_
  refine J.op (Yd.cast (Yd.sub rfl rfl (by omega)) (show _ = I (k : Int) from congrArg (fun z => I z) (by omega))) rfl ?_
  refine J.pan (Yp.callv cl8 rfl rfl (ih h7 h8 h5 h4 a78 a75 a74 (by omega))) ?_
  rintro _ w2 ⟨rfl, h7', x1⟩
  have e0 := Tn.tnk e0 (fun q hq => by simp only [List.mem_singleton] at hq; subst hq; exact .inl (by simp)) x1
  refine J.p_then ?_
  refine J.p_then ?_
  exact J.fin_p (⟨_, rfl, rfl, (by rw [show n + ((k + 1 : Nat) : Int) + 1 = n + 1 + (k : Int) + 1 by omega]; exact h7'), e0⟩)

theorem DownF {b7 b8 b5 b4 : Nat} {q : Int} : ∀ (k : Nat) {n : Int} {w : World} (h7 : Cel w b7 3 [(0, 1, [I n])]) (h8 : Cel w b8 23 [(0, 1, [.func (.func 8) #[] #[.pointer (some ⟨b7, 0, none⟩), .pointer (some ⟨b8, 0, none⟩), .pointer (some ⟨b5, 0, none⟩), .pointer (some ⟨b4, 0, none⟩)]])]) (h5 : Cel w b5 4 [(0, 1, [.bool false])]) (h4 : Cel w b4 3 [(0, 1, [I q])]) (a78 : Ap (some b7) (some b8)) (a75 : Ap (some b7) (some b5)) (a74 : Ap (some b7) (some b4)) (hn : 0 ≤ n ∧ n + (k : Int) ≤ 1000), C Try.prog 8 [I (k : Int), .pointer (some ⟨b7, 0, none⟩), .pointer (some ⟨b8, 0, none⟩), .pointer (some ⟨b5, 0, none⟩), .pointer (some ⟨b4, 0, none⟩)] w (Pan fun ch w' => ch = [{ v := .iface 24 (I q), recovered := false }] ∧ Cel w' b7 3 [(0, 1, [I (n + (k : Int) + 1)])] ∧ Tn [some b7] w w')
  | 0, n, w, h7, h8, h5, h4, a78, a75, a74, hn => Down0F h7 h8 h5 h4 a78 a75 a74 (by omega)
  | k + 1, n, w, h7, h8, h5, h4, a78, a75, a74, hn => DownSF (fun {n w} h7 h8 h5 h4 a78 a75 a74 hn => DownF k h7 h8 h5 h4 a78 a75 a74 hn) h7 h8 h5 h4 a78 a75 a74 hn

theorem CbF {b7 b8 b5 b4 b3 br k : Nat} {n q : Int} {w : World} (h7 : Cel w b7 3 [(0, 1, [I n])]) (h8 : Cel w b8 23 [(0, 1, [.func (.func 8) #[] #[.pointer (some ⟨b7, 0, none⟩), .pointer (some ⟨b8, 0, none⟩), .pointer (some ⟨b5, 0, none⟩), .pointer (some ⟨b4, 0, none⟩)]])]) (h5 : Cel w b5 4 [(0, 1, [.bool false])]) (h4 : Cel w b4 3 [(0, 1, [I q])]) (h3 : Cel w b3 3 [(0, 1, [I (k : Int)])]) (a78 : Ap (some b7) (some b8)) (a75 : Ap (some b7) (some b5)) (a74 : Ap (some b7) (some b4)) (a73 : Ap (some b7) (some b3)) (hn : 0 ≤ n ∧ n + (k : Int) ≤ 1000) : C Try.prog 12 [.pointer (some ⟨br, 0, none⟩), .pointer (some ⟨b8, 0, none⟩), .pointer (some ⟨b3, 0, none⟩)] w (Pan fun ch w' => ch = [{ v := .iface 24 (I q), recovered := false }] ∧ Cel w' b7 3 [(0, 1, [I (n + (k : Int) + 1)])] ∧ Tn [some b7] w w') := by
  have e0 := Tn.refl [(some b7)] w
  refine C.enter Try.func12 rfl Try.ntmps12 rfl ?_
  refine J.region ?_
  refine J.op (Yd.load pl23 rfl (Cel.cell1 h8 0 rfl)) rfl ?_
  refine J.op (Yd.load pl3 rfl (Cel.cell1 h3 0 rfl)) rfl ?_
  refine J.pan (Yp.callv cl8 rfl rfl (DownF k h7 h8 h5 h4 a78 a75 a74 hn)) ?_
  rintro _ w1 ⟨rfl, h7', x1⟩
  have e0 := Tn.tnk e0 (fun q hq => by simp only [List.mem_singleton] at hq; subst hq; exact .inl (by simp)) x1
  exact J.fin_p (⟨_, rfl, rfl, h7', e0⟩)
end Ytphebleabcoakaa
end Go.Proofs
