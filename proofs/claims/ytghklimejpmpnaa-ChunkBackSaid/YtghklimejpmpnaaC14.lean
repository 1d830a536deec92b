import Derived.Test.YtghklimejpmpnaaT
import Derived.Test.YtghklimejpmpnaaC13
set_option linter.unusedVariables false
set_option linter.unusedSimpArgs false
set_option maxRecDepth 100000
set_option maxHeartbeats 4000000
namespace Go.Proofs
open Go.X Go.RowKit
namespace Ytghklimejpmpnaa
theorem Dc_num {K : Nat → Prop} {b p : Nat} {y0 y1 y2 : Int} {l : List UInt8} {w : World} (hr : Rdr 103 K w b l) (hp : Cel w p 29 [(0, 1, [I y0]), (1, 1, [I y1]), (2, 1, [I y2]), (3, 1, [nilS])]) (hop : Out K (some p)) (hl : l.length ≤ 1000000) (hN : rdN 3 l = none) : C Try.prog 39 [.pointer (some ⟨b, 0, none⟩), .pointer (some ⟨p, 0, none⟩)] w (Pan fun ch w' => ch = [{ v := .iface 25 (I 2), recovered := false }] ∧ (∃ y0 y1 y2 : Int, Cel w' p 29 [(0, 1, [I y0]), (1, 1, [I y1]), (2, 1, [I y2]), (3, 1, [nilS])]) ∧ Tn [some b, some p] w w') := by
  have hlb := Rdr.live hr
  have apb : Ap (some p) (some b) := fun k e1 e2 => by cases e1; cases e2; exact hop _ rfl (by obtain ⟨_, h1, _⟩ := hr; exact h1)
  have e0 := Tn.refl [(some b), (some p)] w
  refine C.enter Try.func39 rfl Try.ntmps39 rfl ?_
  refine J.seq ?_
  refine J.seq ?_
  refine J.region ?_
  refine J.op (Yd.cast (Yd.fieldA Try.underlying29 rfl ti3 rfl rfl) (show _ = Value.pointer (some ⟨p, 0, none⟩) from rfl)) rfl ?_
  refine J.op (Yd.cast (Yd.fieldA Try.underlying29 rfl ti3 rfl rfl) (show _ = Value.pointer (some ⟨p, 1, none⟩) from rfl)) rfl ?_
  refine J.op (Yd.cast (Yd.fieldA Try.underlying29 rfl ti3 rfl rfl) (show _ = Value.pointer (some ⟨p, 2, none⟩) from rfl)) rfl ?_
  refine J.eff (Ye.lit (base := w.heap.size) (vs := [.pointer (some ⟨p, 0, none⟩), .pointer (some ⟨p, 1, none⟩), .pointer (some ⟨p, 2, none⟩)]) Try.underlying87 ti86 rfl rfl rfl rfl (by intro v_ hv_; simp only [List.mem_cons, List.mem_nil_iff, or_false] at hv_; rcases hv_ with rfl | rfl | rfl <;> rfl) rfl (Nat.le_refl _)) rfl ?_
  rintro sl w1 ⟨os, x1⟩
  have ap_b_sl : Ap (some b) sl.ownBlock := Ap.mk hlb (Ow.fr os)
  have ap_p_sl : Ap (some p) sl.ownBlock := Ap.mk (Cel.live hp) (Ow.fr os)
  have fr_sl : Fr w.heap.size sl.ownBlock := Fr.le (Ow.fr os) e0.size
  replace os := Ow.base os e0.size
  have e0 := Tn.ext e0 x1
  have hp := hp.ext x1
  have hr := hr.ext x1
  clear x1
  refine J.op (Yd.cast (Yd.len Try.underlying87 rfl (Ow.rd os)) (show _ = I 3 from rfl)) rfl ?_
  refine J.op (Yd.move rfl) rfl ?_
  refine J.nil ?_
  refine J.n_then ?_
  refine J.block ?_
  refine J.loop (ι := Nat × Int × Int × Int × List UInt8) (fun i => [(10, I 3), (11, I (i.1 : Int)), (0, .pointer (some ⟨b, 0, none⟩)), (1, .pointer (some ⟨p, 0, none⟩)), (9, sl)]) (fun i w' => i.1 ≤ 3 ∧ rdN (3 - i.1) i.2.2.2.2 = none ∧ i.2.2.2.2.length ≤ 1000000 ∧ Rdr 103 K w' b i.2.2.2.2 ∧ Cel w' p 29 [(0, 1, [I i.2.1]), (1, 1, [I i.2.2.1]), (2, 1, [I i.2.2.2.1]), (3, 1, [nilS])] ∧ Ow w.heap.size 86 w' sl [.pointer (some ⟨p, 0, none⟩), .pointer (some ⟨p, 1, none⟩), .pointer (some ⟨p, 2, none⟩)] ∧ Tn [(some b), (some p)] w w') (fun i => 3 - i.1) ((0, y0, y1, y2, l)) ⟨rfl, rfl, rfl, rfl, rfl, trivial⟩ (⟨Nat.zero_le _, hN, hl, hr, hp, os, e0⟩) ?_
  rintro ⟨n, y0, y1, y2, r⟩ w2 ⟨hk, hN, hln, hr, hp, os, e0⟩
  dsimp only at *
  refine J.seq ?_
  refine J.region ?_
  refine J.op (Yd.lss rfl rfl) rfl ?_
  refine J.nil ?_
  refine J.n_then ?_
  refine J.seq ?_
  refine J.cond_dec rfl (fun hc0 => ?_) (fun hc0 => ?_)
  · skip
    refine J.skip ?_
    refine J.n_then ?_
    refine J.seq ?_
    refine J.block ?_
    refine J.seq ?_
    refine J.region ?_
    rcases n3c hN (show n < 3 by omega) with hg | ⟨q, k, hg, hq⟩ | ⟨q, k, hg, hq, hkl, rfl, hN2⟩ | ⟨q, k, hg, hq, hkl, rfl, hN2⟩ | ⟨q, k, hg, hq, hkl, rfl, hN2⟩
    · skip
      refine J.op (Yd.idx Try.underlying87 ti86 rfl rfl (Ow.rd os) (by first | omega | exact idx_u8' _ | (simp only [Int.toNat_natCast]; omega) | (simp only [List.length_map, List.length_drop, List.length_take, List.length_append, List.length_replicate]; omega) | (simp <;> omega))) rfl ?_
      refine J.op (Yd.load pl86 rfl (Rd.cell (Ow.rd os) (by rw [Int.toNat_natCast]; exact get3 (by omega)))) rfl ?_
      refine J.op (Yd.assign rfl) rfl ?_
      refine J.nil ?_
      refine J.n_then ?_
      refine J.seq ?_
      refine J.region ?_
      refine J.op (Yd.move rfl) rfl ?_
      refine J.pan (Yp.call cl40 rfl (RNum_bad hr (by omega) hg)) ?_
      rintro _ w3 ⟨rfl, x1⟩
      have hp := Cel.tnk hp x1 (ApL.one apb)
      have os := Ow.tnk os x1 (ApL.one (Ap.symm ap_b_sl))
      have e0 := Tn.tnk e0 (fun q hq => by simp only [List.mem_singleton] at hq; subst hq; exact .inl (by simp)) x1
      clear x1
      refine J.p_then ?_
      refine J.p_block ?_
      refine J.p_then ?_
      refine J.p_then ?_
      refine J.p_block ?_
      refine J.p_then ?_
      exact J.fin_p (⟨_, rfl, rfl, ⟨_, _, _, hp⟩, e0⟩)
    · skip
      refine J.op (Yd.idx Try.underlying87 ti86 rfl rfl (Ow.rd os) (by first | omega | exact idx_u8' _ | (simp only [Int.toNat_natCast]; omega) | (simp only [List.length_map, List.length_drop, List.length_take, List.length_append, List.length_replicate]; omega) | (simp <;> omega))) rfl ?_
      refine J.op (Yd.load pl86 rfl (Rd.cell (Ow.rd os) (by rw [Int.toNat_natCast]; exact get3 (by omega)))) rfl ?_
      refine J.op (Yd.assign rfl) rfl ?_
      refine J.nil ?_
      refine J.n_then ?_
      refine J.seq ?_
      refine J.region ?_
      refine J.op (Yd.move rfl) rfl ?_
      refine J.eff (Ye.call cl40 rfl (RNum_ok hr (by omega) hg)) rfl ?_
      rintro _ w4 ⟨rfl, hr2, x1⟩
      have hp := Cel.tnk hp x1 (ApL.one apb)
      have os := Ow.tnk os x1 (ApL.one (Ap.symm ap_b_sl))
      have e0 := Tn.tnk e0 (fun q hq => by simp only [List.mem_singleton] at hq; subst hq; exact .inl (by simp)) x1
      clear x1
      replace hr := hr2
      clear hr2
      refine J.op (Yd.assign rfl) rfl ?_
      refine J.nil ?_
      refine J.n_then ?_
      refine J.seq ?_
      refine J.seq ?_
      refine J.region ?_
      refine J.op (Yd.move rfl) rfl ?_
      refine J.op (Yd.gtr rfl rfl) rfl ?_
      refine J.nil ?_
      refine J.n_then ?_
      refine J.know (t := 18) (v' := .bool true) rfl (tt (by omega)) ?_
      refine J.cond_true rfl ?_
      refine J.region ?_
      refine J.op (Yd.mkIface Try.underlying25 rfl rfl) rfl ?_
      refine J.pan (Yp.panic rfl) ?_
      rintro _ _ ⟨rfl, rfl⟩
      refine J.p_then ?_
      refine J.p_block ?_
      refine J.p_then ?_
      refine J.p_then ?_
      refine J.p_block ?_
      refine J.p_then ?_
      exact J.fin_p (⟨_, rfl, rfl, ⟨_, _, _, hp⟩, e0⟩)
    · skip
      refine J.op (Yd.idx Try.underlying87 ti86 rfl rfl (Ow.rd os) (by first | omega | exact idx_u8' _ | (simp only [Int.toNat_natCast]; omega) | (simp only [List.length_map, List.length_drop, List.length_take, List.length_append, List.length_replicate]; omega) | (simp <;> omega))) rfl ?_
      refine J.op (Yd.load pl86 rfl (Rd.cell (Ow.rd os) (show _ = some (.pointer (some ⟨p, 0, none⟩)) from rfl))) rfl ?_
      refine J.op (Yd.assign rfl) rfl ?_
      refine J.nil ?_
      refine J.n_then ?_
      refine J.seq ?_
      refine J.region ?_
      refine J.op (Yd.move rfl) rfl ?_
      refine J.eff (Ye.call cl40 rfl (RNum_ok hr (by omega) hg)) rfl ?_
      rintro _ w5 ⟨rfl, hr2, x1⟩
      have hp := Cel.tnk hp x1 (ApL.one apb)
      have os := Ow.tnk os x1 (ApL.one (Ap.symm ap_b_sl))
      have e0 := Tn.tnk e0 (fun q hq => by simp only [List.mem_singleton] at hq; subst hq; exact .inl (by simp)) x1
      clear x1
      replace hr := hr2
      clear hr2
      refine J.op (Yd.assign rfl) rfl ?_
      refine J.nil ?_
      refine J.n_then ?_
      refine J.seq ?_
      refine J.seq ?_
      refine J.region ?_
      refine J.op (Yd.move rfl) rfl ?_
      refine J.op (Yd.gtr rfl rfl) rfl ?_
      refine J.nil ?_
      refine J.n_then ?_
      refine J.know (t := 18) (v' := .bool false) rfl (ff (by omega)) ?_
      refine J.cond_false rfl ?_
      refine J.skip ?_
      refine J.n_then ?_
      refine J.region ?_
      refine J.op (Yd.move rfl) rfl ?_
      refine J.op (Yd.move rfl) rfl ?_
      refine J.op (Yd.cv_64_i Try.underlying81 Try.underlying3 rfl (by first | omega | exact idx_u8' _ | (simp only [Int.toNat_natCast]; omega) | (simp only [List.length_map, List.length_drop, List.length_take, List.length_append, List.length_replicate]; omega) | (simp <;> omega))) rfl ?_
      refine J.op (Yd.nilCheck rfl) rfl ?_
      refine J.eff0 (Ye.store1 ti3 hp 0 rfl rfl rfl rfl rfl rfl) ?_
      rintro _ w6 ⟨cX, hu⟩
      simp only [List.set_cons_zero, List.set_cons_succ] at cX
      have hg := hu.gb
      have os := Ow.gbk os hg (Ap.symm ap_p_sl)
      have hr := Rdr.gbk hr hg hop
      have e0 := Tn.gbk e0 (.inl (by simp)) hg
      clear hg
      replace hp := cX
      clear cX hu
      refine J.nil ?_
      refine J.n_block ?_
      refine J.n_then ?_
      refine J.region ?_
      refine J.op (Yd.add rfl rfl (by first | omega | exact idx_u8' _ | (simp only [Int.toNat_natCast]; omega) | (simp only [List.length_map, List.length_drop, List.length_take, List.length_append, List.length_replicate]; omega) | (simp <;> omega))) rfl ?_
      refine J.op (Yd.move rfl) rfl ?_
      refine J.nil ?_
      refine J.n_then ?_
      exact J.round ((1, (q.toNat : Int), y1, y2, r.drop k)) ⟨rfl, rfl, rfl, rfl, rfl, trivial⟩ (⟨by show _ ≤ 3; omega, hN2, (by show (List.drop k r).length ≤ 1000000; rw [List.length_drop]; omega), hr, hp, os, e0⟩) (by show 3 - _ < 3 - _; omega)
    · skip
      refine J.op (Yd.idx Try.underlying87 ti86 rfl rfl (Ow.rd os) (by first | omega | exact idx_u8' _ | (simp only [Int.toNat_natCast]; omega) | (simp only [List.length_map, List.length_drop, List.length_take, List.length_append, List.length_replicate]; omega) | (simp <;> omega))) rfl ?_
      refine J.op (Yd.load pl86 rfl (Rd.cell (Ow.rd os) (show _ = some (.pointer (some ⟨p, 1, none⟩)) from rfl))) rfl ?_
      refine J.op (Yd.assign rfl) rfl ?_
      refine J.nil ?_
      refine J.n_then ?_
      refine J.seq ?_
      refine J.region ?_
      refine J.op (Yd.move rfl) rfl ?_
      refine J.eff (Ye.call cl40 rfl (RNum_ok hr (by omega) hg)) rfl ?_
      rintro _ w7 ⟨rfl, hr2, x1⟩
      have hp := Cel.tnk hp x1 (ApL.one apb)
      have os := Ow.tnk os x1 (ApL.one (Ap.symm ap_b_sl))
      have e0 := Tn.tnk e0 (fun q hq => by simp only [List.mem_singleton] at hq; subst hq; exact .inl (by simp)) x1
      clear x1
      replace hr := hr2
      clear hr2
      refine J.op (Yd.assign rfl) rfl ?_
      refine J.nil ?_
      refine J.n_then ?_
      refine J.seq ?_
      refine J.seq ?_
      refine J.region ?_
      refine J.op (Yd.move rfl) rfl ?_
      refine J.op (Yd.gtr rfl rfl) rfl ?_
      refine J.nil ?_
      refine J.n_then ?_
      refine J.know (t := 18) (v' := .bool false) rfl (ff (by omega)) ?_
      refine J.cond_false rfl ?_
      refine J.skip ?_
      refine J.n_then ?_
      refine J.region ?_
      refine J.op (Yd.move rfl) rfl ?_
      refine J.op (Yd.move rfl) rfl ?_
      refine J.op (Yd.cv_64_i Try.underlying81 Try.underlying3 rfl (by first | omega | exact idx_u8' _ | (simp only [Int.toNat_natCast]; omega) | (simp only [List.length_map, List.length_drop, List.length_take, List.length_append, List.length_replicate]; omega) | (simp <;> omega))) rfl ?_
      refine J.op (Yd.nilCheck rfl) rfl ?_
      refine J.eff0 (Ye.store1 ti3 hp 1 rfl rfl rfl rfl rfl rfl) ?_
      rintro _ w8 ⟨cX, hu⟩
      simp only [List.set_cons_zero, List.set_cons_succ] at cX
      have hg := hu.gb
      have os := Ow.gbk os hg (Ap.symm ap_p_sl)
      have hr := Rdr.gbk hr hg hop
      have e0 := Tn.gbk e0 (.inl (by simp)) hg
      clear hg
      replace hp := cX
      clear cX hu
      refine J.nil ?_
      refine J.n_block ?_
      refine J.n_then ?_
      refine J.region ?_
      refine J.op (Yd.add rfl rfl (by first | omega | exact idx_u8' _ | (simp only [Int.toNat_natCast]; omega) | (simp only [List.length_map, List.length_drop, List.length_take, List.length_append, List.length_replicate]; omega) | (simp <;> omega))) rfl ?_
      refine J.op (Yd.move rfl) rfl ?_
      refine J.nil ?_
      refine J.n_then ?_
      exact J.round ((2, y0, (q.toNat : Int), y2, r.drop k)) ⟨rfl, rfl, rfl, rfl, rfl, trivial⟩ (⟨by show _ ≤ 3; omega, hN2, (by show (List.drop k r).length ≤ 1000000; rw [List.length_drop]; omega), hr, hp, os, e0⟩) (by show 3 - _ < 3 - _; omega)
    · skip
      refine J.op (Yd.idx Try.underlying87 ti86 rfl rfl (Ow.rd os) (by first | omega | exact idx_u8' _ | (simp only [Int.toNat_natCast]; omega) | (simp only [List.length_map, List.length_drop, List.length_take, List.length_append, List.length_replicate]; omega) | (simp <;> omega))) rfl ?_
      refine J.op (Yd.load pl86 rfl (Rd.cell (Ow.rd os) (show _ = some (.pointer (some ⟨p, 2, none⟩)) from rfl))) rfl ?_
      refine J.op (Yd.assign rfl) rfl ?_
      refine J.nil ?_
      refine J.n_then ?_
      refine J.seq ?_
      refine J.region ?_
      refine J.op (Yd.move rfl) rfl ?_
      refine J.eff (Ye.call cl40 rfl (RNum_ok hr (by omega) hg)) rfl ?_
      rintro _ w9 ⟨rfl, hr2, x1⟩
      have hp := Cel.tnk hp x1 (ApL.one apb)
      have os := Ow.tnk os x1 (ApL.one (Ap.symm ap_b_sl))
      have e0 := Tn.tnk e0 (fun q hq => by simp only [List.mem_singleton] at hq; subst hq; exact .inl (by simp)) x1
      clear x1
      replace hr := hr2
      clear hr2
      refine J.op (Yd.assign rfl) rfl ?_
      refine J.nil ?_
      refine J.n_then ?_
      refine J.seq ?_
      refine J.seq ?_
      refine J.region ?_
      refine J.op (Yd.move rfl) rfl ?_
      refine J.op (Yd.gtr rfl rfl) rfl ?_
      refine J.nil ?_
      refine J.n_then ?_
      refine J.know (t := 18) (v' := .bool false) rfl (ff (by omega)) ?_
      refine J.cond_false rfl ?_
      refine J.skip ?_
      refine J.n_then ?_
      refine J.region ?_
      refine J.op (Yd.move rfl) rfl ?_
      refine J.op (Yd.move rfl) rfl ?_
      refine J.op (Yd.cv_64_i Try.underlying81 Try.underlying3 rfl (by first | omega | exact idx_u8' _ | (simp only [Int.toNat_natCast]; omega) | (simp only [List.length_map, List.length_drop, List.length_take, List.length_append, List.length_replicate]; omega) | (simp <;> omega))) rfl ?_
      refine J.op (Yd.nilCheck rfl) rfl ?_
      refine J.eff0 (Ye.store1 ti3 hp 2 rfl rfl rfl rfl rfl rfl) ?_
      rintro _ w10 ⟨cX, hu⟩
      simp only [List.set_cons_zero, List.set_cons_succ] at cX
      have hg := hu.gb
      have os := Ow.gbk os hg (Ap.symm ap_p_sl)
      have hr := Rdr.gbk hr hg hop
      have e0 := Tn.gbk e0 (.inl (by simp)) hg
      clear hg
      replace hp := cX
      clear cX hu
      refine J.nil ?_
      refine J.n_block ?_
      refine J.n_then ?_
      refine J.region ?_
      refine J.op (Yd.add rfl rfl (by first | omega | exact idx_u8' _ | (simp only [Int.toNat_natCast]; omega) | (simp only [List.length_map, List.length_drop, List.length_take, List.length_append, List.length_replicate]; omega) | (simp <;> omega))) rfl ?_
      refine J.op (Yd.move rfl) rfl ?_
      refine J.nil ?_
      refine J.n_then ?_
      exact J.round ((3, y0, y1, (q.toNat : Int), r.drop k)) ⟨rfl, rfl, rfl, rfl, rfl, trivial⟩ (⟨by show _ ≤ 3; omega, hN2, (by show (List.drop k r).length ≤ 1000000; rw [List.length_drop]; omega), hr, hp, os, e0⟩) (by show 3 - _ < 3 - _; omega)
  · skip
    exact absurd hN (by rw [show n = 3 by omega]; intro h; cases h)

theorem Dc_bad {K : Nat → Prop} {b p : Nat} {y0 y1 y2 : Int} {l : List UInt8} {w : World} {z0 z1 z2 : Int} {rf : List UInt8} (hr : Rdr 103 K w b l) (hp : Cel w p 29 [(0, 1, [I y0]), (1, 1, [I y1]), (2, 1, [I y2]), (3, 1, [nilS])]) (hop : Out K (some p)) (hl : l.length ≤ 1000000) (hN : rdN 3 l = some ([z0, z1, z2], rf)) (hgb : gN 0 rf 0 = none) : C Try.prog 39 [.pointer (some ⟨b, 0, none⟩), .pointer (some ⟨p, 0, none⟩)] w (Pan fun ch w' => ch = [{ v := .iface 25 (I 2), recovered := false }] ∧ (∃ y0 y1 y2 : Int, Cel w' p 29 [(0, 1, [I y0]), (1, 1, [I y1]), (2, 1, [I y2]), (3, 1, [nilS])]) ∧ Tn [some b, some p] w w') := by
  have hlb := Rdr.live hr
  have apb : Ap (some p) (some b) := fun k e1 e2 => by cases e1; cases e2; exact hop _ rfl (by obtain ⟨_, h1, _⟩ := hr; exact h1)
  have e0 := Tn.refl [(some b), (some p)] w
  refine C.enter Try.func39 rfl Try.ntmps39 rfl ?_
  refine J.seq ?_
  refine J.seq ?_
  refine J.region ?_
  refine J.op (Yd.cast (Yd.fieldA Try.underlying29 rfl ti3 rfl rfl) (show _ = Value.pointer (some ⟨p, 0, none⟩) from rfl)) rfl ?_
  refine J.op (Yd.cast (Yd.fieldA Try.underlying29 rfl ti3 rfl rfl) (show _ = Value.pointer (some ⟨p, 1, none⟩) from rfl)) rfl ?_
  refine J.op (Yd.cast (Yd.fieldA Try.underlying29 rfl ti3 rfl rfl) (show _ = Value.pointer (some ⟨p, 2, none⟩) from rfl)) rfl ?_
  refine J.eff (Ye.lit (base := w.heap.size) (vs := [.pointer (some ⟨p, 0, none⟩), .pointer (some ⟨p, 1, none⟩), .pointer (some ⟨p, 2, none⟩)]) Try.underlying87 ti86 rfl rfl rfl rfl (by intro v_ hv_; simp only [List.mem_cons, List.mem_nil_iff, or_false] at hv_; rcases hv_ with rfl | rfl | rfl <;> rfl) rfl (Nat.le_refl _)) rfl ?_
  rintro sl w1 ⟨os, x1⟩
  have ap_b_sl : Ap (some b) sl.ownBlock := Ap.mk hlb (Ow.fr os)
  have ap_p_sl : Ap (some p) sl.ownBlock := Ap.mk (Cel.live hp) (Ow.fr os)
  have fr_sl : Fr w.heap.size sl.ownBlock := Fr.le (Ow.fr os) e0.size
  replace os := Ow.base os e0.size
  have e0 := Tn.ext e0 x1
  have hp := hp.ext x1
  have hr := hr.ext x1
  clear x1
  refine J.op (Yd.cast (Yd.len Try.underlying87 rfl (Ow.rd os)) (show _ = I 3 from rfl)) rfl ?_
  refine J.op (Yd.move rfl) rfl ?_
  refine J.nil ?_
  refine J.n_then ?_
  refine J.block ?_
  refine J.loop (ι := Nat × Int × Int × Int × List UInt8) (fun i => [(10, I 3), (11, I (i.1 : Int)), (0, .pointer (some ⟨b, 0, none⟩)), (1, .pointer (some ⟨p, 0, none⟩)), (9, sl)]) (fun i w' => i.1 ≤ 3 ∧ rdN (3 - i.1) i.2.2.2.2 = some ([z0, z1, z2].drop i.1, rf) ∧ i.2.2.2.2.length ≤ 1000000 ∧ ((1 ≤ i.1 → i.2.1 = z0) ∧ (2 ≤ i.1 → i.2.2.1 = z1) ∧ (3 ≤ i.1 → i.2.2.2.1 = z2)) ∧ Rdr 103 K w' b i.2.2.2.2 ∧ Cel w' p 29 [(0, 1, [I i.2.1]), (1, 1, [I i.2.2.1]), (2, 1, [I i.2.2.2.1]), (3, 1, [nilS])] ∧ Ow w.heap.size 86 w' sl [.pointer (some ⟨p, 0, none⟩), .pointer (some ⟨p, 1, none⟩), .pointer (some ⟨p, 2, none⟩)] ∧ Tn [(some b), (some p)] w w') (fun i => 3 - i.1) ((0, y0, y1, y2, l)) ⟨rfl, rfl, rfl, rfl, rfl, trivial⟩ (⟨Nat.zero_le _, hN, hl, ⟨fun h => by omega, fun h => by omega, fun h => by omega⟩, hr, hp, os, e0⟩) ?_
  rintro ⟨n, y0, y1, y2, r⟩ w2 ⟨hk, hN, hln, hz, hr, hp, os, e0⟩
  dsimp only at *
  refine J.seq ?_
  refine J.region ?_
  refine J.op (Yd.lss rfl rfl) rfl ?_
  refine J.nil ?_
  refine J.n_then ?_
  refine J.seq ?_
  refine J.cond_dec rfl (fun hc0 => ?_) (fun hc0 => ?_)
  · skip
    refine J.skip ?_
    refine J.n_then ?_
    refine J.seq ?_
    refine J.block ?_
    refine J.seq ?_
    refine J.region ?_
    rcases n3s (stepS (show n < 3 by omega) hN) (by omega) hz with ⟨q, k, hg, hq, hkl, rfl, hN2, hz2⟩ | ⟨q, k, hg, hq, hkl, rfl, hN2, hz2⟩ | ⟨q, k, hg, hq, hkl, rfl, hN2, hz2⟩
    · skip
      refine J.op (Yd.idx Try.underlying87 ti86 rfl rfl (Ow.rd os) (by first | omega | exact idx_u8' _ | (simp only [Int.toNat_natCast]; omega) | (simp only [List.length_map, List.length_drop, List.length_take, List.length_append, List.length_replicate]; omega) | (simp <;> omega))) rfl ?_
      refine J.op (Yd.load pl86 rfl (Rd.cell (Ow.rd os) (show _ = some (.pointer (some ⟨p, 0, none⟩)) from rfl))) rfl ?_
      refine J.op (Yd.assign rfl) rfl ?_
      refine J.nil ?_
      refine J.n_then ?_
      refine J.seq ?_
      refine J.region ?_
      refine J.op (Yd.move rfl) rfl ?_
      refine J.eff (Ye.call cl40 rfl (RNum_ok hr (by omega) hg)) rfl ?_
      rintro _ w3 ⟨rfl, hr2, x1⟩
      have hp := Cel.tnk hp x1 (ApL.one apb)
      have os := Ow.tnk os x1 (ApL.one (Ap.symm ap_b_sl))
      have e0 := Tn.tnk e0 (fun q hq => by simp only [List.mem_singleton] at hq; subst hq; exact .inl (by simp)) x1
      clear x1
      replace hr := hr2
      clear hr2
      refine J.op (Yd.assign rfl) rfl ?_
      refine J.nil ?_
      refine J.n_then ?_
      refine J.seq ?_
      refine J.seq ?_
      refine J.region ?_
      refine J.op (Yd.move rfl) rfl ?_
      refine J.op (Yd.gtr rfl rfl) rfl ?_
      refine J.nil ?_
      refine J.n_then ?_
      refine J.know (t := 18) (v' := .bool false) rfl (ff (by omega)) ?_
      refine J.cond_false rfl ?_
      refine J.skip ?_
      refine J.n_then ?_
      refine J.region ?_
      refine J.op (Yd.move rfl) rfl ?_
      refine J.op (Yd.move rfl) rfl ?_
      refine J.op (Yd.cv_64_i Try.underlying81 Try.underlying3 rfl (by first | omega | exact idx_u8' _ | (simp only [Int.toNat_natCast]; omega) | (simp only [List.length_map, List.length_drop, List.length_take, List.length_append, List.length_replicate]; omega) | (simp <;> omega))) rfl ?_
      refine J.op (Yd.nilCheck rfl) rfl ?_
      refine J.eff0 (Ye.store1 ti3 hp 0 rfl rfl rfl rfl rfl rfl) ?_
      rintro _ w4 ⟨cX, hu⟩
      simp only [List.set_cons_zero, List.set_cons_succ] at cX
      have hg := hu.gb
      have os := Ow.gbk os hg (Ap.symm ap_p_sl)
      have hr := Rdr.gbk hr hg hop
      have e0 := Tn.gbk e0 (.inl (by simp)) hg
      clear hg
      replace hp := cX
      clear cX hu
      refine J.nil ?_
      refine J.n_block ?_
      refine J.n_then ?_
      refine J.region ?_
      refine J.op (Yd.add rfl rfl (by first | omega | exact idx_u8' _ | (simp only [Int.toNat_natCast]; omega) | (simp only [List.length_map, List.length_drop, List.length_take, List.length_append, List.length_replicate]; omega) | (simp <;> omega))) rfl ?_
      refine J.op (Yd.move rfl) rfl ?_
      refine J.nil ?_
      refine J.n_then ?_
      exact J.round ((1, (q.toNat : Int), y1, y2, r.drop k)) ⟨rfl, rfl, rfl, rfl, rfl, trivial⟩ (⟨by show _ ≤ 3; omega, hN2, (by show (List.drop k r).length ≤ 1000000; rw [List.length_drop]; omega), hz2, hr, hp, os, e0⟩) (by show 3 - _ < 3 - _; omega)
    · skip
      refine J.op (Yd.idx Try.underlying87 ti86 rfl rfl (Ow.rd os) (by first | omega | exact idx_u8' _ | (simp only [Int.toNat_natCast]; omega) | (simp only [List.length_map, List.length_drop, List.length_take, List.length_append, List.length_replicate]; omega) | (simp <;> omega))) rfl ?_
      refine J.op (Yd.load pl86 rfl (Rd.cell (Ow.rd os) (show _ = some (.pointer (some ⟨p, 1, none⟩)) from rfl))) rfl ?_
      refine J.op (Yd.assign rfl) rfl ?_
      refine J.nil ?_
      refine J.n_then ?_
      refine J.seq ?_
      refine J.region ?_
      refine J.op (Yd.move rfl) rfl ?_
      refine J.eff (Ye.call cl40 rfl (RNum_ok hr (by omega) hg)) rfl ?_
      rintro _ w5 ⟨rfl, hr2, x1⟩
      have hp := Cel.tnk hp x1 (ApL.one apb)
      have os := Ow.tnk os x1 (ApL.one (Ap.symm ap_b_sl))
      have e0 := Tn.tnk e0 (fun q hq => by simp only [List.mem_singleton] at hq; subst hq; exact .inl (by simp)) x1
      clear x1
      replace hr := hr2
      clear hr2
      refine J.op (Yd.assign rfl) rfl ?_
      refine J.nil ?_
      refine J.n_then ?_
      refine J.seq ?_
      refine J.seq ?_
      refine J.region ?_
      refine J.op (Yd.move rfl) rfl ?_
      refine J.op (Yd.gtr rfl rfl) rfl ?_
      refine J.nil ?_
      refine J.n_then ?_
      refine J.know (t := 18) (v' := .bool false) rfl (ff (by omega)) ?_
      refine J.cond_false rfl ?_
      refine J.skip ?_
      refine J.n_then ?_
      refine J.region ?_
      refine J.op (Yd.move rfl) rfl ?_
      refine J.op (Yd.move rfl) rfl ?_
      refine J.op (Yd.cv_64_i Try.underlying81 Try.underlying3 rfl (by first | omega | exact idx_u8' _ | (simp only [Int.toNat_natCast]; omega) | (simp only [List.length_map, List.length_drop, List.length_take, List.length_append, List.length_replicate]; omega) | (simp <;> omega))) rfl ?_
      refine J.op (Yd.nilCheck rfl) rfl ?_
      refine J.eff0 (Ye.store1 ti3 hp 1 rfl rfl rfl rfl rfl rfl) ?_
      rintro _ w6 ⟨cX, hu⟩
      simp only [List.set_cons_zero, List.set_cons_succ] at cX
      have hg := hu.gb
      have os := Ow.gbk os hg (Ap.symm ap_p_sl)
      have hr := Rdr.gbk hr hg hop
      have e0 := Tn.gbk e0 (.inl (by simp)) hg
      clear hg
      replace hp := cX
      clear cX hu
      refine J.nil ?_
      refine J.n_block ?_
      refine J.n_then ?_
      refine J.region ?_
      refine J.op (Yd.add rfl rfl (by first | omega | exact idx_u8' _ | (simp only [Int.toNat_natCast]; omega) | (simp only [List.length_map, List.length_drop, List.length_take, List.length_append, List.length_replicate]; omega) | (simp <;> omega))) rfl ?_
      refine J.op (Yd.move rfl) rfl ?_
      refine J.nil ?_
      refine J.n_then ?_
      exact J.round ((2, y0, (q.toNat : Int), y2, r.drop k)) ⟨rfl, rfl, rfl, rfl, rfl, trivial⟩ (⟨by show _ ≤ 3; omega, hN2, (by show (List.drop k r).length ≤ 1000000; rw [List.length_drop]; omega), hz2, hr, hp, os, e0⟩) (by show 3 - _ < 3 - _; omega)
    · skip
      refine J.op (Yd.idx Try.underlying87 ti86 rfl rfl (Ow.rd os) (by first | omega | exact idx_u8' _ | (simp only [Int.toNat_natCast]; omega) | (simp only [List.length_map, List.length_drop, List.length_take, List.length_append, List.length_replicate]; omega) | (simp <;> omega))) rfl ?_
      refine J.op (Yd.load pl86 rfl (Rd.cell (Ow.rd os) (show _ = some (.pointer (some ⟨p, 2, none⟩)) from rfl))) rfl ?_
      refine J.op (Yd.assign rfl) rfl ?_
      refine J.nil ?_
      refine J.n_then ?_
      refine J.seq ?_
      refine J.region ?_
      refine J.op (Yd.move rfl) rfl ?_
      refine J.eff (Ye.call cl40 rfl (RNum_ok hr (by omega) hg)) rfl ?_
      rintro _ w7 ⟨rfl, hr2, x1⟩
      have hp := Cel.tnk hp x1 (ApL.one apb)
      have os := Ow.tnk os x1 (ApL.one (Ap.symm ap_b_sl))
      have e0 := Tn.tnk e0 (fun q hq => by simp only [List.mem_singleton] at hq; subst hq; exact .inl (by simp)) x1
      clear x1
      replace hr := hr2
      clear hr2
      refine J.op (Yd.assign rfl) rfl ?_
      refine J.nil ?_
      refine J.n_then ?_
      refine J.seq ?_
      refine J.seq ?_
      refine J.region ?_
      refine J.op (Yd.move rfl) rfl ?_
      refine J.op (Yd.gtr rfl rfl) rfl ?_
      refine J.nil ?_
      refine J.n_then ?_
      refine J.know (t := 18) (v' := .bool false) rfl (ff (by omega)) ?_
      refine J.cond_false rfl ?_
      refine J.skip ?_
      refine J.n_then ?_
      refine J.region ?_
      refine J.op (Yd.move rfl) rfl ?_
      refine J.op (Yd.move rfl) rfl ?_
      refine J.op (Yd.cv_64_i Try.underlying81 Try.underlying3 rfl (by first | omega | exact idx_u8' _ | (simp only [Int.toNat_natCast]; omega) | (simp only [List.length_map, List.length_drop, List.length_take, List.length_append, List.length_replicate]; omega) | (simp <;> omega))) rfl ?_
      refine J.op (Yd.nilCheck rfl) rfl ?_
      refine J.eff0 (Ye.store1 ti3 hp 2 rfl rfl rfl rfl rfl rfl) ?_
      rintro _ w8 ⟨cX, hu⟩
      simp only [List.set_cons_zero, List.set_cons_succ] at cX
      have hg := hu.gb
      have os := Ow.gbk os hg (Ap.symm ap_p_sl)
      have hr := Rdr.gbk hr hg hop
      have e0 := Tn.gbk e0 (.inl (by simp)) hg
      clear hg
      replace hp := cX
      clear cX hu
      refine J.nil ?_
      refine J.n_block ?_
      refine J.n_then ?_
      refine J.region ?_
      refine J.op (Yd.add rfl rfl (by first | omega | exact idx_u8' _ | (simp only [Int.toNat_natCast]; omega) | (simp only [List.length_map, List.length_drop, List.length_take, List.length_append, List.length_replicate]; omega) | (simp <;> omega))) rfl ?_
      refine J.op (Yd.move rfl) rfl ?_
      refine J.nil ?_
      refine J.n_then ?_
      exact J.round ((3, y0, y1, (q.toNat : Int), r.drop k)) ⟨rfl, rfl, rfl, rfl, rfl, trivial⟩ (⟨by show _ ≤ 3; omega, hN2, (by show (List.drop k r).length ≤ 1000000; rw [List.length_drop]; omega), hz2, hr, hp, os, e0⟩) (by show 3 - _ < 3 - _; omega)
  · skip
    obtain rfl : n = 3 := by omega
    obtain rfl := hz.1 (by decide)
    obtain rfl := hz.2.1 (by decide)
    obtain rfl := hz.2.2 (by decide)
    obtain rfl : r = rf := by cases hN; rfl
    refine J.exit ?_
    refine J.x_then ?_
    refine J.x_then ?_
    refine J.x_block ?_
    refine J.n_then ?_
    refine J.region ?_
    refine J.op (Yd.move rfl) rfl ?_
    refine J.pan (Yp.call cl41 rfl (RBytes_bad hr (by omega) (by decide) hgb)) ?_
    rintro _ w9 ⟨rfl, x1⟩
    have hp := Cel.tnk hp x1 (ApL.one apb)
    have os := Ow.tnk os x1 (ApL.one (Ap.symm ap_b_sl))
    have e0 := Tn.tnk e0 (fun q hq => by simp only [List.mem_singleton] at hq; subst hq; exact .inl (by simp)) x1
    clear x1
    exact J.fin_p (⟨_, rfl, rfl, ⟨_, _, _, hp⟩, e0⟩)

theorem Dc_big {K : Nat → Prop} {b p : Nat} {y0 y1 y2 : Int} {l : List UInt8} {w : World} {z0 z1 z2 : Int} {rf : List UInt8} (hr : Rdr 103 K w b l) (hp : Cel w p 29 [(0, 1, [I y0]), (1, 1, [I y1]), (2, 1, [I y2]), (3, 1, [nilS])]) (hop : Out K (some p)) (hl : l.length ≤ 1000000) (hN : rdN 3 l = some ([z0, z1, z2], rf)) {qb : UInt64} {kb : Nat} (hgb : gN 0 rf 0 = some (qb, kb)) (hqb : ¬ qb.toNat ≤ 1000) : C Try.prog 39 [.pointer (some ⟨b, 0, none⟩), .pointer (some ⟨p, 0, none⟩)] w (Pan fun ch w' => ch = [{ v := .iface 25 (I 11), recovered := false }] ∧ (∃ y0 y1 y2 : Int, Cel w' p 29 [(0, 1, [I y0]), (1, 1, [I y1]), (2, 1, [I y2]), (3, 1, [nilS])]) ∧ Tn [some b, some p] w w') := by
  have hlb := Rdr.live hr
  have apb : Ap (some p) (some b) := fun k e1 e2 => by cases e1; cases e2; exact hop _ rfl (by obtain ⟨_, h1, _⟩ := hr; exact h1)
  have e0 := Tn.refl [(some b), (some p)] w
  refine C.enter Try.func39 rfl Try.ntmps39 rfl ?_
  refine J.seq ?_
  refine J.seq ?_
  refine J.region ?_
  refine J.op (Yd.cast (Yd.fieldA Try.underlying29 rfl ti3 rfl rfl) (show _ = Value.pointer (some ⟨p, 0, none⟩) from rfl)) rfl ?_
  refine J.op (Yd.cast (Yd.fieldA Try.underlying29 rfl ti3 rfl rfl) (show _ = Value.pointer (some ⟨p, 1, none⟩) from rfl)) rfl ?_
  refine J.op (Yd.cast (Yd.fieldA Try.underlying29 rfl ti3 rfl rfl) (show _ = Value.pointer (some ⟨p, 2, none⟩) from rfl)) rfl ?_
  refine J.eff (Ye.lit (base := w.heap.size) (vs := [.pointer (some ⟨p, 0, none⟩), .pointer (some ⟨p, 1, none⟩), .pointer (some ⟨p, 2, none⟩)]) Try.underlying87 ti86 rfl rfl rfl rfl (by intro v_ hv_; simp only [List.mem_cons, List.mem_nil_iff, or_false] at hv_; rcases hv_ with rfl | rfl | rfl <;> rfl) rfl (Nat.le_refl _)) rfl ?_
  rintro sl w1 ⟨os, x1⟩
  have ap_b_sl : Ap (some b) sl.ownBlock := Ap.mk hlb (Ow.fr os)
  have ap_p_sl : Ap (some p) sl.ownBlock := Ap.mk (Cel.live hp) (Ow.fr os)
  have fr_sl : Fr w.heap.size sl.ownBlock := Fr.le (Ow.fr os) e0.size
  replace os := Ow.base os e0.size
  have e0 := Tn.ext e0 x1
  have hp := hp.ext x1
  have hr := hr.ext x1
  clear x1
  refine J.op (Yd.cast (Yd.len Try.underlying87 rfl (Ow.rd os)) (show _ = I 3 from rfl)) rfl ?_
  refine J.op (Yd.move rfl) rfl ?_
  refine J.nil ?_
  refine J.n_then ?_
  refine J.block ?_
  refine J.loop (ι := Nat × Int × Int × Int × List UInt8) (fun i => [(10, I 3), (11, I (i.1 : Int)), (0, .pointer (some ⟨b, 0, none⟩)), (1, .pointer (some ⟨p, 0, none⟩)), (9, sl)]) (fun i w' => i.1 ≤ 3 ∧ rdN (3 - i.1) i.2.2.2.2 = some ([z0, z1, z2].drop i.1, rf) ∧ i.2.2.2.2.length ≤ 1000000 ∧ ((1 ≤ i.1 → i.2.1 = z0) ∧ (2 ≤ i.1 → i.2.2.1 = z1) ∧ (3 ≤ i.1 → i.2.2.2.1 = z2)) ∧ Rdr 103 K w' b i.2.2.2.2 ∧ Cel w' p 29 [(0, 1, [I i.2.1]), (1, 1, [I i.2.2.1]), (2, 1, [I i.2.2.2.1]), (3, 1, [nilS])] ∧ Ow w.heap.size 86 w' sl [.pointer (some ⟨p, 0, none⟩), .pointer (some ⟨p, 1, none⟩), .pointer (some ⟨p, 2, none⟩)] ∧ Tn [(some b), (some p)] w w') (fun i => 3 - i.1) ((0, y0, y1, y2, l)) ⟨rfl, rfl, rfl, rfl, rfl, trivial⟩ (⟨Nat.zero_le _, hN, hl, ⟨fun h => by omega, fun h => by omega, fun h => by omega⟩, hr, hp, os, e0⟩) ?_
  rintro ⟨n, y0, y1, y2, r⟩ w2 ⟨hk, hN, hln, hz, hr, hp, os, e0⟩
  dsimp only at *
  refine J.seq ?_
  refine J.region ?_
  refine J.op (Yd.lss rfl rfl) rfl ?_
  refine J.nil ?_
  refine J.n_then ?_
  refine J.seq ?_
  refine J.cond_dec rfl (fun hc0 => ?_) (fun hc0 => ?_)
  · skip
    refine J.skip ?_
    refine J.n_then ?_
    refine J.seq ?_
    refine J.block ?_
    refine J.seq ?_
    refine J.region ?_
    rcases n3s (stepS (show n < 3 by omega) hN) (by omega) hz with ⟨q, k, hg, hq, hkl, rfl, hN2, hz2⟩ | ⟨q, k, hg, hq, hkl, rfl, hN2, hz2⟩ | ⟨q, k, hg, hq, hkl, rfl, hN2, hz2⟩
    · skip
      refine J.op (Yd.idx Try.underlying87 ti86 rfl rfl (Ow.rd os) (by first | omega | exact idx_u8' _ | (simp only [Int.toNat_natCast]; omega) | (simp only [List.length_map, List.length_drop, List.length_take, List.length_append, List.length_replicate]; omega) | (simp <;> omega))) rfl ?_
      refine J.op (Yd.load pl86 rfl (Rd.cell (Ow.rd os) (show _ = some (.pointer (some ⟨p, 0, none⟩)) from rfl))) rfl ?_
      refine J.op (Yd.assign rfl) rfl ?_
      refine J.nil ?_
      refine J.n_then ?_
      refine J.seq ?_
      refine J.region ?_
      refine J.op (Yd.move rfl) rfl ?_
      refine J.eff (Ye.call cl40 rfl (RNum_ok hr (by omega) hg)) rfl ?_
      rintro _ w3 ⟨rfl, hr2, x1⟩
      have hp := Cel.tnk hp x1 (ApL.one apb)
      have os := Ow.tnk os x1 (ApL.one (Ap.symm ap_b_sl))
      have e0 := Tn.tnk e0 (fun q hq => by simp only [List.mem_singleton] at hq; subst hq; exact .inl (by simp)) x1
      clear x1
      replace hr := hr2
      clear hr2
      refine J.op (Yd.assign rfl) rfl ?_
      refine J.nil ?_
      refine J.n_then ?_
      refine J.seq ?_
      refine J.seq ?_
      refine J.region ?_
      refine J.op (Yd.move rfl) rfl ?_
      refine J.op (Yd.gtr rfl rfl) rfl ?_
      refine J.nil ?_
      refine J.n_then ?_
      refine J.know (t := 18) (v' := .bool false) rfl (ff (by omega)) ?_
      refine J.cond_false rfl ?_
      refine J.skip ?_
      refine J.n_then ?_
      refine J.region ?_
      refine J.op (Yd.move rfl) rfl ?_
      refine J.op (Yd.move rfl) rfl ?_
      refine J.op (Yd.cv_64_i Try.underlying81 Try.underlying3 rfl (by first | omega | exact idx_u8' _ | (simp only [Int.toNat_natCast]; omega) | (simp only [List.length_map, List.length_drop, List.length_take, List.length_append, List.length_replicate]; omega) | (simp <;> omega))) rfl ?_
      refine J.op (Yd.nilCheck rfl) rfl ?_
      refine J.eff0 (Ye.store1 ti3 hp 0 rfl rfl rfl rfl rfl rfl) ?_
      rintro _ w4 ⟨cX, hu⟩
      simp only [List.set_cons_zero, List.set_cons_succ] at cX
      have hg := hu.gb
      have os := Ow.gbk os hg (Ap.symm ap_p_sl)
      have hr := Rdr.gbk hr hg hop
      have e0 := Tn.gbk e0 (.inl (by simp)) hg
      clear hg
      replace hp := cX
      clear cX hu
      refine J.nil ?_
      refine J.n_block ?_
      refine J.n_then ?_
      refine J.region ?_
      refine J.op (Yd.add rfl rfl (by first | omega | exact idx_u8' _ | (simp only [Int.toNat_natCast]; omega) | (simp only [List.length_map, List.length_drop, List.length_take, List.length_append, List.length_replicate]; omega) | (simp <;> omega))) rfl ?_
      refine J.op (Yd.move rfl) rfl ?_
      refine J.nil ?_
      refine J.n_then ?_
      exact J.round ((1, (q.toNat : Int), y1, y2, r.drop k)) ⟨rfl, rfl, rfl, rfl, rfl, trivial⟩ (⟨by show _ ≤ 3; omega, hN2, (by show (List.drop k r).length ≤ 1000000; rw [List.length_drop]; omega), hz2, hr, hp, os, e0⟩) (by show 3 - _ < 3 - _; omega)
    · skip
      refine J.op (Yd.idx Try.underlying87 ti86 rfl rfl (Ow.rd os) (by first | omega | exact idx_u8' _ | (simp only [Int.toNat_natCast]; omega) | (simp only [List.length_map, List.length_drop, List.length_take, List.length_append, List.length_replicate]; omega) | (simp <;> omega))) rfl ?_
      refine J.op (Yd.load pl86 rfl (Rd.cell (Ow.rd os) (show _ = some (.pointer (some ⟨p, 1, none⟩)) from rfl))) rfl ?_
      refine J.op (Yd.assign rfl) rfl ?_
      refine J.nil ?_
      refine J.n_then ?_
      refine J.seq ?_
      refine J.region ?_
      refine J.op (Yd.move rfl) rfl ?_
      refine J.eff (Ye.call cl40 rfl (RNum_ok hr (by omega) hg)) rfl ?_
      rintro _ w5 ⟨rfl, hr2, x1⟩
      have hp := Cel.tnk hp x1 (ApL.one apb)
      have os := Ow.tnk os x1 (ApL.one (Ap.symm ap_b_sl))
      have e0 := Tn.tnk e0 (fun q hq => by simp only [List.mem_singleton] at hq; subst hq; exact .inl (by simp)) x1
      clear x1
      replace hr := hr2
      clear hr2
      refine J.op (Yd.assign rfl) rfl ?_
      refine J.nil ?_
      refine J.n_then ?_
      refine J.seq ?_
      refine J.seq ?_
      refine J.region ?_
      refine J.op (Yd.move rfl) rfl ?_
      refine J.op (Yd.gtr rfl rfl) rfl ?_
      refine J.nil ?_
      refine J.n_then ?_
      refine J.know (t := 18) (v' := .bool false) rfl (ff (by omega)) ?_
      refine J.cond_false rfl ?_
      refine J.skip ?_
      refine J.n_then ?_
      refine J.region ?_
      refine J.op (Yd.move rfl) rfl ?_
      refine J.op (Yd.move rfl) rfl ?_
      refine J.op (Yd.cv_64_i Try.underlying81 Try.underlying3 rfl (by first | omega | exact idx_u8' _ | (simp only [Int.toNat_natCast]; omega) | (simp only [List.length_map, List.length_drop, List.length_take, List.length_append, List.length_replicate]; omega) | (simp <;> omega))) rfl ?_
      refine J.op (Yd.nilCheck rfl) rfl ?_
      refine J.eff0 (Ye.store1 ti3 hp 1 rfl rfl rfl rfl rfl rfl) ?_
      rintro _ w6 ⟨cX, hu⟩
      simp only [List.set_cons_zero, List.set_cons_succ] at cX
      have hg := hu.gb
      have os := Ow.gbk os hg (Ap.symm ap_p_sl)
      have hr := Rdr.gbk hr hg hop
      have e0 := Tn.gbk e0 (.inl (by simp)) hg
      clear hg
      replace hp := cX
      clear cX hu
      refine J.nil ?_
      refine J.n_block ?_
      refine J.n_then ?_
      refine J.region ?_
      refine J.op (Yd.add rfl rfl (by first | omega | exact idx_u8' _ | (simp only [Int.toNat_natCast]; omega) | (simp only [List.length_map, List.length_drop, List.length_take, List.length_append, List.length_replicate]; omega) | (simp <;> omega))) rfl ?_
      refine J.op (Yd.move rfl) rfl ?_
      refine J.nil ?_
      refine J.n_then ?_
      exact J.round ((2, y0, (q.toNat : Int), y2, r.drop k)) ⟨rfl, rfl, rfl, rfl, rfl, trivial⟩ (⟨by show _ ≤ 3; omega, hN2, (by show (List.drop k r).length ≤ 1000000; rw [List.length_drop]; omega), hz2, hr, hp, os, e0⟩) (by show 3 - _ < 3 - _; omega)
    · skip
      refine J.op (Yd.idx Try.underlying87 ti86 rfl rfl (Ow.rd os) (by first | omega | exact idx_u8' _ | (simp only [Int.toNat_natCast]; omega) | (simp only [List.length_map, List.length_drop, List.length_take, List.length_append, List.length_replicate]; omega) | (simp <;> omega))) rfl ?_
      refine J.op (Yd.load pl86 rfl (Rd.cell (Ow.rd os) (show _ = some (.pointer (some ⟨p, 2, none⟩)) from rfl))) rfl ?_
      refine J.op (Yd.assign rfl) rfl ?_
      refine J.nil ?_
      refine J.n_then ?_
      refine J.seq ?_
      refine J.region ?_
      refine J.op (Yd.move rfl) rfl ?_
      refine J.eff (Ye.call cl40 rfl (RNum_ok hr (by omega) hg)) rfl ?_
      rintro _ w7 ⟨rfl, hr2, x1⟩
      have hp := Cel.tnk hp x1 (ApL.one apb)
      have os := Ow.tnk os x1 (ApL.one (Ap.symm ap_b_sl))
      have e0 := Tn.tnk e0 (fun q hq => by simp only [List.mem_singleton] at hq; subst hq; exact .inl (by simp)) x1
      clear x1
      replace hr := hr2
      clear hr2
      refine J.op (Yd.assign rfl) rfl ?_
      refine J.nil ?_
      refine J.n_then ?_
      refine J.seq ?_
      refine J.seq ?_
      refine J.region ?_
      refine J.op (Yd.move rfl) rfl ?_
      refine J.op (Yd.gtr rfl rfl) rfl ?_
      refine J.nil ?_
      refine J.n_then ?_
      refine J.know (t := 18) (v' := .bool false) rfl (ff (by omega)) ?_
      refine J.cond_false rfl ?_
      refine J.skip ?_
      refine J.n_then ?_
      refine J.region ?_
      refine J.op (Yd.move rfl) rfl ?_
      refine J.op (Yd.move rfl) rfl ?_
      refine J.op (Yd.cv_64_i Try.underlying81 Try.underlying3 rfl (by first | omega | exact idx_u8' _ | (simp only [Int.toNat_natCast]; omega) | (simp only [List.length_map, List.length_drop, List.length_take, List.length_append, List.length_replicate]; omega) | (simp <;> omega))) rfl ?_
      refine J.op (Yd.nilCheck rfl) rfl ?_
      refine J.eff0 (Ye.store1 ti3 hp 2 rfl rfl rfl rfl rfl rfl) ?_
      rintro _ w8 ⟨cX, hu⟩
      simp only [List.set_cons_zero, List.set_cons_succ] at cX
      have hg := hu.gb
      have os := Ow.gbk os hg (Ap.symm ap_p_sl)
      have hr := Rdr.gbk hr hg hop
      have e0 := Tn.gbk e0 (.inl (by simp)) hg
      clear hg
      replace hp := cX
      clear cX hu
      refine J.nil ?_
      refine J.n_block ?_
      refine J.n_then ?_
      refine J.region ?_
      refine J.op (Yd.add rfl rfl (by first | omega | exact idx_u8' _ | (simp only [Int.toNat_natCast]; omega) | (simp only [List.length_map, List.length_drop, List.length_take, List.length_append, List.length_replicate]; omega) | (simp <;> omega))) rfl ?_
      refine J.op (Yd.move rfl) rfl ?_
      refine J.nil ?_
      refine J.n_then ?_
      exact J.round ((3, y0, y1, (q.toNat : Int), r.drop k)) ⟨rfl, rfl, rfl, rfl, rfl, trivial⟩ (⟨by show _ ≤ 3; omega, hN2, (by show (List.drop k r).length ≤ 1000000; rw [List.length_drop]; omega), hz2, hr, hp, os, e0⟩) (by show 3 - _ < 3 - _; omega)
  · skip
    obtain rfl : n = 3 := by omega
    obtain rfl := hz.1 (by decide)
    obtain rfl := hz.2.1 (by decide)
    obtain rfl := hz.2.2 (by decide)
    obtain rfl : r = rf := by cases hN; rfl
    refine J.exit ?_
    refine J.x_then ?_
    refine J.x_then ?_
    refine J.x_block ?_
    refine J.n_then ?_
    refine J.region ?_
    refine J.op (Yd.move rfl) rfl ?_
    refine J.pan (Yp.call cl41 rfl (RBytes_big hr (by omega) (by decide) hgb (by omega))) ?_
    rintro _ w9 ⟨rfl, x1⟩
    have hp := Cel.tnk hp x1 (ApL.one apb)
    have os := Ow.tnk os x1 (ApL.one (Ap.symm ap_b_sl))
    have e0 := Tn.tnk e0 (fun q hq => by simp only [List.mem_singleton] at hq; subst hq; exact .inl (by simp)) x1
    clear x1
    exact J.fin_p (⟨_, rfl, rfl, ⟨_, _, _, hp⟩, e0⟩)

theorem Dc_short {K : Nat → Prop} {b p : Nat} {y0 y1 y2 : Int} {l : List UInt8} {w : World} {z0 z1 z2 : Int} {rf : List UInt8} (hr : Rdr 103 K w b l) (hp : Cel w p 29 [(0, 1, [I y0]), (1, 1, [I y1]), (2, 1, [I y2]), (3, 1, [nilS])]) (hop : Out K (some p)) (hl : l.length ≤ 1000000) (hN : rdN 3 l = some ([z0, z1, z2], rf)) {qb : UInt64} {kb : Nat} (hgb : gN 0 rf 0 = some (qb, kb)) (hqb : qb.toNat ≤ 1000) (hkb : rf.length < kb + qb.toNat) : C Try.prog 39 [.pointer (some ⟨b, 0, none⟩), .pointer (some ⟨p, 0, none⟩)] w (Pan fun ch w' => ch = [{ v := .iface 25 (I 2), recovered := false }] ∧ (∃ y0 y1 y2 : Int, Cel w' p 29 [(0, 1, [I y0]), (1, 1, [I y1]), (2, 1, [I y2]), (3, 1, [nilS])]) ∧ Tn [some b, some p] w w') := by
  have hlb := Rdr.live hr
  have apb : Ap (some p) (some b) := fun k e1 e2 => by cases e1; cases e2; exact hop _ rfl (by obtain ⟨_, h1, _⟩ := hr; exact h1)
  have e0 := Tn.refl [(some b), (some p)] w
  refine C.enter Try.func39 rfl Try.ntmps39 rfl ?_
  refine J.seq ?_
  refine J.seq ?_
  refine J.region ?_
  refine J.op (Yd.cast (Yd.fieldA Try.underlying29 rfl ti3 rfl rfl) (show _ = Value.pointer (some ⟨p, 0, none⟩) from rfl)) rfl ?_
  refine J.op (Yd.cast (Yd.fieldA Try.underlying29 rfl ti3 rfl rfl) (show _ = Value.pointer (some ⟨p, 1, none⟩) from rfl)) rfl ?_
  refine J.op (Yd.cast (Yd.fieldA Try.underlying29 rfl ti3 rfl rfl) (show _ = Value.pointer (some ⟨p, 2, none⟩) from rfl)) rfl ?_
  refine J.eff (Ye.lit (base := w.heap.size) (vs := [.pointer (some ⟨p, 0, none⟩), .pointer (some ⟨p, 1, none⟩), .pointer (some ⟨p, 2, none⟩)]) Try.underlying87 ti86 rfl rfl rfl rfl (by intro v_ hv_; simp only [List.mem_cons, List.mem_nil_iff, or_false] at hv_; rcases hv_ with rfl | rfl | rfl <;> rfl) rfl (Nat.le_refl _)) rfl ?_
  rintro sl w1 ⟨os, x1⟩
  have ap_b_sl : Ap (some b) sl.ownBlock := Ap.mk hlb (Ow.fr os)
  have ap_p_sl : Ap (some p) sl.ownBlock := Ap.mk (Cel.live hp) (Ow.fr os)
  have fr_sl : Fr w.heap.size sl.ownBlock := Fr.le (Ow.fr os) e0.size
  replace os := Ow.base os e0.size
  have e0 := Tn.ext e0 x1
  have hp := hp.ext x1
  have hr := hr.ext x1
  clear x1
  refine J.op (Yd.cast (Yd.len Try.underlying87 rfl (Ow.rd os)) (show _ = I 3 from rfl)) rfl ?_
  refine J.op (Yd.move rfl) rfl ?_
  refine J.nil ?_
  refine J.n_then ?_
  refine J.block ?_
  refine J.loop (ι := Nat × Int × Int × Int × List UInt8) (fun i => [(10, I 3), (11, I (i.1 : Int)), (0, .pointer (some ⟨b, 0, none⟩)), (1, .pointer (some ⟨p, 0, none⟩)), (9, sl)]) (fun i w' => i.1 ≤ 3 ∧ rdN (3 - i.1) i.2.2.2.2 = some ([z0, z1, z2].drop i.1, rf) ∧ i.2.2.2.2.length ≤ 1000000 ∧ ((1 ≤ i.1 → i.2.1 = z0) ∧ (2 ≤ i.1 → i.2.2.1 = z1) ∧ (3 ≤ i.1 → i.2.2.2.1 = z2)) ∧ Rdr 103 K w' b i.2.2.2.2 ∧ Cel w' p 29 [(0, 1, [I i.2.1]), (1, 1, [I i.2.2.1]), (2, 1, [I i.2.2.2.1]), (3, 1, [nilS])] ∧ Ow w.heap.size 86 w' sl [.pointer (some ⟨p, 0, none⟩), .pointer (some ⟨p, 1, none⟩), .pointer (some ⟨p, 2, none⟩)] ∧ Tn [(some b), (some p)] w w') (fun i => 3 - i.1) ((0, y0, y1, y2, l)) ⟨rfl, rfl, rfl, rfl, rfl, trivial⟩ (⟨Nat.zero_le _, hN, hl, ⟨fun h => by omega, fun h => by omega, fun h => by omega⟩, hr, hp, os, e0⟩) ?_
  rintro ⟨n, y0, y1, y2, r⟩ w2 ⟨hk, hN, hln, hz, hr, hp, os, e0⟩
  dsimp only at *
  refine J.seq ?_
  refine J.region ?_
  refine J.op (Yd.lss rfl rfl) rfl ?_
  refine J.nil ?_
  refine J.n_then ?_
  refine J.seq ?_
  refine J.cond_dec rfl (fun hc0 => ?_) (fun hc0 => ?_)
  · skip
    refine J.skip ?_
    refine J.n_then ?_
    refine J.seq ?_
    refine J.block ?_
    refine J.seq ?_
    refine J.region ?_
    rcases n3s (stepS (show n < 3 by omega) hN) (by omega) hz with ⟨q, k, hg, hq, hkl, rfl, hN2, hz2⟩ | ⟨q, k, hg, hq, hkl, rfl, hN2, hz2⟩ | ⟨q, k, hg, hq, hkl, rfl, hN2, hz2⟩
    · skip
      refine J.op (Yd.idx Try.underlying87 ti86 rfl rfl (Ow.rd os) (by first | omega | exact idx_u8' _ | (simp only [Int.toNat_natCast]; omega) | (simp only [List.length_map, List.length_drop, List.length_take, List.length_append, List.length_replicate]; omega) | (simp <;> omega))) rfl ?_
      refine J.op (Yd.load pl86 rfl (Rd.cell (Ow.rd os) (show _ = some (.pointer (some ⟨p, 0, none⟩)) from rfl))) rfl ?_
      refine J.op (Yd.assign rfl) rfl ?_
      refine J.nil ?_
      refine J.n_then ?_
      refine J.seq ?_
      refine J.region ?_
      refine J.op (Yd.move rfl) rfl ?_
      refine J.eff (Ye.call cl40 rfl (RNum_ok hr (by omega) hg)) rfl ?_
      rintro _ w3 ⟨rfl, hr2, x1⟩
      have hp := Cel.tnk hp x1 (ApL.one apb)
      have os := Ow.tnk os x1 (ApL.one (Ap.symm ap_b_sl))
      have e0 := Tn.tnk e0 (fun q hq => by simp only [List.mem_singleton] at hq; subst hq; exact .inl (by simp)) x1
      clear x1
      replace hr := hr2
      clear hr2
      refine J.op (Yd.assign rfl) rfl ?_
      refine J.nil ?_
      refine J.n_then ?_
      refine J.seq ?_
      refine J.seq ?_
      refine J.region ?_
      refine J.op (Yd.move rfl) rfl ?_
      refine J.op (Yd.gtr rfl rfl) rfl ?_
      refine J.nil ?_
      refine J.n_then ?_
      refine J.know (t := 18) (v' := .bool false) rfl (ff (by omega)) ?_
      refine J.cond_false rfl ?_
      refine J.skip ?_
      refine J.n_then ?_
      refine J.region ?_
      refine J.op (Yd.move rfl) rfl ?_
      refine J.op (Yd.move rfl) rfl ?_
      refine J.op (Yd.cv_64_i Try.underlying81 Try.underlying3 rfl (by first | omega | exact idx_u8' _ | (simp only [Int.toNat_natCast]; omega) | (simp only [List.length_map, List.length_drop, List.length_take, List.length_append, List.length_replicate]; omega) | (simp <;> omega))) rfl ?_
      refine J.op (Yd.nilCheck rfl) rfl ?_
      refine J.eff0 (Ye.store1 ti3 hp 0 rfl rfl rfl rfl rfl rfl) ?_
      rintro _ w4 ⟨cX, hu⟩
      simp only [List.set_cons_zero, List.set_cons_succ] at cX
      have hg := hu.gb
      have os := Ow.gbk os hg (Ap.symm ap_p_sl)
      have hr := Rdr.gbk hr hg hop
      have e0 := Tn.gbk e0 (.inl (by simp)) hg
      clear hg
      replace hp := cX
      clear cX hu
      refine J.nil ?_
      refine J.n_block ?_
      refine J.n_then ?_
      refine J.region ?_
      refine J.op (Yd.add rfl rfl (by first | omega | exact idx_u8' _ | (simp only [Int.toNat_natCast]; omega) | (simp only [List.length_map, List.length_drop, List.length_take, List.length_append, List.length_replicate]; omega) | (simp <;> omega))) rfl ?_
      refine J.op (Yd.move rfl) rfl ?_
      refine J.nil ?_
      refine J.n_then ?_
      exact J.round ((1, (q.toNat : Int), y1, y2, r.drop k)) ⟨rfl, rfl, rfl, rfl, rfl, trivial⟩ (⟨by show _ ≤ 3; omega, hN2, (by show (List.drop k r).length ≤ 1000000; rw [List.length_drop]; omega), hz2, hr, hp, os, e0⟩) (by show 3 - _ < 3 - _; omega)
    · skip
      refine J.op (Yd.idx Try.underlying87 ti86 rfl rfl (Ow.rd os) (by first | omega | exact idx_u8' _ | (simp only [Int.toNat_natCast]; omega) | (simp only [List.length_map, List.length_drop, List.length_take, List.length_append, List.length_replicate]; omega) | (simp <;> omega))) rfl ?_
      refine J.op (Yd.load pl86 rfl (Rd.cell (Ow.rd os) (show _ = some (.pointer (some ⟨p, 1, none⟩)) from rfl))) rfl ?_
      refine J.op (Yd.assign rfl) rfl ?_
      refine J.nil ?_
      refine J.n_then ?_
      refine J.seq ?_
      refine J.region ?_
      refine J.op (Yd.move rfl) rfl ?_
      refine J.eff (Ye.call cl40 rfl (RNum_ok hr (by omega) hg)) rfl ?_
      rintro _ w5 ⟨rfl, hr2, x1⟩
      have hp := Cel.tnk hp x1 (ApL.one apb)
      have os := Ow.tnk os x1 (ApL.one (Ap.symm ap_b_sl))
      have e0 := Tn.tnk e0 (fun q hq => by simp only [List.mem_singleton] at hq; subst hq; exact .inl (by simp)) x1
      clear x1
      replace hr := hr2
      clear hr2
      refine J.op (Yd.assign rfl) rfl ?_
      refine J.nil ?_
      refine J.n_then ?_
      refine J.seq ?_
      refine J.seq ?_
      refine J.region ?_
      refine J.op (Yd.move rfl) rfl ?_
      refine J.op (Yd.gtr rfl rfl) rfl ?_
      refine J.nil ?_
      refine J.n_then ?_
      refine J.know (t := 18) (v' := .bool false) rfl (ff (by omega)) ?_
      refine J.cond_false rfl ?_
      refine J.skip ?_
      refine J.n_then ?_
      refine J.region ?_
      refine J.op (Yd.move rfl) rfl ?_
      refine J.op (Yd.move rfl) rfl ?_
      refine J.op (Yd.cv_64_i Try.underlying81 Try.underlying3 rfl (by first | omega | exact idx_u8' _ | (simp only [Int.toNat_natCast]; omega) | (simp only [List.length_map, List.length_drop, List.length_take, List.length_append, List.length_replicate]; omega) | (simp <;> omega))) rfl ?_
      refine J.op (Yd.nilCheck rfl) rfl ?_
      refine J.eff0 (Ye.store1 ti3 hp 1 rfl rfl rfl rfl rfl rfl) ?_
      rintro _ w6 ⟨cX, hu⟩
      simp only [List.set_cons_zero, List.set_cons_succ] at cX
      have hg := hu.gb
      have os := Ow.gbk os hg (Ap.symm ap_p_sl)
      have hr := Rdr.gbk hr hg hop
      have e0 := Tn.gbk e0 (.inl (by simp)) hg
      clear hg
      replace hp := cX
      clear cX hu
      refine J.nil ?_
      refine J.n_block ?_
      refine J.n_then ?_
      refine J.region ?_
      refine J.op (Yd.add rfl rfl (by first | omega | exact idx_u8' _ | (simp only [Int.toNat_natCast]; omega) | (simp only [List.length_map, List.length_drop, List.length_take, List.length_append, List.length_replicate]; omega) | (simp <;> omega))) rfl ?_
      refine J.op (Yd.move rfl) rfl ?_
      refine J.nil ?_
      refine J.n_then ?_
      exact J.round ((2, y0, (q.toNat : Int), y2, r.drop k)) ⟨rfl, rfl, rfl, rfl, rfl, trivial⟩ (⟨by show _ ≤ 3; omega, hN2, (by show (List.drop k r).length ≤ 1000000; rw [List.length_drop]; omega), hz2, hr, hp, os, e0⟩) (by show 3 - _ < 3 - _; omega)
    · skip
      refine J.op (Yd.idx Try.underlying87 ti86 rfl rfl (Ow.rd os) (by first | omega | exact idx_u8' _ | (simp only [Int.toNat_natCast]; omega) | (simp only [List.length_map, List.length_drop, List.length_take, List.length_append, List.length_replicate]; omega) | (simp <;> omega))) rfl ?_
      refine J.op (Yd.load pl86 rfl (Rd.cell (Ow.rd os) (show _ = some (.pointer (some ⟨p, 2, none⟩)) from rfl))) rfl ?_
      refine J.op (Yd.assign rfl) rfl ?_
      refine J.nil ?_
      refine J.n_then ?_
      refine J.seq ?_
      refine J.region ?_
      refine J.op (Yd.move rfl) rfl ?_
      refine J.eff (Ye.call cl40 rfl (RNum_ok hr (by omega) hg)) rfl ?_
      rintro _ w7 ⟨rfl, hr2, x1⟩
      have hp := Cel.tnk hp x1 (ApL.one apb)
      have os := Ow.tnk os x1 (ApL.one (Ap.symm ap_b_sl))
      have e0 := Tn.tnk e0 (fun q hq => by simp only [List.mem_singleton] at hq; subst hq; exact .inl (by simp)) x1
      clear x1
      replace hr := hr2
      clear hr2
      refine J.op (Yd.assign rfl) rfl ?_
      refine J.nil ?_
      refine J.n_then ?_
      refine J.seq ?_
      refine J.seq ?_
      refine J.region ?_
      refine J.op (Yd.move rfl) rfl ?_
      refine J.op (Yd.gtr rfl rfl) rfl ?_
      refine J.nil ?_
      refine J.n_then ?_
      refine J.know (t := 18) (v' := .bool false) rfl (ff (by omega)) ?_
      refine J.cond_false rfl ?_
      refine J.skip ?_
      refine J.n_then ?_
      refine J.region ?_
      refine J.op (Yd.move rfl) rfl ?_
      refine J.op (Yd.move rfl) rfl ?_
      refine J.op (Yd.cv_64_i Try.underlying81 Try.underlying3 rfl (by first | omega | exact idx_u8' _ | (simp only [Int.toNat_natCast]; omega) | (simp only [List.length_map, List.length_drop, List.length_take, List.length_append, List.length_replicate]; omega) | (simp <;> omega))) rfl ?_
      refine J.op (Yd.nilCheck rfl) rfl ?_
      refine J.eff0 (Ye.store1 ti3 hp 2 rfl rfl rfl rfl rfl rfl) ?_
      rintro _ w8 ⟨cX, hu⟩
      simp only [List.set_cons_zero, List.set_cons_succ] at cX
      have hg := hu.gb
      have os := Ow.gbk os hg (Ap.symm ap_p_sl)
      have hr := Rdr.gbk hr hg hop
      have e0 := Tn.gbk e0 (.inl (by simp)) hg
      clear hg
      replace hp := cX
      clear cX hu
      refine J.nil ?_
      refine J.n_block ?_
      refine J.n_then ?_
      refine J.region ?_
      refine J.op (Yd.add rfl rfl (by first | omega | exact idx_u8' _ | (simp only [Int.toNat_natCast]; omega) | (simp only [List.length_map, List.length_drop, List.length_take, List.length_append, List.length_replicate]; omega) | (simp <;> omega))) rfl ?_
      refine J.op (Yd.move rfl) rfl ?_
      refine J.nil ?_
      refine J.n_then ?_
      exact J.round ((3, y0, y1, (q.toNat : Int), r.drop k)) ⟨rfl, rfl, rfl, rfl, rfl, trivial⟩ (⟨by show _ ≤ 3; omega, hN2, (by show (List.drop k r).length ≤ 1000000; rw [List.length_drop]; omega), hz2, hr, hp, os, e0⟩) (by show 3 - _ < 3 - _; omega)
  · skip
    obtain rfl : n = 3 := by omega
    obtain rfl := hz.1 (by decide)
    obtain rfl := hz.2.1 (by decide)
    obtain rfl := hz.2.2 (by decide)
    obtain rfl : r = rf := by cases hN; rfl
    refine J.exit ?_
    refine J.x_then ?_
    refine J.x_then ?_
    refine J.x_block ?_
    refine J.n_then ?_
    refine J.region ?_
    refine J.op (Yd.move rfl) rfl ?_
    refine J.pan (Yp.call cl41 rfl (RBytes_short hr (by omega) (by decide) hgb (by omega) (by omega))) ?_
    rintro _ w9 ⟨rfl, x1⟩
    have hp := Cel.tnk hp x1 (ApL.one apb)
    have os := Ow.tnk os x1 (ApL.one (Ap.symm ap_b_sl))
    have e0 := Tn.tnk e0 (fun q hq => by simp only [List.mem_singleton] at hq; subst hq; exact .inl (by simp)) x1
    clear x1
    exact J.fin_p (⟨_, rfl, rfl, ⟨_, _, _, hp⟩, e0⟩)

theorem Dc_ok {K : Nat → Prop} {b p : Nat} {y0 y1 y2 : Int} {l : List UInt8} {w : World} {z0 z1 z2 : Int} {rf : List UInt8} (hr : Rdr 103 K w b l) (hp : Cel w p 29 [(0, 1, [I y0]), (1, 1, [I y1]), (2, 1, [I y2]), (3, 1, [nilS])]) (hop : Out K (some p)) (hl : l.length ≤ 1000000) (hN : rdN 3 l = some ([z0, z1, z2], rf)) {qb : UInt64} {kb : Nat} (hgb : gN 0 rf 0 = some (qb, kb)) (hqb : qb.toNat ≤ 1000) (hkb : kb + qb.toNat ≤ rf.length) : C Try.prog 39 [.pointer (some ⟨b, 0, none⟩), .pointer (some ⟨p, 0, none⟩)] w (Ret fun _ w' => ∃ v, Rdr 103 K w' b (rf.drop (kb + qb.toNat)) ∧ Cel w' p 29 [(0, 1, [I z0]), (1, 1, [I z1]), (2, 1, [I z2]), (3, 1, [v])] ∧ Ob 0 5 w' v ((rf.drop kb).take qb.toNat) ∧ Fr w.heap.size v.ownBlock ∧ Tn [some b, some p] w w') := by
  have hlb := Rdr.live hr
  have apb : Ap (some p) (some b) := fun k e1 e2 => by cases e1; cases e2; exact hop _ rfl (by obtain ⟨_, h1, _⟩ := hr; exact h1)
  have e0 := Tn.refl [(some b), (some p)] w
  refine C.enter Try.func39 rfl Try.ntmps39 rfl ?_
  refine J.seq ?_
  refine J.seq ?_
  refine J.region ?_
  refine J.op (Yd.cast (Yd.fieldA Try.underlying29 rfl ti3 rfl rfl) (show _ = Value.pointer (some ⟨p, 0, none⟩) from rfl)) rfl ?_
  refine J.op (Yd.cast (Yd.fieldA Try.underlying29 rfl ti3 rfl rfl) (show _ = Value.pointer (some ⟨p, 1, none⟩) from rfl)) rfl ?_
  refine J.op (Yd.cast (Yd.fieldA Try.underlying29 rfl ti3 rfl rfl) (show _ = Value.pointer (some ⟨p, 2, none⟩) from rfl)) rfl ?_
  refine J.eff (Ye.lit (base := w.heap.size) (vs := [.pointer (some ⟨p, 0, none⟩), .pointer (some ⟨p, 1, none⟩), .pointer (some ⟨p, 2, none⟩)]) Try.underlying87 ti86 rfl rfl rfl rfl (by intro v_ hv_; simp only [List.mem_cons, List.mem_nil_iff, or_false] at hv_; rcases hv_ with rfl | rfl | rfl <;> rfl) rfl (Nat.le_refl _)) rfl ?_
  rintro sl w1 ⟨os, x1⟩
  have ap_b_sl : Ap (some b) sl.ownBlock := Ap.mk hlb (Ow.fr os)
  have ap_p_sl : Ap (some p) sl.ownBlock := Ap.mk (Cel.live hp) (Ow.fr os)
  have fr_sl : Fr w.heap.size sl.ownBlock := Fr.le (Ow.fr os) e0.size
  replace os := Ow.base os e0.size
  have e0 := Tn.ext e0 x1
  have hp := hp.ext x1
  have hr := hr.ext x1
  clear x1
  refine J.op (Yd.cast (Yd.len Try.underlying87 rfl (Ow.rd os)) (show _ = I 3 from rfl)) rfl ?_
  refine J.op (Yd.move rfl) rfl ?_
  refine J.nil ?_
  refine J.n_then ?_
  refine J.block ?_
  refine J.loop (ι := Nat × Int × Int × Int × List UInt8) (fun i => [(10, I 3), (11, I (i.1 : Int)), (0, .pointer (some ⟨b, 0, none⟩)), (1, .pointer (some ⟨p, 0, none⟩)), (9, sl)]) (fun i w' => i.1 ≤ 3 ∧ rdN (3 - i.1) i.2.2.2.2 = some ([z0, z1, z2].drop i.1, rf) ∧ i.2.2.2.2.length ≤ 1000000 ∧ ((1 ≤ i.1 → i.2.1 = z0) ∧ (2 ≤ i.1 → i.2.2.1 = z1) ∧ (3 ≤ i.1 → i.2.2.2.1 = z2)) ∧ Rdr 103 K w' b i.2.2.2.2 ∧ Cel w' p 29 [(0, 1, [I i.2.1]), (1, 1, [I i.2.2.1]), (2, 1, [I i.2.2.2.1]), (3, 1, [nilS])] ∧ Ow w.heap.size 86 w' sl [.pointer (some ⟨p, 0, none⟩), .pointer (some ⟨p, 1, none⟩), .pointer (some ⟨p, 2, none⟩)] ∧ Tn [(some b), (some p)] w w') (fun i => 3 - i.1) ((0, y0, y1, y2, l)) ⟨rfl, rfl, rfl, rfl, rfl, trivial⟩ (⟨Nat.zero_le _, hN, hl, ⟨fun h => by omega, fun h => by omega, fun h => by omega⟩, hr, hp, os, e0⟩) ?_
  rintro ⟨n, y0, y1, y2, r⟩ w2 ⟨hk, hN, hln, hz, hr, hp, os, e0⟩
  dsimp only at *
  refine J.seq ?_
  refine J.region ?_
  refine J.op (Yd.lss rfl rfl) rfl ?_
  refine J.nil ?_
  refine J.n_then ?_
  refine J.seq ?_
  refine J.cond_dec rfl (fun hc0 => ?_) (fun hc0 => ?_)
  · skip
    refine J.skip ?_
    refine J.n_then ?_
    refine J.seq ?_
    refine J.block ?_
    refine J.seq ?_
    refine J.region ?_
    rcases n3s (stepS (show n < 3 by omega) hN) (by omega) hz with ⟨q, k, hg, hq, hkl, rfl, hN2, hz2⟩ | ⟨q, k, hg, hq, hkl, rfl, hN2, hz2⟩ | ⟨q, k, hg, hq, hkl, rfl, hN2, hz2⟩
    · skip
      refine J.op (Yd.idx Try.underlying87 ti86 rfl rfl (Ow.rd os) (by first | omega | exact idx_u8' _ | (simp only [Int.toNat_natCast]; omega) | (simp only [List.length_map, List.length_drop, List.length_take, List.length_append, List.length_replicate]; omega) | (simp <;> omega))) rfl ?_
      refine J.op (Yd.load pl86 rfl (Rd.cell (Ow.rd os) (show _ = some (.pointer (some ⟨p, 0, none⟩)) from rfl))) rfl ?_
      refine J.op (Yd.assign rfl) rfl ?_
      refine J.nil ?_
      refine J.n_then ?_
      refine J.seq ?_
      refine J.region ?_
      refine J.op (Yd.move rfl) rfl ?_
      refine J.eff (Ye.call cl40 rfl (RNum_ok hr (by omega) hg)) rfl ?_
      rintro _ w3 ⟨rfl, hr2, x1⟩
      have hp := Cel.tnk hp x1 (ApL.one apb)
      have os := Ow.tnk os x1 (ApL.one (Ap.symm ap_b_sl))
      have e0 := Tn.tnk e0 (fun q hq => by simp only [List.mem_singleton] at hq; subst hq; exact .inl (by simp)) x1
      clear x1
      replace hr := hr2
      clear hr2
      refine J.op (Yd.assign rfl) rfl ?_
      refine J.nil ?_
      refine J.n_then ?_
      refine J.seq ?_
      refine J.seq ?_
      refine J.region ?_
      refine J.op (Yd.move rfl) rfl ?_
      refine J.op (Yd.gtr rfl rfl) rfl ?_
      refine J.nil ?_
      refine J.n_then ?_
      refine J.know (t := 18) (v' := .bool false) rfl (ff (by omega)) ?_
      refine J.cond_false rfl ?_
      refine J.skip ?_
      refine J.n_then ?_
      refine J.region ?_
      refine J.op (Yd.move rfl) rfl ?_
      refine J.op (Yd.move rfl) rfl ?_
      refine J.op (Yd.cv_64_i Try.underlying81 Try.underlying3 rfl (by first | omega | exact idx_u8' _ | (simp only [Int.toNat_natCast]; omega) | (simp only [List.length_map, List.length_drop, List.length_take, List.length_append, List.length_replicate]; omega) | (simp <;> omega))) rfl ?_
      refine J.op (Yd.nilCheck rfl) rfl ?_
      refine J.eff0 (Ye.store1 ti3 hp 0 rfl rfl rfl rfl rfl rfl) ?_
      rintro _ w4 ⟨cX, hu⟩
      simp only [List.set_cons_zero, List.set_cons_succ] at cX
      have hg := hu.gb
      have os := Ow.gbk os hg (Ap.symm ap_p_sl)
      have hr := Rdr.gbk hr hg hop
      have e0 := Tn.gbk e0 (.inl (by simp)) hg
      clear hg
      replace hp := cX
      clear cX hu
      refine J.nil ?_
      refine J.n_block ?_
      refine J.n_then ?_
      refine J.region ?_
      refine J.op (Yd.add rfl rfl (by first | omega | exact idx_u8' _ | (simp only [Int.toNat_natCast]; omega) | (simp only [List.length_map, List.length_drop, List.length_take, List.length_append, List.length_replicate]; omega) | (simp <;> omega))) rfl ?_
      refine J.op (Yd.move rfl) rfl ?_
      refine J.nil ?_
      refine J.n_then ?_
      exact J.round ((1, (q.toNat : Int), y1, y2, r.drop k)) ⟨rfl, rfl, rfl, rfl, rfl, trivial⟩ (⟨by show _ ≤ 3; omega, hN2, (by show (List.drop k r).length ≤ 1000000; rw [List.length_drop]; omega), hz2, hr, hp, os, e0⟩) (by show 3 - _ < 3 - _; omega)
    · skip
      refine J.op (Yd.idx Try.underlying87 ti86 rfl rfl (Ow.rd os) (by first | omega | exact idx_u8' _ | (simp only [Int.toNat_natCast]; omega) | (simp only [List.length_map, List.length_drop, List.length_take, List.length_append, List.length_replicate]; omega) | (simp <;> omega))) rfl ?_
      refine J.op (Yd.load pl86 rfl (Rd.cell (Ow.rd os) (show _ = some (.pointer (some ⟨p, 1, none⟩)) from rfl))) rfl ?_
      refine J.op (Yd.assign rfl) rfl ?_
      refine J.nil ?_
      refine J.n_then ?_
      refine J.seq ?_
      refine J.region ?_
      refine J.op (Yd.move rfl) rfl ?_
      refine J.eff (Ye.call cl40 rfl (RNum_ok hr (by omega) hg)) rfl ?_
      rintro _ w5 ⟨rfl, hr2, x1⟩
      have hp := Cel.tnk hp x1 (ApL.one apb)
      have os := Ow.tnk os x1 (ApL.one (Ap.symm ap_b_sl))
      have e0 := Tn.tnk e0 (fun q hq => by simp only [List.mem_singleton] at hq; subst hq; exact .inl (by simp)) x1
      clear x1
      replace hr := hr2
      clear hr2
      refine J.op (Yd.assign rfl) rfl ?_
      refine J.nil ?_
      refine J.n_then ?_
      refine J.seq ?_
      refine J.seq ?_
      refine J.region ?_
      refine J.op (Yd.move rfl) rfl ?_
      refine J.op (Yd.gtr rfl rfl) rfl ?_
      refine J.nil ?_
      refine J.n_then ?_
      refine J.know (t := 18) (v' := .bool false) rfl (ff (by omega)) ?_
      refine J.cond_false rfl ?_
      refine J.skip ?_
      refine J.n_then ?_
      refine J.region ?_
      refine J.op (Yd.move rfl) rfl ?_
      refine J.op (Yd.move rfl) rfl ?_
      refine J.op (Yd.cv_64_i Try.underlying81 Try.underlying3 rfl (by first | omega | exact idx_u8' _ | (simp only [Int.toNat_natCast]; omega) | (simp only [List.length_map, List.length_drop, List.length_take, List.length_append, List.length_replicate]; omega) | (simp <;> omega))) rfl ?_
      refine J.op (Yd.nilCheck rfl) rfl ?_
      refine J.eff0 (Ye.store1 ti3 hp 1 rfl rfl rfl rfl rfl rfl) ?_
      rintro _ w6 ⟨cX, hu⟩
      simp only [List.set_cons_zero, List.set_cons_succ] at cX
      have hg := hu.gb
      have os := Ow.gbk os hg (Ap.symm ap_p_sl)
      have hr := Rdr.gbk hr hg hop
      have e0 := Tn.gbk e0 (.inl (by simp)) hg
      clear hg
      replace hp := cX
      clear cX hu
      refine J.nil ?_
      refine J.n_block ?_
      refine J.n_then ?_
      refine J.region ?_
      refine J.op (Yd.add rfl rfl (by first | omega | exact idx_u8' _ | (simp only [Int.toNat_natCast]; omega) | (simp only [List.length_map, List.length_drop, List.length_take, List.length_append, List.length_replicate]; omega) | (simp <;> omega))) rfl ?_
      refine J.op (Yd.move rfl) rfl ?_
      refine J.nil ?_
      refine J.n_then ?_
      exact J.round ((2, y0, (q.toNat : Int), y2, r.drop k)) ⟨rfl, rfl, rfl, rfl, rfl, trivial⟩ (⟨by show _ ≤ 3; omega, hN2, (by show (List.drop k r).length ≤ 1000000; rw [List.length_drop]; omega), hz2, hr, hp, os, e0⟩) (by show 3 - _ < 3 - _; omega)
    · skip
      refine J.op (Yd.idx Try.underlying87 ti86 rfl rfl (Ow.rd os) (by first | omega | exact idx_u8' _ | (simp only [Int.toNat_natCast]; omega) | (simp only [List.length_map, List.length_drop, List.length_take, List.length_append, List.length_replicate]; omega) | (simp <;> omega))) rfl ?_
      refine J.op (Yd.load pl86 rfl (Rd.cell (Ow.rd os) (show _ = some (.pointer (some ⟨p, 2, none⟩)) from rfl))) rfl ?_
      refine J.op (Yd.assign rfl) rfl ?_
      refine J.nil ?_
      refine J.n_then ?_
      refine J.seq ?_
      refine J.region ?_
      refine J.op (Yd.move rfl) rfl ?_
      refine J.eff (Ye.call cl40 rfl (RNum_ok hr (by omega) hg)) rfl ?_
      rintro _ w7 ⟨rfl, hr2, x1⟩
      have hp := Cel.tnk hp x1 (ApL.one apb)
      have os := Ow.tnk os x1 (ApL.one (Ap.symm ap_b_sl))
      have e0 := Tn.tnk e0 (fun q hq => by simp only [List.mem_singleton] at hq; subst hq; exact .inl (by simp)) x1
      clear x1
      replace hr := hr2
      clear hr2
      refine J.op (Yd.assign rfl) rfl ?_
      refine J.nil ?_
      refine J.n_then ?_
      refine J.seq ?_
      refine J.seq ?_
      refine J.region ?_
      refine J.op (Yd.move rfl) rfl ?_
      refine J.op (Yd.gtr rfl rfl) rfl ?_
      refine J.nil ?_
      refine J.n_then ?_
      refine J.know (t := 18) (v' := .bool false) rfl (ff (by omega)) ?_
      refine J.cond_false rfl ?_
      refine J.skip ?_
      refine J.n_then ?_
      refine J.region ?_
      refine J.op (Yd.move rfl) rfl ?_
      refine J.op (Yd.move rfl) rfl ?_
      refine J.op (Yd.cv_64_i Try.underlying81 Try.underlying3 rfl (by first | omega | exact idx_u8' _ | (simp only [Int.toNat_natCast]; omega) | (simp only [List.length_map, List.length_drop, List.length_take, List.length_append, List.length_replicate]; omega) | (simp <;> omega))) rfl ?_
      refine J.op (Yd.nilCheck rfl) rfl ?_
      refine J.eff0 (Ye.store1 ti3 hp 2 rfl rfl rfl rfl rfl rfl) ?_
      rintro _ w8 ⟨cX, hu⟩
      simp only [List.set_cons_zero, List.set_cons_succ] at cX
      have hg := hu.gb
      have os := Ow.gbk os hg (Ap.symm ap_p_sl)
      have hr := Rdr.gbk hr hg hop
      have e0 := Tn.gbk e0 (.inl (by simp)) hg
      clear hg
      replace hp := cX
      clear cX hu
      refine J.nil ?_
      refine J.n_block ?_
      refine J.n_then ?_
      refine J.region ?_
      refine J.op (Yd.add rfl rfl (by first | omega | exact idx_u8' _ | (simp only [Int.toNat_natCast]; omega) | (simp only [List.length_map, List.length_drop, List.length_take, List.length_append, List.length_replicate]; omega) | (simp <;> omega))) rfl ?_
      refine J.op (Yd.move rfl) rfl ?_
      refine J.nil ?_
      refine J.n_then ?_
      exact J.round ((3, y0, y1, (q.toNat : Int), r.drop k)) ⟨rfl, rfl, rfl, rfl, rfl, trivial⟩ (⟨by show _ ≤ 3; omega, hN2, (by show (List.drop k r).length ≤ 1000000; rw [List.length_drop]; omega), hz2, hr, hp, os, e0⟩) (by show 3 - _ < 3 - _; omega)
  · skip
    obtain rfl : n = 3 := by omega
    obtain rfl := hz.1 (by decide)
    obtain rfl := hz.2.1 (by decide)
    obtain rfl := hz.2.2 (by decide)
    obtain rfl : r = rf := by cases hN; rfl
    refine J.exit ?_
    refine J.x_then ?_
    refine J.x_then ?_
    refine J.x_block ?_
    refine J.n_then ?_
    refine J.region ?_
    refine J.op (Yd.move rfl) rfl ?_
    refine J.eff (Ye.call cl41 rfl (RBytes_ok hr (by omega) (by decide) hgb (by omega) (by omega))) rfl ?_
    rintro v26 w9 ⟨ov26, fr0, hr2, x1⟩
    have ap_b_v26 : Ap (some b) v26.ownBlock := Ap.mk (Rdr.live hr) fr0
    have ap_p_v26 : Ap (some p) v26.ownBlock := Ap.mk (Cel.live hp) fr0
    have ap_sl_v26 : Ap sl.ownBlock v26.ownBlock := Ap.mk (Ow.live os) fr0
    have fr_v26 : Fr w.heap.size v26.ownBlock := Fr.le fr0 e0.size
    have hp := Cel.tnk hp x1 (ApL.one apb)
    have os := Ow.tnk os x1 (ApL.one (Ap.symm ap_b_sl))
    have e0 := Tn.tnk e0 (fun q hq => by simp only [List.mem_singleton] at hq; subst hq; exact .inl (by simp)) x1
    clear x1 fr0
    replace hr := hr2
    clear hr2
    refine J.op (Yd.cast (Yd.fieldA Try.underlying29 rfl ti22 rfl rfl) (show _ = Value.pointer (some ⟨p, 3, none⟩) from rfl)) rfl ?_
    refine J.eff0 (Ye.store1 ti22 hp 3 rfl rfl rfl rfl (Rd.cells (Ow.rd ov26)) (Rd.one (Ow.rd ov26))) ?_
    rintro _ w10 ⟨cX, hu⟩
    simp only [List.set_cons_zero, List.set_cons_succ] at cX
    have hg := hu.gb
    have os := Ow.gbk os hg (Ap.symm ap_p_sl)
    have hr := Rdr.gbk hr hg hop
    have ov26 := Ow.gbk ov26 hg (Ap.symm ap_p_v26)
    have e0 := Tn.gbk e0 (.inl (by simp)) hg
    clear hg
    replace hp := cX
    clear cX hu
    refine J.nil ?_
    exact J.end0 rfl (⟨_, rfl, v26, hr, hp, ov26, fr_v26, e0⟩)
end Ytghklimejpmpnaa
end Go.Proofs
