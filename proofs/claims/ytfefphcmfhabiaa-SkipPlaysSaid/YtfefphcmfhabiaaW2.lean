import Derived.Test.YtfefphcmfhabiaaT
import Derived.Test.YtfefphcmfhabiaaW1
set_option linter.unusedVariables false
set_option linter.unusedSimpArgs false
set_option maxRecDepth 100000
set_option maxHeartbeats 4000000
namespace Go.Proofs
open Go.X Go.RowKit
namespace Ytfefphcmfhabiaa
theorem RNew_raw {a : Value} {l : List UInt8} {w : World} (ha : Bs w a l) (hl : l.length ≤ 1000000000) : C Try.prog 49 [a] w (Ret fun u w' => ∃ b s, u = .pointer (some ⟨b, 0, none⟩) ∧ w.heap.size ≤ b ∧ Cel w' b 92 [(0, 1, [s])] ∧ Ob w.heap.size 5 w' s l ∧ Ap (some b) s.ownBlock ∧ Ext w w') := by
  have e0 := Ext.refl w
  refine C.enter Try.func49 rfl Try.ntmps49 rfl ?_
  refine J.seq ?_
  refine J.region ?_
  refine J.op (Yd.assign rfl) rfl ?_
  refine J.nil ?_
  refine J.n_then ?_
  refine J.seq ?_
  refine J.region ?_
  refine J.op (Yd.move rfl) rfl ?_
  refine J.eff (Ye.call cl24 rfl (Clone_ok ha (by omega))) rfl ?_
  rintro s4_1 w1 ⟨os4_1, x1⟩
  have fr_s4_1 : Fr w.heap.size s4_1.ownBlock := Fr.le (Ow.fr os4_1) e0.size
  replace os4_1 := Ow.base os4_1 e0.size
  have e0 := e0.trans x1
  clear x1
  have hcS := Rd.cells (Ow.rd os4_1)
  refine J.op (Yd.cast (Yd.buildV (pl := [(0, 1)]) Try.underlying92 (by kernel_rfl) ti92 rfl rfl (by simp [OffOK, hcS, cells_agg]) (by simp [catV, hcS, cells_agg])) (show _ = Value.agg #[s4_1] from by simp [catV, hcS])) rfl ?_
  refine J.eff (Ye.box (S := [(0, 1, [s4_1])]) rfl (by simp [SegAll, SegOK, Value.cells])) rfl ?_
  rintro _ w2 ⟨b6_1, rfl, hb_, c6_1, x1⟩
  have ap_s4_1_b6_1 : Ap s4_1.ownBlock (some b6_1) := Ap.mk (Ow.live os4_1) (Fr.blk hb_)
  have fr_b6_1 : Fr w.heap.size (some b6_1) := Fr.le (Fr.blk hb_) e0.size
  have e0 := e0.trans x1
  have os4_1 := os4_1.ext x1
  clear x1 hb_
  refine J.op (Yd.assign rfl) rfl ?_
  refine J.nil ?_
  refine J.n_then ?_
  refine J.ret ?_
  exact J.ret1 rfl rfl (⟨_, rfl, b6_1, s4_1, rfl, fr_b6_1 _ rfl, c6_1, os4_1, (Ap.symm ap_s4_1_b6_1), e0⟩)

theorem RNew_ok {a : Value} {l : List UInt8} {w : World} (ha : Bs w a l) (hl : l.length ≤ 1000000000) : C Try.prog 49 [a] w (Ret fun u w' => ∃ b, u = .pointer (some ⟨b, 0, none⟩) ∧ w.heap.size ≤ b ∧ Rdr 92 (Ge w.heap.size) w' b l ∧ Ext w w') :=
  (RNew_raw ha hl).ret fun u w' h => by
    obtain ⟨b, s, h1, h2, h3, h4, h5, h6⟩ := h
    exact ⟨b, h1, h2, ⟨s, h2, h3, Ow.rd h4, Ow.fr h4, h5, Ow.live h4⟩, h6⟩

theorem RFixed_raw {b : Nat} {s : Value} {l : List UInt8} {n : Int} {w : World} (hc : Cel w b 92 [(0, 1, [s])]) (hs : Bs w s l) (hap : Ap (some b) s.ownBlock) (hn : 0 ≤ n ∧ n ≤ (l.length : Int)) (hl : l.length ≤ 1000000000) : C Try.prog 35 [.pointer (some ⟨b, 0, none⟩), I n] w (Ret fun u w' => Cel w' b 92 [(0, 1, [(slc s n.toNat l.length)])] ∧ Ob w.heap.size 5 w' u (l.take n.toNat) ∧ Tn [some b] w w') := by
  have hmx := Bs.max hs
  have e0 := Tn.refl [(some b)] w
  refine C.enter Try.func35 rfl Try.ntmps35 rfl ?_
  refine J.seq ?_
  refine J.region ?_
  refine J.op (Yd.assign rfl) rfl ?_
  refine J.nil ?_
  refine J.n_then ?_
  refine J.seq ?_
  refine J.seq ?_
  refine J.region ?_
  refine J.op (Yd.move rfl) rfl ?_
  refine J.op (Yd.lss rfl rfl) rfl ?_
  refine J.op (Yd.move rfl) rfl ?_
  refine J.know (t := 8) (v' := .bool false) rfl (ff (by omega)) ?_
  refine J.op_g rfl rfl rfl (Yd.move rfl) rfl ?_
  refine J.op_g rfl rfl rfl (Yd.cast (Yd.eqPn Try.underlying71 rfl rfl) (show _ = Value.bool false from rfl)) rfl ?_
  refine J.op_g rfl rfl rfl (Yd.move rfl) rfl ?_
  refine J.not_g rfl rfl rfl rfl rfl ?_
  refine J.not_g rfl rfl rfl rfl rfl ?_
  refine J.op_g rfl rfl rfl (Yd.pick_f rfl rfl) rfl ?_
  refine J.op (Yd.pick_f rfl rfl) rfl ?_
  refine J.op (Yd.move rfl) rfl ?_
  refine J.op_g rfl rfl rfl (Yd.move rfl) rfl ?_
  refine J.op_g rfl rfl rfl (Yd.cast (Yd.nePn Try.underlying71 rfl rfl) (show _ = Value.bool true from rfl)) rfl ?_
  refine J.op_g rfl rfl rfl (Yd.move rfl) rfl ?_
  refine J.op_g rfl rfl rfl (Yd.move rfl) rfl ?_
  refine J.op_g rfl rfl rfl (Yd.move rfl) rfl ?_
  refine J.op_g rfl rfl rfl (Yd.nilCheck rfl) rfl ?_
  refine J.op_g rfl rfl rfl (Yd.cast (Yd.fieldA Try.underlying92 rfl ti29 rfl rfl) (show _ = Value.pointer (some ⟨b, 0, none⟩) from rfl)) rfl ?_
  refine J.op_g rfl rfl rfl (Yd.load pl29 rfl (Cel.cell1 hc 0 rfl)) rfl ?_
  refine J.op_g rfl rfl rfl (Yd.len_b Try.underlying29 rfl hs) rfl ?_
  refine J.op_g rfl rfl rfl (Yd.gtr rfl rfl) rfl ?_
  refine J.op_g rfl rfl rfl (Yd.pick_t rfl rfl) rfl ?_
  refine J.op (Yd.pick_f rfl rfl) rfl ?_
  refine J.nil ?_
  refine J.n_then ?_
  refine J.know (t := 28) (v' := .bool false) rfl (ff (by omega)) ?_
  refine J.cond_false rfl ?_
  refine J.skip ?_
  refine J.n_then ?_
  refine J.seq ?_
  refine J.seq ?_
  refine J.region ?_
  refine J.op (Yd.move rfl) rfl ?_
  refine J.op (Yd.cast (Yd.eqPn Try.underlying71 rfl rfl) (show _ = Value.bool false from rfl)) rfl ?_
  refine J.nil ?_
  refine J.n_then ?_
  refine J.cond_false rfl ?_
  refine J.skip ?_
  refine J.n_then ?_
  refine J.seq ?_
  refine J.region ?_
  refine J.op (Yd.move rfl) rfl ?_
  refine J.op (Yd.nilCheck rfl) rfl ?_
  refine J.op (Yd.cast (Yd.fieldA Try.underlying92 rfl ti29 rfl rfl) (show _ = Value.pointer (some ⟨b, 0, none⟩) from rfl)) rfl ?_
  refine J.op (Yd.load pl29 rfl (Cel.cell1 hc 0 rfl)) rfl ?_
  refine J.op (Yd.move rfl) rfl ?_
  refine J.op (Yd.slcH Try.underlying29 ti5 rfl hs rfl (by first | omega | exact idx_u8' _ | (simp only [Int.toNat_natCast]; omega) | (simp only [List.length_map, List.length_drop, List.length_take, List.length_append, List.length_replicate]; omega) | (simp <;> omega))) rfl ?_
  refine J.eff (Ye.call cl24 rfl (Clone_ok (Bs.slc hs (by first | omega | exact idx_u8' _ | (simp only [Int.toNat_natCast]; omega) | (simp only [List.length_map, List.length_drop, List.length_take, List.length_append, List.length_replicate]; omega) | (simp <;> omega)) (by first | omega | exact idx_u8' _ | (simp only [Int.toNat_natCast]; omega) | (simp only [List.length_map, List.length_drop, List.length_take, List.length_append, List.length_replicate]; omega) | (simp <;> omega))) (by simp only [List.length_drop, List.length_take]; omega))) rfl ?_
  rintro s38_1 w1 ⟨os38_1, x1⟩
  have ap_b_s38_1 : Ap (some b) s38_1.ownBlock := Ap.mk (Cel.live hc) (Ow.fr os38_1)
  have fr_s38_1 : Fr w.heap.size s38_1.ownBlock := Fr.le (Ow.fr os38_1) e0.size
  replace os38_1 := Ow.base os38_1 e0.size
  have e0 := Tn.ext e0 x1
  have hs := hs.ext x1
  have hc := hc.ext x1
  clear x1
  refine J.op (Yd.assign rfl) rfl ?_
  refine J.nil ?_
  refine J.n_then ?_
  refine J.seq ?_
  refine J.region ?_
  refine J.op (Yd.move rfl) rfl ?_
  refine J.op (Yd.move rfl) rfl ?_
  refine J.op (Yd.nilCheck rfl) rfl ?_
  refine J.op (Yd.cast (Yd.fieldA Try.underlying92 rfl ti29 rfl rfl) (show _ = Value.pointer (some ⟨b, 0, none⟩) from rfl)) rfl ?_
  refine J.op (Yd.load pl29 rfl (Cel.cell1 hc 0 rfl)) rfl ?_
  refine J.op (Yd.move rfl) rfl ?_
  refine J.op (Yd.slcL Try.underlying29 ti5 rfl hs rfl (by first | omega | exact idx_u8' _ | (simp only [Int.toNat_natCast]; omega) | (simp only [List.length_map, List.length_drop, List.length_take, List.length_append, List.length_replicate]; omega) | (simp <;> omega))) rfl ?_
  refine J.op (Yd.nilCheck rfl) rfl ?_
  refine J.op (Yd.cast (Yd.fieldA Try.underlying92 rfl ti29 rfl rfl) (show _ = Value.pointer (some ⟨b, 0, none⟩) from rfl)) rfl ?_
  refine J.eff0 (Ye.store1 ti29 hc 0 rfl rfl rfl rfl (Rd.cells (Bs.slc hs (by first | omega | exact idx_u8' _ | (simp only [Int.toNat_natCast]; omega) | (simp only [List.length_map, List.length_drop, List.length_take, List.length_append, List.length_replicate]; omega) | (simp <;> omega)) (by first | omega | exact idx_u8' _ | (simp only [Int.toNat_natCast]; omega) | (simp only [List.length_map, List.length_drop, List.length_take, List.length_append, List.length_replicate]; omega) | (simp <;> omega)))) (Rd.one (Bs.slc hs (by first | omega | exact idx_u8' _ | (simp only [Int.toNat_natCast]; omega) | (simp only [List.length_map, List.length_drop, List.length_take, List.length_append, List.length_replicate]; omega) | (simp <;> omega)) (by first | omega | exact idx_u8' _ | (simp only [Int.toNat_natCast]; omega) | (simp only [List.length_map, List.length_drop, List.length_take, List.length_append, List.length_replicate]; omega) | (simp <;> omega))))) ?_
  rintro _ w2 ⟨cX, hu⟩
  simp only [List.set_cons_zero, List.set_cons_succ] at cX
  have hg := hu.gb
  have hs := Rd.gbk hs hg (Ap.symm hap)
  have os38_1 := Ow.gbk os38_1 hg (Ap.symm ap_b_s38_1)
  have e0 := Tn.gbk e0 (.inl (by simp)) hg
  clear hg
  replace hc := cX
  clear cX hu
  refine J.nil ?_
  refine J.n_then ?_
  refine J.seq ?_
  refine J.region ?_
  refine J.op (Yd.move rfl) rfl ?_
  refine J.op (Yd.assign rfl) rfl ?_
  refine J.nil ?_
  refine J.n_then ?_
  refine J.ret ?_
  exact J.ret1 rfl rfl (⟨_, rfl, (by rw [List.length_map] at hc; exact hc), os38_1, e0⟩)

theorem RFixed_rawbad {b : Nat} {s : Value} {l : List UInt8} {n : Int} {w : World} (hc : Cel w b 92 [(0, 1, [s])]) (hs : Bs w s l) (hn : 0 ≤ n ∧ (l.length : Int) < n) : C Try.prog 35 [.pointer (some ⟨b, 0, none⟩), I n] w (Pan fun ch w' => ch = [{ v := .iface 24 (I 2), recovered := false }] ∧ Ext w w') := by
  have hmx := Bs.max hs
  have e0 := Ext.refl w
  refine C.enter Try.func35 rfl Try.ntmps35 rfl ?_
  refine J.seq ?_
  refine J.region ?_
  refine J.op (Yd.assign rfl) rfl ?_
  refine J.nil ?_
  refine J.n_then ?_
  refine J.seq ?_
  refine J.seq ?_
  refine J.region ?_
  refine J.op (Yd.move rfl) rfl ?_
  refine J.op (Yd.lss rfl rfl) rfl ?_
  refine J.op (Yd.move rfl) rfl ?_
  refine J.know (t := 8) (v' := .bool false) rfl (ff (by omega)) ?_
  refine J.op_g rfl rfl rfl (Yd.move rfl) rfl ?_
  refine J.op_g rfl rfl rfl (Yd.cast (Yd.eqPn Try.underlying71 rfl rfl) (show _ = Value.bool false from rfl)) rfl ?_
  refine J.op_g rfl rfl rfl (Yd.move rfl) rfl ?_
  refine J.not_g rfl rfl rfl rfl rfl ?_
  refine J.not_g rfl rfl rfl rfl rfl ?_
  refine J.op_g rfl rfl rfl (Yd.pick_f rfl rfl) rfl ?_
  refine J.op (Yd.pick_f rfl rfl) rfl ?_
  refine J.op (Yd.move rfl) rfl ?_
  refine J.op_g rfl rfl rfl (Yd.move rfl) rfl ?_
  refine J.op_g rfl rfl rfl (Yd.cast (Yd.nePn Try.underlying71 rfl rfl) (show _ = Value.bool true from rfl)) rfl ?_
  refine J.op_g rfl rfl rfl (Yd.move rfl) rfl ?_
  refine J.op_g rfl rfl rfl (Yd.move rfl) rfl ?_
  refine J.op_g rfl rfl rfl (Yd.move rfl) rfl ?_
  refine J.op_g rfl rfl rfl (Yd.nilCheck rfl) rfl ?_
  refine J.op_g rfl rfl rfl (Yd.cast (Yd.fieldA Try.underlying92 rfl ti29 rfl rfl) (show _ = Value.pointer (some ⟨b, 0, none⟩) from rfl)) rfl ?_
  refine J.op_g rfl rfl rfl (Yd.load pl29 rfl (Cel.cell1 (Cel.ext hc e0) 0 rfl)) rfl ?_
  refine J.op_g rfl rfl rfl (Yd.len_b Try.underlying29 rfl hs) rfl ?_
  refine J.op_g rfl rfl rfl (Yd.gtr rfl rfl) rfl ?_
  refine J.op_g rfl rfl rfl (Yd.pick_t rfl rfl) rfl ?_
  refine J.op (Yd.pick_f rfl rfl) rfl ?_
  refine J.nil ?_
  refine J.n_then ?_
  refine J.know (t := 28) (v' := .bool true) rfl (tt (by omega)) ?_
  refine J.cond_true rfl ?_
  refine J.region ?_
  refine J.op (Yd.mkIface Try.underlying24 rfl rfl) rfl ?_
  refine J.pan (Yp.panic rfl) ?_
  rintro _ _ ⟨rfl, rfl⟩
  refine J.p_then ?_
  exact J.fin_p (⟨_, rfl, rfl, e0⟩)

theorem RFixed_ok {K : Nat → Prop} {b : Nat} {l : List UInt8} {w : World} {n : Int} (hr : Rdr 92 K w b l) (hn : 0 ≤ n ∧ n ≤ (l.length : Int)) (hl : l.length ≤ 1000000000) : C Try.prog 35 [.pointer (some ⟨b, 0, none⟩), I n] w (Ret fun u w' => Ob w.heap.size 5 w' u (l.take n.toNat) ∧ Rdr 92 K w' b (l.drop n.toNat) ∧ Tn [some b] w w') := by
  obtain ⟨s, h1, h2, h3, h4, h5, h6⟩ := hr
  refine (RFixed_raw h2 h3 h5 hn hl).ret fun u w' h => ?_
  obtain ⟨g1, g2, g3⟩ := h
  have h7 := Bs.slc (Rd.tnk h3 g3 (ApL.one h5.symm)) (l := n.toNat) (k := l.length) (by omega) (Nat.le_refl _)
  rw [List.take_length] at h7
  exact ⟨g2, ⟨_, h1, g1, h7, by rw [slc_own]; exact h4, by rw [slc_own]; exact h5, by rw [slc_own]; exact h6.ext g3.size⟩, g3⟩
theorem RFixed_bad {K : Nat → Prop} {b : Nat} {l : List UInt8} {w : World} {n : Int} (hr : Rdr 92 K w b l) (hn : 0 ≤ n ∧ (l.length : Int) < n) : C Try.prog 35 [.pointer (some ⟨b, 0, none⟩), I n] w (Pan fun ch w' => ch = [{ v := .iface 24 (I 2), recovered := false }] ∧ Ext w w') := by
  obtain ⟨s, h1, h2, h3, h4, h5, h6⟩ := hr
  exact RFixed_rawbad h2 h3 hn

theorem REnd_raw {b : Nat} {s : Value} {l : List UInt8} {w : World} (hc : Cel w b 92 [(0, 1, [s])]) (hs : Bs w s l) (hl : l.length = 0) : C Try.prog 50 [.pointer (some ⟨b, 0, none⟩)] w (Ret fun _ w' => Ext w w') := by
  have e0 := Ext.refl w
  refine C.enter Try.func50 rfl Try.ntmps50 rfl ?_
  refine J.seq ?_
  refine J.region ?_
  refine J.op (Yd.move rfl) rfl ?_
  refine J.op (Yd.cast (Yd.nePn Try.underlying71 rfl rfl) (show _ = Value.bool true from rfl)) rfl ?_
  refine J.op (Yd.move rfl) rfl ?_
  refine J.op_g rfl rfl rfl (Yd.move rfl) rfl ?_
  refine J.op_g rfl rfl rfl (Yd.nilCheck rfl) rfl ?_
  refine J.op_g rfl rfl rfl (Yd.cast (Yd.fieldA Try.underlying92 rfl ti29 rfl rfl) (show _ = Value.pointer (some ⟨b, 0, none⟩) from rfl)) rfl ?_
  refine J.op_g rfl rfl rfl (Yd.load pl29 rfl (Cel.cell1 (Cel.ext hc e0) 0 rfl)) rfl ?_
  refine J.op_g rfl rfl rfl (Yd.len_b Try.underlying29 rfl hs) rfl ?_
  refine J.op_g rfl rfl rfl (Yd.gtr rfl rfl) rfl ?_
  refine J.op (Yd.pick_t rfl rfl) rfl ?_
  refine J.nil ?_
  refine J.n_then ?_
  refine J.know (t := 11) (v' := .bool false) rfl (ff (by omega)) ?_
  refine J.cond_false rfl ?_
  refine J.skip ?_
  exact J.end0 rfl (⟨_, rfl, e0⟩)

theorem REnd_rawbad {b : Nat} {s : Value} {l : List UInt8} {w : World} (hc : Cel w b 92 [(0, 1, [s])]) (hs : Bs w s l) (hl : 0 < l.length) : C Try.prog 50 [.pointer (some ⟨b, 0, none⟩)] w (Pan fun ch w' => ch = [{ v := .iface 24 (I 2), recovered := false }] ∧ Ext w w') := by
  have e0 := Ext.refl w
  refine C.enter Try.func50 rfl Try.ntmps50 rfl ?_
  refine J.seq ?_
  refine J.region ?_
  refine J.op (Yd.move rfl) rfl ?_
  refine J.op (Yd.cast (Yd.nePn Try.underlying71 rfl rfl) (show _ = Value.bool true from rfl)) rfl ?_
  refine J.op (Yd.move rfl) rfl ?_
  refine J.op_g rfl rfl rfl (Yd.move rfl) rfl ?_
  refine J.op_g rfl rfl rfl (Yd.nilCheck rfl) rfl ?_
  refine J.op_g rfl rfl rfl (Yd.cast (Yd.fieldA Try.underlying92 rfl ti29 rfl rfl) (show _ = Value.pointer (some ⟨b, 0, none⟩) from rfl)) rfl ?_
  refine J.op_g rfl rfl rfl (Yd.load pl29 rfl (Cel.cell1 (Cel.ext hc e0) 0 rfl)) rfl ?_
  refine J.op_g rfl rfl rfl (Yd.len_b Try.underlying29 rfl hs) rfl ?_
  refine J.op_g rfl rfl rfl (Yd.gtr rfl rfl) rfl ?_
  refine J.op (Yd.pick_t rfl rfl) rfl ?_
  refine J.nil ?_
  refine J.n_then ?_
  refine J.know (t := 11) (v' := .bool true) rfl (tt (by omega)) ?_
  refine J.cond_true rfl ?_
  refine J.region ?_
  refine J.op (Yd.mkIface Try.underlying24 rfl rfl) rfl ?_
  refine J.pan (Yp.panic rfl) ?_
  rintro _ _ ⟨rfl, rfl⟩
  exact J.fin_p (⟨_, rfl, rfl, e0⟩)

theorem REnd_ok {K : Nat → Prop} {b : Nat} {l : List UInt8} {w : World} (hr : Rdr 92 K w b l) (hl : l.length = 0) : C Try.prog 50 [.pointer (some ⟨b, 0, none⟩)] w (Ret fun _ w' => Ext w w') := by
  obtain ⟨s, h1, h2, h3, h4, h5, h6⟩ := hr; exact REnd_raw h2 h3 hl
theorem REnd_bad {K : Nat → Prop} {b : Nat} {l : List UInt8} {w : World} (hr : Rdr 92 K w b l) (hl : 0 < l.length) : C Try.prog 50 [.pointer (some ⟨b, 0, none⟩)] w (Pan fun ch w' => ch = [{ v := .iface 24 (I 2), recovered := false }] ∧ Ext w w') := by
  obtain ⟨s, h1, h2, h3, h4, h5, h6⟩ := hr; exact REnd_rawbad h2 h3 hl
end Ytfefphcmfhabiaa
end Go.Proofs
