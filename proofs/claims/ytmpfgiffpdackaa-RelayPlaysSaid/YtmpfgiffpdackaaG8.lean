import Derived.Test.YtmpfgiffpdackaaT
import Derived.Test.YtmpfgiffpdackaaG7
set_option linter.unusedVariables false
set_option linter.unusedSimpArgs false
set_option maxRecDepth 100000
set_option maxHeartbeats 4000000
namespace Go.Proofs
open Go.X Go.RowKit
namespace Ytmpfgiffpdackaa
theorem Tick_x {base : Nat} {K D : Nat → Prop} {mb b : Nat} {m : List (Key × Value)} {ex now last n : Int} {q : List (Key × List It)} {w : World} (h : RqX 65 36 base K D mb m w b (ex, now, last) q) (hn1 : 1 ≤ n) (hex : 1 ≤ ex) (hnow : 0 ≤ now ∧ now ≤ 1099511627776) (hqb : ∀ p ∈ q, ∀ x ∈ p.2, 0 ≤ x.2.2.1 ∧ x.2.2.1 ≤ 1099511627776) (htq : tot q ≤ 1000000000) : C Try.prog 12 [.pointer (some ⟨b, 0, none⟩), I n] w (Ret fun u w' => ∃ m', u = I ((tot q : Int) - (tot (q.map fun p => (p.1, p.2.filter fun x => !agP (tkI now n) ex x)) : Int)) ∧ RqX 65 36 base K D mb m' w' b (ex, tkI now n, last) (q.map fun p => (p.1, p.2.filter fun x => !agP (tkI now n) ex x)) ∧ Thb K b w w') := by
  have hc := h.cel
  have hm := h.mp
  have hT := Thb.refl K b w
  have hB0 := Tn.refl [some b] w
  have abm : Ap (some b) (some mb) := fun k e1 e2 => by cases e1; cases e2; exact h.ne rfl
  have hti := tkI_ok hnow hn1
  have hnd := h.nodup
  have hex2 : 1 ≤ ex ∧ True := ⟨hex, trivial⟩
  have hnow2 : 0 ≤ tkI now n ∧ tkI now n ≤ 1099511627776 := by omega
  have e0 : True := trivial
  refine C.enter Try.func12 rfl Try.ntmps12 rfl ?_
  refine J.seq ?_
  refine J.region ?_
  refine J.eff (Ye.box (S := [(0, 1, [.pointer (some ⟨b, 0, none⟩)])]) rfl (by simp [SegAll, SegOK, Value.cells])) rfl ?_
  rintro _ w1 ⟨b2_0, rfl, hb_, c2_0, x1⟩
  have ap_mb_b2_0 : Ap (some mb) (some b2_0) := Ap.mk (Mp.live hm) (Fr.blk hb_)
  have ap_b_b2_0 : Ap (some b) (some b2_0) := Ap.mk (Cel.live hc) (Fr.blk hb_)
  have fr_b2_0 : Fr w.heap.size (some b2_0) := Fr.le (Fr.blk hb_) hT.size
  have hm := hm.ext x1
  have hc := hc.ext x1
  have hT := hT.ext x1
  have hB0 := hB0.ext x1
  clear x1 hb_
  refine J.op (Yd.assign rfl) rfl ?_
  refine J.nil ?_
  refine J.n_then ?_
  refine J.seq ?_
  refine J.seq ?_
  refine J.region ?_
  refine J.op (Yd.load pl24 rfl (Cel.cell1 c2_0 0 rfl)) rfl ?_
  refine J.op (Yd.cast (Yd.eqPn Try.underlying24 rfl rfl) (show _ = Value.bool false from rfl)) rfl ?_
  refine J.op (Yd.move rfl) rfl ?_
  refine J.op_g rfl rfl rfl (Yd.move rfl) rfl ?_
  refine J.op_g rfl rfl rfl (Yd.lss rfl rfl) rfl ?_
  refine J.op (Yd.pick_f rfl rfl) rfl ?_
  refine J.nil ?_
  refine J.n_then ?_
  refine J.know (t := 13) (v' := .bool false) rfl (ff (by omega)) ?_
  refine J.cond_false rfl ?_
  refine J.skip ?_
  refine J.n_then ?_
  refine J.seq ?_
  refine J.regionO [(5, true), (6, true)] [(0, 1), (1, 1), (2, 1), (3, 1), (4, 1), (7, 1), (8, 1)] [(9, true), (10, true), (11, false)] mix (by kernel_rfl) ?_
  refine J.s_op rfl (fun _ => Yd.move rfl) rfl ?_
  refine J.s_op rfl (fun _ => Yd.mini rfl rfl) rfl ?_
  refine J.s_nil ?_
  refine J.o_op rfl (Yd.load pl24 rfl (Cel.cell1 c2_0 0 rfl)) rfl ?_
  refine J.o_op rfl (Yd.load pl24 rfl (Cel.cell1 c2_0 0 rfl)) rfl ?_
  refine J.o_op rfl (Yd.nilCheck rfl) rfl ?_
  refine J.o_op rfl (Yd.cast (Yd.fieldA Try.underlying65 rfl ti3 rfl rfl) (show _ = Value.pointer (some ⟨b, 1, none⟩) from rfl)) rfl ?_
  refine J.o_op rfl (Yd.load pl3 rfl (Cel.cell1 hc 1 rfl)) rfl ?_
  refine J.o_op rfl (Yd.add rfl rfl (by first | omega | exact idx_u8' _ | (simp only [Int.toNat_natCast]; omega) | (simp only [List.length_map, List.length_drop, List.length_take, List.length_append, List.length_replicate]; omega) | (simp <;> omega))) rfl ?_
  refine J.o_op rfl (Yd.cast (Yd.mini rfl rfl) (show _ = I (tkI now n) from rfl)) rfl ?_
  refine J.o_nil ?_
  refine J.s_op rfl (fun _ => Yd.nilCheck rfl) rfl ?_
  refine J.s_op rfl (fun _ => Yd.cast (Yd.fieldA Try.underlying65 rfl ti3 rfl rfl) (show _ = Value.pointer (some ⟨b, 1, none⟩) from rfl)) rfl ?_
  refine J.s_eff0 rfl (Ye.store1 ti3 hc 1 rfl rfl rfl rfl rfl rfl) ?_
  rintro _ w2 ⟨cX, hu⟩
  simp only [List.set_cons_zero, List.set_cons_succ] at cX
  have hg := hu.gb
  have hm := Mp.gbk hm hg (Ap.symm abm)
  have hT := Thb.kp hT (by intro q hq; simp only [List.mem_cons, List.mem_nil_iff, or_false] at hq; subst hq; exact .inl rfl) (Tn.ofGB hg)
  have hB0 := Tn.tnk hB0 (by intro q hq; simp only [List.mem_cons, List.mem_nil_iff, or_false] at hq; subst hq; exact .inl (by simp)) (Tn.ofGB hg)
  have c2_0 := Cel.gbk c2_0 hg (Ap.symm ap_b_b2_0)
  clear hg
  replace hc := cX
  clear cX hu
  refine J.s_nil ?_
  refine J.n_np ?_
  refine J.n_then ?_
  refine J.seq ?_
  refine J.seq ?_
  refine J.region ?_
  refine J.op (Yd.load pl24 rfl (Cel.cell1 c2_0 0 rfl)) rfl ?_
  refine J.op (Yd.nilCheck rfl) rfl ?_
  refine J.op (Yd.cast (Yd.fieldA Try.underlying65 rfl ti63 rfl rfl) (show _ = Value.pointer (some ⟨b, 3, none⟩) from rfl)) rfl ?_
  refine J.op (Yd.load pl63 rfl (Cel.cell1 hc 3 rfl)) rfl ?_
  refine J.eff (Ye.rangeM Try.underlying63 rfl hm) rfl ?_
  rintro _ w3 ⟨r, rfl, hb_r, hi_r, x1⟩
  have ap_mb_r : Ap (some mb) (some r) := Ap.mk (Mp.live hm) (Fr.blk hb_r)
  have ap_b_r : Ap (some b) (some r) := Ap.mk (Cel.live hc) (Fr.blk hb_r)
  have ap_b2_0_r : Ap (some b2_0) (some r) := Ap.mk (Cel.live c2_0) (Fr.blk hb_r)
  have fr_r : Fr w.heap.size (some r) := Fr.le (Fr.blk hb_r) hT.size
  have hm := hm.ext x1
  have hc := hc.ext x1
  have hT := hT.ext x1
  have hB0 := hB0.ext x1
  have c2_0 := c2_0.ext x1
  clear x1
  refine J.nil ?_
  refine J.n_then ?_
  refine J.block ?_
  refine J.loop (ι := List Nat × List (Key × Value)) (fun i => [(29, .pointer (some ⟨r, 0, none⟩)), (4, I ((tot q : Int) - (tot (qT (fun l => l.filter fun x => !agP (tkI now n) ex x) i.1 0 q) : Int))), (2, .pointer (some ⟨b2_0, 0, none⟩))]) (fun i w' => RqX 65 36 base K D mb i.2 w' b (ex, tkI now n, last) (qT (fun l => l.filter fun x => !agP (tkI now n) ex x) i.1 0 q) ∧ i.2.length = m.length ∧ Thb K b w w' ∧ Cel w' b2_0 24 [(0, 1, [.pointer (some ⟨b, 0, none⟩)])] ∧ Mi w' r mb m.length i.1 ∧ True) (fun i => tkM m.length i.1) (([], m)) ⟨rfl, (someI (by rw [qT_nil]; omega)), rfl, trivial⟩ (⟨(by rw [qT_nil]; exact h.setc hB0 hc), rfl, hT, c2_0, hi_r, e0⟩) ?_
  rintro ⟨seen, mk⟩ w4 ⟨hx, hn, hT, c2_0, hi, e0⟩
  dsimp only at *
  have hqt := qT_tot (f := fun x => !agP (tkI now n) ex x) (seen := seen) q 0
  have hc := hx.cel
  have hm := hx.mp
  have abm : Ap (some b) (some mb) := fun k e1 e2 => by cases e1; cases e2; exact hx.ne rfl
  refine J.seq ?_
  refine J.region ?_
  by_cases hall : ∀ j, j < m.length → j ∈ seen
  · skip
    refine J.eff (Ye.nextD rfl hm hn hi hall) rfl ?_
    rintro _ w5 ⟨rfl, x1⟩
    have c2_0 := c2_0.ext x1
    have hi := hi.ext x1
    have hc := hc.ext x1
    have hm := hm.ext x1
    have hT := hT.ext x1
    have hx := hx.ext x1
    clear x1
    refine J.op (Yd.extract rfl rfl) rfl ?_
    refine J.nil ?_
    refine J.n_then ?_
    refine J.seq ?_
    refine J.cond_false rfl ?_
    refine J.exit ?_
    refine J.x_then ?_
    refine J.x_then ?_
    refine J.x_block ?_
    refine J.n_then ?_
    refine J.seq ?_
    refine J.region ?_
    refine J.op (Yd.move rfl) rfl ?_
    refine J.op (Yd.assign rfl) rfl ?_
    refine J.nil ?_
    refine J.n_then ?_
    refine J.ret ?_
    exact J.ret1 rfl rfl (⟨_, rfl, mk, congrArg (fun z : Nat => I ((tot q : Int) - (z : Int))) (congrArg tot (qT_all _ _ _ _ (fun j _ h2 => hall j (by have := R2.len h.rows; omega)))), (by rw [← qT_all _ seen q 0 (fun j _ h2 => hall j (by have := R2.len h.rows; omega))]; exact hx), hT⟩)
  · skip
    refine J.eff (Ye.nextI rfl hm hn hi hall) rfl ?_
    rintro _ w6 ⟨ix, pk, hpk, hns, rfl, hi2, hg⟩
    have hOr : OutD K [some r] := fun q hq k e hk => by simp only [List.mem_singleton] at hq; subst hq; cases e; have := (h.kb _ hk).2; have := fr_r _ rfl; omega
    have hx := hx.tnk (Tn.ofGB hg) hOr
    have c2_0 := Cel.gbk c2_0 hg ap_b2_0_r
    have hc := Cel.gbk hc hg ap_b_r
    have hm := Mp.gbk hm hg ap_mb_r
    have hT := Thb.kp hT (by intro q hq; simp only [List.mem_cons, List.mem_nil_iff, or_false] at hq; subst hq; exact .inr (.inr fr_r)) (Tn.ofGB hg)
    clear hg
    replace hi := hi2
    clear hi2
    obtain ⟨rk, hrk, hkey, ⟨es, ho, hr2⟩, hrow⟩ := R2.at hx.rows hpk
    have htt := tot_at hrk
    have htl := R2.len hr2
    have hfl9 := List.length_filter_le (fun x => !agI (tkI now n) ex x) es
    have h1 := Eq4.one hr2
    have hgm := mget_at hx.nd hpk
    have hbd : ∀ x ∈ es, 0 ≤ x.2.2.1 ∧ x.2.2.1 ≤ 1099511627776 := fun x hx2 => by obtain ⟨y, hy, hxy⟩ := R2.mem hr2 hx2; rw [hxy.1.2.2.1]; exact qT_bd hqb hrk y hy
    have hrb : ∀ {z : Nat}, w.heap.size ≤ z → Ap (some z) pk.2.ownBlock := fun hz k e1 e2 => by cases e1; have := (h.kb _ (hrow _ e2).1).2; omega
    have ap_b_vk : Ap (some b) pk.2.ownBlock := fun k e1 e2 => by cases e1; exact (hrow _ e2).2.2.1 rfl
    have ap_mb_vk : Ap (some mb) pk.2.ownBlock := fun k e1 e2 => by cases e1; exact (hrow _ e2).2.2.2 rfl
    have ap_r_vk := hrb (fr_r _ rfl)
    have ap_b1_vk := hrb (fr_b2_0 _ rfl)
    have hB := Tn.refl [some b, some mb, pk.2.ownBlock] w6
    refine J.op (Yd.extract rfl rfl) rfl ?_
    refine J.nil ?_
    refine J.n_then ?_
    refine J.seq ?_
    refine J.cond_true rfl ?_
    refine J.skip ?_
    refine J.n_then ?_
    refine J.block ?_
    refine J.seq ?_
    refine J.region ?_
    refine J.op (Yd.entryM rfl hm hn hi hpk) rfl ?_
    refine J.op (Yd.extract rfl rfl) rfl ?_
    refine J.op (Yd.extract rfl rfl) rfl ?_
    refine J.op (Yd.assign rfl) rfl ?_
    refine J.op (Yd.assign rfl) rfl ?_
    refine J.nil ?_
    refine J.n_then ?_
    refine J.seq ?_
    refine J.region ?_
    refine J.op (Yd.move rfl) rfl ?_
    refine J.op (Yd.lenE (K := itmS) Try.underlying31 rfl (Es.rd ho)) rfl ?_
    refine J.op (Yd.assign rfl) rfl ?_
    refine J.nil ?_
    refine J.n_then ?_
    refine J.seq ?_
    refine J.regionT [pk.2.ownBlock] [(4, true), (5, true), (6, true)] [(0, 1), (1, 1), (2, 1), (3, 1), (7, 0)] [(8, false)] mix (by kernel_rfl) ?_
    refine J.s_op rfl (fun _ => Yd.move rfl) rfl ?_
    refine J.s_op rfl (fun _ => Yd.move rfl) rfl ?_
    refine J.s_op rfl (fun _ => Yd.mkFuncC rfl rfl) rfl ?_
    refine J.s_nil ?_
    refine J.t_op rfl (fun w1 ht => Yd.load pl24 rfl (Cel.cell1 (Cel.tnk c2_0 ht (ApL.one ap_b1_vk)) 0 rfl)) rfl ?_
    refine J.t_op rfl (fun _ _ => Yd.nilCheck rfl) rfl ?_
    refine J.t_op rfl (fun _ _ => Yd.cast (Yd.fieldA Try.underlying65 rfl ti63 rfl rfl) (show _ = Value.pointer (some ⟨b, 3, none⟩) from rfl)) rfl ?_
    refine J.t_op rfl (fun w1 ht => Yd.load pl63 rfl (Cel.cell1 (Cel.tnk hc ht (ApL.one ap_b_vk)) 3 rfl)) rfl ?_
    refine J.t_eff rfl (Ye.call cl28 rfl (DelF_any c2_0 hc hex2.1 hnow2 ap_b1_vk ap_b_vk h1 hbd ho)) rfl (fun _ _ h => Tn.mono h.2.2 (by simp)) ?_
    rintro sv w7 ⟨ho2, hsub, x1⟩
    have ap_b2_0_sv : Ap (some b2_0) sv.ownBlock := fun k e1 e2 => ap_b1_vk k e1 (hsub k e2)
    have ap_r_sv : Ap (some r) sv.ownBlock := fun k e1 e2 => ap_r_vk k e1 (hsub k e2)
    have ap_b_sv : Ap (some b) sv.ownBlock := fun k e1 e2 => ap_b_vk k e1 (hsub k e2)
    have ap_mb_sv : Ap (some mb) sv.ownBlock := fun k e1 e2 => ap_mb_vk k e1 (hsub k e2)
    have c2_0 := Cel.tnk c2_0 x1 (ApL.one ap_b1_vk)
    have hi := Mi.tnk hi x1 (ApL.one ap_r_vk)
    have hc := Cel.tnk hc x1 (ApL.one ap_b_vk)
    have hm := Mp.tnk hm x1 (ApL.one ap_mb_vk)
    have hT := Thb.kp hT (by intro q hq; simp only [List.mem_cons, List.mem_nil_iff, or_false] at hq; subst hq; exact .inr (.inl (fun k e => (hrow k e).1))) x1
    have hB := Tn.tnk hB (by intro q hq; simp only [List.mem_cons, List.mem_nil_iff, or_false] at hq; subst hq; exact .inl (by simp)) x1
    clear x1
    refine J.t_nil ?_
    refine J.s_eff0 rfl (Ye.mapSet Try.underlying63 Try.underlying9 rfl rfl rfl hm) ?_
    rintro _ w8 ⟨hm2, hg⟩
    have c2_0 := Cel.gbk c2_0 hg (Ap.symm ap_mb_b2_0)
    have hi := Mi.gbk hi hg (Ap.symm ap_mb_r)
    have hc := Cel.gbk hc hg abm
    have hT := Thb.kp hT (by intro q hq; simp only [List.mem_cons, List.mem_nil_iff, or_false] at hq; subst hq; exact .inr (.inl (fun k e => by cases e; exact h.mm.1))) (Tn.ofGB hg)
    have hB := Tn.tnk hB (by intro q hq; simp only [List.mem_cons, List.mem_nil_iff, or_false] at hq; subst hq; exact .inl (by simp)) (Tn.ofGB hg)
    have ho2 := Es.gbk ho2 hg (Ap.symm ap_mb_sv)
    clear hg
    replace hm := hm2
    clear hm2
    refine J.s_nil ?_
    refine J.n_np ?_
    refine J.n_then ?_
    refine J.region ?_
    refine J.op (Yd.move rfl) rfl ?_
    refine J.op (Yd.move rfl) rfl ?_
    refine J.op (Yd.load pl24 rfl (Cel.cell1 c2_0 0 rfl)) rfl ?_
    refine J.op (Yd.nilCheck rfl) rfl ?_
    refine J.op (Yd.cast (Yd.fieldA Try.underlying65 rfl ti63 rfl rfl) (show _ = Value.pointer (some ⟨b, 3, none⟩) from rfl)) rfl ?_
    refine J.op (Yd.load pl63 rfl (Cel.cell1 hc 3 rfl)) rfl ?_
    refine J.op (Yd.move rfl) rfl ?_
    refine J.op (Yd.cast (Yd.lookupS Try.underlying63 Try.underlying9 ti31 rfl rfl hm) (show _ = sv by rw [mget_mset]; rfl)) rfl ?_
    refine J.op (Yd.lenE (K := itmS) Try.underlying31 rfl (Es.rd ho2)) rfl ?_
    refine J.op (Yd.sub rfl rfl (by first | omega | exact idx_u8' _ | (simp only [Int.toNat_natCast]; omega) | (simp only [List.length_map, List.length_drop, List.length_take, List.length_append, List.length_replicate]; omega) | (simp <;> omega))) rfl ?_
    refine J.op (Yd.add rfl rfl (by first | omega | exact idx_u8' _ | (simp only [Int.toNat_natCast]; omega) | (simp only [List.length_map, List.length_drop, List.length_take, List.length_append, List.length_replicate]; omega) | (simp <;> omega))) rfl ?_
    refine J.op (Yd.assign rfl) rfl ?_
    refine J.nil ?_
    refine J.n_block ?_
    refine J.n_then ?_
    have hfin := hx.fin hB hc hm ho2 hsub hr2 hgm hkey hrow hrk hns hn hnd (by have := (List.getElem?_eq_some_iff.1 hpk).1; omega)
    exact J.round ((seen ++ [ix], mset pk.1 sv mk)) ⟨rfl, (someI (by have h9 := hfin.2.2; simp only [Int.toNat_natCast] at *; omega)), rfl, trivial⟩ (⟨hfin.1, hfin.2.1, hT, c2_0, hi, e0⟩) (tkM_lt (by have := (List.getElem?_eq_some_iff.1 hpk).1; omega) hns)
end Ytmpfgiffpdackaa
end Go.Proofs
