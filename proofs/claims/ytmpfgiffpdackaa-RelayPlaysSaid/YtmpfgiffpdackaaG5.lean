import Derived.Test.YtmpfgiffpdackaaT
import Derived.Test.YtmpfgiffpdackaaG4
set_option linter.unusedVariables false
set_option linter.unusedSimpArgs false
set_option maxRecDepth 100000
set_option maxHeartbeats 4000000
namespace Go.Proofs
open Go.X Go.RowKit
namespace Ytmpfgiffpdackaa
theorem List_raw {b mb : Nat} {ex now last : Int} {m : List (Key × Value)} {to : Key} {es : List Itm} {w : World} (hc : Cel w b 65 [(0, 1, [I ex]), (1, 1, [I now]), (2, 1, [I last]), (3, 1, [.map (some mb)])]) (hm : Mp w mb m) (hr : Er itmS w ((mget m to).getD nilS) es) (hd : ∀ i, i < es.length → ∃ l : List UInt8, Bs w (es.getD i itmD).2.2.2 l ∧ l.length ≤ 1000000) (hn : es.length ≤ 1000) : C Try.prog 13 [.pointer (some ⟨b, 0, none⟩), Str to] w (Ret fun u w' => ∃ es', Es itmS w.heap.size 36 w' u es' ∧ es'.map hdr = es.map hdr ∧ Ext w w') := by
  have hmx := Er.max hr
  have e0 := Ext.refl w
  refine C.enter Try.func13 rfl Try.ntmps13 rfl ?_
  refine J.seq ?_
  refine J.region ?_
  refine J.op (Yd.assign rfl) rfl ?_
  refine J.nil ?_
  refine J.n_then ?_
  refine J.seq ?_
  refine J.seq ?_
  refine J.region ?_
  refine J.op (Yd.move rfl) rfl ?_
  refine J.op (Yd.cast (Yd.eqPn Try.underlying24 rfl rfl) (show _ = Value.bool false from rfl)) rfl ?_
  refine J.nil ?_
  refine J.n_then ?_
  refine J.cond_false rfl ?_
  refine J.skip ?_
  refine J.n_then ?_
  refine J.seq ?_
  refine J.seq ?_
  refine J.region ?_
  refine J.op (Yd.move rfl) rfl ?_
  refine J.op (Yd.nilCheck rfl) rfl ?_
  refine J.op (Yd.cast (Yd.fieldA Try.underlying65 rfl ti63 rfl rfl) (show _ = Value.pointer (some ⟨b, 3, none⟩) from rfl)) rfl ?_
  refine J.op (Yd.load pl63 rfl (Cel.cell1 (Cel.ext hc e0) 3 rfl)) rfl ?_
  refine J.op (Yd.move rfl) rfl ?_
  refine J.op (Yd.cast (Yd.lookupS Try.underlying63 Try.underlying9 ti31 rfl rfl (hm.ext e0)) (show _ = ((mget m to).getD nilS) from rfl)) rfl ?_
  refine J.op (Yd.lenE (K := itmS) Try.underlying31 rfl (Er.ext hr e0)) rfl ?_
  refine J.op (Yd.move rfl) rfl ?_
  refine J.nil ?_
  refine J.n_then ?_
  refine J.block ?_
  refine J.loop (ι := Nat × Value × List Itm) (fun i => [(14, ((mget m to).getD nilS)), (15, I (es.length : Int)), (16, I (i.1 : Int)), (4, i.2.1)]) (fun i w' => i.1 ≤ es.length ∧ i.2.2.map hdr = (es.take i.1).map hdr ∧ Es itmS w.heap.size 36 w' i.2.1 i.2.2 ∧ Fr w.heap.size (i.2.1).ownBlock ∧ Ext w w') (fun i => es.length - i.1) ((0, nilS, [])) ⟨rfl, rfl, rfl, rfl, trivial⟩ (⟨Nat.zero_le _, rfl, (Es.nil _ _ _ _), Fr.nil, e0⟩) ?_
  rintro ⟨i, v4, es4⟩ w1 ⟨hk, hh, ho4, fr_v4, e0⟩
  dsimp only at *
  refine J.seq ?_
  refine J.region ?_
  refine J.op (Yd.lss rfl rfl) rfl ?_
  refine J.nil ?_
  refine J.n_then ?_
  refine J.seq ?_
  refine J.cond_dec rfl (fun hc1 => ?_) (fun hc1 => ?_)
  · skip
    obtain ⟨ld, hld, hll⟩ := hd (i : Int).toNat (by omega)
    refine J.skip ?_
    refine J.n_then ?_
    refine J.seq ?_
    refine J.block ?_
    refine J.seq ?_
    refine J.region ?_
    refine J.op (Yd.idxE (K := itmS) Try.underlying31 ti36 rfl rfl (Er.ext hr e0) (by first | omega | exact idx_u8' _ | (simp only [Int.toNat_natCast]; omega) | (simp only [List.length_map, List.length_drop, List.length_take, List.length_append, List.length_replicate]; omega) | (simp <;> omega))) rfl ?_
    refine J.op (Yd.loadEd (K := itmS) itmD ag36 ti36 rfl (Er.ext hr e0) (by first | omega | exact idx_u8' _ | (simp only [Int.toNat_natCast]; omega) | (simp only [List.length_map, List.length_drop, List.length_take, List.length_append, List.length_replicate]; omega) | (simp <;> omega))) rfl ?_
    refine J.eff (Ye.alloc ti36 (S := [(0, 4, [I 0, Str [], I 0, nilS])]) (by simp [SegAll, SegOK, Value.cells, nilS])) rfl ?_
    rintro _ w2 ⟨b6_1, rfl, hb_, c6_1, x1⟩
    have ap_v4_b6_1 : Ap v4.ownBlock (some b6_1) := Ap.mk (Es.live ho4) (Fr.blk hb_)
    have fr_b6_1 : Fr w.heap.size (some b6_1) := Fr.le (Fr.blk hb_) e0.size
    have e0 := e0.trans x1
    have ho4 := ho4.ext x1
    clear x1 hb_
    refine J.eff0 (Ye.storeA (ys := itmS.c (es.getD (i : Int).toNat itmD)) ti36 c6_1 0 rfl rfl rfl rfl (by rfl) (itm_one1 (Rd.one hld) _ (List.mem_singleton.2 rfl))) ?_
    rintro _ w3 ⟨cX, hu⟩
    simp only [List.set_cons_zero, List.set_cons_succ] at cX
    have hg := hu.gb
    have ho4 := Es.gbk ho4 hg ap_v4_b6_1
    have e0 := Ext.gbk e0 fr_b6_1 hg
    clear hg
    replace c6_1 := cX
    clear cX hu
    refine J.nil ?_
    refine J.n_then ?_
    refine J.region ?_
    refine J.op (Yd.move rfl) rfl ?_
    refine J.op (Yd.loadA ag36 ti36 rfl c6_1 0 rfl) rfl ?_
    refine J.eff (Ye.call cl30 rfl (Own_ok (x := (es.getD (i : Int).toNat itmD)) (l := ld) (hld.ext e0) hll)) rfl ?_
    rintro _ w4 ⟨d22, rfl, od22, x1⟩
    have ap_v4_d22 : Ap v4.ownBlock d22.ownBlock := Ap.mk (Es.live ho4) (Ow.fr od22)
    have ap_b6_1_d22 : Ap (some b6_1) d22.ownBlock := Ap.mk (Cel.live c6_1) (Ow.fr od22)
    have fr_d22 : Fr w.heap.size d22.ownBlock := Fr.le (Ow.fr od22) e0.size
    replace od22 := Ow.base od22 e0.size
    have e0 := e0.trans x1
    have ho4 := ho4.ext x1
    have c6_1 := c6_1.ext x1
    clear x1
    refine J.eff (Ye.litE1 (K := itmS) (u := ((es.getD (i : Int).toNat itmD).1, (es.getD (i : Int).toNat itmD).2.1, (es.getD (i : Int).toNat itmD).2.2.1, d22)) (base := w4.heap.size) Try.underlying31 ti36 rfl rfl rfl (Nat.le_refl _)) rfl ?_
    rintro sl w5 ⟨hsl, x1⟩
    have ap_v4_sl : Ap v4.ownBlock sl.ownBlock := Ap.mk (Es.live ho4) (Es.fr hsl)
    have ap_b6_1_sl : Ap (some b6_1) sl.ownBlock := Ap.mk (Cel.live c6_1) (Es.fr hsl)
    have ap_d22_sl : Ap d22.ownBlock sl.ownBlock := Ap.mk (Ow.live od22) (Es.fr hsl)
    have fr_sl : Fr w.heap.size sl.ownBlock := Fr.le (Es.fr hsl) e0.size
    replace hsl := Es.base hsl e0.size
    have e0 := e0.trans x1
    have ho4 := ho4.ext x1
    have c6_1 := c6_1.ext x1
    have od22 := od22.ext x1
    clear x1
    refine J.eff (Ye.appendE (K := itmS) Try.underlying31 ti36 rfl rfl rfl rfl ho4 (Es.rd hsl) (itm_one1 (Rd.one (Ow.rd od22))) (by have h9 := congrArg List.length hh; simp only [List.length_map, List.length_take] at h9; rw [List.length_singleton]; omega) e0.size) rfl ?_
    rintro s2 w6 ⟨ho2, hg, hsf⟩
    have ap_b6_1_s2 : Ap (some b6_1) s2.ownBlock := Ap.sf (Ap.symm ap_v4_b6_1) (Cel.live c6_1) hsf
    have ap_d22_s2 : Ap d22.ownBlock s2.ownBlock := Ap.sf (Ap.symm ap_v4_d22) (Ow.live od22) hsf
    have ap_sl_s2 : Ap sl.ownBlock s2.ownBlock := Ap.sf (Ap.symm ap_v4_sl) (Es.live hsl) hsf
    have fr_s2 : Fr w.heap.size s2.ownBlock := Fr.sf fr_v4 hsf e0.size
    have c6_1 := Cel.gbk c6_1 hg (Ap.symm ap_v4_b6_1)
    have od22 := Ow.gbk od22 hg (Ap.symm ap_v4_d22)
    have hsl := Es.gbk hsl hg (Ap.symm ap_v4_sl)
    have e0 := Ext.gbk e0 fr_v4 hg
    clear hg hsf
    refine J.op (Yd.assign rfl) rfl ?_
    refine J.nil ?_
    refine J.n_block ?_
    refine J.n_then ?_
    refine J.region ?_
    refine J.op (Yd.add rfl rfl (by first | omega | exact idx_u8' _ | (simp only [Int.toNat_natCast]; omega) | (simp only [List.length_map, List.length_drop, List.length_take, List.length_append, List.length_replicate]; omega) | (simp <;> omega))) rfl ?_
    refine J.op (Yd.move rfl) rfl ?_
    refine J.nil ?_
    refine J.n_then ?_
    exact J.round ((i + 1, s2, es4 ++ [((es.getD (i : Int).toNat itmD).1, (es.getD (i : Int).toNat itmD).2.1, (es.getD (i : Int).toNat itmD).2.2.1, d22)])) ⟨rfl, rfl, rfl, rfl, trivial⟩ (⟨by show i + 1 ≤ es.length; omega, by rw [Int.toNat_natCast]; exact hdr_take hh (by omega), ho2, fr_s2, e0⟩) (by show es.length - (i + 1) < es.length - i; omega)
  · skip
    refine J.exit ?_
    refine J.x_then ?_
    refine J.x_then ?_
    refine J.x_block ?_
    refine J.n_then ?_
    refine J.seq ?_
    refine J.region ?_
    refine J.op (Yd.move rfl) rfl ?_
    refine J.op (Yd.assign rfl) rfl ?_
    refine J.nil ?_
    refine J.n_then ?_
    refine J.ret ?_
    exact J.ret1 rfl rfl (⟨_, rfl, _, ho4, by rw [show i = es.length by omega, List.take_length] at hh; exact hh, e0⟩)

theorem ListNil_ok {to : Key} {w : World} : C Try.prog 13 [.pointer none, Str to] w (Ret fun v w' => v = nilS ∧ Ext w w') := by
  have e0 := Ext.refl w
  refine C.enter Try.func13 rfl Try.ntmps13 rfl ?_
  refine J.seq ?_
  refine J.region ?_
  refine J.op (Yd.assign rfl) rfl ?_
  refine J.nil ?_
  refine J.n_then ?_
  refine J.seq ?_
  refine J.seq ?_
  refine J.region ?_
  refine J.op (Yd.move rfl) rfl ?_
  refine J.op (Yd.cast (Yd.eqPn Try.underlying24 rfl rfl) (show _ = Value.bool true from rfl)) rfl ?_
  refine J.nil ?_
  refine J.n_then ?_
  refine J.cond_true rfl ?_
  refine J.seq ?_
  refine J.region ?_
  refine J.op (Yd.assign rfl) rfl ?_
  refine J.nil ?_
  refine J.n_then ?_
  refine J.ret ?_
  refine J.r_then ?_
  exact J.ret1 rfl rfl (⟨_, rfl, rfl, e0⟩)
end Ytmpfgiffpdackaa
end Go.Proofs
