import Derived.Test.YtmpfgiffpdackaaT
import Derived.Test.YtmpfgiffpdackaaG10
import Derived.Test.YtmpfgiffpdackaaQ4
set_option linter.unusedVariables false
set_option linter.unusedSimpArgs false
set_option maxRecDepth 100000
set_option maxHeartbeats 4000000
namespace Go.Proofs
open Go.X Go.RowKit
namespace Ytmpfgiffpdackaa
theorem Put_fr {b mb : Nat} {ex now last : Int} {m : List (Key × Value)} {fr to : Key} {a : Value} {l : List UInt8} {es : List Itm} {w : World} (hc : Cel w b 65 [(0, 1, [I ex]), (1, 1, [I now]), (2, 1, [I last]), (3, 1, [.map (some mb)])]) (hm : Mp w mb m) (hr : Er itmS w ((mget m to).getD nilS) es) (ha : Bs w a l) (hn1 : fr.length ≤ 1000000 ∧ nameB fr = false) : C Try.prog 10 [.pointer (some ⟨b, 0, none⟩), Str fr, Str to, a] w (Ret fun v w' => v = .tuple #[I 0, I 1] ∧ Ext w w') := by
  have hmx := Er.max hr
  have e0 := Ext.refl w
  refine C.enter Try.func10 rfl Try.ntmps10 rfl ?_
  refine J.seq ?_
  refine J.region ?_
  refine J.op (Yd.assign rfl) rfl ?_
  refine J.op (Yd.assign rfl) rfl ?_
  refine J.nil ?_
  refine J.n_then ?_
  refine J.seq ?_
  refine J.block ?_
  refine J.seq ?_
  refine J.region ?_
  refine J.op (Yd.move rfl) rfl ?_
  refine J.eff (Ye.call cl26 rfl (Name_is hn1)) rfl ?_
  rintro _ w1 ⟨rfl, x1⟩
  have e0 := e0.trans x1
  clear x1
  refine J.op (Yd.not rfl) rfl ?_
  refine J.op (Yd.move rfl) rfl ?_
  refine J.not_g rfl rfl rfl rfl rfl ?_
  refine J.not_g rfl rfl rfl rfl rfl ?_
  refine J.not_g rfl rfl rfl rfl rfl ?_
  refine J.op (Yd.pick_t rfl rfl) rfl ?_
  refine J.op (Yd.assign rfl) rfl ?_
  refine J.nil ?_
  refine J.n_then ?_
  refine J.cond_true rfl ?_
  refine J.seq ?_
  refine J.region ?_
  refine J.op (Yd.assign rfl) rfl ?_
  refine J.op (Yd.assign rfl) rfl ?_
  refine J.nil ?_
  refine J.n_then ?_
  refine J.ret ?_
  refine J.r_block ?_
  refine J.r_then ?_
  exact J.ret2 rfl rfl rfl (⟨_, rfl, rfl, e0⟩)

theorem Put_to {b mb : Nat} {ex now last : Int} {m : List (Key × Value)} {fr to : Key} {a : Value} {l : List UInt8} {es : List Itm} {w : World} (hc : Cel w b 65 [(0, 1, [I ex]), (1, 1, [I now]), (2, 1, [I last]), (3, 1, [.map (some mb)])]) (hm : Mp w mb m) (hr : Er itmS w ((mget m to).getD nilS) es) (ha : Bs w a l) (hn1 : fr.length ≤ 1000000 ∧ nameB fr = true) (hn2 : to.length ≤ 1000000 ∧ nameB to = false) : C Try.prog 10 [.pointer (some ⟨b, 0, none⟩), Str fr, Str to, a] w (Ret fun v w' => v = .tuple #[I 0, I 1] ∧ Ext w w') := by
  have hmx := Er.max hr
  have e0 := Ext.refl w
  refine C.enter Try.func10 rfl Try.ntmps10 rfl ?_
  refine J.seq ?_
  refine J.region ?_
  refine J.op (Yd.assign rfl) rfl ?_
  refine J.op (Yd.assign rfl) rfl ?_
  refine J.nil ?_
  refine J.n_then ?_
  refine J.seq ?_
  refine J.block ?_
  refine J.seq ?_
  refine J.region ?_
  refine J.op (Yd.move rfl) rfl ?_
  refine J.eff (Ye.call cl26 rfl (Name_is hn1)) rfl ?_
  rintro _ w1 ⟨rfl, x1⟩
  have e0 := e0.trans x1
  clear x1
  refine J.op (Yd.not rfl) rfl ?_
  refine J.op (Yd.move rfl) rfl ?_
  refine J.op_g rfl rfl rfl (Yd.move rfl) rfl ?_
  refine J.eff_g rfl rfl rfl (Ye.call cl26 rfl (Name_is hn2)) rfl ?_
  rintro _ w2 ⟨rfl, x1⟩
  have e0 := e0.trans x1
  clear x1
  refine J.op_g rfl rfl rfl (Yd.not rfl) rfl ?_
  refine J.op (Yd.pick_f rfl rfl) rfl ?_
  refine J.op (Yd.assign rfl) rfl ?_
  refine J.nil ?_
  refine J.n_then ?_
  refine J.cond_true rfl ?_
  refine J.seq ?_
  refine J.region ?_
  refine J.op (Yd.assign rfl) rfl ?_
  refine J.op (Yd.assign rfl) rfl ?_
  refine J.nil ?_
  refine J.n_then ?_
  refine J.ret ?_
  refine J.r_block ?_
  refine J.r_then ?_
  exact J.ret2 rfl rfl rfl (⟨_, rfl, rfl, e0⟩)

theorem Put_big {b mb : Nat} {ex now last : Int} {m : List (Key × Value)} {fr to : Key} {a : Value} {l : List UInt8} {es : List Itm} {w : World} (hc : Cel w b 65 [(0, 1, [I ex]), (1, 1, [I now]), (2, 1, [I last]), (3, 1, [.map (some mb)])]) (hm : Mp w mb m) (hr : Er itmS w ((mget m to).getD nilS) es) (ha : Bs w a l) (hn1 : fr.length ≤ 1000000 ∧ nameB fr = true) (hn2 : to.length ≤ 1000000 ∧ nameB to = true) (hl : 6000 < l.length) : C Try.prog 10 [.pointer (some ⟨b, 0, none⟩), Str fr, Str to, a] w (Ret fun v w' => v = .tuple #[I 0, I 11] ∧ Ext w w') := by
  have hmx := Er.max hr
  have e0 := Ext.refl w
  refine C.enter Try.func10 rfl Try.ntmps10 rfl ?_
  refine J.seq ?_
  refine J.region ?_
  refine J.op (Yd.assign rfl) rfl ?_
  refine J.op (Yd.assign rfl) rfl ?_
  refine J.nil ?_
  refine J.n_then ?_
  refine J.seq ?_
  refine J.block ?_
  refine J.seq ?_
  refine J.region ?_
  refine J.op (Yd.move rfl) rfl ?_
  refine J.eff (Ye.call cl26 rfl (Name_is hn1)) rfl ?_
  rintro _ w1 ⟨rfl, x1⟩
  have e0 := e0.trans x1
  clear x1
  refine J.op (Yd.not rfl) rfl ?_
  refine J.op (Yd.move rfl) rfl ?_
  refine J.op_g rfl rfl rfl (Yd.move rfl) rfl ?_
  refine J.eff_g rfl rfl rfl (Ye.call cl26 rfl (Name_is hn2)) rfl ?_
  rintro _ w2 ⟨rfl, x1⟩
  have e0 := e0.trans x1
  clear x1
  refine J.op_g rfl rfl rfl (Yd.not rfl) rfl ?_
  refine J.op (Yd.pick_f rfl rfl) rfl ?_
  refine J.op (Yd.assign rfl) rfl ?_
  refine J.nil ?_
  refine J.n_then ?_
  refine J.cond_false rfl ?_
  refine J.seq ?_
  refine J.region ?_
  refine J.op (Yd.move rfl) rfl ?_
  refine J.op (Yd.len_b Try.underlying34 rfl (Rd.ext ha e0)) rfl ?_
  refine J.op (Yd.gtr rfl rfl) rfl ?_
  refine J.op (Yd.assign rfl) rfl ?_
  refine J.nil ?_
  refine J.n_then ?_
  refine J.know (t := 19) (v' := .bool true) rfl (tt (by omega)) ?_
  refine J.cond_true rfl ?_
  refine J.seq ?_
  refine J.region ?_
  refine J.op (Yd.assign rfl) rfl ?_
  refine J.op (Yd.assign rfl) rfl ?_
  refine J.nil ?_
  refine J.n_then ?_
  refine J.ret ?_
  refine J.r_block ?_
  refine J.r_then ?_
  exact J.ret2 rfl rfl rfl (⟨_, rfl, rfl, e0⟩)

theorem List_bs {b mb : Nat} {ex now last : Int} {m : List (Key × Value)} {to : Key} {es : List Itm} {ll : List It} {w : World} (hc : Cel w b 65 [(0, 1, [I ex]), (1, 1, [I now]), (2, 1, [I last]), (3, 1, [.map (some mb)])]) (hm : Mp w mb m) (hr : Er itmS w ((mget m to).getD nilS) es) (hB : LsB w es ll) (hdl : ∀ y ∈ ll, y.2.2.2.length ≤ 1000000) (hn : es.length ≤ 1000) : C Try.prog 13 [.pointer (some ⟨b, 0, none⟩), Str to] w (Ret fun u w' => ∃ es', Es itmS w.heap.size 36 w' u es' ∧ LsB w' es' ll ∧ Ext w w') := by
  have hmx := Er.max hr
  have hlen := R2.len (show R2 (Eq3 w) es ll from hB)
  have e0 := Ext.refl w
  refine C.enter Try.func13 rfl Try.ntmps13 rfl ?_
  refine J.seq ?_
  refine J.region ?_
  refine J.op (Yd.assign rfl) rfl ?_
  refine J.nil ?_
  refine J.n_then ?_
  refine J.seq ?_
  refine J.seq ?_
  refine J.region ?_
  refine J.op (Yd.move rfl) rfl ?_
  refine J.op (Yd.cast (Yd.eqPn Try.underlying24 rfl rfl) (show _ = Value.bool false from rfl)) rfl ?_
  refine J.nil ?_
  refine J.n_then ?_
  refine J.cond_false rfl ?_
  refine J.skip ?_
  refine J.n_then ?_
  refine J.seq ?_
  refine J.seq ?_
  refine J.region ?_
  refine J.op (Yd.move rfl) rfl ?_
  refine J.op (Yd.nilCheck rfl) rfl ?_
  refine J.op (Yd.cast (Yd.fieldA Try.underlying65 rfl ti63 rfl rfl) (show _ = Value.pointer (some ⟨b, 3, none⟩) from rfl)) rfl ?_
  refine J.op (Yd.load pl63 rfl (Cel.cell1 (Cel.ext hc e0) 3 rfl)) rfl ?_
  refine J.op (Yd.move rfl) rfl ?_
  refine J.op (Yd.cast (Yd.lookupS Try.underlying63 Try.underlying9 ti31 rfl rfl (hm.ext e0)) (show _ = ((mget m to).getD nilS) from rfl)) rfl ?_
  refine J.op (Yd.lenE (K := itmS) Try.underlying31 rfl (Er.ext hr e0)) rfl ?_
  refine J.op (Yd.move rfl) rfl ?_
  refine J.nil ?_
  refine J.n_then ?_
  refine J.block ?_
  refine J.loop (ι := Nat × Value × List Itm) (fun i => [(14, ((mget m to).getD nilS)), (15, I (es.length : Int)), (16, I (i.1 : Int)), (4, i.2.1)]) (fun i w' => i.1 ≤ es.length ∧ LsR w' i.2.1.ownBlock i.2.2 (ll.take i.1) ∧ Es itmS w.heap.size 36 w' i.2.1 i.2.2 ∧ Fr w.heap.size (i.2.1).ownBlock ∧ Ext w w') (fun i => es.length - i.1) ((0, nilS, [])) ⟨rfl, rfl, rfl, rfl, trivial⟩ (⟨Nat.zero_le _, trivial, (Es.nil _ _ _ _), Fr.nil, e0⟩) ?_
  rintro ⟨i, v4, es4⟩ w1 ⟨hk, hls, ho4, fr_v4, e0⟩
  dsimp only at *
  refine J.seq ?_
  refine J.region ?_
  refine J.op (Yd.lss rfl rfl) rfl ?_
  refine J.nil ?_
  refine J.n_then ?_
  refine J.seq ?_
  refine J.cond_dec rfl (fun hc1 => ?_) (fun hc1 => ?_)
  · skip
    have hxy := R2.get itmD itD0 (show R2 (Eq3 w) es ll from hB) (i := (i : Int).toNat) (by omega)
    have hxl := hdl _ (getD_memE itD0 (show (i : Int).toNat < ll.length by omega))
    refine J.skip ?_
    refine J.n_then ?_
    refine J.seq ?_
    refine J.block ?_
    refine J.seq ?_
    refine J.region ?_
    refine J.op (Yd.idxE (K := itmS) Try.underlying31 ti36 rfl rfl (Er.ext hr e0) (by first | omega | exact idx_u8' _ | (simp only [Int.toNat_natCast]; omega) | (simp only [List.length_map, List.length_drop, List.length_take, List.length_append, List.length_replicate]; omega) | (simp <;> omega))) rfl ?_
    refine J.op (Yd.loadEd (K := itmS) itmD ag36 ti36 rfl (Er.ext hr e0) (by first | omega | exact idx_u8' _ | (simp only [Int.toNat_natCast]; omega) | (simp only [List.length_map, List.length_drop, List.length_take, List.length_append, List.length_replicate]; omega) | (simp <;> omega))) rfl ?_
    refine J.eff (Ye.alloc ti36 (S := [(0, 4, [I 0, Str [], I 0, nilS])]) (by simp [SegAll, SegOK, Value.cells, nilS])) rfl ?_
    rintro _ w2 ⟨b6_1, rfl, hb_, c6_1, x1⟩
    have hn_b6_1 := LsR.new hls (Fr.blk hb_)
    have ap_v4_b6_1 : Ap v4.ownBlock (some b6_1) := Ap.mk (Es.live ho4) (Fr.blk hb_)
    have fr_b6_1 : Fr w.heap.size (some b6_1) := Fr.le (Fr.blk hb_) e0.size
    have e0 := e0.trans x1
    have ho4 := ho4.ext x1
    have hls := hls.ext x1
    clear x1 hb_
    refine J.eff0 (Ye.storeA (ys := itmS.c (es.getD (i : Int).toNat itmD)) ti36 c6_1 0 rfl rfl rfl rfl (by rfl) (itm_one1 (Rd.one hxy.2.2.2) _ (List.mem_singleton.2 rfl))) ?_
    rintro _ w3 ⟨cX, hu⟩
    simp only [List.set_cons_zero, List.set_cons_succ] at cX
    have hg := hu.gb
    have ho4 := Es.gbk ho4 hg ap_v4_b6_1
    have e0 := Ext.gbk e0 fr_b6_1 hg
    have hls := LsR.gbk hls hg hn_b6_1
    clear hg
    replace c6_1 := cX
    clear cX hu
    refine J.nil ?_
    refine J.n_then ?_
    refine J.region ?_
    refine J.op (Yd.move rfl) rfl ?_
    refine J.op (Yd.loadA ag36 ti36 rfl c6_1 0 rfl) rfl ?_
    refine J.eff (Ye.call cl30 rfl (Own_ok (x := (es.getD (i : Int).toNat itmD)) (l := (ll.getD (i : Int).toNat itD0).2.2.2) (hxy.2.2.2.ext e0) hxl)) rfl ?_
    rintro _ w4 ⟨d22, rfl, od22, x1⟩
    have hn_d22 := LsR.new hls (Ow.fr od22)
    have ap_v4_d22 : Ap v4.ownBlock d22.ownBlock := Ap.mk (Es.live ho4) (Ow.fr od22)
    have ap_b6_1_d22 : Ap (some b6_1) d22.ownBlock := Ap.mk (Cel.live c6_1) (Ow.fr od22)
    have fr_d22 : Fr w.heap.size d22.ownBlock := Fr.le (Ow.fr od22) e0.size
    replace od22 := Ow.base od22 e0.size
    have e0 := e0.trans x1
    have ho4 := ho4.ext x1
    have c6_1 := c6_1.ext x1
    have hls := hls.ext x1
    clear x1
    refine J.eff (Ye.litE1 (K := itmS) (u := ((es.getD (i : Int).toNat itmD).1, (es.getD (i : Int).toNat itmD).2.1, (es.getD (i : Int).toNat itmD).2.2.1, d22)) (base := w4.heap.size) Try.underlying31 ti36 rfl rfl rfl (Nat.le_refl _)) rfl ?_
    rintro sl w5 ⟨hsl, x1⟩
    have hn_sl := LsR.new hls (Es.fr hsl)
    have ap_v4_sl : Ap v4.ownBlock sl.ownBlock := Ap.mk (Es.live ho4) (Es.fr hsl)
    have ap_b6_1_sl : Ap (some b6_1) sl.ownBlock := Ap.mk (Cel.live c6_1) (Es.fr hsl)
    have ap_d22_sl : Ap d22.ownBlock sl.ownBlock := Ap.mk (Ow.live od22) (Es.fr hsl)
    have fr_sl : Fr w.heap.size sl.ownBlock := Fr.le (Es.fr hsl) e0.size
    replace hsl := Es.base hsl e0.size
    have e0 := e0.trans x1
    have ho4 := ho4.ext x1
    have c6_1 := c6_1.ext x1
    have hls := hls.ext x1
    have od22 := od22.ext x1
    clear x1
    refine J.eff (Ye.appendE (K := itmS) Try.underlying31 ti36 rfl rfl rfl rfl ho4 (Es.rd hsl) (itm_one1 (Rd.one (Ow.rd od22))) (by have h9 := R2.len (show R2 (Eq6 _ _) _ _ from hls); simp only [List.length_take] at h9; rw [List.length_singleton]; omega) e0.size) rfl ?_
    rintro s2 w6 ⟨ho2, hg, hsf⟩
    have ap_b6_1_s2 : Ap (some b6_1) s2.ownBlock := Ap.sf (Ap.symm ap_v4_b6_1) (Cel.live c6_1) hsf
    have ap_d22_s2 : Ap d22.ownBlock s2.ownBlock := Ap.sf (Ap.symm ap_v4_d22) (Ow.live od22) hsf
    have ap_sl_s2 : Ap sl.ownBlock s2.ownBlock := Ap.sf (Ap.symm ap_v4_sl) (Es.live hsl) hsf
    have fr_s2 : Fr w.heap.size s2.ownBlock := Fr.sf fr_v4 hsf e0.size
    have c6_1 := Cel.gbk c6_1 hg (Ap.symm ap_v4_b6_1)
    have od22 := Ow.gbk od22 hg (Ap.symm ap_v4_d22)
    have hsl := Es.gbk hsl hg (Ap.symm ap_v4_sl)
    have e0 := Ext.gbk e0 fr_v4 hg
    have hls2 := LsR.app (x := (((es.getD (i : Int).toNat itmD).1, (es.getD (i : Int).toNat itmD).2.1, (es.getD (i : Int).toNat itmD).2.2.1, d22) : Itm)) (y := (ll.getD (i : Int).toNat itD0)) hls hg hsf ⟨hxy.1, hxy.2.1, hxy.2.2.1, Ow.rd od22⟩ (Ow.live od22) (Ap.symm ap_d22_s2)
    clear hg hsf
    refine J.op (Yd.assign rfl) rfl ?_
    refine J.nil ?_
    refine J.n_block ?_
    refine J.n_then ?_
    refine J.region ?_
    refine J.op (Yd.add rfl rfl (by first | omega | exact idx_u8' _ | (simp only [Int.toNat_natCast]; omega) | (simp only [List.length_map, List.length_drop, List.length_take, List.length_append, List.length_replicate]; omega) | (simp <;> omega))) rfl ?_
    refine J.op (Yd.move rfl) rfl ?_
    refine J.nil ?_
    refine J.n_then ?_
    exact J.round ((i + 1, s2, es4 ++ [((es.getD (i : Int).toNat itmD).1, (es.getD (i : Int).toNat itmD).2.1, (es.getD (i : Int).toNat itmD).2.2.1, d22)])) ⟨rfl, rfl, rfl, rfl, trivial⟩ (⟨by show i + 1 ≤ es.length; omega, (by rw [Int.toNat_natCast] at hls2; show LsR _ _ _ (ll.take (i + 1)); rw [take_succD itD0 (by omega)]; exact hls2), ho2, fr_s2, e0⟩) (by show es.length - (i + 1) < es.length - i; omega)
  · skip
    refine J.exit ?_
    refine J.x_then ?_
    refine J.x_then ?_
    refine J.x_block ?_
    refine J.n_then ?_
    refine J.seq ?_
    refine J.region ?_
    refine J.op (Yd.move rfl) rfl ?_
    refine J.op (Yd.assign rfl) rfl ?_
    refine J.nil ?_
    refine J.n_then ?_
    refine J.ret ?_
    exact J.ret1 rfl rfl (⟨_, rfl, _, ho4, (by rw [List.take_of_length_le (by omega)] at hls; exact hls.b), e0⟩)

theorem Get_yes {b mb : Nat} {ex now last : Int} {m : List (Key × Value)} {to : Key} {id : Int} {k : Nat} {es : List Itm} {y : It} {w : World} (hc : Cel w b 65 [(0, 1, [I ex]), (1, 1, [I now]), (2, 1, [I last]), (3, 1, [.map (some mb)])]) (hm : Mp w mb m) (hr : Er itmS w ((mget m to).getD nilS) es) (hk : k < es.length) (hq : idxI (eqI id) es = (k : Int)) (hy : Eq3 w (es.getD k itmD) y) (hyl : y.2.2.2.length ≤ 1000000) : C Try.prog 23 [.pointer (some ⟨b, 0, none⟩), Str to, I id] w (Ret fun u w' => ∃ x : Itm, u = .tuple #[.agg (itmS.c x).toArray, I 0] ∧ Eq3 w' x y ∧ Ext w w') := by
  have hmx := Er.max hr
  have e0 := Ext.refl w
  refine C.enter Try.func23 rfl Try.ntmps23 rfl ?_
  refine J.seq ?_
  refine J.region ?_
  refine J.eff (Ye.alloc ti36 (S := [(0, 4, [I 0, Str [], I 0, nilS])]) (by simp [SegAll, SegOK, Value.cells, nilS])) rfl ?_
  rintro _ w1 ⟨b6_0, rfl, hb_, c6_0, x1⟩
  have fr_b6_0 : Fr w.heap.size (some b6_0) := Fr.le (Fr.blk hb_) e0.size
  have e0 := e0.trans x1
  clear x1 hb_
  refine J.op (Yd.assign rfl) rfl ?_
  refine J.nil ?_
  refine J.n_then ?_
  refine J.seq ?_
  refine J.region ?_
  refine J.op (Yd.move rfl) rfl ?_
  refine J.op (Yd.move rfl) rfl ?_
  refine J.op (Yd.move rfl) rfl ?_
  refine J.eff (Ye.call cl31 rfl (At_is (hc.ext e0) (hm.ext e0) (hr.ext e0) hq)) rfl ?_
  rintro _ w2 ⟨rfl, x1⟩
  have e0 := e0.trans x1
  have c6_0 := c6_0.ext x1
  clear x1
  refine J.op (Yd.assign rfl) rfl ?_
  refine J.nil ?_
  refine J.n_then ?_
  refine J.seq ?_
  refine J.seq ?_
  refine J.region ?_
  refine J.op (Yd.move rfl) rfl ?_
  refine J.op (Yd.lss rfl rfl) rfl ?_
  refine J.nil ?_
  refine J.n_then ?_
  refine J.know (t := 14) (v' := .bool false) rfl (ff (by omega)) ?_
  refine J.cond_false rfl ?_
  refine J.skip ?_
  refine J.n_then ?_
  refine J.seq ?_
  refine J.region ?_
  refine J.op (Yd.move rfl) rfl ?_
  refine J.op (Yd.nilCheck rfl) rfl ?_
  refine J.op (Yd.cast (Yd.fieldA Try.underlying65 rfl ti63 rfl rfl) (show _ = Value.pointer (some ⟨b, 3, none⟩) from rfl)) rfl ?_
  refine J.op (Yd.load pl63 rfl (Cel.cell1 (Cel.ext hc e0) 3 rfl)) rfl ?_
  refine J.op (Yd.move rfl) rfl ?_
  refine J.op (Yd.cast (Yd.lookupS Try.underlying63 Try.underlying9 ti31 rfl rfl (hm.ext e0)) (show _ = ((mget m to).getD nilS) from rfl)) rfl ?_
  refine J.op (Yd.move rfl) rfl ?_
  refine J.op (Yd.idxE (K := itmS) Try.underlying31 ti36 rfl rfl (Er.ext hr e0) (by first | omega | exact idx_u8' _ | (simp only [Int.toNat_natCast]; omega) | (simp only [List.length_map, List.length_drop, List.length_take, List.length_append, List.length_replicate]; omega) | (simp <;> omega))) rfl ?_
  refine J.op (Yd.loadEd (K := itmS) itmD ag36 ti36 rfl (Er.ext hr e0) (by first | omega | exact idx_u8' _ | (simp only [Int.toNat_natCast]; omega) | (simp only [List.length_map, List.length_drop, List.length_take, List.length_append, List.length_replicate]; omega) | (simp <;> omega))) rfl ?_
  refine J.eff (Ye.call cl30 rfl (Own_ok (x := (es.getD (k : Int).toNat itmD)) (l := y.2.2.2) (Rd.ext (show Bs w _ _ from by rw [Int.toNat_natCast]; exact hy.2.2.2) e0) hyl)) rfl ?_
  rintro _ w3 ⟨d25, rfl, od25, x1⟩
  have ap_b6_0_d25 : Ap (some b6_0) d25.ownBlock := Ap.mk (Cel.live c6_0) (Ow.fr od25)
  have fr_d25 : Fr w.heap.size d25.ownBlock := Fr.le (Ow.fr od25) e0.size
  replace od25 := Ow.base od25 e0.size
  have e0 := e0.trans x1
  have c6_0 := c6_0.ext x1
  clear x1
  refine J.eff0 (Ye.storeA (ys := itmS.c ((es.getD (k : Int).toNat itmD).1, (es.getD (k : Int).toNat itmD).2.1, (es.getD (k : Int).toNat itmD).2.2.1, d25)) ti36 c6_0 0 rfl rfl rfl rfl (by rfl) (itm_one1 (x := ((es.getD (k : Int).toNat itmD).1, (es.getD (k : Int).toNat itmD).2.1, (es.getD (k : Int).toNat itmD).2.2.1, d25)) (Rd.one (Ow.rd od25)) _ (List.mem_singleton.2 rfl))) ?_
  rintro _ w4 ⟨cX, hu⟩
  simp only [List.set_cons_zero, List.set_cons_succ] at cX
  have hg := hu.gb
  have od25 := Ow.gbk od25 hg (Ap.symm ap_b6_0_d25)
  have e0 := Ext.gbk e0 fr_b6_0 hg
  clear hg
  replace c6_0 := cX
  clear cX hu
  refine J.op (Yd.assign rfl) rfl ?_
  refine J.nil ?_
  refine J.n_then ?_
  refine J.ret ?_
  exact J.ret2ca rfl rfl ag36 ti36 c6_0 0 rfl rfl (⟨_, rfl, ((es.getD (k : Int).toNat itmD).1, (es.getD (k : Int).toNat itmD).2.1, (es.getD (k : Int).toNat itmD).2.2.1, d25), rfl, (by rw [Int.toNat_natCast]; exact ⟨hy.1, hy.2.1, hy.2.2.1, Ow.rd od25⟩), e0⟩)

theorem GetQ_any {base b : Nat} {K : Nat → Prop} {ex now last : Int} {q : List (Key × List It)} {w : World} {to : Key} {id : Int} (h : Rq 65 36 base K w b (ex, now, last) q) (hl : ∀ x ∈ qget q to, x.2.2.2.length ≤ 1000000) : C Try.prog 23 [.pointer (some ⟨b, 0, none⟩), Str to, I id] w (Ret fun u w' => ∃ x : Itm, u = .tuple #[.agg (itmS.c x).toArray, I (gtE (qget q to) id)] ∧ Eq3 w' x (gtI (qget q to) id) ∧ Ext w w') := by
  obtain ⟨D, mb, m, hx⟩ := h
  obtain ⟨⟨es, ho, hr2⟩, hrow⟩ := hx.get to
  have hlen := R2.len hr2
  have hix : idxI (eqI id) es = idxI (eqP id) (qget q to) := R2.idx (fun a b h => by unfold eqI eqP; rw [h.1.1]) hr2
  have hbd := idxI_bd (p := eqP id) (es := qget q to)
  by_cases hp : idxI (eqP id) (qget q to) ≥ 0
  · obtain ⟨k, hk⟩ := Int.eq_ofNat_of_zero_le hp
    have hg := R2.get itmD itD0 hr2 (i := k) (by omega)
    have hm := hl _ (getD_memE itD0 (show k < (qget q to).length by omega))
    refine (Get_yes hx.cel hx.mp (Es.rd ho) (by omega) (hix.trans hk) hg.1 hm).ret fun u w' h => ?_
    obtain ⟨x, h1, h2, h3⟩ := h
    refine ⟨x, by rw [h1]; unfold gtE; rw [if_pos hp], by rw [gtI_at hk]; exact h2, h3⟩
  · refine (Get_no hx.cel hx.mp (Es.rd ho) (hix.trans (show _ = (-1 : Int) by omega))).ret fun u w' h => ?_
    refine ⟨itmD, by rw [h.1]; unfold gtE; rw [if_neg hp], by unfold gtI; rw [if_neg hp]; exact ⟨rfl, rfl, rfl, Rd.nilM (fun x : UInt8 => B x) _⟩, h.2⟩
theorem ListQ_bs {base b : Nat} {K : Nat → Prop} {ex now last : Int} {q : List (Key × List It)} {w : World} {to : Key} (h : Rq 65 36 base K w b (ex, now, last) q) (hl : ∀ x ∈ qget q to, x.2.2.2.length ≤ 1000000) (hn : (qget q to).length ≤ 1000) : C Try.prog 13 [.pointer (some ⟨b, 0, none⟩), Str to] w (Ret fun u w' => ∃ es', Es itmS w.heap.size 36 w' u es' ∧ LsB w' es' (qget q to) ∧ Ext w w') := by
  obtain ⟨D, mb, m, hx⟩ := h
  obtain ⟨⟨es, ho, hr2⟩, hrow⟩ := hx.get to
  have hlen := R2.len hr2
  exact List_bs hx.cel hx.mp (Es.rd ho) (R2.imp (fun _ _ h => h.1) hr2) hl (by omega)
theorem PutQ_ok2 {base b : Nat} {K : Nat → Prop} {ex now last : Int} {q : List (Key × List It)} {w : World} {fr to : Key} {a : Value} {l : List UInt8} (h : Rq 65 36 base K w b (ex, now, last) q) (hn1 : fr.length ≤ 1000000 ∧ nameB fr = true) (hn2 : to.length ≤ 1000000 ∧ nameB to = true) (hak : ∀ w', Thb K b w w' → Bs w' a l) (hl : l.length ≤ 6000) (hf : (qget q to).length < 30) (hlast : 0 ≤ last ∧ last ≤ 1000000000) :
    C Try.prog 10 [.pointer (some ⟨b, 0, none⟩), Str fr, Str to, a] w (Ret fun u w' => u = .tuple #[I (last + 1), I 0] ∧ RqP 65 36 base K w w' b (ex, now, last + 1) (qset to (qget q to ++ [(last + 1, fr, now, l)]) q)) := by
  obtain ⟨D, mb, m, hx⟩ := h
  obtain ⟨⟨es, ho, hr2⟩, hrow⟩ := hx.get to
  have hlen := R2.len hr2
  have hV := hrow
  refine (Put_raw hx.cel hx.mp ho (fun k e1 e2 => by cases e1; cases e2; exact hx.ne rfl) (fun k e1 e2 => by cases e1; exact (hrow _ e2).2.2.1 rfl) (fun k e1 e2 => by cases e1; exact (hrow _ e2).2.2.2 rfl) hn1 hn2 (fun w' ht => hak w' ⟨_, fun x hx' => ?_, ht⟩) hl (by omega) hlast).ret fun u w' h => ?_
  · simp only [List.mem_cons, List.mem_nil_iff, or_false] at hx'
    rcases hx' with rfl | rfl | rfl
    · exact .inl rfl
    · exact .inr fun k e => by cases e; exact hx.mm.1
    · exact .inr fun k e => (hrow k e).1
  · obtain ⟨v', d, rfl, hc', hm', ho', hd', hsf, abv', amv', adv, ht⟩ := h
    have hout : OutD D [some b, some mb, ((mget m to).getD nilS).ownBlock] := fun x hx' j e hd => by
      simp only [List.mem_cons, List.mem_nil_iff, or_false] at hx'
      rcases hx' with rfl | rfl | rfl
      · cases e; exact hx.bb.2 hd
      · cases e; exact hx.mm.2 hd
      · exact (hrow j e).2.1 hd
    have hsz := ht.size
    refine ⟨rfl, fun k => K k ∨ (w.heap.size ≤ k ∧ k < w'.heap.size), ⟨fun k => D k ∨ d.ownBlock = some k, mb, mset to v' m, RqX.upd hx ht hc' hm' ⟨_, ho', R2.app (R2.imp (fun _ _ h => (h.tnk ht hout).mono (fun _ h => .inl h)) hr2) (R2.one ⟨⟨rfl, rfl, rfl, Ow.rd hd'⟩, fun k e => .inr e, Ow.live hd'⟩)⟩ hsf (fun _ h => .inl h) (fun k hk => ?_) (fun k hk => ?_) (fun _ h => .inl h) (fun k hk hd => ?_) (fun k e => ?_)⟩, fun k hk => hk.imp id (·.1), ⟨_, fun x hx' => ?_, ht⟩⟩
    · rcases hk with hk | hk
      · have := hx.kb k hk; omega
      · exact ⟨Nat.le_trans (by have := (hx.kb _ hx.bb.1); omega) hk.1, hk.2⟩
    · rcases hk with hk | hk
      · exact .inl (hx.dk k hk)
      · exact .inr ⟨Ow.fr hd' k hk, Ow.live hd' k hk⟩
    · rcases hd with hd | hd
      · exact hd
      · have := Ow.fr hd' k hd; omega
    · have hlv := (Es.live ho') k e
      refine ⟨?_, ?_, fun e2 => abv' _ rfl (by rw [e, e2]), fun e2 => amv' _ rfl (by rw [e, e2])⟩
      · rcases hsf k e with h1 | h1
        · exact .inl (hrow k h1).1
        · exact .inr ⟨h1, hlv⟩
      · rintro (hd | hd)
        · rcases hsf k e with h1 | h1
          · exact (hrow k h1).2.1 hd
          · have := (hx.kb _ (hx.dk _ hd)).2; omega
        · exact adv k hd e
    · simp only [List.mem_cons, List.mem_nil_iff, or_false] at hx'
      rcases hx' with rfl | rfl | rfl
      · exact .inl rfl
      · exact .inr fun k e => by cases e; exact hx.mm.1
      · exact .inr fun k e => (hrow k e).1
theorem PutQ_1 {base b : Nat} {K : Nat → Prop} {ex now last : Int} {q : List (Key × List It)} {w : World} {fr to : Key} {a : Value} {l : List UInt8} (h : Rq 65 36 base K w b (ex, now, last) q) (ha : Bs w a l) (hf : fr.length ≤ 1000000) (ht : to.length ≤ 1000000) (hn : ¬ (nameB fr = true ∧ nameB to = true)) : C Try.prog 10 [.pointer (some ⟨b, 0, none⟩), Str fr, Str to, a] w (Ret fun v w' => v = .tuple #[I 0, I 1] ∧ Ext w w') := by
  obtain ⟨D, mb, m, hx⟩ := h
  obtain ⟨⟨es, ho, hr2⟩, hrow⟩ := hx.get to
  have hlen := R2.len hr2
  cases h1 : nameB fr
  · exact Put_fr hx.cel hx.mp (Es.rd ho) ha ⟨hf, h1⟩
  · cases h2 : nameB to
    · exact Put_to hx.cel hx.mp (Es.rd ho) ha ⟨hf, h1⟩ ⟨ht, h2⟩
    · exact absurd ⟨h1, h2⟩ hn
theorem PutQ_11 {base b : Nat} {K : Nat → Prop} {ex now last : Int} {q : List (Key × List It)} {w : World} {fr to : Key} {a : Value} {l : List UInt8} (h : Rq 65 36 base K w b (ex, now, last) q) (hn1 : fr.length ≤ 1000000 ∧ nameB fr = true) (hn2 : to.length ≤ 1000000 ∧ nameB to = true) (ha : Bs w a l) (hl : 6000 < l.length) : C Try.prog 10 [.pointer (some ⟨b, 0, none⟩), Str fr, Str to, a] w (Ret fun v w' => v = .tuple #[I 0, I 11] ∧ Ext w w') := by
  obtain ⟨D, mb, m, hx⟩ := h
  obtain ⟨⟨es, ho, hr2⟩, hrow⟩ := hx.get to
  have hlen := R2.len hr2
  exact Put_big hx.cel hx.mp (Es.rd ho) ha hn1 hn2 hl
end Ytmpfgiffpdackaa
end Go.Proofs
