import Derived.Test.YtmpfgiffpdackaaT
import Derived.Test.YtmpfgiffpdackaaG6
set_option linter.unusedVariables false
set_option linter.unusedSimpArgs false
set_option maxRecDepth 100000
set_option maxHeartbeats 4000000
namespace Go.Proofs
open Go.X Go.RowKit
namespace Ytmpfgiffpdackaa
theorem Put_full {b mb : Nat} {ex now last : Int} {m : List (Key × Value)} {fr to : Key} {a : Value} {l : List UInt8} {es : List Itm} {w : World} (hc : Cel w b 65 [(0, 1, [I ex]), (1, 1, [I now]), (2, 1, [I last]), (3, 1, [.map (some mb)])]) (hm : Mp w mb m) (hr : Er itmS w ((mget m to).getD nilS) es) (ha : Bs w a l) (hn1 : fr.length ≤ 1000000 ∧ nameB fr = true) (hn2 : to.length ≤ 1000000 ∧ nameB to = true) (hl : l.length ≤ 6000) (hlen : 30 ≤ es.length) : C Try.prog 10 [.pointer (some ⟨b, 0, none⟩), Str fr, Str to, a] w (Ret fun v w' => v = .tuple #[I 0, I 9] ∧ Ext w w') := by
  have hmx := Er.max hr
  have e0 := Ext.refl w
  refine C.enter Try.func10 rfl Try.ntmps10 rfl ?_
  refine J.seq ?_
  refine J.region ?_
  refine J.op (Yd.assign rfl) rfl ?_
  refine J.op (Yd.assign rfl) rfl ?_
  refine J.nil ?_
  refine J.n_then ?_
  refine J.seq ?_
  refine J.block ?_
  refine J.seq ?_
  refine J.region ?_
  refine J.op (Yd.move rfl) rfl ?_
  refine J.eff (Ye.call cl26 rfl (Name_is hn1)) rfl ?_
  rintro _ w1 ⟨rfl, x1⟩
  have e0 := e0.trans x1
  clear x1
  refine J.op (Yd.not rfl) rfl ?_
  refine J.op (Yd.move rfl) rfl ?_
  refine J.op_g rfl rfl rfl (Yd.move rfl) rfl ?_
  refine J.eff_g rfl rfl rfl (Ye.call cl26 rfl (Name_is hn2)) rfl ?_
  rintro _ w2 ⟨rfl, x1⟩
  have e0 := e0.trans x1
  clear x1
  refine J.op_g rfl rfl rfl (Yd.not rfl) rfl ?_
  refine J.op (Yd.pick_f rfl rfl) rfl ?_
  refine J.op (Yd.assign rfl) rfl ?_
  refine J.nil ?_
  refine J.n_then ?_
  refine J.cond_false rfl ?_
  refine J.seq ?_
  refine J.region ?_
  refine J.op (Yd.move rfl) rfl ?_
  refine J.op (Yd.len_b Try.underlying34 rfl (Rd.ext ha e0)) rfl ?_
  refine J.op (Yd.gtr rfl rfl) rfl ?_
  refine J.op (Yd.assign rfl) rfl ?_
  refine J.nil ?_
  refine J.n_then ?_
  refine J.know (t := 19) (v' := .bool false) rfl (ff (by omega)) ?_
  refine J.cond_false rfl ?_
  refine J.seq ?_
  refine J.region ?_
  refine J.op (Yd.move rfl) rfl ?_
  refine J.op (Yd.cast (Yd.eqPn Try.underlying24 rfl rfl) (show _ = Value.bool false from rfl)) rfl ?_
  refine J.op (Yd.move rfl) rfl ?_
  refine J.op_g rfl rfl rfl (Yd.move rfl) rfl ?_
  refine J.op_g rfl rfl rfl (Yd.move rfl) rfl ?_
  refine J.eff_g rfl rfl rfl (Ye.call cl15 rfl (Len_raw (hc.ext e0) (hm.ext e0) (hr.ext e0))) rfl ?_
  rintro _ w3 ⟨rfl, x1⟩
  have e0 := e0.trans x1
  clear x1
  refine J.op_g rfl rfl rfl (Yd.geq rfl rfl) rfl ?_
  refine J.op (Yd.pick_f rfl rfl) rfl ?_
  refine J.op (Yd.assign rfl) rfl ?_
  refine J.nil ?_
  refine J.n_then ?_
  refine J.know (t := 23) (v' := .bool true) rfl (tt (by omega)) ?_
  refine J.cond_true rfl ?_
  refine J.seq ?_
  refine J.region ?_
  refine J.op (Yd.assign rfl) rfl ?_
  refine J.op (Yd.assign rfl) rfl ?_
  refine J.nil ?_
  refine J.n_then ?_
  refine J.ret ?_
  refine J.r_block ?_
  refine J.r_then ?_
  exact J.ret2 rfl rfl rfl (⟨_, rfl, rfl, e0⟩)

theorem PutNil_full {fr to : Key} {a : Value} {l : List UInt8} {w : World}  (ha : Bs w a l) (hn1 : fr.length ≤ 1000000 ∧ nameB fr = true) (hn2 : to.length ≤ 1000000 ∧ nameB to = true) (hl : l.length ≤ 6000) : C Try.prog 10 [.pointer none, Str fr, Str to, a] w (Ret fun v w' => v = .tuple #[I 0, I 9] ∧ Ext w w') := by
  have e0 := Ext.refl w
  refine C.enter Try.func10 rfl Try.ntmps10 rfl ?_
  refine J.seq ?_
  refine J.region ?_
  refine J.op (Yd.assign rfl) rfl ?_
  refine J.op (Yd.assign rfl) rfl ?_
  refine J.nil ?_
  refine J.n_then ?_
  refine J.seq ?_
  refine J.block ?_
  refine J.seq ?_
  refine J.region ?_
  refine J.op (Yd.move rfl) rfl ?_
  refine J.eff (Ye.call cl26 rfl (Name_is hn1)) rfl ?_
  rintro _ w1 ⟨rfl, x1⟩
  have e0 := e0.trans x1
  clear x1
  refine J.op (Yd.not rfl) rfl ?_
  refine J.op (Yd.move rfl) rfl ?_
  refine J.op_g rfl rfl rfl (Yd.move rfl) rfl ?_
  refine J.eff_g rfl rfl rfl (Ye.call cl26 rfl (Name_is hn2)) rfl ?_
  rintro _ w2 ⟨rfl, x1⟩
  have e0 := e0.trans x1
  clear x1
  refine J.op_g rfl rfl rfl (Yd.not rfl) rfl ?_
  refine J.op (Yd.pick_f rfl rfl) rfl ?_
  refine J.op (Yd.assign rfl) rfl ?_
  refine J.nil ?_
  refine J.n_then ?_
  refine J.cond_false rfl ?_
  refine J.seq ?_
  refine J.region ?_
  refine J.op (Yd.move rfl) rfl ?_
  refine J.op (Yd.len_b Try.underlying34 rfl (Rd.ext ha e0)) rfl ?_
  refine J.op (Yd.gtr rfl rfl) rfl ?_
  refine J.op (Yd.assign rfl) rfl ?_
  refine J.nil ?_
  refine J.n_then ?_
  refine J.know (t := 19) (v' := .bool false) rfl (ff (by omega)) ?_
  refine J.cond_false rfl ?_
  refine J.seq ?_
  refine J.region ?_
  refine J.op (Yd.move rfl) rfl ?_
  refine J.op (Yd.cast (Yd.eqPn Try.underlying24 rfl rfl) (show _ = Value.bool true from rfl)) rfl ?_
  refine J.op (Yd.move rfl) rfl ?_
  refine J.not_g rfl rfl rfl rfl rfl ?_
  refine J.not_g rfl rfl rfl rfl rfl ?_
  refine J.not_g rfl rfl rfl rfl rfl ?_
  refine J.not_g rfl rfl rfl rfl rfl ?_
  refine J.op (Yd.pick_t rfl rfl) rfl ?_
  refine J.op (Yd.assign rfl) rfl ?_
  refine J.nil ?_
  refine J.n_then ?_
  refine J.cond_true rfl ?_
  refine J.seq ?_
  refine J.region ?_
  refine J.op (Yd.assign rfl) rfl ?_
  refine J.op (Yd.assign rfl) rfl ?_
  refine J.nil ?_
  refine J.n_then ?_
  refine J.ret ?_
  refine J.r_block ?_
  refine J.r_then ?_
  exact J.ret2 rfl rfl rfl (⟨_, rfl, rfl, e0⟩)

theorem PutNil_big {fr to : Key} {a : Value} {l : List UInt8} {w : World}  (ha : Bs w a l) (hn1 : fr.length ≤ 1000000 ∧ nameB fr = true) (hn2 : to.length ≤ 1000000 ∧ nameB to = true) (hl : 6000 < l.length) : C Try.prog 10 [.pointer none, Str fr, Str to, a] w (Ret fun v w' => v = .tuple #[I 0, I 11] ∧ Ext w w') := by
  have e0 := Ext.refl w
  refine C.enter Try.func10 rfl Try.ntmps10 rfl ?_
  refine J.seq ?_
  refine J.region ?_
  refine J.op (Yd.assign rfl) rfl ?_
  refine J.op (Yd.assign rfl) rfl ?_
  refine J.nil ?_
  refine J.n_then ?_
  refine J.seq ?_
  refine J.block ?_
  refine J.seq ?_
  refine J.region ?_
  refine J.op (Yd.move rfl) rfl ?_
  refine J.eff (Ye.call cl26 rfl (Name_is hn1)) rfl ?_
  rintro _ w1 ⟨rfl, x1⟩
  have e0 := e0.trans x1
  clear x1
  refine J.op (Yd.not rfl) rfl ?_
  refine J.op (Yd.move rfl) rfl ?_
  refine J.op_g rfl rfl rfl (Yd.move rfl) rfl ?_
  refine J.eff_g rfl rfl rfl (Ye.call cl26 rfl (Name_is hn2)) rfl ?_
  rintro _ w2 ⟨rfl, x1⟩
  have e0 := e0.trans x1
  clear x1
  refine J.op_g rfl rfl rfl (Yd.not rfl) rfl ?_
  refine J.op (Yd.pick_f rfl rfl) rfl ?_
  refine J.op (Yd.assign rfl) rfl ?_
  refine J.nil ?_
  refine J.n_then ?_
  refine J.cond_false rfl ?_
  refine J.seq ?_
  refine J.region ?_
  refine J.op (Yd.move rfl) rfl ?_
  refine J.op (Yd.len_b Try.underlying34 rfl (Rd.ext ha e0)) rfl ?_
  refine J.op (Yd.gtr rfl rfl) rfl ?_
  refine J.op (Yd.assign rfl) rfl ?_
  refine J.nil ?_
  refine J.n_then ?_
  refine J.know (t := 19) (v' := .bool true) rfl (tt (by omega)) ?_
  refine J.cond_true rfl ?_
  refine J.seq ?_
  refine J.region ?_
  refine J.op (Yd.assign rfl) rfl ?_
  refine J.op (Yd.assign rfl) rfl ?_
  refine J.nil ?_
  refine J.n_then ?_
  refine J.ret ?_
  refine J.r_block ?_
  refine J.r_then ?_
  exact J.ret2 rfl rfl rfl (⟨_, rfl, rfl, e0⟩)

theorem PutNil_fr {fr to : Key} {a : Value} {l : List UInt8} {w : World}  (ha : Bs w a l) (hn1 : fr.length ≤ 1000000 ∧ nameB fr = false) : C Try.prog 10 [.pointer none, Str fr, Str to, a] w (Ret fun v w' => v = .tuple #[I 0, I 1] ∧ Ext w w') := by
  have e0 := Ext.refl w
  refine C.enter Try.func10 rfl Try.ntmps10 rfl ?_
  refine J.seq ?_
  refine J.region ?_
  refine J.op (Yd.assign rfl) rfl ?_
  refine J.op (Yd.assign rfl) rfl ?_
  refine J.nil ?_
  refine J.n_then ?_
  refine J.seq ?_
  refine J.block ?_
  refine J.seq ?_
  refine J.region ?_
  refine J.op (Yd.move rfl) rfl ?_
  refine J.eff (Ye.call cl26 rfl (Name_is hn1)) rfl ?_
  rintro _ w1 ⟨rfl, x1⟩
  have e0 := e0.trans x1
  clear x1
  refine J.op (Yd.not rfl) rfl ?_
  refine J.op (Yd.move rfl) rfl ?_
  refine J.not_g rfl rfl rfl rfl rfl ?_
  refine J.not_g rfl rfl rfl rfl rfl ?_
  refine J.not_g rfl rfl rfl rfl rfl ?_
  refine J.op (Yd.pick_t rfl rfl) rfl ?_
  refine J.op (Yd.assign rfl) rfl ?_
  refine J.nil ?_
  refine J.n_then ?_
  refine J.cond_true rfl ?_
  refine J.seq ?_
  refine J.region ?_
  refine J.op (Yd.assign rfl) rfl ?_
  refine J.op (Yd.assign rfl) rfl ?_
  refine J.nil ?_
  refine J.n_then ?_
  refine J.ret ?_
  refine J.r_block ?_
  refine J.r_then ?_
  exact J.ret2 rfl rfl rfl (⟨_, rfl, rfl, e0⟩)

theorem PutNil_to {fr to : Key} {a : Value} {l : List UInt8} {w : World}  (ha : Bs w a l) (hn1 : fr.length ≤ 1000000 ∧ nameB fr = true) (hn2 : to.length ≤ 1000000 ∧ nameB to = false) : C Try.prog 10 [.pointer none, Str fr, Str to, a] w (Ret fun v w' => v = .tuple #[I 0, I 1] ∧ Ext w w') := by
  have e0 := Ext.refl w
  refine C.enter Try.func10 rfl Try.ntmps10 rfl ?_
  refine J.seq ?_
  refine J.region ?_
  refine J.op (Yd.assign rfl) rfl ?_
  refine J.op (Yd.assign rfl) rfl ?_
  refine J.nil ?_
  refine J.n_then ?_
  refine J.seq ?_
  refine J.block ?_
  refine J.seq ?_
  refine J.region ?_
  refine J.op (Yd.move rfl) rfl ?_
  refine J.eff (Ye.call cl26 rfl (Name_is hn1)) rfl ?_
  rintro _ w1 ⟨rfl, x1⟩
  have e0 := e0.trans x1
  clear x1
  refine J.op (Yd.not rfl) rfl ?_
  refine J.op (Yd.move rfl) rfl ?_
  refine J.op_g rfl rfl rfl (Yd.move rfl) rfl ?_
  refine J.eff_g rfl rfl rfl (Ye.call cl26 rfl (Name_is hn2)) rfl ?_
  rintro _ w2 ⟨rfl, x1⟩
  have e0 := e0.trans x1
  clear x1
  refine J.op_g rfl rfl rfl (Yd.not rfl) rfl ?_
  refine J.op (Yd.pick_f rfl rfl) rfl ?_
  refine J.op (Yd.assign rfl) rfl ?_
  refine J.nil ?_
  refine J.n_then ?_
  refine J.cond_true rfl ?_
  refine J.seq ?_
  refine J.region ?_
  refine J.op (Yd.assign rfl) rfl ?_
  refine J.op (Yd.assign rfl) rfl ?_
  refine J.nil ?_
  refine J.n_then ?_
  refine J.ret ?_
  refine J.r_block ?_
  refine J.r_then ?_
  exact J.ret2 rfl rfl rfl (⟨_, rfl, rfl, e0⟩)

theorem Ack_raw {b mb : Nat} {ex now last : Int} {m : List (Key × Value)} {to : Key} {s : Value} {ids : List Int} {es : List Itm} {w : World} (hc : Cel w b 65 [(0, 1, [I ex]), (1, 1, [I now]), (2, 1, [I last]), (3, 1, [.map (some mb)])]) (hm : Mp w mb m) (ho : Es itmS 0 36 w ((mget m to).getD nilS) es) (abm : Ap (some b) (some mb)) (abv : Ap (some b) ((mget m to).getD nilS).ownBlock) (amv : Ap (some mb) ((mget m to).getD nilS).ownBlock) (h1 : ∀ x ∈ es, x.2.2.2.oneCell' = true) (hi : ∀ w', Tn [some mb, ((mget m to).getD nilS).ownBlock] w w' → Rd w' s (ids.map fun x => I x)) : C Try.prog 16 [.pointer (some ⟨b, 0, none⟩), Str to, s] w (Ret fun u w' => ∃ m' v', u = I ((es.length : Int) - ((acks eqI ids es).length : Int)) ∧ Cel w' b 65 [(0, 1, [I ex]), (1, 1, [I now]), (2, 1, [I last]), (3, 1, [.map (some mb)])] ∧ Mp w' mb m' ∧ ((m' = m ∧ v' = ((mget m to).getD nilS) ∧ (acks eqI ids es) = es) ∨ m' = mset to v' m) ∧ Es itmS 0 36 w' v' (acks eqI ids es) ∧ SF w ((mget m to).getD nilS).ownBlock v'.ownBlock ∧ Ap (some b) v'.ownBlock ∧ Ap (some mb) v'.ownBlock ∧ Tn [some mb, ((mget m to).getD nilS).ownBlock] w w') := by
  have hmx := Er.max (Es.rd ho)
  have hmi := Rd.max (hi _ (Tn.refl _ _))
  rw [List.length_map] at hmi
  have e0 := Tn.refl [(some mb), ((mget m to).getD nilS).ownBlock] w
  refine C.enter Try.func16 rfl Try.ntmps16 rfl ?_
  refine J.seq ?_
  refine J.region ?_
  refine J.op (Yd.assign rfl) rfl ?_
  refine J.nil ?_
  refine J.n_then ?_
  refine J.seq ?_
  refine J.seq ?_
  refine J.region ?_
  refine J.op (Yd.move rfl) rfl ?_
  refine J.op (Yd.len_m Try.underlying22 rfl (hi _ e0)) rfl ?_
  refine J.op (Yd.move rfl) rfl ?_
  refine J.nil ?_
  refine J.n_then ?_
  refine J.block ?_
  refine J.loop (ι := Nat × List (Key × Value) × Value) (fun i => [(1, Str to), (10, s), (11, I (ids.length : Int)), (12, I (i.1 : Int)), (6, I ((es.length : Int) - ((acks eqI (ids.take i.1) es).length : Int))), (0, .pointer (some ⟨b, 0, none⟩))]) (fun i w' => i.1 ≤ ids.length ∧ (mget i.2.1 to).getD nilS = i.2.2 ∧ ((i.2.1 = m ∧ i.2.2 = ((mget m to).getD nilS) ∧ (acks eqI (ids.take i.1) es) = es) ∨ i.2.1 = mset to i.2.2 m) ∧ SF w ((mget m to).getD nilS).ownBlock i.2.2.ownBlock ∧ (∀ x ∈ (acks eqI (ids.take i.1) es), x.2.2.2.oneCell' = true) ∧ Cel w' b 65 [(0, 1, [I ex]), (1, 1, [I now]), (2, 1, [I last]), (3, 1, [.map (some mb)])] ∧ Mp w' mb i.2.1 ∧ Es itmS 0 36 w' i.2.2 (acks eqI (ids.take i.1) es) ∧ Ap (some b) (i.2.2).ownBlock ∧ Ap (some mb) (i.2.2).ownBlock ∧ Tn [(some mb), ((mget m to).getD nilS).ownBlock] w w') (fun i => ids.length - i.1) ((0, m, ((mget m to).getD nilS))) ⟨rfl, rfl, rfl, rfl, (someI (by show (0 : Int) = (es.length : Int) - (es.length : Int); omega)), rfl, trivial⟩ (⟨Nat.zero_le _, rfl, .inl ⟨rfl, rfl, rfl⟩, (fun k hk => .inl hk), h1, hc, hm, ho, abv, amv, e0⟩) ?_
  rintro ⟨i, mk, vk⟩ w1 ⟨hk, heq, hmm, hsf, hone, hc, hm, hok, ap_b_vk, ap_mb_vk, e0⟩
  dsimp only at *
  have hsl := (acks_sub eqI (ids.take i) es).length_le
  refine J.seq ?_
  refine J.region ?_
  refine J.op (Yd.lss rfl rfl) rfl ?_
  refine J.nil ?_
  refine J.n_then ?_
  refine J.seq ?_
  refine J.cond_dec rfl (fun hc0 => ?_) (fun hc0 => ?_)
  · skip
    have hak := acks_take eqI (ids := ids) (l := es) (i := i) (by omega)
    refine J.skip ?_
    refine J.n_then ?_
    refine J.seq ?_
    refine J.block ?_
    refine J.seq ?_
    refine J.region ?_
    refine J.op (Yd.idx_m Try.underlying22 ti3 rfl rfl (hi _ e0) (by first | omega | exact idx_u8' _ | (simp only [Int.toNat_natCast]; omega) | (simp only [List.length_map, List.length_drop, List.length_take, List.length_append, List.length_replicate]; omega) | (simp <;> omega))) rfl ?_
    refine J.op (Yd.load pl3 rfl (Rd.cellI (hi _ e0) (by first | omega | exact idx_u8' _ | (simp only [Int.toNat_natCast]; omega) | (simp only [List.length_map, List.length_drop, List.length_take, List.length_append, List.length_replicate]; omega) | (simp <;> omega)))) rfl ?_
    refine J.op (Yd.assign rfl) rfl ?_
    refine J.nil ?_
    refine J.n_then ?_
    refine J.seq ?_
    refine J.region ?_
    refine J.op (Yd.move rfl) rfl ?_
    refine J.op (Yd.move rfl) rfl ?_
    refine J.op (Yd.move rfl) rfl ?_
    refine J.eff (Ye.call cl31 rfl (At_is hc hm (show Er itmS _ ((mget mk to).getD nilS) _ from heq ▸ Es.rd hok) rfl)) rfl ?_
    rintro _ w2 ⟨rfl, x1⟩
    have e0 := Tn.ext e0 x1
    have hc := hc.ext x1
    have hm := hm.ext x1
    have hok := hok.ext x1
    clear x1
    refine J.op (Yd.assign rfl) rfl ?_
    refine J.nil ?_
    refine J.n_then ?_
    refine J.seq ?_
    refine J.region ?_
    refine J.op (Yd.move rfl) rfl ?_
    refine J.op (Yd.geq rfl rfl) rfl ?_
    refine J.nil ?_
    refine J.n_then ?_
    refine J.cond_dec rfl (fun hc1 => ?_) (fun hc1 => ?_)
    · skip
      rw [Int.toNat_natCast] at hc1
      obtain ⟨k, hk2, hik, hrm⟩ := idxI_ge hc1
      refine J.seq ?_
      refine J.regionT [vk.ownBlock] [(0, true), (1, true), (2, true), (4, true), (5, true), (6, true), (7, true), (9, true), (11, true), (12, true), (13, true)] [(3, 1), (8, 1), (10, 1), (14, 0)] [(15, false)] mix (by kernel_rfl) ?_
      refine J.s_op rfl (fun _ => Yd.move rfl) rfl ?_
      refine J.s_op rfl (fun _ => Yd.nilCheck rfl) rfl ?_
      refine J.s_op rfl (fun _ => Yd.cast (Yd.fieldA Try.underlying65 rfl ti63 rfl rfl) (show _ = Value.pointer (some ⟨b, 3, none⟩) from rfl)) rfl ?_
      refine J.s_op rfl (fun _ => Yd.move rfl) rfl ?_
      refine J.s_op rfl (fun _ => Yd.move rfl) rfl ?_
      refine J.s_op rfl (fun _ => Yd.nilCheck rfl) rfl ?_
      refine J.s_op rfl (fun _ => Yd.cast (Yd.fieldA Try.underlying65 rfl ti63 rfl rfl) (show _ = Value.pointer (some ⟨b, 3, none⟩) from rfl)) rfl ?_
      refine J.s_op rfl (fun _ => Yd.move rfl) rfl ?_
      refine J.s_op rfl (fun _ => Yd.cast (Yd.move rfl) (congrArg (fun z => I z) (show _ = (k : Int) by rw [Int.toNat_natCast]; exact hik))) rfl ?_
      refine J.s_op rfl (fun _ => Yd.cast (Yd.move rfl) (congrArg (fun z => I z) (show _ = (k : Int) by rw [Int.toNat_natCast]; exact hik))) rfl ?_
      refine J.s_op rfl (fun _ => Yd.add rfl rfl (by first | omega | exact idx_u8' _ | (simp only [Int.toNat_natCast]; omega) | (simp only [List.length_map, List.length_drop, List.length_take, List.length_append, List.length_replicate]; omega) | (simp <;> omega))) rfl ?_
      refine J.s_nil ?_
      refine J.t_op rfl (fun w1 ht => Yd.load pl63 rfl (Cel.cell1 (Cel.tnk hc ht (ApL.one ap_b_vk)) 3 rfl)) rfl ?_
      refine J.t_op rfl (fun w1 ht => Yd.load pl63 rfl (Cel.cell1 (Cel.tnk hc ht (ApL.one ap_b_vk)) 3 rfl)) rfl ?_
      refine J.t_op rfl (fun w1 ht => Yd.cast (Yd.lookupS Try.underlying63 Try.underlying9 ti31 rfl rfl (Mp.tnk hm ht (ApL.one ap_mb_vk))) (heq)) rfl ?_
      refine J.t_eff rfl (Ye.call cl32 rfl (Delete_any (i := k) (j := k + 1) hone hok (by omega) (by omega))) rfl (fun _ _ h => Tn.mono h.2.2 (by simp)) ?_
      rintro s36_3 w3 ⟨os36_3, hsf2, x1⟩
      have hsf_s36_3 : SF w ((mget m to).getD nilS).ownBlock s36_3.ownBlock := SF.tr hsf hsf2 e0.size
      have ap_b_s36_3 : Ap (some b) s36_3.ownBlock := Ap.sf ap_b_vk (Cel.live hc) hsf2
      have ap_mb_s36_3 : Ap (some mb) s36_3.ownBlock := Ap.sf ap_mb_vk (Mp.live hm) hsf2
      have hc := Cel.tnk hc x1 (ApL.one ap_b_vk)
      have hm := Mp.tnk hm x1 (ApL.one ap_mb_vk)
      have e0 := Tn.tnk e0 (fun q hq => by simp only [List.mem_singleton] at hq; subst hq; exact SF.mem hsf (by simp)) x1
      clear x1
      clear hsf2
      refine J.t_nil ?_
      refine J.s_eff0 rfl (Ye.mapSet Try.underlying63 Try.underlying9 rfl rfl rfl hm) ?_
      rintro _ w4 ⟨hm2, hg⟩
      have hc := Cel.gbk hc hg abm
      have os36_3 := Es.gbk os36_3 hg (Ap.symm ap_mb_s36_3)
      have e0 := Tn.gbk e0 (.inl (by simp)) hg
      clear hg
      replace hm := hm2
      clear hm2
      refine J.s_nil ?_
      refine J.n_np ?_
      refine J.n_then ?_
      refine J.region ?_
      refine J.op (Yd.move rfl) rfl ?_
      refine J.op (Yd.add rfl rfl (by first | omega | exact idx_u8' _ | (simp only [Int.toNat_natCast]; omega) | (simp only [List.length_map, List.length_drop, List.length_take, List.length_append, List.length_replicate]; omega) | (simp <;> omega))) rfl ?_
      refine J.op (Yd.assign rfl) rfl ?_
      refine J.nil ?_
      refine J.n_block ?_
      refine J.n_then ?_
      refine J.region ?_
      refine J.op (Yd.add rfl rfl (by first | omega | exact idx_u8' _ | (simp only [Int.toNat_natCast]; omega) | (simp only [List.length_map, List.length_drop, List.length_take, List.length_append, List.length_replicate]; omega) | (simp <;> omega))) rfl ?_
      refine J.op (Yd.move rfl) rfl ?_
      refine J.nil ?_
      refine J.n_then ?_
      exact J.round ((i + 1, mset to s36_3 mk, s36_3)) ⟨rfl, rfl, rfl, rfl, (someI (by first | (rw [hak, hrm]; done) | (rw [hak, hrm]; simp only [List.length_append, List.length_take, List.length_drop]; omega))), rfl, trivial⟩ (⟨by show i + 1 ≤ ids.length; omega, by show (mget (mset to s36_3 mk) to).getD nilS = s36_3; rw [mget_mset]; rfl, (.inr (by show mset to s36_3 mk = mset to s36_3 m; rcases hmm with h | h; rw [h.1]; rw [h, mset_mset])), hsf_s36_3, (by rw [hak]; exact one_rm hone), hc, hm, (by rw [hak, hrm]; exact os36_3), ap_b_s36_3, ap_mb_s36_3, e0⟩) (by show ids.length - (i + 1) < ids.length - i; omega)
    · skip
      rw [Int.toNat_natCast] at hc1
      have hrm := idxI_lt hc1
      refine J.skip ?_
      refine J.n_block ?_
      refine J.n_then ?_
      refine J.region ?_
      refine J.op (Yd.add rfl rfl (by first | omega | exact idx_u8' _ | (simp only [Int.toNat_natCast]; omega) | (simp only [List.length_map, List.length_drop, List.length_take, List.length_append, List.length_replicate]; omega) | (simp <;> omega))) rfl ?_
      refine J.op (Yd.move rfl) rfl ?_
      refine J.nil ?_
      refine J.n_then ?_
      exact J.round ((i + 1, mk, vk)) ⟨rfl, rfl, rfl, rfl, (someI (by first | (rw [hak, hrm]; done) | (rw [hak, hrm]; simp only [List.length_append, List.length_take, List.length_drop]; omega))), rfl, trivial⟩ (⟨by show i + 1 ≤ ids.length; omega, heq, (hmm.imp (fun h => ⟨h.1, h.2.1, by rw [hak, hrm]; exact h.2.2⟩) id), hsf, (by rw [hak]; exact one_rm hone), hc, hm, (by rw [hak, hrm]; exact hok), ap_b_vk, ap_mb_vk, e0⟩) (by show ids.length - (i + 1) < ids.length - i; omega)
  · skip
    refine J.exit ?_
    refine J.x_then ?_
    refine J.x_then ?_
    refine J.x_block ?_
    refine J.n_then ?_
    refine J.seq ?_
    refine J.region ?_
    refine J.op (Yd.move rfl) rfl ?_
    refine J.op (Yd.assign rfl) rfl ?_
    refine J.nil ?_
    refine J.n_then ?_
    refine J.ret ?_
    exact J.ret1 rfl rfl (⟨_, rfl, mk, vk, congrArg (fun z => I z) (by rw [show i = ids.length by omega, List.take_length]), hc, hm, (by rw [show i = ids.length by omega, List.take_length] at hmm; exact hmm), (by rw [show i = ids.length by omega, List.take_length] at hok; exact hok), hsf, ap_b_vk, ap_mb_vk, e0⟩)
end Ytmpfgiffpdackaa
end Go.Proofs
