import Derived.Test.YtikggonjagoiaaaT
import Derived.Test.YtikggonjagoiaaaH3
set_option linter.unusedVariables false
set_option linter.unusedSimpArgs false
set_option maxRecDepth 100000
set_option maxHeartbeats 4000000
namespace Go.Proofs
open Go.X Go.RowKit
namespace Ytikggonjagoiaaa
theorem Skip_yes {b n : Nat} {s : Value} {key : List UInt8} {k : Int} {w : World} (hc : Cel w b 53 (chS s n)) (hs : Bs w s key) (hk : key.length = 32) (hn : Ap (some b) s.ownBlock) (hn1 : n ≤ 900000) (hm : mayK n k = 0) : C Try.prog 11 [.pointer (some ⟨b, 0, none⟩), I k] w (Ret fun u w' => ∃ out vs s', u = .tuple #[out, I 0] ∧ Rw w.heap.size 22 5 w' out vs (chR key 0 (k.toNat - n)) ∧ Cel w' b 53 (chS s' k.toNat) ∧ Bs w' s' (chK key (k.toNat - n)) ∧ SF w s.ownBlock s'.ownBlock ∧ Tn [some b] w w') := by
  obtain ⟨h1, h2⟩ := mayK_zero hm
  obtain ⟨q, rfl⟩ := Int.eq_ofNat_of_zero_le (show 0 ≤ k by omega)
  exact Skip_nat hc hs hk hn hn1 (by omega) (by omega)

theorem Skip_no {b n : Nat} {s : Value} {key : List UInt8} {w : World} (hc : Cel w b 53 (chS s n)) (hs : Bs w s key) (hk : key.length = 32) {k : Int} (hn1 : n ≤ 900000) (hm : mayK n k ≠ 0) : C Try.prog 11 [.pointer (some ⟨b, 0, none⟩), I k] w (Ret fun v w' => v = .tuple #[nilS, I (mayK n k)] ∧ Ext w w') := by
  unfold chS at hc
  have e0 := Ext.refl w
  refine C.enter Try.func11 rfl Try.ntmps11 rfl ?_
  refine J.seq ?_
  refine J.region ?_
  refine J.op (Yd.assign rfl) rfl ?_
  refine J.op (Yd.assign rfl) rfl ?_
  refine J.nil ?_
  refine J.n_then ?_
  refine J.seq ?_
  refine J.seq ?_
  refine J.region ?_
  refine J.op (Yd.move rfl) rfl ?_
  refine J.op (Yd.move rfl) rfl ?_
  refine J.eff (Ye.call cl24 rfl (May_ok (show Cel _ _ _ (chS _ _) from (Cel.ext hc e0)) hs (by first | assumption | omega) (by omega))) rfl ?_
  rintro _ w1 ⟨rfl, x1⟩
  have e0 := e0.trans x1
  clear x1
  refine J.op (Yd.assign rfl) rfl ?_
  refine J.nil ?_
  refine J.n_then ?_
  refine J.seq ?_
  refine J.region ?_
  refine J.op (Yd.move rfl) rfl ?_
  refine J.op (Yd.neq rfl rfl) rfl ?_
  refine J.nil ?_
  refine J.n_then ?_
  refine J.know (t := 11) (v' := .bool true) rfl (tt (by exact hm)) ?_
  refine J.cond_true rfl ?_
  refine J.seq ?_
  refine J.region ?_
  refine J.op (Yd.move rfl) rfl ?_
  refine J.op (Yd.assign rfl) rfl ?_
  refine J.op (Yd.assign rfl) rfl ?_
  refine J.nil ?_
  refine J.n_then ?_
  refine J.ret ?_
  refine J.r_then ?_
  exact J.ret2 rfl rfl rfl (⟨_, rfl, rfl, e0⟩)

theorem SkipNil_ok {k : Int} {w : World} : C Try.prog 11 [.pointer none, I k] w (Ret fun v w' => v = .tuple #[nilS, I 1] ∧ Ext w w') := by
  have e0 := Ext.refl w
  refine C.enter Try.func11 rfl Try.ntmps11 rfl ?_
  refine J.seq ?_
  refine J.region ?_
  refine J.op (Yd.assign rfl) rfl ?_
  refine J.op (Yd.assign rfl) rfl ?_
  refine J.nil ?_
  refine J.n_then ?_
  refine J.seq ?_
  refine J.seq ?_
  refine J.region ?_
  refine J.op (Yd.move rfl) rfl ?_
  refine J.op (Yd.move rfl) rfl ?_
  refine J.eff (Ye.call cl24 rfl (MayNil_ok)) rfl ?_
  rintro _ w1 ⟨rfl, x1⟩
  have e0 := e0.trans x1
  clear x1
  refine J.op (Yd.assign rfl) rfl ?_
  refine J.nil ?_
  refine J.n_then ?_
  refine J.seq ?_
  refine J.region ?_
  refine J.op (Yd.move rfl) rfl ?_
  refine J.op (Yd.neq rfl rfl) rfl ?_
  refine J.nil ?_
  refine J.n_then ?_
  refine J.know (t := 11) (v' := .bool true) rfl (tt (by decide)) ?_
  refine J.cond_true rfl ?_
  refine J.seq ?_
  refine J.region ?_
  refine J.op (Yd.move rfl) rfl ?_
  refine J.op (Yd.assign rfl) rfl ?_
  refine J.op (Yd.assign rfl) rfl ?_
  refine J.nil ?_
  refine J.n_then ?_
  refine J.ret ?_
  refine J.r_then ?_
  exact J.ret2 rfl rfl rfl (⟨_, rfl, rfl, e0⟩)

theorem ChAt_yes {b n : Nat} {s : Value} {key : List UInt8} {w : World} (hc : Cel w b 53 (chS s n)) (hs : Bs w s key) (hk : key.length = 32) {k : Int} (hn1 : n ≤ 900000) (hm : mayK n k = 0) : C Try.prog 17 [.pointer (some ⟨b, 0, none⟩), I k] w (Ret fun u w' => ∃ v, u = .tuple #[v, I 0] ∧ Ob w.heap.size 5 w' v (chM key (k.toNat - n)) ∧ Ext w w') := by
  unfold chS at hc
  have hm2 := mayK_zero hm
  have e0 := Ext.refl w
  refine C.enter Try.func17 rfl Try.ntmps17 rfl ?_
  refine J.seq ?_
  refine J.region ?_
  refine J.op (Yd.assign rfl) rfl ?_
  refine J.op (Yd.assign rfl) rfl ?_
  refine J.nil ?_
  refine J.n_then ?_
  refine J.seq ?_
  refine J.seq ?_
  refine J.region ?_
  refine J.op (Yd.move rfl) rfl ?_
  refine J.op (Yd.move rfl) rfl ?_
  refine J.eff (Ye.call cl24 rfl (May_ok (show Cel _ _ _ (chS _ _) from (Cel.ext hc e0)) hs (by first | assumption | omega) (by omega))) rfl ?_
  rintro _ w1 ⟨rfl, x1⟩
  have e0 := e0.trans x1
  clear x1
  refine J.op (Yd.assign rfl) rfl ?_
  refine J.nil ?_
  refine J.n_then ?_
  refine J.seq ?_
  refine J.region ?_
  refine J.op (Yd.move rfl) rfl ?_
  refine J.op (Yd.neq rfl rfl) rfl ?_
  refine J.nil ?_
  refine J.n_then ?_
  refine J.know (t := 12) (v' := .bool false) rfl (ff (by exact fun e => e hm)) ?_
  refine J.cond_false rfl ?_
  refine J.skip ?_
  refine J.n_then ?_
  refine J.seq ?_
  refine J.region ?_
  refine J.op (Yd.move rfl) rfl ?_
  refine J.eff (Ye.call cl21 rfl (Copy_ok (show Cel _ _ _ (chS _ _) from (Cel.ext hc e0)) (Rd.ext hs e0) (by first | assumption | exact macL_len _ _ | exact chK_len _ (by first | assumption | omega | exact chK_len _ (by assumption) _) _ | omega | (simp; done)))) rfl ?_
  rintro _ w2 ⟨b15_2, s15_2, rfl, hbb15_2, cb15_2, os15_2, ap_b15_2_s15_2, x1⟩
  have fr_b15_2 : Fr w.heap.size (some b15_2) := Fr.le (Fr.blk hbb15_2) e0.size
  have fr_s15_2 : Fr w.heap.size s15_2.ownBlock := Fr.le (Ow.fr os15_2) e0.size
  replace os15_2 := Ow.base os15_2 e0.size
  have e0 := e0.trans x1
  clear x1
  refine J.op (Yd.assign rfl) rfl ?_
  refine J.nil ?_
  refine J.n_then ?_
  refine J.seq ?_
  refine J.region ?_
  refine J.op (Yd.move rfl) rfl ?_
  refine J.op (Yd.move rfl) rfl ?_
  refine J.eff (Ye.call cl11 rfl (Skip_yes (show Cel _ _ _ (chS _ _) from cb15_2) (Ow.rd os15_2) (by first | assumption | exact macL_len _ _ | exact chK_len _ (by first | assumption | omega | exact chK_len _ (by assumption) _) _ | omega | (simp; done)) ap_b15_2_s15_2 (by first | omega | (simp only [Int.toNat_natCast]; omega)) hm)) rfl ?_
  rintro _ w3 ⟨o18_3, vs18_3, s18_3, rfl, oo18_3, cX5, rs18_3, hsf_s18_3, x1⟩
  have lo_s15_2_o18_3 : Lo w2.heap.size s15_2.ownBlock := (Ow.live os15_2)
  have lo_b15_2_o18_3 : Lo w2.heap.size (some b15_2) := (Cel.live cb15_2)
  have ap_s15_2_o18_3 : Ap s15_2.ownBlock o18_3.ownBlock := Ap.mk (Ow.live os15_2) (Ow.fr (Rw.row oo18_3))
  have ap_b15_2_o18_3 : Ap (some b15_2) o18_3.ownBlock := Ap.mk (Cel.live cb15_2) (Ow.fr (Rw.row oo18_3))
  have fr_o18_3 : Fr w.heap.size o18_3.ownBlock := Fr.le (Ow.fr (Rw.row oo18_3)) e0.size
  have ap_b15_2_s18_3 : Ap (some b15_2) s18_3.ownBlock := Ap.sf ap_b15_2_s15_2 (Cel.live cb15_2) hsf_s18_3
  have fr_s18_3 : Fr w.heap.size s18_3.ownBlock := Fr.sf fr_s15_2 hsf_s18_3 e0.size
  have os15_2 := Ow.tnk os15_2 x1 (ApL.one (Ap.symm ap_b15_2_s15_2))
  have e0 := Ext.tnk e0 (fun q hq => by simp only [List.mem_singleton] at hq; subst hq; exact fr_b15_2) x1
  clear x1
  replace cb15_2 := cX5
  clear cX5
  refine J.nil ?_
  refine J.n_then ?_
  refine J.seq ?_
  refine J.region ?_
  refine J.op (Yd.move rfl) rfl ?_
  refine J.eff (Ye.call cl13 rfl (Next_ok (show Cel _ _ _ (chS _ _) from cb15_2) rs18_3 (by first | assumption | exact macL_len _ _ | exact chK_len _ (by first | assumption | omega | exact chK_len _ (by assumption) _) _ | omega | (simp; done)) ap_b15_2_s18_3 (by first | omega | (simp only [Int.toNat_natCast]; omega)))) rfl ?_
  rintro v20_4 w4 ⟨s20_4, ov20_4, cX2, os20_4, x1⟩
  have ap_s15_2_v20_4 : Ap s15_2.ownBlock v20_4.ownBlock := Ap.mk (Ow.live os15_2) (Ow.fr ov20_4)
  have ap_b15_2_v20_4 : Ap (some b15_2) v20_4.ownBlock := Ap.mk (Cel.live cb15_2) (Ow.fr ov20_4)
  have ap_o18_3_v20_4 : Ap o18_3.ownBlock v20_4.ownBlock := Ap.mk (Rw.live oo18_3) (Ow.fr ov20_4)
  have fr_v20_4 : Fr w.heap.size v20_4.ownBlock := Fr.le (Ow.fr ov20_4) e0.size
  have ap_s15_2_s20_4 : Ap s15_2.ownBlock s20_4.ownBlock := Ap.mk (Ow.live os15_2) (Ow.fr os20_4)
  have ap_b15_2_s20_4 : Ap (some b15_2) s20_4.ownBlock := Ap.mk (Cel.live cb15_2) (Ow.fr os20_4)
  have ap_o18_3_s20_4 : Ap o18_3.ownBlock s20_4.ownBlock := Ap.mk (Rw.live oo18_3) (Ow.fr os20_4)
  have fr_s20_4 : Fr w.heap.size s20_4.ownBlock := Fr.le (Ow.fr os20_4) e0.size
  replace ov20_4 := Ow.base ov20_4 e0.size
  replace os20_4 := Ow.base os20_4 e0.size
  have os15_2 := Ow.tnk os15_2 x1 (ApL.one (Ap.symm ap_b15_2_s15_2))
  have oo18_3 := Rw.tnk oo18_3 x1 (LoL.one lo_b15_2_o18_3)
  have rs18_3 := Rd.tnk rs18_3 x1 (ApL.one (Ap.symm ap_b15_2_s18_3))
  have e0 := Ext.tnk e0 (fun q hq => by simp only [List.mem_singleton] at hq; subst hq; exact fr_b15_2) x1
  clear x1
  replace cb15_2 := cX2
  clear cX2
  refine J.op (Yd.assign rfl) rfl ?_
  refine J.op (Yd.assign rfl) rfl ?_
  refine J.nil ?_
  refine J.n_then ?_
  refine J.ret ?_
  exact J.ret2 rfl rfl rfl (⟨_, rfl, _, rfl, ov20_4, e0⟩)

theorem ChAt_no {b n : Nat} {s : Value} {key : List UInt8} {w : World} (hc : Cel w b 53 (chS s n)) (hs : Bs w s key) (hk : key.length = 32) {k : Int} (hn1 : n ≤ 900000) (hm : mayK n k ≠ 0) : C Try.prog 17 [.pointer (some ⟨b, 0, none⟩), I k] w (Ret fun v w' => v = .tuple #[nilS, I (mayK n k)] ∧ Ext w w') := by
  unfold chS at hc
  have e0 := Ext.refl w
  refine C.enter Try.func17 rfl Try.ntmps17 rfl ?_
  refine J.seq ?_
  refine J.region ?_
  refine J.op (Yd.assign rfl) rfl ?_
  refine J.op (Yd.assign rfl) rfl ?_
  refine J.nil ?_
  refine J.n_then ?_
  refine J.seq ?_
  refine J.seq ?_
  refine J.region ?_
  refine J.op (Yd.move rfl) rfl ?_
  refine J.op (Yd.move rfl) rfl ?_
  refine J.eff (Ye.call cl24 rfl (May_ok (show Cel _ _ _ (chS _ _) from (Cel.ext hc e0)) hs (by first | assumption | omega) (by omega))) rfl ?_
  rintro _ w1 ⟨rfl, x1⟩
  have e0 := e0.trans x1
  clear x1
  refine J.op (Yd.assign rfl) rfl ?_
  refine J.nil ?_
  refine J.n_then ?_
  refine J.seq ?_
  refine J.region ?_
  refine J.op (Yd.move rfl) rfl ?_
  refine J.op (Yd.neq rfl rfl) rfl ?_
  refine J.nil ?_
  refine J.n_then ?_
  refine J.know (t := 12) (v' := .bool true) rfl (tt (by exact hm)) ?_
  refine J.cond_true rfl ?_
  refine J.seq ?_
  refine J.region ?_
  refine J.op (Yd.move rfl) rfl ?_
  refine J.op (Yd.assign rfl) rfl ?_
  refine J.op (Yd.assign rfl) rfl ?_
  refine J.nil ?_
  refine J.n_then ?_
  refine J.ret ?_
  refine J.r_then ?_
  exact J.ret2 rfl rfl rfl (⟨_, rfl, rfl, e0⟩)

theorem ChAtNil_ok {k : Int} {w : World} : C Try.prog 17 [.pointer none, I k] w (Ret fun v w' => v = .tuple #[nilS, I 1] ∧ Ext w w') := by
  have e0 := Ext.refl w
  refine C.enter Try.func17 rfl Try.ntmps17 rfl ?_
  refine J.seq ?_
  refine J.region ?_
  refine J.op (Yd.assign rfl) rfl ?_
  refine J.op (Yd.assign rfl) rfl ?_
  refine J.nil ?_
  refine J.n_then ?_
  refine J.seq ?_
  refine J.seq ?_
  refine J.region ?_
  refine J.op (Yd.move rfl) rfl ?_
  refine J.op (Yd.move rfl) rfl ?_
  refine J.eff (Ye.call cl24 rfl (MayNil_ok)) rfl ?_
  rintro _ w1 ⟨rfl, x1⟩
  have e0 := e0.trans x1
  clear x1
  refine J.op (Yd.assign rfl) rfl ?_
  refine J.nil ?_
  refine J.n_then ?_
  refine J.seq ?_
  refine J.region ?_
  refine J.op (Yd.move rfl) rfl ?_
  refine J.op (Yd.neq rfl rfl) rfl ?_
  refine J.nil ?_
  refine J.n_then ?_
  refine J.know (t := 12) (v' := .bool true) rfl (tt (by decide)) ?_
  refine J.cond_true rfl ?_
  refine J.seq ?_
  refine J.region ?_
  refine J.op (Yd.move rfl) rfl ?_
  refine J.op (Yd.assign rfl) rfl ?_
  refine J.op (Yd.assign rfl) rfl ?_
  refine J.nil ?_
  refine J.n_then ?_
  refine J.ret ?_
  refine J.r_then ?_
  exact J.ret2 rfl rfl rfl (⟨_, rfl, rfl, e0⟩)

theorem ChAtZero_ok {b n : Nat} {k : Int} {w : World} (hc : Cel w b 53 (chS nilS n)) : C Try.prog 17 [.pointer (some ⟨b, 0, none⟩), I k] w (Ret fun v w' => v = .tuple #[nilS, I 1] ∧ Ext w w') := by
  unfold chS at hc
  have e0 := Ext.refl w
  refine C.enter Try.func17 rfl Try.ntmps17 rfl ?_
  refine J.seq ?_
  refine J.region ?_
  refine J.op (Yd.assign rfl) rfl ?_
  refine J.op (Yd.assign rfl) rfl ?_
  refine J.nil ?_
  refine J.n_then ?_
  refine J.seq ?_
  refine J.seq ?_
  refine J.region ?_
  refine J.op (Yd.move rfl) rfl ?_
  refine J.op (Yd.move rfl) rfl ?_
  refine J.eff (Ye.call cl24 rfl (MayZero_ok (show Cel _ _ _ (chS _ _) from (Cel.ext hc e0)))) rfl ?_
  rintro _ w1 ⟨rfl, x1⟩
  have e0 := e0.trans x1
  clear x1
  refine J.op (Yd.assign rfl) rfl ?_
  refine J.nil ?_
  refine J.n_then ?_
  refine J.seq ?_
  refine J.region ?_
  refine J.op (Yd.move rfl) rfl ?_
  refine J.op (Yd.neq rfl rfl) rfl ?_
  refine J.nil ?_
  refine J.n_then ?_
  refine J.know (t := 12) (v' := .bool true) rfl (tt (by decide)) ?_
  refine J.cond_true rfl ?_
  refine J.seq ?_
  refine J.region ?_
  refine J.op (Yd.move rfl) rfl ?_
  refine J.op (Yd.assign rfl) rfl ?_
  refine J.op (Yd.assign rfl) rfl ?_
  refine J.nil ?_
  refine J.n_then ?_
  refine J.ret ?_
  refine J.r_then ?_
  exact J.ret2 rfl rfl rfl (⟨_, rfl, rfl, e0⟩)

theorem Root_yes {a u v : Value} {root secret inf : List UInt8} {w : World} (ha : Bs w a root) (hb : Bs w u secret) (hi : Bs w v inf) (hk : root.length = 32) (hbl : secret.length ≤ 1000000) (hil : inf.length ≤ 1000000) : C Try.prog 14 [a, u, v] w (Ret fun z w' => ∃ x y, z = .tuple #[x, y, I 0] ∧ Ob w.heap.size 5 w' x ((exQ (macL root secret) inf 64).take 32) ∧ Ob w.heap.size 5 w' y ((exQ (macL root secret) inf 64).drop 32) ∧ Ext w w') := by
  have hq64 : (exQ (macL root secret) inf 64).length = 64 := exQ_len ⟨by decide, by decide⟩
  have e0 := Ext.refl w
  refine C.enter Try.func14 rfl Try.ntmps14 rfl ?_
  refine J.seq ?_
  refine J.region ?_
  refine J.op (Yd.assign rfl) rfl ?_
  refine J.op (Yd.assign rfl) rfl ?_
  refine J.op (Yd.assign rfl) rfl ?_
  refine J.nil ?_
  refine J.n_then ?_
  refine J.seq ?_
  refine J.seq ?_
  refine J.region ?_
  refine J.op (Yd.move rfl) rfl ?_
  refine J.op (Yd.len_b Try.underlying22 rfl ha) rfl ?_
  refine J.op (Yd.neq rfl rfl) rfl ?_
  refine J.nil ?_
  refine J.n_then ?_
  refine J.know (t := 12) (v' := .bool false) rfl (ff (by omega)) ?_
  refine J.cond_false rfl ?_
  refine J.skip ?_
  refine J.n_then ?_
  refine J.seq ?_
  refine J.region ?_
  refine J.op (Yd.move rfl) rfl ?_
  refine J.op (Yd.move rfl) rfl ?_
  refine J.op (Yd.move rfl) rfl ?_
  refine J.eff (Ye.call cl28 rfl (Derive_ok ha hb hi (by first | omega | (simp only [List.length_append, List.flatten_cons, List.flatten_nil, List.append_nil, padL_len, sha256L_len, macL_len, List.length_nil, List.length_cons, Int.toNat_natCast]; omega) | (simp <;> omega)) (by first | omega | (simp only [List.length_append, List.flatten_cons, List.flatten_nil, List.append_nil, padL_len, sha256L_len, macL_len, List.length_nil, List.length_cons, Int.toNat_natCast]; omega) | (simp <;> omega)) (by first | omega | (simp only [List.length_append, List.flatten_cons, List.flatten_nil, List.append_nil, padL_len, sha256L_len, macL_len, List.length_nil, List.length_cons, Int.toNat_natCast]; omega) | (simp <;> omega)))) rfl ?_
  rintro s16_1 w1 ⟨rs16_1, x1⟩
  have e0 := e0.trans x1
  clear x1
  refine J.op (Yd.assign rfl) rfl ?_
  refine J.nil ?_
  refine J.n_then ?_
  refine J.seq ?_
  refine J.regionO [(0, true), (3, true)] [(1, 1), (4, 1), (2, 0)] [(5, false), (6, true), (7, true), (8, true)] mix (by kernel_rfl) ?_
  refine J.s_op rfl (fun _ => Yd.move rfl) rfl ?_
  refine J.s_op rfl (fun _ => Yd.move rfl) rfl ?_
  refine J.s_nil ?_
  refine J.o_op rfl (Yd.slcH Try.underlying22 ti5 rfl rs16_1 rfl (by first | omega | (simp only [Int.toNat_natCast]; omega) | (simp only [List.length_map, List.length_drop, List.length_take, hq64, Int.toNat_natCast] <;> omega) | (simp [hq64] <;> omega))) rfl ?_
  refine J.o_op rfl (Yd.slcL Try.underlying22 ti5 rfl rs16_1 rfl (by first | omega | (simp only [Int.toNat_natCast]; omega) | (simp only [List.length_map, List.length_drop, List.length_take, hq64, Int.toNat_natCast] <;> omega) | (simp [hq64] <;> omega))) rfl ?_
  refine J.o_eff rfl (Ye.call cl29 rfl (Clone_ok (Bs.slc rs16_1 (by first | omega | (simp only [Int.toNat_natCast]; omega) | (simp only [List.length_map, List.length_drop, List.length_take, hq64, Int.toNat_natCast] <;> omega) | (simp [hq64] <;> omega)) (by first | omega | (simp only [Int.toNat_natCast]; omega) | (simp only [List.length_map, List.length_drop, List.length_take, hq64, Int.toNat_natCast] <;> omega) | (simp [hq64] <;> omega))) (by first | omega | (simp <;> omega)))) rfl (fun _ _ h => h.2) ?_
  rintro s19_2 w2 ⟨os19_2, x1⟩
  have fr_s19_2 : Fr w.heap.size s19_2.ownBlock := Fr.le (Ow.fr os19_2) e0.size
  replace os19_2 := Ow.base os19_2 e0.size
  have e0 := e0.trans x1
  have rs16_1 := rs16_1.ext x1
  clear x1
  refine J.o_nil ?_
  refine J.s_eff rfl (Ye.call cl29 rfl (Clone_ok (Bs.slc rs16_1 (by first | omega | (simp only [Int.toNat_natCast]; omega) | (simp only [List.length_map, List.length_drop, List.length_take, hq64, Int.toNat_natCast] <;> omega) | (simp [hq64] <;> omega)) (by first | omega | (simp only [Int.toNat_natCast]; omega) | (simp only [List.length_map, List.length_drop, List.length_take, hq64, Int.toNat_natCast] <;> omega) | (simp [hq64] <;> omega))) (by first | omega | (simp <;> omega)))) rfl ?_
  rintro s22_3 w3 ⟨os22_3, x1⟩
  have ap_s19_2_s22_3 : Ap s19_2.ownBlock s22_3.ownBlock := Ap.mk (Ow.live os19_2) (Ow.fr os22_3)
  have fr_s22_3 : Fr w.heap.size s22_3.ownBlock := Fr.le (Ow.fr os22_3) e0.size
  replace os22_3 := Ow.base os22_3 e0.size
  have e0 := e0.trans x1
  have rs16_1 := rs16_1.ext x1
  have os19_2 := os19_2.ext x1
  clear x1
  refine J.s_op rfl (fun _ => Yd.assign rfl) rfl ?_
  refine J.s_op rfl (fun _ => Yd.assign rfl) rfl ?_
  refine J.s_op rfl (fun _ => Yd.assign rfl) rfl ?_
  refine J.s_nil ?_
  refine J.n_np ?_
  refine J.n_then ?_
  refine J.ret ?_
  exact J.ret3 rfl rfl rfl rfl (⟨_, rfl, _, _, rfl, (by have h9 := os19_2; rw [List.drop_zero] at h9; exact h9), (by have h9 := os22_3; rw [List.take_of_length_le (by rw [List.length_map]; omega)] at h9; exact h9), e0⟩)

theorem Root_no {a u v : Value} {root secret inf : List UInt8} {w : World} (ha : Bs w a root) (hb : Bs w u secret) (hi : Bs w v inf) (hk : root.length ≠ 32) : C Try.prog 14 [a, u, v] w (Ret fun v w' => v = .tuple #[nilS, nilS, I 1] ∧ Ext w w') := by
  have e0 := Ext.refl w
  refine C.enter Try.func14 rfl Try.ntmps14 rfl ?_
  refine J.seq ?_
  refine J.region ?_
  refine J.op (Yd.assign rfl) rfl ?_
  refine J.op (Yd.assign rfl) rfl ?_
  refine J.op (Yd.assign rfl) rfl ?_
  refine J.nil ?_
  refine J.n_then ?_
  refine J.seq ?_
  refine J.seq ?_
  refine J.region ?_
  refine J.op (Yd.move rfl) rfl ?_
  refine J.op (Yd.len_b Try.underlying22 rfl ha) rfl ?_
  refine J.op (Yd.neq rfl rfl) rfl ?_
  refine J.nil ?_
  refine J.n_then ?_
  refine J.know (t := 12) (v' := .bool true) rfl (tt (by omega)) ?_
  refine J.cond_true rfl ?_
  refine J.seq ?_
  refine J.region ?_
  refine J.op (Yd.assign rfl) rfl ?_
  refine J.op (Yd.assign rfl) rfl ?_
  refine J.op (Yd.assign rfl) rfl ?_
  refine J.nil ?_
  refine J.n_then ?_
  refine J.ret ?_
  refine J.r_then ?_
  exact J.ret3 rfl rfl rfl rfl (⟨_, rfl, rfl, e0⟩)
end Ytikggonjagoiaaa
end Go.Proofs
