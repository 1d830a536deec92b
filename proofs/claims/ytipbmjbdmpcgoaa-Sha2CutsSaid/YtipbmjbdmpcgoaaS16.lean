import Derived.Test.YtipbmjbdmpcgoaaT
import Derived.Test.YtipbmjbdmpcgoaaPn
import Derived.Test.YtipbmjbdmpcgoaaX16
import Derived.Test.YtipbmjbdmpcgoaaS13
set_option linter.unusedVariables false
set_option linter.unusedSimpArgs false
set_option maxRecDepth 100000
set_option maxHeartbeats 4000000
namespace Go.Proofs
open Go.X Go.RowKit
namespace Ytipbmjbdmpcgoaa
theorem Sha2Cuts_ok {a v : Value} {l : List UInt8} {xs : List Int} {w : World} (ha : Bs w a l) (hv : Rd w v (xs.map fun x => I x)) : C Try.prog 5 [a, v] w (Ret fun v w' => v = .bool true ∧ Ext w w') := by
  have e0 := Ext.refl w
  refine C.enter Try.func5 rfl Try.ntmps5 rfl ?_
  refine J.seq ?_
  refine J.region ?_
  refine J.op (Yd.assign rfl) rfl ?_
  refine J.nil ?_
  refine J.n_then ?_
  refine J.seq ?_
  refine J.seq ?_
  refine J.region ?_
  refine J.op (Yd.move rfl) rfl ?_
  refine J.op (Yd.len_b Try.underlying25 rfl ha) rfl ?_
  refine J.op (Yd.gtr rfl rfl) rfl ?_
  refine J.op (Yd.move rfl) rfl ?_
  refine J.split_dec (t := 15) rfl (fun h1 => ?_) (fun h1 => ?_)
  · skip
    refine J.not_g rfl rfl rfl rfl rfl ?_
    refine J.not_g rfl rfl rfl rfl rfl ?_
    refine J.not_g rfl rfl rfl rfl rfl ?_
    refine J.op (Yd.pick_t rfl rfl) rfl ?_
    refine J.nil ?_
    refine J.n_then ?_
    refine J.cond_true rfl ?_
    refine J.seq ?_
    refine J.region ?_
    refine J.eff (Ye.call cl8 rfl (awake_ok)) rfl ?_
    rintro _ w1 ⟨rfl, x1⟩
    have e0 := e0.trans x1
    clear x1
    refine J.op (Yd.assign rfl) rfl ?_
    refine J.nil ?_
    refine J.n_then ?_
    refine J.ret ?_
    refine J.r_then ?_
    exact J.ret1 rfl rfl (⟨_, rfl, rfl, e0⟩)
  · skip
    refine J.op_g rfl rfl rfl (Yd.move rfl) rfl ?_
    refine J.op_g rfl rfl rfl (Yd.len_m Try.underlying31 rfl hv) rfl ?_
    refine J.op_g rfl rfl rfl (Yd.gtr rfl rfl) rfl ?_
    refine J.op (Yd.pick_f rfl rfl) rfl ?_
    refine J.nil ?_
    refine J.n_then ?_
    refine J.cond_dec rfl (fun hc0 => ?_) (fun hc0 => ?_)
    · skip
      refine J.seq ?_
      refine J.region ?_
      refine J.eff (Ye.call cl8 rfl (awake_ok)) rfl ?_
      rintro _ w2 ⟨rfl, x1⟩
      have e0 := e0.trans x1
      clear x1
      refine J.op (Yd.assign rfl) rfl ?_
      refine J.nil ?_
      refine J.n_then ?_
      refine J.ret ?_
      refine J.r_then ?_
      exact J.ret1 rfl rfl (⟨_, rfl, rfl, e0⟩)
    · skip
      refine J.skip ?_
      refine J.n_then ?_
      refine J.seq ?_
      refine J.region ?_
      refine J.op (Yd.assign rfl) rfl ?_
      refine J.nil ?_
      refine J.n_then ?_
      refine J.seq ?_
      refine J.region ?_
      refine J.op (Yd.assign rfl) rfl ?_
      refine J.nil ?_
      refine J.n_then ?_
      refine J.seq ?_
      refine J.seq ?_
      refine J.region ?_
      refine J.op (Yd.assign rfl) rfl ?_
      refine J.nil ?_
      refine J.n_then ?_
      refine J.block ?_
      refine J.loop (ι := Nat × Value × Nat × List (Nat × Nat)) (fun i => [(0, a), (1, v), (6, I (i.2.2.1 : Int)), (7, I i.1), (5, i.2.1)]) (fun i w' => i.1 ≤ xs.length ∧ CutP l i.2.2.2 i.2.2.1 ∧ i.2.2.2.length = i.1 ∧ Ow w.heap.size 25 w' i.2.1 (i.2.2.2.map (slcF a)) ∧ Fr w.heap.size (i.2.1).ownBlock ∧ Ext w w') (fun i => xs.length - i.1) ((0, nilS, 0, [])) ⟨rfl, rfl, rfl, rfl, rfl, trivial⟩ (⟨Nat.zero_le _, CutP.nil l, rfl, Ow.nil _ _ _, Fr.nil, e0⟩) ?_
      rintro ⟨k, s5, p, L⟩ w3 ⟨hk, hcp, hkl, ho5, fr_s5, e0⟩
      dsimp only at *
      have hpl := hcp.2.2
      refine J.seq ?_
      refine J.seq ?_
      refine J.region ?_
      refine J.op (Yd.move rfl) rfl ?_
      refine J.op (Yd.move rfl) rfl ?_
      refine J.op (Yd.len_m Try.underlying31 rfl (Rd.ext hv e0)) rfl ?_
      refine J.op (Yd.lss rfl rfl) rfl ?_
      refine J.nil ?_
      refine J.n_then ?_
      refine J.cond_dec rfl (fun hc1 => ?_) (fun hc1 => ?_)
      · skip
        have hm0 := Int.emod_nonneg (xs.getD (k : Int).toNat 0) (show ((l.length : Int) - (p : Int) + 1) ≠ 0 by omega)
        have hm1 := Int.emod_lt_of_pos (xs.getD (k : Int).toNat 0) (show 0 < ((l.length : Int) - (p : Int) + 1) by omega)
        refine J.skip ?_
        refine J.n_then ?_
        refine J.seq ?_
        refine J.block ?_
        refine J.seq ?_
        refine J.region ?_
        refine J.op (Yd.move rfl) rfl ?_
        refine J.op (Yd.move rfl) rfl ?_
        refine J.op (Yd.move rfl) rfl ?_
        refine J.op (Yd.idx_m Try.underlying31 ti3 rfl rfl (Rd.ext hv e0) (by first | omega | (simp only [Int.toNat_natCast]; omega) | (simp only [List.length_map, List.length_drop, List.length_take, List.length_append, List.length_replicate]; omega) | (simp [sha256L_len, sha512L_len] <;> omega))) rfl ?_
        refine J.op (Yd.load pl3 rfl (Rd.cellI (Rd.ext hv e0) (by first | omega | (simp only [Int.toNat_natCast]; omega) | (simp only [List.length_map, List.length_drop, List.length_take, List.length_append, List.length_replicate]; omega) | (simp [sha256L_len, sha512L_len] <;> omega)))) rfl ?_
        refine J.op (Yd.move rfl) rfl ?_
        refine J.op (Yd.len_b Try.underlying25 rfl (Rd.ext ha e0)) rfl ?_
        refine J.op (Yd.move rfl) rfl ?_
        refine J.op (Yd.sub rfl rfl (by first | omega | (simp only [Int.toNat_natCast]; omega) | (simp only [List.length_map, List.length_drop, List.length_take, List.length_append, List.length_replicate]; omega) | (simp [sha256L_len, sha512L_len] <;> omega))) rfl ?_
        refine J.op (Yd.add rfl rfl (by first | omega | (simp only [Int.toNat_natCast]; omega) | (simp only [List.length_map, List.length_drop, List.length_take, List.length_append, List.length_replicate]; omega) | (simp [sha256L_len, sha512L_len] <;> omega))) rfl ?_
        refine J.eff (Ye.call cl14 rfl (Round_ok (by omega) (by omega))) rfl ?_
        rintro _ w4 ⟨rfl, x1⟩
        have e0 := e0.trans x1
        have ho5 := ho5.ext x1
        clear x1
        refine J.op (Yd.add rfl rfl (by first | omega | (simp only [Int.toNat_natCast]; omega) | (simp only [List.length_map, List.length_drop, List.length_take, List.length_append, List.length_replicate]; omega) | (simp [sha256L_len, sha512L_len] <;> omega))) rfl ?_
        refine J.op (Yd.assign rfl) rfl ?_
        refine J.nil ?_
        refine J.n_then ?_
        refine J.seq ?_
        refine J.region ?_
        obtain ⟨q, hq⟩ := Int.eq_ofNat_of_zero_le (show 0 ≤ (p : Int) + (xs.getD (k : Int).toNat 0 % ((l.length : Int) - (p : Int) + 1)) by omega)
        have hpq : p ≤ q := by omega
        have hql : q ≤ l.length := by omega
        rw [hq]
        refine J.op (Yd.move rfl) rfl ?_
        refine J.op (Yd.move rfl) rfl ?_
        refine J.op (Yd.move rfl) rfl ?_
        refine J.op (Yd.move rfl) rfl ?_
        refine J.op (Yd.slcLH Try.underlying25 ti5 rfl (Rd.ext ha e0) rfl rfl (by first | omega | (simp only [Int.toNat_natCast]; omega) | (simp only [List.length_map, List.length_drop, List.length_take, List.length_append, List.length_replicate]; omega) | (simp [sha256L_len, sha512L_len] <;> omega))) rfl ?_
        refine J.eff (Ye.litS1 Try.underlying22 ti25 rfl rfl (Bs.slc (Rd.ext ha e0) (by first | omega | (simp only [Int.toNat_natCast]; omega) | (simp only [List.length_map, List.length_drop, List.length_take, List.length_append, List.length_replicate]; omega) | (simp [sha256L_len, sha512L_len] <;> omega)) (by first | omega | (simp only [Int.toNat_natCast]; omega) | (simp only [List.length_map, List.length_drop, List.length_take, List.length_append, List.length_replicate]; omega) | (simp [sha256L_len, sha512L_len] <;> omega)))) rfl ?_
        rintro s44_5 w5 ⟨o44_5, x1⟩
        have e0 := e0.trans x1
        have ho5 := ho5.ext x1
        clear x1
        refine J.eff (Ye.appendS Try.underlying22 ti25 rfl rfl rfl rfl ho5 (show Rd _ _ (List.map (slcF a) [(p, q)]) from by have h9 := Rl.rd o44_5; rw [List.map_singleton, slcF_eq ha]; exact h9) (slcF_one a) (by simp only [List.length_cons, List.length_nil]; omega) e0.size) rfl ?_
        rintro s45_6 w6 ⟨o45_6, hg, hsf⟩
        have fr_s45_6 : Fr w.heap.size s45_6.ownBlock := Fr.sf fr_s5 hsf e0.size
        have e0 := Ext.gbk e0 fr_s5 hg
        clear hg hsf
        refine J.op (Yd.assign rfl) rfl ?_
        refine J.nil ?_
        refine J.n_then ?_
        refine J.region ?_
        refine J.op (Yd.move rfl) rfl ?_
        refine J.op (Yd.assign rfl) rfl ?_
        refine J.nil ?_
        refine J.n_block ?_
        refine J.n_then ?_
        refine J.region ?_
        refine J.op (Yd.move rfl) rfl ?_
        refine J.op (Yd.add rfl rfl (by first | omega | (simp only [Int.toNat_natCast]; omega) | (simp only [List.length_map, List.length_drop, List.length_take, List.length_append, List.length_replicate]; omega) | (simp [sha256L_len, sha512L_len] <;> omega))) rfl ?_
        refine J.op (Yd.assign rfl) rfl ?_
        refine J.nil ?_
        refine J.n_then ?_
        exact J.round ((k + 1, s45_6, q, L ++ [(p, q)])) ⟨rfl, rfl, rfl, rfl, rfl, trivial⟩ (⟨by show k + 1 ≤ xs.length; omega, CutP.step hcp hpq hql, by show (L ++ [(p, q)]).length = k + 1; rw [List.length_append, hkl]; rfl, o45_6, fr_s45_6, e0⟩) (by show xs.length - (k + 1) < xs.length - k; omega)
      · skip
        refine J.exit ?_
        refine J.x_then ?_
        refine J.x_then ?_
        refine J.x_block ?_
        refine J.n_then ?_
        refine J.seq ?_
        refine J.region ?_
        refine J.op (Yd.move rfl) rfl ?_
        refine J.op (Yd.move rfl) rfl ?_
        refine J.op (Yd.move rfl) rfl ?_
        refine J.op (Yd.slcL Try.underlying25 ti5 rfl (Rd.ext ha e0) rfl (by first | omega | (simp only [Int.toNat_natCast]; omega) | (simp only [List.length_map, List.length_drop, List.length_take, List.length_append, List.length_replicate]; omega) | (simp [sha256L_len, sha512L_len] <;> omega))) rfl ?_
        refine J.eff (Ye.litS1 Try.underlying22 ti25 rfl rfl (Bs.slc (Rd.ext ha e0) (by first | omega | (simp only [Int.toNat_natCast]; omega) | (simp only [List.length_map, List.length_drop, List.length_take, List.length_append, List.length_replicate]; omega) | (simp [sha256L_len, sha512L_len] <;> omega)) (by first | omega | (simp only [Int.toNat_natCast]; omega) | (simp only [List.length_map, List.length_drop, List.length_take, List.length_append, List.length_replicate]; omega) | (simp [sha256L_len, sha512L_len] <;> omega)))) rfl ?_
        rintro s51_7 w7 ⟨o51_7, x1⟩
        have e0 := e0.trans x1
        have ho5 := ho5.ext x1
        clear x1
        refine J.eff (Ye.appendS Try.underlying22 ti25 rfl rfl rfl rfl ho5 (show Rd _ _ (List.map (slcF a) [(p, l.length)]) from by have h9 := Rl.rd o51_7; rw [List.map_singleton, slcF_eq ha]; rw [List.length_map] at h9; exact h9) (slcF_one a) (by simp only [List.length_cons, List.length_nil]; omega) e0.size) rfl ?_
        rintro s52_8 w8 ⟨o52_8, hg, hsf⟩
        have fr_s52_8 : Fr w.heap.size s52_8.ownBlock := Fr.sf fr_s5 hsf e0.size
        have e0 := Ext.gbk e0 fr_s5 hg
        clear hg hsf
        have hcp2 := CutP.step hcp hcp.2.2 (Nat.le_refl _); have hall := CutP.all hcp2; have hlc := CutP.rl (Rd.ext ha e0) hcp2 (Ow.rd o52_8); have hca : (List.map (cutL l) (L ++ [(p, l.length)])).length= L.length + 1 := (by simp); clear o52_8; have eW := e0; replace ha := Rd.ext ha e0; rename World => w; replace e0 := Ext.refl w; generalize hvs : List.map (slcF a) (L ++ [(p, l.length)]) = vs at hlc; generalize hll : List.map (cutL l) (L ++ [(p, l.length)]) = ll at hlc hall hca; have hal : ll.flatten.length = l.length := congrArg List.length hall
        refine J.op (Yd.assign rfl) rfl ?_
        refine J.nil ?_
        refine J.n_then ?_
        refine J.seq ?_
        refine J.region ?_
        refine J.eff (Ye.alloc ti37 (S := [(0, 8, (List.replicate 8 0).map (fun x : UInt32 => W32 x)), (8, 1, [.slice none 0 0]), (9, 1, [.int .u64 0])]) (by simp [SegAll, SegOK, Value.cells])) rfl ?_
        rintro _ w9 ⟨b9_8, rfl, hb_, c9_8, x1⟩
        have fr_b9_8 : Fr w.heap.size (some b9_8) := Fr.le (Fr.blk hb_) e0.size
        have e0 := e0.trans x1
        clear x1 hb_
        refine J.nil ?_
        refine J.n_then ?_
        refine J.seq ?_
        refine J.seq ?_
        refine J.region ?_
        refine J.op (Yd.assign rfl) rfl ?_
        refine J.nil ?_
        refine J.n_then ?_
        refine J.block ?_
        refine J.loop (ι := Nat × Value) (fun i => [(0, a), (5, s52_8), (10, I i.1), (9, .pointer (some ⟨b9_8, 0, none⟩))]) (fun i w' => i.1 ≤ ll.length ∧ Cel w' b9_8 37 (hseg (ll.take i.1).flatten i.2) ∧ Ob w.heap.size 5 w' i.2 (restL (ll.take i.1).flatten) ∧ Fr w.heap.size (i.2).ownBlock ∧ Ap (some b9_8) (i.2).ownBlock ∧ Ext w w') (fun i => ll.length - i.1) ((0, nilS)) ⟨rfl, rfl, rfl, rfl, trivial⟩ (⟨Nat.zero_le _, by show Cel _ _ _ (hseg ([] : List UInt8) nilS); rw [hseg_nil]; exact c9_8, by show Ob _ _ _ nilS (restL ([] : List UInt8)); exact Ow.nil _ _ _, Fr.nil, Ap.nil_r, e0⟩) ?_
        rintro ⟨k, s1⟩ w10 ⟨hk, c9_8, hs, fr_s1, ap_b9_8_s1, e0⟩
        dsimp only at *
        have hft := flat_step ll k
        have hle := flat_le ll (k + 1)
        have hle0 := flat_le ll k
        refine J.seq ?_
        refine J.seq ?_
        refine J.region ?_
        refine J.op (Yd.move rfl) rfl ?_
        refine J.op (Yd.move rfl) rfl ?_
        refine J.op (Yd.len_l Try.underlying22 rfl (Rl.ext hlc e0)) rfl ?_
        refine J.op (Yd.lss rfl rfl) rfl ?_
        refine J.nil ?_
        refine J.n_then ?_
        refine J.cond_dec rfl (fun hc2 => ?_) (fun hc2 => ?_)
        · skip
          replace hft := hft (by omega)
          refine J.skip ?_
          refine J.n_then ?_
          refine J.seq ?_
          refine J.block ?_
          refine J.region ?_
          refine J.op (Yd.move rfl) rfl ?_
          refine J.op (Yd.move rfl) rfl ?_
          refine J.op (Yd.idx_l Try.underlying22 ti25 rfl rfl (Rl.ext hlc e0) (by first | omega | (simp only [Int.toNat_natCast]; omega) | (simp only [List.length_map, List.length_drop, List.length_take, List.length_append, List.length_replicate]; omega) | (simp [sha256L_len, sha512L_len] <;> omega))) rfl ?_
          refine J.op (Yd.load pl25 rfl (Rl.cell (Rl.ext hlc e0) (by first | omega | (simp only [Int.toNat_natCast]; omega) | (simp only [List.length_map, List.length_drop, List.length_take, List.length_append, List.length_replicate]; omega) | (simp [sha256L_len, sha512L_len] <;> omega)))) rfl ?_
          refine J.eff (Ye.call cl15 rfl (Add_ok c9_8 (Ow.base hs (Nat.zero_le _)) ap_b9_8_s1 (fun w' ht => (Rl.at' (Rl.ext hlc (Ext.tnk e0 (fun q hq => by simp only [List.mem_singleton] at hq; subst hq; exact fr_b9_8) ht)) (by first | omega | (simp only [Int.toNat_natCast]; omega) | (simp only [List.length_map, List.length_drop, List.length_take, List.length_append, List.length_replicate]; omega) | (simp [sha256L_len, sha512L_len] <;> omega)))) (by first | omega | (simp only [List.length_append, List.flatten_cons, List.flatten_nil, List.append_nil, Int.toNat_natCast]; omega) | (simp <;> omega)) (by first | omega | (simp only [List.length_append, List.flatten_cons, List.flatten_nil, List.append_nil, Int.toNat_natCast]; omega) | (simp <;> omega)))) rfl ?_
          rintro _ w11 ⟨s63_11, rfl, cX2, os63_11, x1⟩
          have ap_b9_8_s63_11 : Ap (some b9_8) s63_11.ownBlock := Ap.mk (Cel.live c9_8) (Ow.fr os63_11)
          have ap_s1_s63_11 : Ap s1.ownBlock s63_11.ownBlock := Ap.mk (Ow.live hs) (Ow.fr os63_11)
          have fr_s63_11 : Fr w.heap.size s63_11.ownBlock := Fr.le (Ow.fr os63_11) e0.size
          replace os63_11 := Ow.base os63_11 e0.size
          have hs := Ow.tnk hs x1 (ApL.one (Ap.symm ap_b9_8_s1))
          have e0 := Ext.tnk e0 (fun q hq => by simp only [List.mem_singleton] at hq; subst hq; exact fr_b9_8) x1
          clear x1
          replace c9_8 := cX2
          clear cX2
          refine J.nil ?_
          refine J.n_block ?_
          refine J.n_then ?_
          refine J.region ?_
          refine J.op (Yd.move rfl) rfl ?_
          refine J.op (Yd.add rfl rfl (by first | omega | (simp only [Int.toNat_natCast]; omega) | (simp only [List.length_map, List.length_drop, List.length_take, List.length_append, List.length_replicate]; omega) | (simp [sha256L_len, sha512L_len] <;> omega))) rfl ?_
          refine J.op (Yd.assign rfl) rfl ?_
          refine J.nil ?_
          refine J.n_then ?_
          exact J.round ((k + 1, s63_11)) ⟨rfl, rfl, rfl, rfl, trivial⟩ (⟨by show k + 1 ≤ ll.length; omega, by show Cel _ _ _ (hseg (ll.take (k + 1)).flatten _); rw [flat_take ll k (by omega)]; exact c9_8, by show Ob _ _ _ _ (restL (ll.take (k + 1)).flatten); rw [flat_take ll k (by omega)]; exact os63_11, fr_s63_11, ap_b9_8_s63_11, e0⟩) (by show ll.length - (k + 1) < ll.length - k; omega)
        · skip
          refine J.exit ?_
          refine J.x_then ?_
          refine J.x_then ?_
          refine J.x_block ?_
          refine J.n_then ?_
          refine J.seq ?_
          refine J.region ?_
          refine J.op (Yd.move rfl) rfl ?_
          refine J.eff (Ye.litS1 Try.underlying22 ti25 rfl rfl (Rd.ext ha e0)) rfl ?_
          rintro s65_12 w12 ⟨o65_12, x1⟩
          have e0 := e0.trans x1
          have c9_8 := c9_8.ext x1
          have hs := hs.ext x1
          clear x1
          refine J.eff (Ye.call cl10 rfl (Sum256_ok o65_12 (by first | omega | (simp only [List.length_append, List.flatten_cons, List.flatten_nil, List.append_nil, Int.toNat_natCast]; omega) | (simp <;> omega)))) rfl ?_
          rintro s66_13 w13 ⟨os66_13, x1⟩
          have ap_b9_8_s66_13 : Ap (some b9_8) s66_13.ownBlock := Ap.mk (Cel.live c9_8) (Ow.fr os66_13)
          have ap_s1_s66_13 : Ap s1.ownBlock s66_13.ownBlock := Ap.mk (Ow.live hs) (Ow.fr os66_13)
          have fr_s66_13 : Fr w.heap.size s66_13.ownBlock := Fr.le (Ow.fr os66_13) e0.size
          replace os66_13 := Ow.base os66_13 e0.size
          have e0 := e0.trans x1
          have c9_8 := c9_8.ext x1
          have hs := hs.ext x1
          have o65_12 := o65_12.ext x1
          clear x1
          refine J.op (Yd.assign rfl) rfl ?_
          refine J.nil ?_
          refine J.n_then ?_
          refine J.seq ?_
          refine J.regionA [(0, true)] [(1, Asr.v 68 (I (((sha256L ([l] : List (List UInt8)).flatten)).length : Int))), (2, Asr.v 69 (.bool (decide (((sha256L ([l] : List (List UInt8)).flatten).length : Int) = 32)))), (3, Asr.v 70 (.bool true)), (4, Asr.v 71 (s52_8)), (5, Asr.own 72 w13.heap.size 5 (((sha256L ll.flatten)).map fun x => B x)), (6, Asr.v 73 (Str (sha256L ll.flatten))), (7, Asr.v 74 (s66_13)), (8, Asr.v 75 (Str (sha256L ([l] : List (List UInt8)).flatten))), (9, Asr.v 76 (.bool (decide ((sha256L ll.flatten) = (sha256L ([l] : List (List UInt8)).flatten))))), (10, Asr.v 77 (.bool (decide ((sha256L ll.flatten) = (sha256L ([l] : List (List UInt8)).flatten))))), (11, Asr.v 78 (.bool true)), (12, Asr.own 79 w13.heap.size 5 (((sha256L (ll.take k).flatten)).map fun x => B x)), (13, Asr.v 80 (Str (sha256L (ll.take k).flatten))), (14, Asr.v 81 (s66_13)), (15, Asr.v 82 (Str (sha256L ([l] : List (List UInt8)).flatten))), (16, Asr.v 83 (.bool (decide ((sha256L (ll.take k).flatten) = (sha256L ([l] : List (List UInt8)).flatten))))), (17, Asr.v 84 (.bool (decide ((sha256L (ll.take k).flatten) = (sha256L ([l] : List (List UInt8)).flatten))))), (18, Asr.v 85 (.bool true)), (19, Asr.own 86 w13.heap.size 5 (((sha256L (ll.take k).flatten)).map fun x => B x)), (20, Asr.v 87 (Str (sha256L (ll.take k).flatten))), (21, Asr.v 88 (s66_13)), (22, Asr.v 89 (Str (sha256L ([l] : List (List UInt8)).flatten))), (23, Asr.v 90 (.bool (decide ((sha256L (ll.take k).flatten) = (sha256L ([l] : List (List UInt8)).flatten))))), (24, Asr.v 91 (.bool (decide ((sha256L (ll.take k).flatten) = (sha256L ([l] : List (List UInt8)).flatten))))), (25, Asr.v 92 (.bool true)), (26, Asr.v 93 (s52_8)), (27, Asr.own 94 w13.heap.size 5 (((sha512L ll.flatten)).map fun x => B x)), (28, Asr.v 95 (Str (sha512L ll.flatten))), (29, Asr.v 96 (a)), (30, Asr.rl 97 [a] [l]), (31, Asr.own 98 w13.heap.size 5 (((sha512L ([l] : List (List UInt8)).flatten)).map fun x => B x)), (32, Asr.v 99 (Str (sha512L ([l] : List (List UInt8)).flatten))), (33, Asr.v 100 (.bool (decide ((sha512L ll.flatten) = (sha512L ([l] : List (List UInt8)).flatten)))))] [1, 2, 3, 4, 5, 6, 7, 8, 9, 10, 11, 12, 13, 14, 15, 16, 17, 18, 19, 20, 21, 22, 23, 24, 25, 26, 27, 28, 29, 30, 31, 32, 33] [68, 69, 70, 71, 72, 73, 74, 75, 76, 77, 78, 79, 80, 81, 82, 83, 84, 85, 86, 87, 88, 89, 90, 91, 92, 93, 94, 95, 96, 97, 98, 99, 100] [[], [0], [0, 1], [0, 1, 2], [0, 1, 2, 3], [0, 1, 2, 3, 4], [0, 1, 2], [0, 1, 2, 6], [0, 1, 2, 3, 4, 5, 6, 7], [0, 1, 2, 3, 4, 5, 6, 7, 8], [0, 1, 2, 3, 4, 5, 6, 7, 8, 9], [0, 1, 2, 3, 4, 5, 6, 7, 8, 9, 10], [0, 1, 2, 3, 4, 5, 6, 7, 8, 9, 10, 11], [0, 1, 2, 3, 4, 5, 6, 7, 8, 9, 10], [0, 1, 2, 3, 4, 5, 6, 7, 8, 9, 10, 13], [0, 1, 2, 3, 4, 5, 6, 7, 8, 9, 10, 11, 12, 13, 14], [0, 1, 2, 3, 4, 5, 6, 7, 8, 9, 10, 11, 12, 13, 14, 15], [0, 1, 2, 3, 4, 5, 6, 7, 8, 9, 10, 11, 12, 13, 14, 15, 16], [0, 1, 2, 3, 4, 5, 6, 7, 8, 9, 10, 11, 12, 13, 14, 15, 16, 17], [0, 1, 2, 3, 4, 5, 6, 7, 8, 9, 10, 11, 12, 13, 14, 15, 16, 17, 18], [0, 1, 2, 3, 4, 5, 6, 7, 8, 9, 10, 11, 12, 13, 14, 15, 16, 17], [0, 1, 2, 3, 4, 5, 6, 7, 8, 9, 10, 11, 12, 13, 14, 15, 16, 17, 20], [0, 1, 2, 3, 4, 5, 6, 7, 8, 9, 10, 11, 12, 13, 14, 15, 16, 17, 18, 19, 20, 21], [0, 1, 2, 3, 4, 5, 6, 7, 8, 9, 10, 11, 12, 13, 14, 15, 16, 17, 18, 19, 20, 21, 22], [0, 1, 2, 3, 4, 5, 6, 7, 8, 9, 10, 11, 12, 13, 14, 15, 16, 17, 18, 19, 20, 21, 22, 23], [0, 1, 2, 3, 4, 5, 6, 7, 8, 9, 10, 11, 12, 13, 14, 15, 16, 17, 18, 19, 20, 21, 22, 23, 24], [0, 1, 2, 3, 4, 5, 6, 7, 8, 9, 10, 11, 12, 13, 14, 15, 16, 17, 18, 19, 20, 21, 22, 23, 24, 25], [0, 1, 2, 3, 4, 5, 6, 7, 8, 9, 10, 11, 12, 13, 14, 15, 16, 17, 18, 19, 20, 21, 22, 23, 24, 25, 26], [0, 1, 2, 3, 4, 5, 6, 7, 8, 9, 10, 11, 12, 13, 14, 15, 16, 17, 18, 19, 20, 21, 22, 23, 24], [0, 1, 2, 3, 4, 5, 6, 7, 8, 9, 10, 11, 12, 13, 14, 15, 16, 17, 18, 19, 20, 21, 22, 23, 24, 28], [0, 1, 2, 3, 4, 5, 6, 7, 8, 9, 10, 11, 12, 13, 14, 15, 16, 17, 18, 19, 20, 21, 22, 23, 24, 25, 26, 28, 29], [0, 1, 2, 3, 4, 5, 6, 7, 8, 9, 10, 11, 12, 13, 14, 15, 16, 17, 18, 19, 20, 21, 22, 23, 24, 25, 26, 28, 29, 30], [0, 1, 2, 3, 4, 5, 6, 7, 8, 9, 10, 11, 12, 13, 14, 15, 16, 17, 18, 19, 20, 21, 22, 23, 24, 25, 26, 27, 28, 29, 30, 31]] [(34, true), (35, true), (36, false), (37, true), (38, true)] rfl rfl mix (by kernel_rfl) ?_
          refine J.s_op rfl (fun _ => Yd.move rfl) rfl ?_
          refine J.s_nil ?_
          refine J.a_in [0, 1, 2, 3, 4, 5, 6, 7, 8, 9, 10, 11, 12, 13, 14, 15, 16, 17, 18, 19, 20, 21, 22, 23, 24, 25, 26, 27, 28, 29, 30, 31, 32] rfl (by rfl) ⟨?_, ?_, ?_, ?_, ?_, ?_, ?_, ?_, ?_, ?_, ?_, ?_, ?_, ?_, ?_, ?_, ?_, ?_, ?_, ?_, ?_, ?_, ?_, ?_, ?_, ?_, ?_, ?_, ?_, ?_, ?_, ?_, ?_, trivial⟩ ?_
          · skip
            intro w14 x1
            have xs1 := x1.size
            have e0 := e0.trans x1
            have c9_8 := c9_8.ext x1
            have hs := hs.ext x1
            have o65_12 := o65_12.ext x1
            have os66_13 := os66_13.ext x1
            clear x1
            refine PremP.nil ?_
            exact OpYe.val rfl (Yd.len_b Try.underlying25 rfl (Ow.rd os66_13))
          · skip
            intro w15 x1
            refine PremP.v rfl ?_
            have xs1 := x1.size
            have e0 := e0.trans x1
            have c9_8 := c9_8.ext x1
            have hs := hs.ext x1
            have o65_12 := o65_12.ext x1
            have os66_13 := os66_13.ext x1
            clear x1
            refine PremP.nil ?_
            exact OpYe.val rfl (Yd.eql rfl rfl)
          · skip
            intro w16 x1
            refine PremP.v rfl ?_
            refine PremP.v rfl ?_
            have xs1 := x1.size
            have e0 := e0.trans x1
            have c9_8 := c9_8.ext x1
            have hs := hs.ext x1
            have o65_12 := o65_12.ext x1
            have os66_13 := os66_13.ext x1
            clear x1
            refine PremP.nil ?_
            exact OpYe.val rfl (Yd.move (congrArg some (show Value.bool (decide (((sha256L ([l] : List (List UInt8)).flatten).length : Int) = 32)) = .bool true from tt (by rw [sha256L_len]; rfl))))
          · skip
            intro w17 x1
            refine PremP.v rfl ?_
            refine PremP.v rfl ?_
            refine PremP.v rfl ?_
            have xs1 := x1.size
            have e0 := e0.trans x1
            have c9_8 := c9_8.ext x1
            have hs := hs.ext x1
            have o65_12 := o65_12.ext x1
            have os66_13 := os66_13.ext x1
            clear x1
            refine PremP.nil ?_
            exact OpYe.valg rfl rfl rfl rfl (Yd.move rfl)
          · skip
            intro w18 x1
            refine PremP.v rfl ?_
            refine PremP.v rfl ?_
            refine PremP.v rfl ?_
            refine PremP.v rfl ?_
            have xs1 := x1.size
            have e0 := e0.trans x1
            have c9_8 := c9_8.ext x1
            have hs := hs.ext x1
            have o65_12 := o65_12.ext x1
            have os66_13 := os66_13.ext x1
            clear x1
            refine PremP.nil ?_
            exact OpYe.mkg rfl rfl rfl rfl ((Ye.call cl10 rfl (Sum256_ok (Rl.ext hlc e0) (by first | omega | (simp only [List.length_append, List.flatten_cons, List.flatten_nil, List.append_nil, Int.toNat_natCast]; omega) | (simp <;> omega)))).mono fun v w2 h => ⟨⟨v, rfl, Ow.base h.1 xs1⟩, h.2⟩)
          · skip
            intro w19 x1
            refine PremP.v rfl ?_
            refine PremP.v rfl ?_
            refine PremP.v rfl ?_
            refine PremP.v rfl ?_
            refine PremP.own rfl fun s72_19 o72_19 => ?_
            have o72_19b := o72_19
            have ap_b9_8_s72_19 : Ap (some b9_8) s72_19.ownBlock := Ap.mk (Cel.live c9_8) (Ow.fr o72_19)
            have ap_s1_s72_19 : Ap s1.ownBlock s72_19.ownBlock := Ap.mk (Ow.live hs) (Ow.fr o72_19)
            have ap_s66_13_s72_19 : Ap s66_13.ownBlock s72_19.ownBlock := Ap.mk (Ow.live os66_13) (Ow.fr o72_19)
            have fr_s72_19 : Fr w.heap.size s72_19.ownBlock := Fr.le (Ow.fr o72_19) e0.size
            replace o72_19 := Ow.base o72_19 e0.size
            have xs1 := x1.size
            have e0 := e0.trans x1
            have c9_8 := c9_8.ext x1
            have hs := hs.ext x1
            have o65_12 := o65_12.ext x1
            have os66_13 := os66_13.ext x1
            clear x1
            refine PremP.nil ?_
            exact OpYe.valg rfl rfl rfl rfl (Yd.bstr Try.underlying25 Try.underlying5 Try.underlying9 rfl (Ow.rd o72_19))
          · skip
            intro w20 x1
            refine PremP.v rfl ?_
            refine PremP.v rfl ?_
            refine PremP.v rfl ?_
            have xs1 := x1.size
            have e0 := e0.trans x1
            have c9_8 := c9_8.ext x1
            have hs := hs.ext x1
            have o65_12 := o65_12.ext x1
            have os66_13 := os66_13.ext x1
            clear x1
            refine PremP.nil ?_
            exact OpYe.valg rfl rfl rfl rfl (Yd.move rfl)
          · skip
            intro w21 x1
            refine PremP.v rfl ?_
            refine PremP.v rfl ?_
            refine PremP.v rfl ?_
            refine PremP.v rfl ?_
            have xs1 := x1.size
            have e0 := e0.trans x1
            have c9_8 := c9_8.ext x1
            have hs := hs.ext x1
            have o65_12 := o65_12.ext x1
            have os66_13 := os66_13.ext x1
            clear x1
            refine PremP.nil ?_
            exact OpYe.valg rfl rfl rfl rfl (Yd.bstr Try.underlying25 Try.underlying5 Try.underlying9 rfl (Ow.rd os66_13))
          · skip
            intro w22 x1
            refine PremP.v rfl ?_
            refine PremP.v rfl ?_
            refine PremP.v rfl ?_
            refine PremP.v rfl ?_
            refine PremP.own rfl fun s72_22 o72_22 => ?_
            have o72_22b := o72_22
            have ap_b9_8_s72_22 : Ap (some b9_8) s72_22.ownBlock := Ap.mk (Cel.live c9_8) (Ow.fr o72_22)
            have ap_s1_s72_22 : Ap s1.ownBlock s72_22.ownBlock := Ap.mk (Ow.live hs) (Ow.fr o72_22)
            have ap_s66_13_s72_22 : Ap s66_13.ownBlock s72_22.ownBlock := Ap.mk (Ow.live os66_13) (Ow.fr o72_22)
            have fr_s72_22 : Fr w.heap.size s72_22.ownBlock := Fr.le (Ow.fr o72_22) e0.size
            replace o72_22 := Ow.base o72_22 e0.size
            refine PremP.v rfl ?_
            refine PremP.v rfl ?_
            refine PremP.v rfl ?_
            have xs1 := x1.size
            have e0 := e0.trans x1
            have c9_8 := c9_8.ext x1
            have hs := hs.ext x1
            have o65_12 := o65_12.ext x1
            have os66_13 := os66_13.ext x1
            clear x1
            refine PremP.nil ?_
            exact OpYe.valg rfl rfl rfl rfl (Yd.seq rfl rfl)
          · skip
            intro w23 x1
            refine PremP.v rfl ?_
            refine PremP.v rfl ?_
            refine PremP.v rfl ?_
            refine PremP.v rfl ?_
            refine PremP.own rfl fun s72_23 o72_23 => ?_
            have o72_23b := o72_23
            have ap_b9_8_s72_23 : Ap (some b9_8) s72_23.ownBlock := Ap.mk (Cel.live c9_8) (Ow.fr o72_23)
            have ap_s1_s72_23 : Ap s1.ownBlock s72_23.ownBlock := Ap.mk (Ow.live hs) (Ow.fr o72_23)
            have ap_s66_13_s72_23 : Ap s66_13.ownBlock s72_23.ownBlock := Ap.mk (Ow.live os66_13) (Ow.fr o72_23)
            have fr_s72_23 : Fr w.heap.size s72_23.ownBlock := Fr.le (Ow.fr o72_23) e0.size
            replace o72_23 := Ow.base o72_23 e0.size
            refine PremP.v rfl ?_
            refine PremP.v rfl ?_
            refine PremP.v rfl ?_
            refine PremP.v rfl ?_
            have xs1 := x1.size
            have e0 := e0.trans x1
            have c9_8 := c9_8.ext x1
            have hs := hs.ext x1
            have o65_12 := o65_12.ext x1
            have os66_13 := os66_13.ext x1
            clear x1
            refine PremP.nil ?_
            exact OpYe.val rfl (Yd.pick_t rfl rfl)
          · skip
            intro w24 x1
            refine PremP.v rfl ?_
            refine PremP.v rfl ?_
            refine PremP.v rfl ?_
            refine PremP.v rfl ?_
            refine PremP.own rfl fun s72_24 o72_24 => ?_
            have o72_24b := o72_24
            have ap_b9_8_s72_24 : Ap (some b9_8) s72_24.ownBlock := Ap.mk (Cel.live c9_8) (Ow.fr o72_24)
            have ap_s1_s72_24 : Ap s1.ownBlock s72_24.ownBlock := Ap.mk (Ow.live hs) (Ow.fr o72_24)
            have ap_s66_13_s72_24 : Ap s66_13.ownBlock s72_24.ownBlock := Ap.mk (Ow.live os66_13) (Ow.fr o72_24)
            have fr_s72_24 : Fr w.heap.size s72_24.ownBlock := Fr.le (Ow.fr o72_24) e0.size
            replace o72_24 := Ow.base o72_24 e0.size
            refine PremP.v rfl ?_
            refine PremP.v rfl ?_
            refine PremP.v rfl ?_
            refine PremP.v rfl ?_
            refine PremP.v rfl ?_
            have xs1 := x1.size
            have e0 := e0.trans x1
            have c9_8 := c9_8.ext x1
            have hs := hs.ext x1
            have o65_12 := o65_12.ext x1
            have os66_13 := os66_13.ext x1
            clear x1
            refine PremP.nil ?_
            exact OpYe.val rfl (Yd.move (congrArg some (show Value.bool (decide ((sha256L ll.flatten) = (sha256L ([l] : List (List UInt8)).flatten))) = .bool true from tt (by rw [hall]; simp))))
          · skip
            intro w25 x1
            refine PremP.v rfl ?_
            refine PremP.v rfl ?_
            refine PremP.v rfl ?_
            refine PremP.v rfl ?_
            refine PremP.own rfl fun s72_25 o72_25 => ?_
            have o72_25b := o72_25
            have ap_b9_8_s72_25 : Ap (some b9_8) s72_25.ownBlock := Ap.mk (Cel.live c9_8) (Ow.fr o72_25)
            have ap_s1_s72_25 : Ap s1.ownBlock s72_25.ownBlock := Ap.mk (Ow.live hs) (Ow.fr o72_25)
            have ap_s66_13_s72_25 : Ap s66_13.ownBlock s72_25.ownBlock := Ap.mk (Ow.live os66_13) (Ow.fr o72_25)
            have fr_s72_25 : Fr w.heap.size s72_25.ownBlock := Fr.le (Ow.fr o72_25) e0.size
            replace o72_25 := Ow.base o72_25 e0.size
            refine PremP.v rfl ?_
            refine PremP.v rfl ?_
            refine PremP.v rfl ?_
            refine PremP.v rfl ?_
            refine PremP.v rfl ?_
            refine PremP.v rfl ?_
            have xs1 := x1.size
            have e0 := e0.trans x1
            have c9_8 := c9_8.ext x1
            have hs := hs.ext x1
            have o65_12 := o65_12.ext x1
            have os66_13 := os66_13.ext x1
            clear x1
            refine PremP.nil ?_
            exact OpYe.mkg rfl rfl rfl rfl ((Ye.call cl16 rfl (HSum_ok c9_8 (Ow.base hs (Nat.zero_le _)) (by first | omega | (simp only [List.length_append, List.flatten_cons, List.flatten_nil, List.append_nil, Int.toNat_natCast]; omega) | (simp <;> omega)))).mono fun v w2 h => ⟨⟨v, rfl, Ow.base h.1 xs1⟩, h.2⟩)
          · skip
            intro w26 x1
            refine PremP.v rfl ?_
            refine PremP.v rfl ?_
            refine PremP.v rfl ?_
            refine PremP.v rfl ?_
            refine PremP.own rfl fun s72_26 o72_26 => ?_
            have o72_26b := o72_26
            have ap_b9_8_s72_26 : Ap (some b9_8) s72_26.ownBlock := Ap.mk (Cel.live c9_8) (Ow.fr o72_26)
            have ap_s1_s72_26 : Ap s1.ownBlock s72_26.ownBlock := Ap.mk (Ow.live hs) (Ow.fr o72_26)
            have ap_s66_13_s72_26 : Ap s66_13.ownBlock s72_26.ownBlock := Ap.mk (Ow.live os66_13) (Ow.fr o72_26)
            have fr_s72_26 : Fr w.heap.size s72_26.ownBlock := Fr.le (Ow.fr o72_26) e0.size
            replace o72_26 := Ow.base o72_26 e0.size
            refine PremP.v rfl ?_
            refine PremP.v rfl ?_
            refine PremP.v rfl ?_
            refine PremP.v rfl ?_
            refine PremP.v rfl ?_
            refine PremP.v rfl ?_
            refine PremP.own rfl fun s79_26 o79_26 => ?_
            have o79_26b := o79_26
            have ap_b9_8_s79_26 : Ap (some b9_8) s79_26.ownBlock := Ap.mk (Cel.live c9_8) (Ow.fr o79_26)
            have ap_s1_s79_26 : Ap s1.ownBlock s79_26.ownBlock := Ap.mk (Ow.live hs) (Ow.fr o79_26)
            have ap_s66_13_s79_26 : Ap s66_13.ownBlock s79_26.ownBlock := Ap.mk (Ow.live os66_13) (Ow.fr o79_26)
            have fr_s79_26 : Fr w.heap.size s79_26.ownBlock := Fr.le (Ow.fr o79_26) e0.size
            replace o79_26 := Ow.base o79_26 e0.size
            have xs1 := x1.size
            have e0 := e0.trans x1
            have c9_8 := c9_8.ext x1
            have hs := hs.ext x1
            have o65_12 := o65_12.ext x1
            have os66_13 := os66_13.ext x1
            clear x1
            refine PremP.nil ?_
            exact OpYe.valg rfl rfl rfl rfl (Yd.bstr Try.underlying25 Try.underlying5 Try.underlying9 rfl (Ow.rd o79_26))
          · skip
            intro w27 x1
            refine PremP.v rfl ?_
            refine PremP.v rfl ?_
            refine PremP.v rfl ?_
            refine PremP.v rfl ?_
            refine PremP.own rfl fun s72_27 o72_27 => ?_
            have o72_27b := o72_27
            have ap_b9_8_s72_27 : Ap (some b9_8) s72_27.ownBlock := Ap.mk (Cel.live c9_8) (Ow.fr o72_27)
            have ap_s1_s72_27 : Ap s1.ownBlock s72_27.ownBlock := Ap.mk (Ow.live hs) (Ow.fr o72_27)
            have ap_s66_13_s72_27 : Ap s66_13.ownBlock s72_27.ownBlock := Ap.mk (Ow.live os66_13) (Ow.fr o72_27)
            have fr_s72_27 : Fr w.heap.size s72_27.ownBlock := Fr.le (Ow.fr o72_27) e0.size
            replace o72_27 := Ow.base o72_27 e0.size
            refine PremP.v rfl ?_
            refine PremP.v rfl ?_
            refine PremP.v rfl ?_
            refine PremP.v rfl ?_
            refine PremP.v rfl ?_
            refine PremP.v rfl ?_
            have xs1 := x1.size
            have e0 := e0.trans x1
            have c9_8 := c9_8.ext x1
            have hs := hs.ext x1
            have o65_12 := o65_12.ext x1
            have os66_13 := os66_13.ext x1
            clear x1
            refine PremP.nil ?_
            exact OpYe.valg rfl rfl rfl rfl (Yd.move rfl)
          · skip
            intro w28 x1
            refine PremP.v rfl ?_
            refine PremP.v rfl ?_
            refine PremP.v rfl ?_
            refine PremP.v rfl ?_
            refine PremP.own rfl fun s72_28 o72_28 => ?_
            have o72_28b := o72_28
            have ap_b9_8_s72_28 : Ap (some b9_8) s72_28.ownBlock := Ap.mk (Cel.live c9_8) (Ow.fr o72_28)
            have ap_s1_s72_28 : Ap s1.ownBlock s72_28.ownBlock := Ap.mk (Ow.live hs) (Ow.fr o72_28)
            have ap_s66_13_s72_28 : Ap s66_13.ownBlock s72_28.ownBlock := Ap.mk (Ow.live os66_13) (Ow.fr o72_28)
            have fr_s72_28 : Fr w.heap.size s72_28.ownBlock := Fr.le (Ow.fr o72_28) e0.size
            replace o72_28 := Ow.base o72_28 e0.size
            refine PremP.v rfl ?_
            refine PremP.v rfl ?_
            refine PremP.v rfl ?_
            refine PremP.v rfl ?_
            refine PremP.v rfl ?_
            refine PremP.v rfl ?_
            refine PremP.v rfl ?_
            have xs1 := x1.size
            have e0 := e0.trans x1
            have c9_8 := c9_8.ext x1
            have hs := hs.ext x1
            have o65_12 := o65_12.ext x1
            have os66_13 := os66_13.ext x1
            clear x1
            refine PremP.nil ?_
            exact OpYe.valg rfl rfl rfl rfl (Yd.bstr Try.underlying25 Try.underlying5 Try.underlying9 rfl (Ow.rd os66_13))
          · skip
            intro w29 x1
            refine PremP.v rfl ?_
            refine PremP.v rfl ?_
            refine PremP.v rfl ?_
            refine PremP.v rfl ?_
            refine PremP.own rfl fun s72_29 o72_29 => ?_
            have o72_29b := o72_29
            have ap_b9_8_s72_29 : Ap (some b9_8) s72_29.ownBlock := Ap.mk (Cel.live c9_8) (Ow.fr o72_29)
            have ap_s1_s72_29 : Ap s1.ownBlock s72_29.ownBlock := Ap.mk (Ow.live hs) (Ow.fr o72_29)
            have ap_s66_13_s72_29 : Ap s66_13.ownBlock s72_29.ownBlock := Ap.mk (Ow.live os66_13) (Ow.fr o72_29)
            have fr_s72_29 : Fr w.heap.size s72_29.ownBlock := Fr.le (Ow.fr o72_29) e0.size
            replace o72_29 := Ow.base o72_29 e0.size
            refine PremP.v rfl ?_
            refine PremP.v rfl ?_
            refine PremP.v rfl ?_
            refine PremP.v rfl ?_
            refine PremP.v rfl ?_
            refine PremP.v rfl ?_
            refine PremP.own rfl fun s79_29 o79_29 => ?_
            have o79_29b := o79_29
            have ap_b9_8_s79_29 : Ap (some b9_8) s79_29.ownBlock := Ap.mk (Cel.live c9_8) (Ow.fr o79_29)
            have ap_s1_s79_29 : Ap s1.ownBlock s79_29.ownBlock := Ap.mk (Ow.live hs) (Ow.fr o79_29)
            have ap_s66_13_s79_29 : Ap s66_13.ownBlock s79_29.ownBlock := Ap.mk (Ow.live os66_13) (Ow.fr o79_29)
            have fr_s79_29 : Fr w.heap.size s79_29.ownBlock := Fr.le (Ow.fr o79_29) e0.size
            replace o79_29 := Ow.base o79_29 e0.size
            refine PremP.v rfl ?_
            refine PremP.v rfl ?_
            refine PremP.v rfl ?_
            have xs1 := x1.size
            have e0 := e0.trans x1
            have c9_8 := c9_8.ext x1
            have hs := hs.ext x1
            have o65_12 := o65_12.ext x1
            have os66_13 := os66_13.ext x1
            clear x1
            refine PremP.nil ?_
            exact OpYe.valg rfl rfl rfl rfl (Yd.seq rfl rfl)
          · skip
            intro w30 x1
            refine PremP.v rfl ?_
            refine PremP.v rfl ?_
            refine PremP.v rfl ?_
            refine PremP.v rfl ?_
            refine PremP.own rfl fun s72_30 o72_30 => ?_
            have o72_30b := o72_30
            have ap_b9_8_s72_30 : Ap (some b9_8) s72_30.ownBlock := Ap.mk (Cel.live c9_8) (Ow.fr o72_30)
            have ap_s1_s72_30 : Ap s1.ownBlock s72_30.ownBlock := Ap.mk (Ow.live hs) (Ow.fr o72_30)
            have ap_s66_13_s72_30 : Ap s66_13.ownBlock s72_30.ownBlock := Ap.mk (Ow.live os66_13) (Ow.fr o72_30)
            have fr_s72_30 : Fr w.heap.size s72_30.ownBlock := Fr.le (Ow.fr o72_30) e0.size
            replace o72_30 := Ow.base o72_30 e0.size
            refine PremP.v rfl ?_
            refine PremP.v rfl ?_
            refine PremP.v rfl ?_
            refine PremP.v rfl ?_
            refine PremP.v rfl ?_
            refine PremP.v rfl ?_
            refine PremP.own rfl fun s79_30 o79_30 => ?_
            have o79_30b := o79_30
            have ap_b9_8_s79_30 : Ap (some b9_8) s79_30.ownBlock := Ap.mk (Cel.live c9_8) (Ow.fr o79_30)
            have ap_s1_s79_30 : Ap s1.ownBlock s79_30.ownBlock := Ap.mk (Ow.live hs) (Ow.fr o79_30)
            have ap_s66_13_s79_30 : Ap s66_13.ownBlock s79_30.ownBlock := Ap.mk (Ow.live os66_13) (Ow.fr o79_30)
            have fr_s79_30 : Fr w.heap.size s79_30.ownBlock := Fr.le (Ow.fr o79_30) e0.size
            replace o79_30 := Ow.base o79_30 e0.size
            refine PremP.v rfl ?_
            refine PremP.v rfl ?_
            refine PremP.v rfl ?_
            refine PremP.v rfl ?_
            have xs1 := x1.size
            have e0 := e0.trans x1
            have c9_8 := c9_8.ext x1
            have hs := hs.ext x1
            have o65_12 := o65_12.ext x1
            have os66_13 := os66_13.ext x1
            clear x1
            refine PremP.nil ?_
            exact OpYe.val rfl (Yd.pick_t rfl rfl)
          · skip
            intro w31 x1
            refine PremP.v rfl ?_
            refine PremP.v rfl ?_
            refine PremP.v rfl ?_
            refine PremP.v rfl ?_
            refine PremP.own rfl fun s72_31 o72_31 => ?_
            have o72_31b := o72_31
            have ap_b9_8_s72_31 : Ap (some b9_8) s72_31.ownBlock := Ap.mk (Cel.live c9_8) (Ow.fr o72_31)
            have ap_s1_s72_31 : Ap s1.ownBlock s72_31.ownBlock := Ap.mk (Ow.live hs) (Ow.fr o72_31)
            have ap_s66_13_s72_31 : Ap s66_13.ownBlock s72_31.ownBlock := Ap.mk (Ow.live os66_13) (Ow.fr o72_31)
            have fr_s72_31 : Fr w.heap.size s72_31.ownBlock := Fr.le (Ow.fr o72_31) e0.size
            replace o72_31 := Ow.base o72_31 e0.size
            refine PremP.v rfl ?_
            refine PremP.v rfl ?_
            refine PremP.v rfl ?_
            refine PremP.v rfl ?_
            refine PremP.v rfl ?_
            refine PremP.v rfl ?_
            refine PremP.own rfl fun s79_31 o79_31 => ?_
            have o79_31b := o79_31
            have ap_b9_8_s79_31 : Ap (some b9_8) s79_31.ownBlock := Ap.mk (Cel.live c9_8) (Ow.fr o79_31)
            have ap_s1_s79_31 : Ap s1.ownBlock s79_31.ownBlock := Ap.mk (Ow.live hs) (Ow.fr o79_31)
            have ap_s66_13_s79_31 : Ap s66_13.ownBlock s79_31.ownBlock := Ap.mk (Ow.live os66_13) (Ow.fr o79_31)
            have fr_s79_31 : Fr w.heap.size s79_31.ownBlock := Fr.le (Ow.fr o79_31) e0.size
            replace o79_31 := Ow.base o79_31 e0.size
            refine PremP.v rfl ?_
            refine PremP.v rfl ?_
            refine PremP.v rfl ?_
            refine PremP.v rfl ?_
            refine PremP.v rfl ?_
            have xs1 := x1.size
            have e0 := e0.trans x1
            have c9_8 := c9_8.ext x1
            have hs := hs.ext x1
            have o65_12 := o65_12.ext x1
            have os66_13 := os66_13.ext x1
            clear x1
            refine PremP.nil ?_
            exact OpYe.val rfl (Yd.move (congrArg some (show Value.bool (decide ((sha256L (ll.take k).flatten) = (sha256L ([l] : List (List UInt8)).flatten))) = .bool true from tt (by rw [List.take_of_length_le (by omega), hall]; simp))))
          · skip
            intro w32 x1
            refine PremP.v rfl ?_
            refine PremP.v rfl ?_
            refine PremP.v rfl ?_
            refine PremP.v rfl ?_
            refine PremP.own rfl fun s72_32 o72_32 => ?_
            have o72_32b := o72_32
            have ap_b9_8_s72_32 : Ap (some b9_8) s72_32.ownBlock := Ap.mk (Cel.live c9_8) (Ow.fr o72_32)
            have ap_s1_s72_32 : Ap s1.ownBlock s72_32.ownBlock := Ap.mk (Ow.live hs) (Ow.fr o72_32)
            have ap_s66_13_s72_32 : Ap s66_13.ownBlock s72_32.ownBlock := Ap.mk (Ow.live os66_13) (Ow.fr o72_32)
            have fr_s72_32 : Fr w.heap.size s72_32.ownBlock := Fr.le (Ow.fr o72_32) e0.size
            replace o72_32 := Ow.base o72_32 e0.size
            refine PremP.v rfl ?_
            refine PremP.v rfl ?_
            refine PremP.v rfl ?_
            refine PremP.v rfl ?_
            refine PremP.v rfl ?_
            refine PremP.v rfl ?_
            refine PremP.own rfl fun s79_32 o79_32 => ?_
            have o79_32b := o79_32
            have ap_b9_8_s79_32 : Ap (some b9_8) s79_32.ownBlock := Ap.mk (Cel.live c9_8) (Ow.fr o79_32)
            have ap_s1_s79_32 : Ap s1.ownBlock s79_32.ownBlock := Ap.mk (Ow.live hs) (Ow.fr o79_32)
            have ap_s66_13_s79_32 : Ap s66_13.ownBlock s79_32.ownBlock := Ap.mk (Ow.live os66_13) (Ow.fr o79_32)
            have fr_s79_32 : Fr w.heap.size s79_32.ownBlock := Fr.le (Ow.fr o79_32) e0.size
            replace o79_32 := Ow.base o79_32 e0.size
            refine PremP.v rfl ?_
            refine PremP.v rfl ?_
            refine PremP.v rfl ?_
            refine PremP.v rfl ?_
            refine PremP.v rfl ?_
            refine PremP.v rfl ?_
            have xs1 := x1.size
            have e0 := e0.trans x1
            have c9_8 := c9_8.ext x1
            have hs := hs.ext x1
            have o65_12 := o65_12.ext x1
            have os66_13 := os66_13.ext x1
            clear x1
            refine PremP.nil ?_
            exact OpYe.mkg rfl rfl rfl rfl ((Ye.call cl16 rfl (HSum_ok c9_8 (Ow.base hs (Nat.zero_le _)) (by first | omega | (simp only [List.length_append, List.flatten_cons, List.flatten_nil, List.append_nil, Int.toNat_natCast]; omega) | (simp <;> omega)))).mono fun v w2 h => ⟨⟨v, rfl, Ow.base h.1 xs1⟩, h.2⟩)
          · skip
            intro w33 x1
            refine PremP.v rfl ?_
            refine PremP.v rfl ?_
            refine PremP.v rfl ?_
            refine PremP.v rfl ?_
            refine PremP.own rfl fun s72_33 o72_33 => ?_
            have o72_33b := o72_33
            have ap_b9_8_s72_33 : Ap (some b9_8) s72_33.ownBlock := Ap.mk (Cel.live c9_8) (Ow.fr o72_33)
            have ap_s1_s72_33 : Ap s1.ownBlock s72_33.ownBlock := Ap.mk (Ow.live hs) (Ow.fr o72_33)
            have ap_s66_13_s72_33 : Ap s66_13.ownBlock s72_33.ownBlock := Ap.mk (Ow.live os66_13) (Ow.fr o72_33)
            have fr_s72_33 : Fr w.heap.size s72_33.ownBlock := Fr.le (Ow.fr o72_33) e0.size
            replace o72_33 := Ow.base o72_33 e0.size
            refine PremP.v rfl ?_
            refine PremP.v rfl ?_
            refine PremP.v rfl ?_
            refine PremP.v rfl ?_
            refine PremP.v rfl ?_
            refine PremP.v rfl ?_
            refine PremP.own rfl fun s79_33 o79_33 => ?_
            have o79_33b := o79_33
            have ap_b9_8_s79_33 : Ap (some b9_8) s79_33.ownBlock := Ap.mk (Cel.live c9_8) (Ow.fr o79_33)
            have ap_s1_s79_33 : Ap s1.ownBlock s79_33.ownBlock := Ap.mk (Ow.live hs) (Ow.fr o79_33)
            have ap_s66_13_s79_33 : Ap s66_13.ownBlock s79_33.ownBlock := Ap.mk (Ow.live os66_13) (Ow.fr o79_33)
            have fr_s79_33 : Fr w.heap.size s79_33.ownBlock := Fr.le (Ow.fr o79_33) e0.size
            replace o79_33 := Ow.base o79_33 e0.size
            refine PremP.v rfl ?_
            refine PremP.v rfl ?_
            refine PremP.v rfl ?_
            refine PremP.v rfl ?_
            refine PremP.v rfl ?_
            refine PremP.v rfl ?_
            refine PremP.own rfl fun s86_33 o86_33 => ?_
            have o86_33b := o86_33
            have ap_b9_8_s86_33 : Ap (some b9_8) s86_33.ownBlock := Ap.mk (Cel.live c9_8) (Ow.fr o86_33)
            have ap_s1_s86_33 : Ap s1.ownBlock s86_33.ownBlock := Ap.mk (Ow.live hs) (Ow.fr o86_33)
            have ap_s66_13_s86_33 : Ap s66_13.ownBlock s86_33.ownBlock := Ap.mk (Ow.live os66_13) (Ow.fr o86_33)
            have fr_s86_33 : Fr w.heap.size s86_33.ownBlock := Fr.le (Ow.fr o86_33) e0.size
            replace o86_33 := Ow.base o86_33 e0.size
            have xs1 := x1.size
            have e0 := e0.trans x1
            have c9_8 := c9_8.ext x1
            have hs := hs.ext x1
            have o65_12 := o65_12.ext x1
            have os66_13 := os66_13.ext x1
            clear x1
            refine PremP.nil ?_
            exact OpYe.valg rfl rfl rfl rfl (Yd.bstr Try.underlying25 Try.underlying5 Try.underlying9 rfl (Ow.rd o86_33))
          · skip
            intro w34 x1
            refine PremP.v rfl ?_
            refine PremP.v rfl ?_
            refine PremP.v rfl ?_
            refine PremP.v rfl ?_
            refine PremP.own rfl fun s72_34 o72_34 => ?_
            have o72_34b := o72_34
            have ap_b9_8_s72_34 : Ap (some b9_8) s72_34.ownBlock := Ap.mk (Cel.live c9_8) (Ow.fr o72_34)
            have ap_s1_s72_34 : Ap s1.ownBlock s72_34.ownBlock := Ap.mk (Ow.live hs) (Ow.fr o72_34)
            have ap_s66_13_s72_34 : Ap s66_13.ownBlock s72_34.ownBlock := Ap.mk (Ow.live os66_13) (Ow.fr o72_34)
            have fr_s72_34 : Fr w.heap.size s72_34.ownBlock := Fr.le (Ow.fr o72_34) e0.size
            replace o72_34 := Ow.base o72_34 e0.size
            refine PremP.v rfl ?_
            refine PremP.v rfl ?_
            refine PremP.v rfl ?_
            refine PremP.v rfl ?_
            refine PremP.v rfl ?_
            refine PremP.v rfl ?_
            refine PremP.own rfl fun s79_34 o79_34 => ?_
            have o79_34b := o79_34
            have ap_b9_8_s79_34 : Ap (some b9_8) s79_34.ownBlock := Ap.mk (Cel.live c9_8) (Ow.fr o79_34)
            have ap_s1_s79_34 : Ap s1.ownBlock s79_34.ownBlock := Ap.mk (Ow.live hs) (Ow.fr o79_34)
            have ap_s66_13_s79_34 : Ap s66_13.ownBlock s79_34.ownBlock := Ap.mk (Ow.live os66_13) (Ow.fr o79_34)
            have fr_s79_34 : Fr w.heap.size s79_34.ownBlock := Fr.le (Ow.fr o79_34) e0.size
            replace o79_34 := Ow.base o79_34 e0.size
            refine PremP.v rfl ?_
            refine PremP.v rfl ?_
            refine PremP.v rfl ?_
            refine PremP.v rfl ?_
            refine PremP.v rfl ?_
            refine PremP.v rfl ?_
            have xs1 := x1.size
            have e0 := e0.trans x1
            have c9_8 := c9_8.ext x1
            have hs := hs.ext x1
            have o65_12 := o65_12.ext x1
            have os66_13 := os66_13.ext x1
            clear x1
            refine PremP.nil ?_
            exact OpYe.valg rfl rfl rfl rfl (Yd.move rfl)
          · skip
            intro w35 x1
            refine PremP.v rfl ?_
            refine PremP.v rfl ?_
            refine PremP.v rfl ?_
            refine PremP.v rfl ?_
            refine PremP.own rfl fun s72_35 o72_35 => ?_
            have o72_35b := o72_35
            have ap_b9_8_s72_35 : Ap (some b9_8) s72_35.ownBlock := Ap.mk (Cel.live c9_8) (Ow.fr o72_35)
            have ap_s1_s72_35 : Ap s1.ownBlock s72_35.ownBlock := Ap.mk (Ow.live hs) (Ow.fr o72_35)
            have ap_s66_13_s72_35 : Ap s66_13.ownBlock s72_35.ownBlock := Ap.mk (Ow.live os66_13) (Ow.fr o72_35)
            have fr_s72_35 : Fr w.heap.size s72_35.ownBlock := Fr.le (Ow.fr o72_35) e0.size
            replace o72_35 := Ow.base o72_35 e0.size
            refine PremP.v rfl ?_
            refine PremP.v rfl ?_
            refine PremP.v rfl ?_
            refine PremP.v rfl ?_
            refine PremP.v rfl ?_
            refine PremP.v rfl ?_
            refine PremP.own rfl fun s79_35 o79_35 => ?_
            have o79_35b := o79_35
            have ap_b9_8_s79_35 : Ap (some b9_8) s79_35.ownBlock := Ap.mk (Cel.live c9_8) (Ow.fr o79_35)
            have ap_s1_s79_35 : Ap s1.ownBlock s79_35.ownBlock := Ap.mk (Ow.live hs) (Ow.fr o79_35)
            have ap_s66_13_s79_35 : Ap s66_13.ownBlock s79_35.ownBlock := Ap.mk (Ow.live os66_13) (Ow.fr o79_35)
            have fr_s79_35 : Fr w.heap.size s79_35.ownBlock := Fr.le (Ow.fr o79_35) e0.size
            replace o79_35 := Ow.base o79_35 e0.size
            refine PremP.v rfl ?_
            refine PremP.v rfl ?_
            refine PremP.v rfl ?_
            refine PremP.v rfl ?_
            refine PremP.v rfl ?_
            refine PremP.v rfl ?_
            refine PremP.v rfl ?_
            have xs1 := x1.size
            have e0 := e0.trans x1
            have c9_8 := c9_8.ext x1
            have hs := hs.ext x1
            have o65_12 := o65_12.ext x1
            have os66_13 := os66_13.ext x1
            clear x1
            refine PremP.nil ?_
            exact OpYe.valg rfl rfl rfl rfl (Yd.bstr Try.underlying25 Try.underlying5 Try.underlying9 rfl (Ow.rd os66_13))
          · skip
            intro w36 x1
            refine PremP.v rfl ?_
            refine PremP.v rfl ?_
            refine PremP.v rfl ?_
            refine PremP.v rfl ?_
            refine PremP.own rfl fun s72_36 o72_36 => ?_
            have o72_36b := o72_36
            have ap_b9_8_s72_36 : Ap (some b9_8) s72_36.ownBlock := Ap.mk (Cel.live c9_8) (Ow.fr o72_36)
            have ap_s1_s72_36 : Ap s1.ownBlock s72_36.ownBlock := Ap.mk (Ow.live hs) (Ow.fr o72_36)
            have ap_s66_13_s72_36 : Ap s66_13.ownBlock s72_36.ownBlock := Ap.mk (Ow.live os66_13) (Ow.fr o72_36)
            have fr_s72_36 : Fr w.heap.size s72_36.ownBlock := Fr.le (Ow.fr o72_36) e0.size
            replace o72_36 := Ow.base o72_36 e0.size
            refine PremP.v rfl ?_
            refine PremP.v rfl ?_
            refine PremP.v rfl ?_
            refine PremP.v rfl ?_
            refine PremP.v rfl ?_
            refine PremP.v rfl ?_
            refine PremP.own rfl fun s79_36 o79_36 => ?_
            have o79_36b := o79_36
            have ap_b9_8_s79_36 : Ap (some b9_8) s79_36.ownBlock := Ap.mk (Cel.live c9_8) (Ow.fr o79_36)
            have ap_s1_s79_36 : Ap s1.ownBlock s79_36.ownBlock := Ap.mk (Ow.live hs) (Ow.fr o79_36)
            have ap_s66_13_s79_36 : Ap s66_13.ownBlock s79_36.ownBlock := Ap.mk (Ow.live os66_13) (Ow.fr o79_36)
            have fr_s79_36 : Fr w.heap.size s79_36.ownBlock := Fr.le (Ow.fr o79_36) e0.size
            replace o79_36 := Ow.base o79_36 e0.size
            refine PremP.v rfl ?_
            refine PremP.v rfl ?_
            refine PremP.v rfl ?_
            refine PremP.v rfl ?_
            refine PremP.v rfl ?_
            refine PremP.v rfl ?_
            refine PremP.own rfl fun s86_36 o86_36 => ?_
            have o86_36b := o86_36
            have ap_b9_8_s86_36 : Ap (some b9_8) s86_36.ownBlock := Ap.mk (Cel.live c9_8) (Ow.fr o86_36)
            have ap_s1_s86_36 : Ap s1.ownBlock s86_36.ownBlock := Ap.mk (Ow.live hs) (Ow.fr o86_36)
            have ap_s66_13_s86_36 : Ap s66_13.ownBlock s86_36.ownBlock := Ap.mk (Ow.live os66_13) (Ow.fr o86_36)
            have fr_s86_36 : Fr w.heap.size s86_36.ownBlock := Fr.le (Ow.fr o86_36) e0.size
            replace o86_36 := Ow.base o86_36 e0.size
            refine PremP.v rfl ?_
            refine PremP.v rfl ?_
            refine PremP.v rfl ?_
            have xs1 := x1.size
            have e0 := e0.trans x1
            have c9_8 := c9_8.ext x1
            have hs := hs.ext x1
            have o65_12 := o65_12.ext x1
            have os66_13 := os66_13.ext x1
            clear x1
            refine PremP.nil ?_
            exact OpYe.valg rfl rfl rfl rfl (Yd.seq rfl rfl)
          · skip
            intro w37 x1
            refine PremP.v rfl ?_
            refine PremP.v rfl ?_
            refine PremP.v rfl ?_
            refine PremP.v rfl ?_
            refine PremP.own rfl fun s72_37 o72_37 => ?_
            have o72_37b := o72_37
            have ap_b9_8_s72_37 : Ap (some b9_8) s72_37.ownBlock := Ap.mk (Cel.live c9_8) (Ow.fr o72_37)
            have ap_s1_s72_37 : Ap s1.ownBlock s72_37.ownBlock := Ap.mk (Ow.live hs) (Ow.fr o72_37)
            have ap_s66_13_s72_37 : Ap s66_13.ownBlock s72_37.ownBlock := Ap.mk (Ow.live os66_13) (Ow.fr o72_37)
            have fr_s72_37 : Fr w.heap.size s72_37.ownBlock := Fr.le (Ow.fr o72_37) e0.size
            replace o72_37 := Ow.base o72_37 e0.size
            refine PremP.v rfl ?_
            refine PremP.v rfl ?_
            refine PremP.v rfl ?_
            refine PremP.v rfl ?_
            refine PremP.v rfl ?_
            refine PremP.v rfl ?_
            refine PremP.own rfl fun s79_37 o79_37 => ?_
            have o79_37b := o79_37
            have ap_b9_8_s79_37 : Ap (some b9_8) s79_37.ownBlock := Ap.mk (Cel.live c9_8) (Ow.fr o79_37)
            have ap_s1_s79_37 : Ap s1.ownBlock s79_37.ownBlock := Ap.mk (Ow.live hs) (Ow.fr o79_37)
            have ap_s66_13_s79_37 : Ap s66_13.ownBlock s79_37.ownBlock := Ap.mk (Ow.live os66_13) (Ow.fr o79_37)
            have fr_s79_37 : Fr w.heap.size s79_37.ownBlock := Fr.le (Ow.fr o79_37) e0.size
            replace o79_37 := Ow.base o79_37 e0.size
            refine PremP.v rfl ?_
            refine PremP.v rfl ?_
            refine PremP.v rfl ?_
            refine PremP.v rfl ?_
            refine PremP.v rfl ?_
            refine PremP.v rfl ?_
            refine PremP.own rfl fun s86_37 o86_37 => ?_
            have o86_37b := o86_37
            have ap_b9_8_s86_37 : Ap (some b9_8) s86_37.ownBlock := Ap.mk (Cel.live c9_8) (Ow.fr o86_37)
            have ap_s1_s86_37 : Ap s1.ownBlock s86_37.ownBlock := Ap.mk (Ow.live hs) (Ow.fr o86_37)
            have ap_s66_13_s86_37 : Ap s66_13.ownBlock s86_37.ownBlock := Ap.mk (Ow.live os66_13) (Ow.fr o86_37)
            have fr_s86_37 : Fr w.heap.size s86_37.ownBlock := Fr.le (Ow.fr o86_37) e0.size
            replace o86_37 := Ow.base o86_37 e0.size
            refine PremP.v rfl ?_
            refine PremP.v rfl ?_
            refine PremP.v rfl ?_
            refine PremP.v rfl ?_
            have xs1 := x1.size
            have e0 := e0.trans x1
            have c9_8 := c9_8.ext x1
            have hs := hs.ext x1
            have o65_12 := o65_12.ext x1
            have os66_13 := os66_13.ext x1
            clear x1
            refine PremP.nil ?_
            exact OpYe.val rfl (Yd.pick_t rfl rfl)
          · skip
            intro w38 x1
            refine PremP.v rfl ?_
            refine PremP.v rfl ?_
            refine PremP.v rfl ?_
            refine PremP.v rfl ?_
            refine PremP.own rfl fun s72_38 o72_38 => ?_
            have o72_38b := o72_38
            have ap_b9_8_s72_38 : Ap (some b9_8) s72_38.ownBlock := Ap.mk (Cel.live c9_8) (Ow.fr o72_38)
            have ap_s1_s72_38 : Ap s1.ownBlock s72_38.ownBlock := Ap.mk (Ow.live hs) (Ow.fr o72_38)
            have ap_s66_13_s72_38 : Ap s66_13.ownBlock s72_38.ownBlock := Ap.mk (Ow.live os66_13) (Ow.fr o72_38)
            have fr_s72_38 : Fr w.heap.size s72_38.ownBlock := Fr.le (Ow.fr o72_38) e0.size
            replace o72_38 := Ow.base o72_38 e0.size
            refine PremP.v rfl ?_
            refine PremP.v rfl ?_
            refine PremP.v rfl ?_
            refine PremP.v rfl ?_
            refine PremP.v rfl ?_
            refine PremP.v rfl ?_
            refine PremP.own rfl fun s79_38 o79_38 => ?_
            have o79_38b := o79_38
            have ap_b9_8_s79_38 : Ap (some b9_8) s79_38.ownBlock := Ap.mk (Cel.live c9_8) (Ow.fr o79_38)
            have ap_s1_s79_38 : Ap s1.ownBlock s79_38.ownBlock := Ap.mk (Ow.live hs) (Ow.fr o79_38)
            have ap_s66_13_s79_38 : Ap s66_13.ownBlock s79_38.ownBlock := Ap.mk (Ow.live os66_13) (Ow.fr o79_38)
            have fr_s79_38 : Fr w.heap.size s79_38.ownBlock := Fr.le (Ow.fr o79_38) e0.size
            replace o79_38 := Ow.base o79_38 e0.size
            refine PremP.v rfl ?_
            refine PremP.v rfl ?_
            refine PremP.v rfl ?_
            refine PremP.v rfl ?_
            refine PremP.v rfl ?_
            refine PremP.v rfl ?_
            refine PremP.own rfl fun s86_38 o86_38 => ?_
            have o86_38b := o86_38
            have ap_b9_8_s86_38 : Ap (some b9_8) s86_38.ownBlock := Ap.mk (Cel.live c9_8) (Ow.fr o86_38)
            have ap_s1_s86_38 : Ap s1.ownBlock s86_38.ownBlock := Ap.mk (Ow.live hs) (Ow.fr o86_38)
            have ap_s66_13_s86_38 : Ap s66_13.ownBlock s86_38.ownBlock := Ap.mk (Ow.live os66_13) (Ow.fr o86_38)
            have fr_s86_38 : Fr w.heap.size s86_38.ownBlock := Fr.le (Ow.fr o86_38) e0.size
            replace o86_38 := Ow.base o86_38 e0.size
            refine PremP.v rfl ?_
            refine PremP.v rfl ?_
            refine PremP.v rfl ?_
            refine PremP.v rfl ?_
            refine PremP.v rfl ?_
            have xs1 := x1.size
            have e0 := e0.trans x1
            have c9_8 := c9_8.ext x1
            have hs := hs.ext x1
            have o65_12 := o65_12.ext x1
            have os66_13 := os66_13.ext x1
            clear x1
            refine PremP.nil ?_
            exact OpYe.val rfl (Yd.move (congrArg some (show Value.bool (decide ((sha256L (ll.take k).flatten) = (sha256L ([l] : List (List UInt8)).flatten))) = .bool true from tt (by rw [List.take_of_length_le (by omega), hall]; simp))))
          · skip
            intro w39 x1
            refine PremP.v rfl ?_
            refine PremP.v rfl ?_
            refine PremP.v rfl ?_
            refine PremP.v rfl ?_
            refine PremP.own rfl fun s72_39 o72_39 => ?_
            have o72_39b := o72_39
            have ap_b9_8_s72_39 : Ap (some b9_8) s72_39.ownBlock := Ap.mk (Cel.live c9_8) (Ow.fr o72_39)
            have ap_s1_s72_39 : Ap s1.ownBlock s72_39.ownBlock := Ap.mk (Ow.live hs) (Ow.fr o72_39)
            have ap_s66_13_s72_39 : Ap s66_13.ownBlock s72_39.ownBlock := Ap.mk (Ow.live os66_13) (Ow.fr o72_39)
            have fr_s72_39 : Fr w.heap.size s72_39.ownBlock := Fr.le (Ow.fr o72_39) e0.size
            replace o72_39 := Ow.base o72_39 e0.size
            refine PremP.v rfl ?_
            refine PremP.v rfl ?_
            refine PremP.v rfl ?_
            refine PremP.v rfl ?_
            refine PremP.v rfl ?_
            refine PremP.v rfl ?_
            refine PremP.own rfl fun s79_39 o79_39 => ?_
            have o79_39b := o79_39
            have ap_b9_8_s79_39 : Ap (some b9_8) s79_39.ownBlock := Ap.mk (Cel.live c9_8) (Ow.fr o79_39)
            have ap_s1_s79_39 : Ap s1.ownBlock s79_39.ownBlock := Ap.mk (Ow.live hs) (Ow.fr o79_39)
            have ap_s66_13_s79_39 : Ap s66_13.ownBlock s79_39.ownBlock := Ap.mk (Ow.live os66_13) (Ow.fr o79_39)
            have fr_s79_39 : Fr w.heap.size s79_39.ownBlock := Fr.le (Ow.fr o79_39) e0.size
            replace o79_39 := Ow.base o79_39 e0.size
            refine PremP.v rfl ?_
            refine PremP.v rfl ?_
            refine PremP.v rfl ?_
            refine PremP.v rfl ?_
            refine PremP.v rfl ?_
            refine PremP.v rfl ?_
            refine PremP.own rfl fun s86_39 o86_39 => ?_
            have o86_39b := o86_39
            have ap_b9_8_s86_39 : Ap (some b9_8) s86_39.ownBlock := Ap.mk (Cel.live c9_8) (Ow.fr o86_39)
            have ap_s1_s86_39 : Ap s1.ownBlock s86_39.ownBlock := Ap.mk (Ow.live hs) (Ow.fr o86_39)
            have ap_s66_13_s86_39 : Ap s66_13.ownBlock s86_39.ownBlock := Ap.mk (Ow.live os66_13) (Ow.fr o86_39)
            have fr_s86_39 : Fr w.heap.size s86_39.ownBlock := Fr.le (Ow.fr o86_39) e0.size
            replace o86_39 := Ow.base o86_39 e0.size
            refine PremP.v rfl ?_
            refine PremP.v rfl ?_
            refine PremP.v rfl ?_
            refine PremP.v rfl ?_
            refine PremP.v rfl ?_
            refine PremP.v rfl ?_
            have xs1 := x1.size
            have e0 := e0.trans x1
            have c9_8 := c9_8.ext x1
            have hs := hs.ext x1
            have o65_12 := o65_12.ext x1
            have os66_13 := os66_13.ext x1
            clear x1
            refine PremP.nil ?_
            exact OpYe.valg rfl rfl rfl rfl (Yd.move rfl)
          · skip
            intro w40 x1
            refine PremP.v rfl ?_
            refine PremP.v rfl ?_
            refine PremP.v rfl ?_
            refine PremP.v rfl ?_
            refine PremP.own rfl fun s72_40 o72_40 => ?_
            have o72_40b := o72_40
            have ap_b9_8_s72_40 : Ap (some b9_8) s72_40.ownBlock := Ap.mk (Cel.live c9_8) (Ow.fr o72_40)
            have ap_s1_s72_40 : Ap s1.ownBlock s72_40.ownBlock := Ap.mk (Ow.live hs) (Ow.fr o72_40)
            have ap_s66_13_s72_40 : Ap s66_13.ownBlock s72_40.ownBlock := Ap.mk (Ow.live os66_13) (Ow.fr o72_40)
            have fr_s72_40 : Fr w.heap.size s72_40.ownBlock := Fr.le (Ow.fr o72_40) e0.size
            replace o72_40 := Ow.base o72_40 e0.size
            refine PremP.v rfl ?_
            refine PremP.v rfl ?_
            refine PremP.v rfl ?_
            refine PremP.v rfl ?_
            refine PremP.v rfl ?_
            refine PremP.v rfl ?_
            refine PremP.own rfl fun s79_40 o79_40 => ?_
            have o79_40b := o79_40
            have ap_b9_8_s79_40 : Ap (some b9_8) s79_40.ownBlock := Ap.mk (Cel.live c9_8) (Ow.fr o79_40)
            have ap_s1_s79_40 : Ap s1.ownBlock s79_40.ownBlock := Ap.mk (Ow.live hs) (Ow.fr o79_40)
            have ap_s66_13_s79_40 : Ap s66_13.ownBlock s79_40.ownBlock := Ap.mk (Ow.live os66_13) (Ow.fr o79_40)
            have fr_s79_40 : Fr w.heap.size s79_40.ownBlock := Fr.le (Ow.fr o79_40) e0.size
            replace o79_40 := Ow.base o79_40 e0.size
            refine PremP.v rfl ?_
            refine PremP.v rfl ?_
            refine PremP.v rfl ?_
            refine PremP.v rfl ?_
            refine PremP.v rfl ?_
            refine PremP.v rfl ?_
            refine PremP.own rfl fun s86_40 o86_40 => ?_
            have o86_40b := o86_40
            have ap_b9_8_s86_40 : Ap (some b9_8) s86_40.ownBlock := Ap.mk (Cel.live c9_8) (Ow.fr o86_40)
            have ap_s1_s86_40 : Ap s1.ownBlock s86_40.ownBlock := Ap.mk (Ow.live hs) (Ow.fr o86_40)
            have ap_s66_13_s86_40 : Ap s66_13.ownBlock s86_40.ownBlock := Ap.mk (Ow.live os66_13) (Ow.fr o86_40)
            have fr_s86_40 : Fr w.heap.size s86_40.ownBlock := Fr.le (Ow.fr o86_40) e0.size
            replace o86_40 := Ow.base o86_40 e0.size
            refine PremP.v rfl ?_
            refine PremP.v rfl ?_
            refine PremP.v rfl ?_
            refine PremP.v rfl ?_
            refine PremP.v rfl ?_
            refine PremP.v rfl ?_
            refine PremP.v rfl ?_
            have xs1 := x1.size
            have e0 := e0.trans x1
            have c9_8 := c9_8.ext x1
            have hs := hs.ext x1
            have o65_12 := o65_12.ext x1
            have os66_13 := os66_13.ext x1
            clear x1
            refine PremP.nil ?_
            exact OpYe.mkg rfl rfl rfl rfl ((Ye.call cl12 rfl (Sum512_ok (Rl.ext hlc e0) (by first | omega | (simp only [List.length_append, List.flatten_cons, List.flatten_nil, List.append_nil, Int.toNat_natCast]; omega) | (simp <;> omega)))).mono fun v w2 h => ⟨⟨v, rfl, Ow.base h.1 xs1⟩, h.2⟩)
          · skip
            intro w41 x1
            refine PremP.v rfl ?_
            refine PremP.v rfl ?_
            refine PremP.v rfl ?_
            refine PremP.v rfl ?_
            refine PremP.own rfl fun s72_41 o72_41 => ?_
            have o72_41b := o72_41
            have ap_b9_8_s72_41 : Ap (some b9_8) s72_41.ownBlock := Ap.mk (Cel.live c9_8) (Ow.fr o72_41)
            have ap_s1_s72_41 : Ap s1.ownBlock s72_41.ownBlock := Ap.mk (Ow.live hs) (Ow.fr o72_41)
            have ap_s66_13_s72_41 : Ap s66_13.ownBlock s72_41.ownBlock := Ap.mk (Ow.live os66_13) (Ow.fr o72_41)
            have fr_s72_41 : Fr w.heap.size s72_41.ownBlock := Fr.le (Ow.fr o72_41) e0.size
            replace o72_41 := Ow.base o72_41 e0.size
            refine PremP.v rfl ?_
            refine PremP.v rfl ?_
            refine PremP.v rfl ?_
            refine PremP.v rfl ?_
            refine PremP.v rfl ?_
            refine PremP.v rfl ?_
            refine PremP.own rfl fun s79_41 o79_41 => ?_
            have o79_41b := o79_41
            have ap_b9_8_s79_41 : Ap (some b9_8) s79_41.ownBlock := Ap.mk (Cel.live c9_8) (Ow.fr o79_41)
            have ap_s1_s79_41 : Ap s1.ownBlock s79_41.ownBlock := Ap.mk (Ow.live hs) (Ow.fr o79_41)
            have ap_s66_13_s79_41 : Ap s66_13.ownBlock s79_41.ownBlock := Ap.mk (Ow.live os66_13) (Ow.fr o79_41)
            have fr_s79_41 : Fr w.heap.size s79_41.ownBlock := Fr.le (Ow.fr o79_41) e0.size
            replace o79_41 := Ow.base o79_41 e0.size
            refine PremP.v rfl ?_
            refine PremP.v rfl ?_
            refine PremP.v rfl ?_
            refine PremP.v rfl ?_
            refine PremP.v rfl ?_
            refine PremP.v rfl ?_
            refine PremP.own rfl fun s86_41 o86_41 => ?_
            have o86_41b := o86_41
            have ap_b9_8_s86_41 : Ap (some b9_8) s86_41.ownBlock := Ap.mk (Cel.live c9_8) (Ow.fr o86_41)
            have ap_s1_s86_41 : Ap s1.ownBlock s86_41.ownBlock := Ap.mk (Ow.live hs) (Ow.fr o86_41)
            have ap_s66_13_s86_41 : Ap s66_13.ownBlock s86_41.ownBlock := Ap.mk (Ow.live os66_13) (Ow.fr o86_41)
            have fr_s86_41 : Fr w.heap.size s86_41.ownBlock := Fr.le (Ow.fr o86_41) e0.size
            replace o86_41 := Ow.base o86_41 e0.size
            refine PremP.v rfl ?_
            refine PremP.v rfl ?_
            refine PremP.v rfl ?_
            refine PremP.v rfl ?_
            refine PremP.v rfl ?_
            refine PremP.v rfl ?_
            refine PremP.v rfl ?_
            refine PremP.own rfl fun s94_41 o94_41 => ?_
            have o94_41b := o94_41
            have ap_b9_8_s94_41 : Ap (some b9_8) s94_41.ownBlock := Ap.mk (Cel.live c9_8) (Ow.fr o94_41)
            have ap_s1_s94_41 : Ap s1.ownBlock s94_41.ownBlock := Ap.mk (Ow.live hs) (Ow.fr o94_41)
            have ap_s66_13_s94_41 : Ap s66_13.ownBlock s94_41.ownBlock := Ap.mk (Ow.live os66_13) (Ow.fr o94_41)
            have fr_s94_41 : Fr w.heap.size s94_41.ownBlock := Fr.le (Ow.fr o94_41) e0.size
            replace o94_41 := Ow.base o94_41 e0.size
            have xs1 := x1.size
            have e0 := e0.trans x1
            have c9_8 := c9_8.ext x1
            have hs := hs.ext x1
            have o65_12 := o65_12.ext x1
            have os66_13 := os66_13.ext x1
            clear x1
            refine PremP.nil ?_
            exact OpYe.valg rfl rfl rfl rfl (Yd.bstr Try.underlying25 Try.underlying5 Try.underlying9 rfl (Ow.rd o94_41))
          · skip
            intro w42 x1
            refine PremP.v rfl ?_
            refine PremP.v rfl ?_
            refine PremP.v rfl ?_
            refine PremP.v rfl ?_
            refine PremP.own rfl fun s72_42 o72_42 => ?_
            have o72_42b := o72_42
            have ap_b9_8_s72_42 : Ap (some b9_8) s72_42.ownBlock := Ap.mk (Cel.live c9_8) (Ow.fr o72_42)
            have ap_s1_s72_42 : Ap s1.ownBlock s72_42.ownBlock := Ap.mk (Ow.live hs) (Ow.fr o72_42)
            have ap_s66_13_s72_42 : Ap s66_13.ownBlock s72_42.ownBlock := Ap.mk (Ow.live os66_13) (Ow.fr o72_42)
            have fr_s72_42 : Fr w.heap.size s72_42.ownBlock := Fr.le (Ow.fr o72_42) e0.size
            replace o72_42 := Ow.base o72_42 e0.size
            refine PremP.v rfl ?_
            refine PremP.v rfl ?_
            refine PremP.v rfl ?_
            refine PremP.v rfl ?_
            refine PremP.v rfl ?_
            refine PremP.v rfl ?_
            refine PremP.own rfl fun s79_42 o79_42 => ?_
            have o79_42b := o79_42
            have ap_b9_8_s79_42 : Ap (some b9_8) s79_42.ownBlock := Ap.mk (Cel.live c9_8) (Ow.fr o79_42)
            have ap_s1_s79_42 : Ap s1.ownBlock s79_42.ownBlock := Ap.mk (Ow.live hs) (Ow.fr o79_42)
            have ap_s66_13_s79_42 : Ap s66_13.ownBlock s79_42.ownBlock := Ap.mk (Ow.live os66_13) (Ow.fr o79_42)
            have fr_s79_42 : Fr w.heap.size s79_42.ownBlock := Fr.le (Ow.fr o79_42) e0.size
            replace o79_42 := Ow.base o79_42 e0.size
            refine PremP.v rfl ?_
            refine PremP.v rfl ?_
            refine PremP.v rfl ?_
            refine PremP.v rfl ?_
            refine PremP.v rfl ?_
            refine PremP.v rfl ?_
            refine PremP.own rfl fun s86_42 o86_42 => ?_
            have o86_42b := o86_42
            have ap_b9_8_s86_42 : Ap (some b9_8) s86_42.ownBlock := Ap.mk (Cel.live c9_8) (Ow.fr o86_42)
            have ap_s1_s86_42 : Ap s1.ownBlock s86_42.ownBlock := Ap.mk (Ow.live hs) (Ow.fr o86_42)
            have ap_s66_13_s86_42 : Ap s66_13.ownBlock s86_42.ownBlock := Ap.mk (Ow.live os66_13) (Ow.fr o86_42)
            have fr_s86_42 : Fr w.heap.size s86_42.ownBlock := Fr.le (Ow.fr o86_42) e0.size
            replace o86_42 := Ow.base o86_42 e0.size
            refine PremP.v rfl ?_
            refine PremP.v rfl ?_
            refine PremP.v rfl ?_
            refine PremP.v rfl ?_
            refine PremP.v rfl ?_
            refine PremP.v rfl ?_
            have xs1 := x1.size
            have e0 := e0.trans x1
            have c9_8 := c9_8.ext x1
            have hs := hs.ext x1
            have o65_12 := o65_12.ext x1
            have os66_13 := os66_13.ext x1
            clear x1
            refine PremP.nil ?_
            exact OpYe.valg rfl rfl rfl rfl (Yd.move rfl)
          · skip
            intro w43 x1
            refine PremP.v rfl ?_
            refine PremP.v rfl ?_
            refine PremP.v rfl ?_
            refine PremP.v rfl ?_
            refine PremP.own rfl fun s72_43 o72_43 => ?_
            have o72_43b := o72_43
            have ap_b9_8_s72_43 : Ap (some b9_8) s72_43.ownBlock := Ap.mk (Cel.live c9_8) (Ow.fr o72_43)
            have ap_s1_s72_43 : Ap s1.ownBlock s72_43.ownBlock := Ap.mk (Ow.live hs) (Ow.fr o72_43)
            have ap_s66_13_s72_43 : Ap s66_13.ownBlock s72_43.ownBlock := Ap.mk (Ow.live os66_13) (Ow.fr o72_43)
            have fr_s72_43 : Fr w.heap.size s72_43.ownBlock := Fr.le (Ow.fr o72_43) e0.size
            replace o72_43 := Ow.base o72_43 e0.size
            refine PremP.v rfl ?_
            refine PremP.v rfl ?_
            refine PremP.v rfl ?_
            refine PremP.v rfl ?_
            refine PremP.v rfl ?_
            refine PremP.v rfl ?_
            refine PremP.own rfl fun s79_43 o79_43 => ?_
            have o79_43b := o79_43
            have ap_b9_8_s79_43 : Ap (some b9_8) s79_43.ownBlock := Ap.mk (Cel.live c9_8) (Ow.fr o79_43)
            have ap_s1_s79_43 : Ap s1.ownBlock s79_43.ownBlock := Ap.mk (Ow.live hs) (Ow.fr o79_43)
            have ap_s66_13_s79_43 : Ap s66_13.ownBlock s79_43.ownBlock := Ap.mk (Ow.live os66_13) (Ow.fr o79_43)
            have fr_s79_43 : Fr w.heap.size s79_43.ownBlock := Fr.le (Ow.fr o79_43) e0.size
            replace o79_43 := Ow.base o79_43 e0.size
            refine PremP.v rfl ?_
            refine PremP.v rfl ?_
            refine PremP.v rfl ?_
            refine PremP.v rfl ?_
            refine PremP.v rfl ?_
            refine PremP.v rfl ?_
            refine PremP.own rfl fun s86_43 o86_43 => ?_
            have o86_43b := o86_43
            have ap_b9_8_s86_43 : Ap (some b9_8) s86_43.ownBlock := Ap.mk (Cel.live c9_8) (Ow.fr o86_43)
            have ap_s1_s86_43 : Ap s1.ownBlock s86_43.ownBlock := Ap.mk (Ow.live hs) (Ow.fr o86_43)
            have ap_s66_13_s86_43 : Ap s66_13.ownBlock s86_43.ownBlock := Ap.mk (Ow.live os66_13) (Ow.fr o86_43)
            have fr_s86_43 : Fr w.heap.size s86_43.ownBlock := Fr.le (Ow.fr o86_43) e0.size
            replace o86_43 := Ow.base o86_43 e0.size
            refine PremP.v rfl ?_
            refine PremP.v rfl ?_
            refine PremP.v rfl ?_
            refine PremP.v rfl ?_
            refine PremP.v rfl ?_
            refine PremP.v rfl ?_
            refine PremP.v rfl ?_
            have xs1 := x1.size
            have e0 := e0.trans x1
            have c9_8 := c9_8.ext x1
            have hs := hs.ext x1
            have o65_12 := o65_12.ext x1
            have os66_13 := os66_13.ext x1
            clear x1
            refine PremP.nil ?_
            exact OpYe.mkg rfl rfl rfl rfl ((Ye.litS1 Try.underlying22 ti25 rfl rfl (Rd.ext ha e0)).mono fun v w2 h => ⟨⟨v, rfl, h.1⟩, h.2⟩)
          · skip
            intro w44 x1
            refine PremP.v rfl ?_
            refine PremP.v rfl ?_
            refine PremP.v rfl ?_
            refine PremP.v rfl ?_
            refine PremP.own rfl fun s72_44 o72_44 => ?_
            have o72_44b := o72_44
            have ap_b9_8_s72_44 : Ap (some b9_8) s72_44.ownBlock := Ap.mk (Cel.live c9_8) (Ow.fr o72_44)
            have ap_s1_s72_44 : Ap s1.ownBlock s72_44.ownBlock := Ap.mk (Ow.live hs) (Ow.fr o72_44)
            have ap_s66_13_s72_44 : Ap s66_13.ownBlock s72_44.ownBlock := Ap.mk (Ow.live os66_13) (Ow.fr o72_44)
            have fr_s72_44 : Fr w.heap.size s72_44.ownBlock := Fr.le (Ow.fr o72_44) e0.size
            replace o72_44 := Ow.base o72_44 e0.size
            refine PremP.v rfl ?_
            refine PremP.v rfl ?_
            refine PremP.v rfl ?_
            refine PremP.v rfl ?_
            refine PremP.v rfl ?_
            refine PremP.v rfl ?_
            refine PremP.own rfl fun s79_44 o79_44 => ?_
            have o79_44b := o79_44
            have ap_b9_8_s79_44 : Ap (some b9_8) s79_44.ownBlock := Ap.mk (Cel.live c9_8) (Ow.fr o79_44)
            have ap_s1_s79_44 : Ap s1.ownBlock s79_44.ownBlock := Ap.mk (Ow.live hs) (Ow.fr o79_44)
            have ap_s66_13_s79_44 : Ap s66_13.ownBlock s79_44.ownBlock := Ap.mk (Ow.live os66_13) (Ow.fr o79_44)
            have fr_s79_44 : Fr w.heap.size s79_44.ownBlock := Fr.le (Ow.fr o79_44) e0.size
            replace o79_44 := Ow.base o79_44 e0.size
            refine PremP.v rfl ?_
            refine PremP.v rfl ?_
            refine PremP.v rfl ?_
            refine PremP.v rfl ?_
            refine PremP.v rfl ?_
            refine PremP.v rfl ?_
            refine PremP.own rfl fun s86_44 o86_44 => ?_
            have o86_44b := o86_44
            have ap_b9_8_s86_44 : Ap (some b9_8) s86_44.ownBlock := Ap.mk (Cel.live c9_8) (Ow.fr o86_44)
            have ap_s1_s86_44 : Ap s1.ownBlock s86_44.ownBlock := Ap.mk (Ow.live hs) (Ow.fr o86_44)
            have ap_s66_13_s86_44 : Ap s66_13.ownBlock s86_44.ownBlock := Ap.mk (Ow.live os66_13) (Ow.fr o86_44)
            have fr_s86_44 : Fr w.heap.size s86_44.ownBlock := Fr.le (Ow.fr o86_44) e0.size
            replace o86_44 := Ow.base o86_44 e0.size
            refine PremP.v rfl ?_
            refine PremP.v rfl ?_
            refine PremP.v rfl ?_
            refine PremP.v rfl ?_
            refine PremP.v rfl ?_
            refine PremP.v rfl ?_
            refine PremP.v rfl ?_
            refine PremP.own rfl fun s94_44 o94_44 => ?_
            have o94_44b := o94_44
            have ap_b9_8_s94_44 : Ap (some b9_8) s94_44.ownBlock := Ap.mk (Cel.live c9_8) (Ow.fr o94_44)
            have ap_s1_s94_44 : Ap s1.ownBlock s94_44.ownBlock := Ap.mk (Ow.live hs) (Ow.fr o94_44)
            have ap_s66_13_s94_44 : Ap s66_13.ownBlock s94_44.ownBlock := Ap.mk (Ow.live os66_13) (Ow.fr o94_44)
            have fr_s94_44 : Fr w.heap.size s94_44.ownBlock := Fr.le (Ow.fr o94_44) e0.size
            replace o94_44 := Ow.base o94_44 e0.size
            refine PremP.v rfl ?_
            refine PremP.rl rfl fun s97_44 o97_44 => ?_
            have xs1 := x1.size
            have e0 := e0.trans x1
            have c9_8 := c9_8.ext x1
            have hs := hs.ext x1
            have o65_12 := o65_12.ext x1
            have os66_13 := os66_13.ext x1
            clear x1
            refine PremP.nil ?_
            exact OpYe.mkg rfl rfl rfl rfl ((Ye.call cl12 rfl (Sum512_ok o97_44 (by first | omega | (simp only [List.length_append, List.flatten_cons, List.flatten_nil, List.append_nil, Int.toNat_natCast]; omega) | (simp <;> omega)))).mono fun v w2 h => ⟨⟨v, rfl, Ow.base h.1 xs1⟩, h.2⟩)
          · skip
            intro w45 x1
            refine PremP.v rfl ?_
            refine PremP.v rfl ?_
            refine PremP.v rfl ?_
            refine PremP.v rfl ?_
            refine PremP.own rfl fun s72_45 o72_45 => ?_
            have o72_45b := o72_45
            have ap_b9_8_s72_45 : Ap (some b9_8) s72_45.ownBlock := Ap.mk (Cel.live c9_8) (Ow.fr o72_45)
            have ap_s1_s72_45 : Ap s1.ownBlock s72_45.ownBlock := Ap.mk (Ow.live hs) (Ow.fr o72_45)
            have ap_s66_13_s72_45 : Ap s66_13.ownBlock s72_45.ownBlock := Ap.mk (Ow.live os66_13) (Ow.fr o72_45)
            have fr_s72_45 : Fr w.heap.size s72_45.ownBlock := Fr.le (Ow.fr o72_45) e0.size
            replace o72_45 := Ow.base o72_45 e0.size
            refine PremP.v rfl ?_
            refine PremP.v rfl ?_
            refine PremP.v rfl ?_
            refine PremP.v rfl ?_
            refine PremP.v rfl ?_
            refine PremP.v rfl ?_
            refine PremP.own rfl fun s79_45 o79_45 => ?_
            have o79_45b := o79_45
            have ap_b9_8_s79_45 : Ap (some b9_8) s79_45.ownBlock := Ap.mk (Cel.live c9_8) (Ow.fr o79_45)
            have ap_s1_s79_45 : Ap s1.ownBlock s79_45.ownBlock := Ap.mk (Ow.live hs) (Ow.fr o79_45)
            have ap_s66_13_s79_45 : Ap s66_13.ownBlock s79_45.ownBlock := Ap.mk (Ow.live os66_13) (Ow.fr o79_45)
            have fr_s79_45 : Fr w.heap.size s79_45.ownBlock := Fr.le (Ow.fr o79_45) e0.size
            replace o79_45 := Ow.base o79_45 e0.size
            refine PremP.v rfl ?_
            refine PremP.v rfl ?_
            refine PremP.v rfl ?_
            refine PremP.v rfl ?_
            refine PremP.v rfl ?_
            refine PremP.v rfl ?_
            refine PremP.own rfl fun s86_45 o86_45 => ?_
            have o86_45b := o86_45
            have ap_b9_8_s86_45 : Ap (some b9_8) s86_45.ownBlock := Ap.mk (Cel.live c9_8) (Ow.fr o86_45)
            have ap_s1_s86_45 : Ap s1.ownBlock s86_45.ownBlock := Ap.mk (Ow.live hs) (Ow.fr o86_45)
            have ap_s66_13_s86_45 : Ap s66_13.ownBlock s86_45.ownBlock := Ap.mk (Ow.live os66_13) (Ow.fr o86_45)
            have fr_s86_45 : Fr w.heap.size s86_45.ownBlock := Fr.le (Ow.fr o86_45) e0.size
            replace o86_45 := Ow.base o86_45 e0.size
            refine PremP.v rfl ?_
            refine PremP.v rfl ?_
            refine PremP.v rfl ?_
            refine PremP.v rfl ?_
            refine PremP.v rfl ?_
            refine PremP.v rfl ?_
            refine PremP.v rfl ?_
            refine PremP.own rfl fun s94_45 o94_45 => ?_
            have o94_45b := o94_45
            have ap_b9_8_s94_45 : Ap (some b9_8) s94_45.ownBlock := Ap.mk (Cel.live c9_8) (Ow.fr o94_45)
            have ap_s1_s94_45 : Ap s1.ownBlock s94_45.ownBlock := Ap.mk (Ow.live hs) (Ow.fr o94_45)
            have ap_s66_13_s94_45 : Ap s66_13.ownBlock s94_45.ownBlock := Ap.mk (Ow.live os66_13) (Ow.fr o94_45)
            have fr_s94_45 : Fr w.heap.size s94_45.ownBlock := Fr.le (Ow.fr o94_45) e0.size
            replace o94_45 := Ow.base o94_45 e0.size
            refine PremP.v rfl ?_
            refine PremP.rl rfl fun s97_45 o97_45 => ?_
            refine PremP.own rfl fun s98_45 o98_45 => ?_
            have o98_45b := o98_45
            have ap_b9_8_s98_45 : Ap (some b9_8) s98_45.ownBlock := Ap.mk (Cel.live c9_8) (Ow.fr o98_45)
            have ap_s1_s98_45 : Ap s1.ownBlock s98_45.ownBlock := Ap.mk (Ow.live hs) (Ow.fr o98_45)
            have ap_s66_13_s98_45 : Ap s66_13.ownBlock s98_45.ownBlock := Ap.mk (Ow.live os66_13) (Ow.fr o98_45)
            have fr_s98_45 : Fr w.heap.size s98_45.ownBlock := Fr.le (Ow.fr o98_45) e0.size
            replace o98_45 := Ow.base o98_45 e0.size
            have xs1 := x1.size
            have e0 := e0.trans x1
            have c9_8 := c9_8.ext x1
            have hs := hs.ext x1
            have o65_12 := o65_12.ext x1
            have os66_13 := os66_13.ext x1
            clear x1
            refine PremP.nil ?_
            exact OpYe.valg rfl rfl rfl rfl (Yd.bstr Try.underlying25 Try.underlying5 Try.underlying9 rfl (Ow.rd o98_45))
          · skip
            intro w46 x1
            refine PremP.v rfl ?_
            refine PremP.v rfl ?_
            refine PremP.v rfl ?_
            refine PremP.v rfl ?_
            refine PremP.own rfl fun s72_46 o72_46 => ?_
            have o72_46b := o72_46
            have ap_b9_8_s72_46 : Ap (some b9_8) s72_46.ownBlock := Ap.mk (Cel.live c9_8) (Ow.fr o72_46)
            have ap_s1_s72_46 : Ap s1.ownBlock s72_46.ownBlock := Ap.mk (Ow.live hs) (Ow.fr o72_46)
            have ap_s66_13_s72_46 : Ap s66_13.ownBlock s72_46.ownBlock := Ap.mk (Ow.live os66_13) (Ow.fr o72_46)
            have fr_s72_46 : Fr w.heap.size s72_46.ownBlock := Fr.le (Ow.fr o72_46) e0.size
            replace o72_46 := Ow.base o72_46 e0.size
            refine PremP.v rfl ?_
            refine PremP.v rfl ?_
            refine PremP.v rfl ?_
            refine PremP.v rfl ?_
            refine PremP.v rfl ?_
            refine PremP.v rfl ?_
            refine PremP.own rfl fun s79_46 o79_46 => ?_
            have o79_46b := o79_46
            have ap_b9_8_s79_46 : Ap (some b9_8) s79_46.ownBlock := Ap.mk (Cel.live c9_8) (Ow.fr o79_46)
            have ap_s1_s79_46 : Ap s1.ownBlock s79_46.ownBlock := Ap.mk (Ow.live hs) (Ow.fr o79_46)
            have ap_s66_13_s79_46 : Ap s66_13.ownBlock s79_46.ownBlock := Ap.mk (Ow.live os66_13) (Ow.fr o79_46)
            have fr_s79_46 : Fr w.heap.size s79_46.ownBlock := Fr.le (Ow.fr o79_46) e0.size
            replace o79_46 := Ow.base o79_46 e0.size
            refine PremP.v rfl ?_
            refine PremP.v rfl ?_
            refine PremP.v rfl ?_
            refine PremP.v rfl ?_
            refine PremP.v rfl ?_
            refine PremP.v rfl ?_
            refine PremP.own rfl fun s86_46 o86_46 => ?_
            have o86_46b := o86_46
            have ap_b9_8_s86_46 : Ap (some b9_8) s86_46.ownBlock := Ap.mk (Cel.live c9_8) (Ow.fr o86_46)
            have ap_s1_s86_46 : Ap s1.ownBlock s86_46.ownBlock := Ap.mk (Ow.live hs) (Ow.fr o86_46)
            have ap_s66_13_s86_46 : Ap s66_13.ownBlock s86_46.ownBlock := Ap.mk (Ow.live os66_13) (Ow.fr o86_46)
            have fr_s86_46 : Fr w.heap.size s86_46.ownBlock := Fr.le (Ow.fr o86_46) e0.size
            replace o86_46 := Ow.base o86_46 e0.size
            refine PremP.v rfl ?_
            refine PremP.v rfl ?_
            refine PremP.v rfl ?_
            refine PremP.v rfl ?_
            refine PremP.v rfl ?_
            refine PremP.v rfl ?_
            refine PremP.v rfl ?_
            refine PremP.own rfl fun s94_46 o94_46 => ?_
            have o94_46b := o94_46
            have ap_b9_8_s94_46 : Ap (some b9_8) s94_46.ownBlock := Ap.mk (Cel.live c9_8) (Ow.fr o94_46)
            have ap_s1_s94_46 : Ap s1.ownBlock s94_46.ownBlock := Ap.mk (Ow.live hs) (Ow.fr o94_46)
            have ap_s66_13_s94_46 : Ap s66_13.ownBlock s94_46.ownBlock := Ap.mk (Ow.live os66_13) (Ow.fr o94_46)
            have fr_s94_46 : Fr w.heap.size s94_46.ownBlock := Fr.le (Ow.fr o94_46) e0.size
            replace o94_46 := Ow.base o94_46 e0.size
            refine PremP.v rfl ?_
            refine PremP.v rfl ?_
            refine PremP.rl rfl fun s97_46 o97_46 => ?_
            refine PremP.own rfl fun s98_46 o98_46 => ?_
            have o98_46b := o98_46
            have ap_b9_8_s98_46 : Ap (some b9_8) s98_46.ownBlock := Ap.mk (Cel.live c9_8) (Ow.fr o98_46)
            have ap_s1_s98_46 : Ap s1.ownBlock s98_46.ownBlock := Ap.mk (Ow.live hs) (Ow.fr o98_46)
            have ap_s66_13_s98_46 : Ap s66_13.ownBlock s98_46.ownBlock := Ap.mk (Ow.live os66_13) (Ow.fr o98_46)
            have fr_s98_46 : Fr w.heap.size s98_46.ownBlock := Fr.le (Ow.fr o98_46) e0.size
            replace o98_46 := Ow.base o98_46 e0.size
            refine PremP.v rfl ?_
            have xs1 := x1.size
            have e0 := e0.trans x1
            have c9_8 := c9_8.ext x1
            have hs := hs.ext x1
            have o65_12 := o65_12.ext x1
            have os66_13 := os66_13.ext x1
            clear x1
            refine PremP.nil ?_
            exact OpYe.valg rfl rfl rfl rfl (Yd.seq rfl rfl)
          intro w47 x1
          refine PremP.v rfl ?_
          refine PremP.v rfl ?_
          refine PremP.v rfl ?_
          refine PremP.v rfl ?_
          refine PremP.own rfl fun s72_47 o72_47 => ?_
          have o72_47b := o72_47
          have ap_b9_8_s72_47 : Ap (some b9_8) s72_47.ownBlock := Ap.mk (Cel.live c9_8) (Ow.fr o72_47)
          have ap_s1_s72_47 : Ap s1.ownBlock s72_47.ownBlock := Ap.mk (Ow.live hs) (Ow.fr o72_47)
          have ap_s66_13_s72_47 : Ap s66_13.ownBlock s72_47.ownBlock := Ap.mk (Ow.live os66_13) (Ow.fr o72_47)
          have fr_s72_47 : Fr w.heap.size s72_47.ownBlock := Fr.le (Ow.fr o72_47) e0.size
          replace o72_47 := Ow.base o72_47 e0.size
          refine PremP.v rfl ?_
          refine PremP.v rfl ?_
          refine PremP.v rfl ?_
          refine PremP.v rfl ?_
          refine PremP.v rfl ?_
          refine PremP.v rfl ?_
          refine PremP.own rfl fun s79_47 o79_47 => ?_
          have o79_47b := o79_47
          have ap_b9_8_s79_47 : Ap (some b9_8) s79_47.ownBlock := Ap.mk (Cel.live c9_8) (Ow.fr o79_47)
          have ap_s1_s79_47 : Ap s1.ownBlock s79_47.ownBlock := Ap.mk (Ow.live hs) (Ow.fr o79_47)
          have ap_s66_13_s79_47 : Ap s66_13.ownBlock s79_47.ownBlock := Ap.mk (Ow.live os66_13) (Ow.fr o79_47)
          have fr_s79_47 : Fr w.heap.size s79_47.ownBlock := Fr.le (Ow.fr o79_47) e0.size
          replace o79_47 := Ow.base o79_47 e0.size
          refine PremP.v rfl ?_
          refine PremP.v rfl ?_
          refine PremP.v rfl ?_
          refine PremP.v rfl ?_
          refine PremP.v rfl ?_
          refine PremP.v rfl ?_
          refine PremP.own rfl fun s86_47 o86_47 => ?_
          have o86_47b := o86_47
          have ap_b9_8_s86_47 : Ap (some b9_8) s86_47.ownBlock := Ap.mk (Cel.live c9_8) (Ow.fr o86_47)
          have ap_s1_s86_47 : Ap s1.ownBlock s86_47.ownBlock := Ap.mk (Ow.live hs) (Ow.fr o86_47)
          have ap_s66_13_s86_47 : Ap s66_13.ownBlock s86_47.ownBlock := Ap.mk (Ow.live os66_13) (Ow.fr o86_47)
          have fr_s86_47 : Fr w.heap.size s86_47.ownBlock := Fr.le (Ow.fr o86_47) e0.size
          replace o86_47 := Ow.base o86_47 e0.size
          refine PremP.v rfl ?_
          refine PremP.v rfl ?_
          refine PremP.v rfl ?_
          refine PremP.v rfl ?_
          refine PremP.v rfl ?_
          refine PremP.v rfl ?_
          refine PremP.v rfl ?_
          refine PremP.own rfl fun s94_47 o94_47 => ?_
          have o94_47b := o94_47
          have ap_b9_8_s94_47 : Ap (some b9_8) s94_47.ownBlock := Ap.mk (Cel.live c9_8) (Ow.fr o94_47)
          have ap_s1_s94_47 : Ap s1.ownBlock s94_47.ownBlock := Ap.mk (Ow.live hs) (Ow.fr o94_47)
          have ap_s66_13_s94_47 : Ap s66_13.ownBlock s94_47.ownBlock := Ap.mk (Ow.live os66_13) (Ow.fr o94_47)
          have fr_s94_47 : Fr w.heap.size s94_47.ownBlock := Fr.le (Ow.fr o94_47) e0.size
          replace o94_47 := Ow.base o94_47 e0.size
          refine PremP.v rfl ?_
          refine PremP.v rfl ?_
          refine PremP.rl rfl fun s97_47 o97_47 => ?_
          refine PremP.own rfl fun s98_47 o98_47 => ?_
          have o98_47b := o98_47
          have ap_b9_8_s98_47 : Ap (some b9_8) s98_47.ownBlock := Ap.mk (Cel.live c9_8) (Ow.fr o98_47)
          have ap_s1_s98_47 : Ap s1.ownBlock s98_47.ownBlock := Ap.mk (Ow.live hs) (Ow.fr o98_47)
          have ap_s66_13_s98_47 : Ap s66_13.ownBlock s98_47.ownBlock := Ap.mk (Ow.live os66_13) (Ow.fr o98_47)
          have fr_s98_47 : Fr w.heap.size s98_47.ownBlock := Fr.le (Ow.fr o98_47) e0.size
          replace o98_47 := Ow.base o98_47 e0.size
          refine PremP.v rfl ?_
          refine PremP.v rfl ?_
          have xs1 := x1.size
          have e0 := e0.trans x1
          have c9_8 := c9_8.ext x1
          have hs := hs.ext x1
          have o65_12 := o65_12.ext x1
          have os66_13 := os66_13.ext x1
          clear x1
          refine PremP.nil ?_
          refine J.s_op rfl (fun _ => Yd.pick_t rfl rfl) rfl ?_
          refine J.s_op rfl (fun _ => Yd.move rfl) rfl ?_
          refine J.know (t := 102) (v' := .bool true) rfl (tt (by rw [hall]; simp)) ?_
          refine J.s_eff_g rfl rfl rfl rfl (Ye.call cl8 rfl (awake_ok)) rfl ?_
          rintro _ w48 ⟨rfl, x1⟩
          have e0 := e0.trans x1
          have c9_8 := c9_8.ext x1
          have hs := hs.ext x1
          have o65_12 := o65_12.ext x1
          have os66_13 := os66_13.ext x1
          have o72_47 := o72_47.ext x1
          have o79_47 := o79_47.ext x1
          have o86_47 := o86_47.ext x1
          have o94_47 := o94_47.ext x1
          have o97_47 := o97_47.ext x1
          have o98_47 := o98_47.ext x1
          clear x1
          refine J.s_op rfl (fun _ => Yd.pick_t rfl rfl) rfl ?_
          refine J.s_op rfl (fun _ => Yd.assign rfl) rfl ?_
          refine J.s_nil ?_
          refine J.n_np ?_
          refine J.n_then ?_
          refine J.ret ?_
          exact J.ret1 rfl rfl (⟨_, rfl, rfl, eW.trans e0⟩)
end Ytipbmjbdmpcgoaa
end Go.Proofs
