import Derived.Test.YtipbmjbdmpcgoaaT
import Derived.Test.YtipbmjbdmpcgoaaX16
import Derived.Test.YtipbmjbdmpcgoaaS13
set_option linter.unusedVariables false
set_option linter.unusedSimpArgs false
set_option maxRecDepth 100000
set_option maxHeartbeats 4000000
namespace Go.Proofs
open Go.X Go.RowKit
namespace Ytipbmjbdmpcgoaa
theorem Sha2Goes_ok {sl v : Value} {vs : List Value} {ll : List (List UInt8)} {m : List UInt8} {at_ : Int} {w : World} (hl : Rl w sl vs ll) (hm : Bs w v m) : C Try.prog 6 [sl, v, I at_] w (Ret fun v w' => v = .bool true ∧ Ext w w') := by
  have e0 := Ext.refl w
  refine C.enter Try.func6 rfl Try.ntmps6 rfl ?_
  refine J.seq ?_
  refine J.region ?_
  refine J.op (Yd.assign rfl) rfl ?_
  refine J.nil ?_
  refine J.n_then ?_
  refine J.seq ?_
  refine J.seq ?_
  refine J.region ?_
  refine J.op (Yd.move rfl) rfl ?_
  refine J.eff (Ye.call cl7 rfl (All_ok hl (by omega))) rfl ?_
  rintro _ w1 ⟨r, rfl, hr, htot, x1⟩
  have e0 := e0.trans x1
  clear x1
  refine J.op (Yd.gtr rfl rfl) rfl ?_
  refine J.op (Yd.move rfl) rfl ?_
  refine J.split_dec (t := 15) rfl (fun h1 => ?_) (fun h1 => ?_)
  · skip
    refine J.not_g rfl rfl rfl rfl rfl ?_
    refine J.not_g rfl rfl rfl rfl rfl ?_
    refine J.not_g rfl rfl rfl rfl rfl ?_
    refine J.op (Yd.pick_t rfl rfl) rfl ?_
    refine J.nil ?_
    refine J.n_then ?_
    refine J.cond_true rfl ?_
    refine J.seq ?_
    refine J.region ?_
    refine J.eff (Ye.call cl8 rfl (awake_ok)) rfl ?_
    rintro _ w2 ⟨rfl, x1⟩
    have e0 := e0.trans x1
    clear x1
    refine J.op (Yd.assign rfl) rfl ?_
    refine J.nil ?_
    refine J.n_then ?_
    refine J.ret ?_
    refine J.r_then ?_
    exact J.ret1 rfl rfl (⟨_, rfl, rfl, e0⟩)
  · skip
    refine J.op_g rfl rfl rfl (Yd.move rfl) rfl ?_
    refine J.op_g rfl rfl rfl (Yd.len_b Try.underlying25 rfl (Rd.ext hm e0)) rfl ?_
    refine J.op_g rfl rfl rfl (Yd.gtr rfl rfl) rfl ?_
    refine J.op (Yd.pick_f rfl rfl) rfl ?_
    refine J.nil ?_
    refine J.n_then ?_
    refine J.cond_dec rfl (fun hc0 => ?_) (fun hc0 => ?_)
    · skip
      refine J.seq ?_
      refine J.region ?_
      refine J.eff (Ye.call cl8 rfl (awake_ok)) rfl ?_
      rintro _ w3 ⟨rfl, x1⟩
      have e0 := e0.trans x1
      clear x1
      refine J.op (Yd.assign rfl) rfl ?_
      refine J.nil ?_
      refine J.n_then ?_
      refine J.ret ?_
      refine J.r_then ?_
      exact J.ret1 rfl rfl (⟨_, rfl, rfl, e0⟩)
    · skip
      have htot' := htot (by omega)
      refine J.skip ?_
      refine J.n_then ?_
      refine J.seq ?_
      refine J.region ?_
      refine J.eff (Ye.alloc ti37 (S := [(0, 8, (List.replicate 8 0).map (fun x : UInt32 => W32 x)), (8, 1, [.slice none 0 0]), (9, 1, [.int .u64 0])]) (by simp [SegAll, SegOK, Value.cells])) rfl ?_
      rintro _ w4 ⟨b7_3, rfl, hb_, c7_3, x1⟩
      have fr_b7_3 : Fr w.heap.size (some b7_3) := Fr.le (Fr.blk hb_) e0.size
      have e0 := e0.trans x1
      clear x1 hb_
      refine J.nil ?_
      refine J.n_then ?_
      refine J.seq ?_
      refine J.region ?_
      refine J.op (Yd.assign rfl) rfl ?_
      refine J.nil ?_
      refine J.n_then ?_
      refine J.seq ?_
      refine J.region ?_
      refine J.op (Yd.move rfl) rfl ?_
      refine J.op (Yd.move rfl) rfl ?_
      refine J.op (Yd.len_l Try.underlying22 rfl (Rl.ext hl e0)) rfl ?_
      refine J.op (Yd.add rfl rfl (by first | omega | (simp only [Int.toNat_natCast]; omega) | (simp only [List.length_map, List.length_drop, List.length_take, List.length_append, List.length_replicate]; omega) | (simp [sha256L_len, sha512L_len] <;> omega))) rfl ?_
      refine J.eff (Ye.call cl14 rfl (Round_ok (by omega) (by omega))) rfl ?_
      rintro _ w5 ⟨rfl, x1⟩
      have e0 := e0.trans x1
      have c7_3 := c7_3.ext x1
      clear x1
      refine J.op (Yd.assign rfl) rfl ?_
      refine J.nil ?_
      refine J.n_then ?_
      refine J.seq ?_
      refine J.seq ?_
      refine J.region ?_
      refine J.op (Yd.assign rfl) rfl ?_
      refine J.nil ?_
      refine J.n_then ?_
      refine J.block ?_
      refine J.loop (ι := Nat × Value × Value) (fun i => [(0, sl), (1, v), (2, I (at_ % ((ll.length : Int) + 1))), (9, I i.1), (7, .pointer (some ⟨b7_3, 0, none⟩)), (8, i.2.2)]) (fun i w' => i.1 ≤ ll.length ∧ Cel w' b7_3 37 (hseg (ll.take i.1).flatten i.2.1) ∧ Ob w.heap.size 5 w' i.2.1 (restL (ll.take i.1).flatten) ∧ Ob w.heap.size 5 w' i.2.2 (ll.take i.1).flatten ∧ Fr w.heap.size (i.2.1).ownBlock ∧ Ap (some b7_3) (i.2.1).ownBlock ∧ Fr w.heap.size (i.2.2).ownBlock ∧ Ap (some b7_3) (i.2.2).ownBlock ∧ Ap (i.2.1).ownBlock (i.2.2).ownBlock ∧ Ext w w') (fun i => ll.length - i.1) ((0, nilS, nilS)) ⟨rfl, rfl, rfl, rfl, rfl, rfl, trivial⟩ (⟨Nat.zero_le _, by show Cel _ _ _ (hseg ([] : List UInt8) nilS); rw [hseg_nil]; exact c7_3, by show Ob _ _ _ nilS (restL ([] : List UInt8)); exact Ow.nil _ _ _, Ow.nil _ _ _, Fr.nil, Ap.nil_r, Fr.nil, Ap.nil_r, Ap.nil_l, e0⟩) ?_
      rintro ⟨k, s1, v8⟩ w6 ⟨hk, c7_3, hs, ho8, fr_s1, ap_b7_3_s1, fr_v8, ap_b7_3_v8, ap_s1_v8, e0⟩
      dsimp only at *
      have hft := flat_step ll k
      have hle := flat_le ll (k + 1)
      have hle0 := flat_le ll k
      refine J.seq ?_
      refine J.seq ?_
      refine J.region ?_
      refine J.op (Yd.move rfl) rfl ?_
      refine J.op (Yd.move rfl) rfl ?_
      refine J.op (Yd.len_l Try.underlying22 rfl (Rl.ext hl e0)) rfl ?_
      refine J.op (Yd.lss rfl rfl) rfl ?_
      refine J.nil ?_
      refine J.n_then ?_
      refine J.cond_dec rfl (fun hc1 => ?_) (fun hc1 => ?_)
      · skip
        replace hft := hft (by omega)
        have hfI : (ll.getD (k : Int).toNat []).length = (ll.getD k []).length := by rw [Int.toNat_natCast]
        refine J.skip ?_
        refine J.n_then ?_
        refine J.seq ?_
        refine J.block ?_
        refine J.seq ?_
        refine J.seq ?_
        refine J.region ?_
        refine J.op (Yd.move rfl) rfl ?_
        refine J.op (Yd.move rfl) rfl ?_
        refine J.op (Yd.eql rfl rfl) rfl ?_
        refine J.nil ?_
        refine J.n_then ?_
        refine J.cond_dec rfl (fun hc2 => ?_) (fun hc2 => ?_)
        · skip
          refine J.seq ?_
          refine J.region ?_
          refine J.eff (Ye.call cl17 rfl (HCopy_ok c7_3 (Ow.base hs (Nat.zero_le _)) (by first | omega | (simp only [List.length_append, List.flatten_cons, List.flatten_nil, List.append_nil, Int.toNat_natCast]; omega) | (simp <;> omega)))) rfl ?_
          rintro _ w7 ⟨b35_7, s35_7, rfl, hbb35_7, cb35_7, os35_7, ap_b35_7_s35_7, x1⟩
          have ap_b7_3_b35_7 : Ap (some b7_3) (some b35_7) := Ap.mk (Cel.live c7_3) (Fr.blk hbb35_7)
          have ap_s1_b35_7 : Ap s1.ownBlock (some b35_7) := Ap.mk (Ow.live hs) (Fr.blk hbb35_7)
          have ap_v8_b35_7 : Ap v8.ownBlock (some b35_7) := Ap.mk (Ow.live ho8) (Fr.blk hbb35_7)
          have fr_b35_7 : Fr w.heap.size (some b35_7) := Fr.le (Fr.blk hbb35_7) e0.size
          have ap_b7_3_s35_7 : Ap (some b7_3) s35_7.ownBlock := Ap.mk (Cel.live c7_3) (Ow.fr os35_7)
          have ap_s1_s35_7 : Ap s1.ownBlock s35_7.ownBlock := Ap.mk (Ow.live hs) (Ow.fr os35_7)
          have ap_v8_s35_7 : Ap v8.ownBlock s35_7.ownBlock := Ap.mk (Ow.live ho8) (Ow.fr os35_7)
          have fr_s35_7 : Fr w.heap.size s35_7.ownBlock := Fr.le (Ow.fr os35_7) e0.size
          replace os35_7 := Ow.base os35_7 e0.size
          have e0 := e0.trans x1
          have c7_3 := c7_3.ext x1
          have hs := hs.ext x1
          have ho8 := ho8.ext x1
          clear x1
          refine J.op (Yd.assign rfl) rfl ?_
          refine J.nil ?_
          refine J.n_then ?_
          refine J.seq ?_
          refine J.seq ?_
          refine J.region ?_
          refine J.op (Yd.move rfl) rfl ?_
          refine J.op (Yd.cast (Yd.eqPn Try.underlying41 rfl rfl) (show _ = Value.bool false from rfl)) rfl ?_
          refine J.nil ?_
          refine J.n_then ?_
          refine J.cond_false rfl ?_
          refine J.skip ?_
          refine J.n_then ?_
          refine J.seq ?_
          refine J.region ?_
          refine J.op (Yd.move rfl) rfl ?_
          refine J.op (Yd.move rfl) rfl ?_
          refine J.eff (Ye.call cl15 rfl (Add_ok cb35_7 (Ow.base os35_7 (Nat.zero_le _)) ap_b35_7_s35_7 (fun w' ht => (Rd.ext hm (Ext.tnk e0 (fun q hq => by simp only [List.mem_singleton] at hq; subst hq; exact fr_b35_7) ht))) (by first | omega | (simp only [List.length_append, List.flatten_cons, List.flatten_nil, List.append_nil, Int.toNat_natCast]; omega) | (simp <;> omega)) (by first | omega | (simp only [List.length_append, List.flatten_cons, List.flatten_nil, List.append_nil, Int.toNat_natCast]; omega) | (simp <;> omega)))) rfl ?_
          rintro _ w8 ⟨s40_8, rfl, cX2, os40_8, x1⟩
          have ap_b7_3_s40_8 : Ap (some b7_3) s40_8.ownBlock := Ap.mk (Cel.live c7_3) (Ow.fr os40_8)
          have ap_s1_s40_8 : Ap s1.ownBlock s40_8.ownBlock := Ap.mk (Ow.live hs) (Ow.fr os40_8)
          have ap_v8_s40_8 : Ap v8.ownBlock s40_8.ownBlock := Ap.mk (Ow.live ho8) (Ow.fr os40_8)
          have ap_s35_7_s40_8 : Ap s35_7.ownBlock s40_8.ownBlock := Ap.mk (Ow.live os35_7) (Ow.fr os40_8)
          have ap_b35_7_s40_8 : Ap (some b35_7) s40_8.ownBlock := Ap.mk (Cel.live cb35_7) (Ow.fr os40_8)
          have fr_s40_8 : Fr w.heap.size s40_8.ownBlock := Fr.le (Ow.fr os40_8) e0.size
          replace os40_8 := Ow.base os40_8 e0.size
          have c7_3 := Cel.tnk c7_3 x1 (ApL.one ap_b7_3_b35_7)
          have hs := Ow.tnk hs x1 (ApL.one ap_s1_b35_7)
          have ho8 := Ow.tnk ho8 x1 (ApL.one ap_v8_b35_7)
          have os35_7 := Ow.tnk os35_7 x1 (ApL.one (Ap.symm ap_b35_7_s35_7))
          have e0 := Ext.tnk e0 (fun q hq => by simp only [List.mem_singleton] at hq; subst hq; exact fr_b35_7) x1
          clear x1
          replace cb35_7 := cX2
          clear cX2
          refine J.nil ?_
          refine J.n_then ?_
          refine J.seq ?_
          refine J.regionA [(0, true), (3, true), (4, true)] [(1, Asr.own 42 w8.heap.size 5 ((sha256L ((ll.take k).flatten ++ m)).map fun x => B x)), (2, Asr.v 43 (Str (sha256L ((ll.take k).flatten ++ m)))), (5, Asr.rl 46 [v8, v] [(ll.take k).flatten, m]), (6, Asr.own 47 w8.heap.size 5 ((sha256L ([(ll.take k).flatten, m] : List (List UInt8)).flatten).map fun x => B x)), (7, Asr.v 48 (Str (sha256L ([(ll.take k).flatten, m] : List (List UInt8)).flatten)))] [1, 2, 5, 6, 7] [42, 43, 46, 47, 48] [[], [0], [], [0, 2], [0, 2, 3]] [(8, true)] rfl rfl mix (by kernel_rfl) ?_
          refine J.s_op rfl (fun _ => Yd.move rfl) rfl ?_
          refine J.s_op rfl (fun _ => Yd.move rfl) rfl ?_
          refine J.s_op rfl (fun _ => Yd.move rfl) rfl ?_
          refine J.s_nil ?_
          refine J.a_in [0, 1, 2, 3, 4] rfl (by rfl) ⟨?_, ?_, ?_, ?_, ?_, trivial⟩ ?_
          · skip
            intro w9 x1
            have xs1 := x1.size
            have e0 := e0.trans x1
            have c7_3 := c7_3.ext x1
            have hs := hs.ext x1
            have ho8 := ho8.ext x1
            have os35_7 := os35_7.ext x1
            have cb35_7 := cb35_7.ext x1
            have os40_8 := os40_8.ext x1
            clear x1
            refine PremP.nil ?_
            exact OpYe.mk rfl ((Ye.call cl16 rfl (HSum_ok cb35_7 (Ow.base os40_8 (Nat.zero_le _)) (by first | omega | (simp only [List.length_append, List.flatten_cons, List.flatten_nil, List.append_nil, Int.toNat_natCast]; omega) | (simp <;> omega)))).mono fun v w2 h => ⟨⟨v, rfl, Ow.base h.1 xs1⟩, h.2⟩)
          · skip
            intro w10 x1
            refine PremP.own rfl fun s42_10 o42_10 => ?_
            have o42_10b := o42_10
            have ap_b7_3_s42_10 : Ap (some b7_3) s42_10.ownBlock := Ap.mk (Cel.live c7_3) (Ow.fr o42_10)
            have ap_s1_s42_10 : Ap s1.ownBlock s42_10.ownBlock := Ap.mk (Ow.live hs) (Ow.fr o42_10)
            have ap_v8_s42_10 : Ap v8.ownBlock s42_10.ownBlock := Ap.mk (Ow.live ho8) (Ow.fr o42_10)
            have ap_s35_7_s42_10 : Ap s35_7.ownBlock s42_10.ownBlock := Ap.mk (Ow.live os35_7) (Ow.fr o42_10)
            have ap_b35_7_s42_10 : Ap (some b35_7) s42_10.ownBlock := Ap.mk (Cel.live cb35_7) (Ow.fr o42_10)
            have ap_s40_8_s42_10 : Ap s40_8.ownBlock s42_10.ownBlock := Ap.mk (Ow.live os40_8) (Ow.fr o42_10)
            have fr_s42_10 : Fr w.heap.size s42_10.ownBlock := Fr.le (Ow.fr o42_10) e0.size
            replace o42_10 := Ow.base o42_10 e0.size
            have xs1 := x1.size
            have e0 := e0.trans x1
            have c7_3 := c7_3.ext x1
            have hs := hs.ext x1
            have ho8 := ho8.ext x1
            have os35_7 := os35_7.ext x1
            have cb35_7 := cb35_7.ext x1
            have os40_8 := os40_8.ext x1
            clear x1
            refine PremP.nil ?_
            exact OpYe.val rfl (Yd.bstr Try.underlying25 Try.underlying5 Try.underlying9 rfl (Ow.rd o42_10))
          · skip
            intro w11 x1
            have xs1 := x1.size
            have e0 := e0.trans x1
            have c7_3 := c7_3.ext x1
            have hs := hs.ext x1
            have ho8 := ho8.ext x1
            have os35_7 := os35_7.ext x1
            have cb35_7 := cb35_7.ext x1
            have os40_8 := os40_8.ext x1
            clear x1
            refine PremP.nil ?_
            exact OpYe.mk rfl ((Ye.litS2 Try.underlying22 ti25 rfl rfl rfl (Ow.rd ho8) (Rd.ext hm e0)).mono fun v w2 h => ⟨⟨v, rfl, h.1⟩, h.2⟩)
          · skip
            intro w12 x1
            refine PremP.own rfl fun s42_12 o42_12 => ?_
            have o42_12b := o42_12
            have ap_b7_3_s42_12 : Ap (some b7_3) s42_12.ownBlock := Ap.mk (Cel.live c7_3) (Ow.fr o42_12)
            have ap_s1_s42_12 : Ap s1.ownBlock s42_12.ownBlock := Ap.mk (Ow.live hs) (Ow.fr o42_12)
            have ap_v8_s42_12 : Ap v8.ownBlock s42_12.ownBlock := Ap.mk (Ow.live ho8) (Ow.fr o42_12)
            have ap_s35_7_s42_12 : Ap s35_7.ownBlock s42_12.ownBlock := Ap.mk (Ow.live os35_7) (Ow.fr o42_12)
            have ap_b35_7_s42_12 : Ap (some b35_7) s42_12.ownBlock := Ap.mk (Cel.live cb35_7) (Ow.fr o42_12)
            have ap_s40_8_s42_12 : Ap s40_8.ownBlock s42_12.ownBlock := Ap.mk (Ow.live os40_8) (Ow.fr o42_12)
            have fr_s42_12 : Fr w.heap.size s42_12.ownBlock := Fr.le (Ow.fr o42_12) e0.size
            replace o42_12 := Ow.base o42_12 e0.size
            refine PremP.rl rfl fun s46_12 o46_12 => ?_
            have xs1 := x1.size
            have e0 := e0.trans x1
            have c7_3 := c7_3.ext x1
            have hs := hs.ext x1
            have ho8 := ho8.ext x1
            have os35_7 := os35_7.ext x1
            have cb35_7 := cb35_7.ext x1
            have os40_8 := os40_8.ext x1
            clear x1
            refine PremP.nil ?_
            exact OpYe.mk rfl ((Ye.call cl10 rfl (Sum256_ok o46_12 (by first | omega | (simp only [List.length_append, List.flatten_cons, List.flatten_nil, List.append_nil, Int.toNat_natCast]; omega) | (simp <;> omega)))).mono fun v w2 h => ⟨⟨v, rfl, Ow.base h.1 xs1⟩, h.2⟩)
          · skip
            intro w13 x1
            refine PremP.own rfl fun s42_13 o42_13 => ?_
            have o42_13b := o42_13
            have ap_b7_3_s42_13 : Ap (some b7_3) s42_13.ownBlock := Ap.mk (Cel.live c7_3) (Ow.fr o42_13)
            have ap_s1_s42_13 : Ap s1.ownBlock s42_13.ownBlock := Ap.mk (Ow.live hs) (Ow.fr o42_13)
            have ap_v8_s42_13 : Ap v8.ownBlock s42_13.ownBlock := Ap.mk (Ow.live ho8) (Ow.fr o42_13)
            have ap_s35_7_s42_13 : Ap s35_7.ownBlock s42_13.ownBlock := Ap.mk (Ow.live os35_7) (Ow.fr o42_13)
            have ap_b35_7_s42_13 : Ap (some b35_7) s42_13.ownBlock := Ap.mk (Cel.live cb35_7) (Ow.fr o42_13)
            have ap_s40_8_s42_13 : Ap s40_8.ownBlock s42_13.ownBlock := Ap.mk (Ow.live os40_8) (Ow.fr o42_13)
            have fr_s42_13 : Fr w.heap.size s42_13.ownBlock := Fr.le (Ow.fr o42_13) e0.size
            replace o42_13 := Ow.base o42_13 e0.size
            refine PremP.rl rfl fun s46_13 o46_13 => ?_
            refine PremP.own rfl fun s47_13 o47_13 => ?_
            have o47_13b := o47_13
            have ap_b7_3_s47_13 : Ap (some b7_3) s47_13.ownBlock := Ap.mk (Cel.live c7_3) (Ow.fr o47_13)
            have ap_s1_s47_13 : Ap s1.ownBlock s47_13.ownBlock := Ap.mk (Ow.live hs) (Ow.fr o47_13)
            have ap_v8_s47_13 : Ap v8.ownBlock s47_13.ownBlock := Ap.mk (Ow.live ho8) (Ow.fr o47_13)
            have ap_s35_7_s47_13 : Ap s35_7.ownBlock s47_13.ownBlock := Ap.mk (Ow.live os35_7) (Ow.fr o47_13)
            have ap_b35_7_s47_13 : Ap (some b35_7) s47_13.ownBlock := Ap.mk (Cel.live cb35_7) (Ow.fr o47_13)
            have ap_s40_8_s47_13 : Ap s40_8.ownBlock s47_13.ownBlock := Ap.mk (Ow.live os40_8) (Ow.fr o47_13)
            have fr_s47_13 : Fr w.heap.size s47_13.ownBlock := Fr.le (Ow.fr o47_13) e0.size
            replace o47_13 := Ow.base o47_13 e0.size
            have xs1 := x1.size
            have e0 := e0.trans x1
            have c7_3 := c7_3.ext x1
            have hs := hs.ext x1
            have ho8 := ho8.ext x1
            have os35_7 := os35_7.ext x1
            have cb35_7 := cb35_7.ext x1
            have os40_8 := os40_8.ext x1
            clear x1
            refine PremP.nil ?_
            exact OpYe.val rfl (Yd.bstr Try.underlying25 Try.underlying5 Try.underlying9 rfl (Ow.rd o47_13))
          intro w14 x1
          refine PremP.own rfl fun s42_14 o42_14 => ?_
          have o42_14b := o42_14
          have ap_b7_3_s42_14 : Ap (some b7_3) s42_14.ownBlock := Ap.mk (Cel.live c7_3) (Ow.fr o42_14)
          have ap_s1_s42_14 : Ap s1.ownBlock s42_14.ownBlock := Ap.mk (Ow.live hs) (Ow.fr o42_14)
          have ap_v8_s42_14 : Ap v8.ownBlock s42_14.ownBlock := Ap.mk (Ow.live ho8) (Ow.fr o42_14)
          have ap_s35_7_s42_14 : Ap s35_7.ownBlock s42_14.ownBlock := Ap.mk (Ow.live os35_7) (Ow.fr o42_14)
          have ap_b35_7_s42_14 : Ap (some b35_7) s42_14.ownBlock := Ap.mk (Cel.live cb35_7) (Ow.fr o42_14)
          have ap_s40_8_s42_14 : Ap s40_8.ownBlock s42_14.ownBlock := Ap.mk (Ow.live os40_8) (Ow.fr o42_14)
          have fr_s42_14 : Fr w.heap.size s42_14.ownBlock := Fr.le (Ow.fr o42_14) e0.size
          replace o42_14 := Ow.base o42_14 e0.size
          refine PremP.v rfl ?_
          refine PremP.rl rfl fun s46_14 o46_14 => ?_
          refine PremP.own rfl fun s47_14 o47_14 => ?_
          have o47_14b := o47_14
          have ap_b7_3_s47_14 : Ap (some b7_3) s47_14.ownBlock := Ap.mk (Cel.live c7_3) (Ow.fr o47_14)
          have ap_s1_s47_14 : Ap s1.ownBlock s47_14.ownBlock := Ap.mk (Ow.live hs) (Ow.fr o47_14)
          have ap_v8_s47_14 : Ap v8.ownBlock s47_14.ownBlock := Ap.mk (Ow.live ho8) (Ow.fr o47_14)
          have ap_s35_7_s47_14 : Ap s35_7.ownBlock s47_14.ownBlock := Ap.mk (Ow.live os35_7) (Ow.fr o47_14)
          have ap_b35_7_s47_14 : Ap (some b35_7) s47_14.ownBlock := Ap.mk (Cel.live cb35_7) (Ow.fr o47_14)
          have ap_s40_8_s47_14 : Ap s40_8.ownBlock s47_14.ownBlock := Ap.mk (Ow.live os40_8) (Ow.fr o47_14)
          have fr_s47_14 : Fr w.heap.size s47_14.ownBlock := Fr.le (Ow.fr o47_14) e0.size
          replace o47_14 := Ow.base o47_14 e0.size
          refine PremP.v rfl ?_
          have xs1 := x1.size
          have e0 := e0.trans x1
          have c7_3 := c7_3.ext x1
          have hs := hs.ext x1
          have ho8 := ho8.ext x1
          have os35_7 := os35_7.ext x1
          have cb35_7 := cb35_7.ext x1
          have os40_8 := os40_8.ext x1
          clear x1
          refine PremP.nil ?_
          refine J.s_op rfl (fun _ => Yd.sne rfl rfl) rfl ?_
          refine J.s_nil ?_
          refine J.n_np ?_
          refine J.n_then ?_
          refine J.know (t := 49) (v' := .bool false) rfl (ff (by simp)) ?_
          refine J.cond_false rfl ?_
          refine J.skip ?_
          refine J.n_then ?_
          refine J.seq ?_
          refine J.region ?_
          refine J.op (Yd.move rfl) rfl ?_
          refine J.op (Yd.move rfl) rfl ?_
          refine J.op (Yd.idx_l Try.underlying22 ti25 rfl rfl (Rl.ext hl e0) (by first | omega | (simp only [Int.toNat_natCast]; omega) | (simp only [List.length_map, List.length_drop, List.length_take, List.length_append, List.length_replicate]; omega) | (simp [sha256L_len, sha512L_len] <;> omega))) rfl ?_
          refine J.op (Yd.load pl25 rfl (Rl.cell (Rl.ext hl e0) (by first | omega | (simp only [Int.toNat_natCast]; omega) | (simp only [List.length_map, List.length_drop, List.length_take, List.length_append, List.length_replicate]; omega) | (simp [sha256L_len, sha512L_len] <;> omega)))) rfl ?_
          refine J.eff (Ye.call cl15 rfl (Add_ok c7_3 (Ow.base hs (Nat.zero_le _)) ap_b7_3_s1 (fun w' ht => (Rl.at' (Rl.ext hl (Ext.tnk e0 (fun q hq => by simp only [List.mem_singleton] at hq; subst hq; exact fr_b7_3) ht)) (by first | omega | (simp only [Int.toNat_natCast]; omega) | (simp only [List.length_map, List.length_drop, List.length_take, List.length_append, List.length_replicate]; omega) | (simp [sha256L_len, sha512L_len] <;> omega)))) (by first | omega | (simp only [List.length_append, List.flatten_cons, List.flatten_nil, List.append_nil, Int.toNat_natCast]; omega) | (simp <;> omega)) (by first | omega | (simp only [List.length_append, List.flatten_cons, List.flatten_nil, List.append_nil, Int.toNat_natCast]; omega) | (simp <;> omega)))) rfl ?_
          rintro _ w15 ⟨s54_15, rfl, cX2, os54_15, x1⟩
          have ap_b7_3_s54_15 : Ap (some b7_3) s54_15.ownBlock := Ap.mk (Cel.live c7_3) (Ow.fr os54_15)
          have ap_s1_s54_15 : Ap s1.ownBlock s54_15.ownBlock := Ap.mk (Ow.live hs) (Ow.fr os54_15)
          have ap_v8_s54_15 : Ap v8.ownBlock s54_15.ownBlock := Ap.mk (Ow.live ho8) (Ow.fr os54_15)
          have ap_s35_7_s54_15 : Ap s35_7.ownBlock s54_15.ownBlock := Ap.mk (Ow.live os35_7) (Ow.fr os54_15)
          have ap_b35_7_s54_15 : Ap (some b35_7) s54_15.ownBlock := Ap.mk (Cel.live cb35_7) (Ow.fr os54_15)
          have ap_s40_8_s54_15 : Ap s40_8.ownBlock s54_15.ownBlock := Ap.mk (Ow.live os40_8) (Ow.fr os54_15)
          have ap_s42_14_s54_15 : Ap s42_14.ownBlock s54_15.ownBlock := Ap.mk (Ow.live o42_14) (Ow.fr os54_15)
          have ap_s47_14_s54_15 : Ap s47_14.ownBlock s54_15.ownBlock := Ap.mk (Ow.live o47_14) (Ow.fr os54_15)
          have fr_s54_15 : Fr w.heap.size s54_15.ownBlock := Fr.le (Ow.fr os54_15) e0.size
          replace os54_15 := Ow.base os54_15 e0.size
          have hs := Ow.tnk hs x1 (ApL.one (Ap.symm ap_b7_3_s1))
          have ho8 := Ow.tnk ho8 x1 (ApL.one (Ap.symm ap_b7_3_v8))
          have os35_7 := Ow.tnk os35_7 x1 (ApL.one (Ap.symm ap_b7_3_s35_7))
          have cb35_7 := Cel.tnk cb35_7 x1 (ApL.one (Ap.symm ap_b7_3_b35_7))
          have os40_8 := Ow.tnk os40_8 x1 (ApL.one (Ap.symm ap_b7_3_s40_8))
          have o42_14 := Ow.tnk o42_14 x1 (ApL.one (Ap.symm ap_b7_3_s42_14))
          have o47_14 := Ow.tnk o47_14 x1 (ApL.one (Ap.symm ap_b7_3_s47_14))
          have e0 := Ext.tnk e0 (fun q hq => by simp only [List.mem_singleton] at hq; subst hq; exact fr_b7_3) x1
          clear x1
          replace c7_3 := cX2
          clear cX2
          refine J.nil ?_
          refine J.n_then ?_
          refine J.seq ?_
          refine J.region ?_
          refine J.op (Yd.move rfl) rfl ?_
          refine J.op (Yd.move rfl) rfl ?_
          refine J.op (Yd.move rfl) rfl ?_
          refine J.op (Yd.idx_l Try.underlying22 ti25 rfl rfl (Rl.ext hl e0) (by first | omega | (simp only [Int.toNat_natCast]; omega) | (simp only [List.length_map, List.length_drop, List.length_take, List.length_append, List.length_replicate]; omega) | (simp [sha256L_len, sha512L_len] <;> omega))) rfl ?_
          refine J.op (Yd.load pl25 rfl (Rl.cell (Rl.ext hl e0) (by first | omega | (simp only [Int.toNat_natCast]; omega) | (simp only [List.length_map, List.length_drop, List.length_take, List.length_append, List.length_replicate]; omega) | (simp [sha256L_len, sha512L_len] <;> omega)))) rfl ?_
          refine J.eff (Ye.appendS Try.underlying25 ti5 rfl rfl rfl rfl ho8 (Rl.at' (Rl.ext hl e0) (by first | omega | (simp only [Int.toNat_natCast]; omega) | (simp only [List.length_map, List.length_drop, List.length_take, List.length_append, List.length_replicate]; omega) | (simp [sha256L_len, sha512L_len] <;> omega))) (fun _ => rfl) (by simp only [Int.toNat_natCast]; omega) e0.size) rfl ?_
          rintro s60_16 w16 ⟨o60_16, hg, hsf⟩
          have ap_b7_3_s60_16 : Ap (some b7_3) s60_16.ownBlock := Ap.sf ap_b7_3_v8 (Cel.live c7_3) hsf
          have ap_s1_s60_16 : Ap s1.ownBlock s60_16.ownBlock := Ap.sf ap_s1_v8 (Ow.live hs) hsf
          have ap_s35_7_s60_16 : Ap s35_7.ownBlock s60_16.ownBlock := Ap.sf (Ap.symm ap_v8_s35_7) (Ow.live os35_7) hsf
          have ap_b35_7_s60_16 : Ap (some b35_7) s60_16.ownBlock := Ap.sf (Ap.symm ap_v8_b35_7) (Cel.live cb35_7) hsf
          have ap_s40_8_s60_16 : Ap s40_8.ownBlock s60_16.ownBlock := Ap.sf (Ap.symm ap_v8_s40_8) (Ow.live os40_8) hsf
          have ap_s42_14_s60_16 : Ap s42_14.ownBlock s60_16.ownBlock := Ap.sf (Ap.symm ap_v8_s42_14) (Ow.live o42_14) hsf
          have ap_s47_14_s60_16 : Ap s47_14.ownBlock s60_16.ownBlock := Ap.sf (Ap.symm ap_v8_s47_14) (Ow.live o47_14) hsf
          have ap_s54_15_s60_16 : Ap s54_15.ownBlock s60_16.ownBlock := Ap.sf (Ap.symm ap_v8_s54_15) (Ow.live os54_15) hsf
          have fr_s60_16 : Fr w.heap.size s60_16.ownBlock := Fr.sf fr_v8 hsf e0.size
          have c7_3 := Cel.gbk c7_3 hg ap_b7_3_v8
          have hs := Ow.gbk hs hg ap_s1_v8
          have os35_7 := Ow.gbk os35_7 hg (Ap.symm ap_v8_s35_7)
          have cb35_7 := Cel.gbk cb35_7 hg (Ap.symm ap_v8_b35_7)
          have os40_8 := Ow.gbk os40_8 hg (Ap.symm ap_v8_s40_8)
          have o42_14 := Ow.gbk o42_14 hg (Ap.symm ap_v8_s42_14)
          have o47_14 := Ow.gbk o47_14 hg (Ap.symm ap_v8_s47_14)
          have os54_15 := Ow.gbk os54_15 hg (Ap.symm ap_v8_s54_15)
          have e0 := Ext.gbk e0 fr_v8 hg
          clear hg hsf
          refine J.op (Yd.assign rfl) rfl ?_
          refine J.nil ?_
          refine J.n_then ?_
          refine J.seq ?_
          refine J.regionA [(2, true)] [(0, Asr.own 61 w16.heap.size 5 ((sha256L ((ll.take k).flatten ++ ll.getD (k : Int).toNat [])).map fun x => B x)), (1, Asr.v 62 (Str (sha256L ((ll.take k).flatten ++ ll.getD (k : Int).toNat [])))), (3, Asr.rl 64 [s60_16] [(ll.take k).flatten ++ ll.getD (k : Int).toNat []]), (4, Asr.own 65 w16.heap.size 5 ((sha256L ([(ll.take k).flatten ++ ll.getD (k : Int).toNat []] : List (List UInt8)).flatten).map fun x => B x)), (5, Asr.v 66 (Str (sha256L ([(ll.take k).flatten ++ ll.getD (k : Int).toNat []] : List (List UInt8)).flatten)))] [0, 1, 3, 4, 5] [61, 62, 64, 65, 66] [[], [0], [], [0, 2], [0, 2, 3]] [(6, true)] rfl rfl mix (by kernel_rfl) ?_
          refine J.s_op rfl (fun _ => Yd.move rfl) rfl ?_
          refine J.s_nil ?_
          refine J.a_in [0, 1, 2, 3, 4] rfl (by rfl) ⟨?_, ?_, ?_, ?_, ?_, trivial⟩ ?_
          · skip
            intro w17 x1
            have xs1 := x1.size
            have e0 := e0.trans x1
            have c7_3 := c7_3.ext x1
            have hs := hs.ext x1
            have os35_7 := os35_7.ext x1
            have cb35_7 := cb35_7.ext x1
            have os40_8 := os40_8.ext x1
            have o42_14 := o42_14.ext x1
            have o47_14 := o47_14.ext x1
            have os54_15 := os54_15.ext x1
            have o60_16 := o60_16.ext x1
            clear x1
            refine PremP.nil ?_
            exact OpYe.mk rfl ((Ye.call cl16 rfl (HSum_ok c7_3 (Ow.base os54_15 (Nat.zero_le _)) (by first | omega | (simp only [List.length_append, List.flatten_cons, List.flatten_nil, List.append_nil, Int.toNat_natCast]; omega) | (simp <;> omega)))).mono fun v w2 h => ⟨⟨v, rfl, Ow.base h.1 xs1⟩, h.2⟩)
          · skip
            intro w18 x1
            refine PremP.own rfl fun s61_18 o61_18 => ?_
            have o61_18b := o61_18
            have ap_b7_3_s61_18 : Ap (some b7_3) s61_18.ownBlock := Ap.mk (Cel.live c7_3) (Ow.fr o61_18)
            have ap_s1_s61_18 : Ap s1.ownBlock s61_18.ownBlock := Ap.mk (Ow.live hs) (Ow.fr o61_18)
            have ap_s35_7_s61_18 : Ap s35_7.ownBlock s61_18.ownBlock := Ap.mk (Ow.live os35_7) (Ow.fr o61_18)
            have ap_b35_7_s61_18 : Ap (some b35_7) s61_18.ownBlock := Ap.mk (Cel.live cb35_7) (Ow.fr o61_18)
            have ap_s40_8_s61_18 : Ap s40_8.ownBlock s61_18.ownBlock := Ap.mk (Ow.live os40_8) (Ow.fr o61_18)
            have ap_s42_14_s61_18 : Ap s42_14.ownBlock s61_18.ownBlock := Ap.mk (Ow.live o42_14) (Ow.fr o61_18)
            have ap_s47_14_s61_18 : Ap s47_14.ownBlock s61_18.ownBlock := Ap.mk (Ow.live o47_14) (Ow.fr o61_18)
            have ap_s54_15_s61_18 : Ap s54_15.ownBlock s61_18.ownBlock := Ap.mk (Ow.live os54_15) (Ow.fr o61_18)
            have ap_s60_16_s61_18 : Ap s60_16.ownBlock s61_18.ownBlock := Ap.mk (Ow.live o60_16) (Ow.fr o61_18)
            have fr_s61_18 : Fr w.heap.size s61_18.ownBlock := Fr.le (Ow.fr o61_18) e0.size
            replace o61_18 := Ow.base o61_18 e0.size
            have xs1 := x1.size
            have e0 := e0.trans x1
            have c7_3 := c7_3.ext x1
            have hs := hs.ext x1
            have os35_7 := os35_7.ext x1
            have cb35_7 := cb35_7.ext x1
            have os40_8 := os40_8.ext x1
            have o42_14 := o42_14.ext x1
            have o47_14 := o47_14.ext x1
            have os54_15 := os54_15.ext x1
            have o60_16 := o60_16.ext x1
            clear x1
            refine PremP.nil ?_
            exact OpYe.val rfl (Yd.bstr Try.underlying25 Try.underlying5 Try.underlying9 rfl (Ow.rd o61_18))
          · skip
            intro w19 x1
            have xs1 := x1.size
            have e0 := e0.trans x1
            have c7_3 := c7_3.ext x1
            have hs := hs.ext x1
            have os35_7 := os35_7.ext x1
            have cb35_7 := cb35_7.ext x1
            have os40_8 := os40_8.ext x1
            have o42_14 := o42_14.ext x1
            have o47_14 := o47_14.ext x1
            have os54_15 := os54_15.ext x1
            have o60_16 := o60_16.ext x1
            clear x1
            refine PremP.nil ?_
            exact OpYe.mk rfl ((Ye.litS1 Try.underlying22 ti25 rfl rfl (Ow.rd o60_16)).mono fun v w2 h => ⟨⟨v, rfl, h.1⟩, h.2⟩)
          · skip
            intro w20 x1
            refine PremP.own rfl fun s61_20 o61_20 => ?_
            have o61_20b := o61_20
            have ap_b7_3_s61_20 : Ap (some b7_3) s61_20.ownBlock := Ap.mk (Cel.live c7_3) (Ow.fr o61_20)
            have ap_s1_s61_20 : Ap s1.ownBlock s61_20.ownBlock := Ap.mk (Ow.live hs) (Ow.fr o61_20)
            have ap_s35_7_s61_20 : Ap s35_7.ownBlock s61_20.ownBlock := Ap.mk (Ow.live os35_7) (Ow.fr o61_20)
            have ap_b35_7_s61_20 : Ap (some b35_7) s61_20.ownBlock := Ap.mk (Cel.live cb35_7) (Ow.fr o61_20)
            have ap_s40_8_s61_20 : Ap s40_8.ownBlock s61_20.ownBlock := Ap.mk (Ow.live os40_8) (Ow.fr o61_20)
            have ap_s42_14_s61_20 : Ap s42_14.ownBlock s61_20.ownBlock := Ap.mk (Ow.live o42_14) (Ow.fr o61_20)
            have ap_s47_14_s61_20 : Ap s47_14.ownBlock s61_20.ownBlock := Ap.mk (Ow.live o47_14) (Ow.fr o61_20)
            have ap_s54_15_s61_20 : Ap s54_15.ownBlock s61_20.ownBlock := Ap.mk (Ow.live os54_15) (Ow.fr o61_20)
            have ap_s60_16_s61_20 : Ap s60_16.ownBlock s61_20.ownBlock := Ap.mk (Ow.live o60_16) (Ow.fr o61_20)
            have fr_s61_20 : Fr w.heap.size s61_20.ownBlock := Fr.le (Ow.fr o61_20) e0.size
            replace o61_20 := Ow.base o61_20 e0.size
            refine PremP.rl rfl fun s64_20 o64_20 => ?_
            have xs1 := x1.size
            have e0 := e0.trans x1
            have c7_3 := c7_3.ext x1
            have hs := hs.ext x1
            have os35_7 := os35_7.ext x1
            have cb35_7 := cb35_7.ext x1
            have os40_8 := os40_8.ext x1
            have o42_14 := o42_14.ext x1
            have o47_14 := o47_14.ext x1
            have os54_15 := os54_15.ext x1
            have o60_16 := o60_16.ext x1
            clear x1
            refine PremP.nil ?_
            exact OpYe.mk rfl ((Ye.call cl10 rfl (Sum256_ok o64_20 (by first | omega | (simp only [List.length_append, List.flatten_cons, List.flatten_nil, List.append_nil, Int.toNat_natCast]; omega) | (simp <;> omega)))).mono fun v w2 h => ⟨⟨v, rfl, Ow.base h.1 xs1⟩, h.2⟩)
          · skip
            intro w21 x1
            refine PremP.own rfl fun s61_21 o61_21 => ?_
            have o61_21b := o61_21
            have ap_b7_3_s61_21 : Ap (some b7_3) s61_21.ownBlock := Ap.mk (Cel.live c7_3) (Ow.fr o61_21)
            have ap_s1_s61_21 : Ap s1.ownBlock s61_21.ownBlock := Ap.mk (Ow.live hs) (Ow.fr o61_21)
            have ap_s35_7_s61_21 : Ap s35_7.ownBlock s61_21.ownBlock := Ap.mk (Ow.live os35_7) (Ow.fr o61_21)
            have ap_b35_7_s61_21 : Ap (some b35_7) s61_21.ownBlock := Ap.mk (Cel.live cb35_7) (Ow.fr o61_21)
            have ap_s40_8_s61_21 : Ap s40_8.ownBlock s61_21.ownBlock := Ap.mk (Ow.live os40_8) (Ow.fr o61_21)
            have ap_s42_14_s61_21 : Ap s42_14.ownBlock s61_21.ownBlock := Ap.mk (Ow.live o42_14) (Ow.fr o61_21)
            have ap_s47_14_s61_21 : Ap s47_14.ownBlock s61_21.ownBlock := Ap.mk (Ow.live o47_14) (Ow.fr o61_21)
            have ap_s54_15_s61_21 : Ap s54_15.ownBlock s61_21.ownBlock := Ap.mk (Ow.live os54_15) (Ow.fr o61_21)
            have ap_s60_16_s61_21 : Ap s60_16.ownBlock s61_21.ownBlock := Ap.mk (Ow.live o60_16) (Ow.fr o61_21)
            have fr_s61_21 : Fr w.heap.size s61_21.ownBlock := Fr.le (Ow.fr o61_21) e0.size
            replace o61_21 := Ow.base o61_21 e0.size
            refine PremP.rl rfl fun s64_21 o64_21 => ?_
            refine PremP.own rfl fun s65_21 o65_21 => ?_
            have o65_21b := o65_21
            have ap_b7_3_s65_21 : Ap (some b7_3) s65_21.ownBlock := Ap.mk (Cel.live c7_3) (Ow.fr o65_21)
            have ap_s1_s65_21 : Ap s1.ownBlock s65_21.ownBlock := Ap.mk (Ow.live hs) (Ow.fr o65_21)
            have ap_s35_7_s65_21 : Ap s35_7.ownBlock s65_21.ownBlock := Ap.mk (Ow.live os35_7) (Ow.fr o65_21)
            have ap_b35_7_s65_21 : Ap (some b35_7) s65_21.ownBlock := Ap.mk (Cel.live cb35_7) (Ow.fr o65_21)
            have ap_s40_8_s65_21 : Ap s40_8.ownBlock s65_21.ownBlock := Ap.mk (Ow.live os40_8) (Ow.fr o65_21)
            have ap_s42_14_s65_21 : Ap s42_14.ownBlock s65_21.ownBlock := Ap.mk (Ow.live o42_14) (Ow.fr o65_21)
            have ap_s47_14_s65_21 : Ap s47_14.ownBlock s65_21.ownBlock := Ap.mk (Ow.live o47_14) (Ow.fr o65_21)
            have ap_s54_15_s65_21 : Ap s54_15.ownBlock s65_21.ownBlock := Ap.mk (Ow.live os54_15) (Ow.fr o65_21)
            have ap_s60_16_s65_21 : Ap s60_16.ownBlock s65_21.ownBlock := Ap.mk (Ow.live o60_16) (Ow.fr o65_21)
            have fr_s65_21 : Fr w.heap.size s65_21.ownBlock := Fr.le (Ow.fr o65_21) e0.size
            replace o65_21 := Ow.base o65_21 e0.size
            have xs1 := x1.size
            have e0 := e0.trans x1
            have c7_3 := c7_3.ext x1
            have hs := hs.ext x1
            have os35_7 := os35_7.ext x1
            have cb35_7 := cb35_7.ext x1
            have os40_8 := os40_8.ext x1
            have o42_14 := o42_14.ext x1
            have o47_14 := o47_14.ext x1
            have os54_15 := os54_15.ext x1
            have o60_16 := o60_16.ext x1
            clear x1
            refine PremP.nil ?_
            exact OpYe.val rfl (Yd.bstr Try.underlying25 Try.underlying5 Try.underlying9 rfl (Ow.rd o65_21))
          intro w22 x1
          refine PremP.own rfl fun s61_22 o61_22 => ?_
          have o61_22b := o61_22
          have ap_b7_3_s61_22 : Ap (some b7_3) s61_22.ownBlock := Ap.mk (Cel.live c7_3) (Ow.fr o61_22)
          have ap_s1_s61_22 : Ap s1.ownBlock s61_22.ownBlock := Ap.mk (Ow.live hs) (Ow.fr o61_22)
          have ap_s35_7_s61_22 : Ap s35_7.ownBlock s61_22.ownBlock := Ap.mk (Ow.live os35_7) (Ow.fr o61_22)
          have ap_b35_7_s61_22 : Ap (some b35_7) s61_22.ownBlock := Ap.mk (Cel.live cb35_7) (Ow.fr o61_22)
          have ap_s40_8_s61_22 : Ap s40_8.ownBlock s61_22.ownBlock := Ap.mk (Ow.live os40_8) (Ow.fr o61_22)
          have ap_s42_14_s61_22 : Ap s42_14.ownBlock s61_22.ownBlock := Ap.mk (Ow.live o42_14) (Ow.fr o61_22)
          have ap_s47_14_s61_22 : Ap s47_14.ownBlock s61_22.ownBlock := Ap.mk (Ow.live o47_14) (Ow.fr o61_22)
          have ap_s54_15_s61_22 : Ap s54_15.ownBlock s61_22.ownBlock := Ap.mk (Ow.live os54_15) (Ow.fr o61_22)
          have ap_s60_16_s61_22 : Ap s60_16.ownBlock s61_22.ownBlock := Ap.mk (Ow.live o60_16) (Ow.fr o61_22)
          have fr_s61_22 : Fr w.heap.size s61_22.ownBlock := Fr.le (Ow.fr o61_22) e0.size
          replace o61_22 := Ow.base o61_22 e0.size
          refine PremP.v rfl ?_
          refine PremP.rl rfl fun s64_22 o64_22 => ?_
          refine PremP.own rfl fun s65_22 o65_22 => ?_
          have o65_22b := o65_22
          have ap_b7_3_s65_22 : Ap (some b7_3) s65_22.ownBlock := Ap.mk (Cel.live c7_3) (Ow.fr o65_22)
          have ap_s1_s65_22 : Ap s1.ownBlock s65_22.ownBlock := Ap.mk (Ow.live hs) (Ow.fr o65_22)
          have ap_s35_7_s65_22 : Ap s35_7.ownBlock s65_22.ownBlock := Ap.mk (Ow.live os35_7) (Ow.fr o65_22)
          have ap_b35_7_s65_22 : Ap (some b35_7) s65_22.ownBlock := Ap.mk (Cel.live cb35_7) (Ow.fr o65_22)
          have ap_s40_8_s65_22 : Ap s40_8.ownBlock s65_22.ownBlock := Ap.mk (Ow.live os40_8) (Ow.fr o65_22)
          have ap_s42_14_s65_22 : Ap s42_14.ownBlock s65_22.ownBlock := Ap.mk (Ow.live o42_14) (Ow.fr o65_22)
          have ap_s47_14_s65_22 : Ap s47_14.ownBlock s65_22.ownBlock := Ap.mk (Ow.live o47_14) (Ow.fr o65_22)
          have ap_s54_15_s65_22 : Ap s54_15.ownBlock s65_22.ownBlock := Ap.mk (Ow.live os54_15) (Ow.fr o65_22)
          have ap_s60_16_s65_22 : Ap s60_16.ownBlock s65_22.ownBlock := Ap.mk (Ow.live o60_16) (Ow.fr o65_22)
          have fr_s65_22 : Fr w.heap.size s65_22.ownBlock := Fr.le (Ow.fr o65_22) e0.size
          replace o65_22 := Ow.base o65_22 e0.size
          refine PremP.v rfl ?_
          have xs1 := x1.size
          have e0 := e0.trans x1
          have c7_3 := c7_3.ext x1
          have hs := hs.ext x1
          have os35_7 := os35_7.ext x1
          have cb35_7 := cb35_7.ext x1
          have os40_8 := os40_8.ext x1
          have o42_14 := o42_14.ext x1
          have o47_14 := o47_14.ext x1
          have os54_15 := os54_15.ext x1
          have o60_16 := o60_16.ext x1
          clear x1
          refine PremP.nil ?_
          refine J.s_op rfl (fun _ => Yd.sne rfl rfl) rfl ?_
          refine J.s_nil ?_
          refine J.n_np ?_
          refine J.n_then ?_
          refine J.know (t := 67) (v' := .bool false) rfl (ff (by simp)) ?_
          refine J.cond_false rfl ?_
          refine J.skip ?_
          refine J.n_block ?_
          refine J.n_then ?_
          refine J.region ?_
          refine J.op (Yd.move rfl) rfl ?_
          refine J.op (Yd.add rfl rfl (by first | omega | (simp only [Int.toNat_natCast]; omega) | (simp only [List.length_map, List.length_drop, List.length_take, List.length_append, List.length_replicate]; omega) | (simp [sha256L_len, sha512L_len] <;> omega))) rfl ?_
          refine J.op (Yd.assign rfl) rfl ?_
          refine J.nil ?_
          refine J.n_then ?_
          exact J.round ((k + 1, s54_15, s60_16)) ⟨rfl, rfl, rfl, rfl, rfl, rfl, trivial⟩ (⟨by show k + 1 ≤ ll.length; omega, by show Cel _ _ _ (hseg (ll.take (k + 1)).flatten _); rw [flat_take ll k (by omega)]; exact c7_3, by show Ob _ _ _ _ (restL (ll.take (k + 1)).flatten); rw [flat_take ll k (by omega)]; exact os54_15, by show Ob _ _ _ _ (ll.take (k + 1)).flatten; rw [flat_take ll k (by omega)]; exact o60_16, fr_s54_15, ap_b7_3_s54_15, fr_s60_16, ap_b7_3_s60_16, ap_s54_15_s60_16, e0⟩) (by show ll.length - (k + 1) < ll.length - k; omega)
        · skip
          refine J.skip ?_
          refine J.n_then ?_
          refine J.seq ?_
          refine J.region ?_
          refine J.op (Yd.move rfl) rfl ?_
          refine J.op (Yd.move rfl) rfl ?_
          refine J.op (Yd.idx_l Try.underlying22 ti25 rfl rfl (Rl.ext hl e0) (by first | omega | (simp only [Int.toNat_natCast]; omega) | (simp only [List.length_map, List.length_drop, List.length_take, List.length_append, List.length_replicate]; omega) | (simp [sha256L_len, sha512L_len] <;> omega))) rfl ?_
          refine J.op (Yd.load pl25 rfl (Rl.cell (Rl.ext hl e0) (by first | omega | (simp only [Int.toNat_natCast]; omega) | (simp only [List.length_map, List.length_drop, List.length_take, List.length_append, List.length_replicate]; omega) | (simp [sha256L_len, sha512L_len] <;> omega)))) rfl ?_
          refine J.eff (Ye.call cl15 rfl (Add_ok c7_3 (Ow.base hs (Nat.zero_le _)) ap_b7_3_s1 (fun w' ht => (Rl.at' (Rl.ext hl (Ext.tnk e0 (fun q hq => by simp only [List.mem_singleton] at hq; subst hq; exact fr_b7_3) ht)) (by first | omega | (simp only [Int.toNat_natCast]; omega) | (simp only [List.length_map, List.length_drop, List.length_take, List.length_append, List.length_replicate]; omega) | (simp [sha256L_len, sha512L_len] <;> omega)))) (by first | omega | (simp only [List.length_append, List.flatten_cons, List.flatten_nil, List.append_nil, Int.toNat_natCast]; omega) | (simp <;> omega)) (by first | omega | (simp only [List.length_append, List.flatten_cons, List.flatten_nil, List.append_nil, Int.toNat_natCast]; omega) | (simp <;> omega)))) rfl ?_
          rintro _ w23 ⟨s54_23, rfl, cX2, os54_23, x1⟩
          have ap_b7_3_s54_23 : Ap (some b7_3) s54_23.ownBlock := Ap.mk (Cel.live c7_3) (Ow.fr os54_23)
          have ap_s1_s54_23 : Ap s1.ownBlock s54_23.ownBlock := Ap.mk (Ow.live hs) (Ow.fr os54_23)
          have ap_v8_s54_23 : Ap v8.ownBlock s54_23.ownBlock := Ap.mk (Ow.live ho8) (Ow.fr os54_23)
          have fr_s54_23 : Fr w.heap.size s54_23.ownBlock := Fr.le (Ow.fr os54_23) e0.size
          replace os54_23 := Ow.base os54_23 e0.size
          have hs := Ow.tnk hs x1 (ApL.one (Ap.symm ap_b7_3_s1))
          have ho8 := Ow.tnk ho8 x1 (ApL.one (Ap.symm ap_b7_3_v8))
          have e0 := Ext.tnk e0 (fun q hq => by simp only [List.mem_singleton] at hq; subst hq; exact fr_b7_3) x1
          clear x1
          replace c7_3 := cX2
          clear cX2
          refine J.nil ?_
          refine J.n_then ?_
          refine J.seq ?_
          refine J.region ?_
          refine J.op (Yd.move rfl) rfl ?_
          refine J.op (Yd.move rfl) rfl ?_
          refine J.op (Yd.move rfl) rfl ?_
          refine J.op (Yd.idx_l Try.underlying22 ti25 rfl rfl (Rl.ext hl e0) (by first | omega | (simp only [Int.toNat_natCast]; omega) | (simp only [List.length_map, List.length_drop, List.length_take, List.length_append, List.length_replicate]; omega) | (simp [sha256L_len, sha512L_len] <;> omega))) rfl ?_
          refine J.op (Yd.load pl25 rfl (Rl.cell (Rl.ext hl e0) (by first | omega | (simp only [Int.toNat_natCast]; omega) | (simp only [List.length_map, List.length_drop, List.length_take, List.length_append, List.length_replicate]; omega) | (simp [sha256L_len, sha512L_len] <;> omega)))) rfl ?_
          refine J.eff (Ye.appendS Try.underlying25 ti5 rfl rfl rfl rfl ho8 (Rl.at' (Rl.ext hl e0) (by first | omega | (simp only [Int.toNat_natCast]; omega) | (simp only [List.length_map, List.length_drop, List.length_take, List.length_append, List.length_replicate]; omega) | (simp [sha256L_len, sha512L_len] <;> omega))) (fun _ => rfl) (by simp only [Int.toNat_natCast]; omega) e0.size) rfl ?_
          rintro s60_24 w24 ⟨o60_24, hg, hsf⟩
          have ap_b7_3_s60_24 : Ap (some b7_3) s60_24.ownBlock := Ap.sf ap_b7_3_v8 (Cel.live c7_3) hsf
          have ap_s1_s60_24 : Ap s1.ownBlock s60_24.ownBlock := Ap.sf ap_s1_v8 (Ow.live hs) hsf
          have ap_s54_23_s60_24 : Ap s54_23.ownBlock s60_24.ownBlock := Ap.sf (Ap.symm ap_v8_s54_23) (Ow.live os54_23) hsf
          have fr_s60_24 : Fr w.heap.size s60_24.ownBlock := Fr.sf fr_v8 hsf e0.size
          have c7_3 := Cel.gbk c7_3 hg ap_b7_3_v8
          have hs := Ow.gbk hs hg ap_s1_v8
          have os54_23 := Ow.gbk os54_23 hg (Ap.symm ap_v8_s54_23)
          have e0 := Ext.gbk e0 fr_v8 hg
          clear hg hsf
          refine J.op (Yd.assign rfl) rfl ?_
          refine J.nil ?_
          refine J.n_then ?_
          refine J.seq ?_
          refine J.regionA [(2, true)] [(0, Asr.own 61 w24.heap.size 5 ((sha256L ((ll.take k).flatten ++ ll.getD (k : Int).toNat [])).map fun x => B x)), (1, Asr.v 62 (Str (sha256L ((ll.take k).flatten ++ ll.getD (k : Int).toNat [])))), (3, Asr.rl 64 [s60_24] [(ll.take k).flatten ++ ll.getD (k : Int).toNat []]), (4, Asr.own 65 w24.heap.size 5 ((sha256L ([(ll.take k).flatten ++ ll.getD (k : Int).toNat []] : List (List UInt8)).flatten).map fun x => B x)), (5, Asr.v 66 (Str (sha256L ([(ll.take k).flatten ++ ll.getD (k : Int).toNat []] : List (List UInt8)).flatten)))] [0, 1, 3, 4, 5] [61, 62, 64, 65, 66] [[], [0], [], [0, 2], [0, 2, 3]] [(6, true)] rfl rfl mix (by kernel_rfl) ?_
          refine J.s_op rfl (fun _ => Yd.move rfl) rfl ?_
          refine J.s_nil ?_
          refine J.a_in [0, 1, 2, 3, 4] rfl (by rfl) ⟨?_, ?_, ?_, ?_, ?_, trivial⟩ ?_
          · skip
            intro w25 x1
            have xs1 := x1.size
            have e0 := e0.trans x1
            have c7_3 := c7_3.ext x1
            have hs := hs.ext x1
            have os54_23 := os54_23.ext x1
            have o60_24 := o60_24.ext x1
            clear x1
            refine PremP.nil ?_
            exact OpYe.mk rfl ((Ye.call cl16 rfl (HSum_ok c7_3 (Ow.base os54_23 (Nat.zero_le _)) (by first | omega | (simp only [List.length_append, List.flatten_cons, List.flatten_nil, List.append_nil, Int.toNat_natCast]; omega) | (simp <;> omega)))).mono fun v w2 h => ⟨⟨v, rfl, Ow.base h.1 xs1⟩, h.2⟩)
          · skip
            intro w26 x1
            refine PremP.own rfl fun s61_26 o61_26 => ?_
            have o61_26b := o61_26
            have ap_b7_3_s61_26 : Ap (some b7_3) s61_26.ownBlock := Ap.mk (Cel.live c7_3) (Ow.fr o61_26)
            have ap_s1_s61_26 : Ap s1.ownBlock s61_26.ownBlock := Ap.mk (Ow.live hs) (Ow.fr o61_26)
            have ap_s54_23_s61_26 : Ap s54_23.ownBlock s61_26.ownBlock := Ap.mk (Ow.live os54_23) (Ow.fr o61_26)
            have ap_s60_24_s61_26 : Ap s60_24.ownBlock s61_26.ownBlock := Ap.mk (Ow.live o60_24) (Ow.fr o61_26)
            have fr_s61_26 : Fr w.heap.size s61_26.ownBlock := Fr.le (Ow.fr o61_26) e0.size
            replace o61_26 := Ow.base o61_26 e0.size
            have xs1 := x1.size
            have e0 := e0.trans x1
            have c7_3 := c7_3.ext x1
            have hs := hs.ext x1
            have os54_23 := os54_23.ext x1
            have o60_24 := o60_24.ext x1
            clear x1
            refine PremP.nil ?_
            exact OpYe.val rfl (Yd.bstr Try.underlying25 Try.underlying5 Try.underlying9 rfl (Ow.rd o61_26))
          · skip
            intro w27 x1
            have xs1 := x1.size
            have e0 := e0.trans x1
            have c7_3 := c7_3.ext x1
            have hs := hs.ext x1
            have os54_23 := os54_23.ext x1
            have o60_24 := o60_24.ext x1
            clear x1
            refine PremP.nil ?_
            exact OpYe.mk rfl ((Ye.litS1 Try.underlying22 ti25 rfl rfl (Ow.rd o60_24)).mono fun v w2 h => ⟨⟨v, rfl, h.1⟩, h.2⟩)
          · skip
            intro w28 x1
            refine PremP.own rfl fun s61_28 o61_28 => ?_
            have o61_28b := o61_28
            have ap_b7_3_s61_28 : Ap (some b7_3) s61_28.ownBlock := Ap.mk (Cel.live c7_3) (Ow.fr o61_28)
            have ap_s1_s61_28 : Ap s1.ownBlock s61_28.ownBlock := Ap.mk (Ow.live hs) (Ow.fr o61_28)
            have ap_s54_23_s61_28 : Ap s54_23.ownBlock s61_28.ownBlock := Ap.mk (Ow.live os54_23) (Ow.fr o61_28)
            have ap_s60_24_s61_28 : Ap s60_24.ownBlock s61_28.ownBlock := Ap.mk (Ow.live o60_24) (Ow.fr o61_28)
            have fr_s61_28 : Fr w.heap.size s61_28.ownBlock := Fr.le (Ow.fr o61_28) e0.size
            replace o61_28 := Ow.base o61_28 e0.size
            refine PremP.rl rfl fun s64_28 o64_28 => ?_
            have xs1 := x1.size
            have e0 := e0.trans x1
            have c7_3 := c7_3.ext x1
            have hs := hs.ext x1
            have os54_23 := os54_23.ext x1
            have o60_24 := o60_24.ext x1
            clear x1
            refine PremP.nil ?_
            exact OpYe.mk rfl ((Ye.call cl10 rfl (Sum256_ok o64_28 (by first | omega | (simp only [List.length_append, List.flatten_cons, List.flatten_nil, List.append_nil, Int.toNat_natCast]; omega) | (simp <;> omega)))).mono fun v w2 h => ⟨⟨v, rfl, Ow.base h.1 xs1⟩, h.2⟩)
          · skip
            intro w29 x1
            refine PremP.own rfl fun s61_29 o61_29 => ?_
            have o61_29b := o61_29
            have ap_b7_3_s61_29 : Ap (some b7_3) s61_29.ownBlock := Ap.mk (Cel.live c7_3) (Ow.fr o61_29)
            have ap_s1_s61_29 : Ap s1.ownBlock s61_29.ownBlock := Ap.mk (Ow.live hs) (Ow.fr o61_29)
            have ap_s54_23_s61_29 : Ap s54_23.ownBlock s61_29.ownBlock := Ap.mk (Ow.live os54_23) (Ow.fr o61_29)
            have ap_s60_24_s61_29 : Ap s60_24.ownBlock s61_29.ownBlock := Ap.mk (Ow.live o60_24) (Ow.fr o61_29)
            have fr_s61_29 : Fr w.heap.size s61_29.ownBlock := Fr.le (Ow.fr o61_29) e0.size
            replace o61_29 := Ow.base o61_29 e0.size
            refine PremP.rl rfl fun s64_29 o64_29 => ?_
            refine PremP.own rfl fun s65_29 o65_29 => ?_
            have o65_29b := o65_29
            have ap_b7_3_s65_29 : Ap (some b7_3) s65_29.ownBlock := Ap.mk (Cel.live c7_3) (Ow.fr o65_29)
            have ap_s1_s65_29 : Ap s1.ownBlock s65_29.ownBlock := Ap.mk (Ow.live hs) (Ow.fr o65_29)
            have ap_s54_23_s65_29 : Ap s54_23.ownBlock s65_29.ownBlock := Ap.mk (Ow.live os54_23) (Ow.fr o65_29)
            have ap_s60_24_s65_29 : Ap s60_24.ownBlock s65_29.ownBlock := Ap.mk (Ow.live o60_24) (Ow.fr o65_29)
            have fr_s65_29 : Fr w.heap.size s65_29.ownBlock := Fr.le (Ow.fr o65_29) e0.size
            replace o65_29 := Ow.base o65_29 e0.size
            have xs1 := x1.size
            have e0 := e0.trans x1
            have c7_3 := c7_3.ext x1
            have hs := hs.ext x1
            have os54_23 := os54_23.ext x1
            have o60_24 := o60_24.ext x1
            clear x1
            refine PremP.nil ?_
            exact OpYe.val rfl (Yd.bstr Try.underlying25 Try.underlying5 Try.underlying9 rfl (Ow.rd o65_29))
          intro w30 x1
          refine PremP.own rfl fun s61_30 o61_30 => ?_
          have o61_30b := o61_30
          have ap_b7_3_s61_30 : Ap (some b7_3) s61_30.ownBlock := Ap.mk (Cel.live c7_3) (Ow.fr o61_30)
          have ap_s1_s61_30 : Ap s1.ownBlock s61_30.ownBlock := Ap.mk (Ow.live hs) (Ow.fr o61_30)
          have ap_s54_23_s61_30 : Ap s54_23.ownBlock s61_30.ownBlock := Ap.mk (Ow.live os54_23) (Ow.fr o61_30)
          have ap_s60_24_s61_30 : Ap s60_24.ownBlock s61_30.ownBlock := Ap.mk (Ow.live o60_24) (Ow.fr o61_30)
          have fr_s61_30 : Fr w.heap.size s61_30.ownBlock := Fr.le (Ow.fr o61_30) e0.size
          replace o61_30 := Ow.base o61_30 e0.size
          refine PremP.v rfl ?_
          refine PremP.rl rfl fun s64_30 o64_30 => ?_
          refine PremP.own rfl fun s65_30 o65_30 => ?_
          have o65_30b := o65_30
          have ap_b7_3_s65_30 : Ap (some b7_3) s65_30.ownBlock := Ap.mk (Cel.live c7_3) (Ow.fr o65_30)
          have ap_s1_s65_30 : Ap s1.ownBlock s65_30.ownBlock := Ap.mk (Ow.live hs) (Ow.fr o65_30)
          have ap_s54_23_s65_30 : Ap s54_23.ownBlock s65_30.ownBlock := Ap.mk (Ow.live os54_23) (Ow.fr o65_30)
          have ap_s60_24_s65_30 : Ap s60_24.ownBlock s65_30.ownBlock := Ap.mk (Ow.live o60_24) (Ow.fr o65_30)
          have fr_s65_30 : Fr w.heap.size s65_30.ownBlock := Fr.le (Ow.fr o65_30) e0.size
          replace o65_30 := Ow.base o65_30 e0.size
          refine PremP.v rfl ?_
          have xs1 := x1.size
          have e0 := e0.trans x1
          have c7_3 := c7_3.ext x1
          have hs := hs.ext x1
          have os54_23 := os54_23.ext x1
          have o60_24 := o60_24.ext x1
          clear x1
          refine PremP.nil ?_
          refine J.s_op rfl (fun _ => Yd.sne rfl rfl) rfl ?_
          refine J.s_nil ?_
          refine J.n_np ?_
          refine J.n_then ?_
          refine J.know (t := 67) (v' := .bool false) rfl (ff (by simp)) ?_
          refine J.cond_false rfl ?_
          refine J.skip ?_
          refine J.n_block ?_
          refine J.n_then ?_
          refine J.region ?_
          refine J.op (Yd.move rfl) rfl ?_
          refine J.op (Yd.add rfl rfl (by first | omega | (simp only [Int.toNat_natCast]; omega) | (simp only [List.length_map, List.length_drop, List.length_take, List.length_append, List.length_replicate]; omega) | (simp [sha256L_len, sha512L_len] <;> omega))) rfl ?_
          refine J.op (Yd.assign rfl) rfl ?_
          refine J.nil ?_
          refine J.n_then ?_
          exact J.round ((k + 1, s54_23, s60_24)) ⟨rfl, rfl, rfl, rfl, rfl, rfl, trivial⟩ (⟨by show k + 1 ≤ ll.length; omega, by show Cel _ _ _ (hseg (ll.take (k + 1)).flatten _); rw [flat_take ll k (by omega)]; exact c7_3, by show Ob _ _ _ _ (restL (ll.take (k + 1)).flatten); rw [flat_take ll k (by omega)]; exact os54_23, by show Ob _ _ _ _ (ll.take (k + 1)).flatten; rw [flat_take ll k (by omega)]; exact o60_24, fr_s54_23, ap_b7_3_s54_23, fr_s60_24, ap_b7_3_s60_24, ap_s54_23_s60_24, e0⟩) (by show ll.length - (k + 1) < ll.length - k; omega)
      · skip
        refine J.exit ?_
        refine J.x_then ?_
        refine J.x_then ?_
        refine J.x_block ?_
        refine J.n_then ?_
        refine J.seq ?_
        refine J.region ?_
        refine J.op (Yd.assign rfl) rfl ?_
        refine J.nil ?_
        refine J.n_then ?_
        refine J.seq ?_
        refine J.region ?_
        refine J.op (Yd.move rfl) rfl ?_
        refine J.op (Yd.move rfl) rfl ?_
        refine J.eff (Ye.call cl15 rfl (AddNil_ok)) rfl ?_
        rintro _ w31 ⟨rfl, x1⟩
        have e0 := e0.trans x1
        have c7_3 := c7_3.ext x1
        have hs := hs.ext x1
        have ho8 := ho8.ext x1
        clear x1
        refine J.nil ?_
        refine J.n_then ?_
        refine J.seq ?_
        refine J.region ?_
        refine J.op (Yd.move rfl) rfl ?_
        refine J.eff (Ye.call cl16 rfl (HSumNil_ok)) rfl ?_
        rintro _ w32 ⟨rfl, x1⟩
        have e0 := e0.trans x1
        have c7_3 := c7_3.ext x1
        have hs := hs.ext x1
        have ho8 := ho8.ext x1
        clear x1
        refine J.op (Yd.len_nil Try.underlying25 rfl) rfl ?_
        refine J.op (Yd.eql rfl rfl) rfl ?_
        refine J.op (Yd.move rfl) rfl ?_
        refine J.know (t := 75) (v' := .bool true) rfl (tt (by rfl)) ?_
        refine J.op_g rfl rfl rfl (Yd.move rfl) rfl ?_
        refine J.eff_g rfl rfl rfl (Ye.call cl17 rfl (HCopyNil_ok)) rfl ?_
        rintro _ w33 ⟨rfl, x1⟩
        have e0 := e0.trans x1
        have c7_3 := c7_3.ext x1
        have hs := hs.ext x1
        have ho8 := ho8.ext x1
        clear x1
        refine J.op_g rfl rfl rfl (Yd.cast (Yd.eqPn Try.underlying41 rfl rfl) (show _ = Value.bool true from rfl)) rfl ?_
        refine J.op (Yd.pick_t rfl rfl) rfl ?_
        refine J.op (Yd.move rfl) rfl ?_
        refine J.eff_g rfl rfl rfl (Ye.call cl8 rfl (awake_ok)) rfl ?_
        rintro _ w34 ⟨rfl, x1⟩
        have e0 := e0.trans x1
        have c7_3 := c7_3.ext x1
        have hs := hs.ext x1
        have ho8 := ho8.ext x1
        clear x1
        refine J.op (Yd.pick_t rfl rfl) rfl ?_
        refine J.op (Yd.assign rfl) rfl ?_
        refine J.nil ?_
        refine J.n_then ?_
        refine J.ret ?_
        exact J.ret1 rfl rfl (⟨_, rfl, rfl, e0⟩)
end Ytipbmjbdmpcgoaa
end Go.Proofs
