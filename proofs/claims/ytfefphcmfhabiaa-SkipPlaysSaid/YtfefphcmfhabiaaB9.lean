import Derived.Test.YtfefphcmfhabiaaT
import Derived.Test.YtfefphcmfhabiaaX22
import Derived.Test.YtfefphcmfhabiaaB7
set_option linter.unusedVariables false
set_option linter.unusedSimpArgs false
set_option maxRecDepth 100000
set_option maxHeartbeats 4000000
namespace Go.Proofs
open Go.X Go.RowKit
namespace Ytfefphcmfhabiaa
theorem RSave_ok {b : Nat} {n : Int} {s : Value} {es : List Ent} {w : World} {L : List Key} (hc : Cel w b 46 [(0, 1, [I n]), (1, 1, [s])]) (hr : Er entS w s es) (hA : All2 (KB w) es L) (hK : KOK L) (hn : 1 ≤ n ∧ n ≤ 1000) (hL : L.length ≤ 1000) : C Try.prog 22 [.pointer (some ⟨b, 0, none⟩)] w (Ret fun v w' => Ob w.heap.size 5 w' v (savB n L) ∧ Ext w w') := by
  have hlen := hA.len
  have hmx := Er.max hr
  have e0 := Ext.refl w
  refine C.enter Try.func22 rfl Try.ntmps22 rfl ?_
  refine J.seq ?_
  refine J.region ?_
  refine J.op (Yd.assign rfl) rfl ?_
  refine J.nil ?_
  refine J.n_then ?_
  refine J.seq ?_
  refine J.regionR mix (by kernel_rfl) (n := 16) rfl ?_
  refine J.rg_seq (m := 10) [(0, true), (1, true), (2, true), (6, true), (7, true), (8, true)] rfl (by kernel_rfl) ?_
  refine J.s_op rfl (fun _ => Yd.move rfl) rfl ?_
  refine J.s_op rfl (fun _ => Yd.nilCheck rfl) rfl ?_
  refine J.s_op rfl (fun _ => Yd.cast (Yd.fieldA Try.underlying46 rfl ti3 rfl rfl) (show _ = Value.pointer (some ⟨b, 0, none⟩) from rfl)) rfl ?_
  refine J.s_op rfl (fun _ => Yd.move rfl) rfl ?_
  refine J.s_op rfl (fun _ => Yd.nilCheck rfl) rfl ?_
  refine J.s_op rfl (fun _ => Yd.cast (Yd.fieldA Try.underlying46 rfl ti44 rfl rfl) (show _ = Value.pointer (some ⟨b, 1, none⟩) from rfl)) rfl ?_
  refine J.s_nil ?_
  have lolAT : LoL w.heap.size [] := LoL.nil
  refine J.rg_blk (m := 3) [(3, AsrT.v [] 8 (I n)), (4, AsrT.v [] 9 (W64 (UInt64.ofNat n.toNat))), (5, AsrT.own [] 10 w.heap.size 5 ((putN (UInt64.ofNat n.toNat)).map fun x : UInt8 => B x)), (9, AsrT.v [] 14 (s)), (10, AsrT.v [] 15 (I (es.length : Int))), (11, AsrT.v [] 16 (W64 (UInt64.ofNat (es.length : Int).toNat))), (12, AsrT.own [] 17 w.heap.size 5 ((putN (UInt64.ofNat (es.length : Int).toNat)).map fun x : UInt8 => B x))] [3, 4, 5, 9, 10, 11, 12] [8, 9, 10, 14, 15, 16, 17] [[], [0], [0, 1], [], [3], [3, 4], [0, 1, 2, 3, 4, 5]] [[], [], [], [], [], [], []] [] [] rfl rfl rfl rfl ⟨(fun p hp => by cases hp), (fun p hp => by cases hp), (fun p hp => by cases hp), (fun p hp => by cases hp), (fun p hp => by cases hp), (fun p hp => by cases hp), (fun p hp => by cases hp), trivial⟩ (by kernel_rfl) ?_
  refine J.at_in [0, 1, 2, 3, 4, 5, 6] rfl (by rfl) ⟨?_, ?_, ?_, ?_, ?_, ?_, ?_, trivial⟩ ?_
  · skip
    intro w1 x1
    have x1 : Tn [] w w1 := x1
    have xs1 := x1.size
    have x1 := Tn.nil x1
    have e0 := e0.trans x1
    clear x1
    refine PremT.nil ?_
    exact OpYeT.val rfl (Yd.load pl3 rfl (Cel.cell1 (Cel.ext hc e0) 0 rfl))
  · skip
    intro w2 x1
    refine PremT.v rfl ?_
    have x1 : Tn [] w w2 := x1
    have xs1 := x1.size
    have x1 := Tn.nil x1
    have e0 := e0.trans x1
    clear x1
    refine PremT.nil ?_
    exact OpYeT.val rfl (Yd.cv_i_64 Try.underlying3 Try.underlying68 rfl (by first | omega | exact idx_u8' _ | (simp only [Int.toNat_natCast]; omega) | (simp only [List.length_map, List.length_drop, List.length_take, List.length_append, List.length_replicate]; omega) | (simp <;> omega)))
  · skip
    intro w3 x1
    refine PremT.v rfl ?_
    refine PremT.v rfl ?_
    have x1 : Tn [] w w3 := x1
    have xs1 := x1.size
    have x1 := Tn.nil x1
    have e0 := e0.trans x1
    clear x1
    refine PremT.nil ?_
    exact OpYeT.mk rfl (Ye.mono (Ye.call cl45 rfl (RefNum_ok)) fun v w2 h => ⟨⟨v, rfl, own_cl (Ow.base h.1 xs1) LoL.nil⟩, Ext.tn h.2 _⟩)
  · skip
    intro w4 x1
    have x1 : Tn [] w w4 := x1
    have xs1 := x1.size
    have x1 := Tn.nil x1
    have e0 := e0.trans x1
    clear x1
    refine PremT.nil ?_
    exact OpYeT.val rfl (Yd.load pl44 rfl (Cel.cell1 (Cel.ext hc e0) 1 rfl))
  · skip
    intro w5 x1
    refine PremT.v rfl ?_
    have x1 : Tn [] w w5 := x1
    have xs1 := x1.size
    have x1 := Tn.nil x1
    have e0 := e0.trans x1
    clear x1
    refine PremT.nil ?_
    exact OpYeT.val rfl (Yd.lenE (K := entS) Try.underlying44 rfl (Er.ext hr e0))
  · skip
    intro w6 x1
    refine PremT.v rfl ?_
    refine PremT.v rfl ?_
    have x1 : Tn [] w w6 := x1
    have xs1 := x1.size
    have x1 := Tn.nil x1
    have e0 := e0.trans x1
    clear x1
    refine PremT.nil ?_
    exact OpYeT.val rfl (Yd.cv_i_64 Try.underlying3 Try.underlying68 rfl (by first | omega | exact idx_u8' _ | (simp only [Int.toNat_natCast]; omega) | (simp only [List.length_map, List.length_drop, List.length_take, List.length_append, List.length_replicate]; omega) | (simp <;> omega)))
  · skip
    intro w7 x1
    refine PremT.v rfl ?_
    refine PremT.v rfl ?_
    refine PremT.a rfl fun s10_7 o10_7 => ?_
    have o10_7 := o10_7 _ (Tn.refl _ _)
    have fr_s10_7 : Fr w.heap.size s10_7.ownBlock := Fr.le (Ow.fr o10_7) e0.size
    replace o10_7 := Ow.base o10_7 e0.size
    refine PremT.v rfl ?_
    refine PremT.v rfl ?_
    refine PremT.v rfl ?_
    have x1 : Tn [] w w7 := x1
    have xs1 := x1.size
    have x1 := Tn.nil x1
    have e0 := e0.trans x1
    clear x1
    refine PremT.nil ?_
    exact OpYeT.mk rfl (Ye.mono (Ye.call cl45 rfl (RefNum_ok)) fun v w2 h => ⟨⟨v, rfl, own_cl (Ow.base h.1 xs1) LoL.nil⟩, Ext.tn h.2 _⟩)
  intro w8 x1
  refine PremT.v rfl ?_
  refine PremT.v rfl ?_
  refine PremT.a rfl fun s10_8 o10_8 => ?_
  have o10_8 := o10_8 _ (Tn.refl _ _)
  have fr_s10_8 : Fr w.heap.size s10_8.ownBlock := Fr.le (Ow.fr o10_8) e0.size
  replace o10_8 := Ow.base o10_8 e0.size
  refine PremT.v rfl ?_
  refine PremT.v rfl ?_
  refine PremT.v rfl ?_
  refine PremT.a rfl fun s17_8 o17_8 => ?_
  have o17_8 := o17_8 _ (Tn.refl _ _)
  have fr_s17_8 : Fr w.heap.size s17_8.ownBlock := Fr.le (Ow.fr o17_8) e0.size
  replace o17_8 := Ow.base o17_8 e0.size
  have x1 : Tn [] w w8 := x1
  have xs1 := x1.size
  have x1 := Tn.nil x1
  have e0 := e0.trans x1
  clear x1
  refine PremT.nil ?_
  refine J.rg_seq (m := 0) [(13, false), (14, false), (15, true)] rfl (by kernel_rfl) ?_
  refine J.s_eff rfl (Ye.litS2 Try.underlying95 ti29 rfl rfl rfl (Ow.rd o10_8) (Ow.rd o17_8)) rfl ?_
  rintro s18_9 w9 ⟨o18_9, x1⟩
  have e0 := e0.trans x1
  have o10_8 := o10_8.ext x1
  have o17_8 := o17_8.ext x1
  clear x1
  refine J.s_eff rfl (Ye.call cl44 rfl (RCat_ok o18_9 (by have h92 := putN_len (UInt64.ofNat n.toNat); have h93 := putN_len (UInt64.ofNat (es.length : Int).toNat); simp only [List.flatten_cons, List.flatten_nil, List.length_append, List.length_nil]; omega))) rfl ?_
  rintro s19_10 w10 ⟨os19_10, x1⟩
  have ap_s10_8_s19_10 : Ap s10_8.ownBlock s19_10.ownBlock := Ap.mk (Ow.live o10_8) (Ow.fr os19_10)
  have ap_s17_8_s19_10 : Ap s17_8.ownBlock s19_10.ownBlock := Ap.mk (Ow.live o17_8) (Ow.fr os19_10)
  have fr_s19_10 : Fr w.heap.size s19_10.ownBlock := Fr.le (Ow.fr os19_10) e0.size
  replace os19_10 := Ow.base os19_10 e0.size
  have e0 := e0.trans x1
  have o10_8 := o10_8.ext x1
  have o17_8 := o17_8.ext x1
  have o18_9 := o18_9.ext x1
  clear x1
  refine J.s_op rfl (fun _ => Yd.assign rfl) rfl ?_
  refine J.s_nil ?_
  refine J.rg_nil (by kernel_rfl) ?_
  refine J.n_np ?_
  refine J.n_then ?_
  refine J.seq ?_
  refine J.seq ?_
  refine J.region ?_
  refine J.op (Yd.assign rfl) rfl ?_
  refine J.nil ?_
  refine J.n_then ?_
  refine J.block ?_
  refine J.loop (ι := Nat × Value) (fun i => [(4, I (i.1 : Int)), (0, .pointer (some ⟨b, 0, none⟩)), (3, i.2)]) (fun i w' => i.1 ≤ es.length ∧ Ob w.heap.size 5 w' i.2 ((putN (UInt64.ofNat n.toNat) ++ putN (UInt64.ofNat L.length)) ++ (L.take i.1).flatMap encK) ∧ Fr w.heap.size (i.2).ownBlock ∧ Ext w w') (fun i => es.length - i.1) ((0, s19_10)) ⟨rfl, rfl, rfl, trivial⟩ (⟨Nat.zero_le _, (by have h9 := os19_10; rw [Int.toNat_natCast, hlen] at h9; simp only [List.flatten_cons, List.flatten_nil, List.append_nil] at h9; rw [List.take_zero, List.flatMap_nil, List.append_nil]; exact h9), fr_s19_10, e0⟩) ?_
  rintro ⟨i, v3⟩ w11 ⟨hk, ho3, fr_v3, e0⟩
  dsimp only at *
  refine J.seq ?_
  refine J.seq ?_
  refine J.region ?_
  refine J.op (Yd.move rfl) rfl ?_
  refine J.op (Yd.move rfl) rfl ?_
  refine J.op (Yd.nilCheck rfl) rfl ?_
  refine J.op (Yd.cast (Yd.fieldA Try.underlying46 rfl ti44 rfl rfl) (show _ = Value.pointer (some ⟨b, 1, none⟩) from rfl)) rfl ?_
  refine J.op (Yd.load pl44 rfl (Cel.cell1 (Cel.ext hc e0) 1 rfl)) rfl ?_
  refine J.op (Yd.lenE (K := entS) Try.underlying44 rfl (Er.ext hr e0)) rfl ?_
  refine J.op (Yd.lss rfl rfl) rfl ?_
  refine J.nil ?_
  refine J.n_then ?_
  refine J.cond_dec rfl (fun hc0 => ?_) (fun hc0 => ?_)
  · skip
    refine J.skip ?_
    refine J.n_then ?_
    refine J.seq ?_
    refine J.block ?_
    refine J.regionR mix (by kernel_rfl) (n := 32) rfl ?_
    refine J.rg_seq (m := 19) [(0, true), (1, true), (2, true), (3, true), (5, true), (11, true), (12, true), (13, true), (15, true), (21, true), (22, true), (23, true), (25, true)] rfl (by kernel_rfl) ?_
    have hkr := hA.get entD kD i (by omega)
    have hkk := hK _ (getD_memE kD (show i < L.length by omega))
    have hx1 : 0 ≤ (es.getD i entD).1 ∧ (es.getD i entD).1 ≤ 1099511627776 := by rw [hkr.1]; exact hkk.1
    have hx2 : 0 ≤ (es.getD i entD).2.1 ∧ (es.getD i entD).2.1 ≤ 1099511627776 := by rw [hkr.2.1]; exact hkk.2.1
    have hky := hkr.2.2
    refine J.s_op rfl (fun _ => Yd.move rfl) rfl ?_
    refine J.s_op rfl (fun _ => Yd.move rfl) rfl ?_
    refine J.s_op rfl (fun _ => Yd.nilCheck rfl) rfl ?_
    refine J.s_op rfl (fun _ => Yd.cast (Yd.fieldA Try.underlying46 rfl ti44 rfl rfl) (show _ = Value.pointer (some ⟨b, 1, none⟩) from rfl)) rfl ?_
    refine J.s_op rfl (fun _ => Yd.move rfl) rfl ?_
    refine J.s_op rfl (fun _ => Yd.move rfl) rfl ?_
    refine J.s_op rfl (fun _ => Yd.nilCheck rfl) rfl ?_
    refine J.s_op rfl (fun _ => Yd.cast (Yd.fieldA Try.underlying46 rfl ti44 rfl rfl) (show _ = Value.pointer (some ⟨b, 1, none⟩) from rfl)) rfl ?_
    refine J.s_op rfl (fun _ => Yd.move rfl) rfl ?_
    refine J.s_op rfl (fun _ => Yd.move rfl) rfl ?_
    refine J.s_op rfl (fun _ => Yd.nilCheck rfl) rfl ?_
    refine J.s_op rfl (fun _ => Yd.cast (Yd.fieldA Try.underlying46 rfl ti44 rfl rfl) (show _ = Value.pointer (some ⟨b, 1, none⟩) from rfl)) rfl ?_
    refine J.s_op rfl (fun _ => Yd.move rfl) rfl ?_
    refine J.s_nil ?_
    have lolAT : LoL w11.heap.size [] := LoL.nil
    refine J.rg_blk (m := 3) [(4, AsrT.v [] 33 (s)), (6, AsrT.v [] 35 (.pointer (some (adr s ((i : Int).toNat * entS.sz))))), (7, AsrT.v [] 36 (.pointer (some (adr s ((i : Int).toNat * entS.sz + 0))))), (8, AsrT.v [] 37 (I (es.getD (i : Int).toNat entD).1)), (9, AsrT.v [] 38 (W64 (UInt64.ofNat (es.getD (i : Int).toNat entD).1.toNat))), (10, AsrT.own [] 39 w11.heap.size 5 ((putN (UInt64.ofNat (es.getD (i : Int).toNat entD).1.toNat)).map fun x : UInt8 => B x)), (14, AsrT.v [] 43 (s)), (16, AsrT.v [] 45 (.pointer (some (adr s ((i : Int).toNat * entS.sz))))), (17, AsrT.v [] 46 (.pointer (some (adr s ((i : Int).toNat * entS.sz + 1))))), (18, AsrT.v [] 47 (I (es.getD (i : Int).toNat entD).2.1)), (19, AsrT.v [] 48 (W64 (UInt64.ofNat (es.getD (i : Int).toNat entD).2.1.toNat))), (20, AsrT.own [] 49 w11.heap.size 5 ((putN (UInt64.ofNat (es.getD (i : Int).toNat entD).2.1.toNat)).map fun x : UInt8 => B x)), (24, AsrT.v [] 53 (s)), (26, AsrT.v [] 55 (.pointer (some (adr s ((i : Int).toNat * entS.sz))))), (27, AsrT.v [] 56 (.pointer (some (adr s ((i : Int).toNat * entS.sz + 2))))), (28, AsrT.v [] 57 ((es.getD (i : Int).toNat entD).2.2))] [4, 6, 7, 8, 9, 10, 14, 16, 17, 18, 19, 20, 24, 26, 27, 28] [33, 35, 36, 37, 38, 39, 43, 45, 46, 47, 48, 49, 53, 55, 56, 57] [[], [0], [0, 1], [0, 1, 2], [0, 1, 2, 3], [0, 1, 2, 3, 4], [], [6], [6, 7], [6, 7, 8], [6, 7, 8, 9], [0, 1, 2, 3, 4, 5, 6, 7, 8, 9, 10], [], [12], [12, 13], [12, 13, 14]] [[], [], [], [], [], [], [], [], [], [], [], [], [], [], [], []] [] [] rfl rfl rfl rfl ⟨(fun p hp => by cases hp), (fun p hp => by cases hp), (fun p hp => by cases hp), (fun p hp => by cases hp), (fun p hp => by cases hp), (fun p hp => by cases hp), (fun p hp => by cases hp), (fun p hp => by cases hp), (fun p hp => by cases hp), (fun p hp => by cases hp), (fun p hp => by cases hp), (fun p hp => by cases hp), (fun p hp => by cases hp), (fun p hp => by cases hp), (fun p hp => by cases hp), (fun p hp => by cases hp), trivial⟩ (by kernel_rfl) ?_
    refine J.at_in [0, 1, 2, 3, 4, 5, 6, 7, 8, 9, 10, 11, 12, 13, 14, 15] rfl (by rfl) ⟨?_, ?_, ?_, ?_, ?_, ?_, ?_, ?_, ?_, ?_, ?_, ?_, ?_, ?_, ?_, ?_, trivial⟩ ?_
    · skip
      intro w12 x1
      have x1 : Tn [] w11 w12 := x1
      have xs1 := x1.size
      have x1 := Tn.nil x1
      have e0 := e0.trans x1
      have ho3 := ho3.ext x1
      clear x1
      refine PremT.nil ?_
      exact OpYeT.val rfl (Yd.load pl44 rfl (Cel.cell1 (Cel.ext hc e0) 1 rfl))
    · skip
      intro w13 x1
      refine PremT.v rfl ?_
      have x1 : Tn [] w11 w13 := x1
      have xs1 := x1.size
      have x1 := Tn.nil x1
      have e0 := e0.trans x1
      have ho3 := ho3.ext x1
      clear x1
      refine PremT.nil ?_
      exact OpYeT.val rfl (Yd.idxE (K := entS) Try.underlying44 ti79 rfl rfl (Er.ext hr e0) (by first | omega | exact idx_u8' _ | (simp only [Int.toNat_natCast]; omega) | (simp only [List.length_map, List.length_drop, List.length_take, List.length_append, List.length_replicate]; omega) | (simp <;> omega)))
    · skip
      intro w14 x1
      refine PremT.v rfl ?_
      refine PremT.v rfl ?_
      have x1 : Tn [] w11 w14 := x1
      have xs1 := x1.size
      have x1 := Tn.nil x1
      have e0 := e0.trans x1
      have ho3 := ho3.ext x1
      clear x1
      refine PremT.nil ?_
      exact OpYeT.val rfl (Yd.cast (Yd.fieldE (K := entS) (Er.ext hr e0) (by omega) Try.underlying79 rfl ti3 rfl rfl) (show _ = Value.pointer (some (adr s ((i : Int).toNat * entS.sz + 0))) from rfl))
    · skip
      intro w15 x1
      refine PremT.v rfl ?_
      refine PremT.v rfl ?_
      refine PremT.v rfl ?_
      have x1 : Tn [] w11 w15 := x1
      have xs1 := x1.size
      have x1 := Tn.nil x1
      have e0 := e0.trans x1
      have ho3 := ho3.ext x1
      clear x1
      refine PremT.nil ?_
      exact OpYeT.val rfl (Yd.cast (Yd.loadFd (K := entS) entD pl3 rfl (Er.ext hr e0) (by first | omega | exact idx_u8' _ | (simp only [Int.toNat_natCast]; omega) | (simp only [List.length_map, List.length_drop, List.length_take, List.length_append, List.length_replicate]; omega) | (simp <;> omega)) rfl) (show _ = I (es.getD (i : Int).toNat entD).1 from rfl))
    · skip
      intro w16 x1
      refine PremT.v rfl ?_
      refine PremT.v rfl ?_
      refine PremT.v rfl ?_
      refine PremT.v rfl ?_
      have x1 : Tn [] w11 w16 := x1
      have xs1 := x1.size
      have x1 := Tn.nil x1
      have e0 := e0.trans x1
      have ho3 := ho3.ext x1
      clear x1
      refine PremT.nil ?_
      exact OpYeT.val rfl (Yd.cv_i_64 Try.underlying3 Try.underlying68 rfl (by first | omega | exact idx_u8' _ | (simp only [Int.toNat_natCast]; omega) | (simp only [List.length_map, List.length_drop, List.length_take, List.length_append, List.length_replicate]; omega) | (simp <;> omega)))
    · skip
      intro w17 x1
      refine PremT.v rfl ?_
      refine PremT.v rfl ?_
      refine PremT.v rfl ?_
      refine PremT.v rfl ?_
      refine PremT.v rfl ?_
      have x1 : Tn [] w11 w17 := x1
      have xs1 := x1.size
      have x1 := Tn.nil x1
      have e0 := e0.trans x1
      have ho3 := ho3.ext x1
      clear x1
      refine PremT.nil ?_
      exact OpYeT.mk rfl (Ye.mono (Ye.call cl45 rfl (RefNum_ok)) fun v w2 h => ⟨⟨v, rfl, own_cl (Ow.base h.1 xs1) LoL.nil⟩, Ext.tn h.2 _⟩)
    · skip
      intro w18 x1
      have x1 : Tn [] w11 w18 := x1
      have xs1 := x1.size
      have x1 := Tn.nil x1
      have e0 := e0.trans x1
      have ho3 := ho3.ext x1
      clear x1
      refine PremT.nil ?_
      exact OpYeT.val rfl (Yd.load pl44 rfl (Cel.cell1 (Cel.ext hc e0) 1 rfl))
    · skip
      intro w19 x1
      refine PremT.v rfl ?_
      have x1 : Tn [] w11 w19 := x1
      have xs1 := x1.size
      have x1 := Tn.nil x1
      have e0 := e0.trans x1
      have ho3 := ho3.ext x1
      clear x1
      refine PremT.nil ?_
      exact OpYeT.val rfl (Yd.idxE (K := entS) Try.underlying44 ti79 rfl rfl (Er.ext hr e0) (by first | omega | exact idx_u8' _ | (simp only [Int.toNat_natCast]; omega) | (simp only [List.length_map, List.length_drop, List.length_take, List.length_append, List.length_replicate]; omega) | (simp <;> omega)))
    · skip
      intro w20 x1
      refine PremT.v rfl ?_
      refine PremT.v rfl ?_
      have x1 : Tn [] w11 w20 := x1
      have xs1 := x1.size
      have x1 := Tn.nil x1
      have e0 := e0.trans x1
      have ho3 := ho3.ext x1
      clear x1
      refine PremT.nil ?_
      exact OpYeT.val rfl (Yd.cast (Yd.fieldE (K := entS) (Er.ext hr e0) (by omega) Try.underlying79 rfl ti3 rfl rfl) (show _ = Value.pointer (some (adr s ((i : Int).toNat * entS.sz + 1))) from rfl))
    · skip
      intro w21 x1
      refine PremT.v rfl ?_
      refine PremT.v rfl ?_
      refine PremT.v rfl ?_
      have x1 : Tn [] w11 w21 := x1
      have xs1 := x1.size
      have x1 := Tn.nil x1
      have e0 := e0.trans x1
      have ho3 := ho3.ext x1
      clear x1
      refine PremT.nil ?_
      exact OpYeT.val rfl (Yd.cast (Yd.loadFd (K := entS) entD pl3 rfl (Er.ext hr e0) (by first | omega | exact idx_u8' _ | (simp only [Int.toNat_natCast]; omega) | (simp only [List.length_map, List.length_drop, List.length_take, List.length_append, List.length_replicate]; omega) | (simp <;> omega)) rfl) (show _ = I (es.getD (i : Int).toNat entD).2.1 from rfl))
    · skip
      intro w22 x1
      refine PremT.v rfl ?_
      refine PremT.v rfl ?_
      refine PremT.v rfl ?_
      refine PremT.v rfl ?_
      have x1 : Tn [] w11 w22 := x1
      have xs1 := x1.size
      have x1 := Tn.nil x1
      have e0 := e0.trans x1
      have ho3 := ho3.ext x1
      clear x1
      refine PremT.nil ?_
      exact OpYeT.val rfl (Yd.cv_i_64 Try.underlying3 Try.underlying68 rfl (by first | omega | exact idx_u8' _ | (simp only [Int.toNat_natCast]; omega) | (simp only [List.length_map, List.length_drop, List.length_take, List.length_append, List.length_replicate]; omega) | (simp <;> omega)))
    · skip
      intro w23 x1
      refine PremT.v rfl ?_
      refine PremT.v rfl ?_
      refine PremT.v rfl ?_
      refine PremT.v rfl ?_
      refine PremT.v rfl ?_
      refine PremT.a rfl fun s39_23 o39_23 => ?_
      have o39_23 := o39_23 _ (Tn.refl _ _)
      have ap_v3_s39_23 : Ap v3.ownBlock s39_23.ownBlock := Ap.mk (Ow.live ho3) (Ow.fr o39_23)
      have fr_s39_23 : Fr w.heap.size s39_23.ownBlock := Fr.le (Ow.fr o39_23) e0.size
      replace o39_23 := Ow.base o39_23 e0.size
      refine PremT.v rfl ?_
      refine PremT.v rfl ?_
      refine PremT.v rfl ?_
      refine PremT.v rfl ?_
      refine PremT.v rfl ?_
      have x1 : Tn [] w11 w23 := x1
      have xs1 := x1.size
      have x1 := Tn.nil x1
      have e0 := e0.trans x1
      have ho3 := ho3.ext x1
      clear x1
      refine PremT.nil ?_
      exact OpYeT.mk rfl (Ye.mono (Ye.call cl45 rfl (RefNum_ok)) fun v w2 h => ⟨⟨v, rfl, own_cl (Ow.base h.1 xs1) LoL.nil⟩, Ext.tn h.2 _⟩)
    · skip
      intro w24 x1
      have x1 : Tn [] w11 w24 := x1
      have xs1 := x1.size
      have x1 := Tn.nil x1
      have e0 := e0.trans x1
      have ho3 := ho3.ext x1
      clear x1
      refine PremT.nil ?_
      exact OpYeT.val rfl (Yd.load pl44 rfl (Cel.cell1 (Cel.ext hc e0) 1 rfl))
    · skip
      intro w25 x1
      refine PremT.v rfl ?_
      have x1 : Tn [] w11 w25 := x1
      have xs1 := x1.size
      have x1 := Tn.nil x1
      have e0 := e0.trans x1
      have ho3 := ho3.ext x1
      clear x1
      refine PremT.nil ?_
      exact OpYeT.val rfl (Yd.idxE (K := entS) Try.underlying44 ti79 rfl rfl (Er.ext hr e0) (by first | omega | exact idx_u8' _ | (simp only [Int.toNat_natCast]; omega) | (simp only [List.length_map, List.length_drop, List.length_take, List.length_append, List.length_replicate]; omega) | (simp <;> omega)))
    · skip
      intro w26 x1
      refine PremT.v rfl ?_
      refine PremT.v rfl ?_
      have x1 : Tn [] w11 w26 := x1
      have xs1 := x1.size
      have x1 := Tn.nil x1
      have e0 := e0.trans x1
      have ho3 := ho3.ext x1
      clear x1
      refine PremT.nil ?_
      exact OpYeT.val rfl (Yd.cast (Yd.fieldE (K := entS) (Er.ext hr e0) (by omega) Try.underlying79 rfl ti29 rfl rfl) (show _ = Value.pointer (some (adr s ((i : Int).toNat * entS.sz + 2))) from rfl))
    · skip
      intro w27 x1
      refine PremT.v rfl ?_
      refine PremT.v rfl ?_
      refine PremT.v rfl ?_
      have x1 : Tn [] w11 w27 := x1
      have xs1 := x1.size
      have x1 := Tn.nil x1
      have e0 := e0.trans x1
      have ho3 := ho3.ext x1
      clear x1
      refine PremT.nil ?_
      exact OpYeT.val rfl (Yd.cast (Yd.loadFd (K := entS) entD pl29 rfl (Er.ext hr e0) (by first | omega | exact idx_u8' _ | (simp only [Int.toNat_natCast]; omega) | (simp only [List.length_map, List.length_drop, List.length_take, List.length_append, List.length_replicate]; omega) | (simp <;> omega)) rfl) (show _ = (es.getD (i : Int).toNat entD).2.2 from rfl))
    intro w28 x1
    refine PremT.v rfl ?_
    refine PremT.v rfl ?_
    refine PremT.v rfl ?_
    refine PremT.v rfl ?_
    refine PremT.v rfl ?_
    refine PremT.a rfl fun s39_28 o39_28 => ?_
    have o39_28 := o39_28 _ (Tn.refl _ _)
    have ap_v3_s39_28 : Ap v3.ownBlock s39_28.ownBlock := Ap.mk (Ow.live ho3) (Ow.fr o39_28)
    have fr_s39_28 : Fr w.heap.size s39_28.ownBlock := Fr.le (Ow.fr o39_28) e0.size
    replace o39_28 := Ow.base o39_28 e0.size
    refine PremT.v rfl ?_
    refine PremT.v rfl ?_
    refine PremT.v rfl ?_
    refine PremT.v rfl ?_
    refine PremT.v rfl ?_
    refine PremT.a rfl fun s49_28 o49_28 => ?_
    have o49_28 := o49_28 _ (Tn.refl _ _)
    have ap_v3_s49_28 : Ap v3.ownBlock s49_28.ownBlock := Ap.mk (Ow.live ho3) (Ow.fr o49_28)
    have fr_s49_28 : Fr w.heap.size s49_28.ownBlock := Fr.le (Ow.fr o49_28) e0.size
    replace o49_28 := Ow.base o49_28 e0.size
    refine PremT.v rfl ?_
    refine PremT.v rfl ?_
    refine PremT.v rfl ?_
    refine PremT.v rfl ?_
    have x1 : Tn [] w11 w28 := x1
    have xs1 := x1.size
    have x1 := Tn.nil x1
    have e0 := e0.trans x1
    have ho3 := ho3.ext x1
    clear x1
    refine PremT.nil ?_
    refine J.rg_seq (m := 0) [(29, false), (30, false), (31, true)] rfl (by kernel_rfl) ?_
    refine J.s_eff rfl (Ye.litS4 Try.underlying95 ti29 rfl rfl rfl rfl rfl (Ow.rd ho3) (Ow.rd o39_28) (Ow.rd o49_28) (Rd.ext hky e0)) rfl ?_
    rintro s58_29 w29 ⟨o58_29, x1⟩
    have e0 := e0.trans x1
    have ho3 := ho3.ext x1
    have o39_28 := o39_28.ext x1
    have o49_28 := o49_28.ext x1
    clear x1
    refine J.s_eff rfl (Ye.call cl44 rfl (RCat_ok o58_29 (by have h91 := encKs_len (hK.take i); have h92 := putN_len (UInt64.ofNat n.toNat); have h93 := putN_len (UInt64.ofNat L.length); have h94 := putN_len (UInt64.ofNat (es.getD (i : Int).toNat entD).1.toNat); have h95 := putN_len (UInt64.ofNat (es.getD (i : Int).toNat entD).2.1.toNat); simp only [List.flatten_cons, List.flatten_nil, List.length_append, List.length_nil, List.length_take] at *; omega))) rfl ?_
    rintro s59_30 w30 ⟨os59_30, x1⟩
    have ap_v3_s59_30 : Ap v3.ownBlock s59_30.ownBlock := Ap.mk (Ow.live ho3) (Ow.fr os59_30)
    have ap_s39_28_s59_30 : Ap s39_28.ownBlock s59_30.ownBlock := Ap.mk (Ow.live o39_28) (Ow.fr os59_30)
    have ap_s49_28_s59_30 : Ap s49_28.ownBlock s59_30.ownBlock := Ap.mk (Ow.live o49_28) (Ow.fr os59_30)
    have fr_s59_30 : Fr w.heap.size s59_30.ownBlock := Fr.le (Ow.fr os59_30) e0.size
    replace os59_30 := Ow.base os59_30 e0.size
    have e0 := e0.trans x1
    have ho3 := ho3.ext x1
    have o39_28 := o39_28.ext x1
    have o49_28 := o49_28.ext x1
    have o58_29 := o58_29.ext x1
    clear x1
    refine J.s_op rfl (fun _ => Yd.assign rfl) rfl ?_
    refine J.s_nil ?_
    refine J.rg_nil (by kernel_rfl) ?_
    refine J.n_np ?_
    refine J.n_block ?_
    refine J.n_then ?_
    refine J.region ?_
    refine J.op (Yd.move rfl) rfl ?_
    refine J.op (Yd.add rfl rfl (by first | omega | exact idx_u8' _ | (simp only [Int.toNat_natCast]; omega) | (simp only [List.length_map, List.length_drop, List.length_take, List.length_append, List.length_replicate]; omega) | (simp <;> omega))) rfl ?_
    refine J.op (Yd.assign rfl) rfl ?_
    refine J.nil ?_
    refine J.n_then ?_
    exact J.round ((i + 1, s59_30)) ⟨rfl, rfl, rfl, trivial⟩ (⟨by show i + 1 ≤ es.length; omega, (by have h9 := os59_30; rw [Int.toNat_natCast, hkr.1, hkr.2.1] at h9; simp only [List.flatten_cons, List.flatten_nil, List.append_nil] at h9; rw [encK_take (by omega), show encK (L.getD i kD) = putN (UInt64.ofNat (L.getD i kD).1.toNat) ++ putN (UInt64.ofNat (L.getD i kD).2.1.toNat) ++ (L.getD i kD).2.2 from rfl]; simp only [List.append_assoc] at h9 ⊢; exact h9), fr_s59_30, e0⟩) (by show es.length - (i + 1) < es.length - i; omega)
  · skip
    refine J.exit ?_
    refine J.x_then ?_
    refine J.x_then ?_
    refine J.x_block ?_
    refine J.n_then ?_
    refine J.seq ?_
    refine J.region ?_
    refine J.op (Yd.move rfl) rfl ?_
    refine J.op (Yd.assign rfl) rfl ?_
    refine J.nil ?_
    refine J.n_then ?_
    refine J.ret ?_
    exact J.ret1 rfl rfl (⟨_, rfl, (by have h9 := ho3; rw [List.take_of_length_le (by omega)] at h9; exact (show Ob _ _ _ _ (savB n L) from h9)), e0⟩)

theorem THas2 {xs : List (Option Nat)} {w0 w : World} {b b2 : Nat} {n m1 m2 : Int} {L L2 : List Key} (h : Two 56 60 46 xs w0 w b n L b2 L2) : C Try.prog 41 [.pointer (some ⟨b2, 0, none⟩), I m1, I m2] w (Ret fun v w' => v = .bool (decide (idxI (eqK m1 m2) L2 ≥ 0)) ∧ Ext w w') := by
  obtain ⟨K, s2, es2, ht0⟩ := h
  have hqe := ht0.a2.idx (p := eqE m1 m2) (q := eqK m1 m2) fun a b h => h.eq m1 m2
  exact RHas_ok ht0.c2 ht0.r2 hqe
theorem TSave2 {xs : List (Option Nat)} {w0 w : World} {b b2 : Nat} {n m1 m2 : Int} {L L2 : List Key} (h : Two 56 60 46 xs w0 w b n L b2 L2) (hK : KOK L2) (hn : 1 ≤ n ∧ n ≤ 1000) (hL : L2.length ≤ 1000) : C Try.prog 22 [.pointer (some ⟨b2, 0, none⟩)] w (Ret fun v w' => Ob w.heap.size 5 w' v (savB n L2) ∧ Ext w w') := by
  obtain ⟨K, s2, es2, ht0⟩ := h
  exact RSave_ok ht0.c2 ht0.r2 (ht0.a2.mono fun a b h => ⟨h.1, h.2.1, h.2.2 w ht0.e⟩) hK hn hL
theorem TTake2 {xs : List (Option Nat)} {w0 w : World} {b b2 : Nat} {n m1 m2 : Int} {L L2 : List Key} (h : Two 56 60 46 xs w0 w b n L b2 L2) (hL : L2.length ≤ 1000) : C Try.prog 42 [.pointer (some ⟨b2, 0, none⟩), I m1, I m2] w (Ret fun u w' => ∃ v, u = .tuple #[v, I (tkV L2 m1 m2).1] ∧ Bs w' v (tkV L2 m1 m2).2.1 ∧ Tn [some b2] w w' ∧ Two 56 60 46 xs w0 w' b n L b2 (tkV L2 m1 m2).2.2 ∧ Tx w0.heap.size xs w w') := by
  obtain ⟨K, s2, es2, ht0⟩ := h
  have hqe := ht0.a2.idx (p := eqE m1 m2) (q := eqK m1 m2) fun a b h => h.eq m1 m2
  have hlen := ht0.a2.len
  have hix := idxI_lt (p := eqK m1 m2) (es := L2)
  by_cases hq : idxI (eqK m1 m2) L2 ≥ 0
  · obtain ⟨k, hk⟩ := Int.eq_ofNat_of_zero_le hq
    have hkl : k < L2.length := by omega
    have htk : tkV L2 m1 m2 = (0, (L2.getD k kD).2.2, L2.take k ++ L2.drop (k + 1)) := by unfold tkV; rw [if_pos hq, hk]; rfl
    rw [htk]
    refine (RTake_yes ht0.c2 ht0.r2 ht0.ap (ka_one ht0.a2 ht0.e) (by omega) (hqe.trans hk) (by omega)).ret fun u w' h => ?_
    obtain ⟨s', rfl, g1, g2, g3, g4, g5⟩ := h
    have hg := ht0.a2.get entD kD k (by omega)
    have h8 : All2 (KA w0) ([] ++ (es2.take k).drop 0 ++ es2.drop ((k : Int) + 1).toNat) (L2.take k ++ L2.drop (k + 1)) := by
      rw [show ((k : Int) + 1).toNat = k + 1 by omega]
      exact (ht0.a2.take k).app (ht0.a2.drop (k + 1))
    obtain ⟨t1, t2⟩ := ht0.ref g5 g1 g2 g3 g4 h8
    exact ⟨_, rfl, hg.2.2 w' t1.e, g5, t1, t2⟩
  · have htk : tkV L2 m1 m2 = (7, [], L2) := by unfold tkV; rw [if_neg hq]
    rw [htk]
    refine (RTake_no ht0.c2 ht0.r2 (hqe.trans (show _ = (-1 : Int) by omega))).ret fun u w' h => ?_
    exact ⟨nilS, h.1, Rd.nilM (fun x : UInt8 => B x) _, h.2.tn _, ⟨K, s2, es2, ht0.ext h.2⟩, h.2.tx⟩
theorem TForget2 {xs : List (Option Nat)} {w0 w : World} {b b2 : Nat} {n m1 m2 : Int} {L L2 : List Key} (h : Two 56 60 46 xs w0 w b n L b2 L2) (hL : L2.length ≤ 1000) : C Try.prog 43 [.pointer (some ⟨b2, 0, none⟩), I m1] w (Ret fun u w' => u = I ((L2.length : Int) - ((flV L2 m1).length : Int)) ∧ Two 56 60 46 xs w0 w' b n L b2 (flV L2 m1) ∧ Tx w0.heap.size xs w w') := by
  obtain ⟨K, s2, es2, ht0⟩ := h
  have hlen := ht0.a2.len
  have h8 := ht0.a2.filter (p := fun x => !ltE m1 x) (q := fun x => !ltK m1 x) fun a b h => by rw [h.lt]
  refine (RForget_ok (m1 := m1) ht0.c2 ht0.r2 ht0.ap (ka_one ht0.a2 ht0.e) (by omega)).ret fun u w' h => ?_
  obtain ⟨s', rfl, g1, g2, g3, g4, g5⟩ := h
  obtain ⟨t1, t2⟩ := ht0.ref g5 g1 g2 g3 g4 h8
  exact ⟨by rw [hlen, h8.len]; rfl, t1, t2⟩
theorem TPut2 {xs : List (Option Nat)} {w0 w : World} {b b2 : Nat} {n m1 m2 : Int} {L L2 : List Key} {a : Value} {l : List UInt8} (h : Two 56 60 46 xs w0 w b n L b2 L2) (hak : ∀ W, Ext w0 W → Bs W a l) (hn : 1 ≤ n ∧ n ≤ 1000) (hL : L2.length ≤ 1000) : C Try.prog 40 [.pointer (some ⟨b2, 0, none⟩), I m1, I m2, a] w (Ret fun u w' => u = .tuple #[I (putV n L2 m1 m2 l).1, I (putV n L2 m1 m2 l).2.1] ∧ Two 56 60 46 xs w0 w' b n L b2 (putV n L2 m1 m2 l).2.2 ∧ Tx w0.heap.size xs w w') := by
  obtain ⟨K, s2, es2, ht0⟩ := h
  have hqe := ht0.a2.idx (p := eqE m1 m2) (q := eqK m1 m2) fun a b h => h.eq m1 m2
  have hlen := ht0.a2.len
  have ha := hak w ht0.e
  have hk2 : ∀ W, Tn [some b2] w W → Bs W a l := fun W ht => hak W (Ext.tnk ht0.e (fun q hq k e => by rw [List.mem_singleton] at hq; subst hq; cases e; exact ht0.fb) ht)
  by_cases hv : wiK m1 ∧ wiK m2 ∧ l.length = 32
  · by_cases hq : idxI (eqK m1 m2) L2 ≥ 0
    · rw [putV_dup hv hq]
      exact (RPut_dup ht0.c2 ht0.r2 ha hv hqe hq).ret fun u w' h => ⟨h.1, ⟨K, s2, es2, ht0.ext h.2⟩, h.2.tx⟩
    · rw [putV_new hv hq]
      have h8 := ht0.a2.app (All2.one (R := KA w0) (a := ((m1, m2, a) : Ent)) (b := ((m1, m2, l) : Key)) ⟨rfl, rfl, hak⟩)
      by_cases hlt : (L2.length : Int) < n
      · refine (RPut_new ht0.c2 ht0.r2 ht0.ap (ka_one ht0.a2 ht0.e) hk2 hv hqe hq (by omega) (by omega)).ret fun u w' h => ?_
        obtain ⟨s', rfl, g1, g2, g3, g4, g5⟩ := h
        obtain ⟨t1, t2⟩ := ht0.ref (L2' := psh n L2 (m1, m2, l)) g5 g1 g2 g3 g4 (by unfold psh; rw [if_pos hlt]; exact h8)
        exact ⟨by unfold pshR; rw [if_pos hlt], t1, t2⟩
      · refine (RPut_over ht0.c2 ht0.r2 ht0.ap (ka_one ht0.a2 ht0.e) hk2 hv hqe hq (by omega) (by omega)).ret fun u w' h => ?_
        obtain ⟨s', rfl, g1, g2, g3, g4, g5⟩ := h
        obtain ⟨t1, t2⟩ := ht0.ref (L2' := psh n L2 (m1, m2, l)) g5 g1 g2 g3 g4 (by unfold psh; rw [if_neg hlt]; exact h8.drop 1)
        exact ⟨by unfold pshR; rw [if_neg hlt], t1, t2⟩
  · rw [putV_bad hv]
    exact (RPut_inv ht0.c2 ht0.r2 ha hv).ret fun u w' h => ⟨h.1, ⟨K, s2, es2, ht0.ext h.2⟩, h.2.tx⟩
end Ytfefphcmfhabiaa
end Go.Proofs
