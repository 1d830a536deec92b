import Derived.Test.YtikggonjagoiaaaT
import Derived.Test.YtikggonjagoiaaaH6
set_option linter.unusedVariables false
set_option linter.unusedSimpArgs false
set_option maxRecDepth 100000
set_option maxHeartbeats 4000000
namespace Go.Proofs
open Go.X Go.RowKit
namespace Ytikggonjagoiaaa
theorem awake_ok {w : World} : C Try.prog 8 [] w (Ret fun v w' => v = .bool true ∧ Ext w w') := by
  have e0 := Ext.refl w
  refine C.enter Try.func8 rfl Try.ntmps8 rfl ?_
  refine J.seq ?_
  refine J.region ?_
  refine J.op (Yd.assign rfl) rfl ?_
  refine J.nil ?_
  refine J.n_then ?_
  refine J.seq ?_
  refine J.region ?_
  refine J.eff (Ye.make (base := w.heap.size) Try.underlying22 ti5 rfl rfl (by first | omega | (simp only [Int.toNat_natCast]; omega) | (simp [macL_len] <;> omega)) (by first | omega | (simp only [Int.toNat_natCast]; omega) | (simp [macL_len] <;> omega)) (by unfold maxLen; omega) rfl (Nat.le_refl _)) rfl ?_
  rintro s6_1 w1 ⟨o6_1, x1⟩
  have fr_s6_1 : Fr w.heap.size s6_1.ownBlock := Fr.le (Ow.fr o6_1) e0.size
  replace o6_1 := Ow.base o6_1 e0.size
  have e0 := e0.trans x1
  clear x1
  rw [rep_B] at o6_1
  refine J.eff (Ye.call cl9 rfl (New_yes (Ow.rd o6_1) (by simp))) rfl ?_
  rintro _ w2 ⟨b7_2, s7_2, rfl, hbb7_2, cb7_2, os7_2, ap_b7_2_s7_2, x1⟩
  have ap_s6_1_b7_2 : Ap s6_1.ownBlock (some b7_2) := Ap.mk (Ow.live o6_1) (Fr.blk hbb7_2)
  have fr_b7_2 : Fr w.heap.size (some b7_2) := Fr.le (Fr.blk hbb7_2) e0.size
  have ap_s6_1_s7_2 : Ap s6_1.ownBlock s7_2.ownBlock := Ap.mk (Ow.live o6_1) (Ow.fr os7_2)
  have fr_s7_2 : Fr w.heap.size s7_2.ownBlock := Fr.le (Ow.fr os7_2) e0.size
  replace os7_2 := Ow.base os7_2 e0.size
  have e0 := e0.trans x1
  have o6_1 := o6_1.ext x1
  clear x1
  refine J.op (Yd.move rfl) rfl ?_
  refine J.op (Yd.extract rfl rfl) rfl ?_
  refine J.op (Yd.extract rfl rfl) rfl ?_
  refine J.op (Yd.assign rfl) rfl ?_
  refine J.op (Yd.assign rfl) rfl ?_
  refine J.nil ?_
  refine J.n_then ?_
  refine J.seq ?_
  refine J.region ?_
  refine J.eff (Ye.call cl9 rfl (New_no (Rd.nilM (fun x : UInt8 => B x) _) (by decide))) rfl ?_
  rintro _ w3 ⟨rfl, x1⟩
  have e0 := e0.trans x1
  have o6_1 := o6_1.ext x1
  have os7_2 := os7_2.ext x1
  have cb7_2 := cb7_2.ext x1
  clear x1
  refine J.op (Yd.move rfl) rfl ?_
  refine J.op (Yd.extract rfl rfl) rfl ?_
  refine J.op (Yd.extract rfl rfl) rfl ?_
  refine J.op (Yd.assign rfl) rfl ?_
  refine J.op (Yd.assign rfl) rfl ?_
  refine J.nil ?_
  refine J.n_then ?_
  refine J.seq ?_
  refine J.regionAT [(0, true), (1, true), (2, true), (3, true), (4, true), (5, true), (6, true), (7, true), (8, true), (9, true), (10, true), (11, true)] [(12, AsrT.c [] 26 (Value × Value) (fun x => x.1) (fun x w' => Ob w3.heap.size 5 w' x.1 (macL (List.replicate 32 (0 : UInt8)) [1]) ∧ Cel w' b7_2 53 (chS x.2 (0 + 1)) ∧ Ob w3.heap.size 5 w' x.2 (macL (List.replicate 32 (0 : UInt8)) [2]))), (13, AsrT.v [(some b7_2)] 27 (Str (macL (List.replicate 32 (0 : UInt8)) [1]))), (14, AsrT.own [(some b7_2)] 28 w3.heap.size 5 ((List.replicate 32 (0 : UInt8)).map fun x => B x)), (15, AsrT.own [(some b7_2)] 29 w3.heap.size 5 (([1]).map fun x => B x)), (16, AsrT.own [(some b7_2)] 30 w3.heap.size 5 ((macL (List.replicate 32 (0 : UInt8)) [1]).map fun x => B x)), (17, AsrT.v [(some b7_2)] 31 (Str (macL (List.replicate 32 (0 : UInt8)) [1])))] [12, 13, 14, 15, 16, 17] [26, 27, 28, 29, 30, 31] [[], [0], [], [], [0, 2, 3], [0, 2, 3, 4]] [[], [12], [12], [12], [12], [12]] [(12, [(some b7_2)])] [12] rfl ⟨(fun p hp hne x hx => by simp only [List.mem_singleton] at hp; subst hp; first | exact absurd rfl hne | exact hx), (fun p hp hne x hx => by simp only [List.mem_singleton] at hp; subst hp; first | exact absurd rfl hne | exact hx), (fun p hp hne x hx => by simp only [List.mem_singleton] at hp; subst hp; first | exact absurd rfl hne | exact hx), (fun p hp hne x hx => by simp only [List.mem_singleton] at hp; subst hp; first | exact absurd rfl hne | exact hx), (fun p hp hne x hx => by simp only [List.mem_singleton] at hp; subst hp; first | exact absurd rfl hne | exact hx), (fun p hp hne x hx => by simp only [List.mem_singleton] at hp; subst hp; first | exact absurd rfl hne | exact hx), trivial⟩ [(18, true), (19, true), (20, true), (21, true), (22, false), (23, true), (24, true), (25, true)] rfl rfl mix (by kernel_rfl) (by kernel_rfl) ?_
  refine J.s_op rfl (fun _ => Yd.move rfl) rfl ?_
  refine J.s_op rfl (fun _ => Yd.eql rfl rfl) rfl ?_
  refine J.s_op rfl (fun _ => Yd.move rfl) rfl ?_
  refine J.know (t := 16) (v' := .bool true) rfl (tt (by rfl)) ?_
  refine J.s_op_g rfl rfl rfl rfl (fun _ => Yd.move rfl) rfl ?_
  refine J.s_op_g rfl rfl rfl rfl (fun _ => Yd.cast (Yd.nePn Try.underlying25 rfl rfl) (show _ = Value.bool true from rfl)) rfl ?_
  refine J.s_op rfl (fun _ => Yd.pick_t rfl rfl) rfl ?_
  refine J.s_op rfl (fun _ => Yd.move rfl) rfl ?_
  refine J.s_op_g rfl rfl rfl rfl (fun _ => Yd.move rfl) rfl ?_
  refine J.s_op_g rfl rfl rfl rfl (fun _ => Yd.eql rfl rfl) rfl ?_
  refine J.s_op rfl (fun _ => Yd.pick_t rfl rfl) rfl ?_
  refine J.s_op rfl (fun _ => Yd.move rfl) rfl ?_
  refine J.know (t := 24) (v' := .bool true) rfl (tt (by rfl)) ?_
  refine J.s_op_g rfl rfl rfl rfl (fun _ => Yd.move rfl) rfl ?_
  refine J.s_nil ?_
  have lolAT : LoL w3.heap.size [(some b7_2)] := LoL.one (Cel.live cb7_2)
  refine J.at_in [0, 1, 2, 3, 4, 5] rfl (by rfl) ⟨?_, ?_, ?_, ?_, ?_, ?_, trivial⟩ ?_
  · skip
    intro w4 x1
    have x1 : Tn [] w3 w4 := x1
    have xs1 := x1.size
    have x1 := Tn.nil x1
    have e0 := e0.trans x1
    have o6_1 := o6_1.ext x1
    have os7_2 := os7_2.ext x1
    have cb7_2 := cb7_2.ext x1
    clear x1
    refine PremT.nil ?_
    exact OpYeT.mkg rfl rfl rfl rfl ((Ye.call cl13 rfl (Next_ok (show Cel _ _ _ (chS _ _) from cb7_2) (Ow.rd os7_2) (by first | assumption | exact macL_len _ _ | exact chK_len _ (by first | assumption | omega | exact chK_len _ (by assumption) _) _ | omega | (simp; done)) ap_b7_2_s7_2 (by first | omega | (simp only [Int.toNat_natCast]; omega)))).mono fun v w2 h => let ⟨s_, h1, h2, h3, h4⟩ := h; ⟨⟨(v, s_), rfl, fun w3 ht => ⟨(Ow.base h1 xs1).ext ht.nil, Cel.ext h2 ht.nil, (Ow.base h3 xs1).ext ht.nil⟩⟩, h4⟩)
  · skip
    intro w5 x1
    refine PremT.a rfl fun x26_ hx26_ => ?_
    have hx26_ := hx26_ _ (Tn.refl _ _)
    obtain ⟨v26_n, s26_n⟩ := x26_
    obtain ⟨o26_n, cX26_n, os26_n⟩ := hx26_
    dsimp only at o26_n cX26_n os26_n
    have ap_s6_1_v26_n : Ap s6_1.ownBlock v26_n.ownBlock := Ap.mk (Ow.live o6_1) (Ow.fr o26_n)
    have ap_s7_2_v26_n : Ap s7_2.ownBlock v26_n.ownBlock := Ap.mk (Ow.live os7_2) (Ow.fr o26_n)
    have ap_b7_2_v26_n : Ap (some b7_2) v26_n.ownBlock := Ap.mk (Cel.live cb7_2) (Ow.fr o26_n)
    have fr_v26_n : Fr w.heap.size v26_n.ownBlock := Fr.le (Ow.fr o26_n) e0.size
    have ap_s6_1_s26_n : Ap s6_1.ownBlock s26_n.ownBlock := Ap.mk (Ow.live o6_1) (Ow.fr os26_n)
    have ap_s7_2_s26_n : Ap s7_2.ownBlock s26_n.ownBlock := Ap.mk (Ow.live os7_2) (Ow.fr os26_n)
    have ap_b7_2_s26_n : Ap (some b7_2) s26_n.ownBlock := Ap.mk (Cel.live cb7_2) (Ow.fr os26_n)
    have fr_s26_n : Fr w.heap.size s26_n.ownBlock := Fr.le (Ow.fr os26_n) e0.size
    replace o26_n := Ow.base o26_n e0.size
    replace os26_n := Ow.base os26_n e0.size
    have x1 : Tn [(some b7_2)] w3 w5 := x1
    have xs1 := x1.size
    have o6_1 := Ow.tnk o6_1 x1 (ApL.one ap_s6_1_b7_2)
    have os7_2 := Ow.tnk os7_2 x1 (ApL.one (Ap.symm ap_b7_2_s7_2))
    have e0 := Ext.tnk e0 (fun q hq => by simp only [List.mem_singleton] at hq; subst hq; exact fr_b7_2) x1
    clear x1
    refine PremT.nil ?_
    exact OpYeT.valg rfl rfl rfl rfl (Yd.bstr Try.underlying22 Try.underlying5 Try.underlying9 rfl (Ow.rd o26_n))
  · skip
    intro w6 x1
    have x1 : Tn [(some b7_2)] w3 w6 := x1
    have xs1 := x1.size
    have o6_1 := Ow.tnk o6_1 x1 (ApL.one ap_s6_1_b7_2)
    have os7_2 := Ow.tnk os7_2 x1 (ApL.one (Ap.symm ap_b7_2_s7_2))
    have e0 := Ext.tnk e0 (fun q hq => by simp only [List.mem_singleton] at hq; subst hq; exact fr_b7_2) x1
    clear x1
    refine PremT.nil ?_
    exact OpYeT.mkg rfl rfl rfl rfl ((Ye.make (base := w6.heap.size) Try.underlying22 ti5 rfl rfl (by first | omega | (simp only [Int.toNat_natCast]; omega) | (simp [macL_len] <;> omega)) (by first | omega | (simp only [Int.toNat_natCast]; omega) | (simp [macL_len] <;> omega)) (by unfold maxLen; omega) rfl (Nat.le_refl _)).mono fun v w2 h => ⟨⟨v, rfl, own_cl (by have h9 := Ow.base h.1 xs1; rw [rep_B] at h9; exact h9) lolAT⟩, Ext.tn h.2 _⟩)
  · skip
    intro w7 x1
    have x1 : Tn [(some b7_2)] w3 w7 := x1
    have xs1 := x1.size
    have o6_1 := Ow.tnk o6_1 x1 (ApL.one ap_s6_1_b7_2)
    have os7_2 := Ow.tnk os7_2 x1 (ApL.one (Ap.symm ap_b7_2_s7_2))
    have e0 := Ext.tnk e0 (fun q hq => by simp only [List.mem_singleton] at hq; subst hq; exact fr_b7_2) x1
    clear x1
    refine PremT.nil ?_
    exact OpYeT.mkg rfl rfl rfl rfl ((Ye.litM (base := w7.heap.size) (f := fun x : UInt8 => B x) ([1] : List UInt8) Try.underlying22 ti5 rfl rfl rfl rfl (fun _ => rfl) rfl (Nat.le_refl _)).mono fun v w2 h => ⟨⟨v, rfl, own_cl (Ow.base h.1 xs1) lolAT⟩, Ext.tn h.2 _⟩)
  · skip
    intro w8 x1
    refine PremT.a rfl fun x26_ hx26_ => ?_
    have hx26_ := hx26_ _ (Tn.refl _ _)
    obtain ⟨v26_n, s26_n⟩ := x26_
    obtain ⟨o26_n, cX26_n, os26_n⟩ := hx26_
    dsimp only at o26_n cX26_n os26_n
    have ap_s6_1_v26_n : Ap s6_1.ownBlock v26_n.ownBlock := Ap.mk (Ow.live o6_1) (Ow.fr o26_n)
    have ap_s7_2_v26_n : Ap s7_2.ownBlock v26_n.ownBlock := Ap.mk (Ow.live os7_2) (Ow.fr o26_n)
    have ap_b7_2_v26_n : Ap (some b7_2) v26_n.ownBlock := Ap.mk (Cel.live cb7_2) (Ow.fr o26_n)
    have fr_v26_n : Fr w.heap.size v26_n.ownBlock := Fr.le (Ow.fr o26_n) e0.size
    have ap_s6_1_s26_n : Ap s6_1.ownBlock s26_n.ownBlock := Ap.mk (Ow.live o6_1) (Ow.fr os26_n)
    have ap_s7_2_s26_n : Ap s7_2.ownBlock s26_n.ownBlock := Ap.mk (Ow.live os7_2) (Ow.fr os26_n)
    have ap_b7_2_s26_n : Ap (some b7_2) s26_n.ownBlock := Ap.mk (Cel.live cb7_2) (Ow.fr os26_n)
    have fr_s26_n : Fr w.heap.size s26_n.ownBlock := Fr.le (Ow.fr os26_n) e0.size
    replace o26_n := Ow.base o26_n e0.size
    replace os26_n := Ow.base os26_n e0.size
    refine PremT.a rfl fun s28_8 o28_8 => ?_
    have o28_8 := o28_8 _ (Tn.refl _ _)
    have ap_s6_1_s28_8 : Ap s6_1.ownBlock s28_8.ownBlock := Ap.mk (Ow.live o6_1) (Ow.fr o28_8)
    have ap_s7_2_s28_8 : Ap s7_2.ownBlock s28_8.ownBlock := Ap.mk (Ow.live os7_2) (Ow.fr o28_8)
    have ap_b7_2_s28_8 : Ap (some b7_2) s28_8.ownBlock := Ap.mk (Cel.live cb7_2) (Ow.fr o28_8)
    have fr_s28_8 : Fr w.heap.size s28_8.ownBlock := Fr.le (Ow.fr o28_8) e0.size
    replace o28_8 := Ow.base o28_8 e0.size
    refine PremT.a rfl fun s29_8 o29_8 => ?_
    have o29_8 := o29_8 _ (Tn.refl _ _)
    have ap_s6_1_s29_8 : Ap s6_1.ownBlock s29_8.ownBlock := Ap.mk (Ow.live o6_1) (Ow.fr o29_8)
    have ap_s7_2_s29_8 : Ap s7_2.ownBlock s29_8.ownBlock := Ap.mk (Ow.live os7_2) (Ow.fr o29_8)
    have ap_b7_2_s29_8 : Ap (some b7_2) s29_8.ownBlock := Ap.mk (Cel.live cb7_2) (Ow.fr o29_8)
    have fr_s29_8 : Fr w.heap.size s29_8.ownBlock := Fr.le (Ow.fr o29_8) e0.size
    replace o29_8 := Ow.base o29_8 e0.size
    have x1 : Tn [(some b7_2)] w3 w8 := x1
    have xs1 := x1.size
    have o6_1 := Ow.tnk o6_1 x1 (ApL.one ap_s6_1_b7_2)
    have os7_2 := Ow.tnk os7_2 x1 (ApL.one (Ap.symm ap_b7_2_s7_2))
    have e0 := Ext.tnk e0 (fun q hq => by simp only [List.mem_singleton] at hq; subst hq; exact fr_b7_2) x1
    clear x1
    refine PremT.nil ?_
    exact OpYeT.mkg rfl rfl rfl rfl ((Ye.call cl22 rfl (RMac_ok (Ow.rd o28_8) (Ow.rd o29_8) (by first | omega | (simp only [List.length_append, List.flatten_cons, List.flatten_nil, List.append_nil, padL_len, sha256L_len, macL_len, List.length_nil, List.length_cons, Int.toNat_natCast]; omega) | (simp <;> omega)) (by first | omega | (simp only [List.length_append, List.flatten_cons, List.flatten_nil, List.append_nil, padL_len, sha256L_len, macL_len, List.length_nil, List.length_cons, Int.toNat_natCast]; omega) | (simp <;> omega)))).mono fun v w2 h => ⟨⟨v, rfl, own_cl (Ow.base h.1 xs1) lolAT⟩, Ext.tn h.2 _⟩)
  · skip
    intro w9 x1
    refine PremT.a rfl fun x26_ hx26_ => ?_
    have hx26_ := hx26_ _ (Tn.refl _ _)
    obtain ⟨v26_n, s26_n⟩ := x26_
    obtain ⟨o26_n, cX26_n, os26_n⟩ := hx26_
    dsimp only at o26_n cX26_n os26_n
    have ap_s6_1_v26_n : Ap s6_1.ownBlock v26_n.ownBlock := Ap.mk (Ow.live o6_1) (Ow.fr o26_n)
    have ap_s7_2_v26_n : Ap s7_2.ownBlock v26_n.ownBlock := Ap.mk (Ow.live os7_2) (Ow.fr o26_n)
    have ap_b7_2_v26_n : Ap (some b7_2) v26_n.ownBlock := Ap.mk (Cel.live cb7_2) (Ow.fr o26_n)
    have fr_v26_n : Fr w.heap.size v26_n.ownBlock := Fr.le (Ow.fr o26_n) e0.size
    have ap_s6_1_s26_n : Ap s6_1.ownBlock s26_n.ownBlock := Ap.mk (Ow.live o6_1) (Ow.fr os26_n)
    have ap_s7_2_s26_n : Ap s7_2.ownBlock s26_n.ownBlock := Ap.mk (Ow.live os7_2) (Ow.fr os26_n)
    have ap_b7_2_s26_n : Ap (some b7_2) s26_n.ownBlock := Ap.mk (Cel.live cb7_2) (Ow.fr os26_n)
    have fr_s26_n : Fr w.heap.size s26_n.ownBlock := Fr.le (Ow.fr os26_n) e0.size
    replace o26_n := Ow.base o26_n e0.size
    replace os26_n := Ow.base os26_n e0.size
    refine PremT.a rfl fun s28_9 o28_9 => ?_
    have o28_9 := o28_9 _ (Tn.refl _ _)
    have ap_s6_1_s28_9 : Ap s6_1.ownBlock s28_9.ownBlock := Ap.mk (Ow.live o6_1) (Ow.fr o28_9)
    have ap_s7_2_s28_9 : Ap s7_2.ownBlock s28_9.ownBlock := Ap.mk (Ow.live os7_2) (Ow.fr o28_9)
    have ap_b7_2_s28_9 : Ap (some b7_2) s28_9.ownBlock := Ap.mk (Cel.live cb7_2) (Ow.fr o28_9)
    have fr_s28_9 : Fr w.heap.size s28_9.ownBlock := Fr.le (Ow.fr o28_9) e0.size
    replace o28_9 := Ow.base o28_9 e0.size
    refine PremT.a rfl fun s29_9 o29_9 => ?_
    have o29_9 := o29_9 _ (Tn.refl _ _)
    have ap_s6_1_s29_9 : Ap s6_1.ownBlock s29_9.ownBlock := Ap.mk (Ow.live o6_1) (Ow.fr o29_9)
    have ap_s7_2_s29_9 : Ap s7_2.ownBlock s29_9.ownBlock := Ap.mk (Ow.live os7_2) (Ow.fr o29_9)
    have ap_b7_2_s29_9 : Ap (some b7_2) s29_9.ownBlock := Ap.mk (Cel.live cb7_2) (Ow.fr o29_9)
    have fr_s29_9 : Fr w.heap.size s29_9.ownBlock := Fr.le (Ow.fr o29_9) e0.size
    replace o29_9 := Ow.base o29_9 e0.size
    refine PremT.a rfl fun s30_9 o30_9 => ?_
    have o30_9 := o30_9 _ (Tn.refl _ _)
    have ap_s6_1_s30_9 : Ap s6_1.ownBlock s30_9.ownBlock := Ap.mk (Ow.live o6_1) (Ow.fr o30_9)
    have ap_s7_2_s30_9 : Ap s7_2.ownBlock s30_9.ownBlock := Ap.mk (Ow.live os7_2) (Ow.fr o30_9)
    have ap_b7_2_s30_9 : Ap (some b7_2) s30_9.ownBlock := Ap.mk (Cel.live cb7_2) (Ow.fr o30_9)
    have fr_s30_9 : Fr w.heap.size s30_9.ownBlock := Fr.le (Ow.fr o30_9) e0.size
    replace o30_9 := Ow.base o30_9 e0.size
    have x1 : Tn [(some b7_2)] w3 w9 := x1
    have xs1 := x1.size
    have o6_1 := Ow.tnk o6_1 x1 (ApL.one ap_s6_1_b7_2)
    have os7_2 := Ow.tnk os7_2 x1 (ApL.one (Ap.symm ap_b7_2_s7_2))
    have e0 := Ext.tnk e0 (fun q hq => by simp only [List.mem_singleton] at hq; subst hq; exact fr_b7_2) x1
    clear x1
    refine PremT.nil ?_
    exact OpYeT.valg rfl rfl rfl rfl (Yd.bstr Try.underlying22 Try.underlying5 Try.underlying9 rfl (Ow.rd o30_9))
  intro w10 x1
  refine PremT.a rfl fun x26_ hx26_ => ?_
  have hx26_ := hx26_ _ (Tn.refl _ _)
  obtain ⟨v26_n, s26_n⟩ := x26_
  obtain ⟨o26_n, cX26_n, os26_n⟩ := hx26_
  dsimp only at o26_n cX26_n os26_n
  have ap_s6_1_v26_n : Ap s6_1.ownBlock v26_n.ownBlock := Ap.mk (Ow.live o6_1) (Ow.fr o26_n)
  have ap_s7_2_v26_n : Ap s7_2.ownBlock v26_n.ownBlock := Ap.mk (Ow.live os7_2) (Ow.fr o26_n)
  have ap_b7_2_v26_n : Ap (some b7_2) v26_n.ownBlock := Ap.mk (Cel.live cb7_2) (Ow.fr o26_n)
  have fr_v26_n : Fr w.heap.size v26_n.ownBlock := Fr.le (Ow.fr o26_n) e0.size
  have ap_s6_1_s26_n : Ap s6_1.ownBlock s26_n.ownBlock := Ap.mk (Ow.live o6_1) (Ow.fr os26_n)
  have ap_s7_2_s26_n : Ap s7_2.ownBlock s26_n.ownBlock := Ap.mk (Ow.live os7_2) (Ow.fr os26_n)
  have ap_b7_2_s26_n : Ap (some b7_2) s26_n.ownBlock := Ap.mk (Cel.live cb7_2) (Ow.fr os26_n)
  have fr_s26_n : Fr w.heap.size s26_n.ownBlock := Fr.le (Ow.fr os26_n) e0.size
  replace o26_n := Ow.base o26_n e0.size
  replace os26_n := Ow.base os26_n e0.size
  refine PremT.v rfl ?_
  refine PremT.a rfl fun s28_10 o28_10 => ?_
  have o28_10 := o28_10 _ (Tn.refl _ _)
  have ap_s6_1_s28_10 : Ap s6_1.ownBlock s28_10.ownBlock := Ap.mk (Ow.live o6_1) (Ow.fr o28_10)
  have ap_s7_2_s28_10 : Ap s7_2.ownBlock s28_10.ownBlock := Ap.mk (Ow.live os7_2) (Ow.fr o28_10)
  have ap_b7_2_s28_10 : Ap (some b7_2) s28_10.ownBlock := Ap.mk (Cel.live cb7_2) (Ow.fr o28_10)
  have fr_s28_10 : Fr w.heap.size s28_10.ownBlock := Fr.le (Ow.fr o28_10) e0.size
  replace o28_10 := Ow.base o28_10 e0.size
  refine PremT.a rfl fun s29_10 o29_10 => ?_
  have o29_10 := o29_10 _ (Tn.refl _ _)
  have ap_s6_1_s29_10 : Ap s6_1.ownBlock s29_10.ownBlock := Ap.mk (Ow.live o6_1) (Ow.fr o29_10)
  have ap_s7_2_s29_10 : Ap s7_2.ownBlock s29_10.ownBlock := Ap.mk (Ow.live os7_2) (Ow.fr o29_10)
  have ap_b7_2_s29_10 : Ap (some b7_2) s29_10.ownBlock := Ap.mk (Cel.live cb7_2) (Ow.fr o29_10)
  have fr_s29_10 : Fr w.heap.size s29_10.ownBlock := Fr.le (Ow.fr o29_10) e0.size
  replace o29_10 := Ow.base o29_10 e0.size
  refine PremT.a rfl fun s30_10 o30_10 => ?_
  have o30_10 := o30_10 _ (Tn.refl _ _)
  have ap_s6_1_s30_10 : Ap s6_1.ownBlock s30_10.ownBlock := Ap.mk (Ow.live o6_1) (Ow.fr o30_10)
  have ap_s7_2_s30_10 : Ap s7_2.ownBlock s30_10.ownBlock := Ap.mk (Ow.live os7_2) (Ow.fr o30_10)
  have ap_b7_2_s30_10 : Ap (some b7_2) s30_10.ownBlock := Ap.mk (Cel.live cb7_2) (Ow.fr o30_10)
  have fr_s30_10 : Fr w.heap.size s30_10.ownBlock := Fr.le (Ow.fr o30_10) e0.size
  replace o30_10 := Ow.base o30_10 e0.size
  refine PremT.v rfl ?_
  have x1 : Tn [(some b7_2)] w3 w10 := x1
  have xs1 := x1.size
  have o6_1 := Ow.tnk o6_1 x1 (ApL.one ap_s6_1_b7_2)
  have os7_2 := Ow.tnk os7_2 x1 (ApL.one (Ap.symm ap_b7_2_s7_2))
  have e0 := Ext.tnk e0 (fun q hq => by simp only [List.mem_singleton] at hq; subst hq; exact fr_b7_2) x1
  replace cb7_2 := cX26_n
  clear cX26_n
  clear x1
  refine PremT.nil ?_
  refine J.s_op_g rfl rfl rfl rfl (fun _ => Yd.seq rfl rfl) rfl ?_
  refine J.s_op rfl (fun _ => Yd.pick_t rfl rfl) rfl ?_
  refine J.s_op rfl (fun _ => Yd.move rfl) rfl ?_
  refine J.know (t := 34) (v' := .bool true) rfl (tt (by rfl)) ?_
  refine J.s_op_g rfl rfl rfl rfl (fun _ => Yd.move rfl) rfl ?_
  refine J.s_eff_g rfl rfl rfl rfl (Ye.call cl12 rfl (Index_ok (show Cel _ _ _ (chS _ _) from cb7_2) (Ow.rd os26_n) (by first | assumption | exact macL_len _ _ | exact chK_len _ (by first | assumption | omega | exact chK_len _ (by assumption) _) _ | omega | (simp; done)))) rfl ?_
  rintro _ w11 ⟨rfl, x1⟩
  have e0 := e0.trans x1
  have o6_1 := o6_1.ext x1
  have os7_2 := os7_2.ext x1
  have cb7_2 := cb7_2.ext x1
  have o26_n := o26_n.ext x1
  have os26_n := os26_n.ext x1
  have o28_10 := o28_10.ext x1
  have o29_10 := o29_10.ext x1
  have o30_10 := o30_10.ext x1
  clear x1
  refine J.s_op_g rfl rfl rfl rfl (fun _ => Yd.eql rfl rfl) rfl ?_
  refine J.s_op rfl (fun _ => Yd.pick_t rfl rfl) rfl ?_
  refine J.s_op rfl (fun _ => Yd.assign rfl) rfl ?_
  refine J.s_nil ?_
  refine J.n_np ?_
  refine J.n_then ?_
  refine J.ret ?_
  exact J.ret1 rfl rfl (⟨_, rfl, rfl, e0⟩)
end Ytikggonjagoiaaa
end Go.Proofs
