import Derived.Test.YtfefphcmfhabiaaT
import Derived.Test.YtfefphcmfhabiaaJ11
import Derived.Test.YtfefphcmfhabiaaW11
set_option linter.unusedVariables false
set_option linter.unusedSimpArgs false
set_option maxRecDepth 100000
set_option maxHeartbeats 4000000
namespace Go.Proofs
open Go.X Go.RowKit
namespace Ytfefphcmfhabiaa
theorem Find_ok {b : Nat} {n : Int} {s : Value} {es : List Ent} {m1 m2 : Int} {w : World} (hc : Cel w b 46 [(0, 1, [I n]), (1, 1, [s])]) (hr : Er entS w s es) : C Try.prog 38 [.pointer (some ⟨b, 0, none⟩), I m1, I m2] w (Ret fun v w' => v = I (idxI (eqE m1 m2) es) ∧ Ext w w') := by
  have hmx := Er.max hr
  have e0 := Ext.refl w
  refine C.enter Try.func38 rfl Try.ntmps38 rfl ?_
  refine J.seq ?_
  refine J.region ?_
  refine J.op (Yd.assign rfl) rfl ?_
  refine J.nil ?_
  refine J.n_then ?_
  refine J.seq ?_
  refine J.seq ?_
  refine J.region ?_
  refine J.op (Yd.assign rfl) rfl ?_
  refine J.nil ?_
  refine J.n_then ?_
  refine J.block ?_
  refine J.loop (ι := Nat) (fun i => [(0, .pointer (some ⟨b, 0, none⟩)), (1, I m1), (2, I m2), (7, I (i : Int))]) (fun i w' => i ≤ es.length ∧ (∀ q, q < i → eqE m1 m2 (es.getD q entD) = false) ∧ Ext w w') (fun i => es.length - i) (0) ⟨rfl, rfl, rfl, rfl, trivial⟩ (⟨Nat.zero_le _, (fun q hq => absurd hq (Nat.not_lt_zero _)), e0⟩) ?_
  rintro i w1 ⟨hk, hno, e0⟩
  refine J.seq ?_
  refine J.seq ?_
  refine J.region ?_
  refine J.op (Yd.move rfl) rfl ?_
  refine J.op (Yd.move rfl) rfl ?_
  refine J.op (Yd.nilCheck rfl) rfl ?_
  refine J.op (Yd.cast (Yd.fieldA Try.underlying46 rfl ti44 rfl rfl) (show _ = Value.pointer (some ⟨b, 1, none⟩) from rfl)) rfl ?_
  refine J.op (Yd.load pl44 rfl (Cel.cell1 (Cel.ext hc e0) 1 rfl)) rfl ?_
  refine J.op (Yd.lenE (K := entS) Try.underlying44 rfl (Er.ext hr e0)) rfl ?_
  refine J.op (Yd.lss rfl rfl) rfl ?_
  refine J.nil ?_
  refine J.n_then ?_
  refine J.cond_dec rfl (fun hc0 => ?_) (fun hc0 => ?_)
  · skip
    refine J.skip ?_
    refine J.n_then ?_
    refine J.seq ?_
    refine J.block ?_
    refine J.seq ?_
    refine J.region ?_
    refine J.op (Yd.move rfl) rfl ?_
    refine J.op (Yd.nilCheck rfl) rfl ?_
    refine J.op (Yd.cast (Yd.fieldA Try.underlying46 rfl ti44 rfl rfl) (show _ = Value.pointer (some ⟨b, 1, none⟩) from rfl)) rfl ?_
    refine J.op (Yd.load pl44 rfl (Cel.cell1 (Cel.ext hc e0) 1 rfl)) rfl ?_
    refine J.op (Yd.move rfl) rfl ?_
    refine J.op (Yd.idxE (K := entS) Try.underlying44 ti79 rfl rfl (Er.ext hr e0) (by first | omega | exact idx_u8' _ | (simp only [Int.toNat_natCast]; omega) | (simp only [List.length_map, List.length_drop, List.length_take, List.length_append, List.length_replicate]; omega) | (simp <;> omega))) rfl ?_
    refine J.op (Yd.fieldE (K := entS) (Er.ext hr e0) (by omega) Try.underlying79 rfl ti3 rfl rfl) rfl ?_
    refine J.op (Yd.cast (Yd.loadFd (K := entS) entD pl3 rfl (Er.ext hr e0) (by first | omega | exact idx_u8' _ | (simp only [Int.toNat_natCast]; omega) | (simp only [List.length_map, List.length_drop, List.length_take, List.length_append, List.length_replicate]; omega) | (simp <;> omega)) rfl) (show _ = I (es.getD (i : Int).toNat entD).1 from rfl)) rfl ?_
    refine J.op (Yd.move rfl) rfl ?_
    refine J.op (Yd.eql rfl rfl) rfl ?_
    refine J.op (Yd.move rfl) rfl ?_
    refine J.split_dec (t := 27) rfl (fun h1 => ?_) (fun h1 => ?_)
    · skip
      refine J.op_g rfl rfl rfl (Yd.move rfl) rfl ?_
      refine J.op_g rfl rfl rfl (Yd.nilCheck rfl) rfl ?_
      refine J.op_g rfl rfl rfl (Yd.cast (Yd.fieldA Try.underlying46 rfl ti44 rfl rfl) (show _ = Value.pointer (some ⟨b, 1, none⟩) from rfl)) rfl ?_
      refine J.op_g rfl rfl rfl (Yd.load pl44 rfl (Cel.cell1 (Cel.ext hc e0) 1 rfl)) rfl ?_
      refine J.op_g rfl rfl rfl (Yd.move rfl) rfl ?_
      refine J.op_g rfl rfl rfl (Yd.idxE (K := entS) Try.underlying44 ti79 rfl rfl (Er.ext hr e0) (by first | omega | exact idx_u8' _ | (simp only [Int.toNat_natCast]; omega) | (simp only [List.length_map, List.length_drop, List.length_take, List.length_append, List.length_replicate]; omega) | (simp <;> omega))) rfl ?_
      refine J.op_g rfl rfl rfl (Yd.fieldE (K := entS) (Er.ext hr e0) (by omega) Try.underlying79 rfl ti3 rfl rfl) rfl ?_
      refine J.op_g rfl rfl rfl (Yd.cast (Yd.loadFd (K := entS) entD pl3 rfl (Er.ext hr e0) (by first | omega | exact idx_u8' _ | (simp only [Int.toNat_natCast]; omega) | (simp only [List.length_map, List.length_drop, List.length_take, List.length_append, List.length_replicate]; omega) | (simp <;> omega)) rfl) (show _ = I (es.getD (i : Int).toNat entD).2.1 from rfl)) rfl ?_
      refine J.op_g rfl rfl rfl (Yd.move rfl) rfl ?_
      refine J.op_g rfl rfl rfl (Yd.eql rfl rfl) rfl ?_
      refine J.op (Yd.pick_t rfl rfl) rfl ?_
      refine J.nil ?_
      refine J.n_then ?_
      refine J.cond_dec rfl (fun hc1 => ?_) (fun hc1 => ?_)
      · skip
        refine J.seq ?_
        refine J.region ?_
        refine J.op (Yd.move rfl) rfl ?_
        refine J.op (Yd.assign rfl) rfl ?_
        refine J.nil ?_
        refine J.n_then ?_
        refine J.ret ?_
        refine J.r_block ?_
        refine J.r_then ?_
        refine J.r_then ?_
        refine J.r_block ?_
        refine J.r_then ?_
        exact J.ret1 rfl rfl (⟨_, rfl, (by first | exact congrArg (fun z => I z) (idxI_none entD (fun q hq => hno q (by omega))).symm | exact congrArg (fun z => I z) (idxI_at entD (k := i) (by omega) (by simp only [Int.toNat_natCast] at h1 hc1; rw [← eqE_yes h1]; exact decide_eq_true hc1) hno).symm), e0⟩)
      · skip
        refine J.skip ?_
        refine J.n_block ?_
        refine J.n_then ?_
        refine J.region ?_
        refine J.op (Yd.move rfl) rfl ?_
        refine J.op (Yd.add rfl rfl (by first | omega | exact idx_u8' _ | (simp only [Int.toNat_natCast]; omega) | (simp only [List.length_map, List.length_drop, List.length_take, List.length_append, List.length_replicate]; omega) | (simp <;> omega))) rfl ?_
        refine J.op (Yd.assign rfl) rfl ?_
        refine J.nil ?_
        refine J.n_then ?_
        exact J.round (i + 1) ⟨rfl, rfl, rfl, rfl, trivial⟩ (⟨by omega, (fun q hq => by rcases (show q < i ∨ q = i by omega) with h | rfl; exact hno q h; first | (simp only [Int.toNat_natCast] at h1 hc1; rw [← eqE_yes h1]; exact decide_eq_false hc1) | (simp only [Int.toNat_natCast] at h1; exact (eqE_no h1).symm)), e0⟩) (by omega)
    · skip
      refine J.not_g rfl rfl rfl rfl rfl ?_
      refine J.not_g rfl rfl rfl rfl rfl ?_
      refine J.not_g rfl rfl rfl rfl rfl ?_
      refine J.not_g rfl rfl rfl rfl rfl ?_
      refine J.not_g rfl rfl rfl rfl rfl ?_
      refine J.not_g rfl rfl rfl rfl rfl ?_
      refine J.not_g rfl rfl rfl rfl rfl ?_
      refine J.not_g rfl rfl rfl rfl rfl ?_
      refine J.not_g rfl rfl rfl rfl rfl ?_
      refine J.not_g rfl rfl rfl rfl rfl ?_
      refine J.op (Yd.pick_f rfl rfl) rfl ?_
      refine J.nil ?_
      refine J.n_then ?_
      refine J.cond_false rfl ?_
      refine J.skip ?_
      refine J.n_block ?_
      refine J.n_then ?_
      refine J.region ?_
      refine J.op (Yd.move rfl) rfl ?_
      refine J.op (Yd.add rfl rfl (by first | omega | exact idx_u8' _ | (simp only [Int.toNat_natCast]; omega) | (simp only [List.length_map, List.length_drop, List.length_take, List.length_append, List.length_replicate]; omega) | (simp <;> omega))) rfl ?_
      refine J.op (Yd.assign rfl) rfl ?_
      refine J.nil ?_
      refine J.n_then ?_
      exact J.round (i + 1) ⟨rfl, rfl, rfl, rfl, trivial⟩ (⟨by omega, (fun q hq => by rcases (show q < i ∨ q = i by omega) with h | rfl; exact hno q h; first | (simp only [Int.toNat_natCast] at h1 hc1; rw [← eqE_yes h1]; exact decide_eq_false hc1) | (simp only [Int.toNat_natCast] at h1; exact (eqE_no h1).symm)), e0⟩) (by omega)
  · skip
    refine J.exit ?_
    refine J.x_then ?_
    refine J.x_then ?_
    refine J.x_block ?_
    refine J.n_then ?_
    refine J.seq ?_
    refine J.region ?_
    refine J.op (Yd.assign rfl) rfl ?_
    refine J.nil ?_
    refine J.n_then ?_
    refine J.ret ?_
    exact J.ret1 rfl rfl (⟨_, rfl, (by first | exact congrArg (fun z => I z) (idxI_none entD (fun q hq => hno q (by omega))).symm | exact congrArg (fun z => I z) (idxI_at entD (k := i) (by omega) (by simp only [Int.toNat_natCast] at h1 hc1; rw [← eqE_yes h1]; exact decide_eq_true hc1) hno).symm), e0⟩)

theorem Find_is {b : Nat} {n : Int} {s : Value} {es : List Ent} {m1 m2 q : Int} {w : World} (hc : Cel w b 46 [(0, 1, [I n]), (1, 1, [s])]) (hr : Er entS w s es) (hq : idxI (eqE m1 m2) es = q) : C Try.prog 38 [.pointer (some ⟨b, 0, none⟩), I m1, I m2] w (Ret fun v w' => v = I q ∧ Ext w w') := hq ▸ Find_ok hc hr
theorem RNum_s {a : Value} {l r : List UInt8} {n : Nat} {t : UInt64} {w : World} (ha : Bs w a l) (hl : l.length ≤ 1000000) (ht : t.toNat ≤ 1099511627776) (h : rdT t.toNat l = some (n, r)) : C Try.prog 37 [a, W64 t] w (Ret fun u w' => ∃ v, u = .tuple #[I (n : Int), v, .bool true] ∧ (∀ W, Bs W a l → Bs W v r) ∧ Ext w w') := by
  have h1 := RNum_any ha hl ht
  rw [numV_yes h] at h1; exact h1
theorem RNum_n {a : Value} {l : List UInt8} {t : UInt64} {w : World} (ha : Bs w a l) (hl : l.length ≤ 1000000) (ht : t.toNat ≤ 1099511627776) (h : rdT t.toNat l = none) : C Try.prog 37 [a, W64 t] w (Ret fun u w' => ∃ v, u = .tuple #[I 0, v, .bool false] ∧ (∀ W, Bs W a l → Bs W v []) ∧ Ext w w') := by
  have h1 := RNum_any ha hl ht
  rw [numV_no h] at h1; exact h1

theorem LdS0 {a : Value} {l : List UInt8} {w : World} (ha : Bs w a l) (hl : l.length ≤ 1000000) (h1 : rdT 1000 l = none) : C Try.prog 19 [a] w (Ret fun v w' => v = .tuple #[.pointer none, I 2] ∧ Ext w w') := by
  have e0 := Ext.refl w
  refine C.enter Try.func19 rfl Try.ntmps19 rfl ?_
  refine J.seq ?_
  refine J.region ?_
  refine J.op (Yd.assign rfl) rfl ?_
  refine J.op (Yd.assign rfl) rfl ?_
  refine J.nil ?_
  refine J.n_then ?_
  refine J.seq ?_
  refine J.region ?_
  refine J.op (Yd.move rfl) rfl ?_
  refine J.eff (Ye.call cl37 rfl (RNum_n (t := 1000) ((fun (W_ : World) (e_ : Ext w W_) => ha.ext e_) _ e0) hl (by decide) h1)) rfl ?_
  rintro _ w1 ⟨v18_1, rfl, hv18_1, x1⟩
  have e0 := e0.trans x1
  clear x1
  have hq1 := fun (W_ : World) (e_ : Ext w W_) => hv18_1 W_ ((fun (W_ : World) (e_ : Ext w W_) => ha.ext e_) W_ e_)
  refine J.op (Yd.move rfl) rfl ?_
  refine J.op (Yd.extract rfl rfl) rfl ?_
  refine J.op (Yd.extract rfl rfl) rfl ?_
  refine J.op (Yd.extract rfl rfl) rfl ?_
  refine J.op (Yd.assign rfl) rfl ?_
  refine J.op (Yd.assign rfl) rfl ?_
  refine J.op (Yd.assign rfl) rfl ?_
  refine J.nil ?_
  refine J.n_then ?_
  refine J.seq ?_
  refine J.region ?_
  refine J.op (Yd.move rfl) rfl ?_
  refine J.eff (Ye.call cl37 rfl (RNum_n (t := 1000) (hq1 _ e0) (by decide) (by decide) rfl)) rfl ?_
  rintro _ w2 ⟨v24_2, rfl, hv24_2, x1⟩
  have e0 := e0.trans x1
  clear x1
  have hq2 := fun (W_ : World) (e_ : Ext w W_) => hv24_2 W_ (hq1 W_ e_)
  refine J.op (Yd.move rfl) rfl ?_
  refine J.op (Yd.extract rfl rfl) rfl ?_
  refine J.op (Yd.extract rfl rfl) rfl ?_
  refine J.op (Yd.extract rfl rfl) rfl ?_
  refine J.op (Yd.assign rfl) rfl ?_
  refine J.op (Yd.assign rfl) rfl ?_
  refine J.op (Yd.assign rfl) rfl ?_
  refine J.nil ?_
  refine J.n_then ?_
  refine J.seq ?_
  refine J.seq ?_
  refine J.region ?_
  refine J.op (Yd.move rfl) rfl ?_
  refine J.op (Yd.not rfl) rfl ?_
  refine J.op (Yd.move rfl) rfl ?_
  refine J.not_g rfl rfl rfl rfl rfl ?_
  refine J.not_g rfl rfl rfl rfl rfl ?_
  refine J.op (Yd.pick_t rfl rfl) rfl ?_
  refine J.op (Yd.move rfl) rfl ?_
  refine J.not_g rfl rfl rfl rfl rfl ?_
  refine J.not_g rfl rfl rfl rfl rfl ?_
  refine J.op (Yd.pick_t rfl rfl) rfl ?_
  refine J.op (Yd.move rfl) rfl ?_
  refine J.not_g rfl rfl rfl rfl rfl ?_
  refine J.not_g rfl rfl rfl rfl rfl ?_
  refine J.not_g rfl rfl rfl rfl rfl ?_
  refine J.op (Yd.pick_t rfl rfl) rfl ?_
  refine J.nil ?_
  refine J.n_then ?_
  refine J.cond_true rfl ?_
  refine J.seq ?_
  refine J.region ?_
  refine J.op (Yd.assign rfl) rfl ?_
  refine J.op (Yd.assign rfl) rfl ?_
  refine J.nil ?_
  refine J.n_then ?_
  refine J.ret ?_
  refine J.r_then ?_
  exact J.ret2 rfl rfl rfl (⟨_, rfl, rfl, e0⟩)

theorem LdS1 {a : Value} {l : List UInt8} {w : World} (ha : Bs w a l) (hl : l.length ≤ 1000000) {m : Nat} {c1 : List UInt8} (h1 : rdT 1000 l = some (m, c1)) (h2 : rdT 1000 c1 = none) : C Try.prog 19 [a] w (Ret fun v w' => v = .tuple #[.pointer none, I 2] ∧ Ext w w') := by
  have e0 := Ext.refl w
  refine C.enter Try.func19 rfl Try.ntmps19 rfl ?_
  refine J.seq ?_
  refine J.region ?_
  refine J.op (Yd.assign rfl) rfl ?_
  refine J.op (Yd.assign rfl) rfl ?_
  refine J.nil ?_
  refine J.n_then ?_
  refine J.seq ?_
  refine J.region ?_
  refine J.op (Yd.move rfl) rfl ?_
  refine J.eff (Ye.call cl37 rfl (RNum_s (t := 1000) ((fun (W_ : World) (e_ : Ext w W_) => ha.ext e_) _ e0) hl (by decide) h1)) rfl ?_
  rintro _ w1 ⟨v18_1, rfl, hv18_1, x1⟩
  have e0 := e0.trans x1
  clear x1
  have hq1 := fun (W_ : World) (e_ : Ext w W_) => hv18_1 W_ ((fun (W_ : World) (e_ : Ext w W_) => ha.ext e_) W_ e_)
  refine J.op (Yd.move rfl) rfl ?_
  refine J.op (Yd.extract rfl rfl) rfl ?_
  refine J.op (Yd.extract rfl rfl) rfl ?_
  refine J.op (Yd.extract rfl rfl) rfl ?_
  refine J.op (Yd.assign rfl) rfl ?_
  refine J.op (Yd.assign rfl) rfl ?_
  refine J.op (Yd.assign rfl) rfl ?_
  refine J.nil ?_
  refine J.n_then ?_
  refine J.seq ?_
  refine J.region ?_
  refine J.op (Yd.move rfl) rfl ?_
  refine J.eff (Ye.call cl37 rfl (RNum_n (t := 1000) (hq1 _ e0) (by have h81 := rdT_le h1; omega) (by decide) h2)) rfl ?_
  rintro _ w2 ⟨v24_2, rfl, hv24_2, x1⟩
  have e0 := e0.trans x1
  clear x1
  have hq2 := fun (W_ : World) (e_ : Ext w W_) => hv24_2 W_ (hq1 W_ e_)
  refine J.op (Yd.move rfl) rfl ?_
  refine J.op (Yd.extract rfl rfl) rfl ?_
  refine J.op (Yd.extract rfl rfl) rfl ?_
  refine J.op (Yd.extract rfl rfl) rfl ?_
  refine J.op (Yd.assign rfl) rfl ?_
  refine J.op (Yd.assign rfl) rfl ?_
  refine J.op (Yd.assign rfl) rfl ?_
  refine J.nil ?_
  refine J.n_then ?_
  refine J.seq ?_
  refine J.seq ?_
  refine J.region ?_
  refine J.op (Yd.move rfl) rfl ?_
  refine J.op (Yd.not rfl) rfl ?_
  refine J.op (Yd.move rfl) rfl ?_
  refine J.op_g rfl rfl rfl (Yd.move rfl) rfl ?_
  refine J.op_g rfl rfl rfl (Yd.not rfl) rfl ?_
  refine J.op (Yd.pick_f rfl rfl) rfl ?_
  refine J.op (Yd.move rfl) rfl ?_
  refine J.not_g rfl rfl rfl rfl rfl ?_
  refine J.not_g rfl rfl rfl rfl rfl ?_
  refine J.op (Yd.pick_t rfl rfl) rfl ?_
  refine J.op (Yd.move rfl) rfl ?_
  refine J.not_g rfl rfl rfl rfl rfl ?_
  refine J.not_g rfl rfl rfl rfl rfl ?_
  refine J.not_g rfl rfl rfl rfl rfl ?_
  refine J.op (Yd.pick_t rfl rfl) rfl ?_
  refine J.nil ?_
  refine J.n_then ?_
  refine J.cond_true rfl ?_
  refine J.seq ?_
  refine J.region ?_
  refine J.op (Yd.assign rfl) rfl ?_
  refine J.op (Yd.assign rfl) rfl ?_
  refine J.nil ?_
  refine J.n_then ?_
  refine J.ret ?_
  refine J.r_then ?_
  exact J.ret2 rfl rfl rfl (⟨_, rfl, rfl, e0⟩)

theorem LdS2 {a : Value} {l : List UInt8} {w : World} (ha : Bs w a l) (hl : l.length ≤ 1000000) {m n : Nat} {c1 c2 : List UInt8} (h1 : rdT 1000 l = some (m, c1)) (h2 : rdT 1000 c1 = some (n, c2)) (hm : m < 1) : C Try.prog 19 [a] w (Ret fun v w' => v = .tuple #[.pointer none, I 2] ∧ Ext w w') := by
  have e0 := Ext.refl w
  refine C.enter Try.func19 rfl Try.ntmps19 rfl ?_
  refine J.seq ?_
  refine J.region ?_
  refine J.op (Yd.assign rfl) rfl ?_
  refine J.op (Yd.assign rfl) rfl ?_
  refine J.nil ?_
  refine J.n_then ?_
  refine J.seq ?_
  refine J.region ?_
  refine J.op (Yd.move rfl) rfl ?_
  refine J.eff (Ye.call cl37 rfl (RNum_s (t := 1000) ((fun (W_ : World) (e_ : Ext w W_) => ha.ext e_) _ e0) hl (by decide) h1)) rfl ?_
  rintro _ w1 ⟨v18_1, rfl, hv18_1, x1⟩
  have e0 := e0.trans x1
  clear x1
  have hq1 := fun (W_ : World) (e_ : Ext w W_) => hv18_1 W_ ((fun (W_ : World) (e_ : Ext w W_) => ha.ext e_) W_ e_)
  refine J.op (Yd.move rfl) rfl ?_
  refine J.op (Yd.extract rfl rfl) rfl ?_
  refine J.op (Yd.extract rfl rfl) rfl ?_
  refine J.op (Yd.extract rfl rfl) rfl ?_
  refine J.op (Yd.assign rfl) rfl ?_
  refine J.op (Yd.assign rfl) rfl ?_
  refine J.op (Yd.assign rfl) rfl ?_
  refine J.nil ?_
  refine J.n_then ?_
  refine J.seq ?_
  refine J.region ?_
  refine J.op (Yd.move rfl) rfl ?_
  refine J.eff (Ye.call cl37 rfl (RNum_s (t := 1000) (hq1 _ e0) (by have h81 := rdT_le h1; omega) (by decide) h2)) rfl ?_
  rintro _ w2 ⟨v24_2, rfl, hv24_2, x1⟩
  have e0 := e0.trans x1
  clear x1
  have hq2 := fun (W_ : World) (e_ : Ext w W_) => hv24_2 W_ (hq1 W_ e_)
  refine J.op (Yd.move rfl) rfl ?_
  refine J.op (Yd.extract rfl rfl) rfl ?_
  refine J.op (Yd.extract rfl rfl) rfl ?_
  refine J.op (Yd.extract rfl rfl) rfl ?_
  refine J.op (Yd.assign rfl) rfl ?_
  refine J.op (Yd.assign rfl) rfl ?_
  refine J.op (Yd.assign rfl) rfl ?_
  refine J.nil ?_
  refine J.n_then ?_
  refine J.seq ?_
  refine J.seq ?_
  refine J.region ?_
  refine J.op (Yd.move rfl) rfl ?_
  refine J.op (Yd.not rfl) rfl ?_
  refine J.op (Yd.move rfl) rfl ?_
  refine J.op_g rfl rfl rfl (Yd.move rfl) rfl ?_
  refine J.op_g rfl rfl rfl (Yd.not rfl) rfl ?_
  refine J.op (Yd.pick_f rfl rfl) rfl ?_
  refine J.op (Yd.move rfl) rfl ?_
  refine J.op_g rfl rfl rfl (Yd.move rfl) rfl ?_
  refine J.op_g rfl rfl rfl (Yd.lss rfl rfl) rfl ?_
  refine J.op (Yd.pick_f rfl rfl) rfl ?_
  refine J.op (Yd.move rfl) rfl ?_
  refine J.know (t := 38) (v' := .bool true) rfl (tt (by omega)) ?_
  refine J.not_g rfl rfl rfl rfl rfl ?_
  refine J.not_g rfl rfl rfl rfl rfl ?_
  refine J.not_g rfl rfl rfl rfl rfl ?_
  refine J.op (Yd.pick_t rfl rfl) rfl ?_
  refine J.nil ?_
  refine J.n_then ?_
  refine J.cond_true rfl ?_
  refine J.seq ?_
  refine J.region ?_
  refine J.op (Yd.assign rfl) rfl ?_
  refine J.op (Yd.assign rfl) rfl ?_
  refine J.nil ?_
  refine J.n_then ?_
  refine J.ret ?_
  refine J.r_then ?_
  exact J.ret2 rfl rfl rfl (⟨_, rfl, rfl, e0⟩)

theorem LdS3 {a : Value} {l : List UInt8} {w : World} (ha : Bs w a l) (hl : l.length ≤ 1000000) {m n : Nat} {c1 c2 : List UInt8} (h1 : rdT 1000 l = some (m, c1)) (h2 : rdT 1000 c1 = some (n, c2)) (hm : 1 ≤ m ∧ m < n) : C Try.prog 19 [a] w (Ret fun v w' => v = .tuple #[.pointer none, I 2] ∧ Ext w w') := by
  have e0 := Ext.refl w
  refine C.enter Try.func19 rfl Try.ntmps19 rfl ?_
  refine J.seq ?_
  refine J.region ?_
  refine J.op (Yd.assign rfl) rfl ?_
  refine J.op (Yd.assign rfl) rfl ?_
  refine J.nil ?_
  refine J.n_then ?_
  refine J.seq ?_
  refine J.region ?_
  refine J.op (Yd.move rfl) rfl ?_
  refine J.eff (Ye.call cl37 rfl (RNum_s (t := 1000) ((fun (W_ : World) (e_ : Ext w W_) => ha.ext e_) _ e0) hl (by decide) h1)) rfl ?_
  rintro _ w1 ⟨v18_1, rfl, hv18_1, x1⟩
  have e0 := e0.trans x1
  clear x1
  have hq1 := fun (W_ : World) (e_ : Ext w W_) => hv18_1 W_ ((fun (W_ : World) (e_ : Ext w W_) => ha.ext e_) W_ e_)
  refine J.op (Yd.move rfl) rfl ?_
  refine J.op (Yd.extract rfl rfl) rfl ?_
  refine J.op (Yd.extract rfl rfl) rfl ?_
  refine J.op (Yd.extract rfl rfl) rfl ?_
  refine J.op (Yd.assign rfl) rfl ?_
  refine J.op (Yd.assign rfl) rfl ?_
  refine J.op (Yd.assign rfl) rfl ?_
  refine J.nil ?_
  refine J.n_then ?_
  refine J.seq ?_
  refine J.region ?_
  refine J.op (Yd.move rfl) rfl ?_
  refine J.eff (Ye.call cl37 rfl (RNum_s (t := 1000) (hq1 _ e0) (by have h81 := rdT_le h1; omega) (by decide) h2)) rfl ?_
  rintro _ w2 ⟨v24_2, rfl, hv24_2, x1⟩
  have e0 := e0.trans x1
  clear x1
  have hq2 := fun (W_ : World) (e_ : Ext w W_) => hv24_2 W_ (hq1 W_ e_)
  refine J.op (Yd.move rfl) rfl ?_
  refine J.op (Yd.extract rfl rfl) rfl ?_
  refine J.op (Yd.extract rfl rfl) rfl ?_
  refine J.op (Yd.extract rfl rfl) rfl ?_
  refine J.op (Yd.assign rfl) rfl ?_
  refine J.op (Yd.assign rfl) rfl ?_
  refine J.op (Yd.assign rfl) rfl ?_
  refine J.nil ?_
  refine J.n_then ?_
  refine J.seq ?_
  refine J.seq ?_
  refine J.region ?_
  refine J.op (Yd.move rfl) rfl ?_
  refine J.op (Yd.not rfl) rfl ?_
  refine J.op (Yd.move rfl) rfl ?_
  refine J.op_g rfl rfl rfl (Yd.move rfl) rfl ?_
  refine J.op_g rfl rfl rfl (Yd.not rfl) rfl ?_
  refine J.op (Yd.pick_f rfl rfl) rfl ?_
  refine J.op (Yd.move rfl) rfl ?_
  refine J.op_g rfl rfl rfl (Yd.move rfl) rfl ?_
  refine J.op_g rfl rfl rfl (Yd.lss rfl rfl) rfl ?_
  refine J.op (Yd.pick_f rfl rfl) rfl ?_
  refine J.op (Yd.move rfl) rfl ?_
  refine J.know (t := 38) (v' := .bool false) rfl (ff (by omega)) ?_
  refine J.op_g rfl rfl rfl (Yd.move rfl) rfl ?_
  refine J.op_g rfl rfl rfl (Yd.move rfl) rfl ?_
  refine J.op_g rfl rfl rfl (Yd.gtr rfl rfl) rfl ?_
  refine J.op (Yd.pick_f rfl rfl) rfl ?_
  refine J.nil ?_
  refine J.n_then ?_
  refine J.know (t := 42) (v' := .bool true) rfl (tt (by omega)) ?_
  refine J.cond_true rfl ?_
  refine J.seq ?_
  refine J.region ?_
  refine J.op (Yd.assign rfl) rfl ?_
  refine J.op (Yd.assign rfl) rfl ?_
  refine J.nil ?_
  refine J.n_then ?_
  refine J.ret ?_
  refine J.r_then ?_
  exact J.ret2 rfl rfl rfl (⟨_, rfl, rfl, e0⟩)

theorem LdS4 {a : Value} {l : List UInt8} {w : World} (ha : Bs w a l) (hl : l.length ≤ 1000000) {m n : Nat} {c1 c2 : List UInt8} (h1 : rdT 1000 l = some (m, c1)) (h2 : rdT 1000 c1 = some (n, c2)) (hm : 1 ≤ m ∧ n ≤ m) (h3 : rdKs (m : Int) n [] c2 = none) : C Try.prog 19 [a] w (Ret fun v w' => v = .tuple #[.pointer none, I 2] ∧ Ext w w') := by
  obtain ⟨_, _, _, _, hm10, _⟩ := rdT_some h1
  have e0 := Ext.refl w
  refine C.enter Try.func19 rfl Try.ntmps19 rfl ?_
  refine J.seq ?_
  refine J.region ?_
  refine J.op (Yd.assign rfl) rfl ?_
  refine J.op (Yd.assign rfl) rfl ?_
  refine J.nil ?_
  refine J.n_then ?_
  refine J.seq ?_
  refine J.region ?_
  refine J.op (Yd.move rfl) rfl ?_
  refine J.eff (Ye.call cl37 rfl (RNum_s (t := 1000) ((fun (W_ : World) (e_ : Ext w W_) => ha.ext e_) _ e0) hl (by decide) h1)) rfl ?_
  rintro _ w1 ⟨v18_1, rfl, hv18_1, x1⟩
  have e0 := e0.trans x1
  clear x1
  have hq1 := fun (W_ : World) (e_ : Ext w W_) => hv18_1 W_ ((fun (W_ : World) (e_ : Ext w W_) => ha.ext e_) W_ e_)
  refine J.op (Yd.move rfl) rfl ?_
  refine J.op (Yd.extract rfl rfl) rfl ?_
  refine J.op (Yd.extract rfl rfl) rfl ?_
  refine J.op (Yd.extract rfl rfl) rfl ?_
  refine J.op (Yd.assign rfl) rfl ?_
  refine J.op (Yd.assign rfl) rfl ?_
  refine J.op (Yd.assign rfl) rfl ?_
  refine J.nil ?_
  refine J.n_then ?_
  refine J.seq ?_
  refine J.region ?_
  refine J.op (Yd.move rfl) rfl ?_
  refine J.eff (Ye.call cl37 rfl (RNum_s (t := 1000) (hq1 _ e0) (by have h81 := rdT_le h1; omega) (by decide) h2)) rfl ?_
  rintro _ w2 ⟨v24_2, rfl, hv24_2, x1⟩
  have e0 := e0.trans x1
  clear x1
  have hq2 := fun (W_ : World) (e_ : Ext w W_) => hv24_2 W_ (hq1 W_ e_)
  refine J.op (Yd.move rfl) rfl ?_
  refine J.op (Yd.extract rfl rfl) rfl ?_
  refine J.op (Yd.extract rfl rfl) rfl ?_
  refine J.op (Yd.extract rfl rfl) rfl ?_
  refine J.op (Yd.assign rfl) rfl ?_
  refine J.op (Yd.assign rfl) rfl ?_
  refine J.op (Yd.assign rfl) rfl ?_
  refine J.nil ?_
  refine J.n_then ?_
  refine J.seq ?_
  refine J.seq ?_
  refine J.region ?_
  refine J.op (Yd.move rfl) rfl ?_
  refine J.op (Yd.not rfl) rfl ?_
  refine J.op (Yd.move rfl) rfl ?_
  refine J.op_g rfl rfl rfl (Yd.move rfl) rfl ?_
  refine J.op_g rfl rfl rfl (Yd.not rfl) rfl ?_
  refine J.op (Yd.pick_f rfl rfl) rfl ?_
  refine J.op (Yd.move rfl) rfl ?_
  refine J.op_g rfl rfl rfl (Yd.move rfl) rfl ?_
  refine J.op_g rfl rfl rfl (Yd.lss rfl rfl) rfl ?_
  refine J.op (Yd.pick_f rfl rfl) rfl ?_
  refine J.op (Yd.move rfl) rfl ?_
  refine J.know (t := 38) (v' := .bool false) rfl (ff (by omega)) ?_
  refine J.op_g rfl rfl rfl (Yd.move rfl) rfl ?_
  refine J.op_g rfl rfl rfl (Yd.move rfl) rfl ?_
  refine J.op_g rfl rfl rfl (Yd.gtr rfl rfl) rfl ?_
  refine J.op (Yd.pick_f rfl rfl) rfl ?_
  refine J.nil ?_
  refine J.n_then ?_
  refine J.know (t := 42) (v' := .bool false) rfl (ff (by omega)) ?_
  refine J.cond_false rfl ?_
  refine J.skip ?_
  refine J.n_then ?_
  refine J.seq ?_
  refine J.region ?_
  refine J.op (Yd.move rfl) rfl ?_
  refine J.op (Yd.cast (Yd.buildS (cells := #[I (m : Int), nilS]) (pl := [(0, 1), (1, 1)]) Try.underlying46 (by kernel_rfl) ti46 rfl (by rfl)) (show _ = Value.agg #[I (m : Int), nilS] from rfl)) rfl ?_
  refine J.eff (Ye.box (S := [(0, 1, [I (m : Int)]), (1, 1, [nilS])]) rfl (by simp [SegAll, SegOK, Value.cells, nilS])) rfl ?_
  rintro _ w3 ⟨b45_2, rfl, hb_, c45_2, x1⟩
  have fr_b45_2 : Fr w.heap.size (some b45_2) := Fr.le (Fr.blk hb_) e0.size
  have e0 := e0.trans x1
  clear x1 hb_
  refine J.op (Yd.assign rfl) rfl ?_
  refine J.nil ?_
  refine J.n_then ?_
  refine J.seq ?_
  refine J.seq ?_
  refine J.region ?_
  refine J.op (Yd.assign rfl) rfl ?_
  refine J.nil ?_
  refine J.n_then ?_
  refine J.block ?_
  refine J.loop (ι := Nat × List Key × List UInt8 × Value × Value × List Ent) (fun i => [(6, I (n : Int)), (9, I (i.1 : Int)), (0, i.2.2.2.1), (8, .pointer (some ⟨b45_2, 0, none⟩))]) (fun i w' => i.1 ≤ n ∧ i.2.1.length = i.1 ∧ All2 KE i.2.2.2.2.2 i.2.1 ∧ rdKs (m : Int) (n - i.1) i.2.1 i.2.2.1 = none ∧ (∀ W_, Ext w W_ → Bs W_ i.2.2.2.1 i.2.2.1) ∧ i.2.2.1.length ≤ 1000000 ∧ Cel w' b45_2 46 [(0, 1, [I (m : Int)]), (1, 1, [i.2.2.2.2.1])] ∧ Es entS 0 79 w' i.2.2.2.2.1 i.2.2.2.2.2 ∧ Fr w.heap.size (i.2.2.2.2.1).ownBlock ∧ Ap (some b45_2) (i.2.2.2.2.1).ownBlock ∧ Ext w w') (fun i => n - i.1) ((0, [], c2, _, nilS, [])) ⟨rfl, rfl, rfl, rfl, trivial⟩ (⟨Nat.zero_le _, rfl, trivial, h3, hq2, (by have h81 := rdT_le h1; have h82 := rdT_le h2; show c2.length ≤ 1000000; omega), c45_2, (Es.nil _ _ _ _), Fr.nil, Ap.nil_r, e0⟩) ?_
  rintro ⟨j, L, c, va, s2, es⟩ w4 ⟨hk, hLi, hA, hR, hva, hcl, c45_2, ho2, fr_s2, ap_b45_2_s2, e0⟩
  dsimp only at *
  have hAl := hA.len
  refine J.seq ?_
  refine J.seq ?_
  refine J.region ?_
  refine J.op (Yd.move rfl) rfl ?_
  refine J.op (Yd.move rfl) rfl ?_
  refine J.op (Yd.lss rfl rfl) rfl ?_
  refine J.nil ?_
  refine J.n_then ?_
  refine J.cond_dec rfl (fun hc1 => ?_) (fun hc1 => ?_)
  · skip
    refine J.skip ?_
    refine J.n_then ?_
    refine J.seq ?_
    refine J.block ?_
    refine J.seq ?_
    refine J.region ?_
    rcases rdKs_bad (show j < n by omega) (by omega) hR with g1 | ⟨e, d1, g1, g2⟩ | ⟨e, i, d1, d2, g1, g2, hsh⟩ | ⟨e, i, d1, d2, g1, g2, hsh, hdu⟩ | ⟨e, i, d1, d2, g1, g2, hst, hR2⟩
    · skip
      refine J.op (Yd.move rfl) rfl ?_
      refine J.eff (Ye.call cl37 rfl (RNum_n (t := 1099511627776) (hva _ e0) hcl (by decide) g1)) rfl ?_
      rintro _ w5 ⟨v53_5, rfl, hv53_5, x1⟩
      have e0 := e0.trans x1
      have c45_2 := c45_2.ext x1
      have ho2 := ho2.ext x1
      clear x1
      have hq3 := fun (W_ : World) (e_ : Ext w W_) => hv53_5 W_ (hva W_ e_)
      refine J.op (Yd.move rfl) rfl ?_
      refine J.op (Yd.extract rfl rfl) rfl ?_
      refine J.op (Yd.extract rfl rfl) rfl ?_
      refine J.op (Yd.extract rfl rfl) rfl ?_
      refine J.op (Yd.assign rfl) rfl ?_
      refine J.op (Yd.assign rfl) rfl ?_
      refine J.op (Yd.assign rfl) rfl ?_
      refine J.nil ?_
      refine J.n_then ?_
      refine J.seq ?_
      refine J.region ?_
      refine J.op (Yd.move rfl) rfl ?_
      refine J.eff (Ye.call cl37 rfl (RNum_n (t := 1099511627776) (hq3 _ e0) (by decide) (by decide) rfl)) rfl ?_
      rintro _ w6 ⟨v59_6, rfl, hv59_6, x1⟩
      have e0 := e0.trans x1
      have c45_2 := c45_2.ext x1
      have ho2 := ho2.ext x1
      clear x1
      have hq4 := fun (W_ : World) (e_ : Ext w W_) => hv59_6 W_ (hq3 W_ e_)
      refine J.op (Yd.move rfl) rfl ?_
      refine J.op (Yd.extract rfl rfl) rfl ?_
      refine J.op (Yd.extract rfl rfl) rfl ?_
      refine J.op (Yd.extract rfl rfl) rfl ?_
      refine J.op (Yd.assign rfl) rfl ?_
      refine J.op (Yd.assign rfl) rfl ?_
      refine J.op (Yd.assign rfl) rfl ?_
      refine J.nil ?_
      refine J.n_then ?_
      refine J.seq ?_
      refine J.seq ?_
      refine J.region ?_
      refine J.op (Yd.move rfl) rfl ?_
      refine J.op (Yd.not rfl) rfl ?_
      refine J.op (Yd.move rfl) rfl ?_
      refine J.not_g rfl rfl rfl rfl rfl ?_
      refine J.not_g rfl rfl rfl rfl rfl ?_
      refine J.op (Yd.pick_t rfl rfl) rfl ?_
      refine J.op (Yd.move rfl) rfl ?_
      refine J.not_g rfl rfl rfl rfl rfl ?_
      refine J.not_g rfl rfl rfl rfl rfl ?_
      refine J.not_g rfl rfl rfl rfl rfl ?_
      refine J.op (Yd.pick_t rfl rfl) rfl ?_
      refine J.op (Yd.move rfl) rfl ?_
      refine J.not_g rfl rfl rfl rfl rfl ?_
      refine J.not_g rfl rfl rfl rfl rfl ?_
      refine J.not_g rfl rfl rfl rfl rfl ?_
      refine J.not_g rfl rfl rfl rfl rfl ?_
      refine J.not_g rfl rfl rfl rfl rfl ?_
      refine J.op (Yd.pick_t rfl rfl) rfl ?_
      refine J.nil ?_
      refine J.n_then ?_
      refine J.cond_true rfl ?_
      refine J.seq ?_
      refine J.region ?_
      refine J.op (Yd.assign rfl) rfl ?_
      refine J.op (Yd.assign rfl) rfl ?_
      refine J.nil ?_
      refine J.n_then ?_
      refine J.ret ?_
      refine J.r_then ?_
      refine J.r_block ?_
      refine J.r_then ?_
      refine J.r_then ?_
      refine J.r_block ?_
      refine J.r_then ?_
      exact J.ret2 rfl rfl rfl (⟨_, rfl, rfl, e0⟩)
    · skip
      refine J.op (Yd.move rfl) rfl ?_
      refine J.eff (Ye.call cl37 rfl (RNum_s (t := 1099511627776) (hva _ e0) hcl (by decide) g1)) rfl ?_
      rintro _ w7 ⟨v53_7, rfl, hv53_7, x1⟩
      have e0 := e0.trans x1
      have c45_2 := c45_2.ext x1
      have ho2 := ho2.ext x1
      clear x1
      have hq3 := fun (W_ : World) (e_ : Ext w W_) => hv53_7 W_ (hva W_ e_)
      refine J.op (Yd.move rfl) rfl ?_
      refine J.op (Yd.extract rfl rfl) rfl ?_
      refine J.op (Yd.extract rfl rfl) rfl ?_
      refine J.op (Yd.extract rfl rfl) rfl ?_
      refine J.op (Yd.assign rfl) rfl ?_
      refine J.op (Yd.assign rfl) rfl ?_
      refine J.op (Yd.assign rfl) rfl ?_
      refine J.nil ?_
      refine J.n_then ?_
      refine J.seq ?_
      refine J.region ?_
      refine J.op (Yd.move rfl) rfl ?_
      refine J.eff (Ye.call cl37 rfl (RNum_n (t := 1099511627776) (hq3 _ e0) (by have h83 := rdT_le g1; omega) (by decide) g2)) rfl ?_
      rintro _ w8 ⟨v59_8, rfl, hv59_8, x1⟩
      have e0 := e0.trans x1
      have c45_2 := c45_2.ext x1
      have ho2 := ho2.ext x1
      clear x1
      have hq4 := fun (W_ : World) (e_ : Ext w W_) => hv59_8 W_ (hq3 W_ e_)
      refine J.op (Yd.move rfl) rfl ?_
      refine J.op (Yd.extract rfl rfl) rfl ?_
      refine J.op (Yd.extract rfl rfl) rfl ?_
      refine J.op (Yd.extract rfl rfl) rfl ?_
      refine J.op (Yd.assign rfl) rfl ?_
      refine J.op (Yd.assign rfl) rfl ?_
      refine J.op (Yd.assign rfl) rfl ?_
      refine J.nil ?_
      refine J.n_then ?_
      refine J.seq ?_
      refine J.seq ?_
      refine J.region ?_
      refine J.op (Yd.move rfl) rfl ?_
      refine J.op (Yd.not rfl) rfl ?_
      refine J.op (Yd.move rfl) rfl ?_
      refine J.op_g rfl rfl rfl (Yd.move rfl) rfl ?_
      refine J.op_g rfl rfl rfl (Yd.not rfl) rfl ?_
      refine J.op (Yd.pick_f rfl rfl) rfl ?_
      refine J.op (Yd.move rfl) rfl ?_
      refine J.not_g rfl rfl rfl rfl rfl ?_
      refine J.not_g rfl rfl rfl rfl rfl ?_
      refine J.not_g rfl rfl rfl rfl rfl ?_
      refine J.op (Yd.pick_t rfl rfl) rfl ?_
      refine J.op (Yd.move rfl) rfl ?_
      refine J.not_g rfl rfl rfl rfl rfl ?_
      refine J.not_g rfl rfl rfl rfl rfl ?_
      refine J.not_g rfl rfl rfl rfl rfl ?_
      refine J.not_g rfl rfl rfl rfl rfl ?_
      refine J.not_g rfl rfl rfl rfl rfl ?_
      refine J.op (Yd.pick_t rfl rfl) rfl ?_
      refine J.nil ?_
      refine J.n_then ?_
      refine J.cond_true rfl ?_
      refine J.seq ?_
      refine J.region ?_
      refine J.op (Yd.assign rfl) rfl ?_
      refine J.op (Yd.assign rfl) rfl ?_
      refine J.nil ?_
      refine J.n_then ?_
      refine J.ret ?_
      refine J.r_then ?_
      refine J.r_block ?_
      refine J.r_then ?_
      refine J.r_then ?_
      refine J.r_block ?_
      refine J.r_then ?_
      exact J.ret2 rfl rfl rfl (⟨_, rfl, rfl, e0⟩)
    · skip
      refine J.op (Yd.move rfl) rfl ?_
      refine J.eff (Ye.call cl37 rfl (RNum_s (t := 1099511627776) (hva _ e0) hcl (by decide) g1)) rfl ?_
      rintro _ w9 ⟨v53_9, rfl, hv53_9, x1⟩
      have e0 := e0.trans x1
      have c45_2 := c45_2.ext x1
      have ho2 := ho2.ext x1
      clear x1
      have hq3 := fun (W_ : World) (e_ : Ext w W_) => hv53_9 W_ (hva W_ e_)
      refine J.op (Yd.move rfl) rfl ?_
      refine J.op (Yd.extract rfl rfl) rfl ?_
      refine J.op (Yd.extract rfl rfl) rfl ?_
      refine J.op (Yd.extract rfl rfl) rfl ?_
      refine J.op (Yd.assign rfl) rfl ?_
      refine J.op (Yd.assign rfl) rfl ?_
      refine J.op (Yd.assign rfl) rfl ?_
      refine J.nil ?_
      refine J.n_then ?_
      refine J.seq ?_
      refine J.region ?_
      refine J.op (Yd.move rfl) rfl ?_
      refine J.eff (Ye.call cl37 rfl (RNum_s (t := 1099511627776) (hq3 _ e0) (by have h83 := rdT_le g1; omega) (by decide) g2)) rfl ?_
      rintro _ w10 ⟨v59_10, rfl, hv59_10, x1⟩
      have e0 := e0.trans x1
      have c45_2 := c45_2.ext x1
      have ho2 := ho2.ext x1
      clear x1
      have hq4 := fun (W_ : World) (e_ : Ext w W_) => hv59_10 W_ (hq3 W_ e_)
      refine J.op (Yd.move rfl) rfl ?_
      refine J.op (Yd.extract rfl rfl) rfl ?_
      refine J.op (Yd.extract rfl rfl) rfl ?_
      refine J.op (Yd.extract rfl rfl) rfl ?_
      refine J.op (Yd.assign rfl) rfl ?_
      refine J.op (Yd.assign rfl) rfl ?_
      refine J.op (Yd.assign rfl) rfl ?_
      refine J.nil ?_
      refine J.n_then ?_
      refine J.seq ?_
      refine J.seq ?_
      refine J.region ?_
      refine J.op (Yd.move rfl) rfl ?_
      refine J.op (Yd.not rfl) rfl ?_
      refine J.op (Yd.move rfl) rfl ?_
      refine J.op_g rfl rfl rfl (Yd.move rfl) rfl ?_
      refine J.op_g rfl rfl rfl (Yd.not rfl) rfl ?_
      refine J.op (Yd.pick_f rfl rfl) rfl ?_
      refine J.op (Yd.move rfl) rfl ?_
      refine J.op_g rfl rfl rfl (Yd.move rfl) rfl ?_
      refine J.op_g rfl rfl rfl (Yd.len_b Try.underlying29 rfl (hq4 _ e0)) rfl ?_
      refine J.op_g rfl rfl rfl (Yd.lss rfl rfl) rfl ?_
      refine J.op (Yd.pick_f rfl rfl) rfl ?_
      refine J.op (Yd.move rfl) rfl ?_
      refine J.know (t := 74) (v' := .bool true) rfl (tt (by omega)) ?_
      refine J.not_g rfl rfl rfl rfl rfl ?_
      refine J.not_g rfl rfl rfl rfl rfl ?_
      refine J.not_g rfl rfl rfl rfl rfl ?_
      refine J.not_g rfl rfl rfl rfl rfl ?_
      refine J.not_g rfl rfl rfl rfl rfl ?_
      refine J.op (Yd.pick_t rfl rfl) rfl ?_
      refine J.nil ?_
      refine J.n_then ?_
      refine J.cond_true rfl ?_
      refine J.seq ?_
      refine J.region ?_
      refine J.op (Yd.assign rfl) rfl ?_
      refine J.op (Yd.assign rfl) rfl ?_
      refine J.nil ?_
      refine J.n_then ?_
      refine J.ret ?_
      refine J.r_then ?_
      refine J.r_block ?_
      refine J.r_then ?_
      refine J.r_then ?_
      refine J.r_block ?_
      refine J.r_then ?_
      exact J.ret2 rfl rfl rfl (⟨_, rfl, rfl, e0⟩)
    · skip
      refine J.op (Yd.move rfl) rfl ?_
      refine J.eff (Ye.call cl37 rfl (RNum_s (t := 1099511627776) (hva _ e0) hcl (by decide) g1)) rfl ?_
      rintro _ w11 ⟨v53_11, rfl, hv53_11, x1⟩
      have e0 := e0.trans x1
      have c45_2 := c45_2.ext x1
      have ho2 := ho2.ext x1
      clear x1
      have hq3 := fun (W_ : World) (e_ : Ext w W_) => hv53_11 W_ (hva W_ e_)
      refine J.op (Yd.move rfl) rfl ?_
      refine J.op (Yd.extract rfl rfl) rfl ?_
      refine J.op (Yd.extract rfl rfl) rfl ?_
      refine J.op (Yd.extract rfl rfl) rfl ?_
      refine J.op (Yd.assign rfl) rfl ?_
      refine J.op (Yd.assign rfl) rfl ?_
      refine J.op (Yd.assign rfl) rfl ?_
      refine J.nil ?_
      refine J.n_then ?_
      refine J.seq ?_
      refine J.region ?_
      refine J.op (Yd.move rfl) rfl ?_
      refine J.eff (Ye.call cl37 rfl (RNum_s (t := 1099511627776) (hq3 _ e0) (by have h83 := rdT_le g1; omega) (by decide) g2)) rfl ?_
      rintro _ w12 ⟨v59_12, rfl, hv59_12, x1⟩
      have e0 := e0.trans x1
      have c45_2 := c45_2.ext x1
      have ho2 := ho2.ext x1
      clear x1
      have hq4 := fun (W_ : World) (e_ : Ext w W_) => hv59_12 W_ (hq3 W_ e_)
      refine J.op (Yd.move rfl) rfl ?_
      refine J.op (Yd.extract rfl rfl) rfl ?_
      refine J.op (Yd.extract rfl rfl) rfl ?_
      refine J.op (Yd.extract rfl rfl) rfl ?_
      refine J.op (Yd.assign rfl) rfl ?_
      refine J.op (Yd.assign rfl) rfl ?_
      refine J.op (Yd.assign rfl) rfl ?_
      refine J.nil ?_
      refine J.n_then ?_
      refine J.seq ?_
      refine J.seq ?_
      refine J.region ?_
      refine J.op (Yd.move rfl) rfl ?_
      refine J.op (Yd.not rfl) rfl ?_
      refine J.op (Yd.move rfl) rfl ?_
      refine J.op_g rfl rfl rfl (Yd.move rfl) rfl ?_
      refine J.op_g rfl rfl rfl (Yd.not rfl) rfl ?_
      refine J.op (Yd.pick_f rfl rfl) rfl ?_
      refine J.op (Yd.move rfl) rfl ?_
      refine J.op_g rfl rfl rfl (Yd.move rfl) rfl ?_
      refine J.op_g rfl rfl rfl (Yd.len_b Try.underlying29 rfl (hq4 _ e0)) rfl ?_
      refine J.op_g rfl rfl rfl (Yd.lss rfl rfl) rfl ?_
      refine J.op (Yd.pick_f rfl rfl) rfl ?_
      refine J.op (Yd.move rfl) rfl ?_
      refine J.know (t := 74) (v' := .bool false) rfl (ff (by omega)) ?_
      refine J.op_g rfl rfl rfl (Yd.move rfl) rfl ?_
      refine J.op_g rfl rfl rfl (Yd.move rfl) rfl ?_
      refine J.op_g rfl rfl rfl (Yd.move rfl) rfl ?_
      refine J.eff_g rfl rfl rfl (Ye.call cl38 rfl (Find_is (q := idxI (eqK (e : Int) (i : Int)) L) c45_2 (Es.rd ho2) (hA.idx fun a b h => h.eq _ _))) rfl ?_
      rintro _ w13 ⟨rfl, x1⟩
      have e0 := e0.trans x1
      have c45_2 := c45_2.ext x1
      have ho2 := ho2.ext x1
      clear x1
      refine J.op_g rfl rfl rfl (Yd.geq rfl rfl) rfl ?_
      refine J.op (Yd.pick_f rfl rfl) rfl ?_
      refine J.nil ?_
      refine J.n_then ?_
      refine J.know (t := 80) (v' := .bool true) rfl (tt (by exact hdu)) ?_
      refine J.cond_true rfl ?_
      refine J.seq ?_
      refine J.region ?_
      refine J.op (Yd.assign rfl) rfl ?_
      refine J.op (Yd.assign rfl) rfl ?_
      refine J.nil ?_
      refine J.n_then ?_
      refine J.ret ?_
      refine J.r_then ?_
      refine J.r_block ?_
      refine J.r_then ?_
      refine J.r_then ?_
      refine J.r_block ?_
      refine J.r_then ?_
      exact J.ret2 rfl rfl rfl (⟨_, rfl, rfl, e0⟩)
    · skip
      refine J.op (Yd.move rfl) rfl ?_
      refine J.eff (Ye.call cl37 rfl (RNum_s (t := 1099511627776) (hva _ e0) hcl (by decide) g1)) rfl ?_
      rintro _ w14 ⟨v53_14, rfl, hv53_14, x1⟩
      have e0 := e0.trans x1
      have c45_2 := c45_2.ext x1
      have ho2 := ho2.ext x1
      clear x1
      have hq3 := fun (W_ : World) (e_ : Ext w W_) => hv53_14 W_ (hva W_ e_)
      refine J.op (Yd.move rfl) rfl ?_
      refine J.op (Yd.extract rfl rfl) rfl ?_
      refine J.op (Yd.extract rfl rfl) rfl ?_
      refine J.op (Yd.extract rfl rfl) rfl ?_
      refine J.op (Yd.assign rfl) rfl ?_
      refine J.op (Yd.assign rfl) rfl ?_
      refine J.op (Yd.assign rfl) rfl ?_
      refine J.nil ?_
      refine J.n_then ?_
      refine J.seq ?_
      refine J.region ?_
      refine J.op (Yd.move rfl) rfl ?_
      refine J.eff (Ye.call cl37 rfl (RNum_s (t := 1099511627776) (hq3 _ e0) (by have h83 := rdT_le g1; omega) (by decide) g2)) rfl ?_
      rintro _ w15 ⟨v59_15, rfl, hv59_15, x1⟩
      have e0 := e0.trans x1
      have c45_2 := c45_2.ext x1
      have ho2 := ho2.ext x1
      clear x1
      have hq4 := fun (W_ : World) (e_ : Ext w W_) => hv59_15 W_ (hq3 W_ e_)
      refine J.op (Yd.move rfl) rfl ?_
      refine J.op (Yd.extract rfl rfl) rfl ?_
      refine J.op (Yd.extract rfl rfl) rfl ?_
      refine J.op (Yd.extract rfl rfl) rfl ?_
      refine J.op (Yd.assign rfl) rfl ?_
      refine J.op (Yd.assign rfl) rfl ?_
      refine J.op (Yd.assign rfl) rfl ?_
      refine J.nil ?_
      refine J.n_then ?_
      refine J.seq ?_
      refine J.seq ?_
      refine J.region ?_
      refine J.op (Yd.move rfl) rfl ?_
      refine J.op (Yd.not rfl) rfl ?_
      refine J.op (Yd.move rfl) rfl ?_
      refine J.op_g rfl rfl rfl (Yd.move rfl) rfl ?_
      refine J.op_g rfl rfl rfl (Yd.not rfl) rfl ?_
      refine J.op (Yd.pick_f rfl rfl) rfl ?_
      refine J.op (Yd.move rfl) rfl ?_
      refine J.op_g rfl rfl rfl (Yd.move rfl) rfl ?_
      refine J.op_g rfl rfl rfl (Yd.len_b Try.underlying29 rfl (hq4 _ e0)) rfl ?_
      refine J.op_g rfl rfl rfl (Yd.lss rfl rfl) rfl ?_
      refine J.op (Yd.pick_f rfl rfl) rfl ?_
      refine J.op (Yd.move rfl) rfl ?_
      refine J.know (t := 74) (v' := .bool false) rfl (ff (by omega)) ?_
      refine J.op_g rfl rfl rfl (Yd.move rfl) rfl ?_
      refine J.op_g rfl rfl rfl (Yd.move rfl) rfl ?_
      refine J.op_g rfl rfl rfl (Yd.move rfl) rfl ?_
      refine J.eff_g rfl rfl rfl (Ye.call cl38 rfl (Find_is (q := idxI (eqK (e : Int) (i : Int)) L) c45_2 (Es.rd ho2) (hA.idx fun a b h => h.eq _ _))) rfl ?_
      rintro _ w16 ⟨rfl, x1⟩
      have e0 := e0.trans x1
      have c45_2 := c45_2.ext x1
      have ho2 := ho2.ext x1
      clear x1
      refine J.op_g rfl rfl rfl (Yd.geq rfl rfl) rfl ?_
      refine J.op (Yd.pick_f rfl rfl) rfl ?_
      refine J.nil ?_
      refine J.n_then ?_
      refine J.know (t := 80) (v' := .bool false) rfl (ff (by exact hst.2.1)) ?_
      refine J.cond_false rfl ?_
      refine J.skip ?_
      refine J.n_then ?_
      refine J.seq ?_
      refine J.regionO [(0, true), (1, true), (2, true), (3, true), (5, true), (6, true), (7, true)] [(4, 1), (8, 1), (9, 1), (10, 0)] [(11, false), (12, true), (13, true), (14, false)] mix (by kernel_rfl) ?_
      refine J.s_op rfl (fun _ => Yd.move rfl) rfl ?_
      refine J.s_op rfl (fun _ => Yd.move rfl) rfl ?_
      refine J.s_op rfl (fun _ => Yd.nilCheck rfl) rfl ?_
      refine J.s_op rfl (fun _ => Yd.cast (Yd.fieldA Try.underlying46 rfl ti44 rfl rfl) (show _ = Value.pointer (some ⟨b45_2, 1, none⟩) from rfl)) rfl ?_
      refine J.s_op rfl (fun _ => Yd.move rfl) rfl ?_
      refine J.s_op rfl (fun _ => Yd.move rfl) rfl ?_
      refine J.s_op rfl (fun _ => Yd.move rfl) rfl ?_
      refine J.s_nil ?_
      refine J.o_op rfl (Yd.load pl44 rfl (Cel.cell1 c45_2 1 rfl)) rfl ?_
      refine J.o_op rfl (Yd.cast (Yd.slcH Try.underlying29 ti5 rfl (hq4 _ e0) rfl (by first | omega | exact idx_u8' _ | (simp only [Int.toNat_natCast]; omega) | (simp only [List.length_map, List.length_drop, List.length_take, List.length_append, List.length_replicate]; omega) | (simp <;> omega))) (show _ = (slc v59_15 0 32) from rfl)) rfl ?_
      have hbV : Bs w16 (slc v59_15 0 32) (d2.take 32) := Bs.slc (hq4 _ e0) (l := 0) (k := 32) (by omega) (by omega)
      have hcV := Rd.cells hbV
      have hoV := Rd.one hbV
      refine J.o_op rfl (Yd.cast (Yd.buildV (pl := [(0, 1), (1, 1), (2, 1)]) Try.underlying79 (by kernel_rfl) ti79 rfl rfl (by simp [OffOK, cells_agg, cells_int, hcV]) (by simp [catV, cells_agg, cells_int, hcV])) (show _ = Value.agg (entS.c ((e : Int), (i : Int), (slc v59_15 0 32))).toArray from by simp [catV, cells_agg, cells_int, hcV, entS])) rfl ?_
      refine J.o_eff rfl (Ye.litE1 (K := entS) (u := ((e : Int), (i : Int), (slc v59_15 0 32))) (base := w16.heap.size) Try.underlying44 ti79 rfl rfl rfl (Nat.le_refl _)) rfl (fun _ _ h => h.2) ?_
      rintro sl w17 ⟨hsl, x1⟩
      have ap_b45_2_sl : Ap (some b45_2) sl.ownBlock := Ap.mk (Cel.live c45_2) (Es.fr hsl)
      have ap_s2_sl : Ap s2.ownBlock sl.ownBlock := Ap.mk (Es.live ho2) (Es.fr hsl)
      have fr_sl : Fr w.heap.size sl.ownBlock := Fr.le (Es.fr hsl) e0.size
      replace hsl := Es.base hsl (Nat.zero_le _)
      have e0 := e0.trans x1
      have c45_2 := c45_2.ext x1
      have ho2 := ho2.ext x1
      clear x1
      refine J.o_nil ?_
      refine J.s_eff rfl (Ye.appendE (K := entS) Try.underlying44 ti79 rfl rfl rfl rfl ho2 (Es.rd hsl) (ent_one1 hoV) (by simp only [List.length_singleton]; omega) (Nat.zero_le _)) rfl ?_
      rintro s3 w18 ⟨ho3, hg, hsf⟩
      have ap_b45_2_s3 : Ap (some b45_2) s3.ownBlock := Ap.sf ap_b45_2_s2 (Cel.live c45_2) hsf
      have ap_sl_s3 : Ap sl.ownBlock s3.ownBlock := Ap.sf (Ap.symm ap_s2_sl) (Es.live hsl) hsf
      have fr_s3 : Fr w.heap.size s3.ownBlock := Fr.sf fr_s2 hsf e0.size
      have c45_2 := Cel.gbk c45_2 hg ap_b45_2_s2
      have hsl := Es.gbk hsl hg (Ap.symm ap_s2_sl)
      have e0 := Ext.gbk e0 fr_s2 hg
      clear hg hsf
      refine J.s_op rfl (fun _ => Yd.nilCheck rfl) rfl ?_
      refine J.s_op rfl (fun _ => Yd.cast (Yd.fieldA Try.underlying46 rfl ti44 rfl rfl) (show _ = Value.pointer (some ⟨b45_2, 1, none⟩) from rfl)) rfl ?_
      refine J.s_eff0 rfl (Ye.store1 ti44 c45_2 1 rfl rfl rfl rfl (Er.cells (Es.rd ho3)) (Er.one (Es.rd ho3))) ?_
      rintro _ w19 ⟨cX, hu⟩
      simp only [List.set_cons_zero, List.set_cons_succ] at cX
      have hg := hu.gb
      have hsl := Es.gbk hsl hg (Ap.symm ap_b45_2_sl)
      have ho3 := Es.gbk ho3 hg (Ap.symm ap_b45_2_s3)
      have e0 := Ext.gbk e0 fr_b45_2 hg
      clear hg
      replace c45_2 := cX
      clear cX hu
      refine J.s_nil ?_
      refine J.n_np ?_
      refine J.n_then ?_
      refine J.region ?_
      refine J.op (Yd.move rfl) rfl ?_
      refine J.op (Yd.slcL Try.underlying29 ti5 rfl (hq4 _ e0) rfl (by first | omega | exact idx_u8' _ | (simp only [Int.toNat_natCast]; omega) | (simp only [List.length_map, List.length_drop, List.length_take, List.length_append, List.length_replicate]; omega) | (simp <;> omega))) rfl ?_
      refine J.op (Yd.assign rfl) rfl ?_
      refine J.nil ?_
      refine J.n_block ?_
      refine J.n_then ?_
      refine J.region ?_
      refine J.op (Yd.move rfl) rfl ?_
      refine J.op (Yd.add rfl rfl (by first | omega | exact idx_u8' _ | (simp only [Int.toNat_natCast]; omega) | (simp only [List.length_map, List.length_drop, List.length_take, List.length_append, List.length_replicate]; omega) | (simp <;> omega))) rfl ?_
      refine J.op (Yd.assign rfl) rfl ?_
      refine J.nil ?_
      refine J.n_then ?_
      exact J.round ((j + 1, L ++ [((e : Int), (i : Int), d2.take 32)], d2.drop 32, _, s3, es ++ [((e : Int), (i : Int), (slc v59_15 0 32))])) ⟨rfl, rfl, rfl, rfl, trivial⟩ (⟨by show j + 1 ≤ n; omega, (by show (L ++ [_]).length = j + 1; rw [List.length_append, hLi]; rfl), (hA.app (All2.one (R := KE) ⟨rfl, rfl⟩)), hR2, (fun W_ e_ => by have h9 := Bs.slc (hq4 W_ e_) (l := 32) (k := d2.length) (by omega) (Nat.le_refl _); rw [List.take_length] at h9; exact (show Bs _ (slc _ (32 : Int).toNat (d2.map fun x => B x).length) _ by rw [List.length_map]; exact h9)), (by show (d2.drop 32).length ≤ 1000000; rw [List.length_drop]; have h83 := rdT_le g1; have h84 := rdT_le g2; omega), c45_2, ho3, fr_s3, ap_b45_2_s3, e0⟩) (by show n - (j + 1) < n - j; omega)
  · skip
    exact absurd hR (by rw [show n - j = 0 by omega]; intro h; cases h)

theorem LdS5 {a : Value} {l : List UInt8} {w : World} (ha : Bs w a l) (hl : l.length ≤ 1000000) {m n : Nat} {c1 c2 : List UInt8} (h1 : rdT 1000 l = some (m, c1)) (h2 : rdT 1000 c1 = some (n, c2)) (hm : 1 ≤ m ∧ n ≤ m) {Lf : List Key} {rf : List UInt8} (h3 : rdKs (m : Int) n [] c2 = some (Lf, rf)) (hrf : ¬ rf.length = 0) : C Try.prog 19 [a] w (Ret fun v w' => v = .tuple #[.pointer none, I 2] ∧ Ext w w') := by
  obtain ⟨_, _, _, _, hm10, _⟩ := rdT_some h1
  have e0 := Ext.refl w
  refine C.enter Try.func19 rfl Try.ntmps19 rfl ?_
  refine J.seq ?_
  refine J.region ?_
  refine J.op (Yd.assign rfl) rfl ?_
  refine J.op (Yd.assign rfl) rfl ?_
  refine J.nil ?_
  refine J.n_then ?_
  refine J.seq ?_
  refine J.region ?_
  refine J.op (Yd.move rfl) rfl ?_
  refine J.eff (Ye.call cl37 rfl (RNum_s (t := 1000) ((fun (W_ : World) (e_ : Ext w W_) => ha.ext e_) _ e0) hl (by decide) h1)) rfl ?_
  rintro _ w1 ⟨v18_1, rfl, hv18_1, x1⟩
  have e0 := e0.trans x1
  clear x1
  have hq1 := fun (W_ : World) (e_ : Ext w W_) => hv18_1 W_ ((fun (W_ : World) (e_ : Ext w W_) => ha.ext e_) W_ e_)
  refine J.op (Yd.move rfl) rfl ?_
  refine J.op (Yd.extract rfl rfl) rfl ?_
  refine J.op (Yd.extract rfl rfl) rfl ?_
  refine J.op (Yd.extract rfl rfl) rfl ?_
  refine J.op (Yd.assign rfl) rfl ?_
  refine J.op (Yd.assign rfl) rfl ?_
  refine J.op (Yd.assign rfl) rfl ?_
  refine J.nil ?_
  refine J.n_then ?_
  refine J.seq ?_
  refine J.region ?_
  refine J.op (Yd.move rfl) rfl ?_
  refine J.eff (Ye.call cl37 rfl (RNum_s (t := 1000) (hq1 _ e0) (by have h81 := rdT_le h1; omega) (by decide) h2)) rfl ?_
  rintro _ w2 ⟨v24_2, rfl, hv24_2, x1⟩
  have e0 := e0.trans x1
  clear x1
  have hq2 := fun (W_ : World) (e_ : Ext w W_) => hv24_2 W_ (hq1 W_ e_)
  refine J.op (Yd.move rfl) rfl ?_
  refine J.op (Yd.extract rfl rfl) rfl ?_
  refine J.op (Yd.extract rfl rfl) rfl ?_
  refine J.op (Yd.extract rfl rfl) rfl ?_
  refine J.op (Yd.assign rfl) rfl ?_
  refine J.op (Yd.assign rfl) rfl ?_
  refine J.op (Yd.assign rfl) rfl ?_
  refine J.nil ?_
  refine J.n_then ?_
  refine J.seq ?_
  refine J.seq ?_
  refine J.region ?_
  refine J.op (Yd.move rfl) rfl ?_
  refine J.op (Yd.not rfl) rfl ?_
  refine J.op (Yd.move rfl) rfl ?_
  refine J.op_g rfl rfl rfl (Yd.move rfl) rfl ?_
  refine J.op_g rfl rfl rfl (Yd.not rfl) rfl ?_
  refine J.op (Yd.pick_f rfl rfl) rfl ?_
  refine J.op (Yd.move rfl) rfl ?_
  refine J.op_g rfl rfl rfl (Yd.move rfl) rfl ?_
  refine J.op_g rfl rfl rfl (Yd.lss rfl rfl) rfl ?_
  refine J.op (Yd.pick_f rfl rfl) rfl ?_
  refine J.op (Yd.move rfl) rfl ?_
  refine J.know (t := 38) (v' := .bool false) rfl (ff (by omega)) ?_
  refine J.op_g rfl rfl rfl (Yd.move rfl) rfl ?_
  refine J.op_g rfl rfl rfl (Yd.move rfl) rfl ?_
  refine J.op_g rfl rfl rfl (Yd.gtr rfl rfl) rfl ?_
  refine J.op (Yd.pick_f rfl rfl) rfl ?_
  refine J.nil ?_
  refine J.n_then ?_
  refine J.know (t := 42) (v' := .bool false) rfl (ff (by omega)) ?_
  refine J.cond_false rfl ?_
  refine J.skip ?_
  refine J.n_then ?_
  refine J.seq ?_
  refine J.region ?_
  refine J.op (Yd.move rfl) rfl ?_
  refine J.op (Yd.cast (Yd.buildS (cells := #[I (m : Int), nilS]) (pl := [(0, 1), (1, 1)]) Try.underlying46 (by kernel_rfl) ti46 rfl (by rfl)) (show _ = Value.agg #[I (m : Int), nilS] from rfl)) rfl ?_
  refine J.eff (Ye.box (S := [(0, 1, [I (m : Int)]), (1, 1, [nilS])]) rfl (by simp [SegAll, SegOK, Value.cells, nilS])) rfl ?_
  rintro _ w3 ⟨b45_2, rfl, hb_, c45_2, x1⟩
  have fr_b45_2 : Fr w.heap.size (some b45_2) := Fr.le (Fr.blk hb_) e0.size
  have e0 := e0.trans x1
  clear x1 hb_
  refine J.op (Yd.assign rfl) rfl ?_
  refine J.nil ?_
  refine J.n_then ?_
  refine J.seq ?_
  refine J.seq ?_
  refine J.region ?_
  refine J.op (Yd.assign rfl) rfl ?_
  refine J.nil ?_
  refine J.n_then ?_
  refine J.block ?_
  refine J.loop (ι := Nat × List Key × List UInt8 × Value × Value × List Ent) (fun i => [(6, I (n : Int)), (9, I (i.1 : Int)), (0, i.2.2.2.1), (8, .pointer (some ⟨b45_2, 0, none⟩))]) (fun i w' => i.1 ≤ n ∧ i.2.1.length = i.1 ∧ All2 KE i.2.2.2.2.2 i.2.1 ∧ rdKs (m : Int) (n - i.1) i.2.1 i.2.2.1 = some (Lf, rf) ∧ (∀ W_, Ext w W_ → Bs W_ i.2.2.2.1 i.2.2.1) ∧ i.2.2.1.length ≤ 1000000 ∧ Cel w' b45_2 46 [(0, 1, [I (m : Int)]), (1, 1, [i.2.2.2.2.1])] ∧ Es entS 0 79 w' i.2.2.2.2.1 i.2.2.2.2.2 ∧ Fr w.heap.size (i.2.2.2.2.1).ownBlock ∧ Ap (some b45_2) (i.2.2.2.2.1).ownBlock ∧ Ext w w') (fun i => n - i.1) ((0, [], c2, _, nilS, [])) ⟨rfl, rfl, rfl, rfl, trivial⟩ (⟨Nat.zero_le _, rfl, trivial, h3, hq2, (by have h81 := rdT_le h1; have h82 := rdT_le h2; show c2.length ≤ 1000000; omega), c45_2, (Es.nil _ _ _ _), Fr.nil, Ap.nil_r, e0⟩) ?_
  rintro ⟨j, L, c, va, s2, es⟩ w4 ⟨hk, hLi, hA, hR, hva, hcl, c45_2, ho2, fr_s2, ap_b45_2_s2, e0⟩
  dsimp only at *
  have hAl := hA.len
  refine J.seq ?_
  refine J.seq ?_
  refine J.region ?_
  refine J.op (Yd.move rfl) rfl ?_
  refine J.op (Yd.move rfl) rfl ?_
  refine J.op (Yd.lss rfl rfl) rfl ?_
  refine J.nil ?_
  refine J.n_then ?_
  refine J.cond_dec rfl (fun hc1 => ?_) (fun hc1 => ?_)
  · skip
    refine J.skip ?_
    refine J.n_then ?_
    refine J.seq ?_
    refine J.block ?_
    refine J.seq ?_
    refine J.region ?_
    rcases rdKs_yes (show j < n by omega) hR with ⟨e, i, d1, d2, g1, g2, hst, hR2⟩
    · skip
      refine J.op (Yd.move rfl) rfl ?_
      refine J.eff (Ye.call cl37 rfl (RNum_s (t := 1099511627776) (hva _ e0) hcl (by decide) g1)) rfl ?_
      rintro _ w5 ⟨v53_5, rfl, hv53_5, x1⟩
      have e0 := e0.trans x1
      have c45_2 := c45_2.ext x1
      have ho2 := ho2.ext x1
      clear x1
      have hq3 := fun (W_ : World) (e_ : Ext w W_) => hv53_5 W_ (hva W_ e_)
      refine J.op (Yd.move rfl) rfl ?_
      refine J.op (Yd.extract rfl rfl) rfl ?_
      refine J.op (Yd.extract rfl rfl) rfl ?_
      refine J.op (Yd.extract rfl rfl) rfl ?_
      refine J.op (Yd.assign rfl) rfl ?_
      refine J.op (Yd.assign rfl) rfl ?_
      refine J.op (Yd.assign rfl) rfl ?_
      refine J.nil ?_
      refine J.n_then ?_
      refine J.seq ?_
      refine J.region ?_
      refine J.op (Yd.move rfl) rfl ?_
      refine J.eff (Ye.call cl37 rfl (RNum_s (t := 1099511627776) (hq3 _ e0) (by have h83 := rdT_le g1; omega) (by decide) g2)) rfl ?_
      rintro _ w6 ⟨v59_6, rfl, hv59_6, x1⟩
      have e0 := e0.trans x1
      have c45_2 := c45_2.ext x1
      have ho2 := ho2.ext x1
      clear x1
      have hq4 := fun (W_ : World) (e_ : Ext w W_) => hv59_6 W_ (hq3 W_ e_)
      refine J.op (Yd.move rfl) rfl ?_
      refine J.op (Yd.extract rfl rfl) rfl ?_
      refine J.op (Yd.extract rfl rfl) rfl ?_
      refine J.op (Yd.extract rfl rfl) rfl ?_
      refine J.op (Yd.assign rfl) rfl ?_
      refine J.op (Yd.assign rfl) rfl ?_
      refine J.op (Yd.assign rfl) rfl ?_
      refine J.nil ?_
      refine J.n_then ?_
      refine J.seq ?_
      refine J.seq ?_
      refine J.region ?_
      refine J.op (Yd.move rfl) rfl ?_
      refine J.op (Yd.not rfl) rfl ?_
      refine J.op (Yd.move rfl) rfl ?_
      refine J.op_g rfl rfl rfl (Yd.move rfl) rfl ?_
      refine J.op_g rfl rfl rfl (Yd.not rfl) rfl ?_
      refine J.op (Yd.pick_f rfl rfl) rfl ?_
      refine J.op (Yd.move rfl) rfl ?_
      refine J.op_g rfl rfl rfl (Yd.move rfl) rfl ?_
      refine J.op_g rfl rfl rfl (Yd.len_b Try.underlying29 rfl (hq4 _ e0)) rfl ?_
      refine J.op_g rfl rfl rfl (Yd.lss rfl rfl) rfl ?_
      refine J.op (Yd.pick_f rfl rfl) rfl ?_
      refine J.op (Yd.move rfl) rfl ?_
      refine J.know (t := 74) (v' := .bool false) rfl (ff (by omega)) ?_
      refine J.op_g rfl rfl rfl (Yd.move rfl) rfl ?_
      refine J.op_g rfl rfl rfl (Yd.move rfl) rfl ?_
      refine J.op_g rfl rfl rfl (Yd.move rfl) rfl ?_
      refine J.eff_g rfl rfl rfl (Ye.call cl38 rfl (Find_is (q := idxI (eqK (e : Int) (i : Int)) L) c45_2 (Es.rd ho2) (hA.idx fun a b h => h.eq _ _))) rfl ?_
      rintro _ w7 ⟨rfl, x1⟩
      have e0 := e0.trans x1
      have c45_2 := c45_2.ext x1
      have ho2 := ho2.ext x1
      clear x1
      refine J.op_g rfl rfl rfl (Yd.geq rfl rfl) rfl ?_
      refine J.op (Yd.pick_f rfl rfl) rfl ?_
      refine J.nil ?_
      refine J.n_then ?_
      refine J.know (t := 80) (v' := .bool false) rfl (ff (by exact hst.2.1)) ?_
      refine J.cond_false rfl ?_
      refine J.skip ?_
      refine J.n_then ?_
      refine J.seq ?_
      refine J.regionO [(0, true), (1, true), (2, true), (3, true), (5, true), (6, true), (7, true)] [(4, 1), (8, 1), (9, 1), (10, 0)] [(11, false), (12, true), (13, true), (14, false)] mix (by kernel_rfl) ?_
      refine J.s_op rfl (fun _ => Yd.move rfl) rfl ?_
      refine J.s_op rfl (fun _ => Yd.move rfl) rfl ?_
      refine J.s_op rfl (fun _ => Yd.nilCheck rfl) rfl ?_
      refine J.s_op rfl (fun _ => Yd.cast (Yd.fieldA Try.underlying46 rfl ti44 rfl rfl) (show _ = Value.pointer (some ⟨b45_2, 1, none⟩) from rfl)) rfl ?_
      refine J.s_op rfl (fun _ => Yd.move rfl) rfl ?_
      refine J.s_op rfl (fun _ => Yd.move rfl) rfl ?_
      refine J.s_op rfl (fun _ => Yd.move rfl) rfl ?_
      refine J.s_nil ?_
      refine J.o_op rfl (Yd.load pl44 rfl (Cel.cell1 c45_2 1 rfl)) rfl ?_
      refine J.o_op rfl (Yd.cast (Yd.slcH Try.underlying29 ti5 rfl (hq4 _ e0) rfl (by first | omega | exact idx_u8' _ | (simp only [Int.toNat_natCast]; omega) | (simp only [List.length_map, List.length_drop, List.length_take, List.length_append, List.length_replicate]; omega) | (simp <;> omega))) (show _ = (slc v59_6 0 32) from rfl)) rfl ?_
      have hbV : Bs w7 (slc v59_6 0 32) (d2.take 32) := Bs.slc (hq4 _ e0) (l := 0) (k := 32) (by omega) (by omega)
      have hcV := Rd.cells hbV
      have hoV := Rd.one hbV
      refine J.o_op rfl (Yd.cast (Yd.buildV (pl := [(0, 1), (1, 1), (2, 1)]) Try.underlying79 (by kernel_rfl) ti79 rfl rfl (by simp [OffOK, cells_agg, cells_int, hcV]) (by simp [catV, cells_agg, cells_int, hcV])) (show _ = Value.agg (entS.c ((e : Int), (i : Int), (slc v59_6 0 32))).toArray from by simp [catV, cells_agg, cells_int, hcV, entS])) rfl ?_
      refine J.o_eff rfl (Ye.litE1 (K := entS) (u := ((e : Int), (i : Int), (slc v59_6 0 32))) (base := w7.heap.size) Try.underlying44 ti79 rfl rfl rfl (Nat.le_refl _)) rfl (fun _ _ h => h.2) ?_
      rintro sl w8 ⟨hsl, x1⟩
      have ap_b45_2_sl : Ap (some b45_2) sl.ownBlock := Ap.mk (Cel.live c45_2) (Es.fr hsl)
      have ap_s2_sl : Ap s2.ownBlock sl.ownBlock := Ap.mk (Es.live ho2) (Es.fr hsl)
      have fr_sl : Fr w.heap.size sl.ownBlock := Fr.le (Es.fr hsl) e0.size
      replace hsl := Es.base hsl (Nat.zero_le _)
      have e0 := e0.trans x1
      have c45_2 := c45_2.ext x1
      have ho2 := ho2.ext x1
      clear x1
      refine J.o_nil ?_
      refine J.s_eff rfl (Ye.appendE (K := entS) Try.underlying44 ti79 rfl rfl rfl rfl ho2 (Es.rd hsl) (ent_one1 hoV) (by simp only [List.length_singleton]; omega) (Nat.zero_le _)) rfl ?_
      rintro s3 w9 ⟨ho3, hg, hsf⟩
      have ap_b45_2_s3 : Ap (some b45_2) s3.ownBlock := Ap.sf ap_b45_2_s2 (Cel.live c45_2) hsf
      have ap_sl_s3 : Ap sl.ownBlock s3.ownBlock := Ap.sf (Ap.symm ap_s2_sl) (Es.live hsl) hsf
      have fr_s3 : Fr w.heap.size s3.ownBlock := Fr.sf fr_s2 hsf e0.size
      have c45_2 := Cel.gbk c45_2 hg ap_b45_2_s2
      have hsl := Es.gbk hsl hg (Ap.symm ap_s2_sl)
      have e0 := Ext.gbk e0 fr_s2 hg
      clear hg hsf
      refine J.s_op rfl (fun _ => Yd.nilCheck rfl) rfl ?_
      refine J.s_op rfl (fun _ => Yd.cast (Yd.fieldA Try.underlying46 rfl ti44 rfl rfl) (show _ = Value.pointer (some ⟨b45_2, 1, none⟩) from rfl)) rfl ?_
      refine J.s_eff0 rfl (Ye.store1 ti44 c45_2 1 rfl rfl rfl rfl (Er.cells (Es.rd ho3)) (Er.one (Es.rd ho3))) ?_
      rintro _ w10 ⟨cX, hu⟩
      simp only [List.set_cons_zero, List.set_cons_succ] at cX
      have hg := hu.gb
      have hsl := Es.gbk hsl hg (Ap.symm ap_b45_2_sl)
      have ho3 := Es.gbk ho3 hg (Ap.symm ap_b45_2_s3)
      have e0 := Ext.gbk e0 fr_b45_2 hg
      clear hg
      replace c45_2 := cX
      clear cX hu
      refine J.s_nil ?_
      refine J.n_np ?_
      refine J.n_then ?_
      refine J.region ?_
      refine J.op (Yd.move rfl) rfl ?_
      refine J.op (Yd.slcL Try.underlying29 ti5 rfl (hq4 _ e0) rfl (by first | omega | exact idx_u8' _ | (simp only [Int.toNat_natCast]; omega) | (simp only [List.length_map, List.length_drop, List.length_take, List.length_append, List.length_replicate]; omega) | (simp <;> omega))) rfl ?_
      refine J.op (Yd.assign rfl) rfl ?_
      refine J.nil ?_
      refine J.n_block ?_
      refine J.n_then ?_
      refine J.region ?_
      refine J.op (Yd.move rfl) rfl ?_
      refine J.op (Yd.add rfl rfl (by first | omega | exact idx_u8' _ | (simp only [Int.toNat_natCast]; omega) | (simp only [List.length_map, List.length_drop, List.length_take, List.length_append, List.length_replicate]; omega) | (simp <;> omega))) rfl ?_
      refine J.op (Yd.assign rfl) rfl ?_
      refine J.nil ?_
      refine J.n_then ?_
      exact J.round ((j + 1, L ++ [((e : Int), (i : Int), d2.take 32)], d2.drop 32, _, s3, es ++ [((e : Int), (i : Int), (slc v59_6 0 32))])) ⟨rfl, rfl, rfl, rfl, trivial⟩ (⟨by show j + 1 ≤ n; omega, (by show (L ++ [_]).length = j + 1; rw [List.length_append, hLi]; rfl), (hA.app (All2.one (R := KE) ⟨rfl, rfl⟩)), hR2, (fun W_ e_ => by have h9 := Bs.slc (hq4 W_ e_) (l := 32) (k := d2.length) (by omega) (Nat.le_refl _); rw [List.take_length] at h9; exact (show Bs _ (slc _ (32 : Int).toNat (d2.map fun x => B x).length) _ by rw [List.length_map]; exact h9)), (by show (d2.drop 32).length ≤ 1000000; rw [List.length_drop]; have h83 := rdT_le g1; have h84 := rdT_le g2; omega), c45_2, ho3, fr_s3, ap_b45_2_s3, e0⟩) (by show n - (j + 1) < n - j; omega)
  · skip
    obtain rfl : j = n := by omega
    rw [Nat.sub_self] at hR
    cases hR
    refine J.exit ?_
    refine J.x_then ?_
    refine J.x_then ?_
    refine J.x_block ?_
    refine J.n_then ?_
    refine J.seq ?_
    refine J.seq ?_
    refine J.region ?_
    refine J.op (Yd.move rfl) rfl ?_
    refine J.op (Yd.len_b Try.underlying29 rfl (hva _ e0)) rfl ?_
    refine J.op (Yd.gtr rfl rfl) rfl ?_
    refine J.nil ?_
    refine J.n_then ?_
    refine J.know (t := 99) (v' := .bool true) rfl (tt (by omega)) ?_
    refine J.cond_true rfl ?_
    refine J.seq ?_
    refine J.region ?_
    refine J.op (Yd.assign rfl) rfl ?_
    refine J.op (Yd.assign rfl) rfl ?_
    refine J.nil ?_
    refine J.n_then ?_
    refine J.ret ?_
    refine J.r_then ?_
    exact J.ret2 rfl rfl rfl (⟨_, rfl, rfl, e0⟩)

theorem LdS6 {a : Value} {l : List UInt8} {w : World} (ha : Bs w a l) (hl : l.length ≤ 1000000) {m n : Nat} {c1 c2 : List UInt8} (h1 : rdT 1000 l = some (m, c1)) (h2 : rdT 1000 c1 = some (n, c2)) (hm : 1 ≤ m ∧ n ≤ m) {Lf : List Key} {rf : List UInt8} (h3 : rdKs (m : Int) n [] c2 = some (Lf, rf)) (hrf : rf.length = 0) : C Try.prog 19 [a] w (Ret fun u w' => ∃ b s es, u = .tuple #[.pointer (some ⟨b, 0, none⟩), I 0] ∧ Cel w' b 46 [(0, 1, [I (m : Int)]), (1, 1, [s])] ∧ Es entS 0 79 w' s es ∧ es.length = Lf.length ∧ Ext w w') := by
  obtain ⟨_, _, _, _, hm10, _⟩ := rdT_some h1
  have e0 := Ext.refl w
  refine C.enter Try.func19 rfl Try.ntmps19 rfl ?_
  refine J.seq ?_
  refine J.region ?_
  refine J.op (Yd.assign rfl) rfl ?_
  refine J.op (Yd.assign rfl) rfl ?_
  refine J.nil ?_
  refine J.n_then ?_
  refine J.seq ?_
  refine J.region ?_
  refine J.op (Yd.move rfl) rfl ?_
  refine J.eff (Ye.call cl37 rfl (RNum_s (t := 1000) ((fun (W_ : World) (e_ : Ext w W_) => ha.ext e_) _ e0) hl (by decide) h1)) rfl ?_
  rintro _ w1 ⟨v18_1, rfl, hv18_1, x1⟩
  have e0 := e0.trans x1
  clear x1
  have hq1 := fun (W_ : World) (e_ : Ext w W_) => hv18_1 W_ ((fun (W_ : World) (e_ : Ext w W_) => ha.ext e_) W_ e_)
  refine J.op (Yd.move rfl) rfl ?_
  refine J.op (Yd.extract rfl rfl) rfl ?_
  refine J.op (Yd.extract rfl rfl) rfl ?_
  refine J.op (Yd.extract rfl rfl) rfl ?_
  refine J.op (Yd.assign rfl) rfl ?_
  refine J.op (Yd.assign rfl) rfl ?_
  refine J.op (Yd.assign rfl) rfl ?_
  refine J.nil ?_
  refine J.n_then ?_
  refine J.seq ?_
  refine J.region ?_
  refine J.op (Yd.move rfl) rfl ?_
  refine J.eff (Ye.call cl37 rfl (RNum_s (t := 1000) (hq1 _ e0) (by have h81 := rdT_le h1; omega) (by decide) h2)) rfl ?_
  rintro _ w2 ⟨v24_2, rfl, hv24_2, x1⟩
  have e0 := e0.trans x1
  clear x1
  have hq2 := fun (W_ : World) (e_ : Ext w W_) => hv24_2 W_ (hq1 W_ e_)
  refine J.op (Yd.move rfl) rfl ?_
  refine J.op (Yd.extract rfl rfl) rfl ?_
  refine J.op (Yd.extract rfl rfl) rfl ?_
  refine J.op (Yd.extract rfl rfl) rfl ?_
  refine J.op (Yd.assign rfl) rfl ?_
  refine J.op (Yd.assign rfl) rfl ?_
  refine J.op (Yd.assign rfl) rfl ?_
  refine J.nil ?_
  refine J.n_then ?_
  refine J.seq ?_
  refine J.seq ?_
  refine J.region ?_
  refine J.op (Yd.move rfl) rfl ?_
  refine J.op (Yd.not rfl) rfl ?_
  refine J.op (Yd.move rfl) rfl ?_
  refine J.op_g rfl rfl rfl (Yd.move rfl) rfl ?_
  refine J.op_g rfl rfl rfl (Yd.not rfl) rfl ?_
  refine J.op (Yd.pick_f rfl rfl) rfl ?_
  refine J.op (Yd.move rfl) rfl ?_
  refine J.op_g rfl rfl rfl (Yd.move rfl) rfl ?_
  refine J.op_g rfl rfl rfl (Yd.lss rfl rfl) rfl ?_
  refine J.op (Yd.pick_f rfl rfl) rfl ?_
  refine J.op (Yd.move rfl) rfl ?_
  refine J.know (t := 38) (v' := .bool false) rfl (ff (by omega)) ?_
  refine J.op_g rfl rfl rfl (Yd.move rfl) rfl ?_
  refine J.op_g rfl rfl rfl (Yd.move rfl) rfl ?_
  refine J.op_g rfl rfl rfl (Yd.gtr rfl rfl) rfl ?_
  refine J.op (Yd.pick_f rfl rfl) rfl ?_
  refine J.nil ?_
  refine J.n_then ?_
  refine J.know (t := 42) (v' := .bool false) rfl (ff (by omega)) ?_
  refine J.cond_false rfl ?_
  refine J.skip ?_
  refine J.n_then ?_
  refine J.seq ?_
  refine J.region ?_
  refine J.op (Yd.move rfl) rfl ?_
  refine J.op (Yd.cast (Yd.buildS (cells := #[I (m : Int), nilS]) (pl := [(0, 1), (1, 1)]) Try.underlying46 (by kernel_rfl) ti46 rfl (by rfl)) (show _ = Value.agg #[I (m : Int), nilS] from rfl)) rfl ?_
  refine J.eff (Ye.box (S := [(0, 1, [I (m : Int)]), (1, 1, [nilS])]) rfl (by simp [SegAll, SegOK, Value.cells, nilS])) rfl ?_
  rintro _ w3 ⟨b45_2, rfl, hb_, c45_2, x1⟩
  have fr_b45_2 : Fr w.heap.size (some b45_2) := Fr.le (Fr.blk hb_) e0.size
  have e0 := e0.trans x1
  clear x1 hb_
  refine J.op (Yd.assign rfl) rfl ?_
  refine J.nil ?_
  refine J.n_then ?_
  refine J.seq ?_
  refine J.seq ?_
  refine J.region ?_
  refine J.op (Yd.assign rfl) rfl ?_
  refine J.nil ?_
  refine J.n_then ?_
  refine J.block ?_
  refine J.loop (ι := Nat × List Key × List UInt8 × Value × Value × List Ent) (fun i => [(6, I (n : Int)), (9, I (i.1 : Int)), (0, i.2.2.2.1), (8, .pointer (some ⟨b45_2, 0, none⟩))]) (fun i w' => i.1 ≤ n ∧ i.2.1.length = i.1 ∧ All2 KE i.2.2.2.2.2 i.2.1 ∧ rdKs (m : Int) (n - i.1) i.2.1 i.2.2.1 = some (Lf, rf) ∧ (∀ W_, Ext w W_ → Bs W_ i.2.2.2.1 i.2.2.1) ∧ i.2.2.1.length ≤ 1000000 ∧ Cel w' b45_2 46 [(0, 1, [I (m : Int)]), (1, 1, [i.2.2.2.2.1])] ∧ Es entS 0 79 w' i.2.2.2.2.1 i.2.2.2.2.2 ∧ Fr w.heap.size (i.2.2.2.2.1).ownBlock ∧ Ap (some b45_2) (i.2.2.2.2.1).ownBlock ∧ Ext w w') (fun i => n - i.1) ((0, [], c2, _, nilS, [])) ⟨rfl, rfl, rfl, rfl, trivial⟩ (⟨Nat.zero_le _, rfl, trivial, h3, hq2, (by have h81 := rdT_le h1; have h82 := rdT_le h2; show c2.length ≤ 1000000; omega), c45_2, (Es.nil _ _ _ _), Fr.nil, Ap.nil_r, e0⟩) ?_
  rintro ⟨j, L, c, va, s2, es⟩ w4 ⟨hk, hLi, hA, hR, hva, hcl, c45_2, ho2, fr_s2, ap_b45_2_s2, e0⟩
  dsimp only at *
  have hAl := hA.len
  refine J.seq ?_
  refine J.seq ?_
  refine J.region ?_
  refine J.op (Yd.move rfl) rfl ?_
  refine J.op (Yd.move rfl) rfl ?_
  refine J.op (Yd.lss rfl rfl) rfl ?_
  refine J.nil ?_
  refine J.n_then ?_
  refine J.cond_dec rfl (fun hc1 => ?_) (fun hc1 => ?_)
  · skip
    refine J.skip ?_
    refine J.n_then ?_
    refine J.seq ?_
    refine J.block ?_
    refine J.seq ?_
    refine J.region ?_
    rcases rdKs_yes (show j < n by omega) hR with ⟨e, i, d1, d2, g1, g2, hst, hR2⟩
    · skip
      refine J.op (Yd.move rfl) rfl ?_
      refine J.eff (Ye.call cl37 rfl (RNum_s (t := 1099511627776) (hva _ e0) hcl (by decide) g1)) rfl ?_
      rintro _ w5 ⟨v53_5, rfl, hv53_5, x1⟩
      have e0 := e0.trans x1
      have c45_2 := c45_2.ext x1
      have ho2 := ho2.ext x1
      clear x1
      have hq3 := fun (W_ : World) (e_ : Ext w W_) => hv53_5 W_ (hva W_ e_)
      refine J.op (Yd.move rfl) rfl ?_
      refine J.op (Yd.extract rfl rfl) rfl ?_
      refine J.op (Yd.extract rfl rfl) rfl ?_
      refine J.op (Yd.extract rfl rfl) rfl ?_
      refine J.op (Yd.assign rfl) rfl ?_
      refine J.op (Yd.assign rfl) rfl ?_
      refine J.op (Yd.assign rfl) rfl ?_
      refine J.nil ?_
      refine J.n_then ?_
      refine J.seq ?_
      refine J.region ?_
      refine J.op (Yd.move rfl) rfl ?_
      refine J.eff (Ye.call cl37 rfl (RNum_s (t := 1099511627776) (hq3 _ e0) (by have h83 := rdT_le g1; omega) (by decide) g2)) rfl ?_
      rintro _ w6 ⟨v59_6, rfl, hv59_6, x1⟩
      have e0 := e0.trans x1
      have c45_2 := c45_2.ext x1
      have ho2 := ho2.ext x1
      clear x1
      have hq4 := fun (W_ : World) (e_ : Ext w W_) => hv59_6 W_ (hq3 W_ e_)
      refine J.op (Yd.move rfl) rfl ?_
      refine J.op (Yd.extract rfl rfl) rfl ?_
      refine J.op (Yd.extract rfl rfl) rfl ?_
      refine J.op (Yd.extract rfl rfl) rfl ?_
      refine J.op (Yd.assign rfl) rfl ?_
      refine J.op (Yd.assign rfl) rfl ?_
      refine J.op (Yd.assign rfl) rfl ?_
      refine J.nil ?_
      refine J.n_then ?_
      refine J.seq ?_
      refine J.seq ?_
      refine J.region ?_
      refine J.op (Yd.move rfl) rfl ?_
      refine J.op (Yd.not rfl) rfl ?_
      refine J.op (Yd.move rfl) rfl ?_
      refine J.op_g rfl rfl rfl (Yd.move rfl) rfl ?_
      refine J.op_g rfl rfl rfl (Yd.not rfl) rfl ?_
      refine J.op (Yd.pick_f rfl rfl) rfl ?_
      refine J.op (Yd.move rfl) rfl ?_
      refine J.op_g rfl rfl rfl (Yd.move rfl) rfl ?_
      refine J.op_g rfl rfl rfl (Yd.len_b Try.underlying29 rfl (hq4 _ e0)) rfl ?_
      refine J.op_g rfl rfl rfl (Yd.lss rfl rfl) rfl ?_
      refine J.op (Yd.pick_f rfl rfl) rfl ?_
      refine J.op (Yd.move rfl) rfl ?_
      refine J.know (t := 74) (v' := .bool false) rfl (ff (by omega)) ?_
      refine J.op_g rfl rfl rfl (Yd.move rfl) rfl ?_
      refine J.op_g rfl rfl rfl (Yd.move rfl) rfl ?_
      refine J.op_g rfl rfl rfl (Yd.move rfl) rfl ?_
      refine J.eff_g rfl rfl rfl (Ye.call cl38 rfl (Find_is (q := idxI (eqK (e : Int) (i : Int)) L) c45_2 (Es.rd ho2) (hA.idx fun a b h => h.eq _ _))) rfl ?_
      rintro _ w7 ⟨rfl, x1⟩
      have e0 := e0.trans x1
      have c45_2 := c45_2.ext x1
      have ho2 := ho2.ext x1
      clear x1
      refine J.op_g rfl rfl rfl (Yd.geq rfl rfl) rfl ?_
      refine J.op (Yd.pick_f rfl rfl) rfl ?_
      refine J.nil ?_
      refine J.n_then ?_
      refine J.know (t := 80) (v' := .bool false) rfl (ff (by exact hst.2.1)) ?_
      refine J.cond_false rfl ?_
      refine J.skip ?_
      refine J.n_then ?_
      refine J.seq ?_
      refine J.regionO [(0, true), (1, true), (2, true), (3, true), (5, true), (6, true), (7, true)] [(4, 1), (8, 1), (9, 1), (10, 0)] [(11, false), (12, true), (13, true), (14, false)] mix (by kernel_rfl) ?_
      refine J.s_op rfl (fun _ => Yd.move rfl) rfl ?_
      refine J.s_op rfl (fun _ => Yd.move rfl) rfl ?_
      refine J.s_op rfl (fun _ => Yd.nilCheck rfl) rfl ?_
      refine J.s_op rfl (fun _ => Yd.cast (Yd.fieldA Try.underlying46 rfl ti44 rfl rfl) (show _ = Value.pointer (some ⟨b45_2, 1, none⟩) from rfl)) rfl ?_
      refine J.s_op rfl (fun _ => Yd.move rfl) rfl ?_
      refine J.s_op rfl (fun _ => Yd.move rfl) rfl ?_
      refine J.s_op rfl (fun _ => Yd.move rfl) rfl ?_
      refine J.s_nil ?_
      refine J.o_op rfl (Yd.load pl44 rfl (Cel.cell1 c45_2 1 rfl)) rfl ?_
      refine J.o_op rfl (Yd.cast (Yd.slcH Try.underlying29 ti5 rfl (hq4 _ e0) rfl (by first | omega | exact idx_u8' _ | (simp only [Int.toNat_natCast]; omega) | (simp only [List.length_map, List.length_drop, List.length_take, List.length_append, List.length_replicate]; omega) | (simp <;> omega))) (show _ = (slc v59_6 0 32) from rfl)) rfl ?_
      have hbV : Bs w7 (slc v59_6 0 32) (d2.take 32) := Bs.slc (hq4 _ e0) (l := 0) (k := 32) (by omega) (by omega)
      have hcV := Rd.cells hbV
      have hoV := Rd.one hbV
      refine J.o_op rfl (Yd.cast (Yd.buildV (pl := [(0, 1), (1, 1), (2, 1)]) Try.underlying79 (by kernel_rfl) ti79 rfl rfl (by simp [OffOK, cells_agg, cells_int, hcV]) (by simp [catV, cells_agg, cells_int, hcV])) (show _ = Value.agg (entS.c ((e : Int), (i : Int), (slc v59_6 0 32))).toArray from by simp [catV, cells_agg, cells_int, hcV, entS])) rfl ?_
      refine J.o_eff rfl (Ye.litE1 (K := entS) (u := ((e : Int), (i : Int), (slc v59_6 0 32))) (base := w7.heap.size) Try.underlying44 ti79 rfl rfl rfl (Nat.le_refl _)) rfl (fun _ _ h => h.2) ?_
      rintro sl w8 ⟨hsl, x1⟩
      have ap_b45_2_sl : Ap (some b45_2) sl.ownBlock := Ap.mk (Cel.live c45_2) (Es.fr hsl)
      have ap_s2_sl : Ap s2.ownBlock sl.ownBlock := Ap.mk (Es.live ho2) (Es.fr hsl)
      have fr_sl : Fr w.heap.size sl.ownBlock := Fr.le (Es.fr hsl) e0.size
      replace hsl := Es.base hsl (Nat.zero_le _)
      have e0 := e0.trans x1
      have c45_2 := c45_2.ext x1
      have ho2 := ho2.ext x1
      clear x1
      refine J.o_nil ?_
      refine J.s_eff rfl (Ye.appendE (K := entS) Try.underlying44 ti79 rfl rfl rfl rfl ho2 (Es.rd hsl) (ent_one1 hoV) (by simp only [List.length_singleton]; omega) (Nat.zero_le _)) rfl ?_
      rintro s3 w9 ⟨ho3, hg, hsf⟩
      have ap_b45_2_s3 : Ap (some b45_2) s3.ownBlock := Ap.sf ap_b45_2_s2 (Cel.live c45_2) hsf
      have ap_sl_s3 : Ap sl.ownBlock s3.ownBlock := Ap.sf (Ap.symm ap_s2_sl) (Es.live hsl) hsf
      have fr_s3 : Fr w.heap.size s3.ownBlock := Fr.sf fr_s2 hsf e0.size
      have c45_2 := Cel.gbk c45_2 hg ap_b45_2_s2
      have hsl := Es.gbk hsl hg (Ap.symm ap_s2_sl)
      have e0 := Ext.gbk e0 fr_s2 hg
      clear hg hsf
      refine J.s_op rfl (fun _ => Yd.nilCheck rfl) rfl ?_
      refine J.s_op rfl (fun _ => Yd.cast (Yd.fieldA Try.underlying46 rfl ti44 rfl rfl) (show _ = Value.pointer (some ⟨b45_2, 1, none⟩) from rfl)) rfl ?_
      refine J.s_eff0 rfl (Ye.store1 ti44 c45_2 1 rfl rfl rfl rfl (Er.cells (Es.rd ho3)) (Er.one (Es.rd ho3))) ?_
      rintro _ w10 ⟨cX, hu⟩
      simp only [List.set_cons_zero, List.set_cons_succ] at cX
      have hg := hu.gb
      have hsl := Es.gbk hsl hg (Ap.symm ap_b45_2_sl)
      have ho3 := Es.gbk ho3 hg (Ap.symm ap_b45_2_s3)
      have e0 := Ext.gbk e0 fr_b45_2 hg
      clear hg
      replace c45_2 := cX
      clear cX hu
      refine J.s_nil ?_
      refine J.n_np ?_
      refine J.n_then ?_
      refine J.region ?_
      refine J.op (Yd.move rfl) rfl ?_
      refine J.op (Yd.slcL Try.underlying29 ti5 rfl (hq4 _ e0) rfl (by first | omega | exact idx_u8' _ | (simp only [Int.toNat_natCast]; omega) | (simp only [List.length_map, List.length_drop, List.length_take, List.length_append, List.length_replicate]; omega) | (simp <;> omega))) rfl ?_
      refine J.op (Yd.assign rfl) rfl ?_
      refine J.nil ?_
      refine J.n_block ?_
      refine J.n_then ?_
      refine J.region ?_
      refine J.op (Yd.move rfl) rfl ?_
      refine J.op (Yd.add rfl rfl (by first | omega | exact idx_u8' _ | (simp only [Int.toNat_natCast]; omega) | (simp only [List.length_map, List.length_drop, List.length_take, List.length_append, List.length_replicate]; omega) | (simp <;> omega))) rfl ?_
      refine J.op (Yd.assign rfl) rfl ?_
      refine J.nil ?_
      refine J.n_then ?_
      exact J.round ((j + 1, L ++ [((e : Int), (i : Int), d2.take 32)], d2.drop 32, _, s3, es ++ [((e : Int), (i : Int), (slc v59_6 0 32))])) ⟨rfl, rfl, rfl, rfl, trivial⟩ (⟨by show j + 1 ≤ n; omega, (by show (L ++ [_]).length = j + 1; rw [List.length_append, hLi]; rfl), (hA.app (All2.one (R := KE) ⟨rfl, rfl⟩)), hR2, (fun W_ e_ => by have h9 := Bs.slc (hq4 W_ e_) (l := 32) (k := d2.length) (by omega) (Nat.le_refl _); rw [List.take_length] at h9; exact (show Bs _ (slc _ (32 : Int).toNat (d2.map fun x => B x).length) _ by rw [List.length_map]; exact h9)), (by show (d2.drop 32).length ≤ 1000000; rw [List.length_drop]; have h83 := rdT_le g1; have h84 := rdT_le g2; omega), c45_2, ho3, fr_s3, ap_b45_2_s3, e0⟩) (by show n - (j + 1) < n - j; omega)
  · skip
    obtain rfl : j = n := by omega
    rw [Nat.sub_self] at hR
    cases hR
    refine J.exit ?_
    refine J.x_then ?_
    refine J.x_then ?_
    refine J.x_block ?_
    refine J.n_then ?_
    refine J.seq ?_
    refine J.seq ?_
    refine J.region ?_
    refine J.op (Yd.move rfl) rfl ?_
    refine J.op (Yd.len_b Try.underlying29 rfl (hva _ e0)) rfl ?_
    refine J.op (Yd.gtr rfl rfl) rfl ?_
    refine J.nil ?_
    refine J.n_then ?_
    refine J.know (t := 99) (v' := .bool false) rfl (ff (by omega)) ?_
    refine J.cond_false rfl ?_
    refine J.skip ?_
    refine J.n_then ?_
    refine J.seq ?_
    refine J.region ?_
    refine J.op (Yd.move rfl) rfl ?_
    refine J.op (Yd.assign rfl) rfl ?_
    refine J.op (Yd.assign rfl) rfl ?_
    refine J.nil ?_
    refine J.n_then ?_
    refine J.ret ?_
    exact J.ret2 rfl rfl rfl (⟨_, rfl, b45_2, s2, es, rfl, c45_2, ho2, hAl, e0⟩)

theorem LdSk_yes {a : Value} {l : List UInt8} {w : World} (ha : Bs w a l) (hl : l.length ≤ 1000000) {m : Int} {L : List Key} (hsk : skR l = some (m, L)) : C Try.prog 19 [a] w (Ret fun u w' => ∃ b s es, u = .tuple #[.pointer (some ⟨b, 0, none⟩), I 0] ∧ Cel w' b 46 [(0, 1, [I m]), (1, 1, [s])] ∧ Es entS 0 79 w' s es ∧ es.length = L.length ∧ Ext w w') := by
  rcases skR_cases l with ⟨h, _⟩ | ⟨_, _, h, _⟩ | ⟨_, _, _, _, h, _⟩ | ⟨_, _, _, _, h, _⟩ | ⟨_, _, _, _, h, _⟩ | ⟨_, _, _, _, _, _, h, _⟩ | ⟨m, c1, n, c2, L, h, h1, h2, hm, h3⟩
  iterate 6 (rw [hsk] at h; cases h)
  rw [hsk] at h; cases h
  exact LdS6 ha hl h1 h2 hm h3 rfl
theorem LdSk_no {a : Value} {l : List UInt8} {w : World} (ha : Bs w a l) (hl : l.length ≤ 1000000) (hsk : skR l = none) : C Try.prog 19 [a] w (Ret fun v w' => v = .tuple #[.pointer none, I 2] ∧ Ext w w') := by
  rcases skR_cases l with ⟨_, h1⟩ | ⟨m, c1, _, h1, h2⟩ | ⟨m, c1, n, c2, _, h1, h2, hm⟩ | ⟨m, c1, n, c2, _, h1, h2, hm⟩ | ⟨m, c1, n, c2, _, h1, h2, hm, h3⟩ | ⟨m, c1, n, c2, L, r, _, h1, h2, hm, h3, hr⟩ | ⟨m, c1, n, c2, L, h, _⟩
  · exact LdS0 ha hl h1
  · exact LdS1 ha hl h1 h2
  · exact LdS2 ha hl h1 h2 hm
  · exact LdS3 ha hl h1 h2 hm
  · exact LdS4 ha hl h1 h2 hm h3
  · exact LdS5 ha hl h1 h2 hm h3 hr
  · rw [hsk] at h; cases h
theorem Load_yes {a : Value} {l : List UInt8} {m : Int} {L : List Key} {w : World} (ha : Bs w a l) (hl : l.length ≤ 100000) (hsk : skR l = some (m, L)) : C Try.prog 18 [a] w (Ret fun u w' => ∃ bs, u = .tuple #[.pointer (some ⟨bs, 0, none⟩), I 0] ∧ Sk 56 60 w.heap.size w' bs m L ∧ (1 ≤ m ∧ m ≤ 1000) ∧ (L.length : Int) ≤ m ∧ KOK L ∧ l = savB m L ∧ Ext w w') :=
  (Load_any ha hl).ret fun u w' h => h.1 m L hsk
theorem Load_no {a : Value} {l : List UInt8} {w : World} (ha : Bs w a l) (hl : l.length ≤ 100000) (hsk : skR l = none) : C Try.prog 18 [a] w (Ret fun v w' => v = .tuple #[.pointer none, I 2] ∧ Ext w w') := (Load_any ha hl).ret fun u w' h => h.2 hsk

theorem ReadsOut {a : Value} {l : List UInt8} {w : World} (ha : Bs w a l) (hb : ¬ l.length ≤ 4000) : C Try.prog 6 [a] w (Ret fun v w' => v = .bool true ∧ Ext w w') := by
  have e0 := Ext.refl w
  refine C.enter Try.func6 rfl Try.ntmps6 rfl ?_
  refine J.seq ?_
  refine J.region ?_
  refine J.op (Yd.assign rfl) rfl ?_
  refine J.nil ?_
  refine J.n_then ?_
  refine J.seq ?_
  refine J.seq ?_
  refine J.region ?_
  refine J.op (Yd.move rfl) rfl ?_
  refine J.op (Yd.len_b Try.underlying29 rfl ha) rfl ?_
  refine J.op (Yd.gtr rfl rfl) rfl ?_
  refine J.nil ?_
  refine J.n_then ?_
  refine J.know (t := 9) (v' := .bool true) rfl (tt (by omega)) ?_
  refine J.cond_true rfl ?_
  refine J.seq ?_
  refine J.region ?_
  refine J.eff (Ye.call cl8 rfl (Awake_ok)) rfl ?_
  rintro _ w1 ⟨rfl, x1⟩
  have e0 := e0.trans x1
  clear x1
  refine J.op (Yd.assign rfl) rfl ?_
  refine J.nil ?_
  refine J.n_then ?_
  refine J.ret ?_
  refine J.r_then ?_
  exact J.ret1 rfl rfl (⟨_, rfl, rfl, e0⟩)

theorem ReadsNo {a : Value} {l : List UInt8} {w : World} (ha : Bs w a l) (hb : l.length ≤ 4000) (hsk : skR l = none) : C Try.prog 6 [a] w (Ret fun v w' => v = .bool true ∧ Ext w w') := by
  have e0 := Ext.refl w
  refine C.enter Try.func6 rfl Try.ntmps6 rfl ?_
  refine J.seq ?_
  refine J.region ?_
  refine J.op (Yd.assign rfl) rfl ?_
  refine J.nil ?_
  refine J.n_then ?_
  refine J.seq ?_
  refine J.seq ?_
  refine J.region ?_
  refine J.op (Yd.move rfl) rfl ?_
  refine J.op (Yd.len_b Try.underlying29 rfl ha) rfl ?_
  refine J.op (Yd.gtr rfl rfl) rfl ?_
  refine J.nil ?_
  refine J.n_then ?_
  refine J.know (t := 9) (v' := .bool false) rfl (ff (by omega)) ?_
  refine J.cond_false rfl ?_
  refine J.skip ?_
  refine J.n_then ?_
  refine J.seq ?_
  refine J.region ?_
  refine J.op (Yd.move rfl) rfl ?_
  refine J.eff (Ye.call cl18 rfl (Load_no (ha.ext e0) (by omega) hsk)) rfl ?_
  rintro _ w1 ⟨rfl, x1⟩
  have e0 := e0.trans x1
  clear x1
  refine J.op (Yd.move rfl) rfl ?_
  refine J.op (Yd.extract rfl rfl) rfl ?_
  refine J.op (Yd.extract rfl rfl) rfl ?_
  refine J.op (Yd.assign rfl) rfl ?_
  refine J.op (Yd.assign rfl) rfl ?_
  refine J.nil ?_
  refine J.n_then ?_
  refine J.seq ?_
  refine J.region ?_
  refine J.op (Yd.move rfl) rfl ?_
  refine J.eff (Ye.call cl19 rfl (LdSk_no (ha.ext e0) (by omega) hsk)) rfl ?_
  rintro _ w2 ⟨rfl, x1⟩
  have e0 := e0.trans x1
  clear x1
  refine J.op (Yd.move rfl) rfl ?_
  refine J.op (Yd.extract rfl rfl) rfl ?_
  refine J.op (Yd.extract rfl rfl) rfl ?_
  refine J.op (Yd.assign rfl) rfl ?_
  refine J.op (Yd.assign rfl) rfl ?_
  refine J.nil ?_
  refine J.n_then ?_
  refine J.seq ?_
  refine J.seq ?_
  refine J.region ?_
  refine J.op (Yd.move rfl) rfl ?_
  refine J.op (Yd.move rfl) rfl ?_
  refine J.op (Yd.neq rfl rfl) rfl ?_
  refine J.op (Yd.move rfl) rfl ?_
  refine J.know (t := 24) (v' := .bool false) rfl (ff (by decide)) ?_
  refine J.op_g rfl rfl rfl (Yd.move rfl) rfl ?_
  refine J.op_g rfl rfl rfl (Yd.cast (Yd.nePn Try.underlying23 rfl rfl) (show _ = Value.bool false from rfl)) rfl ?_
  refine J.op_g rfl rfl rfl (Yd.move rfl) rfl ?_
  refine J.op_g rfl rfl rfl (Yd.cast (Yd.nePn Try.underlying41 rfl rfl) (show _ = Value.bool false from rfl)) rfl ?_
  refine J.op_g rfl rfl rfl (Yd.neqb rfl rfl Try.underlying4) rfl ?_
  refine J.op (Yd.pick_f rfl rfl) rfl ?_
  refine J.nil ?_
  refine J.n_then ?_
  refine J.know (t := 30) (v' := .bool false) rfl (ff (by decide)) ?_
  refine J.cond_false rfl ?_
  refine J.skip ?_
  refine J.n_then ?_
  refine J.seq ?_
  refine J.regionO [(0, true), (1, true), (2, true), (3, true), (6, true)] [(7, 1), (4, 0), (5, 1), (8, 1), (9, 1), (10, 1), (12, 1), (13, 1), (14, 1), (15, 1), (16, 1), (11, 0)] [(17, true), (18, true), (19, true), (20, true), (21, false), (22, true), (23, true)] mix (by kernel_rfl) ?_
  refine J.s_op rfl (fun _ => Yd.move rfl) rfl ?_
  refine J.s_op rfl (fun _ => Yd.cast (Yd.eqPn Try.underlying23 rfl rfl) (show _ = Value.bool true from rfl)) rfl ?_
  refine J.s_op rfl (fun _ => Yd.move rfl) rfl ?_
  refine J.s_not_g rfl rfl rfl rfl rfl rfl ?_
  refine J.s_not_g rfl rfl rfl rfl rfl rfl ?_
  refine J.s_nil ?_
  refine J.o_not_g rfl rfl rfl rfl rfl rfl ?_
  refine J.o_skip_g rfl rfl rfl rfl rfl rfl ?_
  refine J.o_not_g rfl rfl rfl rfl rfl rfl ?_
  refine J.o_not_g rfl rfl rfl rfl rfl rfl ?_
  refine J.o_not_g rfl rfl rfl rfl rfl rfl ?_
  refine J.o_not_u rfl rfl rfl rfl rfl ?_
  refine J.o_not_u rfl rfl rfl rfl rfl ?_
  refine J.o_not_u rfl rfl rfl rfl rfl ?_
  refine J.o_not_u rfl rfl rfl rfl rfl ?_
  refine J.o_not_u rfl rfl rfl rfl rfl ?_
  refine J.o_not_u rfl rfl rfl rfl rfl ?_
  refine J.o_skip_u rfl rfl rfl rfl rfl ?_
  refine J.o_nil ?_
  refine J.s_not_u rfl rfl rfl rfl rfl ?_
  refine J.s_not_g rfl rfl rfl rfl rfl rfl ?_
  refine J.s_op rfl (fun _ => Yd.pick_t rfl rfl) rfl ?_
  refine J.s_op rfl (fun _ => Yd.move rfl) rfl ?_
  refine J.s_eff_g rfl rfl rfl rfl (Ye.call cl8 rfl (Awake_ok)) rfl ?_
  rintro _ w3 ⟨rfl, x1⟩
  have e0 := e0.trans x1
  clear x1
  refine J.s_op rfl (fun _ => Yd.pick_t rfl rfl) rfl ?_
  refine J.s_op rfl (fun _ => Yd.assign rfl) rfl ?_
  refine J.s_nil ?_
  refine J.n_np ?_
  refine J.n_then ?_
  refine J.ret ?_
  exact J.ret1 rfl rfl (⟨_, rfl, rfl, e0⟩)

theorem ReadsYes {a : Value} {l : List UInt8} {m : Int} {L : List Key} {w : World} (ha : Bs w a l) (hb : l.length ≤ 4000) (hsk : skR l = some (m, L)) : C Try.prog 6 [a] w (Ret fun v w' => v = .bool true ∧ Ext w w') := by
  have e0 := Ext.refl w
  refine C.enter Try.func6 rfl Try.ntmps6 rfl ?_
  refine J.seq ?_
  refine J.region ?_
  refine J.op (Yd.assign rfl) rfl ?_
  refine J.nil ?_
  refine J.n_then ?_
  refine J.seq ?_
  refine J.seq ?_
  refine J.region ?_
  refine J.op (Yd.move rfl) rfl ?_
  refine J.op (Yd.len_b Try.underlying29 rfl ha) rfl ?_
  refine J.op (Yd.gtr rfl rfl) rfl ?_
  refine J.nil ?_
  refine J.n_then ?_
  refine J.know (t := 9) (v' := .bool false) rfl (ff (by omega)) ?_
  refine J.cond_false rfl ?_
  refine J.skip ?_
  refine J.n_then ?_
  refine J.seq ?_
  refine J.region ?_
  refine J.op (Yd.move rfl) rfl ?_
  refine J.eff (Ye.call cl18 rfl (Load_yes (ha.ext e0) (by omega) hsk)) rfl ?_
  rintro _ w1 ⟨bs, rfl, hs, hm, hLm, hK, hsv, x1⟩
  have e0 := e0.trans x1
  clear x1
  refine J.op (Yd.move rfl) rfl ?_
  refine J.op (Yd.extract rfl rfl) rfl ?_
  refine J.op (Yd.extract rfl rfl) rfl ?_
  refine J.op (Yd.assign rfl) rfl ?_
  refine J.op (Yd.assign rfl) rfl ?_
  refine J.nil ?_
  refine J.n_then ?_
  refine J.seq ?_
  refine J.region ?_
  refine J.op (Yd.move rfl) rfl ?_
  refine J.eff (Ye.call cl19 rfl (LdSk_yes (ha.ext e0) (by omega) hsk)) rfl ?_
  rintro _ w2 ⟨b2, s2, es2, rfl, c2, o2, hl2, x1⟩
  have hs := hs.ext x1
  have e0 := e0.trans x1
  clear x1
  refine J.op (Yd.move rfl) rfl ?_
  refine J.op (Yd.extract rfl rfl) rfl ?_
  refine J.op (Yd.extract rfl rfl) rfl ?_
  refine J.op (Yd.assign rfl) rfl ?_
  refine J.op (Yd.assign rfl) rfl ?_
  refine J.nil ?_
  refine J.n_then ?_
  refine J.seq ?_
  refine J.seq ?_
  refine J.region ?_
  refine J.op (Yd.move rfl) rfl ?_
  refine J.op (Yd.move rfl) rfl ?_
  refine J.op (Yd.neq rfl rfl) rfl ?_
  refine J.op (Yd.move rfl) rfl ?_
  refine J.know (t := 24) (v' := .bool false) rfl (ff (by decide)) ?_
  refine J.op_g rfl rfl rfl (Yd.move rfl) rfl ?_
  refine J.op_g rfl rfl rfl (Yd.cast (Yd.nePn Try.underlying23 rfl rfl) (show _ = Value.bool true from rfl)) rfl ?_
  refine J.op_g rfl rfl rfl (Yd.move rfl) rfl ?_
  refine J.op_g rfl rfl rfl (Yd.cast (Yd.nePn Try.underlying41 rfl rfl) (show _ = Value.bool true from rfl)) rfl ?_
  refine J.op_g rfl rfl rfl (Yd.neqb rfl rfl Try.underlying4) rfl ?_
  refine J.op (Yd.pick_f rfl rfl) rfl ?_
  refine J.nil ?_
  refine J.n_then ?_
  refine J.know (t := 30) (v' := .bool false) rfl (ff (by decide)) ?_
  refine J.cond_false rfl ?_
  refine J.skip ?_
  refine J.n_then ?_
  refine J.seq ?_
  refine J.regionO [(0, true), (1, true), (2, true), (3, true), (6, true)] [(7, 1), (4, 0), (5, 1), (8, 1), (9, 1), (10, 1), (12, 1), (13, 1), (14, 1), (15, 1), (16, 1), (11, 0)] [(17, true), (18, true), (19, true), (20, true), (21, false), (22, true), (23, true)] mix (by kernel_rfl) ?_
  refine J.s_op rfl (fun _ => Yd.move rfl) rfl ?_
  refine J.s_op rfl (fun _ => Yd.cast (Yd.eqPn Try.underlying23 rfl rfl) (show _ = Value.bool false from rfl)) rfl ?_
  refine J.s_op rfl (fun _ => Yd.move rfl) rfl ?_
  refine J.s_op_g rfl rfl rfl rfl (fun _ => Yd.move rfl) rfl ?_
  refine J.s_op_g rfl rfl rfl rfl (fun _ => Yd.move rfl) rfl ?_
  refine J.s_nil ?_
  refine J.o_op_g rfl rfl rfl rfl (Yd.bstr Try.underlying29 Try.underlying5 Try.underlying9 rfl (Rd.ext ha e0)) rfl ?_
  refine J.o_eff_g rfl rfl rfl rfl (Ye.call cl17 rfl (Save_sk hs hK hm (by omega))) rfl (fun _ _ h => h.2) ?_
  rintro s35_3 w3 ⟨os35_3, x1⟩
  have ap_b2_s35_3 : Ap (some b2) s35_3.ownBlock := Ap.mk (Cel.live c2) (Ow.fr os35_3)
  have ap_s2_s35_3 : Ap s2.ownBlock s35_3.ownBlock := Ap.mk (Es.live o2) (Ow.fr os35_3)
  have fr_s35_3 : Fr w.heap.size s35_3.ownBlock := Fr.le (Ow.fr os35_3) e0.size
  replace os35_3 := Ow.base os35_3 e0.size
  have hs := hs.ext x1
  have e0 := e0.trans x1
  have c2 := c2.ext x1
  have o2 := o2.ext x1
  clear x1
  refine J.o_op_g rfl rfl rfl rfl (Yd.bstr Try.underlying29 Try.underlying5 Try.underlying9 rfl (Ow.rd os35_3)) rfl ?_
  refine J.o_op_g rfl rfl rfl rfl (Yd.seq rfl rfl) rfl ?_
  refine J.o_op_g rfl rfl rfl rfl (Yd.move rfl) rfl ?_
  refine J.know (t := 40) (v' := .bool true) rfl (tt (by exact hsv.symm)) ?_
  refine J.o_op_g rfl rfl rfl rfl (Yd.move rfl) rfl ?_
  refine J.o_op_g rfl rfl rfl rfl (Yd.move rfl) rfl ?_
  refine J.o_op_g rfl rfl rfl rfl (Yd.nilCheck rfl) rfl ?_
  refine J.o_op_g rfl rfl rfl rfl (Yd.cast (Yd.fieldA Try.underlying46 rfl ti44 rfl rfl) (show _ = Value.pointer (some ⟨b2, 1, none⟩) from rfl)) rfl ?_
  refine J.o_op_g rfl rfl rfl rfl (Yd.load pl44 rfl (Cel.cell1 c2 1 rfl)) rfl ?_
  refine J.o_op_g rfl rfl rfl rfl (Yd.lenE (K := entS) Try.underlying44 rfl (Es.rd o2)) rfl ?_
  refine J.o_eff_g rfl rfl rfl rfl (Ye.call cl13 rfl (Len_sk hs)) rfl (fun _ _ h => h.2) ?_
  rintro _ w4 ⟨rfl, x1⟩
  have hs := hs.ext x1
  have e0 := e0.trans x1
  have c2 := c2.ext x1
  have o2 := o2.ext x1
  have os35_3 := os35_3.ext x1
  clear x1
  refine J.o_nil ?_
  refine J.s_op_g rfl rfl rfl rfl (fun _ => Yd.eql rfl rfl) rfl ?_
  refine J.s_op_g rfl rfl rfl rfl (fun _ => Yd.pick_t rfl rfl) rfl ?_
  refine J.s_op rfl (fun _ => Yd.pick_f rfl rfl) rfl ?_
  refine J.s_op rfl (fun _ => Yd.move rfl) rfl ?_
  refine J.know (t := 51) (v' := .bool true) rfl (tt (by omega)) ?_
  refine J.s_eff_g rfl rfl rfl rfl (Ye.call cl8 rfl (Awake_ok)) rfl ?_
  rintro _ w5 ⟨rfl, x1⟩
  have hs := hs.ext x1
  have e0 := e0.trans x1
  have c2 := c2.ext x1
  have o2 := o2.ext x1
  have os35_3 := os35_3.ext x1
  clear x1
  refine J.s_op rfl (fun _ => Yd.pick_t rfl rfl) rfl ?_
  refine J.s_op rfl (fun _ => Yd.assign rfl) rfl ?_
  refine J.s_nil ?_
  refine J.n_np ?_
  refine J.n_then ?_
  refine J.ret ?_
  exact J.ret1 rfl rfl (⟨_, rfl, rfl, e0⟩)

theorem Reads_ok {a : Value} {l : List UInt8} {w : World} (ha : Bs w a l) : C Try.prog 6 [a] w (Ret fun v w' => v = .bool true ∧ Ext w w') := by
  by_cases hb : l.length ≤ 4000
  · cases hsk : skR l with
    | none => exact ReadsNo ha hb hsk
    | some p => exact ReadsYes (m := p.1) (L := p.2) ha hb hsk
  · exact ReadsOut ha hb
end Ytfefphcmfhabiaa
end Go.Proofs
