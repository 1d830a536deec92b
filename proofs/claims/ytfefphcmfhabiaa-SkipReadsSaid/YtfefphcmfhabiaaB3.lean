import Derived.Test.YtfefphcmfhabiaaT
import Derived.Test.YtfefphcmfhabiaaB2
set_option linter.unusedVariables false
set_option linter.unusedSimpArgs false
set_option maxRecDepth 100000
set_option maxHeartbeats 4000000
namespace Go.Proofs
open Go.X Go.RowKit
namespace Ytfefphcmfhabiaa
theorem ReadL_bad {p : Nat} {a : Value} {l : List UInt8} {w : World} (ha : Bs w a l) (hl : l.length ≤ 1000000) (hp : Cel w p 23 [(0, 1, [.pointer none])]) (hld : ldR l = none) : C Try.prog 32 [a, .func (.func 33) #[] #[.pointer (some ⟨p, 0, none⟩)]] w (Ret fun u w' => u = I 2 ∧ Tn [some p] w w') := by
  have hlp := Cel.lt hp
  exact (Read_err (f := 33) (fst := #[]) (cap := #[.pointer (some ⟨p, 0, none⟩)]) (rs := [some p]) (n := 2) (Φ := fun _ => True) cl33 (LoL.one (Cel.live hp)) ha (by omega) (by decide) (fun w1 be br hx hbe hlt hr => (LdC_bad hr (hp.ext hx) (Lo.out (Cel.live hp)) hl hld).pan fun ch w2 h => ⟨h.1, h.2, fun _ _ => trivial⟩)).ret fun u w' h => ⟨h.1, h.2.1⟩
theorem ReadL_ok {p : Nat} {a : Value} {l : List UInt8} {w : World} {m : Int} {L : List Key} {r : List UInt8} (ha : Bs w a l) (hl : l.length ≤ 1000000) (hp : Cel w p 23 [(0, 1, [.pointer none])]) (hld : ldR l = some (m, L, r)) : C Try.prog 32 [a, .func (.func 33) #[] #[.pointer (some ⟨p, 0, none⟩)]] w (Ret fun u w' => ∃ bs, u = I (if r.length = 0 then 0 else 2) ∧ Cel w' p 23 [(0, 1, [.pointer (some ⟨bs, 0, none⟩)])] ∧ Sk 56 60 w.heap.size w' bs m L ∧ Tn [some p] w w') := by
  have hlp := Cel.lt hp
  refine (Read_ret (f := 33) (fst := #[]) (cap := #[.pointer (some ⟨p, 0, none⟩)]) (rs := [some p]) (Φ := fun w' l2 => l2 = r ∧ ∃ bs, Cel w' p 23 [(0, 1, [.pointer (some ⟨bs, 0, none⟩)])] ∧ Sk 56 60 w.heap.size w' bs m L) cl33 (LoL.one (Cel.live hp)) ha (by omega) (fun w1 be br hx hbe hlt hr => (LdC_ok hr (hp.ext hx) (Lo.out (Cel.live hp)) hl hld).ret fun _ w2 h => ?_)).ret fun u w' h => ?_
  · obtain ⟨bs, h1, h2, h3, h4⟩ := h
    have hbr := Rdr.live hr _ rfl
    exact ⟨_, h1, h4, fun w3 ht => ⟨rfl, bs, h2.tnk ht (ApL.one (fun k e1 e2 => by cases e1; cases e2; omega)), (h3.lo ht (LoL.of1 (by omega))).le hx.size⟩⟩
  · obtain ⟨l2, h1, h2, rfl, bs, h3, h4⟩ := h
    exact ⟨bs, h1, h3, h4, h2⟩

theorem Load_any {a : Value} {l : List UInt8} {w : World} (ha : Bs w a l) (hl : l.length ≤ 100000) : C Try.prog 18 [a] w (Ret fun u w' => (∀ m L, skR l = some (m, L) → ∃ bs, u = .tuple #[.pointer (some ⟨bs, 0, none⟩), I 0] ∧ Sk 56 60 w.heap.size w' bs m L ∧ (1 ≤ m ∧ m ≤ 1000) ∧ (L.length : Int) ≤ m ∧ KOK L ∧ l = savB m L ∧ Ext w w') ∧ (skR l = none → u = .tuple #[.pointer none, I 2] ∧ Ext w w')) := by
  have e0 := Ext.refl w
  refine C.enter Try.func18 rfl Try.ntmps18 rfl ?_
  refine J.seq ?_
  refine J.region ?_
  refine J.op (Yd.assign rfl) rfl ?_
  refine J.op (Yd.assign rfl) rfl ?_
  refine J.nil ?_
  refine J.n_then ?_
  refine J.seq ?_
  refine J.region ?_
  refine J.eff (Ye.alloc ti23 (S := [(0, 1, [.pointer none])]) (by simp [SegAll, SegOK, Value.cells])) rfl ?_
  rintro _ w1 ⟨b4_0, rfl, hb_, c4_0, x1⟩
  have fr_b4_0 : Fr w.heap.size (some b4_0) := Fr.le (Fr.blk hb_) e0.size
  have e0 := e0.trans x1
  clear x1 hb_
  refine J.nil ?_
  refine J.n_then ?_
  refine J.seq ?_
  refine J.region ?_
  rcases ld_cases l with ⟨hld, hno⟩ | ⟨m, L, r, hld, hr0, hno⟩ | ⟨m, L, hld, hsk, hm, hLm, hK, hsv⟩
  · skip
    refine J.op (Yd.move rfl) rfl ?_
    refine J.op (Yd.mkFuncC rfl rfl) rfl ?_
    have hszR := e0.size
    refine J.eff (Ye.call cl32 rfl (ReadL_bad (Rd.ext ha e0) (by omega) c4_0 hld)) rfl ?_
    rintro _ w2 ⟨rfl, x1⟩
    have e0 := Ext.tnk e0 (fun q hq => by simp only [List.mem_singleton] at hq; subst hq; exact fr_b4_0) x1
    clear x1
    refine J.op (Yd.assign rfl) rfl ?_
    refine J.nil ?_
    refine J.n_then ?_
    refine J.seq ?_
    refine J.seq ?_
    refine J.region ?_
    refine J.op (Yd.move rfl) rfl ?_
    refine J.op (Yd.neq rfl rfl) rfl ?_
    refine J.op (Yd.move rfl) rfl ?_
    refine J.know (t := 11) (v' := .bool true) rfl (tt (by decide)) ?_
    refine J.not_g rfl rfl rfl rfl rfl ?_
    refine J.not_g rfl rfl rfl rfl rfl ?_
    refine J.not_g rfl rfl rfl rfl rfl ?_
    refine J.not_g rfl rfl rfl rfl rfl ?_
    refine J.not_g rfl rfl rfl rfl rfl ?_
    refine J.op (Yd.pick_t rfl rfl) rfl ?_
    refine J.nil ?_
    refine J.n_then ?_
    refine J.cond_true rfl ?_
    refine J.seq ?_
    refine J.region ?_
    refine J.op (Yd.assign rfl) rfl ?_
    refine J.op (Yd.assign rfl) rfl ?_
    refine J.nil ?_
    refine J.n_then ?_
    refine J.ret ?_
    refine J.r_then ?_
    exact J.ret2 rfl rfl rfl (⟨_, rfl, fun m' L' h => (by rw [hno] at h; cases h), fun _ => ⟨rfl, e0⟩⟩)
  · skip
    refine J.op (Yd.move rfl) rfl ?_
    refine J.op (Yd.mkFuncC rfl rfl) rfl ?_
    have hszR := e0.size
    refine J.eff (Ye.call cl32 rfl (ReadL_ok (Rd.ext ha e0) (by omega) c4_0 hld)) rfl ?_
    rintro _ w3 ⟨bs, rfl, hc2, hs, x1⟩
    have e0 := Ext.tnk e0 (fun q hq => by simp only [List.mem_singleton] at hq; subst hq; exact fr_b4_0) x1
    clear x1
    replace c4_0 := hc2
    clear hc2
    replace hs := Sk.le hs hszR
    refine J.op (Yd.assign rfl) rfl ?_
    refine J.nil ?_
    refine J.n_then ?_
    refine J.seq ?_
    refine J.seq ?_
    refine J.region ?_
    refine J.op (Yd.move rfl) rfl ?_
    refine J.op (Yd.neq rfl rfl) rfl ?_
    refine J.op (Yd.move rfl) rfl ?_
    refine J.know (t := 11) (v' := .bool true) rfl (tt (by rw [if_neg hr0]; decide)) ?_
    refine J.not_g rfl rfl rfl rfl rfl ?_
    refine J.not_g rfl rfl rfl rfl rfl ?_
    refine J.not_g rfl rfl rfl rfl rfl ?_
    refine J.not_g rfl rfl rfl rfl rfl ?_
    refine J.not_g rfl rfl rfl rfl rfl ?_
    refine J.op (Yd.pick_t rfl rfl) rfl ?_
    refine J.nil ?_
    refine J.n_then ?_
    refine J.cond_true rfl ?_
    refine J.seq ?_
    refine J.region ?_
    refine J.op (Yd.assign rfl) rfl ?_
    refine J.op (Yd.assign rfl) rfl ?_
    refine J.nil ?_
    refine J.n_then ?_
    refine J.ret ?_
    refine J.r_then ?_
    exact J.ret2 rfl rfl rfl (⟨_, rfl, fun m' L' h => (by rw [hno] at h; cases h), fun _ => ⟨rfl, e0⟩⟩)
  · skip
    refine J.op (Yd.move rfl) rfl ?_
    refine J.op (Yd.mkFuncC rfl rfl) rfl ?_
    have hszR := e0.size
    refine J.eff (Ye.call cl32 rfl (ReadL_ok (Rd.ext ha e0) (by omega) c4_0 hld)) rfl ?_
    rintro _ w4 ⟨bs, rfl, hc2, hs, x1⟩
    have e0 := Ext.tnk e0 (fun q hq => by simp only [List.mem_singleton] at hq; subst hq; exact fr_b4_0) x1
    clear x1
    replace c4_0 := hc2
    clear hc2
    replace hs := Sk.le hs hszR
    refine J.op (Yd.assign rfl) rfl ?_
    refine J.nil ?_
    refine J.n_then ?_
    refine J.seq ?_
    refine J.seq ?_
    refine J.region ?_
    refine J.op (Yd.move rfl) rfl ?_
    refine J.op (Yd.neq rfl rfl) rfl ?_
    refine J.op (Yd.move rfl) rfl ?_
    refine J.know (t := 11) (v' := .bool false) rfl (ff (by decide)) ?_
    refine J.op_g rfl rfl rfl (Yd.load pl23 rfl (Cel.cell1 c4_0 0 rfl)) rfl ?_
    refine J.eff_g rfl rfl rfl (Ye.call cl17 rfl (Save_sk hs hK hm (by omega))) rfl ?_
    rintro s13_5 w5 ⟨os13_5, x1⟩
    have ap_b4_0_s13_5 : Ap (some b4_0) s13_5.ownBlock := Ap.mk (Cel.live c4_0) (Ow.fr os13_5)
    have fr_s13_5 : Fr w.heap.size s13_5.ownBlock := Fr.le (Ow.fr os13_5) e0.size
    replace os13_5 := Ow.base os13_5 e0.size
    have hs := hs.ext x1
    have e0 := e0.trans x1
    have c4_0 := c4_0.ext x1
    clear x1
    refine J.op_g rfl rfl rfl (Yd.move rfl) rfl ?_
    refine J.eff_g rfl rfl rfl (Ye.call cl36 rfl (Equal_ok (Ow.rd os13_5) (Rd.ext ha e0))) rfl ?_
    rintro _ w6 ⟨rfl, x1⟩
    have hs := hs.ext x1
    have e0 := e0.trans x1
    have c4_0 := c4_0.ext x1
    have os13_5 := os13_5.ext x1
    clear x1
    refine J.op_g rfl rfl rfl (Yd.not_dec rfl) rfl ?_
    refine J.op (Yd.pick_f rfl rfl) rfl ?_
    refine J.nil ?_
    refine J.n_then ?_
    refine J.know (t := 17) (v' := .bool false) rfl (ff (by exact fun h => h hsv.symm)) ?_
    refine J.cond_false rfl ?_
    refine J.skip ?_
    refine J.n_then ?_
    refine J.seq ?_
    refine J.region ?_
    refine J.op (Yd.load pl23 rfl (Cel.cell1 c4_0 0 rfl)) rfl ?_
    refine J.op (Yd.assign rfl) rfl ?_
    refine J.op (Yd.assign rfl) rfl ?_
    refine J.nil ?_
    refine J.n_then ?_
    refine J.ret ?_
    exact J.ret2 rfl rfl rfl (⟨_, rfl, fun m' L' h => (by rw [hsk] at h; cases h; exact ⟨bs, rfl, hs, hm, hLm, hK, hsv, e0⟩), fun h => (by rw [hsk] at h; cases h)⟩)
end Ytfefphcmfhabiaa
end Go.Proofs
