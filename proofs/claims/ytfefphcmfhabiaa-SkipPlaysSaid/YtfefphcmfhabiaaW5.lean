import Derived.Test.YtfefphcmfhabiaaT
import Derived.Test.YtfefphcmfhabiaaW4
set_option linter.unusedVariables false
set_option linter.unusedSimpArgs false
set_option maxRecDepth 100000
set_option maxHeartbeats 4000000
namespace Go.Proofs
open Go.X Go.RowKit
namespace Ytfefphcmfhabiaa
theorem Read_nil {a : Value} {l : List UInt8} {w : World} (ha : Bs w a l) (hl : l.length ≤ 1000000000) : C Try.prog 32 [a, .nilFunc] w (Ret fun v w' => v = I (if l.length = 0 then 0 else 2) ∧ Ext w w') := by
  have e0 := Ext.refl w
  refine C.enterD Try.func32 rfl Try.ntmps32 rfl ?_
  refine J.seq ?_
  refine J.region ?_
  refine J.eff (Ye.alloc ti24 (S := [(0, 1, [.int .i64 0])]) (by simp [SegAll, SegOK, Value.cells])) rfl ?_
  rintro _ w1 ⟨b4_0, rfl, hb_, c4_0, x1⟩
  have fr_b4_0 : Fr w.heap.size (some b4_0) := Fr.le (Fr.blk hb_) e0.size
  have e0 := e0.trans x1
  clear x1 hb_
  refine J.nil ?_
  refine J.n_then ?_
  refine J.seq ?_
  refine J.region ?_
  refine J.op (Yd.mkFuncC rfl rfl) rfl ?_
  refine J.defer rfl rfl ?_
  refine J.nil ?_
  refine J.n_then ?_
  refine J.seq ?_
  refine J.region ?_
  refine J.op (Yd.move rfl) rfl ?_
  refine J.eff (Ye.call cl49 rfl (RNew_ok (Rd.ext ha e0) (by omega))) rfl ?_
  rintro _ w2 ⟨br, rfl, hbr, hr, x1⟩
  have hlt := Nat.lt_of_lt_of_le (Cel.lt c4_0) hbr
  have ap_b4_0_br : Ap (some b4_0) (some br) := Ap.mk (Cel.live c4_0) (Fr.blk hbr)
  have fr_br : Fr w.heap.size (some br) := Fr.le (Fr.blk hbr) e0.size
  replace hr := Rdr.le hr e0.size
  have e0 := e0.trans x1
  have c4_0 := c4_0.ext x1
  clear x1
  refine J.op (Yd.assign rfl) rfl ?_
  refine J.nil ?_
  refine J.n_then ?_
  refine J.seq ?_
  refine J.seq ?_
  refine J.region ?_
  refine J.op (Yd.move rfl) rfl ?_
  refine J.op (Yd.neFn0 Try.underlying74 rfl rfl) rfl ?_
  refine J.nil ?_
  refine J.n_then ?_
  refine J.cond_false rfl ?_
  refine J.skip ?_
  refine J.n_then ?_
  refine J.seq ?_
  refine J.region ?_
  refine J.op (Yd.move rfl) rfl ?_
  by_cases hl2 : l.length = 0
  · skip
    refine J.eff (Ye.call cl50 rfl (REnd_ok hr (by omega))) rfl ?_
    rintro _ w3 x1
    have e0 := e0.trans x1
    have c4_0 := c4_0.ext x1
    have hr := hr.ext x1
    clear x1
    refine J.nil ?_
    refine J.n_then ?_
    refine J.seq ?_
    refine J.region ?_
    refine J.eff0 (Ye.store1 ti24 c4_0 0 rfl rfl rfl rfl rfl rfl) ?_
    rintro _ w4 ⟨cX, hu⟩
    simp only [List.set_cons_zero, List.set_cons_succ] at cX
    have hg := hu.gb
    have e0 := Ext.gbk e0 fr_b4_0 hg
    clear hg
    replace c4_0 := cX
    clear cX hu
    refine J.nil ?_
    refine J.n_then ?_
    refine J.ret ?_
    exact J.leave_ret rfl pl24 rfl cl48 (RdC_ret.mono fun e u' w' h => by obtain ⟨⟨x, rfl⟩, rfl, h1⟩ := h; exact ⟨_, Cel.cell1 (c4_0.ext h1) 0 rfl, _, rfl, by rw [if_pos hl2], e0.trans h1⟩)
  · skip
    refine J.pan (Yp.call cl50 rfl (REnd_bad hr (by omega))) ?_
    rintro _ w5 ⟨rfl, x1⟩
    have e0 := e0.trans x1
    have c4_0 := c4_0.ext x1
    have hr := hr.ext x1
    clear x1
    refine J.p_then ?_
    exact J.leave_p rfl pl24 rfl cl48 ((RdC_err c4_0 (by decide)).mono fun e u' w' h => by obtain ⟨⟨x, rfl⟩, rfl, h1, h2⟩ := h; exact ⟨_, Cel.cell1 h1 0 rfl, _, rfl, by rw [if_neg hl2], Ext.tnk e0 (fun q hq => by simp only [List.mem_singleton] at hq; subst hq; exact fr_b4_0) h2⟩)

theorem Read_ret {f : Nat} {fst cap : Array Value} {rs : List (Option Nat)} {a : Value} {l : List UInt8} {w : World} (hcl : callable Try.prog f = true) (hrs : LoL w.heap.size rs) (ha : Bs w a l) (hl : l.length ≤ 1000000000) {Φ : World → List UInt8 → Prop} (hcb : ∀ w1 be br, Ext w w1 → w.heap.size ≤ be → be < br → Rdr 92 (Ge w.heap.size) w1 br l → C Try.prog f (fst.toList ++ [.pointer (some ⟨br, 0, none⟩)] ++ cap.toList) w1 (Ret fun _ w2 => ∃ l2, Rdr 92 (Ge w.heap.size) w2 br l2 ∧ Tn (some br :: rs) w1 w2 ∧ ∀ w3, Tn [some be] w2 w3 → Φ w3 l2)) : C Try.prog 32 [a, .func (.func f) fst cap] w (Ret fun v w' => ∃ l2, v = I (if l2.length = 0 then 0 else 2) ∧ Tn rs w w' ∧ Φ w' l2) := by
  have e0 := Ext.refl w
  refine C.enterD Try.func32 rfl Try.ntmps32 rfl ?_
  refine J.seq ?_
  refine J.region ?_
  refine J.eff (Ye.alloc ti24 (S := [(0, 1, [.int .i64 0])]) (by simp [SegAll, SegOK, Value.cells])) rfl ?_
  rintro _ w1 ⟨b4_0, rfl, hb_, c4_0, x1⟩
  have fr_b4_0 : Fr w.heap.size (some b4_0) := Fr.le (Fr.blk hb_) e0.size
  have e0 := e0.trans x1
  clear x1 hb_
  refine J.nil ?_
  refine J.n_then ?_
  refine J.seq ?_
  refine J.region ?_
  refine J.op (Yd.mkFuncC rfl rfl) rfl ?_
  refine J.defer rfl rfl ?_
  refine J.nil ?_
  refine J.n_then ?_
  refine J.seq ?_
  refine J.region ?_
  refine J.op (Yd.move rfl) rfl ?_
  refine J.eff (Ye.call cl49 rfl (RNew_ok (Rd.ext ha e0) (by omega))) rfl ?_
  rintro _ w2 ⟨br, rfl, hbr, hr, x1⟩
  have hlt := Nat.lt_of_lt_of_le (Cel.lt c4_0) hbr
  have ap_b4_0_br : Ap (some b4_0) (some br) := Ap.mk (Cel.live c4_0) (Fr.blk hbr)
  have fr_br : Fr w.heap.size (some br) := Fr.le (Fr.blk hbr) e0.size
  replace hr := Rdr.le hr e0.size
  have e0 := e0.trans x1
  have c4_0 := c4_0.ext x1
  clear x1
  refine J.op (Yd.assign rfl) rfl ?_
  refine J.nil ?_
  refine J.n_then ?_
  refine J.seq ?_
  refine J.seq ?_
  refine J.region ?_
  refine J.op (Yd.move rfl) rfl ?_
  refine J.op (Yd.neFn Try.underlying74 rfl rfl) rfl ?_
  refine J.nil ?_
  refine J.n_then ?_
  refine J.cond_true rfl ?_
  refine J.region ?_
  refine J.op (Yd.move rfl) rfl ?_
  refine J.op (Yd.move rfl) rfl ?_
  have hcall := hcb _ _ _ e0 (fr_b4_0 _ rfl) hlt hr
  refine J.eff (Ye.callv hcl rfl rfl hcall) rfl ?_
  rintro _ w3 ⟨l2, hr2, ht, hΦ⟩
  have c4_0 := Cel.tnk c4_0 ht (fun q hq => (List.mem_cons.1 hq).elim (fun h => by subst h; exact fun k e1 e2 => by cases e1; cases e2; omega) (fun h => (hrs _ h).ap fr_b4_0))
  have e0 := Tn.tnk (e0.tn rs) (fun q hq => (List.mem_cons.1 hq).elim (fun h => .inr (by subst h; exact fr_br)) .inl) ht
  clear ht
  replace hr := hr2
  clear hr2
  have hb2 := Tn.refl [some b4_0] w3
  refine J.nil ?_
  refine J.n_then ?_
  refine J.seq ?_
  refine J.region ?_
  refine J.op (Yd.move rfl) rfl ?_
  by_cases hl2 : l2.length = 0
  · skip
    refine J.eff (Ye.call cl50 rfl (REnd_ok hr hl2)) rfl ?_
    rintro _ w4 x1
    have e0 := Tn.ext e0 x1
    have c4_0 := c4_0.ext x1
    have hr := hr.ext x1
    have hb2 := hb2.ext x1
    clear x1
    refine J.nil ?_
    refine J.n_then ?_
    refine J.seq ?_
    refine J.region ?_
    refine J.eff0 (Ye.store1 ti24 c4_0 0 rfl rfl rfl rfl rfl rfl) ?_
    rintro _ w5 ⟨cX, hu⟩
    simp only [List.set_cons_zero, List.set_cons_succ] at cX
    have hg := hu.gb
    have hb2 := Tn.gbk hb2 (.inl (by simp)) hg
    have e0 := Tn.gbk e0 (.inr fr_b4_0) hg
    clear hg
    replace c4_0 := cX
    clear cX hu
    refine J.nil ?_
    refine J.n_then ?_
    refine J.ret ?_
    exact J.leave_ret rfl pl24 rfl cl48 (RdC_ret.mono fun e u' w' h => by obtain ⟨⟨x, rfl⟩, rfl, h1⟩ := h; exact ⟨_, Cel.cell1 (c4_0.ext h1) 0 rfl, _, rfl, l2, by rw [if_pos hl2], Tn.ext e0 h1, hΦ _ (hb2.ext h1)⟩)
  · skip
    refine J.pan (Yp.call cl50 rfl (REnd_bad hr (by omega))) ?_
    rintro _ w6 ⟨rfl, x1⟩
    have e0 := Tn.ext e0 x1
    have c4_0 := c4_0.ext x1
    have hr := hr.ext x1
    have hb2 := hb2.ext x1
    clear x1
    refine J.p_then ?_
    exact J.leave_p rfl pl24 rfl cl48 ((RdC_err c4_0 (by decide)).mono fun e u' w' h => by obtain ⟨⟨x, rfl⟩, rfl, h1, h2⟩ := h; exact ⟨_, Cel.cell1 h1 0 rfl, _, rfl, l2, by rw [if_neg hl2], Tn.tnk e0 (fun q hq => by simp only [List.mem_singleton] at hq; subst hq; exact .inr fr_b4_0) h2, hΦ _ (hb2.trans h2)⟩)

theorem Read_err {f : Nat} {fst cap : Array Value} {rs : List (Option Nat)} {a : Value} {l : List UInt8} {w : World} (hcl : callable Try.prog f = true) (hrs : LoL w.heap.size rs) (ha : Bs w a l) (hl : l.length ≤ 1000000000) {n : Int} {Φ : World → Prop} (hn : ¬ n = 0) (hcb : ∀ w1 be br, Ext w w1 → w.heap.size ≤ be → be < br → Rdr 92 (Ge w.heap.size) w1 br l → C Try.prog f (fst.toList ++ [.pointer (some ⟨br, 0, none⟩)] ++ cap.toList) w1 (Pan fun ch w2 => ch = [{ v := (.iface 24 (I n)), recovered := false }] ∧ Tn (some br :: rs) w1 w2 ∧ ∀ w3, Tn [some be] w2 w3 → Φ w3)) : C Try.prog 32 [a, .func (.func f) fst cap] w (Ret fun v w' => v = I n ∧ Tn rs w w' ∧ Φ w') := by
  have e0 := Ext.refl w
  refine C.enterD Try.func32 rfl Try.ntmps32 rfl ?_
  refine J.seq ?_
  refine J.region ?_
  refine J.eff (Ye.alloc ti24 (S := [(0, 1, [.int .i64 0])]) (by simp [SegAll, SegOK, Value.cells])) rfl ?_
  rintro _ w1 ⟨b4_0, rfl, hb_, c4_0, x1⟩
  have fr_b4_0 : Fr w.heap.size (some b4_0) := Fr.le (Fr.blk hb_) e0.size
  have e0 := e0.trans x1
  clear x1 hb_
  refine J.nil ?_
  refine J.n_then ?_
  refine J.seq ?_
  refine J.region ?_
  refine J.op (Yd.mkFuncC rfl rfl) rfl ?_
  refine J.defer rfl rfl ?_
  refine J.nil ?_
  refine J.n_then ?_
  refine J.seq ?_
  refine J.region ?_
  refine J.op (Yd.move rfl) rfl ?_
  refine J.eff (Ye.call cl49 rfl (RNew_ok (Rd.ext ha e0) (by omega))) rfl ?_
  rintro _ w2 ⟨br, rfl, hbr, hr, x1⟩
  have hlt := Nat.lt_of_lt_of_le (Cel.lt c4_0) hbr
  have ap_b4_0_br : Ap (some b4_0) (some br) := Ap.mk (Cel.live c4_0) (Fr.blk hbr)
  have fr_br : Fr w.heap.size (some br) := Fr.le (Fr.blk hbr) e0.size
  replace hr := Rdr.le hr e0.size
  have e0 := e0.trans x1
  have c4_0 := c4_0.ext x1
  clear x1
  refine J.op (Yd.assign rfl) rfl ?_
  refine J.nil ?_
  refine J.n_then ?_
  refine J.seq ?_
  refine J.seq ?_
  refine J.region ?_
  refine J.op (Yd.move rfl) rfl ?_
  refine J.op (Yd.neFn Try.underlying74 rfl rfl) rfl ?_
  refine J.nil ?_
  refine J.n_then ?_
  refine J.cond_true rfl ?_
  refine J.region ?_
  refine J.op (Yd.move rfl) rfl ?_
  refine J.op (Yd.move rfl) rfl ?_
  have hcall := hcb _ _ _ e0 (fr_b4_0 _ rfl) hlt hr
  refine J.pan (Yp.callv hcl rfl rfl hcall) ?_
  rintro _ w3 ⟨rfl, ht, hΦ⟩
  have c4_0 := Cel.tnk c4_0 ht (fun q hq => (List.mem_cons.1 hq).elim (fun h => by subst h; exact fun k e1 e2 => by cases e1; cases e2; omega) (fun h => (hrs _ h).ap fr_b4_0))
  have e0 := Tn.tnk (e0.tn rs) (fun q hq => (List.mem_cons.1 hq).elim (fun h => .inr (by subst h; exact fr_br)) .inl) ht
  clear ht
  refine J.p_then ?_
  exact J.leave_p rfl pl24 rfl cl48 ((RdC_err c4_0 hn).mono fun e u' w' h => by obtain ⟨⟨x, rfl⟩, rfl, h1, h2⟩ := h; exact ⟨_, Cel.cell1 h1 0 rfl, _, rfl, rfl, Tn.tnk e0 (fun q hq => by simp only [List.mem_singleton] at hq; subst hq; exact .inr fr_b4_0) h2, hΦ _ h2⟩)

theorem Read_oth {f : Nat} {fst cap : Array Value} {rs : List (Option Nat)} {a : Value} {l : List UInt8} {w : World} (hcl : callable Try.prog f = true) (hrs : LoL w.heap.size rs) (ha : Bs w a l) (hl : l.length ≤ 1000000000) {v : Value} {Φ : World → Prop} (hcb : ∀ w1 be br, Ext w w1 → w.heap.size ≤ be → be < br → Rdr 92 (Ge w.heap.size) w1 br l → C Try.prog f (fst.toList ++ [.pointer (some ⟨br, 0, none⟩)] ++ cap.toList) w1 (Pan fun ch w2 => ch = [{ v := (.iface 9 v), recovered := false }] ∧ Tn (some br :: rs) w1 w2 ∧ ∀ w3, Tn [some be] w2 w3 → Φ w3)) : C Try.prog 32 [a, .func (.func f) fst cap] w (Pan fun ch w' => ch = [{ v := (.iface 9 v), recovered := false }, { v := (.iface 9 v), recovered := true }] ∧ Tn rs w w' ∧ Φ w') := by
  have e0 := Ext.refl w
  refine C.enterD Try.func32 rfl Try.ntmps32 rfl ?_
  refine J.seq ?_
  refine J.region ?_
  refine J.eff (Ye.alloc ti24 (S := [(0, 1, [.int .i64 0])]) (by simp [SegAll, SegOK, Value.cells])) rfl ?_
  rintro _ w1 ⟨b4_0, rfl, hb_, c4_0, x1⟩
  have fr_b4_0 : Fr w.heap.size (some b4_0) := Fr.le (Fr.blk hb_) e0.size
  have e0 := e0.trans x1
  clear x1 hb_
  refine J.nil ?_
  refine J.n_then ?_
  refine J.seq ?_
  refine J.region ?_
  refine J.op (Yd.mkFuncC rfl rfl) rfl ?_
  refine J.defer rfl rfl ?_
  refine J.nil ?_
  refine J.n_then ?_
  refine J.seq ?_
  refine J.region ?_
  refine J.op (Yd.move rfl) rfl ?_
  refine J.eff (Ye.call cl49 rfl (RNew_ok (Rd.ext ha e0) (by omega))) rfl ?_
  rintro _ w2 ⟨br, rfl, hbr, hr, x1⟩
  have hlt := Nat.lt_of_lt_of_le (Cel.lt c4_0) hbr
  have ap_b4_0_br : Ap (some b4_0) (some br) := Ap.mk (Cel.live c4_0) (Fr.blk hbr)
  have fr_br : Fr w.heap.size (some br) := Fr.le (Fr.blk hbr) e0.size
  replace hr := Rdr.le hr e0.size
  have e0 := e0.trans x1
  have c4_0 := c4_0.ext x1
  clear x1
  refine J.op (Yd.assign rfl) rfl ?_
  refine J.nil ?_
  refine J.n_then ?_
  refine J.seq ?_
  refine J.seq ?_
  refine J.region ?_
  refine J.op (Yd.move rfl) rfl ?_
  refine J.op (Yd.neFn Try.underlying74 rfl rfl) rfl ?_
  refine J.nil ?_
  refine J.n_then ?_
  refine J.cond_true rfl ?_
  refine J.region ?_
  refine J.op (Yd.move rfl) rfl ?_
  refine J.op (Yd.move rfl) rfl ?_
  have hcall := hcb _ _ _ e0 (fr_b4_0 _ rfl) hlt hr
  refine J.pan (Yp.callv hcl rfl rfl hcall) ?_
  rintro _ w3 ⟨rfl, ht, hΦ⟩
  have c4_0 := Cel.tnk c4_0 ht (fun q hq => (List.mem_cons.1 hq).elim (fun h => by subst h; exact fun k e1 e2 => by cases e1; cases e2; omega) (fun h => (hrs _ h).ap fr_b4_0))
  have e0 := Tn.tnk (e0.tn rs) (fun q hq => (List.mem_cons.1 hq).elim (fun h => .inr (by subst h; exact fr_br)) .inl) ht
  clear ht
  refine J.p_then ?_
  exact J.leave_p rfl pl24 rfl cl48 (RdC_oth.mono fun e u' w' h => by obtain ⟨rfl, rfl, h1⟩ := h; exact ⟨_, rfl, rfl, Tn.ext e0 h1, hΦ _ (h1.tn _)⟩)
end Ytfefphcmfhabiaa
end Go.Proofs
