import Derived.Test.YtphebleabcoakaaT
import Derived.Test.YtphebleabcoakaaW5
set_option linter.unusedVariables false
set_option linter.unusedSimpArgs false
set_option maxRecDepth 100000
set_option maxHeartbeats 4000000
namespace Go.Proofs
open Go.X Go.RowKit
namespace Ytphebleabcoakaa
theorem Pn_ret {f : Nat} {fst cap : Array Value} {rs : List (Option Nat)} {w : World} (hcl : callable Try.prog f = true) (hrs : LoL w.heap.size rs) {Φ : World → Prop} (hcb : ∀ w1 bc, Ext w w1 → w.heap.size ≤ bc → bc < w1.heap.size → C Try.prog f (fst.toList ++ [] ++ cap.toList) w1 (Ret fun _ w2 => Tn rs w1 w2 ∧ ∀ w3, Tn [some bc] w2 w3 → Φ w3)) : C Try.prog 9 [.func (.func f) fst cap] w (Ret fun v w' => v = I (-1) ∧ Tn rs w w' ∧ Φ w') := by
  have e0 := Ext.refl w
  refine C.enterD Try.func9 rfl Try.ntmps9 rfl ?_
  refine J.seq ?_
  refine J.region ?_
  refine J.eff (Ye.alloc ti3 (S := [(0, 1, [.int .i64 0])]) (by simp [SegAll, SegOK, Value.cells])) rfl ?_
  rintro _ w1 ⟨b2_0, rfl, hb_, c2_0, x1⟩
  have fr_b2_0 : Fr w.heap.size (some b2_0) := Fr.le (Fr.blk hb_) e0.size
  have e0 := e0.trans x1
  clear x1 hb_
  refine J.nil ?_
  refine J.n_then ?_
  refine J.seq ?_
  refine J.region ?_
  refine J.op (Yd.mkFuncC rfl rfl) rfl ?_
  refine J.defer rfl rfl ?_
  refine J.nil ?_
  refine J.n_then ?_
  refine J.seq ?_
  refine J.region ?_
  refine J.op (Yd.move rfl) rfl ?_
  have hcall := hcb _ _ e0 (fr_b2_0 _ rfl) (Cel.lt c2_0)
  refine J.eff (Ye.callv hcl rfl rfl hcall) rfl ?_
  rintro _ w2 ⟨ht, hΦ⟩
  have c2_0 := Cel.tnk c2_0 ht (fun q hq => (hrs _ hq).ap fr_b2_0)
  have e0 := Tn.tnk (e0.tn rs) (fun q hq => .inl hq) ht
  clear ht
  have hb2 := Tn.refl [some b2_0] w2
  refine J.nil ?_
  refine J.n_then ?_
  refine J.seq ?_
  refine J.region ?_
  refine J.op (Yd.load pl3 rfl (Cel.cell1 c2_0 0 rfl)) rfl ?_
  refine J.eff0 (Ye.store1 ti3 c2_0 0 rfl rfl rfl rfl rfl rfl) ?_
  rintro _ w3 ⟨cX, hu⟩
  simp only [List.set_cons_zero, List.set_cons_succ] at cX
  have hg := hu.gb
  have hb2 := Tn.gbk hb2 (.inl (by simp)) hg
  have e0 := Tn.gbk e0 (.inr fr_b2_0) hg
  clear hg
  replace c2_0 := cX
  clear cX hu
  refine J.nil ?_
  refine J.n_then ?_
  refine J.ret ?_
  exact J.leave_ret rfl pl3 rfl cl31 ((PaC_ret c2_0).mono fun e u' w' h => by obtain ⟨⟨x, rfl⟩, rfl, h1, h2⟩ := h; exact ⟨_, Cel.cell1 h1 0 rfl, _, rfl, rfl, Tn.tnk e0 (fun q hq => by simp only [List.mem_singleton] at hq; subst hq; exact .inr fr_b2_0) h2, hΦ _ (hb2.trans h2)⟩)

theorem Pn_err {f : Nat} {fst cap : Array Value} {rs : List (Option Nat)} {w : World} (hcl : callable Try.prog f = true) (hrs : LoL w.heap.size rs) {n : Int} {Φ : World → Prop} (hcb : ∀ w1 bc, Ext w w1 → w.heap.size ≤ bc → bc < w1.heap.size → C Try.prog f (fst.toList ++ [] ++ cap.toList) w1 (Pan fun ch w2 => ch = [{ v := (.iface 24 (I n)), recovered := false }] ∧ Tn rs w1 w2 ∧ ∀ w3, Tn [some bc] w2 w3 → Φ w3)) : C Try.prog 9 [.func (.func f) fst cap] w (Ret fun v w' => v = I n ∧ Tn rs w w' ∧ Φ w') := by
  have e0 := Ext.refl w
  refine C.enterD Try.func9 rfl Try.ntmps9 rfl ?_
  refine J.seq ?_
  refine J.region ?_
  refine J.eff (Ye.alloc ti3 (S := [(0, 1, [.int .i64 0])]) (by simp [SegAll, SegOK, Value.cells])) rfl ?_
  rintro _ w1 ⟨b2_0, rfl, hb_, c2_0, x1⟩
  have fr_b2_0 : Fr w.heap.size (some b2_0) := Fr.le (Fr.blk hb_) e0.size
  have e0 := e0.trans x1
  clear x1 hb_
  refine J.nil ?_
  refine J.n_then ?_
  refine J.seq ?_
  refine J.region ?_
  refine J.op (Yd.mkFuncC rfl rfl) rfl ?_
  refine J.defer rfl rfl ?_
  refine J.nil ?_
  refine J.n_then ?_
  refine J.seq ?_
  refine J.region ?_
  refine J.op (Yd.move rfl) rfl ?_
  have hcall := hcb _ _ e0 (fr_b2_0 _ rfl) (Cel.lt c2_0)
  refine J.pan (Yp.callv hcl rfl rfl hcall) ?_
  rintro _ w2 ⟨rfl, ht, hΦ⟩
  have c2_0 := Cel.tnk c2_0 ht (fun q hq => (hrs _ hq).ap fr_b2_0)
  have e0 := Tn.tnk (e0.tn rs) (fun q hq => .inl hq) ht
  clear ht
  refine J.p_then ?_
  exact J.leave_p rfl pl3 rfl cl31 ((PaC_err c2_0).mono fun e u' w' h => by obtain ⟨⟨x, rfl⟩, rfl, h1, h2⟩ := h; exact ⟨_, Cel.cell1 h1 0 rfl, _, rfl, rfl, Tn.tnk e0 (fun q hq => by simp only [List.mem_singleton] at hq; subst hq; exact .inr fr_b2_0) h2, hΦ _ h2⟩)

theorem Pn_oth {f : Nat} {fst cap : Array Value} {rs : List (Option Nat)} {w : World} (hcl : callable Try.prog f = true) (hrs : LoL w.heap.size rs) {v : Value} {Φ : World → Prop} (hcb : ∀ w1 bc, Ext w w1 → w.heap.size ≤ bc → bc < w1.heap.size → C Try.prog f (fst.toList ++ [] ++ cap.toList) w1 (Pan fun ch w2 => ch = [{ v := (.iface 9 v), recovered := false }, { v := (.iface 9 v), recovered := true }] ∧ Tn rs w1 w2 ∧ ∀ w3, Tn [some bc] w2 w3 → Φ w3)) : C Try.prog 9 [.func (.func f) fst cap] w (Ret fun v w' => v = I (-2) ∧ Tn rs w w' ∧ Φ w') := by
  have e0 := Ext.refl w
  refine C.enterD Try.func9 rfl Try.ntmps9 rfl ?_
  refine J.seq ?_
  refine J.region ?_
  refine J.eff (Ye.alloc ti3 (S := [(0, 1, [.int .i64 0])]) (by simp [SegAll, SegOK, Value.cells])) rfl ?_
  rintro _ w1 ⟨b2_0, rfl, hb_, c2_0, x1⟩
  have fr_b2_0 : Fr w.heap.size (some b2_0) := Fr.le (Fr.blk hb_) e0.size
  have e0 := e0.trans x1
  clear x1 hb_
  refine J.nil ?_
  refine J.n_then ?_
  refine J.seq ?_
  refine J.region ?_
  refine J.op (Yd.mkFuncC rfl rfl) rfl ?_
  refine J.defer rfl rfl ?_
  refine J.nil ?_
  refine J.n_then ?_
  refine J.seq ?_
  refine J.region ?_
  refine J.op (Yd.move rfl) rfl ?_
  have hcall := hcb _ _ e0 (fr_b2_0 _ rfl) (Cel.lt c2_0)
  refine J.pan (Yp.callv hcl rfl rfl hcall) ?_
  rintro _ w2 ⟨rfl, ht, hΦ⟩
  have c2_0 := Cel.tnk c2_0 ht (fun q hq => (hrs _ hq).ap fr_b2_0)
  have e0 := Tn.tnk (e0.tn rs) (fun q hq => .inl hq) ht
  clear ht
  refine J.p_then ?_
  exact J.leave_p rfl pl3 rfl cl31 ((PaC_oth c2_0).mono fun e u' w' h => by obtain ⟨⟨x, rfl⟩, rfl, h1, h2⟩ := h; exact ⟨_, Cel.cell1 h1 0 rfl, _, rfl, rfl, Tn.tnk e0 (fun q hq => by simp only [List.mem_singleton] at hq; subst hq; exact .inr fr_b2_0) h2, hΦ _ h2⟩)

theorem Awake1_bad {w : World} : C Try.prog 28 [] w (Pan fun ch w' => ch = [{ v := .iface 24 (I 2), recovered := false }] ∧ Ext w w') := by
  have e0 := Ext.refl w
  refine C.enter Try.func28 rfl Try.ntmps28 rfl ?_
  refine J.region ?_
  refine J.eff (Ye.call cl29 rfl (RNew_ok (l := []) (Rd.nilM (fun x : UInt8 => B x) _) (by decide))) rfl ?_
  rintro _ w1 ⟨br, rfl, hbr, hr, x1⟩
  have fr_br : Fr w.heap.size (some br) := Fr.le (Fr.blk hbr) e0.size
  replace hr := Rdr.le hr e0.size
  have e0 := e0.trans x1
  clear x1
  refine J.pan (Yp.call cl30 rfl (RNum_bad hr (by decide) rfl)) ?_
  rintro _ w2 ⟨rfl, x1⟩
  have e0 := Ext.tnk e0 (fun q hq => by simp only [List.mem_singleton] at hq; subst hq; exact fr_br) x1
  clear x1
  exact J.fin_p (⟨_, rfl, rfl, e0⟩)

theorem Awake_ok {w : World} : C Try.prog 7 [] w (Ret fun v w' => v = .bool true ∧ Ext w w') := by
  have e0 := Ext.refl w
  refine C.enter Try.func7 rfl Try.ntmps7 rfl ?_
  refine J.seq ?_
  refine J.region ?_
  refine J.op (Yd.assign rfl) rfl ?_
  refine J.nil ?_
  refine J.n_then ?_
  refine J.seq ?_
  refine J.region ?_
  refine J.eff (Ye.alloc ti34 (S := [(0, 1, [.slice none 0 0])]) (by simp [SegAll, SegOK, Value.cells])) rfl ?_
  rintro _ w1 ⟨b1_0, rfl, hb_, c1_0, x1⟩
  have fr_b1_0 : Fr w.heap.size (some b1_0) := Fr.le (Fr.blk hb_) e0.size
  have e0 := e0.trans x1
  clear x1 hb_
  refine J.nil ?_
  refine J.n_then ?_
  refine J.seq ?_
  refine J.region ?_
  have hw := Wr.new (TW := 34) (E := 5) (Ge w.heap.size) c1_0
  refine J.eff (Ye.call cl27 rfl (WNum_ok (n := 300) hw (Hb.ge e0.size)  (by decide))) rfl ?_
  rintro _ w2 ⟨rfl, hw2, x1⟩
  have e0 := e0.th' (Thb.th x1 (fr_b1_0 _ rfl) (Nat.le_refl _))
  replace hw := hw2
  clear hw2 x1
  refine J.eff (Ye.call cl16 rfl (WDone_ok hw (by rw [List.nil_append, putN_300]; decide))) rfl ?_
  rintro s4_3 w3 ⟨os4_3, x1⟩
  have fr_s4_3 : Fr w.heap.size s4_3.ownBlock := Fr.le (Ow.fr os4_3) e0.size
  replace os4_3 := Ow.base os4_3 e0.size
  have e0 := e0.trans x1
  have hw := hw.ext x1
  clear x1
  refine J.op (Yd.assign rfl) rfl ?_
  refine J.nil ?_
  refine J.n_then ?_
  refine J.seq ?_
  refine J.region ?_
  refine J.op (Yd.move rfl) rfl ?_
  refine J.op (Yd.bstr Try.underlying32 Try.underlying5 Try.underlying9 rfl (Ow.rd os4_3)) rfl ?_
  refine J.op (Yd.seq rfl rfl) rfl ?_
  refine J.op (Yd.move rfl) rfl ?_
  refine J.know (t := 8) (v' := .bool true) rfl (tt (by rw [List.nil_append]; exact putN_300)) ?_
  refine J.eff_g rfl rfl rfl (Ye.call cl9 rfl (Pn_err (f := 28) (fst := #[]) (cap := #[]) (Φ := fun _ => True) cl28 LoL.nil (fun w1 bc hx hbc hlt => Awake1_bad.pan fun ch w2 h => ⟨h.1, h.2.tn _, fun _ _ => trivial⟩))) rfl ?_
  rintro _ w4 ⟨rfl, x1, _⟩
  have x1 := Tn.nil x1
  have e0 := e0.trans x1
  have hw := hw.ext x1
  have os4_3 := os4_3.ext x1
  clear x1
  refine J.op_g rfl rfl rfl (Yd.eql rfl rfl) rfl ?_
  refine J.op (Yd.pick_t rfl rfl) rfl ?_
  refine J.op (Yd.move rfl) rfl ?_
  refine J.know (t := 12) (v' := .bool true) rfl (tt (by rfl)) ?_
  refine J.eff_g rfl rfl rfl (Ye.litM (base := w4.heap.size) (f := fun x : UInt8 => B x) ([1] : List UInt8) Try.underlying32 ti5 rfl rfl rfl rfl (fun _ => rfl) rfl (Nat.le_refl _)) rfl ?_
  rintro s13_5 w5 ⟨o13_5, x1⟩
  have ap_s4_3_s13_5 : Ap s4_3.ownBlock s13_5.ownBlock := Ap.mk (Ow.live os4_3) (Ow.fr o13_5)
  have fr_s13_5 : Fr w.heap.size s13_5.ownBlock := Fr.le (Ow.fr o13_5) e0.size
  replace o13_5 := Ow.base o13_5 e0.size
  have e0 := e0.trans x1
  have hw := hw.ext x1
  have os4_3 := os4_3.ext x1
  clear x1
  refine J.eff_g rfl rfl rfl (Ye.call cl11 rfl (Read_nil (Ow.rd o13_5) (by decide))) rfl ?_
  rintro _ w6 ⟨rfl, x1⟩
  have e0 := e0.trans x1
  have hw := hw.ext x1
  have os4_3 := os4_3.ext x1
  have o13_5 := o13_5.ext x1
  clear x1
  refine J.op_g rfl rfl rfl (Yd.eql rfl rfl) rfl ?_
  refine J.op (Yd.pick_t rfl rfl) rfl ?_
  refine J.op (Yd.assign rfl) rfl ?_
  refine J.nil ?_
  refine J.n_then ?_
  refine J.ret ?_
  exact J.ret1 rfl rfl (⟨_, rfl, rfl, e0⟩)
end Ytphebleabcoakaa
end Go.Proofs
