import Derived.Test.YtpkpicnldpbomaaT
import Derived.Test.YtpkpicnldpbomaaQ2
set_option linter.unusedVariables false
set_option linter.unusedSimpArgs false
set_option maxRecDepth 100000
set_option maxHeartbeats 4000000
namespace Go.Proofs
open Go.X Go.RowKit
namespace Ytpkpicnldpbomaa
theorem BSeal_ok {b : Nat} {u v z : Value} {key nonce data text : List UInt8} {w : World} (hB : BoxP 46 64 62 5 w b key) (ho : Bs w u nonce) (hd : Bs w v data) (ht : Bs w z text) : C Try.prog 13 [.pointer (some ⟨b, 0, none⟩), u, v, z] w (Ret fun x w' => ∃ s, x = .tuple #[s, I (mayE nonce data text 65536)] ∧ Ob w.heap.size 5 w' s (seQ key nonce data text) ∧ Ext w w') := by
  have hB0 := hB
  obtain ⟨s, bk, hc, hs, hK⟩ := hB
  have e0 := Ext.refl w
  refine C.enter Try.func13 rfl Try.ntmps13 rfl ?_
  refine J.seq ?_
  refine J.region ?_
  refine J.op (Yd.assign rfl) rfl ?_
  refine J.op (Yd.assign rfl) rfl ?_
  refine J.nil ?_
  refine J.n_then ?_
  refine J.seq ?_
  refine J.seq ?_
  refine J.region ?_
  refine J.op (Yd.move rfl) rfl ?_
  refine J.op (Yd.move rfl) rfl ?_
  refine J.op (Yd.move rfl) rfl ?_
  refine J.op (Yd.move rfl) rfl ?_
  refine J.eff (Ye.call cl24 rfl (May_ok (lim := 65536) (BoxP.ext hB0 e0) ho hd ht)) rfl ?_
  rintro _ w1 ⟨rfl, x1⟩
  have e0 := e0.trans x1
  clear x1
  refine J.op (Yd.assign rfl) rfl ?_
  refine J.nil ?_
  refine J.n_then ?_
  refine J.seq ?_
  refine J.region ?_
  refine J.op (Yd.move rfl) rfl ?_
  refine J.op (Yd.neq rfl rfl) rfl ?_
  refine J.nil ?_
  refine J.n_then ?_
  refine J.cond_dec rfl (fun hc0 => ?_) (fun hc0 => ?_)
  · skip
    refine J.seq ?_
    refine J.region ?_
    refine J.op (Yd.move rfl) rfl ?_
    refine J.op (Yd.assign rfl) rfl ?_
    refine J.op (Yd.assign rfl) rfl ?_
    refine J.nil ?_
    refine J.n_then ?_
    refine J.ret ?_
    refine J.r_then ?_
    exact J.ret2 rfl rfl rfl (⟨_, rfl, _, rfl, (by rw [seQ_no hc0]; exact Ow.nil _ _ _), e0⟩)
  · skip
    have hm0 : mayE nonce data text 65536 = 0 := Classical.not_not.1 hc0
    have hm3 := mayE_zero hm0
    have hcl := seC_len (key := key) hm3.1 (by omega : text.length ≤ 1048576)
    unfold seC at hcl
    refine J.skip ?_
    refine J.n_then ?_
    refine J.seq ?_
    refine J.region ?_
    refine J.op (Yd.move rfl) rfl ?_
    refine J.op (Yd.nilCheck rfl) rfl ?_
    refine J.op (Yd.cast (Yd.fieldA Try.underlying46 rfl ti22 rfl rfl) (show _ = Value.pointer (some ⟨b, 0, none⟩) from rfl)) rfl ?_
    refine J.op (Yd.load pl22 rfl (Cel.cell1 (Cel.ext hc e0) 0 rfl)) rfl ?_
    refine J.op (Yd.move rfl) rfl ?_
    refine J.op (Yd.move rfl) rfl ?_
    refine J.eff (Ye.call cl25 rfl (CryptO_ok (Rd.ext hs e0) (Rd.ext ho e0) (Rd.ext ht e0))) rfl ?_
    rintro _ w2 ⟨s28_2, rfl, os28_2, x1⟩
    have fr_s28_2 : Fr w.heap.size s28_2.ownBlock := Fr.le (Ow.fr os28_2) e0.size
    replace os28_2 := Ow.base os28_2 e0.size
    have e0 := e0.trans x1
    clear x1
    refine J.op (Yd.move rfl) rfl ?_
    refine J.op (Yd.extract rfl rfl) rfl ?_
    refine J.op (Yd.extract rfl rfl) rfl ?_
    refine J.op (Yd.assign rfl) rfl ?_
    refine J.op (Yd.assign rfl) rfl ?_
    refine J.nil ?_
    refine J.n_then ?_
    refine J.seq ?_
    refine J.region ?_
    refine J.op (Yd.move rfl) rfl ?_
    refine J.op (Yd.move rfl) rfl ?_
    refine J.op (Yd.move rfl) rfl ?_
    refine J.op (Yd.move rfl) rfl ?_
    refine J.op (Yd.move rfl) rfl ?_
    refine J.eff (Ye.call cl26 rfl (Tag_ok (BoxP.ext hB0 e0) (Rd.ext ho e0) (Rd.ext hd e0) (Ow.rd os28_2) (by omega) (by omega) (by rw [hcl]; omega))) rfl ?_
    rintro s36_3 w3 ⟨os36_3, x1⟩
    have ap_s28_2_s36_3 : Ap s28_2.ownBlock s36_3.ownBlock := Ap.mk (Ow.live os28_2) (Ow.fr os36_3)
    have fr_s36_3 : Fr w.heap.size s36_3.ownBlock := Fr.le (Ow.fr os36_3) e0.size
    replace os36_3 := Ow.base os36_3 e0.size
    have e0 := e0.trans x1
    have os28_2 := os28_2.ext x1
    clear x1
    refine J.eff (Ye.appendS Try.underlying22 ti5 rfl rfl rfl rfl os28_2 (Ow.rd os36_3) (fun _ => rfl) (by first | omega | assumption | (simp only [List.length_append, List.length_map, List.flatten_cons, List.flatten_nil, List.append_nil, List.length_drop, List.length_take, List.length_replicate, beN_len, macL_len, tagL_len, hcl, skQ_len, Int.toNat_natCast, List.length_nil, List.length_cons] <;> omega) | (simp [skQ_len] <;> omega)) e0.size) rfl ?_
    rintro s37_4 w4 ⟨o37_4, hg, hsf⟩
    have ap_s36_3_s37_4 : Ap s36_3.ownBlock s37_4.ownBlock := Ap.sf (Ap.symm ap_s28_2_s36_3) (Ow.live os36_3) hsf
    have fr_s37_4 : Fr w.heap.size s37_4.ownBlock := Fr.sf fr_s28_2 hsf e0.size
    have os36_3 := Ow.gbk os36_3 hg (Ap.symm ap_s28_2_s36_3)
    have e0 := Ext.gbk e0 fr_s28_2 hg
    clear hg hsf
    refine J.op (Yd.assign rfl) rfl ?_
    refine J.op (Yd.assign rfl) rfl ?_
    refine J.nil ?_
    refine J.n_then ?_
    refine J.ret ?_
    exact J.ret2 rfl rfl rfl (⟨_, rfl, _, (by rw [hm0]), (by rw [seQ_yes hm0]; exact o37_4), e0⟩)

theorem BSealNil_ok {u v z : Value} {w : World} : C Try.prog 13 [.pointer none, u, v, z] w (Ret fun v w' => v = .tuple #[nilS, I 1] ∧ Ext w w') := by
  have e0 := Ext.refl w
  refine C.enter Try.func13 rfl Try.ntmps13 rfl ?_
  refine J.seq ?_
  refine J.region ?_
  refine J.op (Yd.assign rfl) rfl ?_
  refine J.op (Yd.assign rfl) rfl ?_
  refine J.nil ?_
  refine J.n_then ?_
  refine J.seq ?_
  refine J.seq ?_
  refine J.region ?_
  refine J.op (Yd.move rfl) rfl ?_
  refine J.op (Yd.move rfl) rfl ?_
  refine J.op (Yd.move rfl) rfl ?_
  refine J.op (Yd.move rfl) rfl ?_
  refine J.eff (Ye.call cl24 rfl (MayNil_ok)) rfl ?_
  rintro _ w1 ⟨rfl, x1⟩
  have e0 := e0.trans x1
  clear x1
  refine J.op (Yd.assign rfl) rfl ?_
  refine J.nil ?_
  refine J.n_then ?_
  refine J.seq ?_
  refine J.region ?_
  refine J.op (Yd.move rfl) rfl ?_
  refine J.op (Yd.neq rfl rfl) rfl ?_
  refine J.nil ?_
  refine J.n_then ?_
  refine J.know (t := 19) (v' := .bool true) rfl (tt (by decide)) ?_
  refine J.cond_true rfl ?_
  refine J.seq ?_
  refine J.region ?_
  refine J.op (Yd.move rfl) rfl ?_
  refine J.op (Yd.assign rfl) rfl ?_
  refine J.op (Yd.assign rfl) rfl ?_
  refine J.nil ?_
  refine J.n_then ?_
  refine J.ret ?_
  refine J.r_then ?_
  exact J.ret2 rfl rfl rfl (⟨_, rfl, rfl, e0⟩)

theorem BOpen_short {b : Nat} {u v z : Value} {key nonce data text : List UInt8} {w : World} (hB : BoxP 46 64 62 5 w b key) (ho : Bs w u nonce) (hd : Bs w v data) (ht : Bs w z text) (hsh : text.length < 32) : C Try.prog 14 [.pointer (some ⟨b, 0, none⟩), u, v, z] w (Ret fun x w' => ∃ s, x = .tuple #[s, I (opE key nonce data text)] ∧ Bs w' s (opQ key nonce data text) ∧ Ext w w') := by
  have hB0 := hB
  obtain ⟨s, bk, hc, hs, hK⟩ := hB
  have hE : ((text.length : Int) - 32).toNat = text.length - 32 := by omega
  have hLM : List.take (List.map (fun x : UInt8 => B x) text).length text = text := List.take_of_length_le (by rw [List.length_map]; exact Nat.le_refl _)
  have hbad : badB key nonce data text := .inl hsh
  have e0 := Ext.refl w
  refine C.enter Try.func14 rfl Try.ntmps14 rfl ?_
  refine J.seq ?_
  refine J.region ?_
  refine J.op (Yd.assign rfl) rfl ?_
  refine J.op (Yd.assign rfl) rfl ?_
  refine J.nil ?_
  refine J.n_then ?_
  refine J.seq ?_
  refine J.seq ?_
  refine J.region ?_
  refine J.op (Yd.move rfl) rfl ?_
  refine J.op (Yd.move rfl) rfl ?_
  refine J.op (Yd.move rfl) rfl ?_
  refine J.op (Yd.move rfl) rfl ?_
  refine J.eff (Ye.call cl24 rfl (May_ok (lim := 65568) (BoxP.ext hB0 e0) ho hd ht)) rfl ?_
  rintro _ w1 ⟨rfl, x1⟩
  have e0 := e0.trans x1
  clear x1
  refine J.op (Yd.assign rfl) rfl ?_
  refine J.nil ?_
  refine J.n_then ?_
  refine J.seq ?_
  refine J.region ?_
  refine J.op (Yd.move rfl) rfl ?_
  refine J.op (Yd.neq rfl rfl) rfl ?_
  refine J.nil ?_
  refine J.n_then ?_
  refine J.cond_dec rfl (fun hc0 => ?_) (fun hc0 => ?_)
  · skip
    refine J.seq ?_
    refine J.region ?_
    refine J.op (Yd.move rfl) rfl ?_
    refine J.op (Yd.assign rfl) rfl ?_
    refine J.op (Yd.assign rfl) rfl ?_
    refine J.nil ?_
    refine J.n_then ?_
    refine J.ret ?_
    refine J.r_then ?_
    exact J.ret2 rfl rfl rfl (⟨_, rfl, _, (by rw [opE_may hc0]), (by rw [opQ_no (by rw [opE_may hc0]; exact hc0)]; exact Rd.nilM _ _), e0⟩)
  · skip
    have hm0 : mayE nonce data text 65568 = 0 := Classical.not_not.1 hc0
    have hm3 := mayE_zero hm0
    refine J.skip ?_
    refine J.n_then ?_
    refine J.seq ?_
    refine J.region ?_
    refine J.op (Yd.move rfl) rfl ?_
    refine J.op (Yd.len_b Try.underlying22 rfl (Rd.ext ht e0)) rfl ?_
    refine J.op (Yd.sub rfl rfl (by first | omega | assumption | (simp only [List.length_append, List.length_map, List.flatten_cons, List.flatten_nil, List.append_nil, List.length_drop, List.length_take, List.length_replicate, beN_len, macL_len, tagL_len, skQ_len, Int.toNat_natCast, List.length_nil, List.length_cons] <;> omega) | (simp [skQ_len] <;> omega))) rfl ?_
    refine J.op (Yd.assign rfl) rfl ?_
    refine J.nil ?_
    refine J.n_then ?_
    refine J.seq ?_
    refine J.seq ?_
    refine J.regionO [(0, true), (1, true), (2, true), (3, true), (4, true), (5, true), (6, true), (7, true), (10, true), (11, true)] [(8, 1), (12, 1), (9, 0)] [(13, false), (14, true), (15, true)] mix (by kernel_rfl) ?_
    refine J.s_op rfl (fun _ => Yd.move rfl) rfl ?_
    refine J.s_op rfl (fun _ => Yd.lss rfl rfl) rfl ?_
    refine J.s_op rfl (fun _ => Yd.move rfl) rfl ?_
    refine J.know (t := 25) (v' := .bool true) rfl (tt (by omega)) ?_
    refine J.s_not_g rfl rfl rfl rfl rfl rfl ?_
    refine J.s_not_g rfl rfl rfl rfl rfl rfl ?_
    refine J.s_not_g rfl rfl rfl rfl rfl rfl ?_
    refine J.s_not_g rfl rfl rfl rfl rfl rfl ?_
    refine J.s_not_g rfl rfl rfl rfl rfl rfl ?_
    refine J.s_not_g rfl rfl rfl rfl rfl rfl ?_
    refine J.s_not_g rfl rfl rfl rfl rfl rfl ?_
    refine J.s_nil ?_
    refine J.o_not_g rfl rfl rfl rfl rfl rfl ?_
    refine J.o_not_g rfl rfl rfl rfl rfl rfl ?_
    refine J.o_skip_g rfl rfl rfl rfl rfl rfl ?_
    refine J.o_nil ?_
    refine J.s_skip_g rfl rfl rfl rfl rfl rfl ?_
    refine J.s_not_g rfl rfl rfl rfl rfl rfl ?_
    refine J.s_op rfl (fun _ => Yd.pick_t rfl rfl) rfl ?_
    refine J.s_nil ?_
    refine J.n_np ?_
    refine J.n_then ?_
    refine J.cond_true rfl ?_
    refine J.seq ?_
    refine J.region ?_
    refine J.op (Yd.assign rfl) rfl ?_
    refine J.op (Yd.assign rfl) rfl ?_
    refine J.nil ?_
    refine J.n_then ?_
    refine J.ret ?_
    refine J.r_then ?_
    exact J.ret2 rfl rfl rfl (⟨_, rfl, _, (by rw [opE_bad hm0 hbad]), (by rw [opQ_no (by rw [opE_bad hm0 hbad]; decide)]; exact Rd.nilM _ _), e0⟩)

theorem BOpen_long {b : Nat} {u v z : Value} {key nonce data text : List UInt8} {w : World} (hB : BoxP 46 64 62 5 w b key) (ho : Bs w u nonce) (hd : Bs w v data) (ht : Bs w z text) (hsh : ¬ text.length < 32) : C Try.prog 14 [.pointer (some ⟨b, 0, none⟩), u, v, z] w (Ret fun x w' => ∃ s, x = .tuple #[s, I (opE key nonce data text)] ∧ Bs w' s (opQ key nonce data text) ∧ Ext w w') := by
  have hB0 := hB
  obtain ⟨s, bk, hc, hs, hK⟩ := hB
  have hE : ((text.length : Int) - 32).toNat = text.length - 32 := by omega
  have hLM : List.take (List.map (fun x : UInt8 => B x) text).length text = text := List.take_of_length_le (by rw [List.length_map]; exact Nat.le_refl _)
  have e0 := Ext.refl w
  refine C.enter Try.func14 rfl Try.ntmps14 rfl ?_
  refine J.seq ?_
  refine J.region ?_
  refine J.op (Yd.assign rfl) rfl ?_
  refine J.op (Yd.assign rfl) rfl ?_
  refine J.nil ?_
  refine J.n_then ?_
  refine J.seq ?_
  refine J.seq ?_
  refine J.region ?_
  refine J.op (Yd.move rfl) rfl ?_
  refine J.op (Yd.move rfl) rfl ?_
  refine J.op (Yd.move rfl) rfl ?_
  refine J.op (Yd.move rfl) rfl ?_
  refine J.eff (Ye.call cl24 rfl (May_ok (lim := 65568) (BoxP.ext hB0 e0) ho hd ht)) rfl ?_
  rintro _ w1 ⟨rfl, x1⟩
  have e0 := e0.trans x1
  clear x1
  refine J.op (Yd.assign rfl) rfl ?_
  refine J.nil ?_
  refine J.n_then ?_
  refine J.seq ?_
  refine J.region ?_
  refine J.op (Yd.move rfl) rfl ?_
  refine J.op (Yd.neq rfl rfl) rfl ?_
  refine J.nil ?_
  refine J.n_then ?_
  refine J.cond_dec rfl (fun hc0 => ?_) (fun hc0 => ?_)
  · skip
    refine J.seq ?_
    refine J.region ?_
    refine J.op (Yd.move rfl) rfl ?_
    refine J.op (Yd.assign rfl) rfl ?_
    refine J.op (Yd.assign rfl) rfl ?_
    refine J.nil ?_
    refine J.n_then ?_
    refine J.ret ?_
    refine J.r_then ?_
    exact J.ret2 rfl rfl rfl (⟨_, rfl, _, (by rw [opE_may hc0]), (by rw [opQ_no (by rw [opE_may hc0]; exact hc0)]; exact Rd.nilM _ _), e0⟩)
  · skip
    have hm0 : mayE nonce data text 65568 = 0 := Classical.not_not.1 hc0
    have hm3 := mayE_zero hm0
    refine J.skip ?_
    refine J.n_then ?_
    refine J.seq ?_
    refine J.region ?_
    refine J.op (Yd.move rfl) rfl ?_
    refine J.op (Yd.len_b Try.underlying22 rfl (Rd.ext ht e0)) rfl ?_
    refine J.op (Yd.sub rfl rfl (by first | omega | assumption | (simp only [List.length_append, List.length_map, List.flatten_cons, List.flatten_nil, List.append_nil, List.length_drop, List.length_take, List.length_replicate, beN_len, macL_len, tagL_len, skQ_len, Int.toNat_natCast, List.length_nil, List.length_cons] <;> omega) | (simp [skQ_len] <;> omega))) rfl ?_
    refine J.op (Yd.assign rfl) rfl ?_
    refine J.nil ?_
    refine J.n_then ?_
    refine J.seq ?_
    refine J.seq ?_
    refine J.regionO [(0, true), (1, true), (2, true), (3, true), (4, true), (5, true), (6, true), (7, true), (10, true), (11, true)] [(8, 1), (12, 1), (9, 0)] [(13, false), (14, true), (15, true)] mix (by kernel_rfl) ?_
    refine J.s_op rfl (fun _ => Yd.move rfl) rfl ?_
    refine J.s_op rfl (fun _ => Yd.lss rfl rfl) rfl ?_
    refine J.s_op rfl (fun _ => Yd.move rfl) rfl ?_
    refine J.know (t := 25) (v' := .bool false) rfl (ff (by omega)) ?_
    refine J.s_op_g rfl rfl rfl rfl (fun _ => Yd.move rfl) rfl ?_
    refine J.s_op_g rfl rfl rfl rfl (fun _ => Yd.move rfl) rfl ?_
    refine J.s_op_g rfl rfl rfl rfl (fun _ => Yd.move rfl) rfl ?_
    refine J.s_op_g rfl rfl rfl rfl (fun _ => Yd.move rfl) rfl ?_
    refine J.s_op_g rfl rfl rfl rfl (fun _ => Yd.move rfl) rfl ?_
    refine J.s_op_g rfl rfl rfl rfl (fun _ => Yd.move rfl) rfl ?_
    refine J.s_op_g rfl rfl rfl rfl (fun _ => Yd.move rfl) rfl ?_
    refine J.s_nil ?_
    refine J.o_op_g rfl rfl rfl rfl (Yd.slcH Try.underlying22 ti5 rfl (Rd.ext ht e0) rfl (by first | omega | assumption | (simp only [List.length_append, List.length_map, List.flatten_cons, List.flatten_nil, List.append_nil, List.length_drop, List.length_take, List.length_replicate, beN_len, macL_len, tagL_len, skQ_len, Int.toNat_natCast, List.length_nil, List.length_cons] <;> omega) | (simp [skQ_len] <;> omega))) rfl ?_
    refine J.o_op_g rfl rfl rfl rfl (Yd.slcL Try.underlying22 ti5 rfl (Rd.ext ht e0) rfl (by first | omega | assumption | (simp only [List.length_append, List.length_map, List.flatten_cons, List.flatten_nil, List.append_nil, List.length_drop, List.length_take, List.length_replicate, beN_len, macL_len, tagL_len, skQ_len, Int.toNat_natCast, List.length_nil, List.length_cons] <;> omega) | (simp [skQ_len] <;> omega))) rfl ?_
    refine J.o_eff_g rfl rfl rfl rfl (Ye.call cl26 rfl (Tag_ok (BoxP.ext hB0 e0) (Rd.ext ho e0) (Rd.ext hd e0) (Bs.slc (Rd.ext ht e0) (by first | omega | assumption | (simp only [List.length_append, List.length_map, List.flatten_cons, List.flatten_nil, List.append_nil, List.length_drop, List.length_take, List.length_replicate, beN_len, macL_len, tagL_len, skQ_len, Int.toNat_natCast, List.length_nil, List.length_cons] <;> omega) | (simp [skQ_len] <;> omega)) (by first | omega | assumption | (simp only [List.length_append, List.length_map, List.flatten_cons, List.flatten_nil, List.append_nil, List.length_drop, List.length_take, List.length_replicate, beN_len, macL_len, tagL_len, skQ_len, Int.toNat_natCast, List.length_nil, List.length_cons] <;> omega) | (simp [skQ_len] <;> omega))) (by first | omega | assumption | (simp only [List.length_append, List.length_map, List.flatten_cons, List.flatten_nil, List.append_nil, List.length_drop, List.length_take, List.length_replicate, beN_len, macL_len, tagL_len, skQ_len, Int.toNat_natCast, List.length_nil, List.length_cons] <;> omega) | (simp [skQ_len] <;> omega)) (by first | omega | assumption | (simp only [List.length_append, List.length_map, List.flatten_cons, List.flatten_nil, List.append_nil, List.length_drop, List.length_take, List.length_replicate, beN_len, macL_len, tagL_len, skQ_len, Int.toNat_natCast, List.length_nil, List.length_cons] <;> omega) | (simp [skQ_len] <;> omega)) (by first | omega | assumption | (simp only [List.length_append, List.length_map, List.flatten_cons, List.flatten_nil, List.append_nil, List.length_drop, List.length_take, List.length_replicate, beN_len, macL_len, tagL_len, skQ_len, Int.toNat_natCast, List.length_nil, List.length_cons] <;> omega) | (simp [skQ_len] <;> omega)))) rfl (fun _ _ h => h.2) ?_
    rintro s32_2 w2 ⟨os32_2, x1⟩
    have fr_s32_2 : Fr w.heap.size s32_2.ownBlock := Fr.le (Ow.fr os32_2) e0.size
    replace os32_2 := Ow.base os32_2 e0.size
    have e0 := e0.trans x1
    clear x1
    refine J.o_nil ?_
    refine J.s_eff_g rfl rfl rfl rfl (Ye.call cl27 rfl (Equal_ok (Ow.rd os32_2) (Bs.slc (Rd.ext ht e0) (by first | omega | assumption | (simp only [List.length_append, List.length_map, List.flatten_cons, List.flatten_nil, List.append_nil, List.length_drop, List.length_take, List.length_replicate, beN_len, macL_len, tagL_len, skQ_len, Int.toNat_natCast, List.length_nil, List.length_cons] <;> omega) | (simp [skQ_len] <;> omega)) (by first | omega | assumption | (simp only [List.length_append, List.length_map, List.flatten_cons, List.flatten_nil, List.append_nil, List.length_drop, List.length_take, List.length_replicate, beN_len, macL_len, tagL_len, skQ_len, Int.toNat_natCast, List.length_nil, List.length_cons] <;> omega) | (simp [skQ_len] <;> omega))))) rfl ?_
    rintro _ w3 ⟨rfl, x1⟩
    have e0 := e0.trans x1
    have os32_2 := os32_2.ext x1
    clear x1
    refine J.s_op_g rfl rfl rfl rfl (fun _ => Yd.not_dec rfl) rfl ?_
    refine J.s_op rfl (fun _ => Yd.pick_f rfl rfl) rfl ?_
    refine J.s_nil ?_
    refine J.n_np ?_
    refine J.n_then ?_
    refine J.cond_dec rfl (fun hc1 => ?_) (fun hc1 => ?_)
    · skip
      have hbad : badB key nonce data text := .inr (by rw [List.drop_zero, hLM, hE] at hc1; exact hc1)
      refine J.seq ?_
      refine J.region ?_
      refine J.op (Yd.assign rfl) rfl ?_
      refine J.op (Yd.assign rfl) rfl ?_
      refine J.nil ?_
      refine J.n_then ?_
      refine J.ret ?_
      refine J.r_then ?_
      exact J.ret2 rfl rfl rfl (⟨_, rfl, _, (by rw [opE_bad hm0 hbad]), (by rw [opQ_no (by rw [opE_bad hm0 hbad]; decide)]; exact Rd.nilM _ _), e0⟩)
    · skip
      have hgood : ¬ badB key nonce data text := fun h => by rcases h with h | h; omega; rw [List.drop_zero, hLM, hE] at hc1; exact hc1 h
      refine J.skip ?_
      refine J.n_then ?_
      refine J.seq ?_
      refine J.regionO [(0, true), (1, true), (2, true), (4, true), (5, true), (6, true)] [(3, 1), (7, 1)] [(8, false), (9, true), (10, true), (11, true), (12, true)] mix (by kernel_rfl) ?_
      refine J.s_op rfl (fun _ => Yd.move rfl) rfl ?_
      refine J.s_op rfl (fun _ => Yd.nilCheck rfl) rfl ?_
      refine J.s_op rfl (fun _ => Yd.cast (Yd.fieldA Try.underlying46 rfl ti22 rfl rfl) (show _ = Value.pointer (some ⟨b, 0, none⟩) from rfl)) rfl ?_
      refine J.s_op rfl (fun _ => Yd.move rfl) rfl ?_
      refine J.s_op rfl (fun _ => Yd.move rfl) rfl ?_
      refine J.s_op rfl (fun _ => Yd.move rfl) rfl ?_
      refine J.s_nil ?_
      refine J.o_op rfl (Yd.load pl22 rfl (Cel.cell1 (Cel.ext hc e0) 0 rfl)) rfl ?_
      refine J.o_op rfl (Yd.slcH Try.underlying22 ti5 rfl (Rd.ext ht e0) rfl (by first | omega | assumption | (simp only [List.length_append, List.length_map, List.flatten_cons, List.flatten_nil, List.append_nil, List.length_drop, List.length_take, List.length_replicate, beN_len, macL_len, tagL_len, skQ_len, Int.toNat_natCast, List.length_nil, List.length_cons] <;> omega) | (simp [skQ_len] <;> omega))) rfl ?_
      refine J.o_nil ?_
      refine J.s_eff rfl (Ye.call cl25 rfl (CryptO_ok (Rd.ext hs e0) (Rd.ext ho e0) (Bs.slc (Rd.ext ht e0) (by first | omega | assumption | (simp only [List.length_append, List.length_map, List.flatten_cons, List.flatten_nil, List.append_nil, List.length_drop, List.length_take, List.length_replicate, beN_len, macL_len, tagL_len, skQ_len, Int.toNat_natCast, List.length_nil, List.length_cons] <;> omega) | (simp [skQ_len] <;> omega)) (by first | omega | assumption | (simp only [List.length_append, List.length_map, List.flatten_cons, List.flatten_nil, List.append_nil, List.length_drop, List.length_take, List.length_replicate, beN_len, macL_len, tagL_len, skQ_len, Int.toNat_natCast, List.length_nil, List.length_cons] <;> omega) | (simp [skQ_len] <;> omega))))) rfl ?_
      rintro _ w4 ⟨s47_4, rfl, os47_4, x1⟩
      have ap_s32_2_s47_4 : Ap s32_2.ownBlock s47_4.ownBlock := Ap.mk (Ow.live os32_2) (Ow.fr os47_4)
      have fr_s47_4 : Fr w.heap.size s47_4.ownBlock := Fr.le (Ow.fr os47_4) e0.size
      replace os47_4 := Ow.base os47_4 e0.size
      have e0 := e0.trans x1
      have os32_2 := os32_2.ext x1
      clear x1
      refine J.s_op rfl (fun _ => Yd.extract rfl rfl) rfl ?_
      refine J.s_op rfl (fun _ => Yd.extract rfl rfl) rfl ?_
      refine J.s_op rfl (fun _ => Yd.assign rfl) rfl ?_
      refine J.s_op rfl (fun _ => Yd.assign rfl) rfl ?_
      refine J.s_nil ?_
      refine J.n_np ?_
      refine J.n_then ?_
      refine J.ret ?_
      exact J.ret2 rfl rfl rfl (⟨_, rfl, s47_4, (by rw [opE_ok hm0 hgood, show cryE ((skQ key).take 32) nonce _ = 0 from seC_ok hm3.1 (by simp only [List.length_drop, List.length_take, List.length_map]; omega)]; try rfl), (by rw [opQ_yes (opE_ok hm0 hgood)]; have h9 := Ow.rd os47_4; rw [List.drop_zero, hE] at h9; exact h9), e0⟩)

theorem BOpen_ok {b : Nat} {u v z : Value} {key nonce data text : List UInt8} {w : World} (hB : BoxP 46 64 62 5 w b key) (ho : Bs w u nonce) (hd : Bs w v data) (ht : Bs w z text) : C Try.prog 14 [.pointer (some ⟨b, 0, none⟩), u, v, z] w (Ret fun x w' => ∃ s, x = .tuple #[s, I (opE key nonce data text)] ∧ Bs w' s (opQ key nonce data text) ∧ Ext w w') := by
  by_cases hsh : text.length < 32
  · exact BOpen_short hB ho hd ht hsh
  · exact BOpen_long hB ho hd ht hsh

theorem BOpenNil_ok {u v z : Value} {w : World} : C Try.prog 14 [.pointer none, u, v, z] w (Ret fun v w' => v = .tuple #[nilS, I 1] ∧ Ext w w') := by
  have e0 := Ext.refl w
  refine C.enter Try.func14 rfl Try.ntmps14 rfl ?_
  refine J.seq ?_
  refine J.region ?_
  refine J.op (Yd.assign rfl) rfl ?_
  refine J.op (Yd.assign rfl) rfl ?_
  refine J.nil ?_
  refine J.n_then ?_
  refine J.seq ?_
  refine J.seq ?_
  refine J.region ?_
  refine J.op (Yd.move rfl) rfl ?_
  refine J.op (Yd.move rfl) rfl ?_
  refine J.op (Yd.move rfl) rfl ?_
  refine J.op (Yd.move rfl) rfl ?_
  refine J.eff (Ye.call cl24 rfl (MayNil_ok)) rfl ?_
  rintro _ w1 ⟨rfl, x1⟩
  have e0 := e0.trans x1
  clear x1
  refine J.op (Yd.assign rfl) rfl ?_
  refine J.nil ?_
  refine J.n_then ?_
  refine J.seq ?_
  refine J.region ?_
  refine J.op (Yd.move rfl) rfl ?_
  refine J.op (Yd.neq rfl rfl) rfl ?_
  refine J.nil ?_
  refine J.n_then ?_
  refine J.know (t := 18) (v' := .bool true) rfl (tt (by decide)) ?_
  refine J.cond_true rfl ?_
  refine J.seq ?_
  refine J.region ?_
  refine J.op (Yd.move rfl) rfl ?_
  refine J.op (Yd.assign rfl) rfl ?_
  refine J.op (Yd.assign rfl) rfl ?_
  refine J.nil ?_
  refine J.n_then ?_
  refine J.ret ?_
  refine J.r_then ?_
  exact J.ret2 rfl rfl rfl (⟨_, rfl, rfl, e0⟩)
end Ytpkpicnldpbomaa
end Go.Proofs
