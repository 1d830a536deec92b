import Derived.Test.YtipbmjbdmpcgoaaT
import Derived.Test.YtipbmjbdmpcgoaaPy
import Derived.Test.YtipbmjbdmpcgoaaS12
set_option linter.unusedVariables false
set_option linter.unusedSimpArgs false
set_option maxRecDepth 100000
set_option maxHeartbeats 4000000
namespace Go.Proofs
open Go.X Go.RowKit
namespace Ytipbmjbdmpcgoaa
theorem awake_ok {w : World} : C Try.prog 8 [] w (Ret fun v w' => v = .bool true ∧ Ext w w') := by
  have e0 := Ext.refl w
  refine C.enter Try.func8 rfl Try.ntmps8 rfl ?_
  refine J.seq ?_
  refine J.region ?_
  refine J.op (Yd.assign rfl) rfl ?_
  refine J.nil ?_
  refine J.n_then ?_
  refine J.seq ?_
  refine J.region ?_
  refine J.eff (Ye.litM (base := w.heap.size) (f := fun x : UInt8 => B x) ([97, 98] : List UInt8) Try.underlying25 ti5 rfl rfl rfl rfl (fun _ => rfl) rfl (Nat.le_refl _)) rfl ?_
  rintro s3_1 w1 ⟨o3_1, x1⟩
  have fr_s3_1 : Fr w.heap.size s3_1.ownBlock := Fr.le (Ow.fr o3_1) e0.size
  replace o3_1 := Ow.base o3_1 e0.size
  have e0 := e0.trans x1
  clear x1
  refine J.eff (Ye.mark Try.underlying25 Try.underlying25 (by decide) Try.underlying5 rfl o3_1 (by decide)) rfl ?_
  rintro u_ w2 ⟨hu_, r4_2, hg⟩
  rw [hu_]; clear hu_
  have e0 := Ext.gbk e0 fr_s3_1 hg
  clear hg
  refine J.eff (Ye.litM (base := w2.heap.size) (f := fun x : UInt8 => B x) ([99] : List UInt8) Try.underlying25 ti5 rfl rfl rfl rfl (fun _ => rfl) rfl (Nat.le_refl _)) rfl ?_
  rintro s5_3 w3 ⟨o5_3, x1⟩
  have ap_s3_1_s5_3 : Ap s3_1.ownBlock s5_3.ownBlock := Ap.mk r4_2.live (Ow.fr o5_3)
  have fr_s5_3 : Fr w.heap.size s5_3.ownBlock := Fr.le (Ow.fr o5_3) e0.size
  replace o5_3 := Ow.base o5_3 e0.size
  have e0 := e0.trans x1
  have r4_2 := r4_2.ext x1
  clear x1
  refine J.eff (Ye.mark Try.underlying25 Try.underlying25 (by decide) Try.underlying5 rfl o5_3 (by decide)) rfl ?_
  rintro u_ w4 ⟨hu_, r6_4, hg⟩
  rw [hu_]; clear hu_
  have r4_2 := Rv.gbk r4_2 hg ap_s3_1_s5_3
  have e0 := Ext.gbk e0 fr_s5_3 hg
  clear hg
  refine J.eff (Ye.litS2 Try.underlying22 ti25 rfl rfl rfl r4_2.rd r6_4.rd) rfl ?_
  rintro s7_5 w5 ⟨o7_5, x1⟩
  have e0 := e0.trans x1
  have r4_2 := r4_2.ext x1
  have r6_4 := r6_4.ext x1
  clear x1
  refine J.eff (Ye.call cl10 rfl (Sum256_ok o7_5 (by first | omega | (simp only [Int.toNat_natCast]; omega) | (simp <;> omega)))) rfl ?_
  rintro s8_6 w6 ⟨os8_6, x1⟩
  have ap_s3_1_s8_6 : Ap s3_1.ownBlock s8_6.ownBlock := Ap.mk r4_2.live (Ow.fr os8_6)
  have ap_s5_3_s8_6 : Ap s5_3.ownBlock s8_6.ownBlock := Ap.mk r6_4.live (Ow.fr os8_6)
  have fr_s8_6 : Fr w.heap.size s8_6.ownBlock := Fr.le (Ow.fr os8_6) e0.size
  replace os8_6 := Ow.base os8_6 e0.size
  have e0 := e0.trans x1
  have r4_2 := r4_2.ext x1
  have r6_4 := r6_4.ext x1
  have o7_5 := o7_5.ext x1
  clear x1
  refine J.op (Yd.assign rfl) rfl ?_
  refine J.nil ?_
  refine J.n_then ?_
  refine J.seq ?_
  refine J.region ?_
  refine J.eff (Ye.litM (base := w6.heap.size) (f := fun x : UInt8 => B x) ([97, 98, 99] : List UInt8) Try.underlying25 ti5 rfl rfl rfl rfl (fun _ => rfl) rfl (Nat.le_refl _)) rfl ?_
  rintro s9_7 w7 ⟨o9_7, x1⟩
  have ap_s3_1_s9_7 : Ap s3_1.ownBlock s9_7.ownBlock := Ap.mk r4_2.live (Ow.fr o9_7)
  have ap_s5_3_s9_7 : Ap s5_3.ownBlock s9_7.ownBlock := Ap.mk r6_4.live (Ow.fr o9_7)
  have ap_s8_6_s9_7 : Ap s8_6.ownBlock s9_7.ownBlock := Ap.mk (Ow.live os8_6) (Ow.fr o9_7)
  have fr_s9_7 : Fr w.heap.size s9_7.ownBlock := Fr.le (Ow.fr o9_7) e0.size
  replace o9_7 := Ow.base o9_7 e0.size
  have e0 := e0.trans x1
  have r4_2 := r4_2.ext x1
  have r6_4 := r6_4.ext x1
  have o7_5 := o7_5.ext x1
  have os8_6 := os8_6.ext x1
  clear x1
  refine J.eff (Ye.mark Try.underlying25 Try.underlying25 (by decide) Try.underlying5 rfl o9_7 (by decide)) rfl ?_
  rintro u_ w8 ⟨hu_, r10_8, hg⟩
  rw [hu_]; clear hu_
  have r4_2 := Rv.gbk r4_2 hg ap_s3_1_s9_7
  have r6_4 := Rv.gbk r6_4 hg ap_s5_3_s9_7
  have os8_6 := Ow.gbk os8_6 hg ap_s8_6_s9_7
  have e0 := Ext.gbk e0 fr_s9_7 hg
  clear hg
  refine J.eff (Ye.litS1 Try.underlying22 ti25 rfl rfl r10_8.rd) rfl ?_
  rintro s11_9 w9 ⟨o11_9, x1⟩
  have e0 := e0.trans x1
  have r4_2 := r4_2.ext x1
  have r6_4 := r6_4.ext x1
  have os8_6 := os8_6.ext x1
  have r10_8 := r10_8.ext x1
  clear x1
  refine J.eff (Ye.call cl12 rfl (Sum512_ok o11_9 (by first | omega | (simp <;> omega)))) rfl ?_
  rintro s12_10 w10 ⟨os12_10, x1⟩
  have ap_s3_1_s12_10 : Ap s3_1.ownBlock s12_10.ownBlock := Ap.mk r4_2.live (Ow.fr os12_10)
  have ap_s5_3_s12_10 : Ap s5_3.ownBlock s12_10.ownBlock := Ap.mk r6_4.live (Ow.fr os12_10)
  have ap_s8_6_s12_10 : Ap s8_6.ownBlock s12_10.ownBlock := Ap.mk (Ow.live os8_6) (Ow.fr os12_10)
  have ap_s9_7_s12_10 : Ap s9_7.ownBlock s12_10.ownBlock := Ap.mk r10_8.live (Ow.fr os12_10)
  have fr_s12_10 : Fr w.heap.size s12_10.ownBlock := Fr.le (Ow.fr os12_10) e0.size
  replace os12_10 := Ow.base os12_10 e0.size
  have e0 := e0.trans x1
  have r4_2 := r4_2.ext x1
  have r6_4 := r6_4.ext x1
  have os8_6 := os8_6.ext x1
  have r10_8 := r10_8.ext x1
  have o11_9 := o11_9.ext x1
  clear x1
  refine J.op (Yd.assign rfl) rfl ?_
  refine J.nil ?_
  refine J.n_then ?_
  refine J.seq ?_
  refine J.region ?_
  refine J.op (Yd.move rfl) rfl ?_
  refine J.op (Yd.len_b Try.underlying25 rfl (Ow.rd os8_6)) rfl ?_
  refine J.op (Yd.eql rfl rfl) rfl ?_
  refine J.op (Yd.move rfl) rfl ?_
  refine J.know (t := 16) (v' := .bool true) rfl (tt (by simp [sha256L_len])) ?_
  refine J.op_g rfl rfl rfl (Yd.move rfl) rfl ?_
  refine J.op_g rfl rfl rfl (Yd.len_b Try.underlying25 rfl (Ow.rd os12_10)) rfl ?_
  refine J.op_g rfl rfl rfl (Yd.eql rfl rfl) rfl ?_
  refine J.op (Yd.pick_t rfl rfl) rfl ?_
  refine J.op (Yd.move rfl) rfl ?_
  refine J.know (t := 21) (v' := .bool true) rfl (tt (by simp [sha512L_len])) ?_
  refine J.op_g rfl rfl rfl (Yd.move rfl) rfl ?_
  refine J.op_g rfl rfl rfl (Yd.slcH Try.underlying25 ti5 rfl (Ow.rd os8_6) rfl (by first | omega | (simp only [Int.toNat_natCast]; omega) | (simp only [List.length_map, List.length_drop, List.length_take, List.length_append, List.length_replicate]; omega) | (simp [sha256L_len, sha512L_len] <;> omega))) rfl ?_
  refine J.op_g rfl rfl rfl (Yd.bstr Try.underlying25 Try.underlying5 Try.underlying9 rfl (Bs.slc (Ow.rd os8_6) (by first | omega | (simp only [Int.toNat_natCast]; omega) | (simp only [List.length_map, List.length_drop, List.length_take, List.length_append, List.length_replicate]; omega) | (simp [sha256L_len, sha512L_len] <;> omega)) (by first | omega | (simp only [Int.toNat_natCast]; omega) | (simp only [List.length_map, List.length_drop, List.length_take, List.length_append, List.length_replicate]; omega) | (simp [sha256L_len, sha512L_len] <;> omega)))) rfl ?_
  refine J.op_g rfl rfl rfl (Yd.seq rfl rfl) rfl ?_
  refine J.op (Yd.pick_t rfl rfl) rfl ?_
  refine J.op (Yd.move rfl) rfl ?_
  refine J.know (t := 27) (v' := .bool true) rfl (tt (by exact sha_abc256)) ?_
  refine J.op_g rfl rfl rfl (Yd.move rfl) rfl ?_
  refine J.op_g rfl rfl rfl (Yd.slcH Try.underlying25 ti5 rfl (Ow.rd os12_10) rfl (by first | omega | (simp only [Int.toNat_natCast]; omega) | (simp only [List.length_map, List.length_drop, List.length_take, List.length_append, List.length_replicate]; omega) | (simp [sha256L_len, sha512L_len] <;> omega))) rfl ?_
  refine J.op_g rfl rfl rfl (Yd.bstr Try.underlying25 Try.underlying5 Try.underlying9 rfl (Bs.slc (Ow.rd os12_10) (by first | omega | (simp only [Int.toNat_natCast]; omega) | (simp only [List.length_map, List.length_drop, List.length_take, List.length_append, List.length_replicate]; omega) | (simp [sha256L_len, sha512L_len] <;> omega)) (by first | omega | (simp only [Int.toNat_natCast]; omega) | (simp only [List.length_map, List.length_drop, List.length_take, List.length_append, List.length_replicate]; omega) | (simp [sha256L_len, sha512L_len] <;> omega)))) rfl ?_
  refine J.op_g rfl rfl rfl (Yd.seq rfl rfl) rfl ?_
  refine J.op (Yd.pick_t rfl rfl) rfl ?_
  refine J.op (Yd.assign rfl) rfl ?_
  refine J.nil ?_
  refine J.n_then ?_
  refine J.ret ?_
  exact J.ret1 rfl rfl (⟨_, rfl, congrArg Value.bool (decide_eq_true (by exact sha_abc512)), e0⟩)
end Ytipbmjbdmpcgoaa
end Go.Proofs
