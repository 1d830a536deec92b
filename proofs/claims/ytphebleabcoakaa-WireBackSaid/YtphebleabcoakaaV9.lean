import Derived.Test.YtphebleabcoakaaT
import Derived.Test.YtphebleabcoakaaV8
set_option linter.unusedVariables false
set_option linter.unusedSimpArgs false
set_option maxRecDepth 100000
set_option maxHeartbeats 4000000
namespace Go.Proofs
open Go.X Go.RowKit
namespace Ytphebleabcoakaa
theorem Back1_ok {K : Nat → Prop} {br b1 b6 : Nat} {s : Value} {es : List X.Item} {w : World} (hrd : Rdr 61 K w br (es.flatMap wF)) (h1 : Cel w b1 30 [(0, 1, [s])]) (h6 : Cel w b6 4 [(0, 1, [.bool true])]) (a1r : Ap (some b1) (some br)) (a16 : Ap (some b1) (some b6)) (a6r : Ap (some b6) (some br)) (hO : Out K (some b6)) (hes : ∀ w', Tn [some br, some b6] w w' → Er itS w' s es) (hq : ∀ w', Tn [some br, some b6] w w' → ∀ u ∈ es, itQ w' u) (hm : wts es ≤ 2000) : C Try.prog 17 [.pointer (some ⟨br, 0, none⟩), .pointer (some ⟨b1, 0, none⟩), .pointer (some ⟨b6, 0, none⟩)] w (Ret fun _ w' => Cel w' b6 4 [(0, 1, [.bool true])] ∧ Rdr 61 K w' br [] ∧ Tn [some br, some b6] w w') := by
  have hmx := (hes _ (Tn.refl _ _)).max
  have e0 := Tn.refl [(some br), (some b6)] w
  refine C.enter Try.func17 rfl Try.ntmps17 rfl ?_
  refine J.seq ?_
  refine J.region ?_
  refine J.op (Yd.assign rfl) rfl ?_
  refine J.nil ?_
  refine J.n_then ?_
  refine J.block ?_
  refine J.loop (ι := Nat) (fun i => [(4, I (i : Int)), (0, .pointer (some ⟨br, 0, none⟩)), (1, .pointer (some ⟨b1, 0, none⟩)), (2, .pointer (some ⟨b6, 0, none⟩))]) (fun i w' => i ≤ es.length ∧ Rdr 61 K w' br ((es.drop i).flatMap wF) ∧ Cel w' b1 30 [(0, 1, [s])] ∧ Cel w' b6 4 [(0, 1, [.bool true])] ∧ Tn [(some br), (some b6)] w w') (fun i => es.length - i) (0) ⟨rfl, rfl, rfl, rfl, trivial⟩ (⟨Nat.zero_le _, hrd, h1, h6, e0⟩) ?_
  rintro i w1 ⟨hk, hrd, h1, h6, e0⟩
  have hwd := wFd_len es (i + 1)
  refine J.seq ?_
  refine J.seq ?_
  refine J.region ?_
  refine J.op (Yd.move rfl) rfl ?_
  refine J.op (Yd.load pl30 rfl (Cel.cell1 h1 0 rfl)) rfl ?_
  refine J.op (Yd.lenE (K := itS) Try.underlying30 rfl (hes _ e0)) rfl ?_
  refine J.op (Yd.lss rfl rfl) rfl ?_
  refine J.nil ?_
  refine J.n_then ?_
  refine J.cond_dec rfl (fun hc0 => ?_) (fun hc0 => ?_)
  · skip
    have hwt := wt_le (es := es) (i := i) (by omega)
    refine J.skip ?_
    refine J.n_then ?_
    refine J.seq ?_
    refine J.block ?_
    refine J.region ?_
    refine J.op (Yd.move rfl) rfl ?_
    refine J.op (Yd.load pl30 rfl (Cel.cell1 h1 0 rfl)) rfl ?_
    refine J.op (Yd.move rfl) rfl ?_
    refine J.op (Yd.idxE (K := itS) Try.underlying30 ti40 rfl rfl (hes _ e0) (by first | omega | exact idx_u8' _ | (simp only [Int.toNat_natCast]; omega) | (simp only [List.length_map, List.length_drop, List.length_take, List.length_append, List.length_replicate]; omega) | (simp <;> omega))) rfl ?_
    refine J.op (Yd.loadEd (K := itS) itD ag40 ti40 rfl (hes _ e0) (by first | omega | exact idx_u8' _ | (simp only [Int.toNat_natCast]; omega) | (simp only [List.length_map, List.length_drop, List.length_take, List.length_append, List.length_replicate]; omega) | (simp <;> omega))) rfl ?_
    refine J.eff (Ye.call cl18 rfl (ReadIt_ok (x := es.getD (i : Int).toNat itD) (r := (es.drop (i + 1)).flatMap wF) (by rw [wF_drop (by omega)] at hrd; rw [Int.toNat_natCast]; exact hrd) (fun w' ht => hq _ (Tn.tnk e0 (fun q hq => by simp only [List.mem_singleton] at hq; subst hq; exact .inl (by simp)) ht) _ (it_mem (show (i : Int).toNat < es.length by omega))) (by rw [Int.toNat_natCast]; omega) (by omega))) rfl ?_
    rintro _ w2 ⟨rfl, hr2, x1⟩
    have h1 := Cel.tnk h1 x1 (ApL.one a1r)
    have h6 := Cel.tnk h6 x1 (ApL.one a6r)
    have e0 := Tn.tnk e0 (fun q hq => by simp only [List.mem_singleton] at hq; subst hq; exact .inl (by simp)) x1
    clear x1
    replace hrd := hr2
    clear hr2
    refine J.op (Yd.move rfl) rfl ?_
    refine J.op_g rfl rfl rfl (Yd.load pl4 rfl (Cel.cell1 h6 0 rfl)) rfl ?_
    refine J.op (Yd.pick_t rfl rfl) rfl ?_
    refine J.eff0 (Ye.store1 ti4 h6 0 rfl rfl rfl rfl rfl rfl) ?_
    rintro _ w3 ⟨cX, hu⟩
    simp only [List.set_cons_zero, List.set_cons_succ] at cX
    have hg := hu.gb
    have h1 := Cel.gbk h1 hg a16
    have hrd := Rdr.gbk hrd hg hO
    have e0 := Tn.gbk e0 (.inl (by simp)) hg
    clear hg
    replace h6 := cX
    clear cX hu
    refine J.nil ?_
    refine J.n_block ?_
    refine J.n_then ?_
    refine J.region ?_
    refine J.op (Yd.move rfl) rfl ?_
    refine J.op (Yd.add rfl rfl (by first | omega | exact idx_u8' _ | (simp only [Int.toNat_natCast]; omega) | (simp only [List.length_map, List.length_drop, List.length_take, List.length_append, List.length_replicate]; omega) | (simp <;> omega))) rfl ?_
    refine J.op (Yd.assign rfl) rfl ?_
    refine J.nil ?_
    refine J.n_then ?_
    exact J.round (i + 1) ⟨rfl, rfl, rfl, rfl, trivial⟩ (⟨by omega, hrd, h1, h6, e0⟩) (by omega)
  · skip
    refine J.exit ?_
    refine J.x_then ?_
    refine J.x_then ?_
    refine J.x_block ?_
    exact J.end0 rfl (⟨_, rfl, h6, (by rw [show i = es.length by omega, List.drop_length] at hrd; exact hrd), e0⟩)

theorem Back2_ok {K : Nat → Prop} {br b1 : Nat} {s : Value} {r : List UInt8} {es : List X.Item} {w : World} (hrd : Rdr 61 K w br (es.flatMap wF ++ r)) (h1 : Cel w b1 30 [(0, 1, [s])]) (a1r : Ap (some b1) (some br)) (hes : ∀ w', Tn [some br] w w' → Er itS w' s es) (hq : ∀ w', Tn [some br] w w' → ∀ u ∈ es, itQ w' u) (hm : wts es ≤ 2000) (hl : r.length ≤ 10) : C Try.prog 19 [.pointer (some ⟨br, 0, none⟩), .pointer (some ⟨b1, 0, none⟩)] w (Ret fun _ w' => Rdr 61 K w' br r ∧ Tn [some br] w w') := by
  have hmx := (hes _ (Tn.refl _ _)).max
  have e0 := Tn.refl [(some br)] w
  refine C.enter Try.func19 rfl Try.ntmps19 rfl ?_
  refine J.seq ?_
  refine J.region ?_
  refine J.op (Yd.assign rfl) rfl ?_
  refine J.nil ?_
  refine J.n_then ?_
  refine J.block ?_
  refine J.loop (ι := Nat) (fun i => [(3, I (i : Int)), (0, .pointer (some ⟨br, 0, none⟩)), (1, .pointer (some ⟨b1, 0, none⟩))]) (fun i w' => i ≤ es.length ∧ Rdr 61 K w' br ((es.drop i).flatMap wF ++ r) ∧ Cel w' b1 30 [(0, 1, [s])] ∧ Tn [(some br)] w w') (fun i => es.length - i) (0) ⟨rfl, rfl, rfl, trivial⟩ (⟨Nat.zero_le _, hrd, h1, e0⟩) ?_
  rintro i w1 ⟨hk, hrd, h1, e0⟩
  have hwd := wFd_len es (i + 1)
  refine J.seq ?_
  refine J.seq ?_
  refine J.region ?_
  refine J.op (Yd.move rfl) rfl ?_
  refine J.op (Yd.load pl30 rfl (Cel.cell1 h1 0 rfl)) rfl ?_
  refine J.op (Yd.lenE (K := itS) Try.underlying30 rfl (hes _ e0)) rfl ?_
  refine J.op (Yd.lss rfl rfl) rfl ?_
  refine J.nil ?_
  refine J.n_then ?_
  refine J.cond_dec rfl (fun hc0 => ?_) (fun hc0 => ?_)
  · skip
    have hwt := wt_le (es := es) (i := i) (by omega)
    refine J.skip ?_
    refine J.n_then ?_
    refine J.seq ?_
    refine J.block ?_
    refine J.region ?_
    refine J.op (Yd.move rfl) rfl ?_
    refine J.op (Yd.load pl30 rfl (Cel.cell1 h1 0 rfl)) rfl ?_
    refine J.op (Yd.move rfl) rfl ?_
    refine J.op (Yd.idxE (K := itS) Try.underlying30 ti40 rfl rfl (hes _ e0) (by first | omega | exact idx_u8' _ | (simp only [Int.toNat_natCast]; omega) | (simp only [List.length_map, List.length_drop, List.length_take, List.length_append, List.length_replicate]; omega) | (simp <;> omega))) rfl ?_
    refine J.op (Yd.loadEd (K := itS) itD ag40 ti40 rfl (hes _ e0) (by first | omega | exact idx_u8' _ | (simp only [Int.toNat_natCast]; omega) | (simp only [List.length_map, List.length_drop, List.length_take, List.length_append, List.length_replicate]; omega) | (simp <;> omega))) rfl ?_
    refine J.eff (Ye.call cl18 rfl (ReadIt_ok (x := es.getD (i : Int).toNat itD) (r := (es.drop (i + 1)).flatMap wF ++ r) (by rw [wF_drop (by omega), List.append_assoc] at hrd; rw [Int.toNat_natCast]; exact hrd) (fun w' ht => hq _ (Tn.tnk e0 (fun q hq => by simp only [List.mem_singleton] at hq; subst hq; exact .inl (by simp)) ht) _ (it_mem (show (i : Int).toNat < es.length by omega))) (by rw [Int.toNat_natCast]; omega) (by rw [List.length_append]; omega))) rfl ?_
    rintro _ w2 ⟨rfl, hr2, x1⟩
    have h1 := Cel.tnk h1 x1 (ApL.one a1r)
    have e0 := Tn.tnk e0 (fun q hq => by simp only [List.mem_singleton] at hq; subst hq; exact .inl (by simp)) x1
    clear x1
    replace hrd := hr2
    clear hr2
    refine J.nil ?_
    refine J.n_block ?_
    refine J.n_then ?_
    refine J.region ?_
    refine J.op (Yd.move rfl) rfl ?_
    refine J.op (Yd.add rfl rfl (by first | omega | exact idx_u8' _ | (simp only [Int.toNat_natCast]; omega) | (simp only [List.length_map, List.length_drop, List.length_take, List.length_append, List.length_replicate]; omega) | (simp <;> omega))) rfl ?_
    refine J.op (Yd.assign rfl) rfl ?_
    refine J.nil ?_
    refine J.n_then ?_
    exact J.round (i + 1) ⟨rfl, rfl, rfl, trivial⟩ (⟨by omega, hrd, h1, e0⟩) (by omega)
  · skip
    refine J.exit ?_
    refine J.x_then ?_
    refine J.x_then ?_
    refine J.x_block ?_
    exact J.end0 rfl (⟨_, rfl, (by rw [show i = es.length by omega, List.drop_length, List.flatMap_nil, List.nil_append] at hrd; exact hrd), e0⟩)
end Ytphebleabcoakaa
end Go.Proofs
