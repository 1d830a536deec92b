/-
  The law SkipPlays is proved for every input: whatever is put in, taken out and forgotten, each call answers, and the store is written, as the document says; read again it is the same, and goes on so.
  Conditions: none beyond the given row's own: whatever the arguments that can be read as data.
-/
import Derived.Test.YtfefphcmfhabiaaRows
import Derived.Test.YtfefphcmfhabiaaR2
import Derived.Test.YtfefphcmfhabiaaB12
import Derived.KernelRfl
set_option linter.unusedVariables false
namespace Go.Proofs.Ytfefphcmfhabiaa.lawSkipPlays
open Go.X Go.ChangeShapes Go.WideShapes Go.ChangeAt Go.RowKit
open Go.ChangeMaps (open_string shut_string)
theorem own : ownKnob Try.prog.godebug = none := by kernel_rfl
theorem laidOut : laidOutB Try.prog = true := by kernel_rfl
set_option maxRecDepth 100000 in
theorem lifted (os : Os) (started : os.Started) (H : Type) (enc : TypeId × Value → H) :
    ReturnsInHanded {} Try.checked os 7 .any (Rows.skipPlaysSpec.pre6 enc Try.prog Try.f7 Rows.skipPlaysRow.domain false) (Rows.skipPlaysSpec.post enc Try.prog Try.f7 false true false false) := by
  refine returnsInHanded_of_change (C := Try.checked) own started (by kernel_rfl) Try.func7
    (ChangeSpec.witness6 (enc := enc) (C := Try.checked) false ⟨#[], #[.int .i64 0, .slice none 0 0, .slice none 0 0], []⟩ 8 (by kernel_rfl) (by kernel_rfl) (by kernel_rfl) (by kernel_rfl)) ?_
  intro W base args ds gs before hval0 hW hcnd _
  have hval : ∀ (j : Nat) t v, Try.f7.params[j]? = some t → args[j]? = some v → Value.okWide Try.prog W .any base t v := hval0
  have hW' := hW
  obtain ⟨p, q, hA0, hV, rfl, hfz, hnd⟩ := hW
  have hA : DataW.TrodAll enc Try.prog W 0 (fun _ => true) true Try.f7.params.toList args.toList ds p := hA0
  rw [Try.params7] at hA hval
  obtain ⟨v0, vs0, d0, ds0, p0, q0, hargs, rfl, rfl, k0, r0⟩ := trodAll_cons hA
  obtain ⟨v1, vs1, d1, ds1, p1, q1, rfl, rfl, rfl, k1, r1⟩ := trodAll_cons r0
  obtain ⟨v2, vs2, d2, ds2, p2, q2, rfl, rfl, rfl, k2, r2⟩ := trodAll_cons r1
  obtain ⟨rfl, rfl, rfl⟩ := trodAll_nil r2
  obtain rfl : args = #[v0, v1, v2] := by cases args; simp_all
  obtain ⟨rfl, rfl⟩ := trodVars_none hV
  obtain ⟨x0, rfl, rfl, rfl, w0⟩ := open_int Try.underlying3 (hval 0 3 v0 rfl rfl) k0
  have b0 := bounds_i64 w0
  obtain ⟨a1, len1, cap1, rfl⟩ := okWide_slice Try.underlying48 (hval 1 48 v1 rfl rfl)
  have lt1 : ∀ x ∈ p1, x.block < W.heap.size := by obtain ⟨m, hm⟩ := k1; exact DataW.trod_lt m _ _ _ hm
  obtain ⟨x1, h1, b1⟩ : ∃ es : List (Int × Int × Int × Value), Er pcS' W (.slice a1 len1 cap1) es ∧ ∀ u ∈ es, (fun u => ∃ l : List UInt8, Bs W u.2.2.2 l) u := by
    obtain ⟨fuel, hf⟩ := k1
    exact rows_open Try.underlying48 (by kernel_rfl) (fun cs n y h => by obtain ⟨u, l, h1, h2, _⟩ := (piece_open (e := 52) Try.underlying52 rfl rfl rfl rfl (by kernel_rfl) (by kernel_rfl) (by kernel_rfl) (by kernel_rfl) (by kernel_rfl) Try.underlying3 Try.underlying3 Try.underlying3 Try.underlying29 Try.underlying5 (by kernel_rfl)) h; exact ⟨u, h1, l, h2⟩) rfl hf
  obtain ⟨a2, len2, cap2, rfl⟩ := okWide_slice Try.underlying48 (hval 2 48 v2 rfl rfl)
  have lt2 : ∀ x ∈ p2, x.block < W.heap.size := by obtain ⟨m, hm⟩ := k2; exact DataW.trod_lt m _ _ _ hm
  obtain ⟨x2, h2, b2⟩ : ∃ es : List (Int × Int × Int × Value), Er pcS' W (.slice a2 len2 cap2) es ∧ ∀ u ∈ es, (fun u => ∃ l : List UInt8, Bs W u.2.2.2 l) u := by
    obtain ⟨fuel, hf⟩ := k2
    exact rows_open Try.underlying48 (by kernel_rfl) (fun cs n y h => by obtain ⟨u, l, h1, h2, _⟩ := (piece_open (e := 52) Try.underlying52 rfl rfl rfl rfl (by kernel_rfl) (by kernel_rfl) (by kernel_rfl) (by kernel_rfl) (by kernel_rfl) Try.underlying3 Try.underlying3 Try.underlying3 Try.underlying29 Try.underlying5 (by kernel_rfl)) h; exact ⟨u, h1, l, h2⟩) rfl hf
  clear hA0 hval0
  have hwalk := Plays_ok (n := x0) (es1 := x1) (es2 := x2) h1 b1 h2 b2 W (Same.refl W)
  refine hwalk.mono fun e W' ⟨wZ, hsZ, uZ, heZ, huZ, hxZ⟩ => ?_
  subst heZ; subst huZ
  have bel : Below W.heap.size W W' := (hxZ.trans hsZ.ext).below
  exact ⟨_, rfl, _, _, _, [], _, [], hW', trodAll_mk1 (shut_bool Try.underlying4 _), (trodAll_cons_mk (shut_int Try.underlying3 w0) (trodAll_cons_mk (Below.trod laidOut (by kernel_rfl) (of_decide_eq_true (by kernel_rfl)) k1 bel lt1) (trodAll_cons_mk (Below.trod laidOut (by kernel_rfl) (of_decide_eq_true (by kernel_rfl)) k2 bel lt2) trodAll_mk0))), rfl, bel.frame _, fun h => by cases h⟩

theorem proved : Rows.SkipPlaysSaid :=
  OpenClaim.holds_of_wide 7 Try.f7 rfl rfl rfl rfl rfl rfl rfl ⟨rfl, rfl, rfl, rfl, rfl⟩ rfl rfl rfl rfl rfl (by kernel_rfl) Try.func7 (by kernel_rfl)
    (of_decide_eq_true (by kernel_rfl)) (by unfold Func.isWrapper; first | (rw [if_pos (by decide +kernel)]; kernel_rfl) | (rw [if_neg (by decide +kernel)]; exact ⟨rfl, rfl⟩))
    (fun os started H enc _ => lifted os started H enc)
#print axioms proved
end Go.Proofs.Ytfefphcmfhabiaa.lawSkipPlays
