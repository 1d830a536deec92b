import Derived.Test.YtghklimejpmpnaaX26
import Derived.RangeFuncIn
import Derived.RangeFuncRecord
import Derived.RangeFuncLeaves
import Derived.RangeFuncSeq
import Derived.RangeFuncOwn
import Derived.TacticsIn
/-
  A range over a function: the rounds, the iterator's calls of yield, the mark at the function's end.
-/
set_option linter.unusedVariables false
set_option linter.unusedSimpArgs false
namespace Go.X
open Go.RowKit
/-- No fence, or a round in it. -/
def fen : Option Nat → Fence
  | none => Fence.wide
  | some l => Fence.wide.inRound l
theorem fen_fn {ro : Option Nat} {f : FuncId} : (fen ro).fn f := by cases ro <;> trivial
theorem fen_depth {ro : Option Nat} : (fen ro).depth.isSome = true → False := by cases ro <;> (intro h; simp [fen, Fence.wide, Fence.inRound] at h)
section
variable {P : Program} {N : Nat} {ds : List Deferred} {σ : Env} {w : World} {Q : Exit → Act → World → Prop} {K : Act → World → Prop} {ops : Array Oper} {rest : List Oper} {ro : Option Nat}
theorem callsIn_fen {f : FuncId} {args : Array Value} {R : Ending → World → Prop} (h : Calls P f args w R) : CallsIn (fen ro) 0 P f args w R := by
  cases ro with
  | none => exact callsIn_wide.2 h
  | some l => exact (callsIn_wide (n := 0)).2 h
theorem rowsIn_fen {row : String} {args : Array Value} {R : Value → World → Prop} (h : Rows P row args w R) : RowsIn (fen ro) 0 P row args w R := fun c cs _ => by
  obtain ⟨v, w', hR, hs⟩ := h c cs
  refine ⟨v, w', hR, ?_⟩
  cases ro with
  | none => exact stepsIn_wide.2 hs
  | some l => exact stepsIn_wide.2 hs
theorem op_in {o : Oper} {a : Act} {next : Act → World → Prop} (hd : ∀ c, o.op ≠ .defer c) (h : Oper.wp P o a w next Q) : Oper.wpIn (fen ro) 0 P o a w next Q := by
  refine ⟨fun f _ => fen_fn, ?_⟩
  rw [Oper.semAt_eq _ _ _ hd]
  unfold Oper.wp at h
  revert h
  generalize (execOp a.eval o).run P w = r
  intro h
  unfold Oper.upon at h
  split at h
  · exact h
  · exact h
  · exact h
  · exact ⟨fun h => (fen_depth h).elim, callsIn_fen h⟩
  · exact ⟨fun h => (fen_depth h).elim, rowsIn_fen h⟩
  · exact h
  · exact h.elim
/-! ### A region in a round -/
def noDefer : Op → Bool
  | .defer _ => false
  | _ => true
theorem noDefer_of {op : Op} (h : noDefer op = true) : ∀ c, op ≠ .defer c := fun c e => by subst e; cases h
theorem J.iregion {id : Nat} {l : List Oper} (h : J N ds σ (wpListIn (fen ro) 0 P l.toArray Q l) w) : J N ds σ ((Code.region id l.toArray false).wpIn (fen ro) 0 P Q) w := fun a w' hf hs => wpIn_region_lit (h a w' hf hs)
theorem J.iblock {id : Nat} {c : Code} (h : J N ds σ (c.wpIn (fen ro) 0 P (Exit.inBlock id Q)) w) : J N ds σ ((Code.block id c).wpIn (fen ro) 0 P Q) w := fun a w' hf hs => wpIn_block (h a w' hf hs)
theorem J.iseq {x y : Code} (h : J N ds σ (x.wpIn (fen ro) 0 P (Exit.then (y.wpIn (fen ro) 0 P Q) Q)) w) : J N ds σ ((Code.seq x y).wpIn (fen ro) 0 P Q) w := fun a w' hf hs => wpIn_seq (h a w' hf hs)
theorem J.wide {c : Code} (h : J N ds σ (c.wpIn (fen none) 0 P Q) w) : J N ds σ (c.wp P Q) w := fun a w' hf hs => wpIn_wide.1 (h a w' hf hs)
theorem J.i_nil (h : J N ds σ (Q .normal) w) : J N ds σ (wpListIn (fen ro) 0 P ops Q []) w := h
theorem J.i_eff {op ty pos after Φ d} (hnd : noDefer op = true) (hy : Ye P σ op ty w Φ) (hd : Nat.blt d N = true) (h : ∀ v w1, Φ v w1 → J N ds ((d, v) :: σ) (wpListIn (fen ro) 0 P ops Q rest) w1) :
    J N ds σ (wpListIn (fen ro) 0 P ops Q (⟨some d, op, ty, pos, after, none⟩ :: rest)) w := fun a w' hf hs => by
  unfold wpListIn
  rw [if_pos (by simp [Region.wanted])]
  exact op_in (noDefer_of hnd) (hy N ds a w' _ _ _ _ _ _ hf hs fun v w3 w2 hp hs2 => h v w3 hp _ _ (hf.put d hd v) hs2)
theorem J.i_eff0 {op ty pos after Φ} (hnd : noDefer op = true) (hy : Ye P σ op ty w Φ) (h : ∀ v w1, Φ v w1 → J N ds σ (wpListIn (fen ro) 0 P ops Q rest) w1) :
    J N ds σ (wpListIn (fen ro) 0 P ops Q (⟨none, op, ty, pos, after, none⟩ :: rest)) w := fun a w' hf hs => by
  unfold wpListIn
  rw [if_pos (by simp [Region.wanted])]
  exact op_in (noDefer_of hnd) (hy N ds a w' _ _ _ _ _ _ hf hs fun v w3 w2 hp hs2 => h v w3 hp _ _ (hf.none v) hs2)
theorem J.i_op {op ty pos after v d} (hnd : noDefer op = true) (hy : Yd P σ op ty v w) (hd : Nat.blt d N = true) (h : J N ds ((d, v) :: σ) (wpListIn (fen ro) 0 P ops Q rest) w) :
    J N ds σ (wpListIn (fen ro) 0 P ops Q (⟨some d, op, ty, pos, after, none⟩ :: rest)) w := J.i_eff hnd hy.ye hd fun _ _ ⟨h1, h2⟩ => by subst h1; subst h2; exact h
/-! ### yield -/
/-- A call of yield goes on, in a world of which Φ tells. -/
def YieldT (P : Program) (lr : Nat) (vs : List Value) (w : World) (Φ : World → Prop) : Prop :=
  ∀ w', Same w w' → YieldAt Fence.wide 0 P lr vs.toArray w' fun e w2 => e = .returned (.bool true) ∧ ∃ w3, Same w3 w2 ∧ Φ w3
theorem J.yield {x args tys ty pos after d lr vs Φ} (hx : ev σ x = some (.func (.yield lr) #[] #[])) (ha : evs σ args.toList = some vs) (hy : YieldT P lr vs w Φ) (hd : Nat.blt d N = true)
    (h : ∀ w1, Φ w1 → J N ds ((d, .bool true) :: σ) (wpListIn (fen none) 0 P ops Q rest) w1) : J N ds σ (wpListIn (fen none) 0 P ops Q (⟨some d, .call ⟨.value x, args, tys⟩, ty, pos, after, none⟩ :: rest)) w := fun a w' hf hs => by
  unfold wpListIn
  rw [if_pos (by simp [Region.wanted])]
  refine ⟨fun f _ => fen_fn, ?_⟩
  have hv : args.map a.eval = vs.toArray := by rw [← hf.evs ha]; apply Array.toList_inj.1; simp
  obtain ⟨fn, tmps, assign, body, hrun, hR⟩ := hy w' hs
  rw [Oper.semAt_eq _ _ _ (fun c e => by cases e)]
  rw [show (execOp a.eval ⟨some d, .call ⟨.value x, args, tys⟩, ty, pos, after, none⟩).run P w' = (Instr.yield lr vs.toArray).run P w' from by
    simp only [execOp, resolve, hf.ev hx, Deferred.ofValue, pure_bind, invoke, hv]
    rw [show (#[] ++ vs.toArray : Array Value) = vs.toArray from by simp]]
  rw [hrun]
  refine ⟨fun h => (fen_depth h).elim, RoundIn.mono hR ?_⟩
  rintro e w2 ⟨rfl, w3, h3, hΦ⟩
  exact h w3 hΦ _ _ (hf.put d hd _) h3
/-! ### The statement -/
theorem Same.putObj {w w' : World} (h : Same w w') (l : Nat) (o : Obj) : Same (w.putObj l o) (w'.putObj l o) := by
  obtain ⟨h1, h2, h3, h4⟩ := h
  exact ⟨by show w'.heap.setIfInBounds l o = w.heap.setIfInBounds l o; rw [h1], h2, h3, h4⟩
theorem Same.alloc2 {w w' : World} (h : Same w w') (o : Obj) : Same (w.alloc o) (w'.alloc o) := by
  obtain ⟨h1, h2, h3, h4⟩ := h
  exact ⟨by show w'.heap.push o = w.heap.push o; rw [h1], h2, h3, h4⟩
theorem J.range {g : Operand} {assign body : Code} {p gf : Nat} {lb : Array Value} {enc : Nat → Value} {σ1 : Nat → Env} {M : Nat} {I : Nat → Nat → World → Prop}
    (hg : ev σ g = some (.func (.func gf) #[] lb)) (hc : callable P gf = true) (hp : Nat.blt p N = true)
    (h0 : ∀ W lr, Ext w W → w.heap.size ≤ lr → lr < W.heap.size → w.heap.size ≤ lr - 1 → I lr 0 W)
    (hgb : ∀ lr i W W', I lr i W → W.grownBy W' (some lr) → I lr i W')
    (hiter : ∀ lr W (Inv : Nat → World → Prop), (∀ i W1, Inv i W1 → I lr i W1) → (∀ i W1, Inv i W1 → i < M → YieldT P lr [enc i] W1 (Inv (i + 1))) → Inv 0 W → C P gf (.func (.yield lr) #[] #[] :: lb.toList) W (Ret fun _ W' => Inv M W'))
    (hassign : ∀ lr i W (K : Act → World → Prop), J N [] (σ1 i ++ σ) K W → J N [] ((p, enc i) :: σ) (assign.wpIn (fen (some lr)) 0 P (Exit.then K (fun _ _ _ => False))) W)
    (hbody : ∀ lr i W, I lr i W → i < M → lr < W.heap.size → J N [] (σ1 i ++ σ) (body.wpIn (fen (some lr)) 0 P fun e _ w' => e = .normal ∧ ∃ w3, Same w3 w' ∧ I lr (i + 1) w3 ∧ w3.heap[lr]? = W.heap[lr]? ∧ w3.heap[lr - 1]? = W.heap[lr - 1]?) W)
    (hdone : ∀ lr W, I lr M W → W.heap[lr - 1]? = some (.deferred (some [])) → J N (⟨.collected (lr - 1), #[]⟩ :: ds) σ (Q .normal) W) :
    J N ds σ ((Code.rangeFunc g #[p] assign body).wp P Q) w := by
  refine J.wide ?_
  intro a w' hf hs
  refine wpIn_rangeFunc fun fn _ => ?_
  obtain ⟨rec, hrec⟩ : ∃ rec : LoopState → Loop, rec = fun st => { state := st, pending := none, fn, tmps := a.tmps, params := #[p], assign, body, defers := w'.heap.size } := ⟨_, rfl⟩
  obtain ⟨W1, hW1⟩ : ∃ W1, (w.alloc (.deferred (some []))).alloc (.loop (rec .ready)) = W1 := ⟨_, rfl⟩
  have hsz : w'.heap.size = w.heap.size := by rw [hs.heap]
  have hext : Ext w W1 := by rw [← hW1]; exact (alloc_ext _ _).trans (alloc_ext _ _)
  have hsz1 : W1.heap.size = w.heap.size + 2 := by rw [← hW1]; simp
  have hL1 : W1.heap[w.heap.size + 1]? = some (.loop (rec .ready)) := by
    rw [← hW1]; have := World.alloc_heap_new (w.alloc (.deferred (some []))) (.loop (rec .ready)); rwa [World.size_alloc] at this
  have hK1 : W1.heap[w.heap.size]? = some (.deferred (some [])) := by
    rw [← hW1]; exact (heap_alloc_old _ _ (by simp)).trans (World.alloc_heap_new w _)
  let Inv : Nat → World → Prop := fun i W => I (w.heap.size + 1) i W ∧ W.heap[w.heap.size + 1]? = some (.loop (rec .ready)) ∧ W.heap[w.heap.size]? = some (.deferred (some []))
  have hI0 : Inv 0 W1 := ⟨h0 W1 _ hext (by omega) (by omega) (by omega), hL1, hK1⟩
  have hcall := hiter (w.heap.size + 1) W1 Inv (fun i W h => h.1) (fun i W hI hi W' hsW => by
    obtain ⟨hi1, hl, hk⟩ := hI
    have hl' : W'.heap[w.heap.size + 1]? = some (.loop (rec .ready)) := by rw [hsW.heap]; exact hl
    have hlt : w.heap.size + 1 < W.heap.size := (Array.getElem?_eq_some_iff.1 hl).1
    have hrun := run_yield (P := P) (args := #[enc i]) hl' (by rw [hrec]; rfl)
    refine ⟨fn, _, assign, body, by rw [hrec] at hrun; exact hrun, roundIn_of_wpIn (F := Fence.wide) trivial ?_⟩
    have hfit : Fits N [] ((p, enc i) :: σ) { tmps := ((#[p].zip #[enc i]).foldl (fun tmps (t, a) => tmps.setIfInBounds t a) a.tmps), defers := [] } := by
      have h1 := hf.put p hp (enc i)
      refine ⟨?_, rfl, ?_⟩
      · have := h1.size; simpa [Act.put] using this
      · have := h1.vals; simpa [Act.put] using this
    refine hassign (w.heap.size + 1) i W _ ?_ _ _ hfit hsW
    intro a1 w1 hf1 hs1
    have hl1 : w1.heap[w.heap.size + 1]? = some (.loop (rec .ready)) := by rw [hs1.heap]; exact hl
    refine ⟨_, run_beginRound hl1 (by rw [hrec]), ?_⟩
    have hb1 := hbody (w.heap.size + 1) i (W.putObj (w.heap.size + 1) (.loop { rec .ready with state := .busy })) (hgb _ _ _ _ hi1 (grownBy_putObj' W _ _)) hi (by simpa [World.putObj] using hlt) a1 _ hf1 (hs1.putObj _ _)
    refine wpIn_mono hb1 ?_
    rintro e a3 w3 ⟨rfl, W3, hs3, hi3, hl3, hk3⟩
    have hl2 : (W.putObj (w.heap.size + 1) (.loop { rec .ready with state := .busy })).heap[w.heap.size + 1]? = some (.loop { rec .ready with state := .busy }) := World.putObj_heap_same hlt
    have hk2 : (W.putObj (w.heap.size + 1) (.loop { rec .ready with state := .busy })).heap[w.heap.size + 1 - 1]? = some (.deferred (some [])) := (World.putObj_heap_other (by omega)).trans hk
    rw [hl2] at hl3
    rw [hk2] at hk3
    have hl4 : w3.heap[w.heap.size + 1]? = some (.loop { rec .ready with state := .busy }) := by rw [hs3.heap]; exact hl3
    refine ⟨_, _, run_endRound none hl4, rfl, W3.putObj (w.heap.size + 1) (.loop { { rec .ready with state := .busy } with state := (if (none : Option Code).isNone then .ready else .done), pending := none }), hs3.putObj _ _, hgb _ _ _ _ hi3 (grownBy_putObj' W3 _ _), ?_, ?_⟩
    · rw [World.putObj_heap_same (Array.getElem?_eq_some_iff.1 hl3).1, hrec]; rfl
    · rw [World.putObj_heap_other (by omega)]; simpa using hk3) hI0
  refine ⟨w'.heap.size + 1, [{ target := .collected w'.heap.size, args := #[] }], (w'.alloc (.deferred (some []))).alloc (.loop (rec .ready)), { target := .fn (.func gf) lb, args := #[.func (.yield (w'.heap.size + 1)) #[] #[]] }, (w'.alloc (.deferred (some []))).alloc (.loop (rec .ready)), gf, #[.func (.yield (w'.heap.size + 1)) #[] #[]] ++ lb, (w'.alloc (.deferred (some []))).alloc (.loop (rec .ready)), ?_, ?_, ?_, ?_, fun h => (fen_depth (ro := none) h).elim, ?_⟩
  · rw [hrec]; exact run_enterLoop_outer _ _ _ _ _
  · simp only [resolve, hf.ev hg, Deferred.ofValue]
    simp [Act.eval]
  · intro f' _; exact fen_fn (ro := none)
  · simp only [invoke]; exact run_callFunc hc _ _
  · have hsame : Same W1 ((w'.alloc (.deferred (some []))).alloc (.loop (rec .ready))) := by rw [← hW1]; exact (hs.alloc2 _).alloc2 _
    have hc2 := hcall _ hsame
    rw [show (Value.func (.yield (w.heap.size + 1)) #[] #[] :: lb.toList).toArray = #[.func (.yield (w'.heap.size + 1)) #[] #[]] ++ lb from by rw [hsz]; apply Array.toList_inj.1; simp] at hc2
    refine callsIn_wide.2 (hc2.mono ?_)
    rintro e w2 ⟨w3, h3, v, rfl, hi3, hl3, hk3⟩
    have hl4 : w2.heap[w'.heap.size + 1]? = some (.loop (rec .ready)) := by rw [h3.heap, hsz]; exact hl3
    have hend := run_endLoop (P := P) hl4 (by rw [hrec]; simp)
    have hpend : (rec .ready).pending = none := by rw [hrec]
    refine ⟨none, w2.putObj (w'.heap.size + 1) (.loop { rec .ready with state := .exhausted }), hend.trans (congrArg (fun x => Result.ok x _) hpend), ?_⟩
    have hd := hdone (w.heap.size + 1) (w3.putObj (w.heap.size + 1) (.loop { rec .ready with state := .exhausted })) (hgb _ _ _ _ hi3 (grownBy_putObj' w3 _ _)) (by rw [World.putObj_heap_other (by omega)]; simpa using hk3)
    refine hd _ _ ⟨hf.size, ?_, hf.vals⟩ ?_
    · show [_] ++ a.defers = _
      rw [hf.defers, hsz]; rfl
    · rw [hsz]; exact h3.putObj _ _
/-! ### The end of a function that holds such a loop -/
def FinM (P : Program) (fn : Func) (R : Ending → World → Prop) : Exit → Act → World → Prop := bodyPostM Fence.wide 0 P fn fun e w2 => ∃ w3, Same w3 w2 ∧ R e w3
theorem C.enterM {f : FuncId} {fn : Func} {c : Code} {args : List Value} {R : Ending → World → Prop}
    (hf : P.funcs[f]? = some fn) (hb : fn.body = some c) (hn : fn.ntmps = N) (hN : Nat.ble args.length N = true)
    (h : J N [] (enum 0 args) (c.wp P (FinM P fn R)) w) : C P f args w R := by
  intro w' hs
  refine (callsIn_wide (n := 0)).1 (callsIn_of_wp_marks hf hb trivial ?_)
  rw [hn]
  exact wpIn_wide.2 (h _ _ (enter_fits hN) hs)
/-- Results: one in a cell, one in a slot. -/
theorem results_cell_tmp {fn : Func} {p t : Tmp} {ty : TypeId} {tmps : Array Value} {b : Nat} {v u : Value} {w : World} (h : fn.results = #[.cell p ty, .tmp t]) (ht : plain P ty = true) (hp : tmps.getD p undef = .pointer (some ⟨b, 0, none⟩)) (hc : w.cell? ⟨b, 0, none⟩ = some v) (hu : tmps.getD t undef = u) :
    (results fn tmps).run P w = .ok (.tuple #[v, u]) w := by
  rw [Array.getD_eq_getD_getElem?] at hp hu
  simp only [results, h]
  simp [Sem.run_bind, Result.andThen, hp, hu, asAddr, loadVar, run_isAgg ht, load, Sem.run, hc]
theorem J.ret_ct0 {fn : Func} {R : Ending → World → Prop} {p t : Nat} {ty : TypeId} {b : Nat} {v u : Value} (hr : fn.results = #[.cell p ty, .tmp t]) (ht : plain P ty = true) (hp : σ.get p = some (.pointer (some ⟨b, 0, none⟩))) (hc : w.cell? ⟨b, 0, none⟩ = some v) (hu : σ.get t = some u)
    (h : R (.returned (.tuple #[v, u])) w) : J N [] σ (FinM P fn R .ret) w := fun a w' hf hs => by
  show LeavesInM Fence.wide 0 P fn a.tmps _ a.defers .returning w'
  rw [hf.defers]
  exact ⟨_, results_cell_tmp hr ht (hf.vals _ _ hp) (hs.ext.cell hc) (hf.vals _ _ hu), w, hs, h⟩
theorem J.ret_ct1 {fn : Func} {R : Ending → World → Prop} {p t : Nat} {ty : TypeId} {b D : Nat} {v u : Value} (hr : fn.results = #[.cell p ty, .tmp t]) (ht : plain P ty = true) (hp : σ.get p = some (.pointer (some ⟨b, 0, none⟩))) (hu : σ.get t = some u) (hD : w.heap[D]? = some (.deferred (some [])))
    (h : ∀ w', w.grownBy w' (some D) → w'.cell? ⟨b, 0, none⟩ = some v ∧ R (.returned (.tuple #[v, u])) w') : J N [⟨.collected D, #[]⟩] σ (FinM P fn R .ret) w := fun a w' hf hs => by
  show LeavesInM Fence.wide 0 P fn a.tmps _ a.defers .returning w'
  rw [hf.defers]
  have hD' : w'.heap[D]? = some (.deferred (some [])) := by rw [hs.heap]; exact hD
  obtain ⟨h1, h2⟩ := h (w.putObj D (.deferred none)) (grownBy_putObj' w _ _)
  refine ⟨by simp, .inl ⟨D, _, rfl, run_takeDeferred hD', ?_⟩⟩
  exact ⟨_, results_cell_tmp hr ht (hf.vals _ _ hp) ((hs.putObj _ _).ext.cell h1) (hf.vals _ _ hu), _, hs.putObj _ _, h2⟩
end
/-! ### A field of an element written -/
theorem fm_setF {α : Type} {K : Shp α} {es : List α} {i j : Nat} {u' : α} {v : Value} (d : α) (hi : i < es.length) (hj : j < K.sz) (hu : K.c u' = (K.c (es.getD i d)).set j v) :
    (es.flatMap K.c).take (i * K.sz + j) ++ [v] ++ (es.flatMap K.c).drop (i * K.sz + j + 1) = (es.set i u').flatMap K.c := by
  have hlen := fm_len K es
  have hle : i * K.sz + K.sz ≤ es.length * K.sz := by rw [← Nat.succ_mul]; exact Nat.mul_le_mul_right _ hi
  have hself : es.set i (es.getD i d) = es := by
    apply List.ext_getElem?
    intro q
    rw [List.getElem?_set]
    split
    · next h =>
      subst h
      first | rw [if_pos hi] | skip
      rw [List.getD_eq_getElem?_getD, List.getElem?_eq_getElem hi]; rfl
    · rfl
  have h1 := fm_set (K := K) hi (es.getD i d)
  rw [hself] at h1
  have h2 := fm_set (K := K) hi u'
  rw [hu] at h2
  have hA : ((es.flatMap K.c).take (i * K.sz)).length = i * K.sz := by rw [List.length_take, hlen]; omega
  have hC := K.len (es.getD i d)
  have hset : (es.flatMap K.c).set (i * K.sz + j) v = (es.set i u').flatMap K.c := by
    rw [← h2]
    conv => lhs; rw [← h1]
    rw [List.append_assoc, List.set_append_right _ _ (by rw [hA]; omega), hA, Nat.add_sub_cancel_left, List.set_append_left _ _ (by rw [hC]; exact hj), List.append_assoc]
  rw [← hset, List.set_eq_take_append_cons_drop, if_pos (by rw [hlen]; omega), List.append_assoc]; rfl
theorem Ye.storeF {P : Program} {σ : Env} {w : World} {α : Type} {K : Shp α} {ty x y t e s z by' base i j v} {es : List α} (d : α) {u' : α} (hz : TI P t z 1 by') (ho : Es K base e w s es) (hx : ev σ x = some (.pointer (some (adr s (i * K.sz + j))))) (hy : ev σ y = some v) (hv : v.cells = #[v]) (h1 : v.oneCell' = true) (hi : i < es.length) (hj : j < K.sz) (hu : K.c u' = (K.c (es.getD i d)).set j v) :
    Ye P σ (.store t x y) ty w fun _ w1 => Es K base e w1 s (es.set i u') ∧ w.grownBy w1 s.ownBlock := by
  refine ye_store hx hy fun w' hs => ?_
  obtain ⟨q, hq, _, hq1, _⟩ := hz.out
  have ho' := ho.ext hs.ext
  obtain ⟨hl, h2⟩ := ho'
  rcases h2 with ⟨rfl, h2⟩ | ⟨g, cap, cur, rfl, hb, hg, hn, hm, hc, ht⟩
  · omega
  have hio : i * K.sz + j + 1 ≤ es.length * K.sz := by
    have : i * K.sz + K.sz ≤ es.length * K.sz := by rw [← Nat.succ_mul]; exact Nat.mul_le_mul_right _ hi
    omega
  have hcs : es.length * K.sz ≤ cap * K.sz := Nat.mul_le_mul_right _ hn
  have hst := run_storeCells_at P g (i * K.sz + j) e [v] 0 cur w' hg (by simp only [List.length_singleton]; omega) (fun u hu => by rw [List.mem_singleton] at hu; subst hu; exact h1)
  rw [List.length_singleton, Nat.add_zero] at hst
  have ha : adr (.slice (some ⟨g, 0, none⟩) es.length cap) (i * K.sz + j) = ⟨g, i * K.sz + j, none⟩ := by show Addr.add ⟨g, 0, none⟩ _ = _; rw [add_at, Nat.zero_add]
  refine ⟨w'.setRow g (cur.toList.take (i * K.sz + j) ++ [v] ++ cur.toList.drop (i * K.sz + j + 1)).toArray, _, ?_, Same.refl _, ⟨by rw [fm_len], .inr ⟨g, cap, _, by rw [List.length_set], hb, setRow_heap w' g cur _ e _ hg, by rw [List.length_set]; exact hn, hm, ?_, ?_⟩⟩, ?_⟩
  · simp only [Instr.storeAt, Instr.sureAddr, pure_bind, storeVar, sizeOf, typeInfo]
    rw [ha]
    simpa [hq, hq1, hv] using hst
  · simp only [List.size_toArray, List.length_append, List.length_take, List.length_drop, Array.length_toList, List.length_singleton, hc]; omega
  · rw [List.length_set, take_splice _ [v] (o := i * K.sz + j) (m := i * K.sz + j + 1) rfl hio (by have h9 : cur.toList.length = cap * K.sz := hc; rw [h9]; exact hcs), ht]
    exact fm_setF d hi hj hu
  · exact (Upd.same hs (Upd.setRow w' g _)).gb
end Go.X
