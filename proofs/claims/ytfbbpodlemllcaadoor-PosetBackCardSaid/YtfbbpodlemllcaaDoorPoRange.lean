/-
  A range over a function in a walk that is otherwise plain: the law, the marks it leaves, steps of a round.
-/
import Derived.Test.YtfbbpodlemllcaaDoorPoIter
import Derived.Sort.QuietThIn
namespace Go.Proofs.YtfbbpodlemllcaaDoor
open Go.RowKit Go.Shelf
set_option linter.unusedVariables false
set_option linter.unusedSimpArgs false
section
variable {P : Program}
/-- A function that holds such a range: its contract from its body. -/
theorem calls_marks {f : FuncId} {fn : Func} {c : Code} {args : Array Value} {w : World} {R : Ending → World → Prop} (n : Nat)
    (hf : P.funcs[f]? = some fn) (hb : fn.body = some c) (h : c.wp P (bodyPostM Fence.wide n P fn R) { tmps := args ++ Array.replicate (fn.ntmps - args.size) undef, defers := [] } w) : Calls P f args w R :=
  (callsIn_wide (n := n)).1 (callsIn_of_wp_marks hf hb trivial (wpIn_wide.2 h) rfl)
/-- The mark that such a range leaves among the deferred calls. -/
def mark (D : Nat) : Deferred := { target := .collected D, args := #[] }
/-- The way out, over the marks. -/
theorem leaves_marks {fn : Func} {tmps : Array Value} {R : Ending → World → Prop} {n : Nat} (C : World → Prop) (hend : ∀ w, C w → ∃ v, (results fn tmps).run P w = .ok v w ∧ R (.returned v) w) :
    ∀ (Ds : List Nat) (w : World), Ds.Nodup → (∀ D ∈ Ds, w.heap[D]? = some (.deferred (some []))) → C w → (∀ w D, D ∈ Ds → C w → w.heap[D]? = some (.deferred (some [])) → C (w.putObj D (.deferred none))) →
    LeavesInM Fence.wide n P fn tmps R (Ds.map mark) .returning w
  | [], w, _, _, hC, _ => hend w hC
  | D :: Ds, w, hnd, hD, hC, hst => by
    have hd := hD D (List.mem_cons_self ..)
    refine ⟨by simp, .inl ⟨D, _, rfl, run_takeDeferred hd, ?_⟩⟩
    refine leaves_marks C hend Ds _ (List.nodup_cons.1 hnd).2 (fun D' h' => ?_) (hst w D (List.mem_cons_self ..) hC hd) (fun w D' h' => hst w D' (List.mem_cons_of_mem _ h'))
    have hne : D' ≠ D := fun e => (List.nodup_cons.1 hnd).1 (e ▸ h')
    rw [World.putObj_heap_other hne]; exact hD D' (List.mem_cons_of_mem _ h')
/-- Leaving without a mark. -/
theorem bodyM_ret {fn : Func} {R : Ending → World → Prop} {n : Nat} {a : Act} {w : World} {v : Value} (hr : (results fn a.tmps).run P w = .ok v w) (hd : a.defers = []) (hR : R (.returned v) w) : bodyPostM Fence.wide n P fn R .ret a w := by
  show LeavesInM _ _ _ _ _ _ a.defers _ _
  rw [hd]; exact ⟨v, hr, hR⟩
/-- Leaving over marks. -/
theorem bodyM_marks {fn : Func} {R : Ending → World → Prop} {n : Nat} {a : Act} {w : World} (C : World → Prop) (Ds : List Nat) (hd : a.defers = Ds.map mark) (hnd : Ds.Nodup) (hD : ∀ D ∈ Ds, w.heap[D]? = some (.deferred (some []))) (hC : C w)
    (hst : ∀ w D, D ∈ Ds → C w → w.heap[D]? = some (.deferred (some [])) → C (w.putObj D (.deferred none))) (hend : ∀ w, C w → ∃ v, (results fn a.tmps).run P w = .ok v w ∧ R (.returned v) w) : bodyPostM Fence.wide n P fn R .ret a w := by
  show LeavesInM _ _ _ _ _ _ a.defers _ _
  rw [hd]; exact leaves_marks C hend Ds w hnd hD hC hst
/-- The law, in a plain walk. -/
theorem wp_range {α : Type} {g : Operand} {ps : Array Tmp} {assign body : Code} {Q : Exit → Act → World → Prop} {a : Act} {w : World} (n : Nat) (h1 : 1 ≤ n) {gf : Nat} {lb : Array Value} (hg : a.eval g = .func (.func gf) #[] lb) (eg : ∀ args w, (callFunc gf args).run P w = .ok (.enter gf args) w)
    {encs : α → Array Value} {n₀ : Nat} {S Sp : List α → Prop} {N : Nat} (hseq : SeqStopsK Fence.wide (n - 1) P gf lb encs (Below n₀) S Sp N w) (hn0 : n₀ ≤ w.heap.size) (hps : ∀ x, (encs x).size = ps.size)
    (I : List α → World → Prop) (Ix : Code → List α → World → Prop) (hI : OwnFrom w.heap.size I) (hIx : ∀ c, OwnFrom w.heap.size (Ix c)) (h0 : I [] w) (a₁ : α → Act)
    (hassign : ∀ (l : Nat) (x : α) (W : World) (K : Act → World → Prop), K (a₁ x) W →
      assign.wpIn (Fence.wide.inRound l) (n - 1 - 1) P (Exit.then K (fun _ _ _ => False)) { tmps := (ps.zip (encs x)).foldl (fun t (p, v) => t.setIfInBounds p v) a.tmps, defers := [] } W)
    (hbody : ∀ (l : Nat) (pre : List α) (x : α) (W : World), I pre W → pre.length < N → body.wpIn (Fence.wide.inRound l) (n - 1 - 1) P (ownPostK (Below n₀) I Ix (pre ++ [x]) W) (a₁ x) W)
    (hdone : ∀ (D : Nat) (xs : List α) (W : World), w.heap.size ≤ D → S xs → I xs W → W.heap[D]? = some (.deferred (some [])) → Q .normal { a with defers := mark D :: a.defers } W)
    (hstop : ∀ (D : Nat) (c : Code) (pre : List α) (W : World), w.heap.size ≤ D → Sp pre → Ix c pre W → W.heap[D]? = some (.deferred (some [])) → c.wp P Q { a with defers := mark D :: a.defers } W) :
    (Code.rangeFunc g ps assign body).wp P Q a w :=
  (wpIn_wide (n := n)).1 (wpIn_rangeFunc_ownF rfl h1 hg trivial eg hseq belowK_t (belowK_b hn0) (Below.refl _ _) hps I Ix hI hIx h0 a₁ hassign hbody hdone
    (fun D c pre W hD hSp hI hK => wpIn_wide.2 (hstop D c pre W hD hSp hI hK)))
/-- What a block of cells holds abides. -/
theorem own_heap {β : Type} {B b : Nat} {cs : β → Array Value} {t : TypeId} {fr : Nat × Nat} : OwnFrom B (fun (s : β) W => W.heap[b]? = some (.cells (cs s) t fr)) := fun s W W' row hs hg hr => by
  have hs' : W.heap[b]? = some (.cells (cs s) t fr) := hs
  show W'.heap[b]? = some (.cells (cs s) t fr)
  rw [hg.block b (Array.getElem?_eq_some_iff.1 hs').1 (fun e => ?_)]
  · exact hs'
  · obtain ⟨_, o, ho, hc⟩ := hr b e.symm
    rw [hs'] at ho; cases ho; cases hc
theorem own_pure {β : Type} {B : Nat} {p : β → Prop} : OwnFrom B (fun (s : β) (_ : World) => p s) := fun _ _ _ _ hs _ _ => hs
theorem own_false {β : Type} {B : Nat} : OwnFrom B (fun (_ : β) (_ : World) => False) := fun _ _ _ _ hs _ _ => hs
/-- A mark's block isn't one of cells. -/
theorem put_mark_heap {w : World} {D b : Nat} {cs : Array Value} {t : TypeId} {fr : Nat × Nat} (hd : w.heap[D]? = some (.deferred (some []))) (hb : w.heap[b]? = some (.cells cs t fr)) : (w.putObj D (.deferred none)).heap[b]? = some (.cells cs t fr) := by
  have : b ≠ D := fun e => by subst e; rw [hd] at hb; cases hb
  rw [World.putObj_heap_other this]; exact hb
theorem put_mark_below {w0 w : World} {n₀ D : Nat} (h : Below n₀ w0 w) (hD : n₀ ≤ D) (hn : n₀ ≤ w.heap.size) : Below n₀ w0 (w.putObj D (.deferred none)) := h.grown (grownBy_putObj' w D _) hn (fun k e => by cases e; exact hD)
end
section
variable {P : Program} {ops : Array Oper} {Q : Exit → Act → World → Prop} {a : Act} {w : World} {rest : List Oper} {o : Oper} {l n : Nat}
/-- A round's operation that yields a value. -/
theorem ri_run (hw : Region.wanted o (yielded ops a.tmps) = true) (hnd : ∀ c, o.op ≠ .defer c) (v : Value) (w' : World) (he : (execOp a.eval o).run P w = .ok (.value v) w')
    (k : wpListIn (Fence.wide.inRound l) n P ops Q rest (a.put o.dst v) w') : wpListIn (Fence.wide.inRound l) n P ops Q (o :: rest) a w := by
  rw [wpListIn, if_pos hw]
  refine ⟨fun _ _ => trivial, ?_⟩
  rw [show (Fence.wide.inRound l).round = some l from rfl, Oper.semAt_some l a.eval o hnd, he]
  exact k
theorem ri_call (hw : Region.wanted o (yielded ops a.tmps) = true) (hnd : ∀ c, o.op ≠ .defer c) (f : FuncId) (args : Array Value) (he : (execOp a.eval o).run P w = .ok (.enter f args) w) {R : Value → World → Prop}
    (hc : Calls P f args w fun e w' => ∃ v, e = .returned v ∧ R v w')
    (k : ∀ v w', R v w' → wpListIn (Fence.wide.inRound l) n P ops Q rest (a.put o.dst v) w') : wpListIn (Fence.wide.inRound l) n P ops Q (o :: rest) a w := by
  rw [wpListIn, if_pos hw]
  refine ⟨fun _ _ => trivial, ?_⟩
  rw [show (Fence.wide.inRound l).round = some l from rfl, Oper.semAt_some l a.eval o hnd, he, Oper.uponIn_enter]
  refine ⟨fun h => (by cases h), (CallsIn.inRound l (callsIn_wide.2 hc)).mono ?_⟩
  rintro e w' ⟨v, rfl, hR⟩
  exact k v w' hR
theorem ri_skip (hw : Region.wanted o (yielded ops a.tmps) = false) (k : wpListIn (Fence.wide.inRound l) n P ops Q rest (a.put o.dst undef) w) : wpListIn (Fence.wide.inRound l) n P ops Q (o :: rest) a w := by
  rw [wpListIn, if_neg (by rw [hw]; decide)]
  exact ⟨fun _ _ => trivial, k⟩
end
section
variable {n l : Nat} {P : Program} {ops : Array Oper} {md : Region.Mode} {C : World → Prop}
theorem wpIn_of_quietR {o : Oper} {a : Act} {K : Act → Prop} {K' : Act → World → Prop} {Q' : Exit → Act → World → Prop} {w : World} (hnd : ∀ c, o.op ≠ .defer c) (hw : C w) (h : ∀ a w', C w' → K a → K' a w')
    (hh : o.quietIn (Fence.wide.inRound l) n P a C K) : o.wpIn (Fence.wide.inRound l) n P a w K' Q' := by
  obtain ⟨v, h1, h2⟩ := hh
  have h3 := h1 w hw
  unfold Oper.quietAtIn at h3
  unfold Oper.wpIn
  refine ⟨fun _ _ => trivial, ?_⟩
  rw [show (Fence.wide.inRound l).round = some l from rfl, Oper.semAt_some l a.eval o hnd]
  generalize (execOp a.eval o).run P w = r at *
  cases r with
  | ok x w' =>
    cases x <;> simp only [Oper.quietUponIn] at h3 <;> simp only [Oper.uponIn]
    case value u =>
      obtain ⟨e1, e2⟩ := h3
      rw [e1, e2]
      exact h _ _ hw h2
    case skip =>
      obtain ⟨e1, e2⟩ := h3
      rw [e1, ← e2]
      exact h _ _ hw h2
    case enter f args =>
      obtain ⟨e1, hd, hc⟩ := h3
      rw [e1]
      exact ⟨hd, hc.mono fun e w'' ⟨he, hw''⟩ => by subst he; exact h _ _ hw'' h2⟩
  | halt x w' => simp only [Oper.quietUponIn] at h3
theorem wpOpIn_of_qOpInR {i : Nat} {a : Act} {K : Act → Prop} {K' : Act → World → Prop} {Q' : Exit → Act → World → Prop} {w : World} (hnd : ∀ (i : Nat) (o : Oper), ops[i]? = some o → ∀ c, o.op ≠ .defer c) (hC : C w) (h : ∀ a w', C w' → K a → K' a w')
    (hh : qOpIn (Fence.wide.inRound l) n P ops C i K a) : wpOpIn (Fence.wide.inRound l) n P ops Q' i K' a w := by
  unfold qOpIn at hh
  unfold wpOpIn
  split
  · rename_i ho; simp only [ho] at hh; exact h _ _ hC hh
  · rename_i o ho
    simp only [ho] at hh
    obtain ⟨ha, hh⟩ := hh
    split
    · rename_i hw; simp only [hw, if_true] at hh; exact wpIn_of_quietR (hnd i o ho) hC h hh
    · rename_i hw; simp only [hw] at hh; exact ⟨ha w hC, h _ _ hC hh⟩
theorem wpAnyIn_of_quietR {Q : Act → Prop} {Q' : Exit → Act → World → Prop} (hnd : ∀ (i : Nat) (o : Oper), ops[i]? = some o → ∀ c, o.op ≠ .defer c) (hQ : ∀ a w, C w → Q a → Q' .normal a w) : ∀ (fuel : Nat) (listed : Array Bool) (a : Act) (w : World), C w →
    wpAnyQIn (Fence.wide.inRound l) n P md ops C Q fuel listed a → wpAnyIn (Fence.wide.inRound l) n P md ops Q' fuel listed a w
  | 0, _, _, _, hw, h => ⟨h.1, hQ _ _ hw h.2⟩
  | fuel + 1, _, _, _, hw, h => ⟨fun h0 => hQ _ _ hw (h.1 h0), fun i hi => wpOpIn_of_qOpInR hnd hw (fun a' w' hw' => wpAnyIn_of_quietR hnd hQ fuel _ a' w' hw') (h.2 i hi)⟩
/-- A round's region that draws its order and only reads. -/
theorem wpIn_region_quietR {id : Nat} {Q : Exit → Act → World → Prop} {a : Act} {w : World} (hnd : ∀ (i : Nat) (o : Oper), ops[i]? = some o → ∀ c, o.op ≠ .defer c) (hm : P.follows .mixedOrders = true) (hB : Region.lexB .any ops = true) (hC : C w.drew)
    (h : wpQuietIn (Fence.wide.inRound l) n P ops C (fun a' => ∀ w', C w' → Q .normal a' w') ops.toList a) : (Code.region id ops true).wpIn (Fence.wide.inRound l) n P Q a w := by
  simp only [Region.lexB, Bool.and_eq_true] at hB
  refine wpIn_region_any hm (wpAnyIn_of_quietR (Q := fun a' => ∀ w', C w' → Q .normal a' w') hnd (fun _ w' hw' h => h w' hw') _ _ _ _ hC ?_)
  have := wpAnyQIn_lex (F := Fence.wide.inRound l) (n := n) (C := C) (md := .any) hB.1 ops.toList 0 (Array.replicate ops.size false) a (by simp) (by simpa using hB.2) h
  simpa using this
def noDefer (ops : Array Oper) : Bool := ops.all fun o => match o.op with | .defer _ => false | _ => true
theorem of_noDefer {ops : Array Oper} (h : noDefer ops = true) : ∀ (i : Nat) (o : Oper), ops[i]? = some o → ∀ c, o.op ≠ .defer c := fun i o hi c hc => by
  unfold noDefer at h
  rw [Array.all_eq_true] at h
  obtain ⟨hl, hg⟩ := Array.getElem?_eq_some_iff.1 hi
  have := h i hl
  rw [hg, hc] at this
  cases this
theorem rq_run {rest : List Oper} {o : Oper} {a : Act} {Q : Act → Prop} (hw : Region.wanted o (yielded ops a.tmps) = true) (v : Value) (he : ∀ w, C w → (execOp a.eval o).run P w = .ok (.value v) w)
    (k : wpQuietIn (Fence.wide.inRound l) n P ops C Q rest (a.put o.dst v)) : wpQuietIn (Fence.wide.inRound l) n P ops C Q (o :: rest) a := by
  rw [wpQuietIn, if_pos hw]
  exact ⟨fun _ _ _ _ => trivial, v, fun w hw => by unfold Oper.quietAtIn; rw [he w hw]; exact ⟨rfl, rfl⟩, k⟩
theorem rq_skip {rest : List Oper} {o : Oper} {a : Act} {Q : Act → Prop} (hw : Region.wanted o (yielded ops a.tmps) = false)
    (k : wpQuietIn (Fence.wide.inRound l) n P ops C Q rest (a.put o.dst undef)) : wpQuietIn (Fence.wide.inRound l) n P ops C Q (o :: rest) a := by
  rw [wpQuietIn, if_neg (by rw [hw]; decide)]
  exact ⟨fun _ _ _ _ => trivial, k⟩
end
end Go.Proofs.YtfbbpodlemllcaaDoor
