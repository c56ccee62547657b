/-
  Contracts of functions that the laws of this chapter reach, joined.
-/
import Derived.Test.YtadopkifpfmhcaaDoorMgB
import Derived.Sort.QuietThIn
import Derived.StillTail
import Derived.Sort.CutIn
import Derived.Sort.LoopGhostIn
import Derived.Laws.StructEq
import Derived.Test.YtadopkifpfmhcaaDoorRows
import Derived.ChangeSlices
import Derived.ChangeOld
import Derived.ChangeSame
import Derived.WideShapes
import Derived.Lib.SmallJoins
import Derived.Lib.LaidU8
import Derived.SizedLaws
import Derived.LaidLaws
set_option linter.unusedVariables false
set_option linter.unusedSimpArgs false
namespace Go.Proofs.YtadopkifpfmhcaaDoor
open Go.RowKit Go.Shelf
section
variable {P : Program}
/-- A function that holds such a range: its contract from its body. -/
theorem calls_marks {f : FuncId} {fn : Func} {c : Code} {args : Array Value} {w : World} {R : Ending → World → Prop} (n : Nat)
    (hf : P.funcs[f]? = some fn) (hb : fn.body = some c) (h : c.wp P (bodyPostM Fence.wide n P fn R) { tmps := args ++ Array.replicate (fn.ntmps - args.size) undef, defers := [] } w) : Calls P f args w R :=
  (callsIn_wide (n := n)).1 (callsIn_of_wp_marks hf hb trivial (wpIn_wide.2 h) rfl)
/-- The mark that such a range leaves among the deferred calls. -/
def mark (D : Nat) : Deferred := { target := .collected D, args := #[] }
/-- The way out, over the marks. -/
theorem leaves_marks {fn : Func} {tmps : Array Value} {R : Ending → World → Prop} {n : Nat} (C : World → Prop) (hend : ∀ w, C w → ∃ v, (results fn tmps).run P w = .ok v w ∧ R (.returned v) w) :
    ∀ (Ds : List Nat) (w : World), Ds.Nodup → (∀ D ∈ Ds, w.heap[D]? = some (.deferred (some []))) → C w → (∀ w D, D ∈ Ds → C w → w.heap[D]? = some (.deferred (some [])) → C (w.putObj D (.deferred none))) →
    LeavesInM Fence.wide n P fn tmps R (Ds.map mark) .returning w
  | [], w, _, _, hC, _ => hend w hC
  | D :: Ds, w, hnd, hD, hC, hst => by
    have hd := hD D (List.mem_cons_self ..)
    refine ⟨by simp, .inl ⟨D, _, rfl, run_takeDeferred hd, ?_⟩⟩
    refine leaves_marks C hend Ds _ (List.nodup_cons.1 hnd).2 (fun D' h' => ?_) (hst w D (List.mem_cons_self ..) hC hd) (fun w D' h' => hst w D' (List.mem_cons_of_mem _ h'))
    have hne : D' ≠ D := fun e => (List.nodup_cons.1 hnd).1 (e ▸ h')
    rw [World.putObj_heap_other hne]; exact hD D' (List.mem_cons_of_mem _ h')
/-- Leaving without a mark. -/
theorem bodyM_ret {fn : Func} {R : Ending → World → Prop} {n : Nat} {a : Act} {w : World} {v : Value} (hr : (results fn a.tmps).run P w = .ok v w) (hd : a.defers = []) (hR : R (.returned v) w) : bodyPostM Fence.wide n P fn R .ret a w := by
  show LeavesInM _ _ _ _ _ _ a.defers _ _
  rw [hd]; exact ⟨v, hr, hR⟩
/-- Leaving over marks. -/
theorem bodyM_marks {fn : Func} {R : Ending → World → Prop} {n : Nat} {a : Act} {w : World} (C : World → Prop) (Ds : List Nat) (hd : a.defers = Ds.map mark) (hnd : Ds.Nodup) (hD : ∀ D ∈ Ds, w.heap[D]? = some (.deferred (some []))) (hC : C w)
    (hst : ∀ w D, D ∈ Ds → C w → w.heap[D]? = some (.deferred (some [])) → C (w.putObj D (.deferred none))) (hend : ∀ w, C w → ∃ v, (results fn a.tmps).run P w = .ok v w ∧ R (.returned v) w) : bodyPostM Fence.wide n P fn R .ret a w := by
  show LeavesInM _ _ _ _ _ _ a.defers _ _
  rw [hd]; exact leaves_marks C hend Ds w hnd hD hC hst
/-- The law, in a plain walk. -/
theorem wp_range {α : Type} {g : Operand} {ps : Array Tmp} {assign body : Code} {Q : Exit → Act → World → Prop} {a : Act} {w : World} (n : Nat) (h1 : 1 ≤ n) {gf : Nat} {lb : Array Value} (hg : a.eval g = .func (.func gf) #[] lb) (eg : ∀ args w, (callFunc gf args).run P w = .ok (.enter gf args) w)
    {encs : α → Array Value} {n₀ : Nat} {S Sp : List α → Prop} {N : Nat} (hseq : SeqStopsK Fence.wide (n - 1) P gf lb encs (Below n₀) S Sp N w) (hn0 : n₀ ≤ w.heap.size) (hps : ∀ x, (encs x).size = ps.size)
    (I : List α → World → Prop) (Ix : Code → List α → World → Prop) (hI : OwnFrom w.heap.size I) (hIx : ∀ c, OwnFrom w.heap.size (Ix c)) (h0 : I [] w) (a₁ : α → Act)
    (hassign : ∀ (l : Nat) (x : α) (W : World) (K : Act → World → Prop), K (a₁ x) W →
      assign.wpIn (Fence.wide.inRound l) (n - 1 - 1) P (Exit.then K (fun _ _ _ => False)) { tmps := (ps.zip (encs x)).foldl (fun t (p, v) => t.setIfInBounds p v) a.tmps, defers := [] } W)
    (hbody : ∀ (l : Nat) (pre : List α) (x : α) (W : World), I pre W → pre.length < N → body.wpIn (Fence.wide.inRound l) (n - 1 - 1) P (ownPostK (Below n₀) I Ix (pre ++ [x]) W) (a₁ x) W)
    (hdone : ∀ (D : Nat) (xs : List α) (W : World), w.heap.size ≤ D → S xs → I xs W → W.heap[D]? = some (.deferred (some [])) → Q .normal { a with defers := mark D :: a.defers } W)
    (hstop : ∀ (D : Nat) (c : Code) (pre : List α) (W : World), w.heap.size ≤ D → Sp pre → Ix c pre W → W.heap[D]? = some (.deferred (some [])) → c.wp P Q { a with defers := mark D :: a.defers } W) :
    (Code.rangeFunc g ps assign body).wp P Q a w :=
  (wpIn_wide (n := n)).1 (wpIn_rangeFunc_ownF rfl h1 hg trivial eg hseq belowK_t (belowK_b hn0) (Below.refl _ _) hps I Ix hI hIx h0 a₁ hassign hbody hdone
    (fun D c pre W hD hSp hI hK => wpIn_wide.2 (hstop D c pre W hD hSp hI hK)))
/-- What a block of cells holds abides. -/
theorem own_heap {β : Type} {B b : Nat} {cs : β → Array Value} {t : TypeId} {fr : Nat × Nat} : OwnFrom B (fun (s : β) W => W.heap[b]? = some (.cells (cs s) t fr)) := fun s W W' row hs hg hr => by
  have hs' : W.heap[b]? = some (.cells (cs s) t fr) := hs
  show W'.heap[b]? = some (.cells (cs s) t fr)
  rw [hg.block b (Array.getElem?_eq_some_iff.1 hs').1 (fun e => ?_)]
  · exact hs'
  · obtain ⟨_, o, ho, hc⟩ := hr b e.symm
    rw [hs'] at ho; cases ho; cases hc
theorem own_pure {β : Type} {B : Nat} {p : β → Prop} : OwnFrom B (fun (s : β) (_ : World) => p s) := fun _ _ _ _ hs _ _ => hs
theorem own_false {β : Type} {B : Nat} : OwnFrom B (fun (_ : β) (_ : World) => False) := fun _ _ _ _ hs _ _ => hs
/-- A mark's block isn't one of cells. -/
theorem put_mark_heap {w : World} {D b : Nat} {cs : Array Value} {t : TypeId} {fr : Nat × Nat} (hd : w.heap[D]? = some (.deferred (some []))) (hb : w.heap[b]? = some (.cells cs t fr)) : (w.putObj D (.deferred none)).heap[b]? = some (.cells cs t fr) := by
  have : b ≠ D := fun e => by subst e; rw [hd] at hb; cases hb
  rw [World.putObj_heap_other this]; exact hb
theorem put_mark_below {w0 w : World} {n₀ D : Nat} (h : Below n₀ w0 w) (hD : n₀ ≤ D) (hn : n₀ ≤ w.heap.size) : Below n₀ w0 (w.putObj D (.deferred none)) := h.grown (grownBy_putObj' w D _) hn (fun k e => by cases e; exact hD)
end
section
variable {P : Program} {ops : Array Oper} {Q : Exit → Act → World → Prop} {a : Act} {w : World} {rest : List Oper} {o : Oper} {l n : Nat}
/-- A round's operation that yields a value. -/
theorem ri_run (hw : Region.wanted o (yielded ops a.tmps) = true) (hnd : ∀ c, o.op ≠ .defer c) (v : Value) (w' : World) (he : (execOp a.eval o).run P w = .ok (.value v) w')
    (k : wpListIn (Fence.wide.inRound l) n P ops Q rest (a.put o.dst v) w') : wpListIn (Fence.wide.inRound l) n P ops Q (o :: rest) a w := by
  rw [wpListIn, if_pos hw]
  refine ⟨fun _ _ => trivial, ?_⟩
  rw [show (Fence.wide.inRound l).round = some l from rfl, Oper.semAt_some l a.eval o hnd, he]
  exact k
theorem ri_call (hw : Region.wanted o (yielded ops a.tmps) = true) (hnd : ∀ c, o.op ≠ .defer c) (f : FuncId) (args : Array Value) (he : (execOp a.eval o).run P w = .ok (.enter f args) w) {R : Value → World → Prop}
    (hc : Calls P f args w fun e w' => ∃ v, e = .returned v ∧ R v w')
    (k : ∀ v w', R v w' → wpListIn (Fence.wide.inRound l) n P ops Q rest (a.put o.dst v) w') : wpListIn (Fence.wide.inRound l) n P ops Q (o :: rest) a w := by
  rw [wpListIn, if_pos hw]
  refine ⟨fun _ _ => trivial, ?_⟩
  rw [show (Fence.wide.inRound l).round = some l from rfl, Oper.semAt_some l a.eval o hnd, he, Oper.uponIn_enter]
  refine ⟨fun h => (by cases h), (CallsIn.inRound l (callsIn_wide.2 hc)).mono ?_⟩
  rintro e w' ⟨v, rfl, hR⟩
  exact k v w' hR
theorem ri_skip (hw : Region.wanted o (yielded ops a.tmps) = false) (k : wpListIn (Fence.wide.inRound l) n P ops Q rest (a.put o.dst undef) w) : wpListIn (Fence.wide.inRound l) n P ops Q (o :: rest) a w := by
  rw [wpListIn, if_neg (by rw [hw]; decide)]
  exact ⟨fun _ _ => trivial, k⟩
end
section
variable {n l : Nat} {P : Program} {ops : Array Oper} {md : Region.Mode} {C : World → Prop}
theorem wpIn_of_quietR {o : Oper} {a : Act} {K : Act → Prop} {K' : Act → World → Prop} {Q' : Exit → Act → World → Prop} {w : World} (hnd : ∀ c, o.op ≠ .defer c) (hw : C w) (h : ∀ a w', C w' → K a → K' a w')
    (hh : o.quietIn (Fence.wide.inRound l) n P a C K) : o.wpIn (Fence.wide.inRound l) n P a w K' Q' := by
  obtain ⟨v, h1, h2⟩ := hh
  have h3 := h1 w hw
  unfold Oper.quietAtIn at h3
  unfold Oper.wpIn
  refine ⟨fun _ _ => trivial, ?_⟩
  rw [show (Fence.wide.inRound l).round = some l from rfl, Oper.semAt_some l a.eval o hnd]
  generalize (execOp a.eval o).run P w = r at *
  cases r with
  | ok x w' =>
    cases x <;> simp only [Oper.quietUponIn] at h3 <;> simp only [Oper.uponIn]
    case value u =>
      obtain ⟨e1, e2⟩ := h3
      rw [e1, e2]
      exact h _ _ hw h2
    case skip =>
      obtain ⟨e1, e2⟩ := h3
      rw [e1, ← e2]
      exact h _ _ hw h2
    case enter f args =>
      obtain ⟨e1, hd, hc⟩ := h3
      rw [e1]
      exact ⟨hd, hc.mono fun e w'' ⟨he, hw''⟩ => by subst he; exact h _ _ hw'' h2⟩
  | halt x w' => simp only [Oper.quietUponIn] at h3
theorem wpOpIn_of_qOpInR {i : Nat} {a : Act} {K : Act → Prop} {K' : Act → World → Prop} {Q' : Exit → Act → World → Prop} {w : World} (hnd : ∀ (i : Nat) (o : Oper), ops[i]? = some o → ∀ c, o.op ≠ .defer c) (hC : C w) (h : ∀ a w', C w' → K a → K' a w')
    (hh : qOpIn (Fence.wide.inRound l) n P ops C i K a) : wpOpIn (Fence.wide.inRound l) n P ops Q' i K' a w := by
  unfold qOpIn at hh
  unfold wpOpIn
  split
  · rename_i ho; simp only [ho] at hh; exact h _ _ hC hh
  · rename_i o ho
    simp only [ho] at hh
    obtain ⟨ha, hh⟩ := hh
    split
    · rename_i hw; simp only [hw, if_true] at hh; exact wpIn_of_quietR (hnd i o ho) hC h hh
    · rename_i hw; simp only [hw] at hh; exact ⟨ha w hC, h _ _ hC hh⟩
theorem wpAnyIn_of_quietR {Q : Act → Prop} {Q' : Exit → Act → World → Prop} (hnd : ∀ (i : Nat) (o : Oper), ops[i]? = some o → ∀ c, o.op ≠ .defer c) (hQ : ∀ a w, C w → Q a → Q' .normal a w) : ∀ (fuel : Nat) (listed : Array Bool) (a : Act) (w : World), C w →
    wpAnyQIn (Fence.wide.inRound l) n P md ops C Q fuel listed a → wpAnyIn (Fence.wide.inRound l) n P md ops Q' fuel listed a w
  | 0, _, _, _, hw, h => ⟨h.1, hQ _ _ hw h.2⟩
  | fuel + 1, _, _, _, hw, h => ⟨fun h0 => hQ _ _ hw (h.1 h0), fun i hi => wpOpIn_of_qOpInR hnd hw (fun a' w' hw' => wpAnyIn_of_quietR hnd hQ fuel _ a' w' hw') (h.2 i hi)⟩
/-- A round's region that draws its order and only reads. -/
theorem wpIn_region_quietR {id : Nat} {Q : Exit → Act → World → Prop} {a : Act} {w : World} (hnd : ∀ (i : Nat) (o : Oper), ops[i]? = some o → ∀ c, o.op ≠ .defer c) (hm : P.follows .mixedOrders = true) (hB : Region.lexB .any ops = true) (hC : C w.drew)
    (h : wpQuietIn (Fence.wide.inRound l) n P ops C (fun a' => ∀ w', C w' → Q .normal a' w') ops.toList a) : (Code.region id ops true).wpIn (Fence.wide.inRound l) n P Q a w := by
  simp only [Region.lexB, Bool.and_eq_true] at hB
  refine wpIn_region_any hm (wpAnyIn_of_quietR (Q := fun a' => ∀ w', C w' → Q .normal a' w') hnd (fun _ w' hw' h => h w' hw') _ _ _ _ hC ?_)
  have := wpAnyQIn_lex (F := Fence.wide.inRound l) (n := n) (C := C) (md := .any) hB.1 ops.toList 0 (Array.replicate ops.size false) a (by simp) (by simpa using hB.2) h
  simpa using this
def noDefer (ops : Array Oper) : Bool := ops.all fun o => match o.op with | .defer _ => false | _ => true
theorem of_noDefer {ops : Array Oper} (h : noDefer ops = true) : ∀ (i : Nat) (o : Oper), ops[i]? = some o → ∀ c, o.op ≠ .defer c := fun i o hi c hc => by
  unfold noDefer at h
  rw [Array.all_eq_true] at h
  obtain ⟨hl, hg⟩ := Array.getElem?_eq_some_iff.1 hi
  have := h i hl
  rw [hg, hc] at this
  cases this
theorem rq_run {rest : List Oper} {o : Oper} {a : Act} {Q : Act → Prop} (hw : Region.wanted o (yielded ops a.tmps) = true) (v : Value) (he : ∀ w, C w → (execOp a.eval o).run P w = .ok (.value v) w)
    (k : wpQuietIn (Fence.wide.inRound l) n P ops C Q rest (a.put o.dst v)) : wpQuietIn (Fence.wide.inRound l) n P ops C Q (o :: rest) a := by
  rw [wpQuietIn, if_pos hw]
  exact ⟨fun _ _ _ _ => trivial, v, fun w hw => by unfold Oper.quietAtIn; rw [he w hw]; exact ⟨rfl, rfl⟩, k⟩
theorem rq_skip {rest : List Oper} {o : Oper} {a : Act} {Q : Act → Prop} (hw : Region.wanted o (yielded ops a.tmps) = false)
    (k : wpQuietIn (Fence.wide.inRound l) n P ops C Q rest (a.put o.dst undef)) : wpQuietIn (Fence.wide.inRound l) n P ops C Q (o :: rest) a := by
  rw [wpQuietIn, if_neg (by rw [hw]; decide)]
  exact ⟨fun _ _ _ _ => trivial, k⟩
end
end Go.Proofs.YtadopkifpfmhcaaDoor
namespace Go.Proofs.YtadopkifpfmhcaaDoor
open Go.RowKit Go.Shelf
section
variable {F : Fence} {n : Nat} {P : Program} {ops : Array Oper} {md : Region.Mode} {C : World → Prop}
def wpHeadR (F : Fence) (n : Nat) (P : Program) (md : Region.Mode) (ops : Array Oper) (C : World → Prop) (m : Nat) (L : Array Bool → Act → Prop) : Nat → Array Bool → Act → Prop
  | 0, listed, a => L listed a
  | f + 1, listed, a =>
    Region.ready md ops listed ≠ [] ∧ ∀ i ∈ Region.ready md ops listed, i < m ∧ qOpIn F n P ops C i (wpHeadR F n P md ops C m L f (listed.setIfInBounds i true)) a
theorem wpHeadR_first {m i : Nat} {oi : Oper} {v : Value} {L : Array Bool → Act → Prop} (hi : ops[i]? = some oi) (hsel : ∀ (j : Nat) (o : Oper) cs b, ops[j]? = some o → o.op ≠ .select cs b)
    (hs : Region.sinkB md ops m = true) (hc : Region.chainB md ops m = true) (hn : m < ops.size) (hin : i < m)
    (hdone : ∀ listed a, L listed a → ∀ j ∈ Region.ready md ops listed, m ≤ j) :
    ∀ (f : Nat) (listed : Array Bool) (a : Act), HeadInv md ops m listed →
      (∀ j oj, ops[j]? = some oj → j ≠ i → listed.getD j true = false → (∀ e ∈ oj.after, Region.binds md e = true → e.on ≠ i) → oi.apart ops oj = true) →
      i ∈ Region.ready md ops listed → YieldsQuiet F n P ops C oi v a →
      wpHeadR F n P md ops C m L f (listed.setIfInBounds i true) (a.put oi.dst v) → wpHeadR F n P md ops C m L (f + 1) listed a := by
  intro f
  induction f with
  | zero =>
    intro listed a inv _ hr hy H
    have hun := (mem_ready.1 hr).1
    refine ⟨fun h => (by rw [h] at hr; cases hr), fun j hj => ?_⟩
    have hjn : j < m := by
      rcases Nat.lt_or_ge j m with h | h
      · exact h
      · exact absurd hj (tail_waits hs hc hn inv _ i rfl hin hun j h)
    refine ⟨hjn, ?_⟩
    by_cases hji : j = i
    · subst hji; exact hy.qOpIn hi H
    · have := hdone _ _ H j (ready_mono hj hji)
      omega
  | succ f ih =>
    intro listed a inv hfree hr hy H
    have hun := (mem_ready.1 hr).1
    refine ⟨fun h => (by rw [h] at hr; cases hr), fun j hj => ?_⟩
    have hjn : j < m := by
      rcases Nat.lt_or_ge j m with h | h
      · exact h
      · exact absurd hj (tail_waits hs hc hn inv _ i rfl hin hun j h)
    refine ⟨hjn, ?_⟩
    by_cases hji : j = i
    · subst hji; exact hy.qOpIn hi H
    · have h1 := (H.2 j (ready_mono hj hji)).2
      obtain ⟨hjun, oj, hoj, hall⟩ := mem_ready.1 hj
      have hnot : ∀ e ∈ oj.after, Region.binds md e = true → e.on ≠ i := fun e he hb heq => by
        have h1 := hall e he hb
        rw [heq, getD_both hun] at h1
        cases h1
      have h2 := qOpIn_put hoj (hfree j oj hoj hji hjun hnot) (fun cs b => hsel i oi cs b hi) (fun cs b => hsel j oj cs b hoj) hy h1
      have hfree' : ∀ k ok, ops[k]? = some ok → k ≠ i → (listed.setIfInBounds j true).getD k true = false →
          (∀ e ∈ ok.after, Region.binds md e = true → e.on ≠ i) → oi.apart ops ok = true := fun k ok hk hki hun hno => by
        refine hfree k ok hk hki ?_ hno
        by_cases hjk : j = k
        · subst hjk; exact hjun
        · rw [getD_set_ne true hjk] at hun; exact hun
      refine qOpIn_mono (fun a' h3 => ih (listed.setIfInBounds j true) a' (inv.set hj hjn) hfree' (ready_mono hr (Ne.symm hji)) h3.1 ?_) h2
      rw [Array.setIfInBounds_comm _ _ hji]
      exact h3.2
theorem wpHeadR_lex {m g : Nat} {Lq : Act → Prop} (hsel : Region.noSelect ops = true) (hs : Region.sinkB md ops m = true) (hc : Region.chainB md ops m = true) (hn : m < ops.size) :
    ∀ (l : List Oper) (k : Nat) (listed : Array Bool) (a : Act), (∀ j, j < l.length → l[j]? = ops[k + j]?) → k + l.length = m → HeadInv md ops m listed →
    Region.lexHead md ops g l.length k listed = true → wpQuietIn F n P ops C Lq l a →
    wpHeadR F n P md ops C m (fun listed' a' => Region.seqB md ops g m listed' = true ∧ Lq a') l.length listed a
  | [], k, listed, a, _, hk, _, hB, h => by
    have : k = m := by simpa using hk
    subst this
    exact ⟨by simpa [Region.lexHead] using hB, h⟩
  | o :: l, k, listed, a, hl, hk, inv, hB, h => by
    have h0 : ops[k]? = some o := by simpa using (hl 0 (by simp)).symm
    simp only [List.length_cons, Region.lexHead, Bool.and_eq_true] at hB
    obtain ⟨⟨hr, hf⟩, hB'⟩ := hB
    have hkn : k < m := by simp only [List.length_cons] at hk; omega
    have hr' : k ∈ Region.ready md ops listed := by simpa using hr
    have hst : qOpIn F n P ops C k (wpQuietIn F n P ops C Lq l) a := by unfold qOpIn; simp only [h0]; exact h
    obtain ⟨v, hy, hK⟩ := yieldsQuiet_of_qOpIn h0 hst
    exact wpHeadR_first h0 (Region.noSelect_spec hsel) hs hc hn hkn (fun listed' a' hL => seqB_ready hL.1) l.length listed a inv (Region.free_spec h0 hf) hr' hy
      (wpHeadR_lex hsel hs hc hn l (k + 1) _ _ (fun j hj => by have := hl (j + 1) (by simp; omega); simpa [Nat.add_assoc, Nat.add_comm 1 j] using this) (by simp only [List.length_cons] at hk; omega) (inv.set hr' hkn) hB' hK)
theorem wpAnyIn_of_seq {Q' : Exit → Act → World → Prop} : ∀ (l : List Oper) (k : Nat) (listed : Array Bool) (a : Act) (w : World), (∀ j, l[j]? = ops[k + j]?) →
    Region.seqB md ops l.length k listed = true → wpListIn F n P ops Q' l a w → wpAnyIn F n P md ops Q' l.length listed a w
  | [], _, _, _, _, _, hB, h => ⟨by simpa [Region.seqB] using hB, h⟩
  | o :: l, k, listed, a, w, hl, hB, h => by
    have h0 : ops[k]? = some o := by simpa using (hl 0).symm
    simp only [List.length_cons, Region.seqB, Bool.and_eq_true, decide_eq_true_eq] at hB
    refine ⟨fun h1 => (by rw [hB.1] at h1; cases h1), fun i hi => ?_⟩
    rw [hB.1] at hi
    have hik : i = k := by simpa using hi
    subst hik
    have hw : wpOpIn F n P ops Q' i (wpListIn F n P ops Q' l) a w := by unfold wpOpIn; simp only [h0]; exact h
    exact wpOpIn_mono (fun a' w' h' => wpAnyIn_of_seq l (i + 1) _ a' w' (fun j => by have := hl (j + 1); simpa [Nat.add_assoc, Nat.add_comm 1 j] using this) hB.2 h') hw
end
section
variable {n l : Nat} {P : Program} {ops : Array Oper} {md : Region.Mode} {C : World → Prop}
theorem wpAnyIn_of_headR {m g : Nat} {L : Array Bool → Act → Prop} {Q' : Exit → Act → World → Prop} (hnd : ∀ (i : Nat) (o : Oper), ops[i]? = some o → ∀ c, o.op ≠ .defer c)
    (hL : ∀ listed a w, C w → L listed a → wpAnyIn (Fence.wide.inRound l) n P md ops Q' g listed a w) :
    ∀ (f : Nat) (listed : Array Bool) (a : Act) (w : World), C w → wpHeadR (Fence.wide.inRound l) n P md ops C m L f listed a → wpAnyIn (Fence.wide.inRound l) n P md ops Q' (f + g) listed a w
  | 0, listed, a, w, hw, h => by rw [Nat.zero_add]; exact hL _ _ _ hw h
  | f + 1, listed, a, w, hw, h => by
    rw [show f + 1 + g = (f + g) + 1 by omega]
    exact ⟨fun h0 => absurd h0 h.1, fun i hi => wpOpIn_of_qOpInR hnd hw (fun a' w' hw' h' => wpAnyIn_of_headR hnd hL f _ a' w' hw' h') (h.2 i hi).2⟩
/-- The law. -/
theorem wpIn_region_tailR {id : Nat} {Q : Exit → Act → World → Prop} {a : Act} {w : World} {ls : List Oper} (m : Nat) (C : World → Prop) (hnd : ∀ (i : Nat) (o : Oper), ls.toArray[i]? = some o → ∀ c, o.op ≠ .defer c) (hm : P.follows .mixedOrders = true) (hB : Region.lexTailB .any ls.toArray m = true) (hC : C w.drew)
    (h : wpQuietIn (Fence.wide.inRound l) n P ls.toArray C (fun a' => ∀ w', C w' → wpListIn (Fence.wide.inRound l) n P ls.toArray Q (ls.drop m) a' w') (ls.take m) a) : (Code.region id ls.toArray true).wpIn (Fence.wide.inRound l) n P Q a w := by
  simp only [Region.lexTailB, Bool.and_eq_true, decide_eq_true_eq] at hB
  obtain ⟨⟨⟨⟨hsel, hn⟩, hs⟩, hc⟩, hlex⟩ := hB
  have hn' : m < ls.length := by simpa using hn
  have htl : (ls.take m).length = m := by simp; omega
  have hdl : (ls.drop m).length = ls.toArray.size - m := by simp
  have inv0 : HeadInv .any ls.toArray m (Array.replicate ls.toArray.size false) :=
    ⟨by simp, fun j oj _ hl => (by rw [getD_replicate_false] at hl; cases hl), fun t _ ht => getD_in (by simpa using ht) (getD_replicate_false _ _)⟩
  have H := wpHeadR_lex (md := .any) (g := ls.toArray.size - m) hsel hs hc hn (ls.take m) 0 _ a (fun j hj => by
    have hj' : j < m := by rw [htl] at hj; exact hj
    simp [hj']) (by simpa using htl) inv0 (by rw [htl]; exact hlex) h
  refine wpIn_region_any hm ?_
  have := wpAnyIn_of_headR (Q' := Q) (g := ls.toArray.size - m) hnd (fun listed a' w' hw' hL => by
    have := wpAnyIn_of_seq (md := .any) (Q' := Q) (ls.drop m) m listed a' w' (fun j => by simp [List.getElem?_drop]) (by rw [hdl]; exact hL.1) (hL.2 w' hw')
    rwa [hdl] at this) _ _ _ w.drew hC H
  rw [htl, show m + (ls.toArray.size - m) = ls.toArray.size by omega] at this
  exact this
end
end Go.Proofs.YtadopkifpfmhcaaDoor
namespace Go.Proofs.YtadopkifpfmhcaaDoor
open Go.RowKit Go.Shelf
open Sha (vals Bytes Lies bytesC sumB)
attribute [local go_sem] Oper.semAt_some
section
variable {P : Program} {ops : Array Oper} {Q : Exit → Act → World → Prop} {a : Act} {w : World} {rest : List Oper} {o : Oper} {n : Nat}
theorem wi_run (hw : Region.wanted o (yielded ops a.tmps) = true) (v : Value) (w' : World) (he : (execOp a.eval o).run P w = .ok (.value v) w')
    (k : wpListIn Fence.wide n P ops Q rest (a.put o.dst v) w') : wpListIn Fence.wide n P ops Q (o :: rest) a w := by
  rw [wpListIn, if_pos hw]
  refine ⟨fun _ _ => trivial, ?_⟩
  rw [show Fence.wide.round = none from rfl, Oper.semAt_none, he]
  exact k
end
/-- The entries with their places. -/
def numT (l : List En) (i : Nat) : List (Nat × En) := (List.range i).map fun j => (j, l.getD j default)
theorem numT_snoc (l : List En) (i : Nat) : numT l (i + 1) = numT l i ++ [(i, l.getD i default)] := by simp [numT, List.range_succ]
theorem numT_len (l : List En) (i : Nat) : (numT l i).length = i := by simp [numT]
theorem numT_pre (l : List En) {i m : Nat} (h : i ≤ m) : numT l i <+: numT l m := by
  obtain ⟨d, rfl⟩ : ∃ d, m = i + d := ⟨m - i, by omega⟩
  unfold numT
  rw [List.range_add, List.map_append]
  exact List.prefix_append _ _
def encY (x : Nat × En) : Array Value := #[.int .i64 ((x.1 : Int) + 1), .agg (encE x.2)]
/-- What a round leaves. -/
def KB (n₀ B : Nat) (W W' : World) : Prop := Below n₀ W W' ∧ W'.heap[B]? = W.heap[B]?
theorem KB.trans {n₀ B : Nat} {a b c : World} (h : KB n₀ B a b) (k : KB n₀ B b c) : KB n₀ B a c := ⟨h.1.trans k.1, k.2.trans h.2⟩
theorem each_calls (g : Nat) (w : World) : Calls Tryd.prog 46 #[.pointer (some ⟨g, 0, none⟩)] w fun e w' => e = .returned (.func (.func 59) #[] #[.pointer (some ⟨w.heap.size, 0, none⟩)]) ∧ w' = w.alloc (.cells #[.pointer (some ⟨g, 0, none⟩)] 80) := by
  go_enter Tryd.func46, Tryd.ntmps46
  go_wp2
  go_ret
  exact ⟨rfl, rfl⟩
set_option maxRecDepth 100000 in
set_option maxHeartbeats 4000000 in
theorem each_stops (n : Nat) (hn : 2 ≤ n) (g B n₀ : Nat) (A : Option Addr) (c : Nat) (cs : Array Value) (l : List En) (hl9 : l.length ≤ 1000000000) (w : World) (hn1 : n₀ ≤ w.heap.size) (hB : w.heap[B]? = some (.cells #[.pointer (some ⟨g, 0, none⟩)] 80 (0, 0)))
    (hg : w.heap[g]? = some (.cells cs 82 (0, 0))) (hc3 : cs[3]? = some (.slice A l.length c)) (hg0 : g < n₀) (hy : Rw 35 encE w (.slice A l.length c) l) (hy0 : ∀ q, l ≠ [] → (Value.slice A l.length c).ownBlock = some q → q < n₀) :
    SeqStopsK Fence.wide n Tryd.prog 59 #[.pointer (some ⟨B, 0, none⟩)] encY (KB n₀ B) (fun xs => xs = numT l l.length) (fun pre => pre <+: numT l l.length) l.length w := fun lp J Jx W hW hJ hJx hY h0 => by
  have hgW : W.heap[g]? = some (.cells cs 82 (0, 0)) := heap_kept hg hW
  have hBW : W.heap[B]? = some (.cells #[.pointer (some ⟨g, 0, none⟩)] 80 (0, 0)) := heap_kept hB hW
  have hyW : Hid (Rw 35 encE W (.slice A l.length c) l) := hy.below hW
  have hnW : Hid (n₀ ≤ W.heap.size) := Nat.le_trans hn1 hW.size
  have hcW : W.cell? ⟨B, 0, none⟩ = some (.pointer (some ⟨g, 0, none⟩)) := cell_row hBW rfl
  have hcg : W.cell? ⟨g, 3, none⟩ = some (.slice A l.length c) := cell_row hgW hc3
  have hc3H : Hid (cs[3]? = some (.slice A l.length c)) := hc3
  have hy0H : Hid (∀ q, l ≠ [] → (Value.slice A l.length c).ownBlock = some q → q < n₀) := hy0
  have hI0 : Hid (Below n₀ W W ∧ W.heap[B]? = some (.cells #[.pointer (some ⟨g, 0, none⟩)] 80 (0, 0))) := ⟨Below.refl _ _, hBW⟩
  have hgWH : Hid (W.heap[g]? = some (.cells cs 82 (0, 0))) := hgW
  clear hB hg hy hW hgW hBW hc3 hy0
  refine callsIn_of_wp Tryd.func59 rfl trivial ?_ rfl
  simp only [Tryd.ntmps59, List.size_toArray, List.length_cons, List.length_nil, Nat.reduceAdd, Nat.reduceSub, Array.replicate_succ, Array.replicate_zero, List.push_toArray, List.append_toArray, List.nil_append, List.cons_append]
  obtain ⟨m, hm⟩ : ∃ m, m = l.length := ⟨_, rfl⟩
  have hmH : Hid (m = l.length) := hm
  rw [← hm] at hcg hl9 hY ⊢
  clear hm
  gi_wp2
  clear hcW hcg
  gi_loopw [9] (fun p wr => ∃ i : Nat, i ≤ m ∧ p = .int .i64 (i : Int) ∧ J (numT l i) wr ∧ Hid (Below n₀ W wr ∧ wr.heap[B]? = some (.cells #[.pointer (some ⟨g, 0, none⟩)] 80 (0, 0)))) (fun p _ => m - (intOf p).toNat)
  case atStart => exact ⟨0, by omega, rfl, h0, hI0⟩
  case round =>
    obtain ⟨i, him, rfl, hJs, hI⟩ := hrel
    by_cases hi : i < m
    · have hiI : (i : Int) < (m : Int) := by omega
      have hne : l ≠ [] := fun e => by have := hmH.out; rw [e] at this; simp at this; omega
      have hyr : Rw 35 encE wr (.slice A l.length c) l := hyW.out.kept hI.out.1.size (fun _ q hq => hI.out.1.block q (hy0H.out q hne hq))
      obtain ⟨gb, ob, rfl, hmc, hgb, hel⟩ := hyr.elem i (by rw [← hmH.out]; exact hi)
      obtain ⟨x, hx⟩ : ∃ x, x = l.getD i default := ⟨_, rfl⟩
      rw [← hx] at hel
      have hxH : Hid (x = l.getD i default) := hx
      obtain ⟨fn, tmps, assign, body, hyy, hR⟩ := hY (numT l i) (i, x) wr hJs (by rw [numT_len]; exact hi)
      have hsn : numT l i ++ [(i, x)] = numT l (i + 1) := by rw [numT_snoc, hx]
      rw [hsn] at hR
      have henc : encY (i, x) = #[.int .i64 ((i : Int) + 1), .agg (encE x)] := rfl
      rw [henc] at hyy
      have h1 : Hid (wr.cell? ⟨B, 0, none⟩ = some (.pointer (some ⟨g, 0, none⟩))) := cell_row hI.out.2 rfl
      have h3 : Hid (wr.cell? ⟨g, 3, none⟩ = some (.slice (some ⟨gb, ob, none⟩) m c)) := by
        rw [hmH.out]; exact cell_row ((hI.out.1.block g hg0).trans hgWH.out) hc3H.out
      have helH : Hid (wr.rangeAt gb (ob + i * 35) (encE x).toList) := hel
      clear hx hel hyr hsn henc hne
      gi_upto_region 3 with fail
      refine wpIn_region_lit ?_
      refine wi_run (by kernel_rfl) (.func (.yield lp) #[] #[]) wr (by kernel_rfl) ?_
      simp only [Act.put, fl1, fl2, fl3]
      refine wi_run (by kernel_rfl) (.int .i64 (i : Int)) wr (by kernel_rfl) ?_
      simp only [Act.put, fl1, fl2, fl3]
      refine wi_run (by kernel_rfl) (.int .i64 ((i : Int) + 1)) wr (exec_add2 _ _ rfl (i : Int) 1 (by kernel_rfl) (by kernel_rfl) (by omega) (by omega) wr) ?_
      simp only [Act.put, fl1, fl2, fl3]
      refine wi_run (by kernel_rfl) (.pointer (some ⟨g, 0, none⟩)) wr (exec_load_cell 80 wr _ rfl ⟨B, 0, none⟩ (by kernel_rfl) _ h1.out (fun _ => by kernel_rfl)) ?_
      simp only [Act.put, fl1, fl2, fl3]
      refine wi_run (by kernel_rfl) (.pointer (some ⟨g, 0, none⟩)) wr (by kernel_rfl) ?_
      simp only [Act.put, fl1, fl2, fl3]
      refine wi_run (by kernel_rfl) (.pointer (some ⟨g, 3, none⟩)) wr (by kernel_rfl) ?_
      simp only [Act.put, fl1, fl2, fl3]
      refine wi_run (by kernel_rfl) (.slice (some ⟨gb, ob, none⟩) m c) wr (exec_load_cell 34 wr _ rfl ⟨g, 3, none⟩ (by kernel_rfl) _ h3.out (fun _ => by kernel_rfl)) ?_
      simp only [Act.put, fl1, fl2, fl3]
      refine wi_run (by kernel_rfl) (.int .i64 (i : Int)) wr (by kernel_rfl) ?_
      simp only [Act.put, fl1, fl2, fl3]
      refine wi_run (by kernel_rfl) (.pointer (some ⟨gb, ob + i * 35, none⟩)) wr (exec_index un34 sz34 _ _ rfl gb ob m c i (by kernel_rfl) (by kernel_rfl) hi _) ?_
      simp only [Act.put, fl1, fl2, fl3]
      refine wi_run (by kernel_rfl) (.agg (encE x)) wr (load_en _ _ rfl gb (ob + i * 35) (by kernel_rfl) x helH.out) ?_
      simp only [Act.put, fl1, fl2, fl3]
      clear h1 h3 helH
      gi_wp2_with fail
      refine ⟨fun _ => by omega, ?_⟩
      refine hR.mono ?_
      rintro e W' (⟨rfl, hJ', hk⟩ | ⟨rfl, hJx'⟩)
      · have hI' : Hid (Below n₀ W W' ∧ W'.heap[B]? = some (.cells #[.pointer (some ⟨g, 0, none⟩)] 80 (0, 0))) := ⟨hI.out.1.trans hk.1, hk.2.trans hI.out.2⟩
        clear hk hI
        gi_wp2
        go_roundw
        case rel => exact ⟨i + 1, by omega, by go_num, hJ', hI'⟩
        case measure => simp [intOf]; omega
      · gi_wp2
        refine bodyPost_ret (results_none rfl _ _ _) rfl ?_
        exact ⟨⟨_, rfl⟩, .inr ⟨numT l (i + 1), numT_pre l (by omega), hJx'⟩⟩
    · have hiI : ¬ (i : Int) < (m : Int) := by omega
      obtain rfl : i = m := by omega
      gi_wp2
      go_end0
      exact ⟨⟨_, rfl⟩, .inl hJs⟩
end Go.Proofs.YtadopkifpfmhcaaDoor
namespace Go.Proofs.YtadopkifpfmhcaaDoor
open Go.RowKit Go.Shelf
open Sha (vals Bytes Lies bytesC sumB)
attribute [local go_sem] Oper.semAt_some
abbrev L3 := Int × Int × En
def encL (p : L3) : Array Value := #[.int .i64 p.1, .int .i64 p.2.1] ++ encE p.2.2
theorem encL_size (p : L3) : (encL p).size = 37 := by simp [encL, encE_size']
theorem encL_one (p : L3) : ∀ u ∈ (encL p).toList, u.oneCell' = true := fun u hu => by
  simp only [encL, Array.toList_append, List.mem_append] at hu
  rcases hu with hu | hu
  · simp at hu; rcases hu with rfl | rfl <;> rfl
  · exact encE_one _ u hu
theorem inf55 : (Tryd.prog.info? 55).map (fun i => (i.zero.map (·.cells.size), i.size, i.bytes)) = some (some 37, 37, 88) := by kernel_rfl
theorem inf55p : ∃ i z, Tryd.prog.info? 55 = some i ∧ i.zero = some z ∧ i.size = 37 ∧ i.bytes = 88 ∧ z.cells.size = 37 := by
  have h := inf55
  cases hi : Tryd.prog.info? 55 with
  | none => rw [hi] at h; simp at h
  | some i =>
    rw [hi] at h
    simp only [Option.map_some, Option.some.injEq, Prod.mk.injEq] at h
    obtain ⟨h1, h2, h3⟩ := h
    cases hz : i.zero with
    | none => rw [hz] at h1; simp at h1
    | some z => rw [hz] at h1; exact ⟨i, z, rfl, hz, h2, h3, by simpa using h1⟩
theorem un51 : Tryd.prog.underlying 51 = some (.slice (Tryd.prog.elem 51)) := by kernel_rfl
theorem sz51 : ∀ w, (sizeOf (Tryd.prog.elem 51)).run Tryd.prog w = .ok 37 w := fun w => by kernel_rfl
set_option maxRecDepth 100000 in
theorem exec_bl55 {o : Oper} {a : Act} (x y z : Operand) (ho : o.op = .build 55 #[(0, x), (1, y), (2, z)]) (p : L3) (hx : a.eval x = .int .i64 p.1) (hy : a.eval y = .int .i64 p.2.1) (hz : a.eval z = .agg (encE p.2.2)) (w : World) :
    (execOp a.eval o).run Tryd.prog w = .ok (.value (.agg (encL p))) w := by
  obtain ⟨i, j, e⟩ := p
  unfold execOp
  rw [ho]
  simp only [List.map_toArray, List.map_cons, List.map_nil, hx, hy, hz]
  unfold encL
  simp only []
  rw [encE_ex e]
  kernel_rfl
set_option maxRecDepth 100000 in
theorem exec_bs55 {o : Oper} {a : Act} (x : Operand) (ho : o.op = .buildSlice 51 1 #[(0, x)]) (p : L3) (hx : a.eval x = .agg (encL p)) (w : World) :
    (execOp a.eval o).run Tryd.prog w = .ok (.value (.slice (some ⟨w.heap.size, 0, none⟩) 1 1)) (w.alloc (.cells (encL p) 55)) := by
  obtain ⟨i, j, e⟩ := p
  unfold execOp
  rw [ho]
  simp only [List.map_toArray, List.map_cons, List.map_nil, hx]
  unfold encL
  simp only []
  rw [encE_ex e]
  kernel_rfl
section
variable {o : Oper} {a : Act} {w : World}
theorem exec_store_cell (ty : TypeId) (x y : Operand) (ho : o.op = .store ty x y) (b k : Nat) (hx : a.eval x = .pointer (some ⟨b, k, none⟩)) (v : Value) (hy : a.eval y = v) (u : Value) (hu : w.cell? ⟨b, k, none⟩ = some u) (hf : w.frozen? ⟨b, k, none⟩ = false)
    (hs : ∀ w, (sizeOf ty).run Tryd.prog w = .ok 1 w) (hv : v.cells = #[v]) (h1 : v.oneCell' = true) : (execOp a.eval o).run Tryd.prog w = .ok .skip (w.setCell ⟨b, k, none⟩ v) := by
  unfold execOp
  simp only [ho, hx, hy, Instr.storeAt, Instr.sureAddr, Sem.run_bind, Sem.run_pure, Result.andThen_ok, storeVar, hs, hv]
  simp only [storeCells, List.size_toArray, List.length_cons, List.length_nil, Nat.zero_add, ne_eq, not_true_eq_false, if_false, Sem.run_bind, Sem.run_pure, Sem.run_ite, run_store _ _ _ _ _ h1, Addr.add_mid, Nat.add_zero, hu, hf, Bool.false_eq_true, Result.andThen_ok]
end
section
variable {P : Program} {ops : Array Oper} {Q : Exit → Act → World → Prop} {a : Act} {w : World} {rest : List Oper} {o : Oper} {l n : Nat}
/-- A round's operation that stores. -/
theorem ri_skipped (hw : Region.wanted o (yielded ops a.tmps) = true) (hnd : ∀ c, o.op ≠ .defer c) (w' : World) (he : (execOp a.eval o).run P w = .ok .skip w')
    (k : wpListIn (Fence.wide.inRound l) n P ops Q rest (a.put o.dst undef) w') : wpListIn (Fence.wide.inRound l) n P ops Q (o :: rest) a w := by
  rw [wpListIn, if_pos hw]
  refine ⟨fun _ _ => trivial, ?_⟩
  rw [show (Fence.wide.inRound l).round = some l from rfl, Oper.semAt_some l a.eval o hnd, he]
  exact k
theorem ri_got (hw : Region.wanted o (yielded ops a.tmps) = true) (hnd : ∀ c, o.op ≠ .defer c) {R : Value → World → Prop} (he : ∃ v w', (execOp a.eval o).run P w = .ok (.value v) w' ∧ R v w')
    (k : ∀ v w', R v w' → wpListIn (Fence.wide.inRound l) n P ops Q rest (a.put o.dst v) w') : wpListIn (Fence.wide.inRound l) n P ops Q (o :: rest) a w := by
  obtain ⟨v, w', he, hR⟩ := he
  exact ri_run hw hnd v w' he (k v w' hR)
/-- A range whose loop variable is boxed, in a plain walk. -/
theorem wp_rangeH {α : Type} {g : Operand} {ps : Array Tmp} {assign body : Code} (n : Nat) (h1 : 1 ≤ n) {gf : Nat} {lb : Array Value} (hg : a.eval g = .func (.func gf) #[] lb) (eg : ∀ args w, (callFunc gf args).run P w = .ok (.enter gf args) w)
    {encs : α → Array Value} {n₀ : Nat} {S Sp : List α → Prop} {N : Nat} (hseq : SeqStopsK Fence.wide (n - 1) P gf lb encs (Below n₀) S Sp N w) (hn0 : n₀ ≤ w.heap.size) (hps : ∀ x, (encs x).size = ps.size)
    (I : List α → World → Prop) (Ix : Code → List α → World → Prop) (hI : OwnFrom w.heap.size I) (hIx : ∀ c, OwnFrom w.heap.size (Ix c)) (h0 : I [] w) (Ax : α → Act → World → Prop) (hAx : ∀ x a', OwnFrom w.heap.size (fun (_ : Unit) W => Ax x a' W))
    (hassign : ∀ (l : Nat) (pre : List α) (x : α) (W : World) (K : Act → World → Prop), I pre W → (∀ a' W', KeepsFrom w.heap.size W W' → Below n₀ W W' → I pre W' → Ax x a' W' → K a' W') →
      assign.wpIn (Fence.wide.inRound l) (n - 1 - 1) P (Exit.then K (fun _ _ _ => False)) { tmps := (ps.zip (encs x)).foldl (fun t (p, v) => t.setIfInBounds p v) a.tmps, defers := [] } W)
    (hbody : ∀ (l : Nat) (pre : List α) (x : α) (a' : Act) (W : World), w.heap.size ≤ l → (∃ r, W.heap[l]? = some (.loop r)) → I pre W → Ax x a' W → pre.length < N → body.wpIn (Fence.wide.inRound l) (n - 1 - 1) P (ownPostG w.heap.size (Below n₀) I Ix (pre ++ [x]) W) a' W)
    (hdone : ∀ (D : Nat) (xs : List α) (W : World), w.heap.size ≤ D → S xs → I xs W → W.heap[D]? = some (.deferred (some [])) → Q .normal { a with defers := mark D :: a.defers } W)
    (hstop : ∀ (D : Nat) (c : Code) (pre : List α) (W : World), w.heap.size ≤ D → Sp pre → Ix c pre W → W.heap[D]? = some (.deferred (some [])) → c.wp P Q { a with defers := mark D :: a.defers } W) :
    (Code.rangeFunc g ps assign body).wp P Q a w :=
  (wpIn_wide (n := n)).1 (wpIn_rangeFunc_ownH rfl h1 hg trivial eg hseq belowK_t (belowK_b hn0) (Below.refl _ _) hps I Ix hI hIx h0 Ax hAx hassign hbody hdone
    (fun D c pre W hD hSp hI hK => wpIn_wide.2 (hstop D c pre W hD hSp hI hK)))
end
theorem keeps_below {W W' : World} (h : Below W.heap.size W W') : KeepsOthers W W' := ⟨h.size, fun k o hk _ => heap_kept hk h⟩
theorem own_keeps {β : Type} {B : Nat} {W0 : World} (hB : W0.heap.size ≤ B) : OwnFrom B (fun (_ : β) W => KeepsOthers W0 W) := fun s W W' row hs hg hr =>
  have h : KeepsOthers W0 W := hs
  ⟨Nat.le_trans h.size hg.size, fun k o hk hc => by
    have h1 := h.same k o hk hc
    have hl : k < W0.heap.size := (Array.getElem?_eq_some_iff.1 hk).1
    exact (hg.block k (Array.getElem?_eq_some_iff.1 h1).1 (fun e => by have := (hr k e.symm).1; omega)).trans h1⟩
theorem own_row {β : Type} {B n₀ e size : Nat} {v : Value} {xs : List Value} {k : Nat} : OwnFrom B (fun (_ : β) W => W.ownsRow n₀ e size v k xs) := fun s W W' row hs hg hr => by
  have hs' : W.ownsRow n₀ e size v k xs := hs
  refine hs'.kept hg ?_
  rcases hs'.2 with ⟨rfl, _⟩ | ⟨g, cap, cur, rfl, _, hgb, _⟩
  · exact .inl rfl
  · refine .inr fun e' => ?_
    obtain ⟨_, o, ho, hc⟩ := hr g (by simpa [Value.ownBlock] using e'.symm)
    rw [hgb] at ho; cases ho; cases hc
/-- A label's lines. -/
def lineT (k : Nat) (y : Nat × En) : L3 := ((k : Int), (y.1 : Int) + 1, y.2)
def linesK (k : Nat) (l : List En) : List L3 := (numT l l.length).map (lineT k)
def outL (ls : Nat → List En) (pre : List Nat) : List L3 := pre.flatMap fun k => linesK k (ls k)
theorem outL_snoc (ls : Nat → List En) (pre : List Nat) (k : Nat) : outL ls (pre ++ [k]) = outL ls pre ++ linesK k (ls k) := by simp [outL]
theorem outL_len {ls : Nat → List En} {M : Nat} (hM : ∀ k, k < 64 → (ls k).length ≤ M) : ∀ (pre : List Nat), (∀ k ∈ pre, k < 64) → (outL ls pre).length ≤ pre.length * M
  | [], _ => by simp [outL]
  | k :: pre, h => by
    have h1 := outL_len hM pre (fun j hj => h j (List.mem_cons_of_mem _ hj))
    have h2 := hM k (h k (List.mem_cons_self ..))
    have h3 : (outL ls (k :: pre)).length = (ls k).length + (outL ls pre).length := by simp [outL, linesK, numT_len]
    rw [h3, List.length_cons, Nat.add_mul]; omega
/-- What is known of a receiver: each label's chain and its entries. -/
def LkAt (w0 : World) (u : Value) (ls : Nat → List En) : Prop := ∀ k, k < 64 → ∀ W, Below w0.heap.size w0 W →
  (ls k = [] ∧ Calls Tryd.prog 43 #[u, .int .i64 (k : Int)] W fun e w' => e = .returned (.pointer none) ∧ W = w') ∨
  ∃ g A c cs, g < w0.heap.size ∧ (Calls Tryd.prog 43 #[u, .int .i64 (k : Int)] W fun e w' => e = .returned (.pointer (some ⟨g, 0, none⟩)) ∧ W = w') ∧ W.heap[g]? = some (.cells cs 82 (0, 0)) ∧ cs[3]? = some (.slice A (ls k).length c) ∧
    Rw 35 encE W (.slice A (ls k).length c) (ls k) ∧ ∀ q, ls k ≠ [] → (Value.slice A (ls k).length c).ownBlock = some q → q < w0.heap.size
theorem LkAt.nil (w0 : World) : LkAt w0 (.pointer none) (fun _ => []) := fun k _ W _ => .inl ⟨rfl, of_nil _ _⟩
theorem LogI.lk {w : World} {base L cut labels : Nat} {pv : Value} {G : Nat → Nat} {H E : Nat → Value} {l : Nat → List En} (h : LogI w base L cut labels pv G H E l) : LkAt w (.pointer (some ⟨L, 0, none⟩)) (fun k => if k < labels then l k else []) := fun k hk W hb => by
  have hW := h.below hb
  by_cases hl : k < labels
  · refine .inr ?_
    simp only [if_pos hl]
    obtain ⟨hg0, hrow, hhead, hents⟩ := h.chain k hl
    obtain ⟨A, c, hA⟩ := own_form hents
    rw [hA] at hrow hents
    exact ⟨G k, A, c, _, (Array.getElem?_eq_some_iff.1 hrow).1, of_in hW k hl, heap_kept hrow hb, rfl, (Rw.own encE_size' (by decide) hents).below hb, fun q _ hq => (hents.lt q hq).2⟩
  · refine .inl ⟨by simp only [if_neg hl], of_out hW k (.inr (by omega))⟩
/-- What the walk keeps. -/
structure LFv (w0 : World) (BL : Nat) (u : Value) (Bo : Nat) (v : Value) (l : List L3) (w : World) : Prop where
  hu : w.heap[BL]? = some (.cells #[u] 41 (0, 0))
  ho : w.heap[Bo]? = some (.cells #[v] 51 (0, 0))
  hr : w.ownsRow w0.heap.size 55 37 v l.length (flat encL l)
  hB : Below w0.heap.size w0 w
theorem LFv.below {w0 w w' : World} {BL Bo : Nat} {u v : Value} {l : List L3} (h : LFv w0 BL u Bo v l w) (hb : Below w.heap.size w w') : LFv w0 BL u Bo v l w' :=
  ⟨heap_kept h.hu hb, heap_kept h.ho hb, own_keep h.hr (fun q hq => hb.block q (h.hr.lt q hq).2), h.hB.trans (hb.mono h.hB.size)⟩
def LF (w0 : World) (BL : Nat) (u : Value) (Bo : Nat) (l : List L3) (w : World) : Prop := ∃ v, LFv w0 BL u Bo v l w
theorem LF.own {β : Type} {w0 : World} {BL Bo Bd : Nat} {u : Value} {l : β → List L3} (h2 : w0.heap.size ≤ Bd) : OwnFrom Bd (fun (s : β) W => LF w0 BL u Bo (l s) W) := fun s W W' row hs hg hr => by
  have hs' : LF w0 BL u Bo (l s) W := hs
  obtain ⟨v, hs'⟩ := hs'
  exact ⟨v, own_heap (β := β) (cs := fun _ => #[u]) s W W' row hs'.hu hg hr, own_heap (β := β) (cs := fun _ => #[v]) s W W' row hs'.ho hg hr, own_row (β := β) s W W' row hs'.hr hg hr, ownFrom_below (Nat.le_refl _) h2 s W W' row hs'.hB hg hr⟩
/-- Behind an append and its store. -/
theorem LFv.app {w0 w w1 : World} {BL Bo : Nat} {u v v' : Value} {l l' : List L3} {tmp : Obj} (h : LFv w0 BL u Bo v l w) (hBo : w0.heap.size ≤ Bo)
    (hown : w1.ownsRow w0.heap.size 55 37 v' l'.length (flat encL l')) (hg : (w.alloc tmp).grownBy w1 v.ownBlock) :
    LFv w0 BL u Bo v' l' (w1.setCell ⟨Bo, 0, none⟩ v') ∧ KeepsOthers w (w1.setCell ⟨Bo, 0, none⟩ v') ∧ Below w0.heap.size w (w1.setCell ⟨Bo, 0, none⟩ v') ∧ w1.heap[Bo]? = some (.cells #[v] 51 (0, 0)) ∧
    (∀ (j : Nat) (u : Value) (t : TypeId), w.heap[j]? = some (Obj.cells #[u] t (0, 0)) → t ≠ 55 → t ≠ 51 → (w1.setCell ⟨Bo, 0, none⟩ v').heap[j]? = some (.cells #[u] t (0, 0))) := by
  have hv : Boxed w Bo 51 v := h.ho
  obtain ⟨h1, h2, h3, h4, h5⟩ := hv.appended (tmp := tmp) (by decide) h.hr h.hB.size hBo hown hg
  have k : ∀ (j : Nat) (u : Value) (t : TypeId), w.heap[j]? = some (Obj.cells #[u] t (0, 0)) → t ≠ 55 → t ≠ 51 → (w1.setCell ⟨Bo, 0, none⟩ v').heap[j]? = some (.cells #[u] t (0, 0)) := fun j u t hj ht ht2 => by
    have hb : Boxed w j t u := hj
    have hb1 : Boxed w1 j t u := (hb.alloc tmp).kept hg (hb.not_row ht h.hr)
    have hne : j ≠ Bo := fun e => by rw [e, h.ho] at hj; cases hj; exact ht2 rfl
    exact (heap_setCell_other _ _ _ _ hne).trans hb1
  exact ⟨⟨k BL u 41 h.hu (by decide) (by decide), h2, h3, h.hB.trans h5⟩, h4, h5, h1, k⟩
theorem rw_slice (l : List L3) {w : World} {base : Nat} {v : Value} (h : w.ownsRow base 55 37 v l.length (flat encL l)) : Rw 37 encL w v l := Rw.own encL_size (by decide) h
theorem clipL_calls (l : List L3) (v : Value) (w : World) (hn9 : l.length ≤ 1000000000) (hy : Rw 37 encL w v l) :
    Calls Tryd.prog 47 #[v] w fun e w' => ∃ v, e = .returned v ∧ Rw 37 encL w' v l ∧ w = w' := by
  obtain ⟨A, c, rfl⟩ := hy.form
  obtain ⟨n, hn⟩ : ∃ n, n = l.length := ⟨_, rfl⟩
  rw [← hn] at hy ⊢
  obtain ⟨hc, hy2⟩ := clip_rw hn hy
  go_enter Tryd.func47, Tryd.ntmps47
  go_upto_region 1 with fail
  refine wp_region_lit ?_
  refine sl_run rfl (.slice A n c) w (by kernel_rfl) ?_
  simp only [Act.put, fl1, fl2, fl3]
  refine sl_run rfl (.slice A n c) w (by kernel_rfl) ?_
  simp only [Act.put, fl1, fl2, fl3]
  refine sl_run rfl (.int .i64 n) w (by kernel_rfl) ?_
  simp only [Act.put, fl1, fl2, fl3]
  refine sl_run rfl (.slice A n c) w (by kernel_rfl) ?_
  simp only [Act.put, fl1, fl2, fl3]
  refine sl_run rfl (.int .i64 n) w (by kernel_rfl) ?_
  simp only [Act.put, fl1, fl2, fl3]
  refine sl_run rfl _ w (exec_clip un51 sz51 _ _ _ rfl A n c (by kernel_rfl) (by kernel_rfl) (by kernel_rfl) hc w) ?_
  generalize (if n = 0 then A else A.map (·.add 0)) = A2 at hy2 ⊢
  simp only [Act.put, fl1, fl2, fl3]
  refine sl_run rfl (.slice A2 n n) w (by kernel_rfl) ?_
  simp only [Act.put, fl1, fl2, fl3]
  refine wpList_nil ?_
  go_wp2_with fail
  go_ret
  exact ⟨_, rfl, hy2, rfl⟩
theorem KBB (n₀ B : Nat) {w : World} (hn : n₀ ≤ w.heap.size) (hB : B < w.heap.size) : ∀ (W : World) (l : Nat) (o o' : Obj), w.heap.size ≤ l → W.heap[l]? = some o → o.isCells = false → o.isWalk = false → KB n₀ B W (W.putObj l o') := fun W l o o' hl h h1 h2 =>
  ⟨belowK_b hn W l o o' hl h h1 h2, World.putObj_heap_other (by omega)⟩
theorem rw_putObj {α : Type} [Inhabited α] {k : Nat} {enc : α → Array Value} {w : World} {v : Value} {l : List α} {D : Nat} {b : Option (List Deferred)} (hk : ∀ x, 0 < (enc x).size) (h : Rw k enc w v l) (o' : Obj) (hD : w.heap[D]? = some (.deferred b)) : Rw k enc (w.putObj D o') v l := by
  have hs : (w.putObj D o').heap.size = w.heap.size := by simp [World.putObj]
  refine h.kept (by rw [hs]; exact Nat.le_refl _) (fun hl q hq => ?_)
  refine World.putObj_heap_other (fun e => ?_)
  subst e
  rcases h with ⟨A, c, rfl, rfl, _⟩ | ⟨g, o, c, rfl, _, _, h4⟩
  · exact hl rfl
  · have e2 : g = q := by simpa [Value.ownBlock] using hq
    subst e2
    have hl0 : 0 < l.length := List.length_pos_iff.2 hl
    have h5 := h4 0 hl0 0 ((enc (l.getD 0 default)).toList[0]'(by rw [Array.length_toList]; exact hk _)) (List.getElem?_eq_getElem _)
    simp [World.cell?, hD] at h5
theorem exec_store_en {o : Oper} {a : Act} {w : World} (x y : Operand) (ho : o.op = .store 24 x y) (g : Nat) (hx : a.eval x = .pointer (some ⟨g, 0, none⟩)) (e : En) (hy : a.eval y = .agg (encE e)) (cs : Array Value) (hg : w.heap[g]? = some (.cells cs 24 (0, 0))) (hs : cs.size = 35) :
    (execOp a.eval o).run Tryd.prog w = .ok .skip (w.setRow g (encE e)) := by
  unfold execOp
  simp only [ho, hx, hy, Instr.storeAt, Instr.sureAddr, Sem.run_bind, Sem.run_pure, Result.andThen_ok, run_storeVar_row (P := Tryd.prog) w g 24 24 cs (encE e) hg (by rw [encE_size']; kernel_rfl) (by rw [hs, encE_size']) (encE_all e)]
theorem mem64 {m : Nat} {pre : List (BitOf m)} : ∀ k ∈ pre.map (·.1), k < 64 := fun k hk => by
  obtain ⟨y, _, rfl⟩ := List.mem_map.1 hk
  exact y.2.1
set_option maxRecDepth 100000 in
set_option maxHeartbeats 8000000 in
theorem Lines_calls (p : Option Addr) (m : Nat) (hm : m < 18446744073709551616) (ls : Nat → List En) (hls : ∀ k, k < 64 → (ls k).length ≤ 1000000) (w : World) (hw0 : 0 < w.heap.size) (ht : Tab w) (hlk : LkAt w (.pointer p) ls) :
    Calls Tryd.prog 24 #[.pointer p, .int .u64 (m : Int)] w fun e w' => ∃ v, e = .returned v ∧ Rw 37 encL w' v (outL ls (bl m)) ∧ Below w.heap.size w w' := by
  have hwH : Hid (0 < w.heap.size) := hw0
  have htH : Hid (Tab w) := ht
  have hlkH : Hid (LkAt w (.pointer p) ls) := hlk
  have hlsH : Hid (∀ k, k < 64 → (ls k).length ≤ 1000000) := hls
  obtain ⟨LL, hLL⟩ : ∃ LL, LL = outL ls (bl m) := ⟨_, rfl⟩
  rw [← hLL]
  have hLH : Hid (LL = outL ls (bl m)) := hLL
  obtain ⟨u, hu⟩ : ∃ u, u = Value.pointer p := ⟨_, rfl⟩
  clear hw0 ht hlk hls hLL
  refine calls_marks 9 Tryd.func24 rfl ?_
  simp only [Tryd.ntmps24, List.size_toArray, List.length_cons, List.length_nil, Nat.reduceAdd, Nat.reduceSub, Array.replicate_succ, Array.replicate_zero, List.push_toArray, List.append_toArray, List.nil_append, List.cons_append]
  go_upto_region 2 with fail
  have hW0 : ((w.alloc (.cells #[.pointer p] 41)).alloc (.cells #[.slice none 0 0] 51)).heap[w.heap.size]? = some (.cells #[.pointer p] 41 (0, 0)) := heap_kept (heap_alloc_new _ _) ((Below.refl _ _).alloc (Nat.le_refl _) _)
  have hW1 : ((w.alloc (.cells #[.pointer p] 41)).alloc (.cells #[.slice none 0 0] 51)).heap[w.heap.size + 1]? = some (.cells #[.slice none 0 0] 51 (0, 0)) := by
    have := heap_alloc_new (w.alloc (.cells #[.pointer p] 41)) (.cells #[.slice none 0 0] 51)
    simpa using this
  have hWB : Below w.heap.size w ((w.alloc (.cells #[.pointer p] 41)).alloc (.cells #[.slice none 0 0] 51)) := ((Below.refl _ _).alloc (Nat.le_refl _) _).alloc (by simp) _
  generalize World.alloc (World.alloc _ _) _ = W at hW0 hW1 hWB ⊢
  obtain ⟨BL, hBL⟩ : ∃ B, B = w.heap.size := ⟨_, rfl⟩
  rw [← hBL] at hW0 hW1 ⊢
  obtain ⟨Bo, hBo⟩ : ∃ b, b = BL + 1 := ⟨_, rfl⟩
  rw [← hBo] at hW1 ⊢
  have hBoH : Hid (w.heap.size ≤ Bo) := by show _ ≤ _; omega
  have hu0 : Hid (u = Value.pointer p) := hu
  have hLW : Hid (LFv w BL (.pointer p) Bo (.slice none 0 0) [] W) := ⟨hW0, hW1, World.ownsRow_nil _ _ _ _, hWB⟩
  clear hW0 hW1 hWB hBo hBL hu
  refine wp_region_lit ?_
  refine sl_run rfl (.int .u64 (m : Int)) W (by kernel_rfl) ?_
  simp only [Act.put, fl1, fl2, fl3]
  refine sl_call rfl 45 #[.int .u64 (m : Int)] (by kernel_rfl) (R := fun v w' => v = .func (.func 57) #[] #[.pointer (some ⟨W.heap.size, 0, none⟩)] ∧ w' = W.alloc (.cells #[.int .u64 (m : Int)] 45)) ((bits_calls m W).mono fun e w' h => ⟨_, h.1, rfl, h.2⟩) ?_
  rintro _ _ ⟨rfl, rfl⟩
  simp only [Act.put, fl1, fl2, fl3]
  refine wpList_nil ?_
  have hb8 : Below W.heap.size W (W.alloc (.cells #[.int .u64 (m : Int)] 45)) := (Below.refl _ _).alloc (Nat.le_refl _) _
  have hm8 : (W.alloc (.cells #[.int .u64 (m : Int)] 45)).heap[W.heap.size]? = some (.cells #[.int .u64 (m : Int)] 45 (0, 0)) := heap_alloc_new _ _
  obtain ⟨bm, hbm⟩ : ∃ b, b = W.heap.size := ⟨_, rfl⟩
  rw [← hbm] at hm8 ⊢
  generalize W.alloc _ = w8 at hb8 hm8 ⊢
  have hL8 : Hid (LFv w BL (.pointer p) Bo (.slice none 0 0) [] w8) := hLW.out.below hb8
  have htab8 : Hid (Tab w8) := htH.out.below hwH.out hL8.out.hB
  have hwle : w.heap.size ≤ w8.heap.size := hL8.out.hB.size
  clear hb8 hbm hLW
  rename_i hK
  refine hK _ _ ?_
  clear hK
  refine wp_block ?_
  refine wp_rangeH 9 (by decide) (gf := 57) (lb := #[.pointer (some ⟨bm, 0, none⟩)]) rfl (enters_of Tryd.func57 (by kernel_rfl) rfl)
    (bits_stops 8 (by decide) m bm w.heap.size hm w8 hwH.out hwle (by rw [cell_of_row _ _ _ _ _ _ hm8]; rfl) ((Array.getElem?_eq_some_iff.1 hm8).1) htab8.out) hwle (fun _ => rfl)
    (fun pre W => LF w BL (.pointer p) Bo (outL ls (pre.map (·.1))) W)
    (fun c pre W => False)
    (LF.own hwle)
    (fun c => own_false)
    ⟨_, hL8.out⟩
    (fun x a' W => ∃ q, W.heap[q]? = some (.cells #[.int .i64 (x.1 : Int)] 3 (0, 0)) ∧ a' = { tmps := #[.pointer p, .int .u64 (m : Int), .pointer (some ⟨BL, 0, none⟩), undef, .slice none 0 0, .pointer (some ⟨Bo, 0, none⟩), .pointer (some ⟨q, 0, none⟩), undef, undef, undef, .int .u64 (m : Int), .func (.func 57) #[] #[.pointer (some ⟨bm, 0, none⟩)], .int .i64 (x.1 : Int), undef, undef, undef, undef, undef, undef, undef, undef, undef, undef, undef, undef, undef, undef, undef, undef, undef, undef], defers := [] })
    (fun x a' _ X Y row hs hg hr => by obtain ⟨q, e2, e3⟩ := hs; exact ⟨q, own_heap (β := Unit) (cs := fun _ => #[.int .i64 (x.1 : Int)]) () X Y row e2 hg hr, e3⟩) ?assign ?body ?done ?stop
  case assign =>
    rintro l pre x W K ⟨v, hP⟩ hK
    simp only [encB]
    have hP : Hid (LFv w BL (.pointer p) Bo v (outL ls (pre.map (·.1))) W) := hP
    have hn0 : (W.alloc (.cells #[.int .i64 0] 3)).heap[W.heap.size]? = some (.cells #[.int .i64 0] 3 (0, 0)) := heap_alloc_new _ _
    refine wpIn_region_lit ?_
    refine ri_run (by kernel_rfl) (by intro c hc; cases hc) (.pointer (some ⟨W.heap.size, 0, none⟩)) (W.alloc (.cells #[.int .i64 0] 3)) (by kernel_rfl) ?_
    simp only [Act.put, fl1, fl2, fl3]
    refine ri_skipped (by kernel_rfl) (by intro c hc; cases hc) ((W.alloc (.cells #[.int .i64 0] 3)).setCell ⟨W.heap.size, 0, none⟩ (.int .i64 (x.1 : Int))) (exec_store_cell 3 _ _ rfl W.heap.size 0 (by kernel_rfl) (.int .i64 (x.1 : Int)) (by kernel_rfl) (.int .i64 0) (by rw [cell_of_row _ _ _ _ _ _ hn0]; rfl) (frozen_of_row _ _ _ _ _ hn0) (fun _ => by kernel_rfl) rfl rfl) ?_
    simp only [Act.put]
    refine wpListIn_nil ?_
    have hn1 := heap_setCell_same _ _ 0 _ _ (.int .i64 (x.1 : Int)) hn0
    have hb1 : Below W.heap.size W ((W.alloc (.cells #[.int .i64 0] 3)).setCell ⟨W.heap.size, 0, none⟩ (.int .i64 (x.1 : Int))) := ((Below.refl _ _).alloc (Nat.le_refl _) _).setCell (Nat.le_refl _) _
    exact hK _ _ ((keeps_below hb1).from _) (hb1.mono hP.out.hB.size) ⟨v, hP.out.below hb1⟩ ⟨W.heap.size, hn1, by kernel_rfl⟩
  case stop =>
    rintro D cc pre W hD hSp hF hK
    exact hF.elim
  case done =>
    rintro D xs W hD hS ⟨v, hP⟩ hK
    have hPD : Hid (LFv w BL (.pointer p) Bo v LL W) := by
      have h9 : outL ls (xs.map (·.1)) = LL := by rw [hLH.out, hS]
      rw [h9] at hP; exact hP
    have hDH : Hid (W.heap[D]? = some (.deferred (some []))) := hK
    have hDw : Hid (w.heap.size ≤ D) := Nat.le_trans hwle hD
    have hlen : LL.length ≤ 1000000000 := by
      have h1 := outL_len hlsH.out (bl m) (fun k hk => by have := (List.mem_filter.1 hk).1; exact List.mem_range.1 this)
      have h2 := bl_len m
      rw [hLH.out]
      have : (bl m).length * 1000000 ≤ 64 * 1000000 := Nat.mul_le_mul_right _ h2
      omega
    clear hP hK hS hL8 htab8 hm8
    have cO : W.cell? ⟨Bo, 0, none⟩ = some v := by rw [cell_of_row _ _ _ _ _ _ hPD.out.ho]; rfl
    obtain ⟨Av, cv, hAv⟩ := own_form hPD.out.hr
    rw [hAv] at cO
    go_upto_region 10 with fail
    refine wp_region_lit ?_
    refine sl_run rfl (.slice Av LL.length cv) W (exec_load_cell 51 W _ rfl ⟨Bo, 0, none⟩ (by kernel_rfl) _ cO (fun _ => by kernel_rfl)) ?_
    simp only [Act.put, fl1, fl2, fl3]
    refine sl_call rfl 47 #[.slice Av LL.length cv] (by kernel_rfl) (R := fun v w' => Rw 37 encL w' v LL ∧ W = w') ((clipL_calls LL _ W hlen (by rw [← hAv]; exact rw_slice LL hPD.out.hr)).mono fun e w' h => by
      obtain ⟨v, h1, h2, h3⟩ := h
      exact ⟨v, h1, h2, h3⟩) ?_
    rintro v9 _ ⟨hv9, rfl⟩
    simp only [Act.put, fl1, fl2, fl3]
    refine sl_run rfl (v9) W (by kernel_rfl) ?_
    simp only [Act.put, fl1, fl2, fl3]
    refine wpList_nil ?_
    rename_i hK
    refine hK _ _ (wp_ret ?_)
    change bodyPostM Fence.wide 9 Tryd.prog Tryd.f24 (fun e w' => ∃ v, e = .returned v ∧ Rw 37 encL w' v LL ∧ Below w.heap.size w w') .ret _ _
    exact bodyM_marks (fun w' => Rw 37 encL w' v9 LL ∧ Below w.heap.size w w') [D] (by kernel_rfl) (by simp) (fun D' h' => by rw [List.mem_singleton.1 h']; exact hDH.out) ⟨hv9, hPD.out.hB⟩
      (fun w' D' hD' hC hk => ⟨rw_putObj (fun x => by rw [encL_size]; decide) hC.1 _ hk, put_mark_below hC.2 (by rw [List.mem_singleton.1 hD']; exact hDw.out) hC.2.size⟩)
      (fun w' hC => ⟨v9, by rw [results_tmp (t := 4) rfl]; rfl, v9, rfl, hC.1, hC.2⟩)
  case body =>
    rintro l pre x a' W hl ⟨rl, hrl⟩ ⟨v, hP⟩ ⟨q, hqW, rfl⟩ hlt64
    have hx64 := x.2.1
    have hP' : Hid (LFv w BL (.pointer p) Bo v (outL ls (pre.map (·.1))) W) := hP
    have hrl' : Hid (W.heap[l]? = some (.loop rl)) := hrl
    obtain ⟨k, hk⟩ : ∃ kx, kx = x.1 := ⟨_, rfl⟩
    have hkH : Hid (k = x.1) := hk
    rw [← hk] at hqW hx64 ⊢
    have hqW' : Hid (W.heap[q]? = some (.cells #[.int .i64 (k : Int)] 3 (0, 0))) := hqW
    have hpl : (outL ls (pre.map (·.1))).length ≤ 64 * 1000000 := by
      have h1 := outL_len hlsH.out (pre.map (·.1)) mem64
      rw [List.length_map] at h1
      exact Nat.le_trans h1 (Nat.mul_le_mul_right _ (Nat.le_of_lt hlt64))
    have hlsk := hlsH.out k hx64
    have hnext : outL ls ((pre ++ [x]).map (·.1)) = outL ls (pre.map (·.1)) ++ linesK k (ls k) := by rw [List.map_append, hk]; exact outL_snoc ls _ _
    have hnextH : Hid (outL ls ((pre ++ [x]).map (·.1)) = outL ls (pre.map (·.1)) ++ linesK k (ls k)) := hnext
    have hlkk := hkH
    have hlka := hkH
    clear hP hqW hrl hk hL8 hm8 hnext hlkk hlka
    refine wpIn_block ?_
    refine wpIn_seq ?_
    have hlo := hlkH.out k hx64 W hP'.out.hB
    refine wpIn_region_lit ?_
    refine ri_run (by kernel_rfl) (by intro c hc; cases hc) (.pointer p) W (exec_load_cell 41 W _ rfl ⟨BL, 0, none⟩ (by kernel_rfl) _ (by rw [cell_of_row _ _ _ _ _ _ hP'.out.hu]; rfl) (fun _ => by kernel_rfl)) ?_
    simp only [Act.put, fl1, fl2, fl3]
    refine ri_run (by kernel_rfl) (by intro c hc; cases hc) (.int .i64 (k : Int)) W (exec_load_cell 3 W _ rfl ⟨q, 0, none⟩ (by kernel_rfl) _ (by rw [cell_of_row _ _ _ _ _ _ hqW'.out]; rfl) (fun _ => by kernel_rfl)) ?_
    simp only [Act.put, fl1, fl2, fl3]
    rcases hlo with ⟨hnil, hc43⟩ | ⟨g, A, c, cs, hg0, hc43, hgrow, hcs3, hrwk, hown⟩
    · have hnilH : Hid (ls k = []) := hnil
      refine ri_call (by kernel_rfl) (by intro c hc; cases hc) 43 #[.pointer p, .int .i64 (k : Int)] (by kernel_rfl) (R := fun v w' => v = .pointer none ∧ W = w') (hc43.mono fun e w' h => ⟨_, h.1, rfl, h.2⟩) ?_
      rintro _ _ ⟨rfl, rfl⟩
      simp only [Act.put, fl1, fl2, fl3]
      refine ri_run (by kernel_rfl) (by intro c hc; cases hc) (.pointer none) W (by kernel_rfl) ?_
      simp only [Act.put, fl1, fl2, fl3]
      refine wpListIn_nil ?_
      refine wpIn_seq ?_
      refine wpIn_seq ?_
      refine wpIn_region_lit ?_
      refine ri_run (by kernel_rfl) (by intro c hc; cases hc) (.pointer none) W (by kernel_rfl) ?_
      simp only [Act.put, fl1, fl2, fl3]
      refine ri_run (by kernel_rfl) (by intro c hc; cases hc) (.bool true) W (by kernel_rfl) ?_
      simp only [Act.put, fl1, fl2, fl3]
      refine wpListIn_nil ?_
      refine wpIn_cond_true (by kernel_rfl) ?_
      refine wpIn_exit ?_
      refine ⟨(KeepsOthers.refl _).from _, Below.refl _ _, v, ?_⟩
      rw [hnextH.out, hnilH.out]
      simpa [linesK, numT] using hP'.out
    · have hgrH : Hid (W.heap[g]? = some (.cells cs 82 (0, 0))) := hgrow
      have hcsH : Hid (cs[3]? = some (.slice A (ls k).length c)) := hcs3
      have hrwH : Hid (Rw 35 encE W (.slice A (ls k).length c) (ls k)) := hrwk
      have hownH : Hid (∀ q, ls k ≠ [] → (Value.slice A (ls k).length c).ownBlock = some q → q < w.heap.size) := hown
      clear hgrow hcs3 hrwk hown
      refine ri_call (by kernel_rfl) (by intro c hc; cases hc) 43 #[.pointer p, .int .i64 (k : Int)] (by kernel_rfl) (R := fun v w' => v = .pointer (some ⟨g, 0, none⟩) ∧ W = w') (hc43.mono fun e w' h => ⟨_, h.1, rfl, h.2⟩) ?_
      rintro _ _ ⟨rfl, rfl⟩
      simp only [Act.put, fl1, fl2, fl3]
      refine ri_run (by kernel_rfl) (by intro c hc; cases hc) (.pointer (some ⟨g, 0, none⟩)) W (by kernel_rfl) ?_
      simp only [Act.put, fl1, fl2, fl3]
      refine wpListIn_nil ?_
      refine wpIn_seq ?_
      refine wpIn_seq ?_
      refine wpIn_region_lit ?_
      refine ri_run (by kernel_rfl) (by intro c hc; cases hc) (.pointer (some ⟨g, 0, none⟩)) W (by kernel_rfl) ?_
      simp only [Act.put, fl1, fl2, fl3]
      refine ri_run (by kernel_rfl) (by intro c hc; cases hc) (.bool false) W (by kernel_rfl) ?_
      simp only [Act.put, fl1, fl2, fl3]
      refine wpListIn_nil ?_
      refine wpIn_cond_false (by kernel_rfl) ?_
      refine wpIn_skip ?_
      refine wpIn_seq ?_
      refine wpIn_region_lit ?_
      refine ri_run (by kernel_rfl) (by intro c hc; cases hc) (.pointer (some ⟨g, 0, none⟩)) W (by kernel_rfl) ?_
      simp only [Act.put, fl1, fl2, fl3]
      refine ri_call (by kernel_rfl) (by intro c hc; cases hc) 46 #[.pointer (some ⟨g, 0, none⟩)] (by kernel_rfl) (R := fun v w' => v = .func (.func 59) #[] #[.pointer (some ⟨W.heap.size, 0, none⟩)] ∧ w' = W.alloc (.cells #[.pointer (some ⟨g, 0, none⟩)] 80)) ((each_calls g W).mono fun e w' h => ⟨_, h.1, rfl, h.2⟩) ?_
      rintro _ _ ⟨rfl, rfl⟩
      simp only [Act.put, fl1, fl2, fl3]
      refine wpListIn_nil ?_
      have hb3 : Below W.heap.size W (W.alloc (.cells #[.pointer (some ⟨g, 0, none⟩)] 80)) := (Below.refl _ _).alloc (Nat.le_refl _) _
      have hm3 : (W.alloc (.cells #[.pointer (some ⟨g, 0, none⟩)] 80)).heap[W.heap.size]? = some (.cells #[.pointer (some ⟨g, 0, none⟩)] 80 (0, 0)) := heap_alloc_new _ _
      generalize W.heap.size = B2 at hm3 ⊢
      generalize W.alloc _ = x3 at hb3 hm3 ⊢
      have hP3 : Hid (LFv w BL (.pointer p) Bo v (outL ls (pre.map (·.1))) x3) := hP'.out.below hb3
      have hq3 : Hid (x3.heap[q]? = some (.cells #[.int .i64 (k : Int)] 3 (0, 0))) := heap_kept hqW'.out hb3
      have hm3H : Hid (x3.heap[B2]? = some (.cells #[.pointer (some ⟨g, 0, none⟩)] 80 (0, 0))) := hm3
      have hwle3 : w.heap.size ≤ x3.heap.size := hP3.out.hB.size
      have hrl3 : x3.heap[l]? = some (.loop rl) := heap_kept hrl'.out hb3
      have hkW : Hid (KeepsOthers W x3) := keeps_below hb3
      have hbW : Hid (Below w.heap.size W x3) := hb3.mono hP'.out.hB.size
      have hg3 := heap_kept hgrH.out hb3
      have hrw3 := hrwH.out.below hb3
      have hB2l := (Array.getElem?_eq_some_iff.1 hm3).1
      obtain ⟨lk, hlkE⟩ : ∃ l9, l9 = ls k := ⟨_, rfl⟩
      rw [← hlkE] at hlsk hrw3
      have hcs9 := hcsH.out
      rw [← hlkE] at hcs9
      have hown9 := hownH.out
      rw [← hlkE] at hown9
      rw [← hlkE] at hnextH
      refine wpIn_block ?_
      refine wpIn_rangeFunc_ownN (n := 7) (l₀ := l) (r₀ := rl) rfl hrl3 (by decide) (gf := 59) (lb := #[.pointer (some ⟨B2, 0, none⟩)]) rfl trivial (enters_of Tryd.func59 (by kernel_rfl) rfl)
        ((each_stops 6 (by decide) g B2 w.heap.size A c cs lk (by omega) x3 hwle3 hm3 hg3 hcs9 hg0 hrw3 (fun q h1 h2 => hown9 q h1 h2)).inRound l) KB.trans (KBB _ _ hwle3 hB2l) (Below.refl _ _) (fun _ => rfl)
        (fun (yre : List (Nat × En)) W' => (LF w BL (.pointer p) Bo (outL ls (pre.map (·.1)) ++ yre.map (lineT k)) W' ∧ (W'.heap[q]? = some (.cells #[.int .i64 (k : Int)] 3 (0, 0)) ∧ W'.heap[B2]? = some (.cells #[.pointer (some ⟨g, 0, none⟩)] 80 (0, 0)))) ∧ (KeepsOthers x3 W' ∧ Below w.heap.size x3 W'))
        (fun c yre W' => False)
        (OwnFrom.and (OwnFrom.and (LF.own hwle3) (OwnFrom.and (own_heap (cs := fun _ => #[.int .i64 (k : Int)])) (own_heap (cs := fun _ => #[.pointer (some ⟨g, 0, none⟩)])))) (OwnFrom.and (own_keeps (Nat.le_refl _)) (ownFrom_below hwle3 hwle3)))
        (fun c => own_false)
        ⟨⟨⟨v, by simpa using hP3.out⟩, hq3.out, hm3H.out⟩, KeepsOthers.refl _, Below.refl _ _⟩
        (fun (y : Nat × En) a' W' => ∃ qe, W'.heap[qe]? = some (.cells (encE y.2) 24 (0, 0)) ∧ a' = { tmps := #[.pointer p, .int .u64 (m : Int), .pointer (some ⟨BL, 0, none⟩), undef, .slice none 0 0, .pointer (some ⟨Bo, 0, none⟩), .pointer (some ⟨q, 0, none⟩), .pointer (some ⟨g, 0, none⟩), .int .i64 ((y.1 : Int) + 1), .pointer (some ⟨qe, 0, none⟩), .int .u64 (m : Int), .func (.func 57) #[] #[.pointer (some ⟨bm, 0, none⟩)], .int .i64 (k : Int), .pointer p, .int .i64 (k : Int), .pointer (some ⟨g, 0, none⟩), .pointer (some ⟨g, 0, none⟩), .bool false, .pointer (some ⟨g, 0, none⟩), .func (.func 59) #[] #[.pointer (some ⟨B2, 0, none⟩)], .int .i64 ((y.1 : Int) + 1), .agg (encE y.2), undef, undef, undef, undef, undef, undef, undef, undef, undef], defers := [] })
        (fun y a' _ X Y row hs hg hr => by obtain ⟨qe, e2, e3⟩ := hs; exact ⟨qe, own_heap (β := Unit) (cs := fun _ => encE y.2) () X Y row e2 hg hr, e3⟩) ?assign2 ?body2 ?done2 ?stop2
      case stop2 =>
        intro c yre W' hSp hF
        exact hF.elim
      case assign2 =>
        rintro l2 yre y W' K ⟨⟨⟨v, hP⟩, hq, hB2W⟩, hko, hbo⟩ hK
        simp only [encY]
        have hP : Hid (LFv w BL (.pointer p) Bo v (outL ls (pre.map (·.1)) ++ yre.map (lineT k)) W') := hP
        refine wpIn_seq ?_
        refine wpIn_region_lit ?_
        refine ri_run (by kernel_rfl) (by intro c hc; cases hc) (.int .i64 ((y.1 : Int) + 1)) W' (by kernel_rfl) ?_
        simp only [Act.put, fl1, fl2, fl3]
        refine wpListIn_nil ?_
        refine wpIn_region_lit ?_
        refine ri_run (by kernel_rfl) (by intro c hc; cases hc) (.pointer (some ⟨W'.heap.size, 0, none⟩)) (W'.alloc (.cells (encE default) 24)) (by kernel_rfl) ?_
        simp only [Act.put, fl1, fl2, fl3]
        refine ri_skipped (by kernel_rfl) (by intro c hc; cases hc) ((W'.alloc (.cells (encE default) 24)).setRow W'.heap.size (encE y.2)) (exec_store_en _ _ rfl W'.heap.size (by kernel_rfl) y.2 (by kernel_rfl) (encE default) (heap_alloc_new _ _) (encE_size' _)) ?_
        simp only [Act.put]
        refine wpListIn_nil ?_
        have hn1 : ((W'.alloc (.cells (encE default) 24)).setRow W'.heap.size (encE y.2)).heap[W'.heap.size]? = some (.cells (encE y.2) 24 (0, 0)) := setRow_heap _ _ _ _ _ _ (heap_alloc_new _ _)
        have hb1 : Below W'.heap.size W' ((W'.alloc (.cells (encE default) 24)).setRow W'.heap.size (encE y.2)) := below_setRow ((Below.refl _ _).alloc (Nat.le_refl _) _) (Nat.le_refl _) _
        exact hK _ _ ((keeps_below hb1).from _) ⟨hb1.mono hP.out.hB.size, hb1.block B2 (Nat.lt_of_lt_of_le hB2l hko.size)⟩ ⟨⟨⟨v, hP.out.below hb1⟩, heap_kept hq hb1, heap_kept hB2W hb1⟩, hko.trans (keeps_below hb1), hbo.trans (hb1.mono hP.out.hB.size)⟩ ⟨W'.heap.size, hn1, by kernel_rfl⟩
      case done2 =>
        rintro xs W' hS ⟨⟨⟨v, hP⟩, hq, hB2W⟩, hko, hbo⟩
        refine ⟨(hkW.out.trans hko).from _, hbW.out.trans hbo, v, ?_⟩
        rw [hnextH.out]
        rw [hS] at hP
        exact hP
      case body2 =>
        rintro l2 yre y a' W' hl2 _ ⟨⟨⟨v, hP⟩, hq, hB2W⟩, hko, hbo⟩ ⟨qe, hqe, rfl⟩ hlt2
        have hPH : Hid (LFv w BL (.pointer p) Bo v (outL ls (pre.map (·.1)) ++ yre.map (lineT k)) W') := hP
        have hqH : Hid (W'.heap[q]? = some (.cells #[.int .i64 (k : Int)] 3 (0, 0))) := hq
        have hqeH : Hid (W'.heap[qe]? = some (.cells (encE y.2) 24 (0, 0))) := hqe
        obtain ⟨Av, cv, hAv⟩ := own_form hP.hr
        obtain ⟨ln, hln⟩ : ∃ n, n = (outL ls (pre.map (·.1)) ++ yre.map (lineT k)).length := ⟨_, rfl⟩
        have hlnb : ln ≤ 65 * 1000000 := by
          rw [hln, List.length_append, List.length_map]; omega
        rw [← hln] at hAv
        have hlnH : Hid (ln = (outL ls (pre.map (·.1)) ++ yre.map (lineT k)).length) := hln
        clear hP hq hqe hln
        refine wpIn_block ?_
        refine wpIn_region_lit ?_
        refine ri_run (by kernel_rfl) (by intro c hc; cases hc) v W' (exec_load_cell 51 W' _ rfl ⟨Bo, 0, none⟩ (by kernel_rfl) _ (by rw [cell_of_row _ _ _ _ _ _ hPH.out.ho]; rfl) (fun _ => by kernel_rfl)) ?_
        simp only [Act.put, fl1, fl2, fl3]
        refine ri_run (by kernel_rfl) (by intro c hc; cases hc) (.int .i64 (k : Int)) W' (exec_load_cell 3 W' _ rfl ⟨q, 0, none⟩ (by kernel_rfl) _ (by rw [cell_of_row _ _ _ _ _ _ hqH.out]; rfl) (fun _ => by kernel_rfl)) ?_
        simp only [Act.put, fl1, fl2, fl3]
        refine ri_run (by kernel_rfl) (by intro c hc; cases hc) (.int .i64 ((y.1 : Int) + 1)) W' (by kernel_rfl) ?_
        simp only [Act.put, fl1, fl2, fl3]
        refine ri_run (by kernel_rfl) (by intro c hc; cases hc) (.agg (encE y.2)) W' (exec_load_row 24 W' _ rfl qe (by kernel_rfl) 24 (encE y.2) (0, 0) _ hqeH.out Tryd.underlying24 rfl (by rw [encE_size']; kernel_rfl)) ?_
        simp only [Act.put, fl1, fl2, fl3]
        refine ri_run (by kernel_rfl) (by intro c hc; cases hc) (.agg (encL (lineT k y))) W' (exec_bl55 _ _ _ rfl (lineT k y) (by kernel_rfl) (by kernel_rfl) (by kernel_rfl) W') ?_
        simp only [Act.put, fl1, fl2, fl3]
        refine ri_run (by kernel_rfl) (by intro c hc; cases hc) (.slice (some ⟨W'.heap.size, 0, none⟩) 1 1) (W'.alloc (.cells (encL (lineT k y)) 55)) (exec_bs55 _ rfl (lineT k y) (by kernel_rfl) W') ?_
        simp only [Act.put, fl1, fl2, fl3]
        obtain ⟨i55, z55, hi, hz, hs37, hbt, hzs⟩ := inf55p
        have hnew : (W'.alloc (.cells (encL (lineT k y)) 55)).heap[W'.heap.size]? = some (.cells (encL (lineT k y)) 55 (0, 0)) := heap_alloc_new _ _
        have hrg : ∀ i, i < [lineT k y].length → (W'.alloc (.cells (encL (lineT k y)) 55)).rangeAt W'.heap.size (0 + i * 37) (encL ([lineT k y].getD i default)).toList := fun i hi => by
          have : i = 0 := by simpa using hi
          subst this
          intro j u hu
          simp only [Nat.zero_add, Nat.zero_mul]
          rw [cell_of_row _ _ _ _ _ _ hnew]
          simpa using hu
        refine ri_got (by kernel_rfl) (by intro c hc; cases hc) (exec_appendW 51 55 88 i55 z55 un51 hi hz hs37 hbt hzs (by decide) encL_size encL_one _ _ rfl w.heap.size v _ [lineT k y] (by kernel_rfl) (hPH.out.below ((Below.refl _ _).alloc (Nat.le_refl _) _)).hr W'.heap.size 0 1 (by kernel_rfl) hrg (by rw [← hlnH.out]; simp; omega) (by rw [← hlnH.out]; simp; omega) (Nat.le_trans hPH.out.hB.size (by simp))) ?_
        rintro v' y1 ⟨hown', hgrow, _⟩
        have hl' : (outL ls (pre.map (·.1)) ++ yre.map (lineT k)) ++ [lineT k y] = outL ls (pre.map (·.1)) ++ (yre ++ [y]).map (lineT k) := by simp
        rw [hl'] at hown'
        obtain ⟨a1, a2, a3, a4, a5⟩ := hPH.out.app hBoH.out hown' hgrow
        obtain ⟨A', c', hA'⟩ := own_form hown'
        simp only [Act.put, fl1, fl2, fl3]
        refine ri_skipped (by kernel_rfl) (by intro c hc; cases hc) (y1.setCell ⟨Bo, 0, none⟩ v') (exec_store_cell 51 _ _ rfl Bo 0 (by kernel_rfl) v' (by kernel_rfl) v (by rw [cell_of_row _ _ _ _ _ _ a4]; rfl) (frozen_of_row _ _ _ _ _ a4) (fun _ => by kernel_rfl) (by rw [hA']; rfl) (by rw [hA']; rfl)) ?_
        simp only [Act.put, fl1, fl2, fl3]
        refine wpListIn_nil ?_
        exact ⟨a2.from _, ⟨a3, (a5 B2 _ 80 hB2W (by decide) (by decide)).trans hB2W.symm⟩, ⟨⟨_, a1⟩, a5 q _ 3 hqH.out (by decide) (by decide), a5 B2 _ 80 hB2W (by decide) (by decide)⟩, hko.trans a2, hbo.trans a3⟩
end Go.Proofs.YtadopkifpfmhcaaDoor
namespace Go.Proofs.YtadopkifpfmhcaaDoor
open Go.RowKit
open Sha (vals Bytes Lies bytesC sumB)
open Go.Proofs.YtadopkifpfmhcaaDoorW.PrintWords Go.Proofs.YtadopkifpfmhcaaDoorW.PrintLast Go.Proofs.YtadopkifpfmhcaaDoorW.PrintMore
def eX : En := ⟨⟨#[97, 110, 110]⟩, 3, ⟨#[113, 117, 101, 114, 121, 32, 112, 40, 88, 41]⟩, List.replicate 32 0, by decide⟩
theorem eX_ok : eX.ok := by refine ⟨by decide, by decide, by decide, by decide, by decide, by decide⟩
theorem eX_good : goodE eX = true := by decide +kernel
theorem eX_right : rightS 32 [eX] = true := by decide +kernel
theorem nil_right : rightS 32 [] = true := by decide +kernel
theorem eX_heads : headS 32 [eX] = (headP 32 [eX] 1, 0) := by unfold headS; rw [if_pos eX_right]; rfl
theorem nil_heads : headS 32 [] = (List.replicate 32 0, 0) := by unfold headS; rw [if_pos nil_right]; rfl
theorem eX_bytes : bytesS 0 eX = (entB 0 eX, 0) := by unfold bytesS; rw [if_neg (by rw [eX_good]; decide)]; rfl
theorem eX_len : (entB 0 eX).length = 66 := by decide +kernel
theorem eX_ver : verS 32 [eX] (headP 32 [eX] 1) = 0 := by unfold verS; rw [eX_heads]; simp
theorem bytes_at {w : World} {A : Option Addr} {n c : Nat} {l : List Nat} (h : Bytes w (.slice A n c) l) (hn : 0 < l.length) : ∃ g o, A = some ⟨g, o, none⟩ ∧ ∀ j, j < l.length → w.cell? ⟨g, o + j, none⟩ = some (.int .u8 ((l.getD j 0 : Nat) : Int)) := by
  rcases h with ⟨A', c', h0, rfl, _⟩ | ⟨g, o, c', h0, _, _, h3⟩
  · simp at hn
  · injection h0 with q1 q2 q3
    exact ⟨g, o, q1, h3⟩
theorem load_l3 {o : Oper} {a : Act} (w : World) (x : Operand) (ho : o.op = .load 55 x) (b k : Nat) (hx : a.eval x = .pointer (some ⟨b, k, none⟩)) (p : L3) (hc : w.rangeAt b k (encL p).toList) : (execOp a.eval o).run Tryd.prog w = .ok (.value (.agg (encL p))) w :=
  (exec_load_mid 55 w x ho b k hx (encL p).toList _ hc Tryd.underlying55 rfl (by rw [Array.length_toList, encL_size]; kernel_rfl)).trans (by rw [Array.toArray_toList])
theorem un25' : Tryd.prog.underlying 25 = some (.slice (Tryd.prog.elem 25)) := by kernel_rfl
theorem sz25' : ∀ w, (sizeOf (Tryd.prog.elem 25)).run Tryd.prog w = .ok 1 w := fun w => by kernel_rfl
set_option maxRecDepth 100000 in
set_option maxHeartbeats 16000000 in
theorem fixed_calls (w : World) (hw0 : 0 < w.heap.size) (ht : Tab w) : Calls Tryd.prog 13 #[] w fun z w' => z = .returned (.bool true) ∧ Below w.heap.size w w' := by
  have hwH : Hid (0 < w.heap.size) := hw0
  have htH : Hid (Tab w) := ht
  obtain ⟨H, hH⟩ : ∃ H, H = headP 32 [eX] 1 := ⟨_, rfl⟩
  have hHH : Hid (H = headP 32 [eX] 1) := hH
  have hHl : Hid (H.length = 32) := by show _ = _; rw [hH]; exact headP_len (by decide) _ _
  have hHlt : Hid (∀ x ∈ H, x < 256) := by rw [hH]; exact headP_lt _ _ _
  have hBw : Hid (Below w.heap.size w w) := Below.refl _ _
  clear hw0 ht hH
  go_enter Tryd.func13, Tryd.ntmps13
  go_upto_region 1 with fail
  refine wp_region_lit ?_
  refine sg_call (by kernel_rfl) 16 #[.int .i64 32, .slice none 0 0] (by kernel_rfl) (R := fun v w' => ∃ u, v = .tuple #[u, .int .i64 0] ∧ Bytes w' u (List.replicate 32 0) ∧ Below w.heap.size w w') ((Head_calls 32 [] (fun x h => (List.not_mem_nil h).elim) none 0 0 rfl (by decide) w Rw.nil).mono fun e w' h => by
    obtain ⟨v, h1, h2, h3⟩ := h
    rw [nil_heads] at h1 h2
    exact ⟨_, h1, v, rfl, h2, h3⟩) ?_
  rintro _ w1 ⟨u1, rfl, hby, hb⟩
  obtain ⟨A1, c1, rfl⟩ := hby.form
  rw [List.length_replicate] at hby ⊢
  simp only [Act.put, fl1, fl2, fl3]
  have hBw1 : Hid (Below w.heap.size w w1) := hBw.out.trans ((hb).mono (hBw.out).size)
  clear hBw
  have hhw1 : Hid (Bytes w1 (.slice A1 32 c1) (List.replicate 32 0)) := hby
  clear hb hby
  refine sl_run rfl (.tuple #[.slice A1 32 c1, .int .i64 0]) w1 (by kernel_rfl) ?_
  simp only [Act.put, fl1, fl2, fl3]
  refine sl_run rfl (.slice A1 32 c1) w1 (by kernel_rfl) ?_
  simp only [Act.put, fl1, fl2, fl3]
  refine sl_run rfl (.int .i64 0) w1 (by kernel_rfl) ?_
  simp only [Act.put, fl1, fl2, fl3]
  refine sl_run rfl (.slice A1 32 c1) w1 (by kernel_rfl) ?_
  simp only [Act.put, fl1, fl2, fl3]
  refine sl_run rfl (.int .i64 0) w1 (by kernel_rfl) ?_
  simp only [Act.put, fl1, fl2, fl3]
  refine wpList_nil ?_
  go_upto_region 2 with fail
  refine wp_region_lit ?_
  refine sl_run rfl (.agg (encE eX)) w1 (by kernel_rfl) ?_
  simp only [Act.put, fl1, fl2, fl3]
  refine sg_run (by kernel_rfl) (.pointer (some ⟨w1.heap.size, 0, none⟩)) (w1.alloc (.cells (encE default) 24)) (by kernel_rfl) ?_
  simp only [Act.put, fl1, fl2, fl3]
  refine wpList_store_row rfl 24 _ _ rfl w1.heap.size (encE eX) (by kernel_rfl) (by kernel_rfl) 24 _ (heap_alloc_new _ _) (by rw [encE_size']; kernel_rfl) (by rw [encE_size', encE_size']) (encE_all eX) ?_
  simp only [Act.put, fl1, fl2, fl3]
  refine wpList_nil ?_
  have hE0 : ((w1.alloc (.cells (encE default) 24)).setRow w1.heap.size (encE eX)).heap[w1.heap.size]? = some (.cells (encE eX) 24 (0, 0)) := setRow_heap _ _ _ _ _ _ (heap_alloc_new _ _)
  have hb : Below w1.heap.size w1 ((w1.alloc (.cells (encE default) 24)).setRow w1.heap.size (encE eX)) := below_setRow ((Below.refl _ _).alloc (Nat.le_refl _) _) (Nat.le_refl _) _
  obtain ⟨D, hD⟩ : ∃ D, D = w1.heap.size := ⟨_, rfl⟩
  have hb2 : Below w1.heap.size w1 ((w1.alloc (.cells (encE default) 24)).setRow D (encE eX)) := by rw [hD]; exact hb
  rw [← hD] at hE0 ⊢
  clear hD hb
  generalize World.setRow _ _ _ = w2 at hE0 hb2 ⊢
  have hBw2 : Hid (Below w.heap.size w w2) := hBw1.out.trans ((hb2).mono (hBw1.out).size)
  have hhw2 : Hid (Bytes w2 (.slice A1 32 c1) (List.replicate 32 0)) := (hhw1.out).below hb2
  clear hBw1 hhw1
  have hXw2 : Hid (w2.heap[D]? = some (.cells (encE eX) 24 (0, 0))) := hE0
  clear hE0 hb2
  go_upto_region 3 with fail
  refine wp_region_lit ?_
  refine sg_run (by kernel_rfl) (.agg (encE eX)) w2 (exec_load_row 24 w2 _ rfl D (by kernel_rfl) 24 (encE eX) (0, 0) _ hXw2.out Tryd.underlying24 rfl (by rw [encE_size']; kernel_rfl)) ?_
  simp only [Act.put, fl1, fl2, fl3]
  refine sg_run (by kernel_rfl) (.slice (some ⟨w2.heap.size, 0, none⟩) 1 1) (w2.alloc (.cells (encE eX) 24)) (exec_bs24 _ rfl eX (by kernel_rfl) w2) ?_
  simp only [Act.put, fl1, fl2, fl3]
  have hn : (w2.alloc (.cells (encE eX) 24)).heap[w2.heap.size]? = some (.cells (encE eX) 24 (0, 0)) := heap_alloc_new _ _
  have hb : Below w2.heap.size w2 (w2.alloc (.cells (encE eX) 24)) := (Below.refl _ _).alloc (Nat.le_refl _) _
  generalize w2.heap.size = B3 at hn hb ⊢
  have hb : Below w2.heap.size w2 (w2.alloc (.cells (encE eX) 24)) := (Below.refl _ _).alloc (Nat.le_refl _) _
  generalize w2.alloc _ = w3 at hn hb ⊢
  have hBw3 : Hid (Below w.heap.size w w3) := hBw2.out.trans ((hb).mono (hBw2.out).size)
  have hhw3 : Hid (Bytes w3 (.slice A1 32 c1) (List.replicate 32 0)) := (hhw2.out).below hb
  have hXw3 : Hid (w3.heap[D]? = some (.cells (encE eX) 24 (0, 0))) := heap_kept hXw2.out hb
  clear hBw2 hhw2 hXw2
  have hrw3 : Hid (Rw 35 encE w3 (.slice (some ⟨B3, 0, none⟩) 1 1) [eX]) := rw_one eX hn
  clear hn hb
  refine sg_call (by kernel_rfl) 16 #[.int .i64 32, .slice (some ⟨B3, 0, none⟩) 1 1] (by kernel_rfl) (R := fun v w' => ∃ u, v = .tuple #[u, .int .i64 0] ∧ Bytes w' u H ∧ Below w3.heap.size w3 w') ((Head_calls 32 [eX] (fun x h => by rw [List.mem_singleton.1 h]; exact eX_ok) _ 1 1 rfl (by decide) w3 hrw3.out).mono fun e w' h => by
    obtain ⟨v, h1, h2, h3⟩ := h
    rw [eX_heads] at h1 h2
    rw [← hHH.out] at h2
    exact ⟨_, h1, v, rfl, h2, h3⟩) ?_
  rintro _ w4 ⟨u1, rfl, hby, hb⟩
  obtain ⟨A2, c2, rfl⟩ := hby.form
  rw [hHl.out] at hby ⊢
  simp only [Act.put, fl1, fl2, fl3]
  have hBw4 : Hid (Below w.heap.size w w4) := hBw3.out.trans ((hb).mono (hBw3.out).size)
  have hhw4 : Hid (Bytes w4 (.slice A1 32 c1) (List.replicate 32 0)) := (hhw3.out).below hb
  have hXw4 : Hid (w4.heap[D]? = some (.cells (encE eX) 24 (0, 0))) := heap_kept hXw3.out hb
  clear hBw3 hhw3 hXw3
  have hgw4 : Hid (Bytes w4 (.slice A2 32 c2) H) := hby
  clear hb hby hrw3
  refine sl_run rfl (.tuple #[.slice A2 32 c2, .int .i64 0]) w4 (by kernel_rfl) ?_
  simp only [Act.put, fl1, fl2, fl3]
  refine sl_run rfl (.slice A2 32 c2) w4 (by kernel_rfl) ?_
  simp only [Act.put, fl1, fl2, fl3]
  refine sl_run rfl (.int .i64 0) w4 (by kernel_rfl) ?_
  simp only [Act.put, fl1, fl2, fl3]
  refine sl_run rfl (.slice A2 32 c2) w4 (by kernel_rfl) ?_
  simp only [Act.put, fl1, fl2, fl3]
  refine sl_run rfl (.int .i64 0) w4 (by kernel_rfl) ?_
  simp only [Act.put, fl1, fl2, fl3]
  refine wpList_nil ?_
  go_upto_region 4 with fail
  refine wp_region_lit ?_
  refine sg_run (by kernel_rfl) (.agg (encE eX)) w4 (exec_load_row 24 w4 _ rfl D (by kernel_rfl) 24 (encE eX) (0, 0) _ hXw4.out Tryd.underlying24 rfl (by rw [encE_size']; kernel_rfl)) ?_
  simp only [Act.put, fl1, fl2, fl3]
  refine sg_run (by kernel_rfl) (.slice (some ⟨w4.heap.size, 0, none⟩) 1 1) (w4.alloc (.cells (encE eX) 24)) (exec_bs24 _ rfl eX (by kernel_rfl) w4) ?_
  simp only [Act.put, fl1, fl2, fl3]
  have hn : (w4.alloc (.cells (encE eX) 24)).heap[w4.heap.size]? = some (.cells (encE eX) 24 (0, 0)) := heap_alloc_new _ _
  have hb : Below w4.heap.size w4 (w4.alloc (.cells (encE eX) 24)) := (Below.refl _ _).alloc (Nat.le_refl _) _
  generalize w4.heap.size = B5 at hn hb ⊢
  have hb : Below w4.heap.size w4 (w4.alloc (.cells (encE eX) 24)) := (Below.refl _ _).alloc (Nat.le_refl _) _
  generalize w4.alloc _ = w5 at hn hb ⊢
  have hBw5 : Hid (Below w.heap.size w w5) := hBw4.out.trans ((hb).mono (hBw4.out).size)
  have hhw5 : Hid (Bytes w5 (.slice A1 32 c1) (List.replicate 32 0)) := (hhw4.out).below hb
  have hXw5 : Hid (w5.heap[D]? = some (.cells (encE eX) 24 (0, 0))) := heap_kept hXw4.out hb
  have hgw5 : Hid (Bytes w5 (.slice A2 32 c2) H) := (hgw4.out).below hb
  clear hBw4 hhw4 hXw4 hgw4
  have hrw5 : Hid (Rw 35 encE w5 (.slice (some ⟨B5, 0, none⟩) 1 1) [eX]) := rw_one eX hn
  clear hn hb
  refine sg_call (by kernel_rfl) 17 #[.int .i64 32, .slice (some ⟨B5, 0, none⟩) 1 1] (by kernel_rfl) (R := fun v w' => ∃ u, v = .tuple #[u, .int .i64 0] ∧ Bytes w' u H ∧ Below w5.heap.size w5 w') ((rHead_calls 32 [eX] (fun x h => by rw [List.mem_singleton.1 h]; exact eX_ok) _ 1 1 rfl (by decide) w5 hrw5.out).mono fun e w' h => by
    obtain ⟨v, h1, h2, h3⟩ := h
    rw [eX_heads] at h1 h2
    rw [← hHH.out] at h2
    exact ⟨_, h1, v, rfl, h2, h3⟩) ?_
  rintro _ w6 ⟨u1, rfl, hby, hb⟩
  obtain ⟨A3, c3, rfl⟩ := hby.form
  rw [hHl.out] at hby ⊢
  simp only [Act.put, fl1, fl2, fl3]
  have hBw6 : Hid (Below w.heap.size w w6) := hBw5.out.trans ((hb).mono (hBw5.out).size)
  have hhw6 : Hid (Bytes w6 (.slice A1 32 c1) (List.replicate 32 0)) := (hhw5.out).below hb
  have hXw6 : Hid (w6.heap[D]? = some (.cells (encE eX) 24 (0, 0))) := heap_kept hXw5.out hb
  have hgw6 : Hid (Bytes w6 (.slice A2 32 c2) H) := (hgw5.out).below hb
  clear hBw5 hhw5 hXw5 hgw5
  have hqw6 : Hid (Bytes w6 (.slice A3 32 c3) H) := hby
  clear hb hby hrw5
  refine sl_run rfl (.tuple #[.slice A3 32 c3, .int .i64 0]) w6 (by kernel_rfl) ?_
  simp only [Act.put, fl1, fl2, fl3]
  refine sl_run rfl (.slice A3 32 c3) w6 (by kernel_rfl) ?_
  simp only [Act.put, fl1, fl2, fl3]
  refine sl_run rfl (.int .i64 0) w6 (by kernel_rfl) ?_
  simp only [Act.put, fl1, fl2, fl3]
  refine sl_run rfl (.slice A3 32 c3) w6 (by kernel_rfl) ?_
  simp only [Act.put, fl1, fl2, fl3]
  refine sl_run rfl (.int .i64 0) w6 (by kernel_rfl) ?_
  simp only [Act.put, fl1, fl2, fl3]
  refine wpList_nil ?_
  go_upto_region 5 with fail
  refine wp_region_lit ?_
  refine sg_run (by kernel_rfl) (.agg (encE eX)) w6 (exec_load_row 24 w6 _ rfl D (by kernel_rfl) 24 (encE eX) (0, 0) _ hXw6.out Tryd.underlying24 rfl (by rw [encE_size']; kernel_rfl)) ?_
  simp only [Act.put, fl1, fl2, fl3]
  refine sg_call (by kernel_rfl) 11 #[.int .i64 0, .agg (encE eX)] (by kernel_rfl) (R := fun v w' => ∃ u, v = .tuple #[u, .int .i64 0] ∧ Bytes w' u (entB 0 eX) ∧ Below w6.heap.size w6 w') ((chbytes_calls 0 (by decide) eX eX_ok w6).mono fun e w' h => by
    obtain ⟨v, h1, h2, h3⟩ := h
    rw [eX_bytes] at h1 h2
    exact ⟨_, h1, v, rfl, h2, h3⟩) ?_
  rintro _ w7 ⟨u1, rfl, hby, hb⟩
  obtain ⟨A4, c4, rfl⟩ := hby.form
  rw [eX_len]
  simp only [Act.put, fl1, fl2, fl3]
  have hBw7 : Hid (Below w.heap.size w w7) := hBw6.out.trans ((hb).mono (hBw6.out).size)
  have hhw7 : Hid (Bytes w7 (.slice A1 32 c1) (List.replicate 32 0)) := (hhw6.out).below hb
  have hXw7 : Hid (w7.heap[D]? = some (.cells (encE eX) 24 (0, 0))) := heap_kept hXw6.out hb
  have hgw7 : Hid (Bytes w7 (.slice A2 32 c2) H) := (hgw6.out).below hb
  have hqw7 : Hid (Bytes w7 (.slice A3 32 c3) H) := (hqw6.out).below hb
  clear hBw6 hhw6 hXw6 hgw6 hqw6
  clear hb hby
  refine sl_run rfl (.tuple #[.slice A4 66 c4, .int .i64 0]) w7 (by kernel_rfl) ?_
  simp only [Act.put, fl1, fl2, fl3]
  refine sl_run rfl (.slice A4 66 c4) w7 (by kernel_rfl) ?_
  simp only [Act.put, fl1, fl2, fl3]
  refine sl_run rfl (.int .i64 0) w7 (by kernel_rfl) ?_
  simp only [Act.put, fl1, fl2, fl3]
  refine sl_run rfl (.slice A4 66 c4) w7 (by kernel_rfl) ?_
  simp only [Act.put, fl1, fl2, fl3]
  refine sl_run rfl (.int .i64 0) w7 (by kernel_rfl) ?_
  simp only [Act.put, fl1, fl2, fl3]
  refine wpList_nil ?_
  go_upto_region 6 with fail
  refine wp_region_lit ?_
  refine sg_call (by kernel_rfl) 20 #[.int .i64 32, .int .i64 2] (by kernel_rfl) (R := fun v w' => ∃ L, v = .tuple #[.pointer (some ⟨L, 0, none⟩), .int .i64 0] ∧ NewI w7 L 32 2 w') ((New_calls 32 2 (by decide) (by decide) (by decide) (by decide) w7).mono fun e w' h => by
    obtain ⟨L, h1, h2⟩ := h
    exact ⟨_, h1, L, rfl, h2⟩) ?_
  rintro _ z0 ⟨L, rfl, ⟨⟨pv, G, Hv, hlog⟩, hb⟩⟩
  simp only [Act.put, fl1, fl2, fl3]
  have hNz0 : Hid (Below w7.heap.size w7 z0) := hb
  have hLz0 : Hid (LogI z0 w7.heap.size L 32 2 pv G Hv (fun _ => nilS) (fun _ => [])) := hlog
  clear hb hlog
  refine sl_run rfl (.tuple #[.pointer (some ⟨L, 0, none⟩), .int .i64 0]) z0 (by kernel_rfl) ?_
  simp only [Act.put, fl1, fl2, fl3]
  refine sl_run rfl (.pointer (some ⟨L, 0, none⟩)) z0 (by kernel_rfl) ?_
  simp only [Act.put, fl1, fl2, fl3]
  refine sl_run rfl (.int .i64 0) z0 (by kernel_rfl) ?_
  simp only [Act.put, fl1, fl2, fl3]
  refine sl_run rfl (.pointer (some ⟨L, 0, none⟩)) z0 (by kernel_rfl) ?_
  simp only [Act.put, fl1, fl2, fl3]
  refine sl_run rfl (.int .i64 0) z0 (by kernel_rfl) ?_
  simp only [Act.put, fl1, fl2, fl3]
  refine wpList_nil ?_
  obtain ⟨g1, o1, rfl, hc1⟩ := bytes_at hhw7.out (by decide)
  have hc0 : z0.cell? ⟨g1, o1, none⟩ = some (.int .u8 0) := by
    have h1 : w7.cell? ⟨g1, o1, none⟩ = some (.int .u8 0) := by simpa using hc1 0 (by decide)
    rw [hNz0.out.cell (World.block_lt_of_cell? _ _ h1)]; exact h1
  have hc0H : Hid (z0.cell? ⟨g1, o1, none⟩ = some (.int .u8 0)) := hc0
  clear hc0 hc1
  go_upto_region 7 with fail
  refine wp_region_lit ?_
  refine sl_run rfl (.int .i64 0) z0 (by kernel_rfl) ?_
  simp only [Act.put, fl1, fl2, fl3]
  refine sl_run rfl (.bool false) z0 (exec_neI 26 _ _ rfl 0 0 (by kernel_rfl) (by kernel_rfl) false rfl) ?_
  simp only [Act.put, fl1, fl2, fl3]
  refine sl_run rfl (.bool false) z0 (by kernel_rfl) ?_
  simp only [Act.put, fl1, fl2, fl3]
  refine sg_run (by kernel_rfl) (.slice (some ⟨g1, o1, none⟩) 32 c1) z0 (by kernel_rfl) ?_
  simp only [Act.put, fl1, fl2, fl3]
  refine sg_run (by kernel_rfl) (.int .i64 32) z0 (by kernel_rfl) ?_
  simp only [Act.put, fl1, fl2, fl3]
  refine sg_run (by kernel_rfl) (.bool false) z0 (exec_neI 3 _ _ rfl 32 32 (by kernel_rfl) (by kernel_rfl) false rfl) ?_
  simp only [Act.put, fl1, fl2, fl3]
  refine sl_run rfl (.bool false) z0 (by kernel_rfl) ?_
  simp only [Act.put, fl1, fl2, fl3]
  refine sl_run rfl (.bool false) z0 (by kernel_rfl) ?_
  simp only [Act.put, fl1, fl2, fl3]
  refine sg_run (by kernel_rfl) (.slice (some ⟨g1, o1, none⟩) 32 c1) z0 (by kernel_rfl) ?_
  simp only [Act.put, fl1, fl2, fl3]
  refine sg_run (by kernel_rfl) (.pointer (some ⟨g1, o1, none⟩)) z0 (exec_index un25' sz25' _ _ rfl g1 o1 32 c1 0 (by kernel_rfl) (by kernel_rfl) (by decide) _) ?_
  simp only [Act.put, fl1, fl2, fl3]
  refine sg_run (by kernel_rfl) (.int .u8 0) z0 (exec_load_cell 5 z0 _ rfl ⟨g1, o1, none⟩ (by kernel_rfl) _ hc0H.out (fun _ => by kernel_rfl)) ?_
  simp only [Act.put, fl1, fl2, fl3]
  refine sg_run (by kernel_rfl) (.bool false) z0 (by kernel_rfl) ?_
  simp only [Act.put, fl1, fl2, fl3]
  refine sl_run rfl (.bool false) z0 (by kernel_rfl) ?_
  simp only [Act.put, fl1, fl2, fl3]
  refine sl_run rfl (.bool false) z0 (by kernel_rfl) ?_
  simp only [Act.put, fl1, fl2, fl3]
  refine sg_run (by kernel_rfl) (.int .i64 0) z0 (by kernel_rfl) ?_
  simp only [Act.put, fl1, fl2, fl3]
  refine sg_run (by kernel_rfl) (.bool false) z0 (exec_neI 26 _ _ rfl 0 0 (by kernel_rfl) (by kernel_rfl) false rfl) ?_
  simp only [Act.put, fl1, fl2, fl3]
  refine sl_run rfl (.bool false) z0 (by kernel_rfl) ?_
  simp only [Act.put, fl1, fl2, fl3]
  refine sl_run rfl (.bool false) z0 (by kernel_rfl) ?_
  simp only [Act.put, fl1, fl2, fl3]
  refine sg_run (by kernel_rfl) (.slice A2 32 c2) z0 (by kernel_rfl) ?_
  simp only [Act.put, fl1, fl2, fl3]
  refine sg_run (by kernel_rfl) (.string (strB H)) z0 (exec_convB _ rfl _ H (by kernel_rfl) (hgw7.out.below hNz0.out)) ?_
  simp only [Act.put, fl1, fl2, fl3]
  refine sg_run (by kernel_rfl) (.slice A3 32 c3) z0 (by kernel_rfl) ?_
  simp only [Act.put, fl1, fl2, fl3]
  refine sg_run (by kernel_rfl) (.string (strB H)) z0 (exec_convB _ rfl _ H (by kernel_rfl) (hqw7.out.below hNz0.out)) ?_
  simp only [Act.put, fl1, fl2, fl3]
  refine sg_run (by kernel_rfl) (.bool false) z0 (exec_neS 9 _ _ rfl (strB H) (strB H) (by kernel_rfl) (by kernel_rfl) false (by simp)) ?_
  simp only [Act.put, fl1, fl2, fl3]
  refine sl_run rfl (.bool false) z0 (by kernel_rfl) ?_
  simp only [Act.put, fl1, fl2, fl3]
  refine sl_run rfl (.bool false) z0 (by kernel_rfl) ?_
  simp only [Act.put, fl1, fl2, fl3]
  refine sg_run (by kernel_rfl) (.int .i64 0) z0 (by kernel_rfl) ?_
  simp only [Act.put, fl1, fl2, fl3]
  refine sg_run (by kernel_rfl) (.bool false) z0 (exec_neI 26 _ _ rfl 0 0 (by kernel_rfl) (by kernel_rfl) false rfl) ?_
  simp only [Act.put, fl1, fl2, fl3]
  refine sl_run rfl (.bool false) z0 (by kernel_rfl) ?_
  simp only [Act.put, fl1, fl2, fl3]
  refine sl_run rfl (.bool false) z0 (by kernel_rfl) ?_
  simp only [Act.put, fl1, fl2, fl3]
  refine sg_run (by kernel_rfl) (.slice A4 66 c4) z0 (by kernel_rfl) ?_
  simp only [Act.put, fl1, fl2, fl3]
  refine sg_run (by kernel_rfl) (.int .i64 66) z0 (by kernel_rfl) ?_
  simp only [Act.put, fl1, fl2, fl3]
  refine sg_run (by kernel_rfl) (.bool false) z0 (exec_neI 3 _ _ rfl 66 66 (by kernel_rfl) (by kernel_rfl) false rfl) ?_
  simp only [Act.put, fl1, fl2, fl3]
  refine sl_run rfl (.bool false) z0 (by kernel_rfl) ?_
  simp only [Act.put, fl1, fl2, fl3]
  refine sl_run rfl (.bool false) z0 (by kernel_rfl) ?_
  simp only [Act.put, fl1, fl2, fl3]
  refine sg_run (by kernel_rfl) (.int .i64 0) z0 (by kernel_rfl) ?_
  simp only [Act.put, fl1, fl2, fl3]
  refine sg_run (by kernel_rfl) (.bool false) z0 (exec_neI 26 _ _ rfl 0 0 (by kernel_rfl) (by kernel_rfl) false rfl) ?_
  simp only [Act.put, fl1, fl2, fl3]
  refine sl_run rfl (.bool false) z0 (by kernel_rfl) ?_
  simp only [Act.put, fl1, fl2, fl3]
  refine sl_run rfl (.bool false) z0 (by kernel_rfl) ?_
  simp only [Act.put, fl1, fl2, fl3]
  refine sg_run (by kernel_rfl) (.agg (encE eX)) z0 (exec_load_row 24 z0 _ rfl D (by kernel_rfl) 24 (encE eX) (0, 0) _ (heap_kept hXw7.out hNz0.out) Tryd.underlying24 rfl (by rw [encE_size']; kernel_rfl)) ?_
  simp only [Act.put, fl1, fl2, fl3]
  refine sg_call (by kernel_rfl) 14 #[.agg (encE eX)] (by kernel_rfl) (R := fun v w' => v = .bool true ∧ Below z0.heap.size z0 w') ((eX_good ▸ good_calls eX z0).mono fun e w' h => ⟨_, h.1, rfl, h.2⟩) ?_
  rintro _ z1 ⟨rfl, hb⟩
  simp only [Act.put, fl1, fl2, fl3]
  have hNz1 : Hid (Below w7.heap.size w7 z1) := hNz0.out.trans ((hb).mono (hNz0.out).size)
  clear hNz0
  have hLz1 := hLz0.out.below hb
  have hLz1 : Hid (LogI z1 w7.heap.size L 32 2 pv G Hv (fun _ => nilS) (fun _ => [])) := hLz1
  clear hb hLz0 hc0H
  refine sg_run (by kernel_rfl) (.bool false) z1 (by kernel_rfl) ?_
  simp only [Act.put, fl1, fl2, fl3]
  refine sl_run rfl (.bool false) z1 (by kernel_rfl) ?_
  simp only [Act.put, fl1, fl2, fl3]
  refine wpList_nil ?_
  clear hhw7 hqw7
  go_upto_region 9 with fail
  refine wp_region_lit ?_
  refine sl_run rfl (.pointer (some ⟨L, 0, none⟩)) z1 (by kernel_rfl) ?_
  simp only [Act.put, fl1, fl2, fl3]
  refine sg_run (by kernel_rfl) (.agg (encE eX)) z1 (exec_load_row 24 z1 _ rfl D (by kernel_rfl) 24 (encE eX) (0, 0) _ (heap_kept hXw7.out hNz1.out) Tryd.underlying24 rfl (by rw [encE_size']; kernel_rfl)) ?_
  simp only [Act.put, fl1, fl2, fl3]
  refine sg_call (by kernel_rfl) 21 #[.pointer (some ⟨L, 0, none⟩), .int .i64 1, .agg (encE eX)] (by kernel_rfl) (R := fun v w' => v = .int .i64 0 ∧ (∃ H2 E2, LogI w' w7.heap.size L 32 2 pv G H2 E2 (upd (fun _ => []) 1 [eX])) ∧ Below w7.heap.size w7 w') ((Put_in hLz1.out hNz1.out.size (by decide) (by decide) 1 (by decide) eX eX_ok eX_good (by decide)).mono fun e w' h => by
    obtain ⟨h1, hv, ev, h2, h3, h4⟩ := h
    refine ⟨_, h1, rfl, ⟨_, _, hLz1.out.put (by decide) h3 h2 h4⟩, hNz1.out.trans (h3.bel (fun q hq => ?_) hNz1.out.size)⟩
    rcases hq with rfl | hq
    · exact (hLz1.out.chain 1 (by decide)).g0
    · exact ((hLz1.out.chain 1 (by decide)).ents.lt q hq).1) ?_
  rintro _ z2 ⟨rfl, ⟨H2, E2, hlog⟩, hb⟩
  simp only [Act.put, fl1, fl2, fl3]
  have hNz2 : Hid (Below w7.heap.size w7 z2) := hb
  have hLz2 : Hid (LogI z2 w7.heap.size L 32 2 pv G H2 E2 (upd (fun _ => []) 1 [eX])) := hlog
  clear hb hlog hNz1 hLz1
  refine sl_run rfl (.int .i64 0) z2 (by kernel_rfl) ?_
  simp only [Act.put, fl1, fl2, fl3]
  refine wpList_nil ?_
  go_upto_region 10 with fail
  refine wp_region_lit ?_
  refine sl_run rfl (.pointer (some ⟨L, 0, none⟩)) z2 (by kernel_rfl) ?_
  simp only [Act.put, fl1, fl2, fl3]
  refine sg_call (by kernel_rfl) 22 #[.pointer (some ⟨L, 0, none⟩), .int .i64 1] (by kernel_rfl) (R := fun v w' => ∃ u, v = .tuple #[u, .int .i64 0] ∧ Bytes w' u H ∧ Below z2.heap.size z2 w') ((LHead_in hLz2.out (by decide) 1 (by decide)).mono fun e w' h => by
    obtain ⟨v, h1, h2, h3⟩ := h
    have : headP 32 (upd (fun _ => []) 1 [eX] 1) (upd (fun _ => []) 1 [eX] 1).length = H := by rw [upd_same, hHH.out]; rfl
    rw [this] at h2
    exact ⟨_, h1, v, rfl, h2, h3⟩) ?_
  rintro _ z3 ⟨u1, rfl, hby, hb⟩
  obtain ⟨A5, c5, rfl⟩ := hby.form
  rw [hHl.out] at hby ⊢
  simp only [Act.put, fl1, fl2, fl3]
  have hNz3 : Hid (Below w7.heap.size w7 z3) := hNz2.out.trans ((hb).mono (hNz2.out).size)
  clear hNz2
  have hpz3 : Hid (Bytes z3 (.slice A5 32 c5) H) := hby
  have hLz3 := hLz2.out.below hb
  have hLz3 : Hid (LogI z3 w7.heap.size L 32 2 pv G H2 E2 (upd (fun _ => []) 1 [eX])) := hLz3
  clear hb hby hLz2
  refine sl_run rfl (.tuple #[.slice A5 32 c5, .int .i64 0]) z3 (by kernel_rfl) ?_
  simp only [Act.put, fl1, fl2, fl3]
  refine sl_run rfl (.slice A5 32 c5) z3 (by kernel_rfl) ?_
  simp only [Act.put, fl1, fl2, fl3]
  refine sl_run rfl (.int .i64 0) z3 (by kernel_rfl) ?_
  simp only [Act.put, fl1, fl2, fl3]
  refine sl_run rfl (.slice A5 32 c5) z3 (by kernel_rfl) ?_
  simp only [Act.put, fl1, fl2, fl3]
  refine sl_run rfl (.int .i64 0) z3 (by kernel_rfl) ?_
  simp only [Act.put, fl1, fl2, fl3]
  refine wpList_nil ?_
  go_upto_region 11 with fail
  refine wp_region_lit ?_
  refine sl_run rfl (.pointer (some ⟨L, 0, none⟩)) z3 (by kernel_rfl) ?_
  simp only [Act.put, fl1, fl2, fl3]
  refine sg_call (by kernel_rfl) 24 #[.pointer (some ⟨L, 0, none⟩), .int .u64 2] (by kernel_rfl) (R := fun v w' => Rw 37 encL w' v [(1, 1, eX)] ∧ Below z3.heap.size z3 w') ((Lines_calls (some ⟨L, 0, none⟩) 2 (by decide) _ (fun k hk => by
      show (if k < 2 then upd (fun _ => []) 1 [eX] k else []).length ≤ _
      by_cases h2 : k < 2
      · rw [if_pos h2]; unfold upd; split <;> simp
      · rw [if_neg h2]; simp) z3 (by have := hwH.out; have := hBw7.out.size; have := hNz3.out.size; omega) (htH.out.below hwH.out (hBw7.out.trans (hNz3.out.mono hBw7.out.size))) hLz3.out.lk).mono fun e w' h => by
    obtain ⟨v, h1, h2, h3⟩ := h
    have : outL (fun k => if k < 2 then upd (fun _ => []) 1 [eX] k else []) (bl 2) = [(1, 1, eX)] := by kernel_rfl
    rw [this] at h2
    exact ⟨_, h1, h2, h3⟩) ?_
  rintro v15 z4 ⟨hrw, hb⟩
  obtain ⟨A6, c6, rfl⟩ := hrw.form
  simp only [Act.put, fl1, fl2, fl3]
  have hNz4 : Hid (Below w7.heap.size w7 z4) := hNz3.out.trans ((hb).mono (hNz3.out).size)
  clear hNz3
  have hpz4 : Hid (Bytes z4 (.slice A5 32 c5) H) := hpz3.out.below hb
  have hrz4 : Hid (Rw 37 encL z4 (.slice A6 1 c6) [(1, 1, eX)]) := hrw
  have hLz4 := hLz3.out.below hb
  have hLz4 : Hid (LogI z4 w7.heap.size L 32 2 pv G H2 E2 (upd (fun _ => []) 1 [eX])) := hLz4
  clear hb hrw hLz3 hpz3
  refine sl_run rfl (.slice A6 1 c6) z4 (by kernel_rfl) ?_
  simp only [Act.put, fl1, fl2, fl3]
  refine wpList_nil ?_
  obtain ⟨g6, o6, rfl, _, hg6, hel⟩ := hrz4.out.elem 0 (by decide)
  have helH : Hid (∀ w', Below z4.heap.size z4 w' → w'.rangeAt g6 (o6 + 0 * 37) (encL (1, 1, eX)).toList) := fun w' h => range_below hel h hg6
  clear hel
  go_upto_region 12 with fail
  refine wp_normalG ?_
  refine wp_region_held_drew (S := fun w' => Below z4.heap.size z4 w') (by kernel_rfl) (Below.refl _ _).drew (fun hS => ?_)
  change wpAnyH _ _ _ _ _ 39 (Array.replicate 39 false) _ _
  generalize hx : z4.drew = y at hS ⊢
  clear hx
  refine held_take 0 rfl (by kernel_rfl) (by kernel_rfl) (by kernel_rfl) (.int .i64 0) (fun _ _ _ h => nomatch h.1) (by kernel_rfl) (fun w' h => (by kernel_rfl)) hS ?_
  simp only [Act.put, fl1, fl2, fl3, fl4, fl5, fl6]
  refine held_take 1 rfl (by kernel_rfl) (by kernel_rfl) (by kernel_rfl) (.bool true) (fun _ _ _ h => nomatch h.1) (by kernel_rfl) (fun w' h => exec_eqI 26 _ _ rfl 0 0 (by kernel_rfl) (by kernel_rfl) true rfl) hS ?_
  simp only [Act.put, fl1, fl2, fl3, fl4, fl5, fl6]
  refine held_take 2 rfl (by kernel_rfl) (by kernel_rfl) (by kernel_rfl) (.bool true) (fun _ _ _ h => nomatch h.1) (by kernel_rfl) (fun w' h => (by kernel_rfl)) hS ?_
  simp only [Act.put, fl1, fl2, fl3, fl4, fl5, fl6]
  refine held_take 3 rfl (by kernel_rfl) (by kernel_rfl) (by kernel_rfl) (.int .i64 0) (fun _ _ _ h => nomatch h.1) (by kernel_rfl) (fun w' h => (by kernel_rfl)) hS ?_
  simp only [Act.put, fl1, fl2, fl3, fl4, fl5, fl6]
  refine held_take 4 rfl (by kernel_rfl) (by kernel_rfl) (by kernel_rfl) (.bool true) (fun _ _ _ h => nomatch h.1) (by kernel_rfl) (fun w' h => exec_eqI 26 _ _ rfl 0 0 (by kernel_rfl) (by kernel_rfl) true rfl) hS ?_
  simp only [Act.put, fl1, fl2, fl3, fl4, fl5, fl6]
  refine held_take 5 rfl (by kernel_rfl) (by kernel_rfl) (by kernel_rfl) (.bool true) (fun _ _ _ h => nomatch h.1) (by kernel_rfl) (fun w' h => (by kernel_rfl)) hS ?_
  simp only [Act.put, fl1, fl2, fl3, fl4, fl5, fl6]
  refine held_take 6 rfl (by kernel_rfl) (by kernel_rfl) (by kernel_rfl) (.bool true) (fun _ _ _ h => nomatch h.1) (by kernel_rfl) (fun w' h => (by kernel_rfl)) hS ?_
  simp only [Act.put, fl1, fl2, fl3, fl4, fl5, fl6]
  refine held_take 7 rfl (by kernel_rfl) (by kernel_rfl) (by kernel_rfl) (.slice A5 32 c5) (fun _ _ _ h => nomatch h.1) (by kernel_rfl) (fun w' h => (by kernel_rfl)) hS ?_
  simp only [Act.put, fl1, fl2, fl3, fl4, fl5, fl6]
  refine held_take 8 rfl (by kernel_rfl) (by kernel_rfl) (by kernel_rfl) (.string (strB H)) (fun _ _ _ h => nomatch h.1) (by kernel_rfl) (fun w' h => exec_convB _ rfl _ H (by kernel_rfl) (hpz4.out.below h)) hS ?_
  simp only [Act.put, fl1, fl2, fl3, fl4, fl5, fl6]
  refine held_take 9 rfl (by kernel_rfl) (by kernel_rfl) (by kernel_rfl) (.slice A2 32 c2) (fun _ _ _ h => nomatch h.1) (by kernel_rfl) (fun w' h => (by kernel_rfl)) hS ?_
  simp only [Act.put, fl1, fl2, fl3, fl4, fl5, fl6]
  refine held_take 10 rfl (by kernel_rfl) (by kernel_rfl) (by kernel_rfl) (.string (strB H)) (fun _ _ _ h => nomatch h.1) (by kernel_rfl) (fun w' h => exec_convB _ rfl _ H (by kernel_rfl) (hgw7.out.below (hNz4.out.trans (h.mono hNz4.out.size)))) hS ?_
  simp only [Act.put, fl1, fl2, fl3, fl4, fl5, fl6]
  refine held_take 11 rfl (by kernel_rfl) (by kernel_rfl) (by kernel_rfl) (.bool true) (fun _ _ _ h => nomatch h.1) (by kernel_rfl) (fun w' h => exec_eqS 9 _ _ rfl (strB H) (strB H) (by kernel_rfl) (by kernel_rfl) true (by simp)) hS ?_
  simp only [Act.put, fl1, fl2, fl3, fl4, fl5, fl6]
  refine held_take 12 rfl (by kernel_rfl) (by kernel_rfl) (by kernel_rfl) (.bool true) (fun _ _ _ h => nomatch h.1) (by kernel_rfl) (fun w' h => (by kernel_rfl)) hS ?_
  simp only [Act.put, fl1, fl2, fl3, fl4, fl5, fl6]
  refine held_take 13 rfl (by kernel_rfl) (by kernel_rfl) (by kernel_rfl) (.bool true) (fun _ _ _ h => nomatch h.1) (by kernel_rfl) (fun w' h => (by kernel_rfl)) hS ?_
  simp only [Act.put, fl1, fl2, fl3, fl4, fl5, fl6]
  refine held_take 14 rfl (by kernel_rfl) (by kernel_rfl) (by kernel_rfl) (.pointer (some ⟨L, 0, none⟩)) (fun _ _ _ h => nomatch h.1) (by kernel_rfl) (fun w' h => (by kernel_rfl)) hS ?_
  simp only [Act.put, fl1, fl2, fl3, fl4, fl5, fl6]
  refine held_call 15 rfl (by kernel_rfl) (by kernel_rfl) 23 #[.pointer (some ⟨L, 0, none⟩), .int .i64 1] (by kernel_rfl) (R := fun v w' => v = .int .i64 1 ∧ y = w') ((LLen_in (hLz4.out.below hS) 1 (by decide)).mono fun e w' h => ⟨_, h.1, by rw [upd_same]; rfl, h.2⟩) ?_
  rintro _ _ ⟨rfl, rfl⟩
  refine ⟨hS, ?_⟩
  simp only [Act.put, fl1, fl2, fl3, fl4, fl5, fl6]
  refine held_take 16 rfl (by kernel_rfl) (by kernel_rfl) (by kernel_rfl) (.bool true) (fun _ _ _ h => nomatch h.1) (by kernel_rfl) (fun w' h => exec_eqI 3 _ _ rfl 1 1 (by kernel_rfl) (by kernel_rfl) true rfl) hS ?_
  simp only [Act.put, fl1, fl2, fl3, fl4, fl5, fl6]
  refine held_take 17 rfl (by kernel_rfl) (by kernel_rfl) (by kernel_rfl) (.bool true) (fun _ _ _ h => nomatch h.1) (by kernel_rfl) (fun w' h => (by kernel_rfl)) hS ?_
  simp only [Act.put, fl1, fl2, fl3, fl4, fl5, fl6]
  refine held_take 18 rfl (by kernel_rfl) (by kernel_rfl) (by kernel_rfl) (.bool true) (fun _ _ _ h => nomatch h.1) (by kernel_rfl) (fun w' h => (by kernel_rfl)) hS ?_
  simp only [Act.put, fl1, fl2, fl3, fl4, fl5, fl6]
  refine held_take 19 rfl (by kernel_rfl) (by kernel_rfl) (by kernel_rfl) (.slice (some ⟨g6, o6, none⟩) 1 c6) (fun _ _ _ h => nomatch h.1) (by kernel_rfl) (fun w' h => (by kernel_rfl)) hS ?_
  simp only [Act.put, fl1, fl2, fl3, fl4, fl5, fl6]
  refine held_take 20 rfl (by kernel_rfl) (by kernel_rfl) (by kernel_rfl) (.int .i64 1) (fun _ _ _ h => nomatch h.1) (by kernel_rfl) (fun w' h => (by kernel_rfl)) hS ?_
  simp only [Act.put, fl1, fl2, fl3, fl4, fl5, fl6]
  refine held_take 21 rfl (by kernel_rfl) (by kernel_rfl) (by kernel_rfl) (.bool true) (fun _ _ _ h => nomatch h.1) (by kernel_rfl) (fun w' h => exec_eqI 3 _ _ rfl 1 1 (by kernel_rfl) (by kernel_rfl) true rfl) hS ?_
  simp only [Act.put, fl1, fl2, fl3, fl4, fl5, fl6]
  refine held_take 22 rfl (by kernel_rfl) (by kernel_rfl) (by kernel_rfl) (.bool true) (fun _ _ _ h => nomatch h.1) (by kernel_rfl) (fun w' h => (by kernel_rfl)) hS ?_
  simp only [Act.put, fl1, fl2, fl3, fl4, fl5, fl6]
  refine held_take 23 rfl (by kernel_rfl) (by kernel_rfl) (by kernel_rfl) (.bool true) (fun _ _ _ h => nomatch h.1) (by kernel_rfl) (fun w' h => (by kernel_rfl)) hS ?_
  simp only [Act.put, fl1, fl2, fl3, fl4, fl5, fl6]
  refine held_take 24 rfl (by kernel_rfl) (by kernel_rfl) (by kernel_rfl) (.slice (some ⟨g6, o6, none⟩) 1 c6) (fun _ _ _ h => nomatch h.1) (by kernel_rfl) (fun w' h => (by kernel_rfl)) hS ?_
  simp only [Act.put, fl1, fl2, fl3, fl4, fl5, fl6]
  refine held_take 25 rfl (by kernel_rfl) (by kernel_rfl) (by kernel_rfl) (.pointer (some ⟨g6, o6 + 0 * 37, none⟩)) (fun _ _ _ h => nomatch h.1) (by kernel_rfl) (fun w' h => exec_index un51 sz51 _ _ rfl g6 o6 1 c6 0 (by kernel_rfl) (by kernel_rfl) (by decide) w') hS ?_
  simp only [Act.put, fl1, fl2, fl3, fl4, fl5, fl6]
  refine held_take 26 rfl (by kernel_rfl) (by kernel_rfl) (by kernel_rfl) (.agg (encL (1, 1, eX))) (fun _ _ _ h => nomatch h.1) (by kernel_rfl) (fun w' h => load_l3 _ _ rfl g6 (o6 + 0 * 37) (by kernel_rfl) (1, 1, eX) (helH.out w' h)) hS ?_
  simp only [Act.put, fl1, fl2, fl3, fl4, fl5, fl6]
  refine held_take 27 rfl (by kernel_rfl) (by kernel_rfl) (by kernel_rfl) (.agg (encE eX)) (fun _ _ _ h => nomatch h.1) (by kernel_rfl) (fun w' h => (exec_load_row 24 w' _ rfl D (by kernel_rfl) 24 (encE eX) (0, 0) _ (heap_kept hXw7.out (hNz4.out.trans (h.mono hNz4.out.size))) Tryd.underlying24 rfl (by rw [encE_size']; kernel_rfl))) hS ?_
  simp only [Act.put, fl1, fl2, fl3, fl4, fl5, fl6]
  refine held_take 28 rfl (by kernel_rfl) (by kernel_rfl) (by kernel_rfl) (.agg (encL (1, 1, eX))) (fun _ _ _ h => nomatch h.1) (by kernel_rfl) (fun w' h => exec_bl55 _ _ _ rfl (1, 1, eX) (by kernel_rfl) (by kernel_rfl) (by kernel_rfl) w') hS ?_
  simp only [Act.put, fl1, fl2, fl3, fl4, fl5, fl6]
  refine held_take 29 rfl (by kernel_rfl) (by kernel_rfl) (by kernel_rfl) (.bool true) (fun _ _ _ h => nomatch h.1) (by kernel_rfl) (fun w' h => by kernel_rfl) hS ?_
  simp only [Act.put, fl1, fl2, fl3, fl4, fl5, fl6]
  refine held_take 30 rfl (by kernel_rfl) (by kernel_rfl) (by kernel_rfl) (.bool true) (fun _ _ _ h => nomatch h.1) (by kernel_rfl) (fun w' h => (by kernel_rfl)) hS ?_
  simp only [Act.put, fl1, fl2, fl3, fl4, fl5, fl6]
  refine held_take 31 rfl (by kernel_rfl) (by kernel_rfl) (by kernel_rfl) (.bool true) (fun _ _ _ h => nomatch h.1) (by kernel_rfl) (fun w' h => (by kernel_rfl)) hS ?_
  simp only [Act.put, fl1, fl2, fl3, fl4, fl5, fl6]
  refine held_take 32 rfl (by kernel_rfl) (by kernel_rfl) (by kernel_rfl) (.agg (encE eX)) (fun _ _ _ h => nomatch h.1) (by kernel_rfl) (fun w' h => (exec_load_row 24 w' _ rfl D (by kernel_rfl) 24 (encE eX) (0, 0) _ (heap_kept hXw7.out (hNz4.out.trans (h.mono hNz4.out.size))) Tryd.underlying24 rfl (by rw [encE_size']; kernel_rfl))) hS ?_
  simp only [Act.put, fl1, fl2, fl3, fl4, fl5, fl6]
  refine held_take 34 rfl (by kernel_rfl) (by kernel_rfl) (by kernel_rfl) (.slice A2 32 c2) (fun _ _ _ h => nomatch h.1) (by kernel_rfl) (fun w' h => (by kernel_rfl)) hS ?_
  simp only [Act.put, fl1, fl2, fl3, fl4, fl5, fl6]
  refine held_new 33 rfl (by kernel_rfl) (by kernel_rfl) (.slice (some ⟨y.heap.size, 0, none⟩) 1 1) (y.alloc (.cells (encE eX) 24)) (exec_bs24 _ rfl eX (by kernel_rfl) y) (fun w' => Below z4.heap.size z4 w' ∧ w'.heap[y.heap.size]? = some (.cells (encE eX) 24 (0, 0))) ⟨hS.alloc hS.size _, heap_alloc_new _ _⟩ ?_
  rintro y2 ⟨hS2, hn⟩
  refine ⟨hS2, ?_⟩
  simp only [Act.put, fl1, fl2, fl3, fl4, fl5, fl6]
  clear hS
  generalize y.heap.size = gg at hn ⊢
  have hrw : Rw 35 encE y2 (.slice (some ⟨gg, 0, none⟩) 1 1) [eX] := rw_one eX hn
  refine held_call 35 rfl (by kernel_rfl) (by kernel_rfl) 18 #[.int .i64 32, .slice (some ⟨gg, 0, none⟩) 1 1, .slice A2 32 c2] (by kernel_rfl) (R := fun v w' => v = .int .i64 0 ∧ Below y2.heap.size y2 w') ((Verify_calls 32 [eX] (fun x h => by rw [List.mem_singleton.1 h]; exact eX_ok) _ 1 1 rfl (by decide) H hHlt.out (by rw [hHl.out]; decide) (.slice A2 32 c2) y2 hrw (hgw7.out.below (hNz4.out.trans (hS2.mono hNz4.out.size)))).mono fun e w' h => ⟨_, h.1, by rw [hHH.out, eX_ver]; rfl, h.2⟩) ?_
  rintro _ y3 ⟨rfl, hb⟩
  have hS3 : Below z4.heap.size z4 y3 := hS2.trans (hb.mono hS2.size)
  refine ⟨hS3, ?_⟩
  simp only [Act.put, fl1, fl2, fl3, fl4, fl5, fl6]
  clear hS2 hn hrw hb
  have hS := hS3
  refine held_take 36 rfl (by kernel_rfl) (by kernel_rfl) (by kernel_rfl) (.bool true) (fun _ _ _ h => nomatch h.1) (by kernel_rfl) (fun w' h => exec_eqI 26 _ _ rfl 0 0 (by kernel_rfl) (by kernel_rfl) true rfl) hS ?_
  simp only [Act.put, fl1, fl2, fl3, fl4, fl5, fl6]
  refine held_take 37 rfl (by kernel_rfl) (by kernel_rfl) (by kernel_rfl) (.bool true) (fun _ _ _ h => nomatch h.1) (by kernel_rfl) (fun w' h => (by kernel_rfl)) hS ?_
  simp only [Act.put, fl1, fl2, fl3, fl4, fl5, fl6]
  refine held_take 38 rfl (by kernel_rfl) (by kernel_rfl) (by kernel_rfl) (.bool true) (fun _ _ _ h => nomatch h.1) (by kernel_rfl) (fun w' h => (by kernel_rfl)) hS ?_
  simp only [Act.put, fl1, fl2, fl3, fl4, fl5, fl6]
  refine wpAnyH_done (by kernel_rfl) ?_ _
  refine ⟨rfl, ?_⟩
  rename_i hK
  refine hK _ _ ?_
  clear hK
  have hF : Hid (Below w.heap.size w y3) := hBw7.out.trans ((hNz4.out.trans (hS3.mono hNz4.out.size)).mono hBw7.out.size)
  clear hS hS3 hBw7 hNz4 hLz4 helH hpz4 hgw7 hXw7
  go_wp2_with fail
  go_ret
  exact ⟨rfl, hF.out⟩
end Go.Proofs.YtadopkifpfmhcaaDoor
namespace Go.Proofs.YtadopkifpfmhcaaDoor
open Go.RowKit Go.ChangeShapes Go.WideShapes
open Sha (vals Bytes Lies bytesC sumB)
/-- What the row's cell 'laid' gives. -/
theorem tab_of_laid {W : World} (h : laidMet Tryd.prog [("math/bits.deBruijn64tab", Rows.laid_math_bits_deBruijn64tab)] W) : Tab W := by
  obtain ⟨g, t, cs, fuel, p, hg, hty, hvar, hd⟩ := Lib.laidMet.reads h (List.mem_singleton.2 rfl)
  obtain rfl := Option.some.inj ((show Tryd.prog.globalNamed "math/bits.deBruijn64tab" = some 0 by kernel_rfl).symm.trans hg)
  obtain rfl := Option.some.inj ((show (Tryd.prog.globals[0]?).map (·.type) = some 114 by kernel_rfl).symm.trans hty)
  have hd' : DataW.trod (fun _ => ()) Tryd.prog W 0 (fun _ => true) false fuel 114 cs.toList = some (Lib.tabData .u8 (tab.map fun (n : Nat) => (n : Int)), p) := by rw [hd]; rfl
  have hcs := Lib.cells_of_tab (n := 64) (e := 5) Tryd.underlying114 Tryd.underlying5 (by kernel_rfl) (by kernel_rfl) hd'
  have hcell : ∀ i, i < 64 → W.cell? ⟨0, i, none⟩ = some (.int .u8 ((tab.getD i 0 : Nat) : Int)) := fun i hi => by
    have hl : i < tab.length := hi
    rw [World.var?_cell hg hvar i, ← Array.getElem?_toList, hcs]
    simp [hl]
  exact ⟨block_lt_of_cell (hcell 0 (by decide)), hcell⟩
/-- A world that meets it. -/
noncomputable def laidWorld (os : Os) : World :=
  let w0 := World.holding Tryd.prog os ⟨#[], #[], []⟩
  { w0 with heap := w0.heap.modify 0 fun
      | .cells _ t frozen => .cells (tab.map fun (n : Nat) => Value.int .u8 (n : Int)).toArray t frozen
      | o => o }
set_option maxRecDepth 100000 in
theorem laidWorld_met (os : Os) (args : Array Value) : laidMet Tryd.prog [("math/bits.deBruijn64tab", Rows.laid_math_bits_deBruijn64tab)] ((laidWorld os).forCall (fun _ _ => 0) ⟨#[], args, []⟩).memory :=
  laidMet_of_run' 8 (by kernel_rfl) (by kernel_rfl)
section
variable {H : Type} {enc : TypeId × Value → H} {W : World}
theorem rw_of {α : Type} [Inhabited α] {k : Nat} {encA : α → Array Value} {t e : TypeId} (good : α → Prop) (hk0 : 0 < k) (hsz : ∀ x, (encA x).size = k) (ht : Tryd.prog.underlying t = some (.slice e)) (hc : Tryd.prog.cellsOf e = k)
    (each : ∀ n cs y, DataW.trod enc Tryd.prog W 0 (fun _ => true) true n e cs = some y → ∃ x : α, cs = (encA x).toList ∧ good x)
    {fuel : Nat} {cs : List Value} {x : DataW H × List MemPlace} (hf : DataW.trod enc Tryd.prog W 0 (fun _ => true) true fuel t cs = some x) :
    ∃ (a : Option Addr) (len cap : Nat) (l : List α), cs = [.slice a len cap] ∧ len = l.length ∧ Rw k encA W (.slice a len cap) l ∧ (∀ x ∈ l, good x) ∧ ((x.1 = .nil ∧ len = 0) ∨ ∃ elems spare, x.1 = .slice elems spare ∧ elems.length = len) := by
  rcases DataW.trod_slice ht hf with ⟨rfl, rfl⟩ | ⟨a', len', cap', elems, rest, n, rfl, rfl, hx, _, hl, hm, hlen, hel, _, _⟩
  · exact ⟨none, 0, 0, [], rfl, rfl, Rw.nil, fun x hx => (List.not_mem_nil hx).elim, .inl ⟨rfl, rfl⟩⟩
  · refine ⟨some a', len', cap', ?_⟩
    have each2 : ∀ i, ∃ x : α, i < len' → (∀ j, j < k → W.cell? ((a'.add (i * k)).add j) = (encA x).toList[j]?) ∧ good x := fun i => by
      by_cases hi : i < len'
      · have h1 := hel i hi
        rw [List.getElem?_eq_getElem (by omega), hc] at h1
        simp only [Option.bind_eq_some_iff] at h1
        obtain ⟨cs, h2, h3⟩ := h1
        obtain ⟨x, rfl, hg⟩ := each _ _ _ h3
        obtain ⟨_, _, h4⟩ := World.cells?_some h2
        exact ⟨x, fun _ => ⟨h4, hg⟩⟩
      · exact ⟨default, fun h => absurd h hi⟩
    obtain ⟨f, hff⟩ := Classical.skolem.1 each2
    have hl2 : ((List.range len').map f).length = len' := by simp
    refine ⟨(List.range len').map f, rfl, hl2.symm, ?_, fun x hx => ?_, .inr ⟨_, _, by rw [hx], by simp [hlen]⟩⟩
    · rcases Nat.eq_zero_or_pos len' with h0 | h0
      · subst h0
        exact .inl ⟨some a', cap', rfl, rfl, fun h => by cases h⟩
      · have hz := (hff 0 h0).1 0 hk0
        obtain ⟨b, off, spot⟩ := a'
        have hsome : (encA (f 0)).toList[0]? ≠ none := by
          rw [ne_eq, List.getElem?_eq_none_iff, Array.length_toList, hsz]; omega
        have hbs : spot = none ∧ b < W.heap.size := by
          cases spot with
          | none =>
            refine ⟨rfl, ?_⟩
            cases h : (encA (f 0)).toList[0]? with
            | none => exact absurd h hsome
            | some v => rw [h, Addr.add_mid, Addr.add_mid] at hz; exact block_lt_of_cell hz
          | some s =>
            exfalso
            apply hsome
            rw [← hz]
            unfold World.cell?
            cases W.heap[b]? with
            | none => simp [Addr.add]; split <;> simp_all
            | some o => simp [Addr.add]; split <;> simp_all
        obtain ⟨rfl, hb⟩ := hbs
        have hr : Rw k encA W (.slice (some ⟨b, off, none⟩) ((List.range len').map f).length cap') ((List.range len').map f) := .inr ⟨b, off, cap', rfl, by rw [hl2]; exact hl, hb, fun i hi r u hu => by
          rw [hl2] at hi
          have e : ((List.range len').map f).getD i default = f i := by simp [hi]
          rw [e] at hu
          have hr : r < k := by rw [← hsz (f i), ← Array.length_toList]; exact (List.getElem?_eq_some_iff.1 hu).1
          have := (hff i hi).1 r hr
          rw [Addr.add_mid, Addr.add_mid] at this
          rw [this]; exact hu⟩
        rw [hl2] at hr
        exact hr
    · obtain ⟨i, hi, rfl⟩ := List.mem_map.1 hx
      exact (hff i (List.mem_range.1 hi)).2
theorem len_of {s : ByteArray} (h : s.size ≤ maxLen) : s.size ≤ 9223372036854775807 := by
  unfold maxLen at h; omega
theorem byte_of {n : Nat} {cs : List Value} {y : DataW H × List MemPlace} (h : DataW.trod enc Tryd.prog W 0 (fun _ => true) true n 5 cs = some y) : ∃ m : Nat, cs = (encN m).toList ∧ m < 256 := by
  obtain ⟨z, rfl, _, hwf⟩ := DataW.trod_int Tryd.underlying5 h
  have h0 : IntKind.u8.min = 0 := by kernel_rfl
  have h1 : IntKind.u8.max = 255 := by kernel_rfl
  simp only [Lit.wf, Bool.and_eq_true, decide_eq_true_eq, h0, h1] at hwf
  exact ⟨z.toNat, by simp [encN]; omega, by omega⟩
theorem digest_of {n : Nat} {cs : List Value} {y : DataW H × List MemPlace} (h : DataW.trod enc Tryd.prog W 0 (fun _ => true) true n 22 cs = some y) : ∃ d : List Nat, d.length = 32 ∧ cs = d.map (fun (n : Nat) => Value.int .u8 (n : Int)) ∧ ∀ n ∈ d, n < 256 := by
  obtain ⟨xs, m, _, _, hl, hn, hel⟩ := DataW.trod_array Tryd.underlying22 h
  have hc : Tryd.prog.cellsOf 22 = 32 := by kernel_rfl
  have hc5 : Tryd.prog.cellsOf 5 = 1 := by kernel_rfl
  rw [hc] at hl
  have each : ∀ i, ∃ b : Nat, i < 32 → cs[i]? = some (.int .u8 (b : Int)) ∧ b < 256 := fun i => by
    by_cases hi : i < 32
    · have h0 := hel i hi
      rw [hc5, List.getElem?_eq_getElem (by omega)] at h0
      obtain ⟨b, hb, h9⟩ := byte_of h0
      refine ⟨b, fun _ => ⟨?_, h9⟩⟩
      have h1 : ((cs.drop (i * 1)).take 1)[0]? = some (.int .u8 (b : Int)) := by rw [hb]; rfl
      simpa using h1
    · exact ⟨0, fun h => absurd h hi⟩
  obtain ⟨f, hf⟩ := Classical.skolem.1 each
  refine ⟨(List.range 32).map f, by simp, List.ext_getElem? fun i => ?_, fun b hb => ?_⟩
  · by_cases hi : i < 32
    · rw [(hf i hi).1]; simp [hi]
    · rw [List.getElem?_eq_none (by omega), List.getElem?_eq_none (by simp; omega)]
  · obtain ⟨i, hi, rfl⟩ := List.mem_map.1 hb
    exact (hf i (List.mem_range.1 hi)).2
theorem split35 {cs : List Value} (h : cs.length = 35) : cs = (cs.drop 0).take 1 ++ ((cs.drop 1).take 1 ++ ((cs.drop 2).take 1 ++ (cs.drop 3).take 32)) := by
  refine List.ext_getElem? fun i => ?_
  rcases i with _ | _ | _ | i
  · match cs, h with
    | a :: _, _ => rfl
  · match cs, h with
    | a :: b :: _, _ => rfl
  · match cs, h with
    | a :: b :: c :: _, _ => rfl
  · match cs, h with
    | a :: b :: c :: l, h =>
      have hl : l.length = 32 := by simpa using h
      simp [List.take_of_length_le (Nat.le_of_eq hl)]
theorem en_of {n : Nat} {cs : List Value} {y : DataW H × List MemPlace} (h : DataW.trod enc Tryd.prog W 0 (fun _ => true) true n 24 cs = some y) : ∃ e : En, cs = (encE e).toList ∧ e.ok := by
  obtain ⟨y0, y1, y2, y3, m, _, hl, h0, h1, h2, h3⟩ := Joins.trod_struct4 Tryd.underlying24 h
  have hc : Tryd.prog.cellsOf 24 = 35 := by kernel_rfl
  have hc9 : Tryd.prog.cellsOf 9 = 1 := by kernel_rfl
  have hc2 : Tryd.prog.cellsOf 2 = 1 := by kernel_rfl
  have hc22 : Tryd.prog.cellsOf 22 = 32 := by kernel_rfl
  rw [hc] at hl
  obtain ⟨u, hu, _, hus⟩ := DataW.trod_string Tryd.underlying9 h0
  obtain ⟨t, ht, _, hwf⟩ := DataW.trod_int Tryd.underlying2 h1
  obtain ⟨x, hx, _, hxs⟩ := DataW.trod_string Tryd.underlying9 h2
  obtain ⟨d, hd, hds, hdl⟩ := digest_of h3
  have e1 : (cs.drop 0).take 1 = [.string u] := by rw [← hu, ← hc9]
  have e2 : (cs.drop 1).take 1 = [.int .i64 t] := by rw [← ht, ← hc2]
  have e3 : (cs.drop 2).take 1 = [.string x] := by rw [← hx, ← hc9]
  have e4 : (cs.drop 3).take 32 = d.map (fun (n : Nat) => Value.int .u8 (n : Int)) := by rw [← hds, ← hc22]
  have i0 : IntKind.i64.min = -9223372036854775808 := by kernel_rfl
  have i1 : IntKind.i64.max = 9223372036854775807 := by kernel_rfl
  simp only [Lit.wf, Bool.and_eq_true, decide_eq_true_eq, i0, i1] at hwf
  refine ⟨⟨u, t, x, d, hd⟩, ?_, hd, hdl, len_of hus, len_of hxs, by show _ ≤ t; omega, by show t < _; omega⟩
  rw [split35 hl, e1, e2, e3, e4]
  simp [encE]
theorem ens_of {fuel : Nat} {cs : List Value} {x : DataW H × List MemPlace} (hf : DataW.trod enc Tryd.prog W 0 (fun _ => true) true fuel 34 cs = some x) :
    ∃ (a : Option Addr) (len cap : Nat) (l : List En), cs = [.slice a len cap] ∧ len = l.length ∧ Rw 35 encE W (.slice a len cap) l ∧ (∀ x ∈ l, x.ok) ∧ ((x.1 = .nil ∧ len = 0) ∨ ∃ elems spare, x.1 = .slice elems spare ∧ elems.length = len) :=
  rw_of (fun x => x.ok) (by decide) encE_size' Tryd.underlying34 (by kernel_rfl) (fun n cs y h => en_of h) hf
theorem bytes_of {fuel : Nat} {cs : List Value} {x : DataW H × List MemPlace} (hf : DataW.trod enc Tryd.prog W 0 (fun _ => true) true fuel 25 cs = some x) :
    ∃ (a : Option Addr) (len cap : Nat) (l : List Nat), cs = [.slice a len cap] ∧ len = l.length ∧ Rw 1 encN W (.slice a len cap) l ∧ (∀ x ∈ l, x < 256) ∧ ((x.1 = .nil ∧ len = 0) ∨ ∃ elems spare, x.1 = .slice elems spare ∧ elems.length = len) :=
  rw_of (fun x => x < 256) (by decide) encN_size Tryd.underlying25 (by kernel_rfl) (fun n cs y h => byte_of h) hf
/-- A call of a log. -/
structure OpT where
  kd : Int
  lb : Int
  e : En
  m : Nat
deriving Inhabited
def encO (o : OpT) : Array Value := #[.int .i64 o.kd, .int .i64 o.lb] ++ encE o.e ++ #[.int .u64 (o.m : Int)]
theorem encO_size (o : OpT) : (encO o).size = 38 := by simp [encO, encE_size']
def OpT.ok (o : OpT) : Prop := o.e.ok ∧ o.m < 18446744073709551616 ∧ -9223372036854775808 ≤ o.kd ∧ o.kd < 9223372036854775808 ∧ -9223372036854775808 ≤ o.lb ∧ o.lb < 9223372036854775808
theorem split38 {cs : List Value} (h : cs.length = 38) : cs = (cs.drop 0).take 1 ++ ((cs.drop 1).take 1 ++ ((cs.drop 2).take 35 ++ (cs.drop 37).take 1)) := by
  have e1 : cs.drop 37 = (cs.drop 2).drop 35 := by rw [List.drop_drop]
  have e2 : (cs.drop 37).take 1 = cs.drop 37 := List.take_of_length_le (by simp; omega)
  have e3 : (cs.drop 2).take 35 ++ (cs.drop 37).take 1 = cs.drop 2 := by rw [e2, e1, List.take_append_drop]
  rw [e3]
  match cs, h with
  | a :: b :: l, _ => rfl
theorem op_of {n : Nat} {cs : List Value} {y : DataW H × List MemPlace} (h : DataW.trod enc Tryd.prog W 0 (fun _ => true) true n 47 cs = some y) : ∃ o : OpT, cs = (encO o).toList ∧ o.ok := by
  obtain ⟨y0, y1, y2, y3, m, _, hl, h0, h1, h2, h3⟩ := Joins.trod_struct4 Tryd.underlying47 h
  have hc : Tryd.prog.cellsOf 47 = 38 := by kernel_rfl
  have hc3 : Tryd.prog.cellsOf 3 = 1 := by kernel_rfl
  have hc24 : Tryd.prog.cellsOf 24 = 35 := by kernel_rfl
  have hc45 : Tryd.prog.cellsOf 45 = 1 := by kernel_rfl
  rw [hc] at hl
  obtain ⟨k, hk, _, hwk⟩ := DataW.trod_int Tryd.underlying3 h0
  obtain ⟨b, hb, _, hwb⟩ := DataW.trod_int Tryd.underlying3 h1
  obtain ⟨e, he, hok⟩ := en_of h2
  obtain ⟨u, hu, _, hwu⟩ := DataW.trod_int Tryd.underlying45 h3
  have e1 : (cs.drop 0).take 1 = [.int .i64 k] := by rw [← hk, ← hc3]
  have e2 : (cs.drop 1).take 1 = [.int .i64 b] := by rw [← hb, ← hc3]
  have e3 : (cs.drop 2).take 35 = (encE e).toList := by rw [← he, ← hc24]
  have e4 : (cs.drop 37).take 1 = [.int .u64 u] := by rw [← hu, ← hc45]
  have i0 : IntKind.i64.min = -9223372036854775808 := by kernel_rfl
  have i1 : IntKind.i64.max = 9223372036854775807 := by kernel_rfl
  have i2 : IntKind.u64.min = 0 := by kernel_rfl
  have i3 : IntKind.u64.max = 18446744073709551615 := by kernel_rfl
  simp only [Lit.wf, Bool.and_eq_true, decide_eq_true_eq, i0, i1] at hwk hwb
  simp only [Lit.wf, Bool.and_eq_true, decide_eq_true_eq, i2, i3] at hwu
  refine ⟨⟨k, b, e, u.toNat⟩, ?_, hok, by show u.toNat < _; omega, by show _ ≤ k; omega, by show k < _; omega, by show _ ≤ b; omega, by show b < _; omega⟩
  have hu2 : ((u.toNat : Nat) : Int) = u := by omega
  rw [split38 hl, e1, e2, e3, e4]
  simp [encO, hu2]
theorem ops_of {fuel : Nat} {cs : List Value} {x : DataW H × List MemPlace} (hf : DataW.trod enc Tryd.prog W 0 (fun _ => true) true fuel 40 cs = some x) :
    ∃ (a : Option Addr) (len cap : Nat) (l : List OpT), cs = [.slice a len cap] ∧ len = l.length ∧ Rw 38 encO W (.slice a len cap) l ∧ (∀ x ∈ l, x.ok) ∧ ((x.1 = .nil ∧ len = 0) ∨ ∃ elems spare, x.1 = .slice elems spare ∧ elems.length = len) :=
  rw_of (fun x => x.ok) (by decide) encO_size Tryd.underlying40 (by kernel_rfl) (fun n cs y h => op_of h) hf
variable {base : Nat} {v : Value} {d : DataW H} {p : List MemPlace}
set_option maxRecDepth 100000 in
theorem arg_en (hok : Value.okWide Tryd.prog W .any base 24 v) (h : DataW.Trod enc Tryd.prog W 0 (fun _ => true) true 24 v d p) : ∃ e : En, v = .agg (encE e) ∧ e.ok := by
  obtain ⟨cs, rfl, _⟩ := okWide_struct Tryd.underlying24 hok
  obtain ⟨fuel, hf⟩ := h
  obtain ⟨x, hx, hg⟩ := en_of hf
  exact ⟨x, congrArg Value.agg (Array.toList_inj.1 hx), hg⟩
set_option maxRecDepth 100000 in
theorem arg_ens (hok : Value.okWide Tryd.prog W .any base 34 v) (h : DataW.Trod enc Tryd.prog W 0 (fun _ => true) true 34 v d p) :
    ∃ (a : Option Addr) (len cap : Nat) (l : List En), v = .slice a len cap ∧ len = l.length ∧ Rw 35 encE W (.slice a len cap) l ∧ (∀ x ∈ l, x.ok) ∧ ((d = .nil ∧ len = 0) ∨ ∃ elems spare, d = .slice elems spare ∧ elems.length = len) := by
  obtain ⟨a, len, cap, rfl⟩ := okWide_slice Tryd.underlying34 hok
  obtain ⟨fuel, hf⟩ := h
  obtain ⟨a', len', cap', l, hx, h1, h2, h3, h4⟩ := ens_of hf
  simp [Value.cells] at hx
  obtain ⟨rfl, rfl, rfl⟩ := hx
  exact ⟨a, len, cap, l, rfl, h1, h2, h3, h4⟩
set_option maxRecDepth 100000 in
theorem arg_bytes (hok : Value.okWide Tryd.prog W .any base 25 v) (h : DataW.Trod enc Tryd.prog W 0 (fun _ => true) true 25 v d p) :
    ∃ (a : Option Addr) (len cap : Nat) (l : List Nat), v = .slice a len cap ∧ len = l.length ∧ Bytes W (.slice a len cap) l ∧ (∀ x ∈ l, x < 256) ∧ ((d = .nil ∧ len = 0) ∨ ∃ elems spare, d = .slice elems spare ∧ elems.length = len) := by
  obtain ⟨a, len, cap, rfl⟩ := okWide_slice Tryd.underlying25 hok
  obtain ⟨fuel, hf⟩ := h
  obtain ⟨a', len', cap', l, hx, h1, h2, h3, h4⟩ := bytes_of hf
  simp [Value.cells] at hx
  obtain ⟨rfl, rfl, rfl⟩ := hx
  exact ⟨a, len, cap, l, rfl, h1, rw_bytes.1 h2, h3, h4⟩
set_option maxRecDepth 100000 in
theorem arg_ops (hok : Value.okWide Tryd.prog W .any base 40 v) (h : DataW.Trod enc Tryd.prog W 0 (fun _ => true) true 40 v d p) :
    ∃ (a : Option Addr) (len cap : Nat) (l : List OpT), v = .slice a len cap ∧ len = l.length ∧ Rw 38 encO W (.slice a len cap) l ∧ (∀ x ∈ l, x.ok) ∧ ((d = .nil ∧ len = 0) ∨ ∃ elems spare, d = .slice elems spare ∧ elems.length = len) := by
  obtain ⟨a, len, cap, rfl⟩ := okWide_slice Tryd.underlying40 hok
  obtain ⟨fuel, hf⟩ := h
  obtain ⟨a', len', cap', l, hx, h1, h2, h3, h4⟩ := ops_of hf
  simp [Value.cells] at hx
  obtain ⟨rfl, rfl, rfl⟩ := hx
  exact ⟨a, len, cap, l, rfl, h1, h2, h3, h4⟩
/-- How long a list may be. -/
theorem arg_room {ts : List TypeId} {ds : List (DataW H)} (hz : (DataW.weightsEach Tryd.prog ts ds).all (· ≤ reachBytes) = true) {j len k : Nat} {t e : TypeId} (ht : ts[j]? = some t) (hd : ds[j]? = some d) (hu : Tryd.prog.underlying t = some (.slice e)) (hb : Tryd.prog.bytesOf e = k) (hk : 0 < k)
    (h : (d = .nil ∧ len = 0) ∨ ∃ elems spare, d = .slice elems spare ∧ elems.length = len) : len * k ≤ 140737488351232 := by
  rcases h with ⟨_, rfl⟩ | ⟨elems, spare, rfl, rfl⟩
  · rw [Nat.zero_mul]; decide
  · have := sized_slice hz ht hd hu
    rw [hb] at this
    have h2 : elems.length * k ≤ (elems.length + spare.length) * k := Nat.mul_le_mul_right k (by omega)
    unfold reachBytes at this
    omega
theorem int_wf {n : Int} (h : (Lit.int .i64 n).wf = true) : -9223372036854775808 ≤ n ∧ n < 9223372036854775808 := by
  have i0 : IntKind.i64.min = -9223372036854775808 := by kernel_rfl
  have i1 : IntKind.i64.max = 9223372036854775807 := by kernel_rfl
  simp only [Lit.wf, Bool.and_eq_true, decide_eq_true_eq, i0, i1] at h
  omega
theorem u64_wf {n : Int} (h : (Lit.int .u64 n).wf = true) : ∃ m : Nat, n = (m : Int) ∧ m < 18446744073709551616 := by
  have i0 : IntKind.u64.min = 0 := by kernel_rfl
  have i1 : IntKind.u64.max = 18446744073709551615 := by kernel_rfl
  simp only [Lit.wf, Bool.and_eq_true, decide_eq_true_eq, i0, i1] at h
  exact ⟨n.toNat, by omega, by omega⟩
theorem small_len {u : Nat} (h : (Lit.int .u64 (u : Int)).wf = true) : u < 18446744073709551616 := by
  have h1 : IntKind.u64.max = 18446744073709551615 := by kernel_rfl
  simp only [Lit.wf, Bool.and_eq_true, decide_eq_true_eq, h1] at h
  omega
end
end Go.Proofs.YtadopkifpfmhcaaDoor
