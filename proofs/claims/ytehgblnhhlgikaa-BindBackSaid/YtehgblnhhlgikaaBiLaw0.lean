/-
  Bindings: what the laws' walks stand on.
-/
import Derived.Test.YtehgblnhhlgikaaBiFixed
import Derived.Test.YtehgblnhhlgikaaBiRMatch
import Derived.Test.YtehgblnhhlgikaaBiCopy2
import Derived.Test.YtehgblnhhlgikaaBiOrder
namespace Go.Proofs.Ytehgblnhhlgikaa.Bi
open Go.RowKit
set_option linter.unusedVariables false
set_option linter.unusedSimpArgs false
set_option pp.maxSteps 50000
/-- What a law over a literal, a tuple and bindings keeps. -/
structure CtxM (w0 : World) (B B1 : Nat) (f t : Array Value) (va vt vb : Value) (args : List T3) (ts : List V2) (b : List T3) (w : World) : Prop where
  hf : w.heap[B]? = some (.cells f 24 (0, 0))
  ht : w.heap[B1]? = some (.cells t 27 (0, 0))
  ha : Rw 3 T3.c w va args
  hv : Rw 2 V2.c w vt ts
  hb : Rw 3 T3.c w vb b
  hB : Below w0.heap.size w0 w
theorem CtxM.below {w0 w w' : World} {B B1 : Nat} {f t : Array Value} {va vt vb : Value} {args : List T3} {ts : List V2} {b : List T3} (h : CtxM w0 B B1 f t va vt vb args ts b w) (hb : Below w.heap.size w w') : CtxM w0 B B1 f t va vt vb args ts b w' :=
  ⟨heap_kept h.hf hb, heap_kept h.ht hb, h.ha.below hb, h.hv.below hb, h.hb.below hb, h.hB.trans (hb.mono h.hB.size)⟩
/-- What a law over a literal and bindings keeps. -/
structure CtxF (w0 : World) (B : Nat) (f : Array Value) (va vb : Value) (args b : List T3) (w : World) : Prop where
  hf : w.heap[B]? = some (.cells f 24 (0, 0))
  ha : Rw 3 T3.c w va args
  hb : Rw 3 T3.c w vb b
  hB : Below w0.heap.size w0 w
theorem CtxF.below {w0 w w' : World} {B : Nat} {f : Array Value} {va vb : Value} {args b : List T3} (h : CtxF w0 B f va vb args b w) (hb : Below w.heap.size w w') : CtxF w0 B f va vb args b w' :=
  ⟨heap_kept h.hf hb, h.ha.below hb, h.hb.below hb, h.hB.trans (hb.mono h.hB.size)⟩
section
variable {α : Type} [Inhabited α] {k : Nat} {enc : α → Array Value}
/-- A list behind a list that is the call's own: wherever it stands. -/
theorem wp_appendRw {w : World} {o : Oper} {a : Act} {K : Act → World → Prop} {Q : Exit → Act → World → Prop} (ty e : TypeId) (bytes : Nat) (i : TypeInfo) (z : Value) (ht : Try.prog.underlying ty = some (.slice e)) (hi : Try.prog.info? e = some i) (hz : i.zero = some z) (hsize : i.size = k) (hby : i.bytes = bytes) (hzs : z.cells.size = k) (hk : 0 < k) (he : ∀ x, (enc x).size = k) (h1 : ∀ x, ∀ u ∈ (enc x).toList, u.oneCell' = true)
    (s x : Operand) (ho : o.op = .call { callee := .builtin .append, args := #[s, x], argTypes := #[ty, ty] })
    (base : Nat) (v : Value) (l0 l : List α) (hs : a.eval s = v) (hown : w.ownsRow base e k v l0.length (flat enc l0))
    (y : Value) (hx : a.eval x = y) (hy : Rw k enc w y l) (hlen : l0.length + l.length ≤ 140737488355327) (hlen2 : (l0.length + l.length) * bytes ≤ 140737488355328) (hbase : base ≤ w.heap.size)
    (h : ∀ v' w', w'.ownsRow base e k v' (l0 ++ l).length (flat enc (l0 ++ l)) → w.grownBy w' v.ownBlock → K (a.put o.dst v') w') : o.wp Try.prog a w K Q := by
  rcases hy with ⟨A, c, rfl, rfl, hA⟩ | ⟨g, off, c, rfl, hc, hg, hl⟩
  · cases A with
    | none =>
      have hA := hA rfl
      subst hA
      have hrun := run_append_owned_none (P := Try.prog) (w := w) base ty o.type e i k ht hi v l0.length (flat enc l0) hown
      unfold Oper.wp
      simp [execOp, ho, resolve, invoke, builtin, hs, hx, hrun, Result.andThen]
      exact h v w (by simpa using hown) (grownBy_refl _ _)
    | some ad =>
      refine wp_append_own w s x ty ho base e i z k bytes ht hi hz hsize hby hzs hk v l0.length (flat enc l0) hs hown ad 0 c [] hx (by simp) (fun j u hu => by simp at hu) (fun u hu => by simp at hu) (by unfold maxLen; omega) (by simpa using hlen2) hbase ?_
      intro v' w' h1 h2 h3
      exact h v' w' (by simpa using h1) h2
  · refine wp_append_own w s x ty ho base e i z k bytes ht hi hz hsize hby hzs hk v l0.length (flat enc l0) hs hown ⟨g, off, none⟩ l.length c (flat enc l) hx (flat_len he l) (Rw.cells he hl) (flat_one h1 l) (by unfold maxLen; omega) hlen2 hbase ?_
    intro v' w' h1 h2 h3
    exact h v' w' (by rw [List.length_append, flat_app]; exact h1) h2
end
section
variable {P : Program} {ops : Array Oper} {Q : Exit → Act → World → Prop} {md : Region.Mode} {S : World → Prop} {fuel : Nat} {listed : Array Bool} {a : Act} {w : World}
/-- Either of two may come up: each goes on in its own way. -/
theorem held_both (i j : Nat) {oi oj : Oper} (hi : ops[i]? = some oi) (hj : ops[j]? = some oj) (hr : Region.ready md ops listed = [i, j]) (hwi : Region.wanted oi (yielded ops a.tmps) = true) (hwj : Region.wanted oj (yielded ops a.tmps) = true)
    (h1 : ∀ K : Act → World → Prop, (∀ a w, S w → wpAnyH P md ops Q S fuel (listed.setIfInBounds i true) a w → K a w) → oi.wp P a w K Q)
    (h2 : ∀ K : Act → World → Prop, (∀ a w, S w → wpAnyH P md ops Q S fuel (listed.setIfInBounds j true) a w → K a w) → oj.wp P a w K Q) : wpAnyH P md ops Q S (fuel + 1) listed a w :=
  wpAnyH_all hr (by simp) fun k hk => by
    rcases List.mem_cons.1 hk with rfl | hk
    · exact wpOp_step hi fun K' hK => by
        rw [if_pos hwi]
        exact h1 K' fun a w h1 h2 => hK a w ⟨h1, h2⟩
    · rw [List.mem_singleton.1 hk]
      exact wpOp_step hj fun K' hK => by
        rw [if_pos hwj]
        exact h2 K' fun a w h1 h2 => hK a w ⟨h1, h2⟩
theorem wp_enter {o : Oper} {K : Act → World → Prop} (f : FuncId) (args : Array Value) (he : (execOp a.eval o).run P w = .ok (.enter f args) w) {R : Value → World → Prop} (hc : Calls P f args w fun e w' => ∃ v, e = .returned v ∧ R v w')
    (h : ∀ v w', R v w' → K (a.put o.dst v) w') : o.wp P a w K Q := by
  unfold Oper.wp; rw [he, Oper.upon_enter]
  exact hc.mono fun e w' hh => by obtain ⟨v, rfl, hR⟩ := hh; exact h v w' hR
theorem wp_ran {o : Oper} {K : Act → World → Prop} (v : Value) (w' : World) (he : (execOp a.eval o).run P w = .ok (.value v) w') (h : K (a.put o.dst v) w') : o.wp P a w K Q := by
  unfold Oper.wp; rw [he]; exact h
end
theorem exec_eqb {o : Oper} {a : Act} (x y : Operand) (ho : o.op = .binOp .eql 4 x y 4) (u v : Bool) (hx : a.eval x = .bool u) (hy : a.eval y = .bool v) (w : World) : (execOp a.eval o).run Try.prog w = .ok (.value (.bool (u == v))) w := by
  have he : (binOp .eql 4 (.bool u) (.bool v)).run Try.prog w = .ok (.bool (u == v)) w := by cases u <;> cases v <;> kernel_rfl
  unfold execOp
  simp [ho, hx, hy, eqGuard, Sem.run_bind, he, Result.andThen]
theorem own_formq {w : World} {base n k q : Nat} {e : TypeId} {v : Value} {xs : List Value} (h : w.ownsRow base e k v n xs) (hq : q = n) : ∃ A c, v = .slice A q c := by
  subst hq; exact own_form h
theorem goOn_len : ∀ (args : List T3) (ts : List V2) (out l : List T3), goOn args ts out = some l → out.length ≤ l.length ∧ l.length ≤ out.length + args.length
  | [], ts, out, l, h => by
    rw [goOn] at h
    · injection h with h; subst h; exact ⟨Nat.le_refl _, Nat.le_add_right _ _⟩
    · intro x xs v vs h1 _; cases h1
  | x :: xs, [], out, l, h => by
    rw [goOn] at h
    · injection h with h; subst h; exact ⟨Nat.le_refl _, Nat.le_add_right _ _⟩
    · intro x xs v vs _ h1; cases h1
  | x :: xs, v :: vs, out, l, h => by
    rw [goOn] at h
    split at h
    · split at h
      · have := goOn_len xs vs out l h
        simp only [List.length_cons]; omega
      · cases h
    · have := goOn_len xs vs _ l h
      simp only [List.length_append, List.length_cons, List.length_nil] at this ⊢; omega
theorem matchS_len {k : Nat} {p tp : ByteArray} {args b : List T3} {ts : List V2} : ((matchS k p args tp ts b).getD []).length ≤ b.length + args.length := by
  unfold matchS
  split
  · cases h : goOn args ts b with
    | none => simp
    | some l => have := goOn_len _ _ _ _ h; simpa using this.2
  · simp
end Go.Proofs.Ytehgblnhhlgikaa.Bi
