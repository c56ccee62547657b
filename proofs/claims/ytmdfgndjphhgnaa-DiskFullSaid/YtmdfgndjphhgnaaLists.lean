/-
  Rows of structs in memory, handed in and owned; steps of drawn regions: the generic laws of chapter 10's texts, for this seat.
-/
import Derived.Test.YtmdfgndjphhgnaaStep
import Derived.Laws.AppendOwnNone
import Derived.Laws.MakeOwn
namespace Go.Proofs.Ytmdfgndjphhgnaa
open Go.RowKit
set_option linter.unusedVariables false
set_option linter.unusedSimpArgs false
set_option pp.maxSteps 50000
/-- A list of structs of k cells each: empty, wherever it leads; or in an array. -/
def Rw {α : Type} [Inhabited α] (k : Nat) (enc : α → Array Value) (w : World) (v : Value) (l : List α) : Prop :=
  (∃ A c, v = .slice A 0 c ∧ l = [] ∧ (A = none → c = 0)) ∨ ∃ g o c, v = .slice (some ⟨g, o, none⟩) l.length c ∧ l.length ≤ c ∧ g < w.heap.size ∧ ∀ i, i < l.length → w.rangeAt g (o + i * k) (enc (l.getD i default)).toList
section
variable {α : Type} [Inhabited α] {k : Nat} {enc : α → Array Value} {w w' : World} {v : Value} {l : List α}
theorem Rw.form (h : Rw k enc w v l) : ∃ A c, v = .slice A l.length c := by
  rcases h with ⟨A, c, rfl, rfl, _⟩ | ⟨g, o, c, rfl, _⟩
  · exact ⟨A, c, rfl⟩
  · exact ⟨_, c, rfl⟩
theorem Rw.nil : Rw k enc w (.slice none 0 0) [] := .inl ⟨none, 0, rfl, rfl, fun _ => rfl⟩
theorem Rw.lt (h : Rw k enc w v l) (hl : l ≠ []) : ∀ q, v.ownBlock = some q → q < w.heap.size := by
  rcases h with ⟨A, c, rfl, h0, _⟩ | ⟨g, o, c, rfl, _, h2, _⟩
  · exact absurd h0 hl
  · intro q hq; simp [Value.ownBlock] at hq; omega
theorem Rw.kept (h : Rw k enc w v l) (hs : w.heap.size ≤ w'.heap.size) (hb : l ≠ [] → ∀ q, v.ownBlock = some q → w'.heap[q]? = w.heap[q]?) : Rw k enc w' v l := by
  rcases h with h | ⟨g, o, c, rfl, h1, h2, h3⟩
  · exact .inl h
  · by_cases hl : l = []
    · subst hl; exact .inr ⟨g, o, c, rfl, h1, by omega, fun j hj => by simp at hj⟩
    · exact .inr ⟨g, o, c, rfl, h1, by omega, fun i hi j u hu => by rw [World.cell?_of_block (w := w) (hb hl g rfl)]; exact h3 i hi j u hu⟩
theorem Rw.below (h : Rw k enc w v l) (hb : Below w.heap.size w w') : Rw k enc w' v l :=
  h.kept hb.size fun hl q hq => hb.block q (h.lt hl q hq)
/-- An element, where a loop reads it. -/
theorem Rw.elem {A : Option Addr} {n c : Nat} (h : Rw k enc w (.slice A n c) l) (i : Nat) (hi : i < l.length) : ∃ g o, A = some ⟨g, o, none⟩ ∧ n ≤ c ∧ g < w.heap.size ∧ w.rangeAt g (o + i * k) (enc (l.getD i default)).toList := by
  rcases h with ⟨A', c', h0, rfl, _⟩ | ⟨g, o, c', h0, h1, h2, h3⟩
  · simp at hi
  · injection h0 with h5 h6 h7
    subst h5 h6 h7
    exact ⟨g, o, rfl, h1, h2, h3 i hi⟩
end
theorem range_below {w w' : World} {g o : Nat} {cs : List Value} {B : Nat} (h : w.rangeAt g o cs) (hb : Below B w w') (hg : g < B) : w'.rangeAt g o cs := fun j u hu => by
  rw [hb.cell hg]; exact h j u hu
/-- The address of an element. -/
theorem exec_index {ty : TypeId} {k : Nat} {o : Oper} {a : Act} (hu : Try.prog.underlying ty = some (.slice (Try.prog.elem ty))) (hsz : ∀ w, (sizeOf (Try.prog.elem ty)).run Try.prog w = .ok k w) (x ix : Operand) (ho : o.op = .indexAddr ty x ix) (g off n c i : Nat) (hx : a.eval x = .slice (some ⟨g, off, none⟩) n c)
    (hi : a.eval ix = .int .i64 (i : Int)) (h : i < n) (w : World) : (execOp a.eval o).run Try.prog w = .ok (.value (.pointer (some ⟨g, off + i * k, none⟩))) w := by
  unfold execOp
  simp only [ho, hx, hi, Sem.run_bind, run_indexAt_slice w ty _ n c .i64 (i : Int) hu, hsz, Result.andThen_ok, Sem.run_pure]
  rw [if_pos (by omega)]
  simp [Addr.add_mid]
/-- The cells of a list of structs. -/
def flat {α : Type} (enc : α → Array Value) (l : List α) : List Value := l.flatMap fun x => (enc x).toList
theorem flat_len {α : Type} {k : Nat} {enc : α → Array Value} (he : ∀ x, (enc x).size = k) (l : List α) : (flat enc l).length = l.length * k := by
  induction l with
  | nil => simp [flat]
  | cons x xs ih =>
    have : flat enc (x :: xs) = (enc x).toList ++ flat enc xs := by simp [flat]
    rw [this, List.length_append, ih, Array.length_toList, he, List.length_cons, Nat.succ_mul]; omega
theorem flat_app {α : Type} {enc : α → Array Value} (a b : List α) : flat enc (a ++ b) = flat enc a ++ flat enc b := by simp [flat]
theorem flat_one {α : Type} {enc : α → Array Value} (h1 : ∀ x, ∀ u ∈ (enc x).toList, u.oneCell' = true) (l : List α) : ∀ u ∈ flat enc l, u.oneCell' = true := fun u hu => by
  obtain ⟨x, _, hx⟩ := List.mem_flatMap.1 hu
  exact h1 x u hx
section
variable {α : Type} [Inhabited α] {k : Nat} {enc : α → Array Value}
theorem flat_get (he : ∀ x, (enc x).size = k) : ∀ (l : List α) (i : Nat) (r : Nat), i < l.length → r < k → (flat enc l)[i * k + r]? = (enc (l.getD i default)).toList[r]?
  | [], i, r, h, _ => by simp at h
  | x :: xs, 0, r, h, hr => by
    have : flat enc (x :: xs) = (enc x).toList ++ flat enc xs := by simp [flat]
    rw [this, Nat.zero_mul, Nat.zero_add, List.getElem?_append_left (by rw [Array.length_toList, he]; exact hr)]
    rfl
  | x :: xs, i + 1, r, h, hr => by
    have : flat enc (x :: xs) = (enc x).toList ++ flat enc xs := by simp [flat]
    rw [this, List.getElem?_append_right (by rw [Array.length_toList, he, Nat.succ_mul]; omega), Array.length_toList, he, show (i + 1) * k + r - k = i * k + r by rw [Nat.succ_mul]; omega, flat_get he xs i r (by simpa using h) hr]
    rfl
theorem flat_at (he : ∀ x, (enc x).size = k) (l : List α) (j : Nat) (u : Value) (h : (flat enc l)[j]? = some u) : ∃ i r, i < l.length ∧ r < k ∧ j = i * k + r ∧ (enc (l.getD i default)).toList[r]? = some u := by
  have hj : j < l.length * k := by rw [← flat_len he l]; exact (List.getElem?_eq_some_iff.1 h).1
  have hk : 0 < k := by
    rcases Nat.eq_zero_or_pos k with h0 | h0
    · subst h0; simp at hj
    · exact h0
  have h1 : j / k < l.length := (Nat.div_lt_iff_lt_mul hk).2 hj
  have h2 : j % k < k := Nat.mod_lt _ hk
  have h3 : j = j / k * k + j % k := by rw [Nat.mul_comm]; exact (Nat.div_add_mod j k).symm
  refine ⟨j / k, j % k, h1, h2, h3, ?_⟩
  rw [← flat_get he l _ _ h1 h2, ← h3]; exact h
theorem Rw.cells {w : World} {g o : Nat} {l : List α} (he : ∀ x, (enc x).size = k) (h : ∀ i, i < l.length → w.rangeAt g (o + i * k) (enc (l.getD i default)).toList) : ∀ j u, (flat enc l)[j]? = some u → w.cell? ((⟨g, o, none⟩ : Addr).add j) = some u := fun j u hu => by
  obtain ⟨i, r, h1, h2, rfl, h3⟩ := flat_at he l j u hu
  rw [Addr.add_mid, ← Nat.add_assoc]
  exact h i h1 r u h3
theorem Rw.own {w : World} {base n : Nat} {e : TypeId} {v : Value} {l : List α} (he : ∀ x, (enc x).size = k) (hk : 0 < k) (h : w.ownsRow base e k v n (flat enc l)) : Rw k enc w v l := by
  have hn : n = l.length := by
    have := h.1; rw [flat_len he] at this
    exact (Nat.eq_of_mul_eq_mul_right hk this).symm
  subst hn
  rcases h.2 with ⟨rfl, h0⟩ | ⟨g, cap, cur, rfl, h1, h2, h3, _⟩
  · have hl : l = [] := List.length_eq_zero_iff.1 h0
    subst hl; exact Rw.nil
  · refine .inr ⟨g, 0, cap, rfl, h3, (Array.getElem?_eq_some_iff.1 h2).1, fun i hi r u hu => ?_⟩
    have hr : r < k := by rw [← he (l.getD i default), ← Array.length_toList]; exact (List.getElem?_eq_some_iff.1 hu).1
    have hb : i * k + r < l.length * k := by
      have : (i + 1) * k ≤ l.length * k := Nat.mul_le_mul_right k hi
      rw [Nat.succ_mul] at this; omega
    rw [Nat.zero_add, h.cellAt (i * k + r) hb, flat_get he l i r hi hr]
    exact hu
/-- A list behind a list that is the call's own. -/
theorem appendRw {w : World} {ops : Array Oper} {rest : List Oper} {o : Oper} {a : Act} {Q : Exit → Act → World → Prop} (ty e : TypeId) (bytes : Nat) (i : TypeInfo) (z : Value) (ht : Try.prog.underlying ty = some (.slice e)) (hi : Try.prog.info? e = some i) (hz : i.zero = some z) (hsize : i.size = k) (hby : i.bytes = bytes) (hzs : z.cells.size = k) (hk : 0 < k) (he : ∀ x, (enc x).size = k) (h1 : ∀ x, ∀ u ∈ (enc x).toList, u.oneCell' = true)
    (hgd : o.guard = none) (s x : Operand) (ho : o.op = .call { callee := .builtin .append, args := #[s, x], argTypes := #[ty, ty] })
    (base : Nat) (v : Value) (l0 l : List α) (hs : a.eval s = v) (hown : w.ownsRow base e k v l0.length (flat enc l0))
    (y : Value) (hx : a.eval x = y) (hy : Rw k enc w y l) (hlen : l0.length + l.length ≤ 140737488355327) (hlen2 : (l0.length + l.length) * bytes ≤ 140737488355328) (hbase : base ≤ w.heap.size)
    (h : ∀ v' w', w'.ownsRow base e k v' (l0 ++ l).length (flat enc (l0 ++ l)) → w.grownBy w' v.ownBlock → wpList Try.prog ops Q rest (a.put o.dst v') w') : wpList Try.prog ops Q (o :: rest) a w := by
  rcases hy with ⟨A, c, rfl, rfl, hA⟩ | ⟨g, off, c, rfl, hc, hg, hl⟩
  · cases A with
    | none =>
      have hA := hA rfl
      subst hA
      exact wpList_append_own_none hgd s x ty ho base e i k ht hi v l0.length (flat enc l0) hs hown hx (h v w (by simpa using hown) (grownBy_refl _ _))
    | some ad =>
      refine wpList_append_own w hgd s x ty ho base e i z k bytes ht hi hz hsize hby hzs hk v l0.length (flat enc l0) hs hown ad 0 c [] hx (by simp) (fun j u hu => by simp at hu) (fun u hu => by simp at hu) (by unfold maxLen; omega) (by simpa using hlen2) hbase ?_
      intro v' w' h1 h2 h3
      exact h v' w' (by simpa using h1) h2
  · refine wpList_append_own w hgd s x ty ho base e i z k bytes ht hi hz hsize hby hzs hk v l0.length (flat enc l0) hs hown ⟨g, off, none⟩ l.length c (flat enc l) hx (flat_len he l) (Rw.cells he hl) (flat_one h1 l) (by unfold maxLen; omega) hlen2 hbase ?_
    intro v' w' h1 h2 h3
    exact h v' w' (by rw [List.length_append, flat_app]; exact h1) h2
end
theorem quiet_runG {P : Program} {ops : Array Oper} {C : World → Prop} {rest : List Oper} {o : Oper} {a : Act} {Q : Act → Prop} (hw : Region.wanted o (yielded ops a.tmps) = true) (v : Value) (he : ∀ w, C w → (execOp a.eval o).run P w = .ok (.value v) w)
    (k : wpQuiet P ops C Q rest (a.put o.dst v)) : wpQuiet P ops C Q (o :: rest) a := by
  rw [wpQuiet, if_pos hw]
  exact ⟨v, fun w hw => by unfold Oper.quietAt; rw [he w hw]; exact ⟨rfl, rfl⟩, k⟩
theorem quiet_skipG {P : Program} {ops : Array Oper} {C : World → Prop} {rest : List Oper} {o : Oper} {a : Act} {Q : Act → Prop} (hw : Region.wanted o (yielded ops a.tmps) = false)
    (k : wpQuiet P ops C Q rest (a.put o.dst undef)) : wpQuiet P ops C Q (o :: rest) a := by
  rw [wpQuiet, if_neg (by rw [hw]; exact Bool.false_ne_true)]
  exact k
theorem wpList_skip {P : Program} {ops : Array Oper} {rest : List Oper} {o : Oper} {a : Act} {w : World} {Q : Exit → Act → World → Prop} (hw : Region.wanted o (yielded ops a.tmps) = false) (h : wpList P ops Q rest (a.put o.dst undef) w) : wpList P ops Q (o :: rest) a w := by
  rw [wpList, if_neg (by rw [hw]; exact Bool.false_ne_true)]; exact h
theorem drop_cons {α : Type} [Inhabited α] (l : List α) (i : Nat) (h : i < l.length) : l.drop i = l.getD i default :: l.drop (i + 1) := by
  rw [List.drop_eq_getElem_cons h]; simp [h]
theorem own_keep {w w' : World} {base n k : Nat} {e : TypeId} {v : Value} {xs : List Value} (h : w.ownsRow base e k v n xs) (hb : ∀ k, v.ownBlock = some k → w'.heap[k]? = w.heap[k]?) : w'.ownsRow base e k v n xs := by
  refine ⟨h.1, ?_⟩
  rcases h.2 with h2 | ⟨g', cap, cur, rfl, h1, h2, h3⟩
  · exact .inl h2
  · exact .inr ⟨g', cap, cur, rfl, h1, by rw [hb g' rfl]; exact h2, h3⟩
theorem own_form {w : World} {base n k : Nat} {e : TypeId} {v : Value} {xs : List Value} (h : w.ownsRow base e k v n xs) : ∃ A c, v = .slice A n c := by
  rcases h.2 with ⟨rfl, h0⟩ | ⟨g9, cap, cur, rfl, _⟩
  · exact ⟨none, 0, by rw [h0]⟩
  · exact ⟨_, cap, rfl⟩
/-- A new row of one struct. -/
theorem rw_one {α : Type} [Inhabited α] {k : Nat} {enc : α → Array Value} {w : World} {g : Nat} {t : TypeId} {fr : Nat × Nat} (x : α) (h : w.heap[g]? = some (.cells (enc x) t fr)) : Rw k enc w (.slice (some ⟨g, 0, none⟩) 1 1) [x] :=
  .inr ⟨g, 0, 1, rfl, Nat.le_refl _, (Array.getElem?_eq_some_iff.1 h).1, fun i hi j u hu => by
    have : i = 0 := by simp at hi; omega
    subst this
    rw [Nat.zero_mul, Nat.add_zero, Nat.zero_add, cell_of_row _ _ _ _ _ _ h]
    simpa using hu⟩
section
variable {P : Program} {ops : Array Oper} {Q : Exit → Act → World → Prop} {md : Region.Mode} {S : World → Prop} {fuel : Nat} {listed : Array Bool} {a : Act} {w : World}
/-- Either of two may come up. -/
theorem held_two (i j : Nat) {oi oj : Oper} (hi : ops[i]? = some oi) (hj : ops[j]? = some oj) (hr : Region.ready md ops listed = [i, j]) (hwi : Region.wanted oi (yielded ops a.tmps) = true) (hwj : Region.wanted oj (yielded ops a.tmps) = true)
    (vi : Value) (wi : World) (hei : (execOp a.eval oi).run P w = .ok (.value vi) wi) (hSi : S wi) (vj : Value) (wj : World) (hej : (execOp a.eval oj).run P w = .ok (.value vj) wj) (hSj : S wj)
    (h1 : wpAnyH P md ops Q S fuel (listed.setIfInBounds i true) (a.put oi.dst vi) wi) (h2 : wpAnyH P md ops Q S fuel (listed.setIfInBounds j true) (a.put oj.dst vj) wj) : wpAnyH P md ops Q S (fuel + 1) listed a w :=
  wpAnyH_all hr (by simp) fun k hk => by
    rcases List.mem_cons.1 hk with rfl | hk
    · exact wpOp_step hi fun K' hK => by
        rw [if_pos hwi]
        unfold Oper.wp; rw [hei]; exact hK _ _ ⟨hSi, h1⟩
    · rw [List.mem_singleton.1 hk]
      exact wpOp_step hj fun K' hK => by
        rw [if_pos hwj]
        unfold Oper.wp; rw [hej]; exact hK _ _ ⟨hSj, h2⟩
/-- What a region leaves, whatever its order. -/
theorem wp_leaves {c : Code} {α : Type} (F : α → Act → Act) (R : α → World → Prop) (h1 : c.wp P (fun ex a' w' => ex = .normal ∧ ∃ d, a' = F d a ∧ R d w') a w) (h2 : ∀ d w', R d w' → Q .normal (F d a) w') : c.wp P Q a w :=
  Code.wp_mono (fun e a' w' h => by obtain ⟨rfl, d, rfl, hR⟩ := h; exact h2 d w' hR) h1
theorem exec_make {o : Oper} (t : TypeId) (x y : Operand) (ho : o.op = .makeSlice t x y) (e : TypeId) (i : TypeInfo) (z : Value) (ht : P.underlying t = some (.slice e)) (hi : P.info? e = some i) (hz : i.zero = some z) (n : Nat)
    (hx : a.eval x = .int .i64 0) (hy : a.eval y = .int .i64 (n : Int)) (hb : i.bytes * n ≤ 281474976710656) (h63 : n ≤ maxLen) : (execOp a.eval o).run P w = .ok (.value (.slice (some ⟨w.heap.size, 0, none⟩) 0 n)) (w.alloc (.cells (madeCells z.cells (n * i.size)) e)) := by
  have h1 : (n : Int) ≤ 9223372036854775807 := by unfold maxLen at h63; omega
  have h2 : (i.bytes : Int) * (n : Int) ≤ 281474976710656 := by
    have h : ((i.bytes * n : Nat) : Int) ≤ 281474976710656 := by omega
    rwa [Int.natCast_mul] at h
  have hr := run_make (P := P) w t e i z ht hi hz .i64 .i64 0 n (Int.le_refl _) (by omega) h2 h1
  unfold execOp
  simp only [ho, hx, hy, Sem.run_bind, hr, Result.andThen_ok, Sem.run_pure, Int.toNat_natCast]
  rfl
end
theorem own_kind {w : World} {base n k d : Nat} {e t : TypeId} {v : Value} {xs : List Value} {cs : Array Value} {fr : Nat × Nat} (h : w.ownsRow base e k v n xs) (hd : w.heap[d]? = some (.cells cs t fr)) (hne : e ≠ t) : some d ≠ v.ownBlock := by
  rcases h.2 with ⟨rfl, _⟩ | ⟨g', cap, cur, rfl, _, h2, _⟩
  · simp [Value.ownBlock]
  · intro q
    simp [Value.ownBlock] at q
    subst q
    rw [h2] at hd
    simp at hd
    exact hne hd.2.1
theorem own_other {w : World} {base base' n n' k k' : Nat} {e e' : TypeId} {v v' : Value} {xs xs' : List Value} (h : w.ownsRow base e k v n xs) (h' : w.ownsRow base' e' k' v' n' xs') (hne : e ≠ e') : ∀ q, v'.ownBlock = some q → some q ≠ v.ownBlock := fun q hq => by
  rcases h'.2 with ⟨rfl, _⟩ | ⟨g', cap, cur, rfl, _, h2, _⟩
  · simp [Value.ownBlock] at hq
  · simp [Value.ownBlock] at hq
    subst hq
    exact own_kind h h2 hne
theorem own_mono {w : World} {base base' n k : Nat} {e : TypeId} {v : Value} {xs : List Value} (h : w.ownsRow base e k v n xs) (hb : base' ≤ base) : w.ownsRow base' e k v n xs := by
  refine ⟨h.1, ?_⟩
  rcases h.2 with h2 | ⟨g', cap, cur, rfl, h1, h2⟩
  · exact .inl h2
  · exact .inr ⟨g', cap, cur, rfl, by omega, h2⟩
theorem heap_kept {w w' : World} {B : Nat} {o : Obj} (h : w.heap[B]? = some o) (hb : Below w.heap.size w w') : w'.heap[B]? = some o := (hb.block B (Array.getElem?_eq_some_iff.1 h).1).trans h
/-- A new row of structs. -/
theorem rw_new {α : Type} [Inhabited α] {k : Nat} {enc : α → Array Value} (he : ∀ x, (enc x).size = k) {w : World} {g : Nat} {t : TypeId} {fr : Nat × Nat} (l : List α) (h : w.heap[g]? = some (.cells (flat enc l).toArray t fr)) : Rw k enc w (.slice (some ⟨g, 0, none⟩) l.length l.length) l :=
  .inr ⟨g, 0, l.length, rfl, Nat.le_refl _, (Array.getElem?_eq_some_iff.1 h).1, fun i hi r u hu => by
    have hr : r < k := by rw [← he (l.getD i default), ← Array.length_toList]; exact (List.getElem?_eq_some_iff.1 hu).1
    rw [Nat.zero_add, cell_of_row _ _ _ _ _ _ h, List.getElem?_toArray, flat_get he l i r hi hr]
    exact hu⟩
theorem run_elem {α : Type} [Inhabited α] {k : Nat} {enc : α → Array Value} {w : World} {g o n c : Nat} {l : List α} (h : Rw k enc w (.slice (some ⟨g, o, none⟩) n c) l) (i : Nat) (hi : i < l.length) : w.rangeAt g (o + i * k) (enc (l.getD i default)).toList := by
  obtain ⟨g', o', h1, _, _, h2⟩ := h.elem i hi
  injection h1 with h1
  injection h1 with h3 h4
  subst h3 h4
  exact h2
section
variable {α : Type} [Inhabited α] {k : Nat} {enc : α → Array Value}
/-- A list behind a list that is the call's own: wherever it stands. -/
theorem wp_appendRw {w : World} {o : Oper} {a : Act} {K : Act → World → Prop} {Q : Exit → Act → World → Prop} (ty e : TypeId) (bytes : Nat) (i : TypeInfo) (z : Value) (ht : Try.prog.underlying ty = some (.slice e)) (hi : Try.prog.info? e = some i) (hz : i.zero = some z) (hsize : i.size = k) (hby : i.bytes = bytes) (hzs : z.cells.size = k) (hk : 0 < k) (he : ∀ x, (enc x).size = k) (h1 : ∀ x, ∀ u ∈ (enc x).toList, u.oneCell' = true)
    (s x : Operand) (ho : o.op = .call { callee := .builtin .append, args := #[s, x], argTypes := #[ty, ty] })
    (base : Nat) (v : Value) (l0 l : List α) (hs : a.eval s = v) (hown : w.ownsRow base e k v l0.length (flat enc l0))
    (y : Value) (hx : a.eval x = y) (hy : Rw k enc w y l) (hlen : l0.length + l.length ≤ 140737488355327) (hlen2 : (l0.length + l.length) * bytes ≤ 140737488355328) (hbase : base ≤ w.heap.size)
    (h : ∀ v' w', w'.ownsRow base e k v' (l0 ++ l).length (flat enc (l0 ++ l)) → w.grownBy w' v.ownBlock → K (a.put o.dst v') w') : o.wp Try.prog a w K Q := by
  rcases hy with ⟨A, c, rfl, rfl, hA⟩ | ⟨g, off, c, rfl, hc, hg, hl⟩
  · cases A with
    | none =>
      have hA := hA rfl
      subst hA
      have hrun := run_append_owned_none (P := Try.prog) (w := w) base ty o.type e i k ht hi v l0.length (flat enc l0) hown
      unfold Oper.wp
      simp [execOp, ho, resolve, invoke, builtin, hs, hx, hrun, Result.andThen]
      exact h v w (by simpa using hown) (grownBy_refl _ _)
    | some ad =>
      refine wp_append_own w s x ty ho base e i z k bytes ht hi hz hsize hby hzs hk v l0.length (flat enc l0) hs hown ad 0 c [] hx (by simp) (fun j u hu => by simp at hu) (fun u hu => by simp at hu) (by unfold maxLen; omega) (by simpa using hlen2) hbase ?_
      intro v' w' h1 h2 h3
      exact h v' w' (by simpa using h1) h2
  · refine wp_append_own w s x ty ho base e i z k bytes ht hi hz hsize hby hzs hk v l0.length (flat enc l0) hs hown ⟨g, off, none⟩ l.length c (flat enc l) hx (flat_len he l) (Rw.cells he hl) (flat_one h1 l) (by unfold maxLen; omega) hlen2 hbase ?_
    intro v' w' h1 h2 h3
    exact h v' w' (by rw [List.length_append, flat_app]; exact h1) h2
end
section
variable {P : Program} {ops : Array Oper} {Q : Exit → Act → World → Prop} {md : Region.Mode} {S : World → Prop} {fuel : Nat} {listed : Array Bool} {a : Act} {w : World}
/-- Either of two may come up: each goes on in its own way. -/
theorem held_both (i j : Nat) {oi oj : Oper} (hi : ops[i]? = some oi) (hj : ops[j]? = some oj) (hr : Region.ready md ops listed = [i, j]) (hwi : Region.wanted oi (yielded ops a.tmps) = true) (hwj : Region.wanted oj (yielded ops a.tmps) = true)
    (h1 : ∀ K : Act → World → Prop, (∀ a w, S w → wpAnyH P md ops Q S fuel (listed.setIfInBounds i true) a w → K a w) → oi.wp P a w K Q)
    (h2 : ∀ K : Act → World → Prop, (∀ a w, S w → wpAnyH P md ops Q S fuel (listed.setIfInBounds j true) a w → K a w) → oj.wp P a w K Q) : wpAnyH P md ops Q S (fuel + 1) listed a w :=
  wpAnyH_all hr (by simp) fun k hk => by
    rcases List.mem_cons.1 hk with rfl | hk
    · exact wpOp_step hi fun K' hK => by
        rw [if_pos hwi]
        exact h1 K' fun a w h1 h2 => hK a w ⟨h1, h2⟩
    · rw [List.mem_singleton.1 hk]
      exact wpOp_step hj fun K' hK => by
        rw [if_pos hwj]
        exact h2 K' fun a w h1 h2 => hK a w ⟨h1, h2⟩
theorem wp_enter {o : Oper} {K : Act → World → Prop} (f : FuncId) (args : Array Value) (he : (execOp a.eval o).run P w = .ok (.enter f args) w) {R : Value → World → Prop} (hc : Calls P f args w fun e w' => ∃ v, e = .returned v ∧ R v w')
    (h : ∀ v w', R v w' → K (a.put o.dst v) w') : o.wp P a w K Q := by
  unfold Oper.wp; rw [he, Oper.upon_enter]
  exact hc.mono fun e w' hh => by obtain ⟨v, rfl, hR⟩ := hh; exact h v w' hR
theorem wp_ran {o : Oper} {K : Act → World → Prop} (v : Value) (w' : World) (he : (execOp a.eval o).run P w = .ok (.value v) w') (h : K (a.put o.dst v) w') : o.wp P a w K Q := by
  unfold Oper.wp; rw [he]; exact h
end
theorem own_formq {w : World} {base n k q : Nat} {e : TypeId} {v : Value} {xs : List Value} (h : w.ownsRow base e k v n xs) (hq : q = n) : ∃ A c, v = .slice A q c := by
  subst hq; exact own_form h
theorem rw_take {α : Type} [Inhabited α] {k : Nat} {enc : α → Array Value} {w : World} {l : List α} {A : Option Addr} {n c : Nat} (hn : n = l.length) (hy : Rw k enc w (.slice A n c) l) (q : Nat) (hq : q ≤ n) : q ≤ c ∧ Rw k enc w (.slice (if c = 0 then A else A.map (·.add 0)) q c) (l.take q) := by
  rcases hy with ⟨A', c', h, rfl, h2⟩ | ⟨g, o, c', h, h2, h3, h4⟩
  · injection h with h5 h6 h7
    subst h5 h6 h7
    have : q = 0 := by simpa using hq
    subst this
    refine ⟨Nat.zero_le _, .inl ⟨_, c, rfl, rfl, fun h => ?_⟩⟩
    by_cases hc : c = 0
    · exact hc
    · rw [if_neg hc] at h
      cases A with
      | none => exact h2 rfl
      | some a => cases h
  · injection h with h5 h6 h7
    subst h5 h7
    have hl : (l.take q).length = q := by rw [List.length_take]; omega
    refine ⟨by omega, .inr ⟨g, o, c, ?_, by rw [hl]; omega, h3, fun i hi => ?_⟩⟩
    · rw [hl]
      split
      · rfl
      · rw [Option.map_some, Addr.add_mid, Nat.add_zero]
    · rw [hl] at hi
      have e : (l.take q).getD i default = l.getD i default := by
        rw [List.getD_eq_getElem?_getD, List.getD_eq_getElem?_getD, List.getElem?_take, if_pos hi]
      rw [e]
      exact h4 i (by omega)
end Go.Proofs.Ytmdfgndjphhgnaa
