/-
  A map whose keys are strings, as a list of pairs: what it holds, look-ups, stores, deletions, its length.
-/
import Derived.MapKept
import Derived.Maps.RangeRun
import Derived.Below
namespace Go
open Go.MapKept (Stamped IsKey stamped_empty stamped_push stamped_modify stamped_erase findNow_spec run_checkKey run_findKey run_keyThatStays heap_set)
set_option linter.unusedVariables false
set_option linter.unusedSimpArgs false
/-- A map's pairs, in its own order. -/
structure DE (w : World) (mb : Nat) (es : Array MapEntry) (clock : Nat) (L : List (ByteArray × Value)) : Prop where
  heap : w.heap[mb]? = some (.map es clock)
  st : Stamped es clock
  prs : es.toList.map (fun e => (e.key, e.val)) = L.map fun p => (Value.string p.1, p.2)
def DM (w : World) (mb : Nat) (L : List (ByteArray × Value)) : Prop := ∃ es clock, DE w mb es clock L
/-- The value at a name. -/
def lk (L : List (ByteArray × Value)) (s : ByteArray) : Option Value := (L.find? fun p => decide (p.1 = s)).map (·.2)
def pt (L : List (ByteArray × Value)) (s : ByteArray) (v : Value) : List (ByteArray × Value) := if (lk L s).isSome then L.map (fun p => if p.1 = s then (s, v) else p) else L ++ [(s, v)]
def dl (L : List (ByteArray × Value)) (s : ByteArray) : List (ByteArray × Value) := L.filter fun p => !decide (p.1 = s)
theorem DE.keys {w : World} {mb clock : Nat} {es : Array MapEntry} {L : List (ByteArray × Value)} (h : DE w mb es clock L) : es.toList.map (·.key) = L.map fun p => Value.string p.1 := by
  have := congrArg (List.map Prod.fst) h.prs
  simpa [List.map_map, Function.comp_def] using this
theorem DE.nodup {w : World} {mb clock : Nat} {es : Array MapEntry} {L : List (ByteArray × Value)} (h : DE w mb es clock L) : (L.map (·.1)).Nodup := by
  have h3 := h.st.2.2
  rw [h.keys] at h3
  have h4 : ((L.map (·.1)).map Value.string).Nodup := by rw [List.map_map]; exact h3
  exact (List.pairwise_map.1 h4).imp fun hne e => hne (by rw [e])
theorem DE.isKey {w : World} {mb clock : Nat} {es : Array MapEntry} {L : List (ByteArray × Value)} (h : DE w mb es clock L) : ∀ x ∈ es.toList, IsKey .string x.key := fun x hx => by
  have : x.key ∈ es.toList.map (·.key) := List.mem_map.2 ⟨x, hx, rfl⟩
  rw [h.keys] at this
  obtain ⟨p, _, e⟩ := List.mem_map.1 this
  rw [← e]; trivial
theorem DE.get {w : World} {mb clock : Nat} {es : Array MapEntry} {L : List (ByteArray × Value)} (h : DE w mb es clock L) (j : Nat) : (es.toList[j]?).map (fun e => (e.key, e.val)) = (L[j]?).map fun p => (Value.string p.1, p.2) := by
  rw [← List.getElem?_map, ← List.getElem?_map, h.prs]
theorem DE.len {w : World} {mb clock : Nat} {es : Array MapEntry} {L : List (ByteArray × Value)} (h : DE w mb es clock L) : es.size = L.length := by
  have := congrArg List.length h.prs
  simpa using this
theorem lk_at {L : List (ByteArray × Value)} (hn : (L.map (·.1)).Nodup) {j : Nat} {s : ByteArray} {v : Value} (h : L[j]? = some (s, v)) : lk L s = some v := by
  induction L generalizing j with
  | nil => simp at h
  | cons p L ih =>
    have hn2 := List.nodup_cons.1 (show ((p.1) :: L.map (·.1)).Nodup from hn)
    unfold lk
    by_cases e : p.1 = s
    · rw [List.find?_cons_of_pos (by simpa using e)]
      cases j with
      | zero => simp at h; subst h; rfl
      | succ j =>
        exfalso
        simp at h
        exact hn2.1 (by rw [e]; exact List.mem_map.2 ⟨(s, v), List.mem_of_getElem? h, rfl⟩)
    · rw [List.find?_cons_of_neg (by simpa using e)]
      cases j with
      | zero => simp at h; subst h; exact absurd rfl e
      | succ j => simp at h; exact ih hn2.2 h
theorem lk_none {L : List (ByteArray × Value)} {s : ByteArray} (h : ∀ p ∈ L, p.1 ≠ s) : lk L s = none := by
  unfold lk
  rw [List.find?_eq_none.2 (fun p hp => by simpa using h p hp)]
  rfl
theorem lk_mem {L : List (ByteArray × Value)} {s : ByteArray} {v : Value} (h : lk L s = some v) : (s, v) ∈ L := by
  unfold lk at h
  cases hf : L.find? (fun p => decide (p.1 = s)) with
  | none => rw [hf] at h; cases h
  | some p =>
    rw [hf] at h
    simp at h
    have h1 := List.find?_some hf
    have h2 := List.mem_of_find?_eq_some hf
    simp at h1
    rw [← h1, ← h]; exact h2
section
variable {P : Program}
/-- Where a name stands, or that it doesn't. -/
theorem DE.find {w : World} {mb clock : Nat} {es : Array MapEntry} {L : List (ByteArray × Value)} (h : DE w mb es clock L) (s : ByteArray) :
    (Instr.findNow .string (.string s) es.toList 0 = some none ∧ lk L s = none ∧ ∀ x ∈ es.toList, x.key ≠ .string s) ∨
    ∃ j e v, Instr.findNow .string (.string s) es.toList 0 = some (some (j, v)) ∧ es[j]? = some e ∧ e.key = .string s ∧ e.val = v ∧ L[j]? = some (s, v) ∧ lk L s = some v := by
  rcases findNow_spec (d := .string) (k := .string s) trivial es.toList 0 h.isKey with ⟨h1, h2⟩ | ⟨j, e, h1, h2, h3⟩
  · refine .inl ⟨h1, lk_none fun p hp e => ?_, h2⟩
    have : Value.string p.1 ∈ es.toList.map (·.key) := by rw [h.keys]; exact List.mem_map.2 ⟨p, hp, rfl⟩
    obtain ⟨x, hx, e2⟩ := List.mem_map.1 this
    exact h2 x hx (by rw [e2, e])
  · refine .inr ⟨j, e, e.val, by simpa using h1, by simpa using h2, h3, rfl, ?_⟩
    have hg := h.get j
    rw [h2] at hg
    cases hL : L[j]? with
    | none => rw [hL] at hg; simp at hg
    | some p =>
      rw [hL] at hg
      simp only [Option.map_some, Option.some.injEq, Prod.mk.injEq, h3, Value.string.injEq] at hg
      have hp : p = (s, e.val) := by rw [hg.1, hg.2]
      rw [hp] at hL ⊢
      exact ⟨rfl, lk_at h.nodup hL⟩
theorem run_look {w : World} {mb : Nat} {L : List (ByteArray × Value)} (h : DM w mb L) {t k e : TypeId} (ht : P.underlying t = some (.map k e)) (hk : P.underlying k = some .string) {z : Value} (hz : (zeroValue e).run P w = .ok z w) (s : ByteArray) :
    (Instr.lookup t (.map (some mb)) (.string s) true).run P w = .ok (.tuple #[(lk L s).getD z, .bool (lk L s).isSome]) w := by
  obtain ⟨es, clock, h⟩ := h
  rcases h.find s with ⟨h1, h2, _⟩ | ⟨j, x, v, h1, _, _, _, _, h2⟩
  · simp [Instr.lookup, run_underlying ht, MapKept.run_getObj_map h.heap, run_checkKey (d := .string) hk (k := .string s) trivial, run_findKey hk h1, Result.andThen, h2, hz]
  · simp [Instr.lookup, run_underlying ht, MapKept.run_getObj_map h.heap, run_checkKey (d := .string) hk (k := .string s) trivial, run_findKey hk h1, Result.andThen, h2]
/-- But for one block all is as it was. -/
structure Only (mb : Nat) (w w' : World) : Prop where
  os : w'.os = w.os
  tape : w'.tape = w.tape
  output : w'.output = w.output
  size : w'.heap.size = w.heap.size
  block : ∀ q, q ≠ mb → w'.heap[q]? = w.heap[q]?
theorem only_set (w : World) (mb : Nat) (o : Obj) : Only mb w { w with heap := w.heap.setIfInBounds mb o } :=
  ⟨rfl, rfl, rfl, by simp, fun q hq => by simp [Array.getElem?_setIfInBounds, show ¬ mb = q from fun e => hq e.symm]⟩
theorem run_put {w : World} {mb : Nat} {L : List (ByteArray × Value)} (h : DM w mb L) {t k e : TypeId} (ht : P.underlying t = some (.map k e)) (hk : P.underlying k = some .string) (s : ByteArray) (v : Value) :
    ∃ w', (Instr.mapUpdate t (.map (some mb)) (.string s) v).run P w = .ok () w' ∧ DM w' mb (pt L s v) ∧ Only mb w w' := by
  obtain ⟨es, clock, h⟩ := h
  rcases h.find s with ⟨h1, h2, h3⟩ | ⟨j, x, u, h1, hj, hx, hu, hL, h2⟩
  · refine ⟨{ w with heap := w.heap.setIfInBounds mb (.map (es.push { key := .string s, val := v, born := clock }) (clock + 1)) }, ?_, ⟨_, _, (heap_set h.heap).1, stamped_push h.st h3, ?_⟩, only_set _ _ _⟩
    · simp [Instr.mapUpdate, run_underlying ht, MapKept.run_getObj_map h.heap, run_checkKey (d := .string) hk (k := .string s) trivial, run_findKey hk h1, MapKept.run_setObj_map _ h.heap, Result.andThen]
    · have hp : pt L s v = L ++ [(s, v)] := by simp [pt, h2]
      rw [hp, Array.toList_push, List.map_append, List.map_append, h.prs]
      rfl
  · have hkey : ∀ e', es[j]? = some e' → ({ e' with key := .string s, val := v } : MapEntry).key = e'.key := fun e' he' => by rw [hj] at he'; cases he'; exact hx.symm
    refine ⟨{ w with heap := w.heap.setIfInBounds mb (.map (es.modify j fun e => { e with key := .string s, val := v }) clock) }, ?_, ⟨_, _, (heap_set h.heap).1, stamped_modify h.st _ _ (fun _ _ => rfl) (fun e' _ he' => hkey e' he'), ?_⟩, only_set _ _ _⟩
    · simp [Instr.mapUpdate, run_underlying ht, MapKept.run_getObj_map h.heap, run_checkKey (d := .string) hk (k := .string s) trivial, run_findKey hk h1, hj, hx, run_keyThatStays (d := .string) (k := .string s) trivial, MapKept.run_setObj_map _ h.heap, Result.andThen]
    · have hp : pt L s v = L.map (fun p => if p.1 = s then (s, v) else p) := by simp [pt, h2]
      rw [hp]
      apply List.ext_getElem?
      intro i
      simp only [List.getElem?_map, Array.getElem?_toList, Array.getElem?_modify]
      have hg := h.get i
      rw [Array.getElem?_toList] at hg
      by_cases e : j = i
      · subst e
        rw [hj, hL]; simp
      · rw [if_neg e]
        cases hL2 : L[i]? with
        | none => rw [hL2] at hg; simpa using hg
        | some p =>
          have hne : ¬ p.1 = s := fun e2 => by
            have hn := h.nodup
            have a1 : (L.map (·.1))[j]? = some s := by simp [hL]
            have a2 : (L.map (·.1))[i]? = some s := by simp [hL2, e2]
            exact e ((List.getElem?_inj (List.getElem?_eq_some_iff.1 a1).1 hn).1 (a1.trans a2.symm))
          rw [hL2] at hg
          simp only [Option.map_some, if_neg hne]
          simpa using hg
theorem map_erase {α β : Type} (f : α → β) : ∀ (l : List α) (j : Nat), (l.eraseIdx j).map f = (l.map f).eraseIdx j
  | [], _ => rfl
  | _ :: _, 0 => rfl
  | x :: l, j + 1 => by simp [map_erase f l j]
theorem run_del {w : World} {mb : Nat} {L : List (ByteArray × Value)} (h : DM w mb L) {t k e : TypeId} (ht : P.underlying t = some (.map k e)) (hk : P.underlying k = some .string) (s : ByteArray) (ty u : TypeId) :
    ∃ w', (Builtin.delete_ #[t, u] ty #[.map (some mb), .string s]).run P w = .ok (.tuple #[]) w' ∧ DM w' mb (dl L s) ∧ Only mb w w' := by
  obtain ⟨es, clock, h⟩ := h
  rcases h.find s with ⟨h1, h2, h3⟩ | ⟨j, x, v, h1, hj, hx, hu, hL, h2⟩
  · refine ⟨{ w with heap := w.heap.setIfInBounds mb (.map es clock) }, ?_, ⟨es, clock, (heap_set h.heap).1, h.st, ?_⟩, only_set _ _ _⟩
    · simp [Builtin.delete_, run_underlying ht, MapKept.run_getObj_map h.heap, run_checkKey (d := .string) hk (k := .string s) trivial, run_findKey hk h1, MapKept.run_setObj_map _ h.heap, Result.andThen]
    · have hp : dl L s = L := by
        unfold dl
        refine List.filter_eq_self.2 fun p hp => ?_
        have : Value.string p.1 ∈ es.toList.map (·.key) := by rw [h.keys]; exact List.mem_map.2 ⟨p, hp, rfl⟩
        obtain ⟨x, hx, e2⟩ := List.mem_map.1 this
        have : ¬ p.1 = s := fun e => h3 x hx (by rw [e2, e])
        simpa using this
      rw [hp]; exact h.prs
  · refine ⟨{ w with heap := w.heap.setIfInBounds mb (.map (es.eraseIdxIfInBounds j) clock) }, ?_, ⟨_, _, (heap_set h.heap).1, stamped_erase h.st j, ?_⟩, only_set _ _ _⟩
    · simp [Builtin.delete_, run_underlying ht, MapKept.run_getObj_map h.heap, run_checkKey (d := .string) hk (k := .string s) trivial, run_findKey hk h1, MapKept.run_setObj_map _ h.heap, Result.andThen]
    · have hjl : j < es.size := (Array.getElem?_eq_some_iff.1 hj).1
      have hp : dl L s = L.eraseIdx j := by
        have hn := h.nodup
        clear hj hx hu h1 h2 h hjl
        unfold dl
        induction L generalizing j with
        | nil => simp at hL
        | cons p L ih =>
          have hn2 := List.nodup_cons.1 (show ((p.1) :: L.map (·.1)).Nodup from hn)
          cases j with
          | zero =>
            simp at hL
            subst hL
            rw [List.eraseIdx_cons_zero, List.filter_cons_of_neg (by simp)]
            refine List.filter_eq_self.2 fun q hq => ?_
            have : ¬ q.1 = s := fun e => hn2.1 (by rw [← e]; exact List.mem_map.2 ⟨q, hq, rfl⟩)
            simpa using this
          | succ j =>
            simp at hL
            have hne : ¬ p.1 = s := fun e => hn2.1 (by rw [e]; exact List.mem_map.2 ⟨(s, v), List.mem_of_getElem? hL, rfl⟩)
            rw [List.eraseIdx_cons_succ, List.filter_cons_of_pos (by simpa using hne), ih j hL hn2.2]
      have he : (es.eraseIdxIfInBounds j).toList = es.toList.eraseIdx j := by simp [Array.eraseIdxIfInBounds, hjl]
      rw [hp, he, map_erase, map_erase, h.prs]
theorem run_lenm {w : World} {mb : Nat} {L : List (ByteArray × Value)} (h : DM w mb L) {t k e ty : TypeId} (ht : P.underlying t = some (.map k e)) : (Builtin.len_ #[t] ty #[.map (some mb)]).run P w = .ok (.int .i64 (L.length : Int)) w := by
  obtain ⟨es, clock, h⟩ := h
  simp [Builtin.len_, run_underlying ht, MapKept.run_getObj_map h.heap, Result.andThen, h.len, goInt]
theorem DM.made (w : World) : DM (w.alloc (.map #[] 0)) w.heap.size [] := ⟨#[], 0, heap_alloc_new _ _, stamped_empty 0, rfl⟩
theorem DM.kept {w w' : World} {mb : Nat} {L : List (ByteArray × Value)} (h : DM w mb L) (hb : w'.heap[mb]? = w.heap[mb]?) : DM w' mb L := by
  obtain ⟨es, clock, h⟩ := h
  exact ⟨es, clock, hb.trans h.heap, h.st, h.prs⟩
theorem DM.lt {w : World} {mb : Nat} {L : List (ByteArray × Value)} (h : DM w mb L) : mb < w.heap.size := by
  obtain ⟨es, clock, h⟩ := h
  exact (Array.getElem?_eq_some_iff.1 h.heap).1
theorem DM.nodup {w : World} {mb : Nat} {L : List (ByteArray × Value)} (h : DM w mb L) : (L.map (·.1)).Nodup := by
  obtain ⟨es, clock, h⟩ := h
  exact h.nodup
end
end Go
