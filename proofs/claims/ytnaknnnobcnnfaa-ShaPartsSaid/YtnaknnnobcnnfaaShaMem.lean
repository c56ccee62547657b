/-
  SHA-256: bytes that are handed in, nil or not; a hash's cells in memory; an append of bytes.
-/
import Derived.Test.YtnaknnnobcnnfaaShaMore
import Derived.Test.YtnaknnnobcnnfaaShaNew
import Derived.Laws.AppendOwnNone
import Derived.Deep.MidRow
namespace Go.Proofs.Ytnaknnnobcnnfaa.Sha
open Go.RowKit
set_option linter.unusedVariables false
set_option linter.unusedSimpArgs false
/-- A list of bytes: an empty one, nil or not, wherever it leads; or a slice of whatever array. -/
def Bytes (w : World) (v : Value) (l : List Nat) : Prop :=
  (∃ A c, v = .slice A 0 c ∧ l = [] ∧ (A = none → c = 0)) ∨ ∃ g o c, v = .slice (some ⟨g, o, none⟩) l.length c ∧ l.length ≤ c ∧ g < w.heap.size ∧ Lies w g o l
theorem Bytes.form {w : World} {v : Value} {l : List Nat} (h : Bytes w v l) : ∃ A c, v = .slice A l.length c := by
  rcases h with ⟨A, c, rfl, rfl, _⟩ | ⟨g, o, c, rfl, _⟩
  · exact ⟨A, c, rfl⟩
  · exact ⟨_, c, rfl⟩
theorem Bytes.nil (w : World) : Bytes w (.slice none 0 0) [] := .inl ⟨none, 0, rfl, rfl, fun _ => rfl⟩
theorem Bytes.kept {w w' : World} {v : Value} {l : List Nat} (h : Bytes w v l) (hs : w.heap.size ≤ w'.heap.size) (hb : l ≠ [] → ∀ k, v.ownBlock = some k → w'.heap[k]? = w.heap[k]?) : Bytes w' v l := by
  rcases h with h | ⟨g, o, c, rfl, h1, h2, h3⟩
  · exact .inl h
  · by_cases hl : l = []
    · subst hl; exact .inr ⟨g, o, c, rfl, h1, by omega, fun j hj => by simp at hj⟩
    · exact .inr ⟨g, o, c, rfl, h1, by omega, h3.block (hb hl g rfl)⟩
theorem Bytes.lt {w : World} {v : Value} {l : List Nat} (h : Bytes w v l) (hl : l ≠ []) : ∀ k, v.ownBlock = some k → k < w.heap.size := by
  rcases h with ⟨A, c, rfl, h0, _⟩ | ⟨g, o, c, rfl, _, h2, _⟩
  · exact absurd h0 hl
  · intro k hk; simp [Value.ownBlock] at hk; omega
theorem Bytes.below {w w' : World} {v : Value} {l : List Nat} (h : Bytes w v l) (hb : Below w.heap.size w w') : Bytes w' v l :=
  h.kept hb.size fun hl k hk => hb.block k (h.lt hl k hk)
theorem Bytes.alloc {w : World} {v : Value} {l : List Nat} (h : Bytes w v l) (o : Obj) : Bytes (w.alloc o) v l :=
  h.below ((Below.refl _ _).alloc (Nat.le_refl _) _)
theorem Bytes.own {w : World} {base n : Nat} {v : Value} {l : List Nat} (h : w.ownsRow base 5 1 v n (vals l)) : Bytes w v l := by
  have hn : n = l.length := by have := h.1; rw [vals_length] at this; omega
  subst hn
  rcases h.2 with ⟨rfl, h0⟩ | ⟨g, cap, cur, rfl, h1, h2, h3, _⟩
  · have hl : l = [] := List.length_eq_zero_iff.1 h0
    subst hl; exact Bytes.nil w
  · exact .inr ⟨g, 0, cap, rfl, h3, (Array.getElem?_eq_some_iff.1 h2).1, lies_own h⟩
theorem info5' : ∃ i5, Try.prog.info? 5 = some i5 ∧ i5.zero = some (.int .u8 0) ∧ i5.size = 1 ∧ i5.bytes = 1 := by
  obtain ⟨i5, h⟩ := info_parts info5
  exact ⟨i5, h⟩
theorem grownBy_refl (w : World) (row : Option Nat) : w.grownBy w row := ⟨rfl, rfl, rfl, Nat.le_refl _, fun _ _ _ => rfl⟩
/-- Bytes behind bytes that are the call's own. -/
theorem append22 {w : World} {ops : Array Oper} {rest : List Oper} {o : Oper} {a : Act} {Q : Exit → Act → World → Prop} (hgd : o.guard = none) (s x : Operand)
    (ho : o.op = .call { callee := .builtin .append, args := #[s, x], argTypes := #[22, 22] })
    (base : Nat) (v : Value) (l0 l : List Nat) (hs : a.eval s = v) (hown : w.ownsRow base 5 1 v l0.length (vals l0))
    (y : Value) (hx : a.eval x = y) (hy : Bytes w y l) (hlen : l0.length + l.length ≤ 1000000000000) (hbase : base ≤ w.heap.size)
    (h : ∀ v' w', w'.ownsRow base 5 1 v' (l0 ++ l).length (vals (l0 ++ l)) → w.grownBy w' v.ownBlock → (v' = .slice none 0 0 ↔ v = .slice none 0 0 ∧ l.length = 0) → wpList Try.prog ops Q rest (a.put o.dst v') w') : wpList Try.prog ops Q (o :: rest) a w := by
  obtain ⟨i5, hi5, hz0, hz1, hz2⟩ := info5'
  rcases hy with ⟨A, c, rfl, rfl, hA⟩ | ⟨g, off, c, rfl, hc, hg, hl⟩
  · cases A with
    | none =>
    have hA := hA rfl
    subst hA
    exact wpList_append_own_none hgd s x 22 ho base 5 i5 1 Try.underlying22 hi5 v l0.length (vals l0) hs hown hx (h v w (by simpa using hown) (grownBy_refl _ _) (by simp))
    | some ad =>
    refine wpList_append_own w hgd s x 22 ho base 5 i5 (.int .u8 0) 1 1 Try.underlying22 hi5 hz0 hz1 hz2 rfl (by decide) v l0.length (vals l0) hs hown ad 0 c [] hx rfl (fun j u hu => by simp at hu) (fun u hu => by simp at hu) (by unfold maxLen; omega) (by omega) hbase ?_
    intro v' w' h1 h2 h3
    exact h v' w' (by simpa using h1) h2 (by simpa using h3)
  · refine wpList_append_own w hgd s x 22 ho base 5 i5 (.int .u8 0) 1 1 Try.underlying22 hi5 hz0 hz1 hz2 rfl (by decide) v l0.length (vals l0) hs hown ⟨g, off, none⟩ l.length c (vals l) hx (by rw [vals_length, Nat.mul_one]) hl.vals (vals_one _) (by unfold maxLen; omega) (by omega) hbase ?_
    intro v' w' h1 h2 h3
    exact h v' w' (by rw [List.length_append, vals_append]; exact h1) h2 h3
/-- A list of bytes, written out. -/
theorem bytes_lit (w : World) (l : List Nat) (n : Nat) (hn : n = l.length) : Bytes (w.alloc (.cells (bytesC l) 5)) (.slice (some ⟨w.heap.size, 0, none⟩) n n) l := by
  subst hn
  refine .inr ⟨_, 0, _, rfl, Nat.le_refl _, by simp, fun j hj => ?_⟩
  rw [cell_of_row _ _ _ _ _ _ (heap_alloc_new w _), Nat.zero_add, bytesC_get _ _ hj]
/-! ### A hash's cells -/
theorem hashC_size (s : List Nat) (hs : s.length = 8) (v : Value) (n : Nat) : (hashC s v n).size = 10 := by simp [hashC, words, hs]
theorem hashC_8 (s : List Nat) (hs : s.length = 8) (v : Value) (n : Nat) : (hashC s v n)[8]? = some v := by
  simp [hashC, words, hs, Array.getElem?_append]
theorem hashC_9 (s : List Nat) (hs : s.length = 8) (v : Value) (n : Nat) : (hashC s v n)[9]? = some (.int .u64 (n : Int)) := by
  simp [hashC, words, hs, Array.getElem?_append]
theorem hashC_w (s : List Nat) (hs : s.length = 8) (v : Value) (n : Nat) (j : Nat) (hj : j < 8) : (hashC s v n)[j]? = (words s)[j]? := by
  unfold hashC
  rw [Array.getElem?_append_left (by rw [words_size]; omega)]
theorem eight {s : List Nat} (hs : s.length = 8) : ∃ a b c d e f g h, s = [a, b, c, d, e, f, g, h] := by
  match s, hs with
  | [a, b, c, d, e, f, g, h], _ => exact ⟨a, b, c, d, e, f, g, h, rfl⟩
theorem hashC_set8 (s : List Nat) (hs : s.length = 8) (v v' : Value) (n : Nat) : (hashC s v n).setIfInBounds 8 v' = hashC s v' n := by
  obtain ⟨a, b, c, d, e, f, g, h, rfl⟩ := eight hs
  simp [hashC, words]
theorem hashC_set9 (s : List Nat) (hs : s.length = 8) (v : Value) (n n' : Nat) : (hashC s v n).setIfInBounds 9 (.int .u64 (n' : Int)) = hashC s v n' := by
  obtain ⟨a, b, c, d, e, f, g, h, rfl⟩ := eight hs
  simp [hashC, words]
theorem range_hash {w : World} {g : Nat} {s : List Nat} {v : Value} {n : Nat} (hs : s.length = 8) (h : w.heap[g]? = some (.cells (hashC s v n) 46 (0, 0))) : w.rangeAt g 0 (words s).toList := fun j u hu => by
  have hj : j < 8 := by have := (List.getElem?_eq_some_iff.1 hu).1; rw [Array.length_toList, words_size, hs] at this; exact this
  rw [cell_of_row _ _ _ _ _ _ h, Nat.zero_add, hashC_w s hs v n j hj]; simpa using hu
theorem there_hash {w : World} {g : Nat} {s : List Nat} {v : Value} {n : Nat} (hs : s.length = 8) (h : w.heap[g]? = some (.cells (hashC s v n) 46 (0, 0))) : w.there g 0 8 := fun j hj => by
  refine ⟨?_, frozen_of_row _ _ _ _ _ h⟩
  rw [cell_of_row _ _ _ _ _ _ h, Nat.zero_add, hashC_w s hs v n j hj, words_get _ _ (by omega)]; rfl
theorem setCells_other (g : Nat) : ∀ (vs : List Value) (o : Nat) (w : World) (k : Nat), k ≠ g → (w.setCells g o vs).heap[k]? = w.heap[k]?
  | [], _, _, _, _ => rfl
  | v :: r, o, w, k, hk => by rw [World.setCells, setCells_other g r _ _ k hk]; exact Below.heap_setCell _ _ _ _ hk
theorem setCells_size (g : Nat) : ∀ (vs : List Value) (o : Nat) (w : World), (w.setCells g o vs).heap.size = w.heap.size
  | [], _, _ => rfl
  | v :: r, o, w => by rw [World.setCells, setCells_size g r]; simp [World.setCell]
theorem setCells_os (g : Nat) : ∀ (vs : List Value) (o : Nat) (w : World), (w.setCells g o vs).os = w.os ∧ (w.setCells g o vs).tape = w.tape ∧ (w.setCells g o vs).output = w.output
  | [], _, _ => ⟨rfl, rfl, rfl⟩
  | v :: r, o, w => by rw [World.setCells]; exact setCells_os g r _ _
theorem setCells_hash {w : World} {g : Nat} {s s' : List Nat} {v : Value} {n : Nat} (hs : s.length = 8) (hs' : s'.length = 8) (h : w.heap[g]? = some (.cells (hashC s v n) 46 (0, 0))) :
    (w.setCells g 0 (words s').toList).heap[g]? = some (.cells (hashC s' v n) 46 (0, 0)) := by
  obtain ⟨a, b, c, d, e, f, i, j, rfl⟩ := eight hs
  obtain ⟨a', b', c', d', e', f', i', j', rfl⟩ := eight hs'
  simp only [words, List.map_cons, List.map_nil, World.setCells, Nat.zero_add, Nat.reduceAdd]
  have h0 := heap_setCell_same _ g 0 _ _ (.int .u32 (a' : Int)) h
  have h1 := heap_setCell_same _ g 1 _ _ (.int .u32 (b' : Int)) h0
  have h2 := heap_setCell_same _ g 2 _ _ (.int .u32 (c' : Int)) h1
  have h3 := heap_setCell_same _ g 3 _ _ (.int .u32 (d' : Int)) h2
  have h4 := heap_setCell_same _ g 4 _ _ (.int .u32 (e' : Int)) h3
  have h5 := heap_setCell_same _ g 5 _ _ (.int .u32 (f' : Int)) h4
  have h6 := heap_setCell_same _ g 6 _ _ (.int .u32 (i' : Int)) h5
  have h7 := heap_setCell_same _ g 7 _ _ (.int .u32 (j' : Int)) h6
  rw [h7]
  simp [hashC, words]
/-- Of what was there all but a hash and its rest is as it was. -/
structure Kept2 (w w' : World) (g : Nat) (row : Option Nat) : Prop where
  os : w'.os = w.os
  tape : w'.tape = w.tape
  output : w'.output = w.output
  size : w.heap.size ≤ w'.heap.size
  block : ∀ k, k < w.heap.size → k ≠ g → some k ≠ row → w'.heap[k]? = w.heap[k]?
theorem Kept2.refl (w : World) (g : Nat) (row : Option Nat) : Kept2 w w g row := ⟨rfl, rfl, rfl, Nat.le_refl _, fun _ _ _ _ => rfl⟩
theorem Kept2.below {w w' w2 : World} {g : Nat} {row : Option Nat} (h : Kept2 w w' g row) (hb : Below w'.heap.size w' w2) : Kept2 w w2 g row :=
  ⟨hb.os.trans h.os, hb.tape.trans h.tape, hb.output.trans h.output, Nat.le_trans h.size hb.size, fun k hk h1 h2 => (hb.block k (by have := h.size; omega)).trans (h.block k hk h1 h2)⟩
theorem Kept2.setCell {w w' : World} {g : Nat} {row : Option Nat} (h : Kept2 w w' g row) (j : Nat) (u : Value) : Kept2 w (w'.setCell ⟨g, j, none⟩ u) g row :=
  ⟨h.os, h.tape, h.output, by have := h.size; simpa [World.setCell] using this, fun k hk h1 h2 => (Below.heap_setCell _ _ _ _ h1).trans (h.block k hk h1 h2)⟩
theorem Kept2.setCells {w w' : World} {g : Nat} {row : Option Nat} (h : Kept2 w w' g row) (o : Nat) (vs : List Value) : Kept2 w (w'.setCells g o vs) g row :=
  ⟨(setCells_os g vs o w').1.trans h.os, (setCells_os g vs o w').2.1.trans h.tape, (setCells_os g vs o w').2.2.trans h.output, by rw [setCells_size]; exact h.size, fun k hk h1 h2 => (setCells_other g vs o w' k h1).trans (h.block k hk h1 h2)⟩
theorem Kept2.drew {w w' : World} {g : Nat} {row : Option Nat} (h : Kept2 w w' g row) : Kept2 w w'.drew g row := ⟨h.os, h.tape, h.output, h.size, h.block⟩
/-- What is below both is as it was. -/
theorem Kept2.toBelow {w w' : World} {g B : Nat} {row : Option Nat} (h : Kept2 w w' g row) (hg : B ≤ g) (hB : B ≤ w.heap.size) (hr : ∀ k, row = some k → B ≤ k) : Below B w w' :=
  ⟨h.os, h.tape, h.output, h.size, fun k hk => h.block k (by omega) (by omega) (fun e => by have := hr k e.symm; omega)⟩
theorem grownBy.kept2 {w w1 w2 : World} {g : Nat} {row row' : Option Nat} (h : Kept2 w w1 g row) (hg : w1.grownBy w2 row') (hr : ∀ k, row' = some k → k < w.heap.size → some k = row) : Kept2 w w2 g row :=
  ⟨hg.os.trans h.os, hg.tape.trans h.tape, hg.output.trans h.output, Nat.le_trans h.size hg.size, fun k hk h1 h2 => (hg.block k (by have := h.size; omega) (fun e => h2 (hr k e.symm hk))).trans (h.block k hk h1 h2)⟩
/-- An own row is another block than a hash. -/
theorem own_ne_hash {w : World} {base n g : Nat} {v : Value} {xs : List Value} {cs : Array Value} {fr : Nat × Nat} (h : w.ownsRow base 5 1 v n xs) (hg : w.heap[g]? = some (.cells cs 46 fr)) : v.ownBlock ≠ some g := by
  rcases h.2 with ⟨rfl, _⟩ | ⟨g', cap, cur, rfl, _, h2, _⟩
  · simp [Value.ownBlock]
  · intro e
    simp [Value.ownBlock] at e
    subst e
    rw [h2] at hg
    simp at hg
theorem own_keep {w w' : World} {base n : Nat} {v : Value} {xs : List Value} (h : w.ownsRow base 5 1 v n xs) (hb : ∀ k, v.ownBlock = some k → w'.heap[k]? = w.heap[k]?) : w'.ownsRow base 5 1 v n xs := by
  refine ⟨h.1, ?_⟩
  rcases h.2 with h2 | ⟨g', cap, cur, rfl, h1, h2, h3⟩
  · exact .inl h2
  · exact .inr ⟨g', cap, cur, rfl, h1, by rw [hb g' rfl]; exact h2, h3⟩
theorem exec_load_cell {P : Program} {o : Oper} (ty : TypeId) {a : Act} (w : World) (x : Operand) (ho : o.op = .load ty x) (ad : Addr) (hx : a.eval x = .pointer (some ad)) (v : Value) (hc : w.cell? ad = some v)
    (hag : ∀ w, (isAgg ty).run P w = .ok false w) : (execOp a.eval o).run P w = .ok (.value v) w := by
  unfold execOp
  simp only [ho, hx, Instr.loadAt, Instr.sureAddr, Sem.run_bind, Sem.run_pure, Result.andThen_ok, loadVar, hag]
  simp [hc]
theorem wpList_store_cell {P : Program} {ops : Array Oper} {rest : List Oper} {o : Oper} {a : Act} {w : World} {Q : Exit → Act → World → Prop} (hg : o.guard = none) (ty : TypeId) (x y : Operand) (ho : o.op = .store ty x y) (b k : Nat) (hx : a.eval x = .pointer (some ⟨b, k, none⟩)) (v : Value) (hy : a.eval y = v) (u : Value) (hu : w.cell? ⟨b, k, none⟩ = some u) (hf : w.frozen? ⟨b, k, none⟩ = false)
    (hs : ∀ w, (sizeOf ty).run P w = .ok 1 w) (hv : v.cells = #[v]) (h1 : v.oneCell' = true) (h : wpList P ops Q rest (a.put o.dst undef) (w.setCell ⟨b, k, none⟩ v)) : wpList P ops Q (o :: rest) a w :=
  wpList_plain hg fun _ hK => by
    unfold Oper.wp execOp
    simp only [ho, hx, hy, Instr.storeAt, Instr.sureAddr, Sem.run_bind, Sem.run_pure, Result.andThen_ok, storeVar, hs, hv]
    simp only [storeCells, List.size_toArray, List.length_cons, List.length_nil, Nat.zero_add, ne_eq, not_true_eq_false, if_false, Sem.run_bind, Sem.run_pure, Sem.run_ite, run_store _ _ _ _ _ h1, Addr.add_mid, Nat.add_zero, hu, hf, Bool.false_eq_true, Result.andThen_ok, Oper.upon]
    exact hK _ _ h
end Go.Proofs.Ytnaknnnobcnnfaa.Sha
