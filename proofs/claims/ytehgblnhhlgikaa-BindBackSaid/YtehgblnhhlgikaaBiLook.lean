/-
  Bindings: rows of structs in memory; a variable looked up.
-/
import Derived.Test.YtehgblnhhlgikaaBiCmp2
namespace Go.Proofs.Ytehgblnhhlgikaa.Bi
open Go.RowKit
set_option linter.unusedVariables false
set_option linter.unusedSimpArgs false
set_option pp.maxSteps 50000
instance : Inhabited V2 := ⟨⟨ByteArray.empty, 0⟩⟩
instance : Inhabited T3 := ⟨⟨ByteArray.empty, default⟩⟩
/-- A list of structs of k cells each: empty, wherever it leads; or in an array. -/
def Rw {α : Type} [Inhabited α] (k : Nat) (enc : α → Array Value) (w : World) (v : Value) (l : List α) : Prop :=
  (∃ A c, v = .slice A 0 c ∧ l = [] ∧ (A = none → c = 0)) ∨ ∃ g o c, v = .slice (some ⟨g, o, none⟩) l.length c ∧ l.length ≤ c ∧ g < w.heap.size ∧ ∀ i, i < l.length → w.rangeAt g (o + i * k) (enc (l.getD i default)).toList
section
variable {α : Type} [Inhabited α] {k : Nat} {enc : α → Array Value} {w w' : World} {v : Value} {l : List α}
theorem Rw.form (h : Rw k enc w v l) : ∃ A c, v = .slice A l.length c := by
  rcases h with ⟨A, c, rfl, rfl, _⟩ | ⟨g, o, c, rfl, _⟩
  · exact ⟨A, c, rfl⟩
  · exact ⟨_, c, rfl⟩
theorem Rw.nil : Rw k enc w (.slice none 0 0) [] := .inl ⟨none, 0, rfl, rfl, fun _ => rfl⟩
theorem Rw.lt (h : Rw k enc w v l) (hl : l ≠ []) : ∀ q, v.ownBlock = some q → q < w.heap.size := by
  rcases h with ⟨A, c, rfl, h0, _⟩ | ⟨g, o, c, rfl, _, h2, _⟩
  · exact absurd h0 hl
  · intro q hq; simp [Value.ownBlock] at hq; omega
theorem Rw.kept (h : Rw k enc w v l) (hs : w.heap.size ≤ w'.heap.size) (hb : l ≠ [] → ∀ q, v.ownBlock = some q → w'.heap[q]? = w.heap[q]?) : Rw k enc w' v l := by
  rcases h with h | ⟨g, o, c, rfl, h1, h2, h3⟩
  · exact .inl h
  · by_cases hl : l = []
    · subst hl; exact .inr ⟨g, o, c, rfl, h1, by omega, fun j hj => by simp at hj⟩
    · exact .inr ⟨g, o, c, rfl, h1, by omega, fun i hi j u hu => by rw [World.cell?_of_block (w := w) (hb hl g rfl)]; exact h3 i hi j u hu⟩
theorem Rw.below (h : Rw k enc w v l) (hb : Below w.heap.size w w') : Rw k enc w' v l :=
  h.kept hb.size fun hl q hq => hb.block q (h.lt hl q hq)
/-- An element, where a loop reads it. -/
theorem Rw.elem {A : Option Addr} {n c : Nat} (h : Rw k enc w (.slice A n c) l) (i : Nat) (hi : i < l.length) : ∃ g o, A = some ⟨g, o, none⟩ ∧ n ≤ c ∧ g < w.heap.size ∧ w.rangeAt g (o + i * k) (enc (l.getD i default)).toList := by
  rcases h with ⟨A', c', h0, rfl, _⟩ | ⟨g, o, c', h0, h1, h2, h3⟩
  · simp at hi
  · injection h0 with h5 h6 h7
    subst h5 h6 h7
    exact ⟨g, o, rfl, h1, h2, h3 i hi⟩
end
theorem range_below {w w' : World} {g o : Nat} {cs : List Value} {B : Nat} (h : w.rangeAt g o cs) (hb : Below B w w') (hg : g < B) : w'.rangeAt g o cs := fun j u hu => by
  rw [hb.cell hg]; exact h j u hu
/-- The address of an element. -/
theorem exec_index {ty : TypeId} {k : Nat} {o : Oper} {a : Act} (hu : Try.prog.underlying ty = some (.slice (Try.prog.elem ty))) (hsz : ∀ w, (sizeOf (Try.prog.elem ty)).run Try.prog w = .ok k w) (x ix : Operand) (ho : o.op = .indexAddr ty x ix) (g off n c i : Nat) (hx : a.eval x = .slice (some ⟨g, off, none⟩) n c)
    (hi : a.eval ix = .int .i64 (i : Int)) (h : i < n) (w : World) : (execOp a.eval o).run Try.prog w = .ok (.value (.pointer (some ⟨g, off + i * k, none⟩))) w := by
  unfold execOp
  simp only [ho, hx, hi, Sem.run_bind, run_indexAt_slice w ty _ n c .i64 (i : Int) hu, hsz, Result.andThen_ok, Sem.run_pure]
  rw [if_pos (by omega)]
  simp [Addr.add_mid]
theorem el28 : Try.prog.elem 28 = 50 := by kernel_rfl
theorem un28 : Try.prog.underlying 28 = some (.slice (Try.prog.elem 28)) := by rw [el28]; exact Try.underlying28
theorem sz28 (w : World) : (sizeOf (Try.prog.elem 28)).run Try.prog w = .ok 3 w := by rw [el28]; kernel_rfl
theorem el22 : Try.prog.elem 22 = 48 := by kernel_rfl
theorem un22 : Try.prog.underlying 22 = some (.slice (Try.prog.elem 22)) := by rw [el22]; exact Try.underlying22
theorem sz22 (w : World) : (sizeOf (Try.prog.elem 22)).run Try.prog w = .ok 3 w := by rw [el22]; kernel_rfl
theorem el25 : Try.prog.elem 25 = 46 := by kernel_rfl
theorem un25 : Try.prog.underlying 25 = some (.slice (Try.prog.elem 25)) := by rw [el25]; exact Try.underlying25
theorem sz25 (w : World) : (sizeOf (Try.prog.elem 25)).run Try.prog w = .ok 2 w := by rw [el25]; kernel_rfl
/-- Has a binding the variable? -/
def hit (x : ByteArray) (e : T3) : Bool := e.x.toList == x.toList
/-- A term's value among bindings. -/
def look (b : List T3) (t : T3) : V2 × Bool :=
  if t.x.toList = [] then (t.v, true) else match b.find? (hit t.x) with | some e => (e.v, true) | none => (default, false)
theorem find_at {b : List T3} {x : ByteArray} {i : Nat} (hi : i < b.length) (h : ∀ j, j < i → hit x (b.getD j default) = false) (hh : hit x (b.getD i default) = true) : b.find? (hit x) = some (b.getD i default) := by
  rw [List.find?_eq_some_iff_getElem]
  refine ⟨hh, i, hi, ?_, fun j hj => ?_⟩
  · simp [hi]
  · have := h j hj
    have hjl : j < b.length := by omega
    simp [hjl] at this
    simpa using this
theorem find_no {b : List T3} {x : ByteArray} (h : ∀ j, j < b.length → hit x (b.getD j default) = false) : b.find? (hit x) = none := by
  rw [List.find?_eq_none]
  intro e he
  obtain ⟨j, hj, rfl⟩ := List.getElem_of_mem he
  have := h j hj
  simp [hj] at this
  simpa using this
set_option maxRecDepth 100000 in
set_option maxHeartbeats 1000000 in
theorem hit_calls (e : T3) (p : Nat) (x : ByteArray) (w : World) (hp : w.cell? ⟨p, 0, none⟩ = some (.string x)) : Calls Try.prog 32 #[.agg e.c, .pointer (some ⟨p, 0, none⟩)] w fun en w' => en = .returned (.bool (hit x e)) ∧ Below w.heap.size w w' := by
  unfold T3.c hit
  have hpl : p < w.heap.size := World.block_lt_of_cell? w _ hp
  have hne : ¬ p = w.heap.size := by omega
  have hp2 : ∀ o : Obj, (w.alloc o).cell? ⟨p, 0, none⟩ = some (.string x) := fun o => by rw [World.cell?_alloc_lt _ _ _ hpl]; exact hp
  go_enter Try.func32, Try.ntmps32
  go_wp2_with fail
  go_ret
  exact ⟨rfl, (Below.refl _ _).alloc (Nat.le_refl _) _⟩
set_option maxRecDepth 100000 in
set_option maxHeartbeats 1000000 in
theorem index_calls (l : List T3) (p : Nat) (x : ByteArray) (A : Option Addr) (n c : Nat) (w : World) (hn : n = l.length) (hn9 : n ≤ 4611686018427387904) (hy : Rw 3 T3.c w (.slice A n c) l) (hp : w.cell? ⟨p, 0, none⟩ = some (.string x)) :
    Calls Try.prog 31 #[.slice A n c, .func (.func 32) #[] #[.pointer (some ⟨p, 0, none⟩)]] w fun e w' => ∃ r : Int, e = .returned (.int .i64 r) ∧ ((∃ i : Nat, r = i ∧ i < l.length ∧ hit x (l.getD i default) = true ∧ ∀ j, j < i → hit x (l.getD j default) = false) ∨ (r = -1 ∧ ∀ j, j < l.length → hit x (l.getD j default) = false)) ∧ Below w.heap.size w w' := by
  have hn' : Hid (n = l.length) := hn
  have hyH : Hid (Rw 3 T3.c w (.slice A n c) l) := hy
  have hpl : p < w.heap.size := World.block_lt_of_cell? w _ hp
  have hpH : Hid (w.cell? ⟨p, 0, none⟩ = some (.string x)) := hp
  clear hy hn hp
  go_enter Try.func31, Try.ntmps31
  go_wp2_with fail
  go_loopw [8] (fun u wr => ∃ i : Nat, i ≤ n ∧ u = .int .i64 i ∧ Hid (∀ j, j < i → hit x (l.getD j default) = false) ∧ Hid (Below w.heap.size w wr)) (fun u _ => n - (intOf u).toNat)
  case atStart => exact ⟨0, by omega, rfl, fun j hj => by omega, Below.refl _ _⟩
  case round =>
    obtain ⟨i, hi, rfl, hno, hB⟩ := hrel
    by_cases hlt : i < n
    · have hil : i < l.length := by rw [← hn'.out]; exact hlt
      have hI : (i : Int) < (n : Int) := by omega
      obtain ⟨g, o, rfl, hnc, hg, hra⟩ := hyH.out.elem i hil
      obtain ⟨e, he⟩ : ∃ e, e = l.getD i default := ⟨_, rfl⟩
      rw [← he] at hra
      have hra2 := range_below hra hB.out hg
      have hp2 : wr.cell? ⟨p, 0, none⟩ = some (.string x) := by rw [hB.out.cell (by exact hpl)]; exact hpH.out
      go_upto_region 4 with fail
      refine wp_region_lit ?_
      refine sl_run rfl (.func (.func 32) #[] #[.pointer (some ⟨p, 0, none⟩)]) wr (by kernel_rfl) ?_
      refine sl_run rfl (.slice (some ⟨g, o, none⟩) n c) wr (by kernel_rfl) ?_
      refine sl_run rfl (.int .i64 i) wr (by kernel_rfl) ?_
      refine sl_run rfl (.pointer (some ⟨g, o + i * 3, none⟩)) wr (exec_index un28 sz28 _ _ rfl g o n c i (by kernel_rfl) (by kernel_rfl) hlt wr) ?_
      refine sl_run rfl (.agg e.c) wr (exec_load_mid 50 wr _ rfl g (o + i * 3) (by kernel_rfl) e.c.toList _ hra2 Try.underlying50 rfl (by kernel_rfl)) ?_
      refine sl_call rfl 32 #[.agg e.c, .pointer (some ⟨p, 0, none⟩)] (by kernel_rfl) (R := fun v w' => v = .bool (hit x e) ∧ Below wr.heap.size wr w') ((hit_calls e p x wr hp2).mono fun en w' h => ⟨_, h.1, rfl, h.2⟩) ?_
      rintro _ w5 ⟨rfl, hB5⟩
      refine wpList_nil ?_
      simp only [Act.put, List.setIfInBounds_toArray, List.set_cons_zero, List.set_cons_succ]
      have hB6 : Hid (Below w.heap.size w w5) := hB.out.trans (hB5.mono (Below.size hB.out))
      clear hra hra2 hp2 hB hB5
      cases hh : hit x e with
      | true =>
        rw [he] at hh
        have hh' : Hid (hit x (l.getD i default) = true) := hh
        clear hh he
        go_wp2_with fail
        go_ret
        exact ⟨_, rfl, .inl ⟨i, rfl, hil, hh'.out, hno.out⟩, hB6.out⟩
      | false =>
        rw [he] at hh
        have hno2 : Hid (∀ j, j < i + 1 → hit x (l.getD j default) = false) := fun j hj => by
          by_cases h : j < i
          · exact hno.out j h
          · have : j = i := by omega
            subst this; exact hh
        clear hh he hno
        go_wp2_with fail
        go_roundw
        case rel => exact ⟨i + 1, by omega, by go_num, hno2, hB6⟩
        case measure => simp [intOf]; omega
    · have hI : ¬ (i : Int) < (n : Int) := by omega
      have hin : i = l.length := by have := hn'.out; omega
      go_wp2_with fail
      go_ret
      exact ⟨_, rfl, .inr ⟨rfl, by rw [← hin]; exact hno.out⟩, hB.out⟩
end Go.Proofs.Ytehgblnhhlgikaa.Bi
