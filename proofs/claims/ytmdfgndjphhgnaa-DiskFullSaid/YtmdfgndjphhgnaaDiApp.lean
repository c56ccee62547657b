/-
  Bytes behind a clipped slice, wherever it lies.
-/
import Derived.Test.YtmdfgndjphhgnaaDi7
import Derived.ArgAppend
namespace Go.Proofs.Ytmdfgndjphhgnaa
open Go.RowKit
set_option linter.unusedVariables false
set_option linter.unusedSimpArgs false
theorem run_append_zero {w : World} {A B : Option Addr} {n c : Nat} {ty : TypeId} : (Builtin.append_ #[30, 30] ty #[.slice A n n, .slice B 0 c]).run Try.prog w = .ok (.slice A n n) w := by
  obtain ⟨i5, hi5, hz0, hz1, hz2⟩ := info_parts inf5
  cases A <;> cases B <;> simp [Builtin.append_, run_underlying un30', sizeOf, typeInfo, hi5, hz1, Builtin.lenOf, Builtin.firstCells, loadCells, loadCellsFrom, storeCells, Result.andThen]
set_option maxRecDepth 100000 in
theorem exec_appB {w : World} {o : Oper} {a : Act} (s x : Operand) (ho : o.op = .call { callee := .builtin .append, args := #[s, x], argTypes := #[30, 30] }) (A : Option Addr) (n : Nat) (l : List Nat) (hs : a.eval s = .slice A n n) (hv : Rw 1 encB w (.slice A n n) l)
    (y : Value) (m : List Nat) (hx : a.eval x = y) (hy : Rw 1 encB w y m) (hlen : l.length + m.length ≤ 1000000000) :
    ∃ v w', (execOp a.eval o).run Try.prog w = .ok (.value v) w' ∧ Rw 1 encB w' v (l ++ m) ∧ Below w.heap.size w w' := by
  obtain ⟨i5, hi5, hz0, hz1, hz2⟩ := info_parts inf5
  obtain ⟨B, c, rfl⟩ := hy.form
  have key : ∃ v w', (Builtin.append_ #[30, 30] o.type #[.slice A n n, .slice B m.length c]).run Try.prog w = .ok v w' ∧ Rw 1 encB w' v (l ++ m) ∧ Below w.heap.size w w' := by
    have hnl : n = l.length := by
      obtain ⟨A', c', h⟩ := hv.form
      injection h with h1 h2 h3
    by_cases hm : m = []
    · subst hm
      exact ⟨_, w, run_append_zero, by rw [List.append_nil]; exact hv, Below.refl _ _⟩
    · have hm0 : 0 < m.length := List.length_pos_iff.2 hm
      obtain ⟨g2, o2, rfl, hc2, hg2, _⟩ := hy.elem 0 hm0
      have hnews := Rw.cells (enc := encB) encB_size (fun i hi => run_elem hy i hi)
      have fin : ∀ {v w'}, w'.ownsRow w.heap.size 5 1 v (l.length + m.length) (flat encB l ++ flat encB m) → w.grownBy w' none → Rw 1 encB w' v (l ++ m) ∧ Below w.heap.size w w' := fun {v w'} hown hgr => by
        refine ⟨Rw.own encB_size (by decide) (n := (l ++ m).length) (e := 5) (base := w.heap.size) (by rw [List.length_append, flat_app]; exact hown), (Below.refl _ _).grown hgr (Nat.le_refl _) (fun q hq => by cases hq)⟩
      by_cases hA : A = none
      · subst hA
        have hl0 : l = [] ∧ n = 0 := by
          rcases hv with ⟨A', c', h, h2, _⟩ | ⟨g, o', c', h, _⟩
          · exact ⟨h2, by rw [hnl, h2]; rfl⟩
          · simp at h
        obtain ⟨rfl, rfl⟩ := hl0
        obtain ⟨v', w', hr, h2, h3, _⟩ := run_append_own (P := Try.prog) w w.heap.size 30 o.type 5 i5 (.int .u8 0) 1 1 un30' hi5 hz0 hz1 hz2 rfl (by decide) (.slice none 0 0) 0 [] (World.ownsRow_nil w w.heap.size 5 1) ⟨g2, o2, none⟩ m.length c (flat encB m) (flat_len encB_size m) hnews (flat_one encB_one m) (by unfold maxLen; omega) (by omega) (Nat.le_refl _)
        exact ⟨v', w', hr, fin (by
          rw [List.length_nil, Nat.zero_add]
          have e : flat encB ([] : List Nat) = [] := rfl
          rw [e, List.nil_append]
          simpa using h2) h3⟩
      · obtain ⟨ad, rfl⟩ : ∃ ad, A = some ad := by cases A with | none => exact absurd rfl hA | some ad => exact ⟨ad, rfl⟩
        have holds : ∀ j u, (flat encB l)[j]? = some u → w.cell? (ad.add j) = some u := fun j u hj => by
          rcases hv with ⟨A', c', h, h2, _⟩ | ⟨g, o', c', h, h2, h3, h4⟩
          · rw [h2] at hj; simp [flat] at hj
          · have hA := Rw.cells (enc := encB) encB_size h4 j u hj
            injection h with h5 h6 h7
            injection h5 with h5
            rw [h5]; exact hA
        obtain ⟨v', w', hr, h2, h3⟩ := run_append_arg_grows (P := Try.prog) w 30 o.type 5 i5 (.int .u8 0) 1 1 un30' hi5 hz0 hz1 hz2 rfl (by decide) ad n n (flat encB l) (by rw [flat_len encB_size, hnl]) holds ⟨g2, o2, none⟩ m.length c (flat encB m) (flat_len encB_size m) hnews (by omega) (by unfold maxLen; omega) (by omega)
        exact ⟨v', w', hr, fin (by rw [← hnl]; exact h2) h3⟩
  obtain ⟨v, w', hr, h2, h3⟩ := key
  refine ⟨v, w', ?_, h2, h3⟩
  unfold execOp
  simp only [ho, resolve, invoke, builtin, Sem.run_bind, Sem.run_pure, Result.andThen_ok, List.map_toArray, List.map_cons, List.map_nil, hs, hx, hr]
theorem exec_takeB {o : Oper} {a : Act} (x hi : Operand) (ho : o.op = .slice 30 x none (some hi) none) (A : Option Addr) (n c q : Nat) (hx : a.eval x = .slice A n c)
    (hh : a.eval hi = .int .i64 (q : Int)) (hc : q ≤ c) (w : World) : (execOp a.eval o).run Try.prog w = .ok (.value (.slice (if c = 0 then A else A.map (·.add 0)) q c)) w := by
  unfold execOp
  simp only [ho, Option.map_some, Option.map_none, hx, hh, Sem.run_bind, run_sliceAt_slice w 30 _ _ _ _ un30, run_slice_h w 30 _ n c un30 .i64 (q : Int) (by omega) (by omega), sz30, Result.andThen_ok, Sem.run_pure, sliced, Int.toNat_natCast, Nat.zero_mul, Nat.sub_zero]
end Go.Proofs.Ytmdfgndjphhgnaa
