/-
  Lists of bytes, as a law's row hands them in.
-/
import Derived.Test.YtnaknnnobcnnfaaShaHeld
import Derived.ChangeSlices
import Derived.ChangeOld
import Derived.WideShapes
namespace Go.Proofs.Ytnaknnnobcnnfaa.Sha
open Go.RowKit Go.ChangeShapes Go.WideShapes
set_option linter.unusedVariables false
theorem cells22 : Try.prog.cellsOf 22 = 1 := by kernel_rfl
theorem cells_uno1 {W : World} {x : Addr} {cs : List Value} (h : W.cells? 0 x 1 = some cs) : ∃ c, cs = [c] ∧ W.cell? x = some c := by
  have e0 : x.add 0 = x := by simp [Addr.add]
  simp [World.cells?, List.range_succ, e0] at h
  cases hc : W.cell? x with
  | none => simp [hc] at h
  | some c =>
    simp [hc] at h
    exact ⟨c, h.symm, rfl⟩
theorem row_lists {H : Type} {enc : TypeId × Value → H} {W : World} {base fuel : Nat} {a : Option Addr} {len cap : Nat} {x : DataW H × List MemPlace} (hok : Value.okWide Try.prog W .any base 28 (.slice a len cap))
    (hf : DataW.trod enc Try.prog W 0 (fun _ => true) true fuel 28 (Value.slice a len cap).cells.toList = some x) :
    ∃ ls : List (List Nat), len = ls.length ∧ (∀ y ∈ ls, ∀ j, y.getD j 0 < 256) ∧ Lists W (.slice a len cap) ls := by
  rcases DataW.trod_slice Try.underlying28 hf with ⟨hcs, _⟩ | ⟨a', len', cap', elems, rest, n, rfl, hcs, _, _, hl, hm, hlen, hel, _, _⟩
  · simp [Value.cells] at hcs
    obtain ⟨rfl, rfl, rfl⟩ := hcs
    exact ⟨[], rfl, by simp, .inl ⟨rfl, rfl⟩⟩
  · simp [Value.cells] at hcs
    obtain ⟨rfl, rfl, rfl⟩ := hcs
    obtain ⟨b, off, spot⟩ := a'
    have hbs : spot = none ∧ b < W.heap.size := by
      simp only [Value.okWide, Try.underlying28, Cell.okWide, Cell.ok, World.has] at hok
      obtain ⟨_, _, _, h1, row, cells, h2, _⟩ := hok
      refine ⟨h1, ?_⟩
      unfold World.shape? at h2
      rcases Nat.lt_or_ge b W.heap.size with h | h
      · exact h
      · rw [Array.getElem?_eq_none (by exact h)] at h2; cases h2
    obtain ⟨rfl, hb⟩ := hbs
    have each : ∀ i, ∃ l : List Nat, i < len → (∀ j, l.getD j 0 < 256) ∧ ∃ y, W.cell? ⟨b, off + i, none⟩ = some y ∧ Bytes W y l := fun i => by
      by_cases hi : i < len
      · have h1 := hel i hi
        rw [List.getElem?_eq_getElem (by omega), cells22, Nat.mul_one] at h1
        simp only [Option.bind_eq_some_iff] at h1
        obtain ⟨cs, h2, h3⟩ := h1
        obtain ⟨y, rfl, hy⟩ := cells_uno1 h2
        rw [Addr.add_mid] at hy
        rcases open_ints Try.underlying22 Try.underlying5 (by kernel_rfl) h3 with ⟨hcs, _⟩ | ⟨ia, il, ic, zs, hcs, _, hil, him, hiz, _, hicell, hiw⟩
        · injection hcs with hcs _
          subst hcs
          exact ⟨[], fun _ => ⟨by simp, _, hy, Bytes.nil W⟩⟩
        · injection hcs with hcs _
          subst hcs
          obtain ⟨l, rfl, h4, h5⟩ := row_bytes (w := W) (a := some ia) (len := il) (cap := ic) (zs := zs) (.inr ⟨ia, rfl, hil, him, by simpa using hiz, hicell, hiw⟩)
          exact ⟨l, fun _ => ⟨h4, _, hy, h5⟩⟩
      · exact ⟨[], fun h => absurd h hi⟩
    obtain ⟨f, hff⟩ := Classical.skolem.1 each
    have hl2 : ((List.range len).map f).length = len := by simp
    refine ⟨(List.range len).map f, hl2.symm, fun y hy => ?_, .inr ⟨b, off, cap, by rw [hl2], by rw [hl2]; exact hl, hb, fun i hi => ?_⟩⟩
    · obtain ⟨i, hi, rfl⟩ := List.mem_map.1 hy
      exact (hff i (List.mem_range.1 hi)).1
    · rw [hl2] at hi
      have e : ((List.range len).map f).getD i [] = f i := by simp [hi]
      rw [e]
      exact (hff i hi).2
end Go.Proofs.Ytnaknnnobcnnfaa.Sha
