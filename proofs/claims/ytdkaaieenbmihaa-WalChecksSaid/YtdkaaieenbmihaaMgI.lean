/-
  Contracts of functions that the laws of this chapter reach, joined.
-/
import Derived.Test.YtdkaaieenbmihaaMgC
import Derived.Test.YtdkaaieenbmihaaRows
import Derived.ChangeSlices
import Derived.ChangeOld
import Derived.ChangeSame
import Derived.WideShapes
import Derived.Lib.SmallJoins
import Derived.SizedLaws
set_option linter.unusedVariables false
set_option linter.unusedSimpArgs false
namespace Go.Proofs.Ytdkaaieenbmihaa
open Go.RowKit Go.ChangeShapes Go.WideShapes
section
variable {H : Type} {enc : TypeId × Value → H} {W : World}
theorem rw_of {α : Type} [Inhabited α] {k : Nat} {encA : α → Array Value} {t e : TypeId} (good : α → Prop) (hk0 : 0 < k) (hsz : ∀ x, (encA x).size = k) (ht : Try.prog.underlying t = some (.slice e)) (hc : Try.prog.cellsOf e = k)
    (each : ∀ n cs y, DataW.trod enc Try.prog W 0 (fun _ => true) true n e cs = some y → ∃ x : α, cs = (encA x).toList ∧ good x)
    {fuel : Nat} {cs : List Value} {x : DataW H × List MemPlace} (hf : DataW.trod enc Try.prog W 0 (fun _ => true) true fuel t cs = some x) :
    ∃ (a : Option Addr) (len cap : Nat) (l : List α), cs = [.slice a len cap] ∧ len = l.length ∧ Rw k encA W (.slice a len cap) l ∧ (∀ x ∈ l, good x) ∧ ((x.1 = .nil ∧ len = 0) ∨ ∃ elems spare, x.1 = .slice elems spare ∧ elems.length = len) := by
  rcases DataW.trod_slice ht hf with ⟨rfl, rfl⟩ | ⟨a', len', cap', elems, rest, n, rfl, rfl, hx, _, hl, hm, hlen, hel, _, _⟩
  · exact ⟨none, 0, 0, [], rfl, rfl, Rw.nil, fun x hx => (List.not_mem_nil hx).elim, .inl ⟨rfl, rfl⟩⟩
  · refine ⟨some a', len', cap', ?_⟩
    have each2 : ∀ i, ∃ x : α, i < len' → (∀ j, j < k → W.cell? ((a'.add (i * k)).add j) = (encA x).toList[j]?) ∧ good x := fun i => by
      by_cases hi : i < len'
      · have h1 := hel i hi
        rw [List.getElem?_eq_getElem (by omega), hc] at h1
        simp only [Option.bind_eq_some_iff] at h1
        obtain ⟨cs, h2, h3⟩ := h1
        obtain ⟨x, rfl, hg⟩ := each _ _ _ h3
        obtain ⟨_, _, h4⟩ := World.cells?_some h2
        exact ⟨x, fun _ => ⟨h4, hg⟩⟩
      · exact ⟨default, fun h => absurd h hi⟩
    obtain ⟨f, hff⟩ := Classical.skolem.1 each2
    have hl2 : ((List.range len').map f).length = len' := by simp
    refine ⟨(List.range len').map f, rfl, hl2.symm, ?_, fun x hx => ?_, .inr ⟨_, _, by rw [hx], by simp [hlen]⟩⟩
    · rcases Nat.eq_zero_or_pos len' with h0 | h0
      · subst h0
        exact .inl ⟨some a', cap', rfl, rfl, fun h => by cases h⟩
      · have hz := (hff 0 h0).1 0 hk0
        obtain ⟨b, off, spot⟩ := a'
        have hsome : (encA (f 0)).toList[0]? ≠ none := by
          rw [ne_eq, List.getElem?_eq_none_iff, Array.length_toList, hsz]; omega
        have hbs : spot = none ∧ b < W.heap.size := by
          cases spot with
          | none =>
            refine ⟨rfl, ?_⟩
            cases h : (encA (f 0)).toList[0]? with
            | none => exact absurd h hsome
            | some v => rw [h, Addr.add_mid, Addr.add_mid] at hz; exact block_lt_of_cell hz
          | some s =>
            exfalso
            apply hsome
            rw [← hz]
            unfold World.cell?
            cases W.heap[b]? with
            | none => simp [Addr.add]; split <;> simp_all
            | some o => simp [Addr.add]; split <;> simp_all
        obtain ⟨rfl, hb⟩ := hbs
        have hr : Rw k encA W (.slice (some ⟨b, off, none⟩) ((List.range len').map f).length cap') ((List.range len').map f) := .inr ⟨b, off, cap', rfl, by rw [hl2]; exact hl, hb, fun i hi r u hu => by
          rw [hl2] at hi
          have e : ((List.range len').map f).getD i default = f i := by simp [hi]
          rw [e] at hu
          have hr : r < k := by rw [← hsz (f i), ← Array.length_toList]; exact (List.getElem?_eq_some_iff.1 hu).1
          have := (hff i hi).1 r hr
          rw [Addr.add_mid, Addr.add_mid] at this
          rw [this]; exact hu⟩
        rw [hl2] at hr
        exact hr
    · obtain ⟨i, hi, rfl⟩ := List.mem_map.1 hx
      exact (hff i (List.mem_range.1 hi)).2
theorem byte_of {n : Nat} {cs : List Value} {y : DataW H × List MemPlace} (h : DataW.trod enc Try.prog W 0 (fun _ => true) true n 5 cs = some y) : ∃ m : Nat, cs = (encB m).toList ∧ m < 256 := by
  obtain ⟨z, rfl, _, hwf⟩ := DataW.trod_int Try.underlying5 h
  have h0 : IntKind.u8.min = 0 := by kernel_rfl
  have h1 : IntKind.u8.max = 255 := by kernel_rfl
  simp only [Lit.wf, Bool.and_eq_true, decide_eq_true_eq, h0, h1] at hwf
  exact ⟨z.toNat, by simp [encB]; omega, by omega⟩
theorem bytes_of {fuel : Nat} {cs : List Value} {x : DataW H × List MemPlace} (hf : DataW.trod enc Try.prog W 0 (fun _ => true) true fuel 22 cs = some x) :
    ∃ (a : Option Addr) (len cap : Nat) (l : List Nat), cs = [.slice a len cap] ∧ len = l.length ∧ Rw 1 encB W (.slice a len cap) l ∧ (∀ x ∈ l, x < 256) ∧ ((x.1 = .nil ∧ len = 0) ∨ ∃ elems spare, x.1 = .slice elems spare ∧ elems.length = len) :=
  rw_of (fun x => x < 256) (by decide) encB_size Try.underlying22 (by kernel_rfl) (fun n cs y h => byte_of h) hf
variable {base : Nat} {v : Value} {d : DataW H} {p : List MemPlace}
theorem arg_bytes (hok : Value.okWide Try.prog W .any base 22 v) (h : DataW.Trod enc Try.prog W 0 (fun _ => true) true 22 v d p) :
    ∃ (a : Option Addr) (len cap : Nat) (l : List Nat), v = .slice a len cap ∧ len = l.length ∧ Rw 1 encB W (.slice a len cap) l ∧ (∀ x ∈ l, x < 256) ∧ ((d = .nil ∧ len = 0) ∨ ∃ elems spare, d = .slice elems spare ∧ elems.length = len) := by
  obtain ⟨a, len, cap, rfl⟩ := okWide_slice Try.underlying22 hok
  obtain ⟨fuel, hf⟩ := h
  obtain ⟨a', len', cap', l, hx, h1, h2, h3, h4⟩ := bytes_of hf
  simp [Value.cells] at hx
  obtain ⟨rfl, rfl, rfl⟩ := hx
  exact ⟨a, len, cap, l, rfl, h1, h2, h3, h4⟩
theorem int_wf {n : Int} (h : (Lit.int .i64 n).wf = true) : -9223372036854775808 ≤ n ∧ n < 9223372036854775808 := by
  have i0 : IntKind.i64.min = -9223372036854775808 := by kernel_rfl
  have i1 : IntKind.i64.max = 9223372036854775807 := by kernel_rfl
  simp only [Lit.wf, Bool.and_eq_true, decide_eq_true_eq, i0, i1] at h
  omega
end
end Go.Proofs.Ytdkaaieenbmihaa
