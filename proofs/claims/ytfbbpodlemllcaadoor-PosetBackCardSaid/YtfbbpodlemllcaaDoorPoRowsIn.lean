/-
  Orders: what a law's row hands in: masks, pairs, numbers; the table of the lowest bit.
-/
import Derived.Test.YtfbbpodlemllcaaDoorPoPdef
import Derived.Test.YtfbbpodlemllcaaDoorRows
import Derived.ChangeSlices
import Derived.ChangeOld
import Derived.ChangeSame
import Derived.WideShapes
import Derived.Lib.SmallJoins
import Derived.Lib.LaidU8
import Derived.SizedLaws
import Derived.LaidLaws
namespace Go.Proofs.YtfbbpodlemllcaaDoor
open Go.RowKit Go.ChangeShapes Go.WideShapes
set_option linter.unusedVariables false
/-- What the row's cell 'laid' gives. -/
theorem tab_of_laid {W : World} (h : laidMet Tryd.prog [("math/bits.deBruijn64tab", Rows.laid_math_bits_deBruijn64tab)] W) : Tab W := by
  obtain ⟨g, t, cs, fuel, p, hg, hty, hvar, hd⟩ := Lib.laidMet.reads h (List.mem_singleton.2 rfl)
  obtain rfl := Option.some.inj ((show Tryd.prog.globalNamed "math/bits.deBruijn64tab" = some 0 by kernel_rfl).symm.trans hg)
  obtain rfl := Option.some.inj ((show (Tryd.prog.globals[0]?).map (·.type) = some 59 by kernel_rfl).symm.trans hty)
  have hd' : DataW.trod (fun _ => ()) Tryd.prog W 0 (fun _ => true) false fuel 59 cs.toList = some (Lib.tabData .u8 (tab.map fun (n : Nat) => (n : Int)), p) := by rw [hd]; rfl
  have hcs := Lib.cells_of_tab (n := 64) (e := 5) Tryd.underlying59 Tryd.underlying5 (by kernel_rfl) (by kernel_rfl) hd'
  have hcell : ∀ i, i < 64 → W.cell? ⟨0, i, none⟩ = some (.int .u8 ((tab.getD i 0 : Nat) : Int)) := fun i hi => by
    have hl : i < tab.length := hi
    rw [World.var?_cell hg hvar i, ← Array.getElem?_toList, hcs]
    simp [hl]
  exact ⟨block_lt_of_cell (hcell 0 (by decide)), hcell⟩
/-- A world that meets it. -/
noncomputable def laidWorld (os : Os) : World :=
  let w0 := World.holding Tryd.prog os ⟨#[], #[], []⟩
  { w0 with heap := w0.heap.modify 0 fun
      | .cells _ t frozen => .cells (tab.map fun (n : Nat) => Value.int .u8 (n : Int)).toArray t frozen
      | o => o }
set_option maxRecDepth 100000 in
theorem laidWorld_met (os : Os) (args : Array Value) : laidMet Tryd.prog [("math/bits.deBruijn64tab", Rows.laid_math_bits_deBruijn64tab)] ((laidWorld os).forCall (fun _ _ => 0) ⟨#[], args, []⟩).memory :=
  laidMet_of_run' 8 (by kernel_rfl) (by kernel_rfl)
section
variable {H : Type} {enc : TypeId × Value → H} {W : World}
theorem rw_of {α : Type} [Inhabited α] {k : Nat} {encA : α → Array Value} {t e : TypeId} (good : α → Prop) (hk0 : 0 < k) (hsz : ∀ x, (encA x).size = k) (ht : Tryd.prog.underlying t = some (.slice e)) (hc : Tryd.prog.cellsOf e = k)
    (each : ∀ n cs y, DataW.trod enc Tryd.prog W 0 (fun _ => true) true n e cs = some y → ∃ x : α, cs = (encA x).toList ∧ good x)
    {fuel : Nat} {cs : List Value} {x : DataW H × List MemPlace} (hf : DataW.trod enc Tryd.prog W 0 (fun _ => true) true fuel t cs = some x) :
    ∃ (a : Option Addr) (len cap : Nat) (l : List α), cs = [.slice a len cap] ∧ len = l.length ∧ Rw k encA W (.slice a len cap) l ∧ (∀ x ∈ l, good x) ∧ ((x.1 = .nil ∧ len = 0) ∨ ∃ elems spare, x.1 = .slice elems spare ∧ elems.length = len) := by
  rcases DataW.trod_slice ht hf with ⟨rfl, rfl⟩ | ⟨a', len', cap', elems, rest, n, rfl, rfl, hx, _, hl, hm, hlen, hel, _, _⟩
  · exact ⟨none, 0, 0, [], rfl, rfl, Rw.nil, fun x hx => (List.not_mem_nil hx).elim, .inl ⟨rfl, rfl⟩⟩
  · refine ⟨some a', len', cap', ?_⟩
    have each2 : ∀ i, ∃ x : α, i < len' → (∀ j, j < k → W.cell? ((a'.add (i * k)).add j) = (encA x).toList[j]?) ∧ good x := fun i => by
      by_cases hi : i < len'
      · have h1 := hel i hi
        rw [List.getElem?_eq_getElem (by omega), hc] at h1
        simp only [Option.bind_eq_some_iff] at h1
        obtain ⟨cs, h2, h3⟩ := h1
        obtain ⟨x, rfl, hg⟩ := each _ _ _ h3
        obtain ⟨_, _, h4⟩ := World.cells?_some h2
        exact ⟨x, fun _ => ⟨h4, hg⟩⟩
      · exact ⟨default, fun h => absurd h hi⟩
    obtain ⟨f, hff⟩ := Classical.skolem.1 each2
    have hl2 : ((List.range len').map f).length = len' := by simp
    refine ⟨(List.range len').map f, rfl, hl2.symm, ?_, fun x hx => ?_, .inr ⟨_, _, by rw [hx], by simp [hlen]⟩⟩
    · rcases Nat.eq_zero_or_pos len' with h0 | h0
      · subst h0
        exact .inl ⟨some a', cap', rfl, rfl, fun h => by cases h⟩
      · have hz := (hff 0 h0).1 0 hk0
        obtain ⟨b, off, spot⟩ := a'
        have hsome : (encA (f 0)).toList[0]? ≠ none := by
          rw [ne_eq, List.getElem?_eq_none_iff, Array.length_toList, hsz]; omega
        have hbs : spot = none ∧ b < W.heap.size := by
          cases spot with
          | none =>
            refine ⟨rfl, ?_⟩
            cases h : (encA (f 0)).toList[0]? with
            | none => exact absurd h hsome
            | some v => rw [h, Addr.add_mid, Addr.add_mid] at hz; exact block_lt_of_cell hz
          | some s =>
            exfalso
            apply hsome
            rw [← hz]
            unfold World.cell?
            cases W.heap[b]? with
            | none => simp [Addr.add]; split <;> simp_all
            | some o => simp [Addr.add]; split <;> simp_all
        obtain ⟨rfl, hb⟩ := hbs
        have hr : Rw k encA W (.slice (some ⟨b, off, none⟩) ((List.range len').map f).length cap') ((List.range len').map f) := .inr ⟨b, off, cap', rfl, by rw [hl2]; exact hl, hb, fun i hi r u hu => by
          rw [hl2] at hi
          have e : ((List.range len').map f).getD i default = f i := by simp [hi]
          rw [e] at hu
          have hr : r < k := by rw [← hsz (f i), ← Array.length_toList]; exact (List.getElem?_eq_some_iff.1 hu).1
          have := (hff i hi).1 r hr
          rw [Addr.add_mid, Addr.add_mid] at this
          rw [this]; exact hu⟩
        rw [hl2] at hr
        exact hr
    · obtain ⟨i, hi, rfl⟩ := List.mem_map.1 hx
      exact (hff i (List.mem_range.1 hi)).2
theorem mask_of {n : Nat} {cs : List Value} {y : DataW H × List MemPlace} (h : DataW.trod enc Tryd.prog W 0 (fun _ => true) true n 36 cs = some y) : ∃ m : Nat, cs = (encM m).toList ∧ m < 18446744073709551616 := by
  obtain ⟨z, rfl, _, hwf⟩ := DataW.trod_int Tryd.underlying36 h
  have h0 : IntKind.u64.min = 0 := by kernel_rfl
  have h1 : IntKind.u64.max = 18446744073709551615 := by kernel_rfl
  simp only [Lit.wf, Bool.and_eq_true, decide_eq_true_eq, h0, h1] at hwf
  exact ⟨z.toNat, by simp [encM]; omega, by omega⟩
theorem pair_of {n : Nat} {cs : List Value} {y : DataW H × List MemPlace} (h : DataW.trod enc Tryd.prog W 0 (fun _ => true) true n 44 cs = some y) : ∃ p : P2, cs = (encP p).toList ∧ True := by
  obtain ⟨xs, m, _, _, hl, hn, hel⟩ := DataW.trod_array Tryd.underlying44 h
  have hc : Tryd.prog.cellsOf 44 = 2 := by kernel_rfl
  have hc3 : Tryd.prog.cellsOf 3 = 1 := by kernel_rfl
  rw [hc] at hl
  match cs, hl with
  | [c0, c1], _ =>
    have h0 := hel 0 (by decide)
    have h1 := hel 1 (by decide)
    rw [hc3, List.getElem?_eq_getElem (by omega)] at h0 h1
    obtain ⟨z, hz, _, _⟩ := DataW.trod_int Tryd.underlying3 h0
    obtain ⟨z1, hz1, _, _⟩ := DataW.trod_int Tryd.underlying3 h1
    simp at hz hz1
    subst hz hz1
    exact ⟨(z, z1), rfl, trivial⟩
theorem masks_of {fuel : Nat} {cs : List Value} {x : DataW H × List MemPlace} (hf : DataW.trod enc Tryd.prog W 0 (fun _ => true) true fuel 24 cs = some x) :
    ∃ (a : Option Addr) (len cap : Nat) (l : List Nat), cs = [.slice a len cap] ∧ len = l.length ∧ Ms W (.slice a len cap) l ∧ Small l ∧ ((x.1 = .nil ∧ len = 0) ∨ ∃ elems spare, x.1 = .slice elems spare ∧ elems.length = len) :=
  rw_of (fun m => m < 18446744073709551616) (by decide) encM_size Tryd.underlying24 (by kernel_rfl) (fun n cs y h => mask_of h) hf
theorem pairs_of {fuel : Nat} {cs : List Value} {x : DataW H × List MemPlace} (hf : DataW.trod enc Tryd.prog W 0 (fun _ => true) true fuel 22 cs = some x) :
    ∃ (a : Option Addr) (len cap : Nat) (l : List P2), cs = [.slice a len cap] ∧ len = l.length ∧ Rw 2 encP W (.slice a len cap) l ∧ (∀ x ∈ l, True) ∧ ((x.1 = .nil ∧ len = 0) ∨ ∃ elems spare, x.1 = .slice elems spare ∧ elems.length = len) :=
  rw_of (fun _ => True) (by decide) encP_size Tryd.underlying22 (by kernel_rfl) (fun n cs y h => pair_of h) hf
variable {base : Nat} {v : Value} {d : DataW H} {p : List MemPlace}
theorem arg_masks (hok : Value.okWide Tryd.prog W .any base 24 v) (h : DataW.Trod enc Tryd.prog W 0 (fun _ => true) true 24 v d p) :
    ∃ (a : Option Addr) (len cap : Nat) (l : List Nat), v = .slice a len cap ∧ len = l.length ∧ Ms W (.slice a len cap) l ∧ Small l ∧ ((d = .nil ∧ len = 0) ∨ ∃ elems spare, d = .slice elems spare ∧ elems.length = len) := by
  obtain ⟨a, len, cap, rfl⟩ := okWide_slice Tryd.underlying24 hok
  obtain ⟨fuel, hf⟩ := h
  obtain ⟨a', len', cap', l, hx, hg⟩ := masks_of hf
  simp [Value.cells] at hx
  obtain ⟨rfl, rfl, rfl⟩ := hx
  exact ⟨a, len, cap, l, rfl, hg⟩
theorem arg_pairs (hok : Value.okWide Tryd.prog W .any base 22 v) (h : DataW.Trod enc Tryd.prog W 0 (fun _ => true) true 22 v d p) :
    ∃ (a : Option Addr) (len cap : Nat) (l : List P2), v = .slice a len cap ∧ len = l.length ∧ Rw 2 encP W (.slice a len cap) l ∧ ((d = .nil ∧ len = 0) ∨ ∃ elems spare, d = .slice elems spare ∧ elems.length = len) := by
  obtain ⟨a, len, cap, rfl⟩ := okWide_slice Tryd.underlying22 hok
  obtain ⟨fuel, hf⟩ := h
  obtain ⟨a', len', cap', l, hx, h1, h2, _, h3⟩ := pairs_of hf
  simp [Value.cells] at hx
  obtain ⟨rfl, rfl, rfl⟩ := hx
  exact ⟨a, len, cap, l, rfl, h1, h2, h3⟩
/-- How long a list may be. -/
theorem arg_room {ts : List TypeId} {ds : List (DataW H)} (hz : (DataW.weightsEach Tryd.prog ts ds).all (· ≤ reachBytes) = true) {j len k : Nat} {t e : TypeId} (ht : ts[j]? = some t) (hd : ds[j]? = some d) (hu : Tryd.prog.underlying t = some (.slice e)) (hb : Tryd.prog.bytesOf e = k) (hk : 0 < k)
    (h : (d = .nil ∧ len = 0) ∨ ∃ elems spare, d = .slice elems spare ∧ elems.length = len) : len * k ≤ 140737488351232 := by
  rcases h with ⟨_, rfl⟩ | ⟨elems, spare, rfl, rfl⟩
  · rw [Nat.zero_mul]; decide
  · have := sized_slice hz ht hd hu
    rw [hb] at this
    have h2 : elems.length * k ≤ (elems.length + spare.length) * k := Nat.mul_le_mul_right k (by omega)
    unfold reachBytes at this
    omega
theorem small_len {u : Nat} (h : (Lit.int .u64 (u : Int)).wf = true) : u < 18446744073709551616 := by
  have h1 : IntKind.u64.max = 18446744073709551615 := by kernel_rfl
  simp only [Lit.wf, Bool.and_eq_true, decide_eq_true_eq, h1] at h
  omega
end
end Go.Proofs.YtfbbpodlemllcaaDoor
