/-
  Bindings: lists of terms, of values, of tuples, as a law's row hands them in.
-/
import Derived.Test.YtehgblnhhlgikaaBiSel
import Derived.ChangeSlices
import Derived.ChangeOld
import Derived.ChangeSame
import Derived.WideShapes
import Derived.Lib.SmallJoins
namespace Go.Proofs.Ytehgblnhhlgikaa.Bi
open Go.RowKit Go.ChangeShapes Go.WideShapes
set_option linter.unusedVariables false
theorem len_of {s : ByteArray} (h : s.size ≤ maxLen) : s.size ≤ 9223372036854775807 := by
  unfold maxLen at h; omega
section
variable {H : Type} {enc : TypeId × Value → H} {W : World}
theorem rw_of {α : Type} [Inhabited α] {k : Nat} {encA : α → Array Value} {t e : TypeId} (good : α → Prop) (hk0 : 0 < k) (hsz : ∀ x, (encA x).size = k) (ht : Try.prog.underlying t = some (.slice e)) (hc : Try.prog.cellsOf e = k)
    (each : ∀ n cs y, DataW.trod enc Try.prog W 0 (fun _ => true) true n e cs = some y → ∃ x : α, cs = (encA x).toList ∧ good x)
    {fuel : Nat} {cs : List Value} {x : DataW H × List MemPlace} (hf : DataW.trod enc Try.prog W 0 (fun _ => true) true fuel t cs = some x) :
    ∃ (a : Option Addr) (len cap : Nat) (l : List α), cs = [.slice a len cap] ∧ len = l.length ∧ Rw k encA W (.slice a len cap) l ∧ ∀ x ∈ l, good x := by
  rcases DataW.trod_slice ht hf with ⟨rfl, _⟩ | ⟨a', len', cap', elems, rest, n, rfl, rfl, _, _, hl, hm, hlen, hel, _, _⟩
  · exact ⟨none, 0, 0, [], rfl, rfl, Rw.nil, fun x hx => (List.not_mem_nil hx).elim⟩
  · refine ⟨some a', len', cap', ?_⟩
    have each2 : ∀ i, ∃ x : α, i < len' → (∀ j, j < k → W.cell? ((a'.add (i * k)).add j) = (encA x).toList[j]?) ∧ good x := fun i => by
      by_cases hi : i < len'
      · have h1 := hel i hi
        rw [List.getElem?_eq_getElem (by omega), hc] at h1
        simp only [Option.bind_eq_some_iff] at h1
        obtain ⟨cs, h2, h3⟩ := h1
        obtain ⟨x, rfl, hg⟩ := each _ _ _ h3
        obtain ⟨_, _, h4⟩ := World.cells?_some h2
        exact ⟨x, fun _ => ⟨h4, hg⟩⟩
      · exact ⟨default, fun h => absurd h hi⟩
    obtain ⟨f, hff⟩ := Classical.skolem.1 each2
    have hl2 : ((List.range len').map f).length = len' := by simp
    refine ⟨(List.range len').map f, rfl, hl2.symm, ?_, fun x hx => ?_⟩
    · rcases Nat.eq_zero_or_pos len' with h0 | h0
      · subst h0
        exact .inl ⟨some a', cap', rfl, rfl, fun h => by cases h⟩
      · have hz := (hff 0 h0).1 0 hk0
        obtain ⟨b, off, spot⟩ := a'
        have hsome : (encA (f 0)).toList[0]? ≠ none := by
          rw [ne_eq, List.getElem?_eq_none_iff, Array.length_toList, hsz]; omega
        have hbs : spot = none ∧ b < W.heap.size := by
          cases spot with
          | none =>
            refine ⟨rfl, ?_⟩
            cases h : (encA (f 0)).toList[0]? with
            | none => exact absurd h hsome
            | some v => rw [h, Addr.add_mid, Addr.add_mid] at hz; exact block_lt_of_cell hz
          | some s =>
            exfalso
            apply hsome
            rw [← hz]
            unfold World.cell?
            cases W.heap[b]? with
            | none => simp [Addr.add]; split <;> simp_all
            | some o => simp [Addr.add]; split <;> simp_all
        obtain ⟨rfl, hb⟩ := hbs
        have hr : Rw k encA W (.slice (some ⟨b, off, none⟩) ((List.range len').map f).length cap') ((List.range len').map f) := .inr ⟨b, off, cap', rfl, by rw [hl2]; exact hl, hb, fun i hi r u hu => by
          rw [hl2] at hi
          have e : ((List.range len').map f).getD i default = f i := by simp [hi]
          rw [e] at hu
          have hr : r < k := by rw [← hsz (f i), ← Array.length_toList]; exact (List.getElem?_eq_some_iff.1 hu).1
          have := (hff i hi).1 r hr
          rw [Addr.add_mid, Addr.add_mid] at this
          rw [this]; exact hu⟩
        rw [hl2] at hr
        exact hr
    · obtain ⟨i, hi, rfl⟩ := List.mem_map.1 hx
      exact (hff i (List.mem_range.1 hi)).2
/-- A value, read. -/
theorem v2_of {n : Nat} {cs : List Value} {y : DataW H × List MemPlace} (h : DataW.trod enc Try.prog W 0 (fun _ => true) true n 46 cs = some y) : ∃ v : V2, cs = v.c.toList ∧ v.ok := by
  obtain ⟨y0, y1, m, _, hl, h0, h1⟩ := trod_struct2 Try.underlying46 h
  have hc : Try.prog.cellsOf 46 = 2 := by kernel_rfl
  rw [hc] at hl
  match cs, hl with
  | [c0, c1], _ =>
    obtain ⟨s, hs, _, hsz⟩ := DataW.trod_string Try.underlying9 h0
    obtain ⟨z, hz, _, _⟩ := DataW.trod_int Try.underlying2 h1
    have hc9 : Try.prog.cellsOf 9 = 1 := by kernel_rfl
    have hc2 : Try.prog.cellsOf 2 = 1 := by kernel_rfl
    simp [hc9] at hs
    simp [hc2] at hz
    subst hs hz
    exact ⟨⟨s, z⟩, rfl, len_of hsz⟩
def T3.good (t : T3) : Prop := t.x.size ≤ 9223372036854775807 ∧ t.v.ok
theorem t3_of {e : TypeId} {f0 f1 : Field} (he : Try.prog.underlying e = some (.struct #[f0, f1])) (h0t : f0.type = 9) (h0o : f0.offset = 0) (h1t : f1.type = 46) (h1o : f1.offset = 1) (hc : Try.prog.cellsOf e = 3)
    {n : Nat} {cs : List Value} {y : DataW H × List MemPlace} (h : DataW.trod enc Try.prog W 0 (fun _ => true) true n e cs = some y) : ∃ t : T3, cs = t.c.toList ∧ t.good := by
  obtain ⟨y0, y1, m, _, hl, h0, h1⟩ := trod_struct2 he h
  rw [hc] at hl
  rw [h0t, h0o] at h0
  rw [h1t, h1o] at h1
  match cs, hl with
  | [c0, c1, c2], _ =>
    obtain ⟨s, hs, _, hsz⟩ := DataW.trod_string Try.underlying9 h0
    obtain ⟨v, hv, hok⟩ := v2_of h1
    have hc9 : Try.prog.cellsOf 9 = 1 := by kernel_rfl
    have hc46 : Try.prog.cellsOf 46 = 2 := by kernel_rfl
    simp [hc9] at hs
    simp [hc46, V2.c] at hv
    obtain ⟨rfl, rfl⟩ := hv
    subst hs
    exact ⟨⟨s, v⟩, rfl, len_of hsz, hok⟩
theorem terms_of {fuel : Nat} {cs : List Value} {x : DataW H × List MemPlace} (hf : DataW.trod enc Try.prog W 0 (fun _ => true) true fuel 22 cs = some x) :
    ∃ (a : Option Addr) (len cap : Nat) (l : List T3), cs = [.slice a len cap] ∧ len = l.length ∧ Rw 3 T3.c W (.slice a len cap) l ∧ ∀ x ∈ l, x.good :=
  rw_of T3.good (by decide) t3_size Try.underlying22 (by kernel_rfl) (fun n cs y h => t3_of Try.underlying48 rfl rfl rfl rfl (by kernel_rfl) h) hf
theorem binds_of {fuel : Nat} {cs : List Value} {x : DataW H × List MemPlace} (hf : DataW.trod enc Try.prog W 0 (fun _ => true) true fuel 28 cs = some x) :
    ∃ (a : Option Addr) (len cap : Nat) (l : List T3), cs = [.slice a len cap] ∧ len = l.length ∧ Rw 3 T3.c W (.slice a len cap) l ∧ ∀ x ∈ l, x.good :=
  rw_of T3.good (by decide) t3_size Try.underlying28 (by kernel_rfl) (fun n cs y h => t3_of Try.underlying50 rfl rfl rfl rfl (by kernel_rfl) h) hf
theorem values_of {fuel : Nat} {cs : List Value} {x : DataW H × List MemPlace} (hf : DataW.trod enc Try.prog W 0 (fun _ => true) true fuel 25 cs = some x) :
    ∃ (a : Option Addr) (len cap : Nat) (l : List V2), cs = [.slice a len cap] ∧ len = l.length ∧ Rw 2 V2.c W (.slice a len cap) l ∧ ∀ x ∈ l, x.ok :=
  rw_of V2.ok (by decide) v2_size Try.underlying25 (by kernel_rfl) (fun n cs y h => v2_of h) hf
def TT.good (W : World) (t : TT) : Prop := t.p.size ≤ 9223372036854775807 ∧ (∀ v ∈ t.vs, v.ok) ∧ Rw 2 V2.c W t.v t.vs
theorem tt_of {n : Nat} {cs : List Value} {y : DataW H × List MemPlace} (h : DataW.trod enc Try.prog W 0 (fun _ => true) true n 27 cs = some y) : ∃ t : TT, cs = t.cs.toList ∧ t.good W := by
  obtain ⟨y0, y1, m, _, hl, h0, h1⟩ := trod_struct2 Try.underlying27 h
  have hc : Try.prog.cellsOf 27 = 2 := by kernel_rfl
  rw [hc] at hl
  match cs, hl with
  | [c0, c1], _ =>
    obtain ⟨s, hs, _, hsz⟩ := DataW.trod_string Try.underlying9 h0
    obtain ⟨a, len, cap, l, hv, rfl, hr, hok⟩ := values_of h1
    have hc9 : Try.prog.cellsOf 9 = 1 := by kernel_rfl
    have hc25 : Try.prog.cellsOf 25 = 1 := by kernel_rfl
    simp [hc9] at hs
    simp [hc25] at hv
    subst hs hv
    exact ⟨⟨s, a, cap, l⟩, rfl, len_of hsz, hok, hr⟩
theorem tuples_of {fuel : Nat} {cs : List Value} {x : DataW H × List MemPlace} (hf : DataW.trod enc Try.prog W 0 (fun _ => true) true fuel 41 cs = some x) :
    ∃ (a : Option Addr) (len cap : Nat) (l : List TT), cs = [.slice a len cap] ∧ len = l.length ∧ Rw 2 TT.cs W (.slice a len cap) l ∧ ∀ x ∈ l, x.good W :=
  rw_of (TT.good W) (by decide) tt_size Try.underlying41 (by kernel_rfl) (fun n cs y h => tt_of h) hf
/-- A literal, read: its kind, its name, its terms. -/
theorem flat_of {n : Nat} {cs : List Value} {y : DataW H × List MemPlace} (h : DataW.trod enc Try.prog W 0 (fun _ => true) true n 24 cs = some y) :
    ∃ (k : Nat) (p : ByteArray) (a : Option Addr) (len cap : Nat) (l : List T3), cs = [.int .u8 (k : Int), .string p, .slice a len cap] ∧ len = l.length ∧ p.size ≤ 9223372036854775807 ∧ Rw 3 T3.c W (.slice a len cap) l ∧ ∀ x ∈ l, x.good := by
  obtain ⟨y0, y1, y2, m, _, hl, h0, h1, h2⟩ := Deep.trod_struct3 Try.underlying24 h
  have hc : Try.prog.cellsOf 24 = 3 := by kernel_rfl
  rw [hc] at hl
  match cs, hl with
  | [c0, c1, c2], _ =>
    obtain ⟨z, hz, _, hwf⟩ := DataW.trod_int Try.underlying5 h0
    obtain ⟨s, hs, _, hsz⟩ := DataW.trod_string Try.underlying9 h1
    obtain ⟨a, len, cap, l, hv, rfl, hr, hok⟩ := terms_of h2
    have hc9 : Try.prog.cellsOf 9 = 1 := by kernel_rfl
    have hc5 : Try.prog.cellsOf 5 = 1 := by kernel_rfl
    have hc22 : Try.prog.cellsOf 22 = 1 := by kernel_rfl
    simp [hc5] at hz
    simp [hc9] at hs
    simp [hc22] at hv
    subst hs hv hz
    have hz0 : 0 ≤ z := by
      have h8 : IntKind.u8.min = 0 := by kernel_rfl
      simp only [Lit.wf, Bool.and_eq_true, decide_eq_true_eq, h8] at hwf; omega
    refine ⟨z.toNat, s, a, _, cap, l, ?_, rfl, len_of hsz, hr, hok⟩
    rw [Int.toNat_of_nonneg hz0]
variable {base : Nat} {v : Value} {d : DataW H} {p : List MemPlace}
theorem arg_value (hok : Value.okWide Try.prog W .any base 46 v) (h : DataW.Trod enc Try.prog W 0 (fun _ => true) true 46 v d p) : ∃ x : V2, v = .agg x.c ∧ x.ok := by
  obtain ⟨cs, rfl, _⟩ := okWide_struct Try.underlying46 hok
  obtain ⟨fuel, hf⟩ := h
  obtain ⟨x, hx, hg⟩ := v2_of hf
  exact ⟨x, congrArg Value.agg (Array.toList_inj.1 hx), hg⟩
theorem arg_tuple (hok : Value.okWide Try.prog W .any base 27 v) (h : DataW.Trod enc Try.prog W 0 (fun _ => true) true 27 v d p) : ∃ t : TT, v = .agg t.cs ∧ t.good W := by
  obtain ⟨cs, rfl, _⟩ := okWide_struct Try.underlying27 hok
  obtain ⟨fuel, hf⟩ := h
  obtain ⟨x, hx, hg⟩ := tt_of hf
  exact ⟨x, congrArg Value.agg (Array.toList_inj.1 hx), hg⟩
theorem arg_flat (hok : Value.okWide Try.prog W .any base 24 v) (h : DataW.Trod enc Try.prog W 0 (fun _ => true) true 24 v d p) :
    ∃ (k : Nat) (s : ByteArray) (a : Option Addr) (len cap : Nat) (l : List T3), v = .agg #[.int .u8 (k : Int), .string s, .slice a len cap] ∧ len = l.length ∧ s.size ≤ 9223372036854775807 ∧ Rw 3 T3.c W (.slice a len cap) l ∧ ∀ x ∈ l, x.good := by
  obtain ⟨cs, rfl, _⟩ := okWide_struct Try.underlying24 hok
  obtain ⟨fuel, hf⟩ := h
  obtain ⟨k, s, a, len, cap, l, hx, hg⟩ := flat_of hf
  exact ⟨k, s, a, len, cap, l, congrArg Value.agg (Array.toList_inj.1 hx), hg⟩
theorem arg_binds (hok : Value.okWide Try.prog W .any base 28 v) (h : DataW.Trod enc Try.prog W 0 (fun _ => true) true 28 v d p) :
    ∃ (a : Option Addr) (len cap : Nat) (l : List T3), v = .slice a len cap ∧ len = l.length ∧ Rw 3 T3.c W (.slice a len cap) l ∧ ∀ x ∈ l, x.good := by
  obtain ⟨a, len, cap, rfl⟩ := okWide_slice Try.underlying28 hok
  obtain ⟨fuel, hf⟩ := h
  obtain ⟨a', len', cap', l, hx, hg⟩ := binds_of hf
  simp [Value.cells] at hx
  obtain ⟨rfl, rfl, rfl⟩ := hx
  exact ⟨a, len, cap, l, rfl, hg⟩
theorem arg_tuples (hok : Value.okWide Try.prog W .any base 41 v) (h : DataW.Trod enc Try.prog W 0 (fun _ => true) true 41 v d p) :
    ∃ (a : Option Addr) (len cap : Nat) (l : List TT), v = .slice a len cap ∧ len = l.length ∧ Rw 2 TT.cs W (.slice a len cap) l ∧ ∀ x ∈ l, x.good W := by
  obtain ⟨a, len, cap, rfl⟩ := okWide_slice Try.underlying41 hok
  obtain ⟨fuel, hf⟩ := h
  obtain ⟨a', len', cap', l, hx, hg⟩ := tuples_of hf
  simp [Value.cells] at hx
  obtain ⟨rfl, rfl, rfl⟩ := hx
  exact ⟨a, len, cap, l, rfl, hg⟩
end
end Go.Proofs.Ytehgblnhhlgikaa.Bi
