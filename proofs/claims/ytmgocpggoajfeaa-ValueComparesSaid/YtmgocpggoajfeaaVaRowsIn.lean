/-
  A value, a tuple, two of each, tuples: as a law's row hands them in.
-/
import Derived.Test.YtmgocpggoajfeaaPAx0
import Derived.ChangeSlices
import Derived.ChangeOld
import Derived.ChangeSame
import Derived.WideShapes
import Derived.Lib.SmallJoins
namespace Go.Proofs.Ytmgocpggoajfeaa.Pure
open Go.RowKit Go.ChangeShapes Go.WideShapes Go.Proofs.Ytmgocpggoajfeaa.PA Go.Proofs.YtmgocpggoajfeaaW.PrintWords Go.Proofs.YtmgocpggoajfeaaW.PrintLast
set_option linter.unusedVariables false
def I64 (n : Int) : Prop := -9223372036854775808 ≤ n ∧ n < 9223372036854775808
theorem len_of {s : ByteArray} (h : s.size ≤ maxLen) : s.size ≤ 9223372036854775807 := by
  unfold maxLen at h; omega
theorem i64_of {n : Int} (h : (Lit.int .i64 n).wf = true) : I64 n := by
  have h8 : IntKind.i64.min = -9223372036854775808 := by kernel_rfl
  have h9 : IntKind.i64.max = 9223372036854775807 := by kernel_rfl
  simp only [Lit.wf, Bool.and_eq_true, decide_eq_true_eq, h8, h9] at h
  unfold I64; omega
section
variable {H : Type} {enc : TypeId × Value → H} {W : World}
theorem row_of {α : Type} {d : Kd α} (good : α → Prop) (dflt : α) {t e : TypeId} (hd : ∀ x cs, d.K W x cs → cs.length = d.sz) (ht : Try.prog.underlying t = some (.slice e)) (hc : Try.prog.cellsOf e = d.sz)
    (each : ∀ n cs y, DataW.trod enc Try.prog W 0 (fun _ => true) true n e cs = some y → ∃ x : α, d.K W x cs ∧ good x)
    {fuel : Nat} {cs : List Value} {x : DataW H × List MemPlace} (hf : DataW.trod enc Try.prog W 0 (fun _ => true) true fuel t cs = some x) :
    ∃ (a : Option Addr) (len cap : Nat) (l : List α), cs = [.slice a len cap] ∧ len = l.length ∧ l.length ≤ cap ∧ Kd.C d W a l.length l ∧ ∀ x ∈ l, good x := by
  rcases DataW.trod_slice ht hf with ⟨rfl, _⟩ | ⟨a', len', cap', elems, rest, n, rfl, rfl, _, _, hl, hm, hlen, hel, _, _⟩
  · exact ⟨none, 0, 0, [], rfl, rfl, Nat.le_refl _, ⟨rfl, Nat.zero_le _, fun h => by cases h⟩, fun x hx => (List.not_mem_nil hx).elim⟩
  · have hl0 : len' ≤ 9223372036854775807 := by unfold maxLen at hm; omega
    have each2 : ∀ i, ∃ x : α, i < len' → (∃ c : List Value, c.length = d.sz ∧ d.K W x c ∧ ∀ j u, c[j]? = some u → W.cell? (a'.add (i * d.sz + j)) = some u) ∧ good x := fun i => by
      by_cases hi : i < len'
      · have h1 := hel i hi
        rw [List.getElem?_eq_getElem (by omega), hc] at h1
        simp only [Option.bind_eq_some_iff] at h1
        obtain ⟨c, h2, h3⟩ := h1
        obtain ⟨x, hk, hg⟩ := each _ _ _ h3
        obtain ⟨_, hcl, h4⟩ := World.cells?_some h2
        refine ⟨x, fun _ => ⟨⟨c, hcl, hk, fun j u hu => ?_⟩, hg⟩⟩
        have hj : j < d.sz := by rw [← hcl]; exact (List.getElem?_eq_some_iff.1 hu).1
        have := h4 j hj
        rw [hu] at this
        rw [← this]
        by_cases q1 : i * d.sz = 0 <;> by_cases q2 : j = 0 <;> simp [Addr.add, q1, q2, Nat.add_assoc]
      · exact ⟨dflt, fun h => absurd h hi⟩
    obtain ⟨f, hff⟩ := Classical.skolem.1 each2
    have hl2 : ((List.range len').map f).length = len' := by simp
    refine ⟨some a', len', cap', (List.range len').map f, rfl, hl2.symm, by rw [hl2]; exact hl, ⟨rfl, by rw [hl2]; exact hl0, fun _ => ⟨a', rfl, fun j p hp => ?_⟩⟩, fun x hx => ?_⟩
    · have hj : j < len' := by rw [← hl2]; exact (List.getElem?_eq_some_iff.1 hp).1
      have e : f j = p := by simpa [hj] using hp
      obtain ⟨⟨c, h1, h2, h3⟩, _⟩ := hff j hj
      rw [e] at h2
      exact ⟨c, h1, h2, h3⟩
    · obtain ⟨i, hi, rfl⟩ := List.mem_map.1 hx
      exact (hff i (List.mem_range.1 hi)).2
def G25 (x : S25) : Prop := x.f0.size ≤ 9223372036854775807 ∧ I64 x.f1
def G28 (x : S28) : Prop := x.f0.size ≤ 9223372036854775807 ∧ ∀ v ∈ x.f1, G25 v
theorem v25_of {n : Nat} {cs : List Value} {y : DataW H × List MemPlace} (h : DataW.trod enc Try.prog W 0 (fun _ => true) true n 25 cs = some y) : ∃ x : S25, cs = [.string x.f0, .int .i64 x.f1] ∧ G25 x := by
  obtain ⟨y0, y1, m, _, hl, h0, h1⟩ := trod_struct2 Try.underlying25 h
  have hc : Try.prog.cellsOf 25 = 2 := by kernel_rfl
  rw [hc] at hl
  match cs, hl with
  | [c0, c1], _ =>
    obtain ⟨s, hs, _, hsz⟩ := DataW.trod_string Try.underlying9 h0
    obtain ⟨z, hz, _, hwf⟩ := DataW.trod_int Try.underlying2 h1
    have hc9 : Try.prog.cellsOf 9 = 1 := by kernel_rfl
    have hc2 : Try.prog.cellsOf 2 = 1 := by kernel_rfl
    simp [hc9] at hs
    simp [hc2] at hz
    subst hs hz
    exact ⟨⟨s, z⟩, rfl, len_of hsz, i64_of hwf⟩
theorem s26_of {fuel : Nat} {cs : List Value} {x : DataW H × List MemPlace} (hf : DataW.trod enc Try.prog W 0 (fun _ => true) true fuel 26 cs = some x) :
    ∃ (a : Option Addr) (len cap : Nat) (l : List S25), cs = [.slice a len cap] ∧ len = l.length ∧ l.length ≤ cap ∧ Kd.C k25 W a l.length l ∧ ∀ x ∈ l, G25 x :=
  row_of G25 z25 (fun x cs h => k25.K_len h) Try.underlying26 (by kernel_rfl) (fun n cs y h => by
    obtain ⟨x, rfl, g⟩ := v25_of h
    exact ⟨x, k25_mk _ x, g⟩) hf
theorem v28_of {n : Nat} {cs : List Value} {y : DataW H × List MemPlace} (h : DataW.trod enc Try.prog W 0 (fun _ => true) true n 28 cs = some y) : ∃ (x : S28) (a : Option Addr) (c : Nat), cs = [.string x.f0, .slice a x.f1.length c] ∧ x.f1.length ≤ c ∧ Kd.C k25 W a x.f1.length x.f1 ∧ G28 x := by
  obtain ⟨y0, y1, m, _, hl, h0, h1⟩ := trod_struct2 Try.underlying28 h
  have hc : Try.prog.cellsOf 28 = 2 := by kernel_rfl
  rw [hc] at hl
  match cs, hl with
  | [c0, c1], _ =>
    obtain ⟨s, hs, _, hsz⟩ := DataW.trod_string Try.underlying9 h0
    obtain ⟨a, len, cap, l, hv, rfl, hcap, hr, hok⟩ := s26_of h1
    have hc9 : Try.prog.cellsOf 9 = 1 := by kernel_rfl
    have hc26 : Try.prog.cellsOf 26 = 1 := by kernel_rfl
    simp [hc9] at hs
    simp [hc26] at hv
    subst hs hv
    exact ⟨⟨s, l⟩, a, cap, rfl, hcap, hr, len_of hsz, hok⟩
theorem s41_of {fuel : Nat} {cs : List Value} {x : DataW H × List MemPlace} (hf : DataW.trod enc Try.prog W 0 (fun _ => true) true fuel 41 cs = some x) :
    ∃ (a : Option Addr) (len cap : Nat) (l : List S28), cs = [.slice a len cap] ∧ len = l.length ∧ l.length ≤ cap ∧ Kd.C k28 W a l.length l ∧ ∀ x ∈ l, G28 x :=
  row_of G28 z28 (fun x cs h => k28.K_len h) Try.underlying41 (by kernel_rfl) (fun n cs y h => by
    obtain ⟨x, a, c, rfl, h1, h2, g⟩ := v28_of h
    exact ⟨x, k28_mk _ x h1 h2, g⟩) hf
variable {base : Nat} {v : Value} {d : DataW H} {p : List MemPlace}
theorem arg_25 (hok : Value.okWide Try.prog W .any base 25 v) (h : DataW.Trod enc Try.prog W 0 (fun _ => true) true 25 v d p) : ∃ (s : ByteArray) (n : Int), v = .agg #[.string s, .int .i64 n] ∧ s.size ≤ 9223372036854775807 ∧ I64 n := by
  obtain ⟨cs, rfl, _⟩ := okWide_struct Try.underlying25 hok
  obtain ⟨fuel, hf⟩ := h
  obtain ⟨x, hx, hg⟩ := v25_of hf
  exact ⟨x.f0, x.f1, congrArg Value.agg (Array.toList_inj.1 hx), hg⟩
theorem arg_28 (hok : Value.okWide Try.prog W .any base 28 v) (h : DataW.Trod enc Try.prog W 0 (fun _ => true) true 28 v d p) :
    ∃ (s : ByteArray) (a : Option Addr) (c : Nat) (l : List S25), v = .agg #[.string s, .slice a l.length c] ∧ l.length ≤ c ∧ Kd.C k25 W a l.length l ∧ s.size ≤ 9223372036854775807 ∧ ∀ x ∈ l, G25 x := by
  obtain ⟨cs, rfl, _⟩ := okWide_struct Try.underlying28 hok
  obtain ⟨fuel, hf⟩ := h
  obtain ⟨x, a, c, hx, h1, h2, hg⟩ := v28_of hf
  exact ⟨x.f0, a, c, x.f1, congrArg Value.agg (Array.toList_inj.1 hx), h1, h2, hg⟩
theorem arg_37 (hok : Value.okWide Try.prog W .any base 37 v) (h : DataW.Trod enc Try.prog W 0 (fun _ => true) true 37 v d p) :
    ∃ (s0 : ByteArray) (n0 : Int) (s1 : ByteArray) (n1 : Int) (s2 : ByteArray) (a2 : Option Addr) (c2 : Nat) (l2 : List S25) (s3 : ByteArray) (a3 : Option Addr) (c3 : Nat) (l3 : List S25),
      v = .agg #[.string s0, .int .i64 n0, .string s1, .int .i64 n1, .string s2, .slice a2 l2.length c2, .string s3, .slice a3 l3.length c3] ∧ I64 n0 ∧ I64 n1 ∧ (s0.size ≤ 9223372036854775807 ∧ s1.size ≤ 9223372036854775807 ∧ s2.size ≤ 9223372036854775807 ∧ s3.size ≤ 9223372036854775807) ∧ l2.length ≤ c2 ∧ Kd.C k25 W a2 l2.length l2 ∧ (∀ x ∈ l2, G25 x) ∧ l3.length ≤ c3 ∧ Kd.C k25 W a3 l3.length l3 ∧ ∀ x ∈ l3, G25 x := by
  obtain ⟨cs, rfl, _⟩ := okWide_struct Try.underlying37 hok
  obtain ⟨fuel, hf⟩ := h
  obtain ⟨y0, y1, y2, y3, m, _, hl, h0, h1, h2, h3⟩ := Joins.trod_struct4 Try.underlying37 hf
  have hc : Try.prog.cellsOf 37 = 8 := by kernel_rfl
  have hc25 : Try.prog.cellsOf 25 = 2 := by kernel_rfl
  have hc28 : Try.prog.cellsOf 28 = 2 := by kernel_rfl
  rw [hc] at hl
  change DataW.trod enc Try.prog W 0 _ true m 25 ((cs.toList.drop 0).take (Try.prog.cellsOf 25)) = _ at h0
  change DataW.trod enc Try.prog W 0 _ true m 25 ((cs.toList.drop 2).take (Try.prog.cellsOf 25)) = _ at h1
  change DataW.trod enc Try.prog W 0 _ true m 28 ((cs.toList.drop 4).take (Try.prog.cellsOf 28)) = _ at h2
  change DataW.trod enc Try.prog W 0 _ true m 28 ((cs.toList.drop 6).take (Try.prog.cellsOf 28)) = _ at h3
  rw [hc25] at h0 h1
  rw [hc28] at h2 h3
  obtain ⟨cs⟩ := cs
  match cs, hl with
  | [b0, b1, b2, b3, b4, b5, b6, b7], _ =>
    obtain ⟨x0, e0, g0⟩ := v25_of h0
    obtain ⟨x1, e1, g1⟩ := v25_of h1
    obtain ⟨x2, a2, c2, e2, i2, r2, g2⟩ := v28_of h2
    obtain ⟨x3, a3, c3, e3, i3, r3, g3⟩ := v28_of h3
    simp at e0 e1 e2 e3
    obtain ⟨rfl, rfl⟩ := e0
    obtain ⟨rfl, rfl⟩ := e1
    obtain ⟨rfl, rfl⟩ := e2
    obtain ⟨rfl, rfl⟩ := e3
    exact ⟨x0.f0, x0.f1, x1.f0, x1.f1, x2.f0, a2, c2, x2.f1, x3.f0, a3, c3, x3.f1, rfl, g0.2, g1.2, ⟨g0.1, g1.1, g2.1, g3.1⟩, i2, r2, g2.2, i3, r3, g3.2⟩
end
end Go.Proofs.Ytmgocpggoajfeaa.Pure
