/-
  Orders: structs that a law's row hands in.
-/
import Derived.Test.YtfbbpodlemllcaaDoorPoRowsIn
namespace Go.Proofs.YtfbbpodlemllcaaDoor
open Go.RowKit Go.ChangeShapes Go.WideShapes Go.Lib
set_option linter.unusedVariables false
section
variable {H : Type} {enc : TypeId × Value → H} {W : World} {base : Nat} {v : Value} {d : DataW H} {p : List MemPlace}
theorem room_in {ts : List TypeId} {ds parts : List (DataW H)} {fs : Array Field} (hz : (DataW.weightsEach Tryd.prog ts ds).all (· ≤ reachBytes) = true) {j i len k : Nat} {t ti e : TypeId} {di : DataW H} (ht : ts[j]? = some t) (hd : ds[j]? = some (.agg parts)) (hu : Tryd.prog.underlying t = some (.struct fs)) (hti : (fs.toList.map (·.type))[i]? = some ti) (hdi : parts[i]? = some di) (hui : Tryd.prog.underlying ti = some (.slice e)) (hb : Tryd.prog.bytesOf e = k)
    (h : (di = .nil ∧ len = 0) ∨ ∃ elems spare, di = .slice elems spare ∧ elems.length = len) : len * k ≤ 140737488351232 := by
  rcases h with ⟨_, rfl⟩ | ⟨elems, spare, rfl, rfl⟩
  · rw [Nat.zero_mul]; decide
  · have h1 : (elems.length + spare.length) * Tryd.prog.bytesOf e ∈ (DataW.agg parts).weights Tryd.prog t := by
      have := DataW.weights_mem_each (P := Tryd.prog) hti hdi ((elems.length + spare.length) * Tryd.prog.bytesOf e) (by simp [DataW.weights, hui])
      simpa [DataW.weights, hu] using this
    have := List.all_eq_true.1 hz _ (DataW.weights_mem_each ht hd _ h1)
    rw [hb] at this
    have h3 : (elems.length + spare.length) * k ≤ reachBytes := by simpa using this
    have h2 : elems.length * k ≤ (elems.length + spare.length) * k := Nat.mul_le_mul_right k (by omega)
    unfold reachBytes at h3
    omega
theorem arg_asked {ts : List TypeId} {ds : List (DataW H)} (hz : (DataW.weightsEach Tryd.prog ts ds).all (· ≤ reachBytes) = true) {j : Nat} (ht : ts[j]? = some 46) (hd : ds[j]? = some d) (hok : Value.okWide Tryd.prog W .any base 46 v) (h : DataW.Trod enc Tryd.prog W 0 (fun _ => true) true 46 v d p) :
    ∃ (a : Option Addr) (len cap : Nat) (l : List Nat) (x y z : Int), v = .agg #[.slice a len cap, .int .i64 x, .int .i64 y, .int .i64 z] ∧ len = l.length ∧ Ms W (.slice a len cap) l ∧ Small l ∧ len * 8 ≤ 140737488351232 := by
  obtain ⟨cs, rfl, _⟩ := okWide_struct Tryd.underlying46 hok
  obtain ⟨fuel, hf⟩ := h
  obtain ⟨y0, y1, y2, y3, m, hx, hl, h0, h1, h2, h3⟩ := Joins.trod_struct4 Tryd.underlying46 hf
  have hc : Tryd.prog.cellsOf 46 = 4 := by kernel_rfl
  have hc24 : Tryd.prog.cellsOf 24 = 1 := by kernel_rfl
  have hc3 : Tryd.prog.cellsOf 3 = 1 := by kernel_rfl
  simp only [Value.cells] at hl h0 h1 h2 h3
  rw [hc, Array.length_toList] at hl
  obtain ⟨c0, c1, c2, c3, rfl⟩ := Joins.array4 hl
  obtain ⟨a, len, cap, l, hv, hlen, hms, hsm, hdat⟩ := masks_of h0
  obtain ⟨x, hx1, _, _⟩ := DataW.trod_int Tryd.underlying3 h1
  obtain ⟨y, hy1, _, _⟩ := DataW.trod_int Tryd.underlying3 h2
  obtain ⟨z, hz1, _, _⟩ := DataW.trod_int Tryd.underlying3 h3
  simp [hc24] at hv
  simp [hc3] at hx1 hy1 hz1
  subst hv hx1 hy1 hz1
  have hdd : d = .agg [y0.1, y1.1, y2.1, y3.1] := congrArg Prod.fst hx
  subst hdd
  exact ⟨a, len, cap, l, x, y, z, rfl, hlen, hms, hsm, room_in (i := 0) (ti := 24) (e := 36) hz ht hd Tryd.underlying46 rfl rfl Tryd.underlying24 (by kernel_rfl) hdat⟩
theorem arg_way {ts : List TypeId} {ds : List (DataW H)} (hz : (DataW.weightsEach Tryd.prog ts ds).all (· ≤ reachBytes) = true) {j : Nat} (ht : ts[j]? = some 49) (hd : ds[j]? = some d) (hok : Value.okWide Tryd.prog W .any base 49 v) (h : DataW.Trod enc Tryd.prog W 0 (fun _ => true) true 49 v d p) :
    ∃ (x : Int) (a : Option Addr) (len cap : Nat) (l : List P2) (y z : Int), v = .agg #[.int .i64 x, .slice a len cap, .int .i64 y, .int .i64 z] ∧ len = l.length ∧ Rw 2 encP W (.slice a len cap) l ∧ len * 16 ≤ 140737488351232 := by
  obtain ⟨cs, rfl, _⟩ := okWide_struct Tryd.underlying49 hok
  obtain ⟨fuel, hf⟩ := h
  obtain ⟨y0, y1, y2, y3, m, hx, hl, h0, h1, h2, h3⟩ := Joins.trod_struct4 Tryd.underlying49 hf
  have hc : Tryd.prog.cellsOf 49 = 4 := by kernel_rfl
  have hc22 : Tryd.prog.cellsOf 22 = 1 := by kernel_rfl
  have hc3 : Tryd.prog.cellsOf 3 = 1 := by kernel_rfl
  simp only [Value.cells] at hl h0 h1 h2 h3
  rw [hc, Array.length_toList] at hl
  obtain ⟨c0, c1, c2, c3, rfl⟩ := Joins.array4 hl
  obtain ⟨a, len, cap, l, hv, hlen, hms, _, hdat⟩ := pairs_of h1
  obtain ⟨x, hx1, _, _⟩ := DataW.trod_int Tryd.underlying3 h0
  obtain ⟨y, hy1, _, _⟩ := DataW.trod_int Tryd.underlying3 h2
  obtain ⟨z, hz1, _, _⟩ := DataW.trod_int Tryd.underlying3 h3
  simp [hc22] at hv
  simp [hc3] at hx1 hy1 hz1
  subst hv hx1 hy1 hz1
  have hdd : d = .agg [y0.1, y1.1, y2.1, y3.1] := congrArg Prod.fst hx
  subst hdd
  exact ⟨x, a, len, cap, l, y, z, rfl, hlen, hms, room_in (i := 1) (ti := 22) (e := 44) hz ht hd Tryd.underlying49 rfl rfl Tryd.underlying22 (by kernel_rfl) hdat⟩
end
end Go.Proofs.YtfbbpodlemllcaaDoor
