/-
  Bindings: rows of structs that the call owns; appended, cloned, clipped.
-/
import Derived.Test.YtehgblnhhlgikaaBiLook3
import Derived.Laws.AppendOwnNone
namespace Go.Proofs.Ytehgblnhhlgikaa.Bi
open Go.RowKit
set_option linter.unusedVariables false
set_option linter.unusedSimpArgs false
set_option pp.maxSteps 50000
/-- The cells of a list of structs. -/
def flat {α : Type} (enc : α → Array Value) (l : List α) : List Value := l.flatMap fun x => (enc x).toList
theorem flat_len {α : Type} {k : Nat} {enc : α → Array Value} (he : ∀ x, (enc x).size = k) (l : List α) : (flat enc l).length = l.length * k := by
  induction l with
  | nil => simp [flat]
  | cons x xs ih =>
    have : flat enc (x :: xs) = (enc x).toList ++ flat enc xs := by simp [flat]
    rw [this, List.length_append, ih, Array.length_toList, he, List.length_cons, Nat.succ_mul]; omega
theorem flat_app {α : Type} {enc : α → Array Value} (a b : List α) : flat enc (a ++ b) = flat enc a ++ flat enc b := by simp [flat]
theorem flat_one {α : Type} {enc : α → Array Value} (h1 : ∀ x, ∀ u ∈ (enc x).toList, u.oneCell' = true) (l : List α) : ∀ u ∈ flat enc l, u.oneCell' = true := fun u hu => by
  obtain ⟨x, _, hx⟩ := List.mem_flatMap.1 hu
  exact h1 x u hx
section
variable {α : Type} [Inhabited α] {k : Nat} {enc : α → Array Value}
theorem flat_get (he : ∀ x, (enc x).size = k) : ∀ (l : List α) (i : Nat) (r : Nat), i < l.length → r < k → (flat enc l)[i * k + r]? = (enc (l.getD i default)).toList[r]?
  | [], i, r, h, _ => by simp at h
  | x :: xs, 0, r, h, hr => by
    have : flat enc (x :: xs) = (enc x).toList ++ flat enc xs := by simp [flat]
    rw [this, Nat.zero_mul, Nat.zero_add, List.getElem?_append_left (by rw [Array.length_toList, he]; exact hr)]
    rfl
  | x :: xs, i + 1, r, h, hr => by
    have : flat enc (x :: xs) = (enc x).toList ++ flat enc xs := by simp [flat]
    rw [this, List.getElem?_append_right (by rw [Array.length_toList, he, Nat.succ_mul]; omega), Array.length_toList, he, show (i + 1) * k + r - k = i * k + r by rw [Nat.succ_mul]; omega, flat_get he xs i r (by simpa using h) hr]
    rfl
theorem flat_at (he : ∀ x, (enc x).size = k) (l : List α) (j : Nat) (u : Value) (h : (flat enc l)[j]? = some u) : ∃ i r, i < l.length ∧ r < k ∧ j = i * k + r ∧ (enc (l.getD i default)).toList[r]? = some u := by
  have hj : j < l.length * k := by rw [← flat_len he l]; exact (List.getElem?_eq_some_iff.1 h).1
  have hk : 0 < k := by
    rcases Nat.eq_zero_or_pos k with h0 | h0
    · subst h0; simp at hj
    · exact h0
  have h1 : j / k < l.length := (Nat.div_lt_iff_lt_mul hk).2 hj
  have h2 : j % k < k := Nat.mod_lt _ hk
  have h3 : j = j / k * k + j % k := by rw [Nat.mul_comm]; exact (Nat.div_add_mod j k).symm
  refine ⟨j / k, j % k, h1, h2, h3, ?_⟩
  rw [← flat_get he l _ _ h1 h2, ← h3]; exact h
theorem Rw.cells {w : World} {g o : Nat} {l : List α} (he : ∀ x, (enc x).size = k) (h : ∀ i, i < l.length → w.rangeAt g (o + i * k) (enc (l.getD i default)).toList) : ∀ j u, (flat enc l)[j]? = some u → w.cell? ((⟨g, o, none⟩ : Addr).add j) = some u := fun j u hu => by
  obtain ⟨i, r, h1, h2, rfl, h3⟩ := flat_at he l j u hu
  rw [Addr.add_mid, ← Nat.add_assoc]
  exact h i h1 r u h3
theorem Rw.own {w : World} {base n : Nat} {e : TypeId} {v : Value} {l : List α} (he : ∀ x, (enc x).size = k) (hk : 0 < k) (h : w.ownsRow base e k v n (flat enc l)) : Rw k enc w v l := by
  have hn : n = l.length := by
    have := h.1; rw [flat_len he] at this
    exact (Nat.eq_of_mul_eq_mul_right hk this).symm
  subst hn
  rcases h.2 with ⟨rfl, h0⟩ | ⟨g, cap, cur, rfl, h1, h2, h3, _⟩
  · have hl : l = [] := List.length_eq_zero_iff.1 h0
    subst hl; exact Rw.nil
  · refine .inr ⟨g, 0, cap, rfl, h3, (Array.getElem?_eq_some_iff.1 h2).1, fun i hi r u hu => ?_⟩
    have hr : r < k := by rw [← he (l.getD i default), ← Array.length_toList]; exact (List.getElem?_eq_some_iff.1 hu).1
    have hb : i * k + r < l.length * k := by
      have : (i + 1) * k ≤ l.length * k := Nat.mul_le_mul_right k hi
      rw [Nat.succ_mul] at this; omega
    rw [Nat.zero_add, h.cellAt (i * k + r) hb, flat_get he l i r hi hr]
    exact hu
/-- A list behind a list that is the call's own. -/
theorem appendRw {w : World} {ops : Array Oper} {rest : List Oper} {o : Oper} {a : Act} {Q : Exit → Act → World → Prop} (ty e : TypeId) (bytes : Nat) (i : TypeInfo) (z : Value) (ht : Try.prog.underlying ty = some (.slice e)) (hi : Try.prog.info? e = some i) (hz : i.zero = some z) (hsize : i.size = k) (hby : i.bytes = bytes) (hzs : z.cells.size = k) (hk : 0 < k) (he : ∀ x, (enc x).size = k) (h1 : ∀ x, ∀ u ∈ (enc x).toList, u.oneCell' = true)
    (hgd : o.guard = none) (s x : Operand) (ho : o.op = .call { callee := .builtin .append, args := #[s, x], argTypes := #[ty, ty] })
    (base : Nat) (v : Value) (l0 l : List α) (hs : a.eval s = v) (hown : w.ownsRow base e k v l0.length (flat enc l0))
    (y : Value) (hx : a.eval x = y) (hy : Rw k enc w y l) (hlen : l0.length + l.length ≤ 140737488355327) (hlen2 : (l0.length + l.length) * bytes ≤ 140737488355328) (hbase : base ≤ w.heap.size)
    (h : ∀ v' w', w'.ownsRow base e k v' (l0 ++ l).length (flat enc (l0 ++ l)) → w.grownBy w' v.ownBlock → wpList Try.prog ops Q rest (a.put o.dst v') w') : wpList Try.prog ops Q (o :: rest) a w := by
  rcases hy with ⟨A, c, rfl, rfl, hA⟩ | ⟨g, off, c, rfl, hc, hg, hl⟩
  · cases A with
    | none =>
      have hA := hA rfl
      subst hA
      exact wpList_append_own_none hgd s x ty ho base e i k ht hi v l0.length (flat enc l0) hs hown hx (h v w (by simpa using hown) (grownBy_refl _ _))
    | some ad =>
      refine wpList_append_own w hgd s x ty ho base e i z k bytes ht hi hz hsize hby hzs hk v l0.length (flat enc l0) hs hown ad 0 c [] hx (by simp) (fun j u hu => by simp at hu) (fun u hu => by simp at hu) (by unfold maxLen; omega) (by simpa using hlen2) hbase ?_
      intro v' w' h1 h2 h3
      exact h v' w' (by simpa using h1) h2
  · refine wpList_append_own w hgd s x ty ho base e i z k bytes ht hi hz hsize hby hzs hk v l0.length (flat enc l0) hs hown ⟨g, off, none⟩ l.length c (flat enc l) hx (flat_len he l) (Rw.cells he hl) (flat_one h1 l) (by unfold maxLen; omega) hlen2 hbase ?_
    intro v' w' h1 h2 h3
    exact h v' w' (by rw [List.length_append, flat_app]; exact h1) h2
end
theorem t3_size (x : T3) : x.c.size = 3 := rfl
theorem v2_size (x : V2) : x.c.size = 2 := rfl
theorem t3_ones (x : T3) : ∀ u ∈ x.c.toList, u.oneCell' = true := by simp [T3.c, Value.oneCell']
theorem v2_ones (x : V2) : ∀ u ∈ x.c.toList, u.oneCell' = true := by simp [V2.c, Value.oneCell']
def z3 : Value := .agg #[.string ByteArray.empty, .string ByteArray.empty, .int .i64 0]
def z2 : Value := .agg #[.string ByteArray.empty, .int .i64 0]
theorem inf50 : (Try.prog.info? 50).map (fun i => (i.zero, i.size, i.bytes)) = some (some z3, 3, 40) := by kernel_rfl
theorem inf48 : (Try.prog.info? 48).map (fun i => (i.zero, i.size, i.bytes)) = some (some z3, 3, 40) := by kernel_rfl
theorem inf46 : (Try.prog.info? 46).map (fun i => (i.zero, i.size, i.bytes)) = some (some z2, 2, 24) := by kernel_rfl
end Go.Proofs.Ytehgblnhhlgikaa.Bi
