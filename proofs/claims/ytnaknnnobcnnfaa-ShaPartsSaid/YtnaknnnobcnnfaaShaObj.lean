/-
  SHA-256: a hash of a message; arrays compared; steps that are guarded.
-/
import Derived.Test.YtnaknnnobcnnfaaShaHWrite
import Derived.Test.YtnaknnnobcnnfaaShaHSum
import Derived.ChangeKeysEq
namespace Go.Proofs.Ytnaknnnobcnnfaa.Sha
open Go.RowKit
set_option linter.unusedVariables false
set_option linter.unusedSimpArgs false
theorem eq_items (d : List Nat) (k : Nat) (w : World) : ∀ is : List Nat, (∀ i ∈ is, i < d.length) → (Op.eqItems (k + 1) 5 (Try.prog.cellsOf 5) (bytesC d) (bytesC d) is).run Try.prog w = .ok true w
  | [], _ => by simp [Op.eqItems]
  | i :: is, h => by
    have hc : Try.prog.cellsOf 5 = 1 := by kernel_rfl
    have hs : ∀ w, (sizeOf 5).run Try.prog w = .ok 1 w := fun _ => by kernel_rfl
    have ha : ∀ w, (isAgg 5).run Try.prog w = .ok false w := fun _ => by kernel_rfl
    have hp : (part 5 (bytesC d) (i * Try.prog.cellsOf 5)).run Try.prog w = .ok (.int .u8 (d.getD i 0 : Nat)) w := by
      rw [hc, Nat.mul_one]
      unfold part
      simp only [Sem.run_bind, ha, Result.andThen_ok, bytesC_get d i (h i (by simp))]
      rfl
    have ih := eq_items d k w is (fun j hj => h j (by simp [hj]))
    simp only [Op.eqItems, Sem.run_bind, hp, Result.andThen_ok, run_equalIn_int w k 5 .u8 .u8 _ _ Try.underlying5, beq_self_eq_true, Bool.not_true, Bool.false_eq_true, if_false, ih]
theorem run_eq_bytes (d : List Nat) (hl : d.length = 32) (w : World) : (Op.equalIn 10000 24 (.agg (bytesC d)) (.agg (bytesC d))).run Try.prog w = .ok true w := by
  obtain ⟨i5, hi5, _⟩ := info5'
  rw [run_equalIn_array w 9999 (bytesC d) (bytesC d) Try.underlying24 hi5]
  exact eq_items d 9998 w _ (fun i hi => by have := List.mem_range.1 hi; omega)
theorem guard24 : Try.prog.eqGuardType Try.prog.depth 24 = false := by kernel_rfl
theorem exec_eql {o : Oper} {a : Act} (x y : Operand) (ho : o.op = .binOp .eql 24 x y 24) (d : List Nat) (hl : d.length = 32) (hx : a.eval x = .agg (bytesC d)) (hy : a.eval y = .agg (bytesC d)) (w : World) : (execOp a.eval o).run Try.prog w = .ok (.value (.bool true)) w := by
  unfold execOp
  simp only [ho, hx, hy, Sem.run_bind, run_eqGuard_agg w .eql 24 x y _ _ guard24, Result.andThen_ok, run_eql_struct, run_eq_bytes d hl, Sem.run_pure]
theorem exec_neq {o : Oper} {a : Act} (x y : Operand) (ho : o.op = .binOp .neq 24 x y 24) (d : List Nat) (hl : d.length = 32) (hx : a.eval x = .agg (bytesC d)) (hy : a.eval y = .agg (bytesC d)) (w : World) : (execOp a.eval o).run Try.prog w = .ok (.value (.bool false)) w := by
  unfold execOp
  simp only [ho, hx, hy, Sem.run_bind, run_eqGuard_agg w .neq 24 x y _ _ guard24, Result.andThen_ok, run_neq_struct, run_eq_bytes d hl, Sem.run_pure, Bool.not_true]


section
variable {P : Program} {ops : Array Oper} {rest : List Oper} {o : Oper} {a : Act} {w : World} {Q : Exit → Act → World → Prop}
theorem sg_run (hw : Region.wanted o (yielded ops a.tmps) = true) (v : Value) (w' : World) (he : (execOp a.eval o).run P w = .ok (.value v) w')
    (k : wpList P ops Q rest (a.put o.dst v) w') : wpList P ops Q (o :: rest) a w :=
  BigFrame.wpList_want hw fun _ hK => by unfold Oper.wp; rw [he]; exact hK _ _ k
theorem sg_call (hw : Region.wanted o (yielded ops a.tmps) = true) (f : FuncId) (args : Array Value) (he : (execOp a.eval o).run P w = .ok (.enter f args) w) {R : Value → World → Prop}
    (hc : Calls P f args w fun e w' => ∃ v, e = .returned v ∧ R v w')
    (k : ∀ v w', R v w' → wpList P ops Q rest (a.put o.dst v) w') : wpList P ops Q (o :: rest) a w :=
  BigFrame.wpList_want hw fun _ hK => by
    unfold Oper.wp; rw [he, Oper.upon_enter]
    exact hc.mono fun e w' h => by obtain ⟨v, rfl, hR⟩ := h; exact hK _ _ (k v w' hR)
end
/-- A hash to which a message has been written. -/
def Holds (w : World) (base g : Nat) (v : Value) (M : List Nat) : Prop :=
  w.heap[g]? = some (.cells (hashC (st IV M (M.length / 64)) v M.length) 46 (0, 0)) ∧ w.ownsRow base 5 1 v (M.drop (64 * (M.length / 64))).length (vals (M.drop (64 * (M.length / 64))))
theorem Holds.lt {w : World} {base g : Nat} {v : Value} {M : List Nat} (h : Holds w base g v M) : g < w.heap.size := (Array.getElem?_eq_some_iff.1 h.1).1
theorem Holds.kept {w w' : World} {base g : Nat} {v : Value} {M : List Nat} (h : Holds w base g v M) (hb : ∀ k, k = g ∨ v.ownBlock = some k → w'.heap[k]? = w.heap[k]?) : Holds w' base g v M :=
  ⟨by rw [hb g (.inl rfl)]; exact h.1, own_keep h.2 fun k hk => hb k (.inr hk)⟩
theorem Holds.below {w w' : World} {base g : Nat} {v : Value} {M : List Nat} (h : Holds w base g v M) (hb : Below w.heap.size w w') : Holds w' base g v M :=
  h.kept fun k hk => hb.block k (by
    rcases hk with rfl | hk
    · exact h.lt
    · exact (h.2.lt k hk).2)
theorem Holds.alloc {w : World} {base g : Nat} {v : Value} {M : List Nat} (h : Holds w base g v M) (o : Obj) : Holds (w.alloc o) base g v M :=
  h.below ((Below.refl _ _).alloc (Nat.le_refl _) _)
theorem own_mono {w : World} {base base' n : Nat} {v : Value} {xs : List Value} (h : w.ownsRow base 5 1 v n xs) (hb : base' ≤ base) : w.ownsRow base' 5 1 v n xs := by
  refine ⟨h.1, ?_⟩
  rcases h.2 with h2 | ⟨g', cap, cur, rfl, h1, h3⟩
  · exact .inl h2
  · exact .inr ⟨g', cap, cur, rfl, Nat.le_trans hb h1, h3⟩
theorem Holds.mono {w : World} {base base' g : Nat} {v : Value} {M : List Nat} (h : Holds w base g v M) (hb : base' ≤ base) : Holds w base' g v M := ⟨h.1, own_mono h.2 hb⟩
theorem st_len8 (M : List Nat) (j : Nat) : (st IV M j).length = 8 := st_length _ _ IV_length j
theorem drop_lt {M : List Nat} (h : ∀ j, M.getD j 0 < 256) (i : Nat) : ∀ j, (M.drop i).getD j 0 < 256 := fun j => by rw [getD_drop]; exact h _
theorem append_lt {M b : List Nat} (h : ∀ j, M.getD j 0 < 256) (hb : ∀ j, b.getD j 0 < 256) : ∀ j, (M ++ b).getD j 0 < 256 := getD_lt (by decide) (fun x hx => by
  rcases List.mem_append.1 hx with h' | h'
  · exact mem_lt_of_getD h x h'
  · exact mem_lt_of_getD hb x h')
theorem new_holds (w : World) : Calls Try.prog 12 #[] w fun e w' => ∃ g, e = .returned (.pointer (some ⟨g, 0, none⟩)) ∧ w.heap.size ≤ g ∧ Holds w' w.heap.size g (.slice none 0 0) [] ∧ Below w.heap.size w w' :=
  (new_calls w).mono fun e w' h => by
    obtain ⟨g, h1, h2, h3, h4⟩ := h
    exact ⟨g, h1, h2, ⟨h3, World.ownsRow_nil _ _ _ _⟩, h4⟩
theorem write_holds (M b : List Nat) (hM : ∀ j, M.getD j 0 < 256) (hbb : ∀ j, b.getD j 0 < 256) (hM9 : M.length ≤ 1000000000) (hb9 : b.length ≤ 1000000000) (v : Value) (base g : Nat) (w : World) (h : Holds w base g v M)
    (y : Value) (hy : Bytes w y b) (hyg : b ≠ [] → y.ownBlock ≠ some g) :
    Calls Try.prog 13 #[.pointer (some ⟨g, 0, none⟩), y] w fun e w' => e = .returned (.tuple #[]) ∧ ∃ v', Holds w' w.heap.size g v' (M ++ b) ∧ Kept2 w w' g v.ownBlock := by
  obtain ⟨A, c, rfl⟩ := hy.form
  refine (hwrite_calls (st IV M (M.length / 64)) (M.drop (64 * (M.length / 64))) b M.length (st_len8 _ _) (st_lt _ _ IV_length IV_lt _) (drop_lt hM _) hbb (by rw [List.length_drop]; omega) hb9 (by omega) v base g w h.1 h.2 A c hy hyg).mono fun e w' hh => ?_
  obtain ⟨h1, v', h2, h3, h4⟩ := hh
  rw [write_on] at h2
  rw [rest_on] at h3
  rw [← List.length_append] at h2
  exact ⟨h1, v', ⟨h2, h3⟩, h4⟩
theorem sum_holds (M : List Nat) (hM : ∀ j, M.getD j 0 < 256) (hM9 : M.length ≤ 1000000000) (v : Value) (base g : Nat) (w : World) (h : Holds w base g v M) :
    Calls Try.prog 14 #[.pointer (some ⟨g, 0, none⟩)] w fun e w' => e = .returned (.agg (bytesC (sumB M))) ∧ Below w.heap.size w w' := by
  refine (hsum_calls (st IV M (M.length / 64)) (M.drop (64 * (M.length / 64))) M.length (st_len8 _ _) (st_lt _ _ IV_length IV_lt _) (drop_lt hM _) (by rw [List.length_drop]; omega) (by omega) v base g w h.1 h.2).mono fun e w' hh => ?_
  have e : sumH (st IV M (M.length / 64)) (M.drop (64 * (M.length / 64))) M.length = sumB M := by
    unfold sumH sumB; rw [sum_cut IV M M.length]
  rw [e] at hh
  exact hh
/-- Lists of bytes, each nil or not. -/
def Lists (w : World) (v : Value) (ls : List (List Nat)) : Prop :=
  (v = .slice none 0 0 ∧ ls = []) ∨ ∃ g o c, v = .slice (some ⟨g, o, none⟩) ls.length c ∧ ls.length ≤ c ∧ g < w.heap.size ∧ ∀ i, i < ls.length → ∃ y, w.cell? ⟨g, o + i, none⟩ = some y ∧ Bytes w y (ls.getD i [])
theorem Lists.form {w : World} {v : Value} {l : List (List Nat)} (h : Lists w v l) : ∃ A c, v = .slice A l.length c := by
  rcases h with ⟨rfl, rfl⟩ | ⟨g, o, c, rfl, _⟩
  · exact ⟨none, 0, rfl⟩
  · exact ⟨_, c, rfl⟩
theorem Lists.below {w w' : World} {v : Value} {l : List (List Nat)} (h : Lists w v l) (hb : Below w.heap.size w w') : Lists w' v l := by
  rcases h with h | ⟨g, o, c, rfl, h1, h2, h3⟩
  · exact .inl h
  · refine .inr ⟨g, o, c, rfl, h1, by have := hb.size; omega, fun i hi => ?_⟩
    obtain ⟨y, h4, h5⟩ := h3 i hi
    exact ⟨y, by rw [hb.cell h2]; exact h4, h5.below hb⟩
/-- An element of the lists, where the loop reads it. -/
theorem Lists.elem {w : World} {A : Option Addr} {n c : Nat} {l : List (List Nat)} (h : Lists w (.slice A n c) l) (i : Nat) (hi : i < l.length) :
    ∃ g o y, A = some ⟨g, o, none⟩ ∧ n ≤ c ∧ g < w.heap.size ∧ w.cell? ⟨g, o + i, none⟩ = some y ∧ Bytes w y (l.getD i []) := by
  rcases h with ⟨_, rfl⟩ | ⟨g, o, c', h0, h1, h2, h3⟩
  · simp at hi
  · injection h0 with h5 h6 h7
    subst h5 h6 h7
    obtain ⟨y, h4, h5⟩ := h3 i hi
    exact ⟨g, o, y, rfl, h1, h2, h4, h5⟩
theorem flat_take (l : List (List Nat)) (i : Nat) (hi : i < l.length) : (l.take (i + 1)).flatten = (l.take i).flatten ++ l.getD i [] := by
  rw [List.take_add_one, List.flatten_append]
  simp [hi]
theorem flat_lt {l : List (List Nat)} (h : ∀ x ∈ l, ∀ j, x.getD j 0 < 256) : ∀ j, l.flatten.getD j 0 < 256 := getD_lt (by decide) (fun x hx => by
  obtain ⟨y, hy, hxy⟩ := List.mem_flatten.1 hx
  exact mem_lt_of_getD (h y hy) x hxy)
theorem take_lt {l : List (List Nat)} (h : ∀ x ∈ l, ∀ j, x.getD j 0 < 256) (i : Nat) : ∀ x ∈ l.take i, ∀ j, x.getD j 0 < 256 := fun x hx => h x (List.mem_of_mem_take hx)
theorem flat_take_len (l : List (List Nat)) (i : Nat) : (l.take i).flatten.length ≤ l.flatten.length := by
  have := congrArg (fun m : List (List Nat) => m.flatten.length) (List.take_append_drop i l)
  simp only [List.flatten_append, List.length_append] at this
  omega
theorem listD_mem {ll : List (List Nat)} (i : Nat) (hi : i < ll.length) : ll.getD i [] ∈ ll := by
  rw [List.getD_eq_getElem?_getD, List.getElem?_eq_getElem hi]; exact List.getElem_mem hi
theorem elem_len (l : List (List Nat)) (i : Nat) (hi : i < l.length) : (l.getD i []).length ≤ l.flatten.length := by
  have h := flat_take_len l (i + 1)
  rw [flat_take l i hi, List.length_append] at h
  omega
end Go.Proofs.Ytnaknnnobcnnfaa.Sha
