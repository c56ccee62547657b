/-
  On, use, New, Left, Fuse of a disk.
-/
import Derived.Test.YtmdfgndjphhgnaaDiBase
namespace Go.Proofs.Ytmdfgndjphhgnaa
open Go.RowKit
set_option linter.unusedVariables false
set_option linter.unusedSimpArgs false
theorem DiskI.c0 {w : World} {D mb : Nat} {d : DS} (h : DiskI w D mb d) : w.cell? ⟨D, 0, none⟩ = some (.map (some mb)) := by rw [cell_of_row _ _ _ _ _ _ h.row]; rfl
theorem DiskI.c1 {w : World} {D mb : Nat} {d : DS} (h : DiskI w D mb d) : w.cell? ⟨D, 1, none⟩ = some (.int .i64 d.left) := by rw [cell_of_row _ _ _ _ _ _ h.row]; rfl
theorem DiskI.c2 {w : World} {D mb : Nat} {d : DS} (h : DiskI w D mb d) : w.cell? ⟨D, 2, none⟩ = some (.bool d.off) := by rw [cell_of_row _ _ _ _ _ _ h.row]; rfl
theorem DiskI.fr {w : World} {D mb : Nat} {d : DS} (h : DiskI w D mb d) (j : Nat) : w.frozen? ⟨D, j, none⟩ = false := frozen_of_row _ _ _ _ _ h.row
theorem DiskI.set1 {w : World} {D mb : Nat} {d : DS} (h : DiskI w D mb d) (l : Int) (h1 : -1 ≤ l) (h2 : l < 9223372036854775808) : DiskI (w.setCell ⟨D, 1, none⟩ (.int .i64 l)) D mb ⟨d.L, l, d.off⟩ := by
  rw [setCell_eq_setRow w D 1 _ _ (0, 0) _ h.row]
  exact h.row2 l d.off h1 h2
theorem DiskI.set2 {w : World} {D mb : Nat} {d : DS} (h : DiskI w D mb d) (b : Bool) : DiskI (w.setCell ⟨D, 2, none⟩ (.bool b)) D mb ⟨d.L, d.left, b⟩ := by
  rw [setCell_eq_setRow w D 2 _ _ (0, 0) _ h.row]
  exact h.row2 d.left b h.left1 h.left2
theorem kpD (w : World) (D mb j : Nat) (v : Value) : KpS (TD D mb) w (w.setCell ⟨D, j, none⟩ v) := KpS.set (KpS.of (Below.refl _ _)) _ _ _ (.inl (.inl rfl))
theorem On_nil (w : World) : Calls Try.prog 29 #[.pointer none] w fun e w' => e = .returned (.bool false) ∧ w = w' := by
  go_enter Try.func29, Try.ntmps29
  go_wp2
  go_ret
  exact ⟨rfl, rfl⟩
theorem On_calls {w : World} {D mb : Nat} {d : DS} (h : DiskI w D mb d) : Calls Try.prog 29 #[.pointer (some ⟨D, 0, none⟩)] w fun e w' => e = .returned (.bool (!d.off)) ∧ w = w' := by
  have c2 := h.c2
  obtain ⟨b, hb⟩ : ∃ b, b = d.off := ⟨_, rfl⟩
  rw [← hb] at c2 ⊢
  clear h hb
  go_enter Try.func29, Try.ntmps29
  go_wp2
  go_ret
  exact ⟨rfl, rfl⟩
theorem Left_nil (w : World) : Calls Try.prog 30 #[.pointer none] w fun e w' => e = .returned (.int .i64 0) ∧ w = w' := by
  go_enter Try.func30, Try.ntmps30
  go_upto_region 1 with fail
  refine wp_region_lit ?_
  refine sl_run rfl (.pointer none) w (by kernel_rfl) ?_
  simp only [Act.put, List.setIfInBounds_toArray, List.set_cons_zero, List.set_cons_succ]
  refine sg_call (by kernel_rfl) 29 #[.pointer none] (by kernel_rfl) (R := fun v w' => v = .bool false ∧ w = w') ((On_nil w).mono fun e w' h => ⟨_, h.1, rfl, h.2⟩) ?_
  rintro _ _ ⟨rfl, rfl⟩
  simp only [Act.put, List.setIfInBounds_toArray, List.set_cons_zero, List.set_cons_succ]
  refine sl_run rfl (.bool true) w (by kernel_rfl) ?_
  simp only [Act.put, List.setIfInBounds_toArray, List.set_cons_zero, List.set_cons_succ]
  refine wpList_nil ?_
  go_wp2_with fail
  go_ret
  exact ⟨rfl, rfl⟩
theorem Left_calls {w : World} {D mb : Nat} {d : DS} (h : DiskI w D mb d) : Calls Try.prog 30 #[.pointer (some ⟨D, 0, none⟩)] w fun e w' => e = .returned (.int .i64 d.leftS) ∧ w = w' := by
  have c1 := h.c1
  have hH : Hid (DiskI w D mb d) := h
  obtain ⟨R, hR⟩ : ∃ R, R = d.leftS := ⟨_, rfl⟩
  rw [← hR]
  clear h
  go_enter Try.func30, Try.ntmps30
  go_upto_region 1 with fail
  refine wp_region_lit ?_
  cases ho : d.off with
  | true =>
    refine sl_run rfl (.pointer (some ⟨D, 0, none⟩)) w (by kernel_rfl) ?_
    simp only [Act.put, List.setIfInBounds_toArray, List.set_cons_zero, List.set_cons_succ]
    refine sg_call (by kernel_rfl) 29 #[.pointer (some ⟨D, 0, none⟩)] (by kernel_rfl) (R := fun v w' => v = .bool false ∧ w = w') (((by have h8 := On_calls hH.out; rw [ho] at h8; exact h8 : Calls Try.prog 29 #[.pointer (some ⟨D, 0, none⟩)] w fun e w' => e = .returned (.bool false) ∧ w = w')).mono fun e w' h => ⟨_, h.1, rfl, h.2⟩) ?_
    rintro _ _ ⟨rfl, rfl⟩
    simp only [Act.put, List.setIfInBounds_toArray, List.set_cons_zero, List.set_cons_succ]
    refine sl_run rfl (.bool true) w (by kernel_rfl) ?_
    simp only [Act.put, List.setIfInBounds_toArray, List.set_cons_zero, List.set_cons_succ]
    refine wpList_nil ?_
    obtain rfl : R = 0 := by rw [hR]; unfold DS.leftS; rw [if_pos ho]
    clear hR ho hH
    go_wp2_with fail
    go_ret
    exact ⟨rfl, rfl⟩
  | false =>
    refine sl_run rfl (.pointer (some ⟨D, 0, none⟩)) w (by kernel_rfl) ?_
    simp only [Act.put, List.setIfInBounds_toArray, List.set_cons_zero, List.set_cons_succ]
    refine sg_call (by kernel_rfl) 29 #[.pointer (some ⟨D, 0, none⟩)] (by kernel_rfl) (R := fun v w' => v = .bool true ∧ w = w') (((by have h8 := On_calls hH.out; rw [ho] at h8; exact h8 : Calls Try.prog 29 #[.pointer (some ⟨D, 0, none⟩)] w fun e w' => e = .returned (.bool true) ∧ w = w')).mono fun e w' h => ⟨_, h.1, rfl, h.2⟩) ?_
    rintro _ _ ⟨rfl, rfl⟩
    simp only [Act.put, List.setIfInBounds_toArray, List.set_cons_zero, List.set_cons_succ]
    refine sl_run rfl (.bool false) w (by kernel_rfl) ?_
    simp only [Act.put, List.setIfInBounds_toArray, List.set_cons_zero, List.set_cons_succ]
    refine wpList_nil ?_
    obtain rfl : R = d.left := by rw [hR]; unfold DS.leftS; rw [if_neg (by rw [ho]; decide)]
    clear hR ho hH
    go_wp2_with fail
    go_ret
    exact ⟨rfl, rfl⟩
theorem Fuse_nil (n : Int) (w : World) : Calls Try.prog 24 #[.pointer none, .int .i64 n] w fun e w' => e = .returned (.tuple #[]) ∧ w = w' := by
  go_enter Try.func24, Try.ntmps24
  go_upto_region 0 with fail
  refine wp_region_lit ?_
  refine sl_run rfl (.pointer none) w (by kernel_rfl) ?_
  simp only [Act.put, List.setIfInBounds_toArray, List.set_cons_zero, List.set_cons_succ]
  refine sg_call (by kernel_rfl) 29 #[.pointer none] (by kernel_rfl) (R := fun v w' => v = .bool false ∧ w = w') ((On_nil w).mono fun e w' h => ⟨_, h.1, rfl, h.2⟩) ?_
  rintro _ _ ⟨rfl, rfl⟩
  simp only [Act.put, List.setIfInBounds_toArray, List.set_cons_zero, List.set_cons_succ]
  refine wpList_nil ?_
  go_wp2_with fail
  refine bodyPost_fall (v := .tuple #[]) (by kernel_rfl) (by kernel_rfl) ?_
  exact ⟨rfl, rfl⟩
theorem exec_maxI {o : Oper} {a : Act} (x y : Operand) (ty : TypeId) (ho : o.op = .call { callee := .builtin .max, args := #[x, y], argTypes := #[3, 3] }) (u v : Int) (hx : a.eval x = .int .i64 u) (hy : a.eval y = .int .i64 v) (w : World) : (execOp a.eval o).run Try.prog w = .ok (.value (.int .i64 (max u v))) w := by
  unfold execOp
  simp [ho, hx, hy, resolve, invoke, builtin, Builtin.max_, Builtin.max2, Result.andThen]
  try omega
theorem Fuse_calls {w : World} {D mb : Nat} {d : DS} (h : DiskI w D mb d) (n : Int) (hn : n < 9223372036854775808) : Calls Try.prog 24 #[.pointer (some ⟨D, 0, none⟩), .int .i64 n] w fun e w' => e = .returned (.tuple #[]) ∧ DiskI w' D mb (d.fuse n) ∧ KpS (TD D mb) w w' := by
  have hH : Hid (DiskI w D mb d) := h
  have hn' : Hid (n < 9223372036854775808) := hn
  clear h hn
  go_enter Try.func24, Try.ntmps24
  go_upto_region 0 with fail
  refine wp_region_lit ?_
  cases ho : d.off with
  | true =>
    refine sl_run rfl (.pointer (some ⟨D, 0, none⟩)) w (by kernel_rfl) ?_
    simp only [Act.put, List.setIfInBounds_toArray, List.set_cons_zero, List.set_cons_succ]
    refine sg_call (by kernel_rfl) 29 #[.pointer (some ⟨D, 0, none⟩)] (by kernel_rfl) (R := fun v w' => v = .bool false ∧ w = w') (((by have h8 := On_calls hH.out; rw [ho] at h8; exact h8 : Calls Try.prog 29 #[.pointer (some ⟨D, 0, none⟩)] w fun e w' => e = .returned (.bool false) ∧ w = w')).mono fun e w' h => ⟨_, h.1, rfl, h.2⟩) ?_
    rintro _ _ ⟨rfl, rfl⟩
    simp only [Act.put, List.setIfInBounds_toArray, List.set_cons_zero, List.set_cons_succ]
    refine wpList_nil ?_
    have hf : Hid (DiskI w D mb (d.fuse n)) := by
      have e8 : d.fuse n = d := by unfold DS.fuse; rw [if_pos ho]
      rw [e8]; exact hH
    clear hH ho hn'
    go_wp2_with fail
    refine bodyPost_fall (v := .tuple #[]) (by kernel_rfl) (by kernel_rfl) ?_
    exact ⟨rfl, hf.out, KpS.of (Below.refl _ _)⟩
  | false =>
    refine sl_run rfl (.pointer (some ⟨D, 0, none⟩)) w (by kernel_rfl) ?_
    simp only [Act.put, List.setIfInBounds_toArray, List.set_cons_zero, List.set_cons_succ]
    refine sg_call (by kernel_rfl) 29 #[.pointer (some ⟨D, 0, none⟩)] (by kernel_rfl) (R := fun v w' => v = .bool true ∧ w = w') (((by have h8 := On_calls hH.out; rw [ho] at h8; exact h8 : Calls Try.prog 29 #[.pointer (some ⟨D, 0, none⟩)] w fun e w' => e = .returned (.bool true) ∧ w = w')).mono fun e w' h => ⟨_, h.1, rfl, h.2⟩) ?_
    rintro _ _ ⟨rfl, rfl⟩
    simp only [Act.put, List.setIfInBounds_toArray, List.set_cons_zero, List.set_cons_succ]
    refine wpList_nil ?_
    go_upto_region 1 with fail
    refine wp_region_lit ?_
    refine sl_run rfl (.pointer (some ⟨D, 0, none⟩)) w (by kernel_rfl) ?_
    simp only [Act.put, List.setIfInBounds_toArray, List.set_cons_zero, List.set_cons_succ]
    refine sl_run rfl (.int .i64 n) w (by kernel_rfl) ?_
    simp only [Act.put, List.setIfInBounds_toArray, List.set_cons_zero, List.set_cons_succ]
    refine sl_run rfl (.int .i64 (max n (-1))) w (exec_maxI _ _ 3 rfl n (-1) (by kernel_rfl) (by kernel_rfl) w) ?_
    simp only [Act.put, List.setIfInBounds_toArray, List.set_cons_zero, List.set_cons_succ]
    refine sl_run rfl (.pointer (some ⟨D, 0, none⟩)) w (by kernel_rfl) ?_
    simp only [Act.put, List.setIfInBounds_toArray, List.set_cons_zero, List.set_cons_succ]
    refine sl_run rfl (.pointer (some ⟨D, 1, none⟩)) w (by kernel_rfl) ?_
    simp only [Act.put, List.setIfInBounds_toArray, List.set_cons_zero, List.set_cons_succ]
    refine sl_skipped (by kernel_rfl) (w.setCell ⟨D, 1, none⟩ (.int .i64 (max n (-1)))) ?he ?_
    case he => exact exec_store_cell 3 _ _ rfl D 1 (by kernel_rfl) (.int .i64 (max n (-1))) (by kernel_rfl) _ hH.out.c1 (hH.out.fr 1) (fun w => by kernel_rfl) rfl rfl
    simp only [Act.put, List.setIfInBounds_toArray, List.set_cons_zero, List.set_cons_succ]
    refine wpList_nil ?_
    have hf : Hid (DiskI (w.setCell ⟨D, 1, none⟩ (.int .i64 (max n (-1)))) D mb (d.fuse n)) := by
      have e8 : d.fuse n = ⟨d.L, max n (-1), d.off⟩ := by unfold DS.fuse; rw [if_neg (by rw [ho]; decide)]
      rw [e8]; exact hH.out.set1 _ (by omega) (by have := hn'.out; omega)
    have hk : Hid (KpS (TD D mb) w (w.setCell ⟨D, 1, none⟩ (.int .i64 (max n (-1))))) := kpD _ _ _ _ _
    generalize (w.setCell ⟨D, 1, none⟩ (.int .i64 (max n (-1)))) = w2 at hf hk ⊢
    clear hH ho hn'
    go_wp2_with fail
    refine bodyPost_fall (v := .tuple #[]) (by kernel_rfl) (by kernel_rfl) ?_
    exact ⟨rfl, hf.out, hk.out⟩
theorem New_calls (w : World) : Calls Try.prog 9 #[] w fun e w' => ∃ D mb, e = .returned (.pointer (some ⟨D, 0, none⟩)) ∧ DiskI w' D mb DS.new ∧ Below w.heap.size w w' ∧ w.heap.size ≤ D ∧ w.heap.size ≤ mb := by
  go_enter Try.func9, Try.ntmps9
  go_upto_region 1 with fail
  refine wp_region_lit ?_
  refine sg_run (by kernel_rfl) (.map (some w.heap.size)) (w.alloc (.map #[] 0)) (by kernel_rfl) ?_
  simp only [Act.put, List.setIfInBounds_toArray, List.set_cons_zero, List.set_cons_succ]
  refine sg_run (by kernel_rfl) (.agg #[.map (some w.heap.size), .int .i64 (-1), .bool false]) (w.alloc (.map #[] 0)) (by kernel_rfl) ?_
  simp only [Act.put, List.setIfInBounds_toArray, List.set_cons_zero, List.set_cons_succ]
  refine sg_run (by kernel_rfl) (.pointer (some ⟨(w.alloc (.map #[] 0)).heap.size, 0, none⟩)) ((w.alloc (.map #[] 0)).alloc (.cells #[.map (some w.heap.size), .int .i64 (-1), .bool false] 63)) (by kernel_rfl) ?_
  simp only [Act.put, List.setIfInBounds_toArray, List.set_cons_zero, List.set_cons_succ]
  have h1 := DM.made w
  have hb1 : Below w.heap.size w (w.alloc (.map #[] 0)) := (Below.refl _ _).alloc (Nat.le_refl _) _
  generalize (w.alloc (.map #[] 0)) = w1 at h1 hb1 ⊢
  have h2 : DM (w1.alloc (.cells #[.map (some w.heap.size), .int .i64 (-1), .bool false] 63)) w.heap.size [] := h1.kept ((MapKept.heap_alloc w1 _).2 _ h1.lt)
  have h3 : (w1.alloc (.cells #[.map (some w.heap.size), .int .i64 (-1), .bool false] 63)).heap[w1.heap.size]? = some (.cells #[.map (some w.heap.size), .int .i64 (-1), .bool false] 63 (0, 0)) := heap_alloc_new _ _
  have hb2 : Below w.heap.size w (w1.alloc (.cells #[.map (some w.heap.size), .int .i64 (-1), .bool false] 63)) := hb1.alloc hb1.size _
  have hs := hb1.size
  generalize (w1.alloc (.cells #[.map (some w.heap.size), .int .i64 (-1), .bool false] 63)) = w2 at h2 h3 hb2 ⊢
  generalize w1.heap.size = D at h3 hs ⊢
  have hmb : w.heap.size ≤ w.heap.size := Nat.le_refl _
  obtain ⟨mb, hm⟩ : ∃ mb, mb = w.heap.size := ⟨_, rfl⟩
  have hD : DiskI w2 D w.heap.size DS.new := ⟨h3, ⟨[], h2, rfl, fun p hp => (by cases hp)⟩, fun f hf => (by cases hf), by decide, by decide⟩
  have hF : Hid (DiskI w2 D w.heap.size DS.new ∧ Below w.heap.size w w2 ∧ w.heap.size ≤ D ∧ w.heap.size ≤ w.heap.size) := And.intro hD (And.intro hb2 (And.intro hs (Nat.le_refl _)))
  clear h1 hb1 h2 h3 hb2 hs hmb hD
  refine sl_run rfl (.pointer (some ⟨D, 0, none⟩)) w2 (by kernel_rfl) ?_
  simp only [Act.put, List.setIfInBounds_toArray, List.set_cons_zero, List.set_cons_succ]
  refine wpList_nil ?_
  go_wp2_with fail
  go_ret
  exact ⟨D, _, rfl, hF.out⟩
end Go.Proofs.Ytmdfgndjphhgnaa
