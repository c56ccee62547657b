/-
  Bindings: a list of values cloned; tuples that are alike.
-/
import Derived.Test.YtehgblnhhlgikaaBiSmall
namespace Go.Proofs.Ytehgblnhhlgikaa.Bi
open Go.RowKit
set_option linter.unusedVariables false
set_option linter.unusedSimpArgs false
set_option pp.maxSteps 50000
theorem clone2_calls (l : List V2) (A : Option Addr) (n c : Nat) (w : World) (hn : n = l.length) (hn9 : n ≤ 1000000) (hy : Rw 2 V2.c w (.slice A n c) l) :
    Calls Try.prog 29 #[.slice A n c] w fun e w' => ∃ v, e = .returned v ∧ w'.ownsRow w.heap.size 46 2 v l.length (flat V2.c l) ∧ Below w.heap.size w w' := by
  obtain ⟨i50, hi50, hz0, hz1, hz2⟩ := info_parts inf46
  cases A with
  | none =>
    have hl : l = [] ∧ n = 0 ∧ c = 0 := by
      rcases hy with ⟨A, c', h, h2, h3⟩ | ⟨g, o, c', h, _⟩
      · injection h with h4 h5 h6
        exact ⟨h2, h5, by rw [h6]; exact h3 h4.symm⟩
      · simp at h
    obtain ⟨rfl, rfl, rfl⟩ := hl
    have hq : ∀ w, (binOp .eql 25 (.slice none 0 0) (.slice none 0 0)).run Try.prog w = .ok (.bool true) w := fun w => by kernel_rfl
    clear hy hn hn9
    go_enter Try.func29, Try.ntmps29
    go_wp2_with fail
    go_ret
    exact ⟨_, rfl, World.ownsRow_nil _ _ _ _, Below.refl _ _⟩
  | some ad =>
    have hq : ∀ w, (binOp .eql 25 (.slice (some ad) n c) (.slice none 0 0)).run Try.prog w = .ok (.bool false) w := fun w => by kernel_rfl
    have hn' : Hid (n = l.length) := hn
    clear hn
    go_enter Try.func29, Try.ntmps29
    go_upto_region 3 with fail
    refine wp_region_lit ?_
    refine sl_run rfl (.slice (some ⟨w.heap.size, 0, none⟩) 0 0) (w.alloc (.cells #[] 46)) (by kernel_rfl) ?_
    refine sl_run rfl (.slice (some ad) n c) (w.alloc (.cells #[] 46)) (by kernel_rfl) ?_
    have hown0 : (w.alloc (.cells #[] 46)).ownsRow w.heap.size 46 2 (.slice (some ⟨w.heap.size, 0, none⟩) 0 0) ([] : List V2).length (flat V2.c []) := World.ownsRow_made _ _ 0 (Nat.le_refl _) (by decide) rfl
    have hB0 : Below w.heap.size w (w.alloc (.cells #[] 46)) := (Below.refl _ _).alloc (Nat.le_refl _) _
    refine appendRw 25 46 24 i50 z2 Try.underlying25 hi50 hz0 hz1 hz2 rfl (by decide) v2_size v2_ones rfl _ _ rfl w.heap.size _ [] l (by kernel_rfl) hown0 _ (by kernel_rfl) (hy.below hB0) (by have := hn'.out; simp; omega) (by have := hn'.out; simp; omega) hB0.size ?_
    intro v5 w5 hown5 hgr5
    refine sl_run rfl v5 w5 (by kernel_rfl) ?_
    refine wpList_nil ?_
    simp only [Act.put, List.setIfInBounds_toArray, List.set_cons_zero, List.set_cons_succ]
    have hB5 : Below w.heap.size w w5 := Below.grown hB0 hgr5 hB0.size (fun q hq => (hown0.lt q hq).1)
    rw [List.nil_append] at hown5
    go_wp2_with fail
    go_ret
    exact ⟨_, rfl, hown5, hB5⟩
theorem cmpV_self (v : V2) : cmpV v v = 0 := by unfold cmpV cmpN; rw [cmpL_self]; simp
set_option maxRecDepth 100000 in
set_option maxHeartbeats 1000000 in
/-- Two tuples that are one stand alike. -/
theorem order_calls (p : ByteArray) (l : List V2) (A A2 : Option Addr) (n c c2 : Nat) (hp : p.size ≤ 9223372036854775807) (hl : ∀ v ∈ l, v.ok) (hn : n = l.length) (hn9 : n ≤ 4000000) (w : World) (hy : Rw 2 V2.c w (.slice A n c) l) (hz : Rw 2 V2.c w (.slice A2 n c2) l) :
    Calls Try.prog 28 #[.agg #[.string p, .slice A n c], .agg #[.string p, .slice A2 n c2]] w fun e w' => e = .returned (.int .i64 0) ∧ Below w.heap.size w w' := by
  have hn' : Hid (n = l.length) := hn
  have hlH : Hid (∀ v ∈ l, v.ok) := hl
  have hyH : Hid (Rw 2 V2.c w (.slice A n c) l) := hy
  have hzH : Hid (Rw 2 V2.c w (.slice A2 n c2) l) := hz
  clear hn hy hz hl
  go_enter Try.func28, Try.ntmps28
  go_upto_region 1 with fail
  generalize hW : World.alloc _ _ = W
  have hW0 : W.heap[w.heap.size]? = some (.cells #[.string p, .slice A n c] 27 (0, 0)) := by rw [← hW]; exact heap_alloc2_old w _ _
  have hW1 : W.heap[w.heap.size + 1]? = some (.cells #[.string p, .slice A2 n c2] 27 (0, 0)) := by rw [← hW]; exact heap_alloc2_new w _ _
  have hWB : Below w.heap.size w W := by rw [← hW]; exact ((Below.refl _ _).alloc (Nat.le_refl _) _).alloc (by simp) _
  have hWs : W.heap.size = w.heap.size + 2 := by rw [← hW]; simp
  clear hW
  refine wp_region_lit ?_
  refine sl_run rfl (.pointer (some ⟨w.heap.size, 0, none⟩)) W (by kernel_rfl) ?_
  refine sl_run rfl (.string p) W (exec_load_cell 9 W _ rfl ⟨w.heap.size, 0, none⟩ (by kernel_rfl) _ (by rw [cell_of_row _ _ _ _ _ _ hW0]; rfl) (fun _ => by kernel_rfl)) ?_
  refine sl_run rfl (.pointer (some ⟨w.heap.size + 1, 0, none⟩)) W (by kernel_rfl) ?_
  refine sl_run rfl (.string p) W (exec_load_cell 9 W _ rfl ⟨w.heap.size + 1, 0, none⟩ (by kernel_rfl) _ (by rw [cell_of_row _ _ _ _ _ _ hW1]; rfl) (fun _ => by kernel_rfl)) ?_
  simp only [Act.put, List.setIfInBounds_toArray, List.set_cons_zero, List.set_cons_succ]
  refine sl_call rfl 37 #[.string p, .string p] (by kernel_rfl) (R := fun v w' => v = .int .i64 0 ∧ Below W.heap.size W w') ((bytes_calls p p hp hp W).mono fun e w' h => ⟨_, h.1, by rw [cmpL_self], h.2⟩) ?_
  rintro _ w5 ⟨rfl, hB5⟩
  refine sl_run rfl (.int .i64 0) w5 (by kernel_rfl) ?_
  refine wpList_nil ?_
  simp only [Act.put, List.setIfInBounds_toArray, List.set_cons_zero, List.set_cons_succ]
  have h50 : w5.heap[w.heap.size]? = some (.cells #[.string p, .slice A n c] 27 (0, 0)) := by rw [hB5.block _ (by omega)]; exact hW0
  have h51 : w5.heap[w.heap.size + 1]? = some (.cells #[.string p, .slice A2 n c2] 27 (0, 0)) := by rw [hB5.block _ (by omega)]; exact hW1
  have d0 : w5.cell? ⟨w.heap.size, 1, none⟩ = some (.slice A n c) := by rw [cell_of_row _ _ _ _ _ _ h50]; rfl
  have d1 : w5.cell? ⟨w.heap.size + 1, 1, none⟩ = some (.slice A2 n c2) := by rw [cell_of_row _ _ _ _ _ _ h51]; rfl
  have hs5 : w.heap.size + 2 ≤ w5.heap.size := by have := hB5.size; omega
  have hB6 : Hid (Below w.heap.size w w5) := hWB.trans (hB5.mono (by omega))
  have hI0 : ¬ (n : Int) < (n : Int) := by omega
  have h50' : Hid (w5.heap[w.heap.size]? = some (.cells #[.string p, .slice A n c] 27 (0, 0))) := h50
  have h51' : Hid (w5.heap[w.heap.size + 1]? = some (.cells #[.string p, .slice A2 n c2] 27 (0, 0))) := h51
  clear hW0 hW1 hWB hWs hB5 h50 h51
  go_wp2_with fail
  go_loopw [6] (fun u wr => ∃ i : Nat, i ≤ n ∧ u = .int .i64 i ∧ Hid (Below w5.heap.size w5 wr)) (fun u _ => n - (intOf u).toNat)
  case atStart => exact ⟨0, by omega, rfl, Below.refl _ _⟩
  case round =>
    clear d0 d1
    obtain ⟨i, hi, rfl, hB⟩ := hrel
    have d0 : wr.cell? ⟨w.heap.size, 1, none⟩ = some (.slice A n c) := by rw [hB.out.cell (by show w.heap.size < _; omega), cell_of_row _ _ _ _ _ _ h50'.out]; rfl
    have d1 : wr.cell? ⟨w.heap.size + 1, 1, none⟩ = some (.slice A2 n c2) := by rw [hB.out.cell (by show w.heap.size + 1 < _; omega), cell_of_row _ _ _ _ _ _ h51'.out]; rfl
    by_cases hlt : i < n
    · have hil : i < l.length := by rw [← hn'.out]; exact hlt
      have hI : (i : Int) < (n : Int) := by omega
      obtain ⟨g, o, rfl, hnc, hg, hra⟩ := hyH.out.elem i hil
      obtain ⟨g2, o2, rfl, hnc2, hg2, hra2⟩ := hzH.out.elem i hil
      obtain ⟨e, he⟩ : ∃ e, e = l.getD i default := ⟨_, rfl⟩
      have hok : e.ok := by rw [he]; exact hlH.out _ (by rw [List.getD_eq_getElem?_getD, List.getElem?_eq_getElem hil]; exact List.getElem_mem hil)
      rw [← he] at hra hra2
      have hBw : Below w.heap.size w wr := hB6.out.trans (hB.out.mono (by omega))
      have hra' := range_below hra hBw hg
      have hra2' := range_below hra2 hBw hg2
      have hws := Below.size hB.out
      have hww := hBw.size
      clear he hil hra hra2
      go_upto_region 11 with fail
      have hd0 := d0
      have hd1 := d1
      refine wp_region_quiet (C := Below wr.heap.size wr) (by kernel_rfl) (by kernel_rfl) (Below.refl _ _).drew ?_
      refine quiet_run rfl (.pointer (some ⟨w.heap.size, 1, none⟩)) (fun _ _ => by kernel_rfl) ?_
      simp only [Act.put, List.setIfInBounds_toArray, List.set_cons_zero, List.set_cons_succ]
      refine quiet_run rfl (.slice (some ⟨g, o, none⟩) n c) (fun w' h => exec_load_cell 25 w' _ rfl ⟨w.heap.size, 1, none⟩ (by kernel_rfl) _ (by rw [h.cell (by show w.heap.size < _; omega)]; exact hd0) (fun _ => by kernel_rfl)) ?_
      simp only [Act.put, List.setIfInBounds_toArray, List.set_cons_zero, List.set_cons_succ]
      refine quiet_run rfl (.int .i64 i) (fun _ _ => by kernel_rfl) ?_
      simp only [Act.put, List.setIfInBounds_toArray, List.set_cons_zero, List.set_cons_succ]
      refine quiet_run rfl (.pointer (some ⟨g, o + i * 2, none⟩)) (fun w' _ => exec_index un25 sz25 _ _ rfl g o n c i (by kernel_rfl) (by kernel_rfl) hlt w') ?_
      simp only [Act.put, List.setIfInBounds_toArray, List.set_cons_zero, List.set_cons_succ]
      refine quiet_run rfl (.agg e.c) (fun w' h => exec_load_mid 46 w' _ rfl g (o + i * 2) (by kernel_rfl) e.c.toList _ (range_below hra' h (by omega)) Try.underlying46 rfl (by kernel_rfl)) ?_
      simp only [Act.put, List.setIfInBounds_toArray, List.set_cons_zero, List.set_cons_succ]
      refine quiet_run rfl (.pointer (some ⟨w.heap.size + 1, 1, none⟩)) (fun _ _ => by kernel_rfl) ?_
      simp only [Act.put, List.setIfInBounds_toArray, List.set_cons_zero, List.set_cons_succ]
      refine quiet_run rfl (.slice (some ⟨g2, o2, none⟩) n c2) (fun w' h => exec_load_cell 25 w' _ rfl ⟨w.heap.size + 1, 1, none⟩ (by kernel_rfl) _ (by rw [h.cell (by show w.heap.size + 1 < _; omega)]; exact hd1) (fun _ => by kernel_rfl)) ?_
      simp only [Act.put, List.setIfInBounds_toArray, List.set_cons_zero, List.set_cons_succ]
      refine quiet_run rfl (.int .i64 i) (fun _ _ => by kernel_rfl) ?_
      simp only [Act.put, List.setIfInBounds_toArray, List.set_cons_zero, List.set_cons_succ]
      refine quiet_run rfl (.pointer (some ⟨g2, o2 + i * 2, none⟩)) (fun w' _ => exec_index un25 sz25 _ _ rfl g2 o2 n c2 i (by kernel_rfl) (by kernel_rfl) hlt w') ?_
      simp only [Act.put, List.setIfInBounds_toArray, List.set_cons_zero, List.set_cons_succ]
      refine quiet_run rfl (.agg e.c) (fun w' h => exec_load_mid 46 w' _ rfl g2 (o2 + i * 2) (by kernel_rfl) e.c.toList _ (range_below hra2' h (by omega)) Try.underlying46 rfl (by kernel_rfl)) ?_
      simp only [Act.put, List.setIfInBounds_toArray, List.set_cons_zero, List.set_cons_succ]
      refine quiet_fn rfl 27 #[.agg e.c, .agg e.c] (fun _ _ => by kernel_rfl) (.int .i64 0) (fun w' h => (rcompare_calls e e hok hok w').mono fun en w2 h2 => ⟨by rw [h2.1, cmpV_self], h.trans (h2.2.mono h.size)⟩) ?_
      simp only [Act.put, List.setIfInBounds_toArray, List.set_cons_zero, List.set_cons_succ]
      refine quiet_run rfl (.int .i64 0) (fun _ _ => by kernel_rfl) ?_
      simp only [Act.put, List.setIfInBounds_toArray, List.set_cons_zero, List.set_cons_succ]
      refine wpQuiet_nil ?_
      intro w7 hB7
      have hB8 : Hid (Below w5.heap.size w5 w7) := hB.out.trans (hB7.mono hws)
      clear hra' hra2' hB hB7 hBw d0 d1 hd0 hd1
      go_wp2_with fail
      go_roundw
      case rel => exact ⟨i + 1, by omega, by go_num, hB8⟩
      case measure => simp [intOf]; omega
    · have hI : ¬ (i : Int) < (n : Int) := by omega
      go_wp2_with fail
      go_ret
      exact ⟨rfl, hB6.out.trans (hB.out.mono (by omega))⟩
end Go.Proofs.Ytehgblnhhlgikaa.Bi
