/-
  The law on a disk that isn't there, walked.
-/
import Derived.Test.YtmdfgndjphhgnaaDi11
import Derived.Test.YtmdfgndjphhgnaaDi12
namespace Go.Proofs.Ytmdfgndjphhgnaa
open Go.RowKit
set_option linter.unusedVariables false
set_option linter.unusedSimpArgs false
set_option maxRecDepth 100000 in
set_option maxHeartbeats 2000000 in
theorem lnil_calls (kd n : Int) (s t : ByteArray) (A : Option Addr) (m c : Nat) (w : World) : Calls Try.prog 7 #[.agg #[.int .i64 kd, .int .i64 n, .string s, .string t, .slice A m c]] w fun e w' => e = .returned (.bool true) ∧ Below w.heap.size w w' := by
  go_enter Try.func7, Try.ntmps7
  go_upto_region 1 with fail
  have h0X : (w.alloc (.cells #[.int .i64 kd, .int .i64 n, .string s, .string t, .slice A m c] 32)).heap[w.heap.size]? = some (.cells #[.int .i64 kd, .int .i64 n, .string s, .string t, .slice A m c] 32 (0, 0)) := (heap_at w _ w.heap.size rfl)
  have hB0 : Below w.heap.size w (w.alloc (.cells #[.int .i64 kd, .int .i64 n, .string s, .string t, .slice A m c] 32)) := ((Below.refl _ _).alloc (by exact Nat.le_refl _) _)
  generalize (w.alloc (.cells #[.int .i64 kd, .int .i64 n, .string s, .string t, .slice A m c] 32)) = W at hB0 h0X ⊢
  obtain ⟨X, hX⟩ : ∃ B, B = w.heap.size := ⟨_, rfl⟩
  rw [← hX] at h0X ⊢
  have hXW : Hid (W.heap[X]? = some (.cells #[.int .i64 kd, .int .i64 n, .string s, .string t, .slice A m c] 32 (0, 0))) := h0X
  have hBW : Hid (Below w.heap.size w W) := hB0
  clear hB0 h0X hX
  refine wp_region_lit ?_
  refine sg_call (by kernel_rfl) 10 #[] (by kernel_rfl) (R := fun v w' => v = .bool true ∧ Below W.heap.size W w') ((fixed_calls W).mono fun e w' h => ⟨_, h.1, rfl, h.2⟩) ?_
  rintro _ w2 ⟨rfl, hb⟩
  simp only [Act.put, List.setIfInBounds_toArray, List.set_cons_zero, List.set_cons_succ]
  have hBw2 : Hid (Below w.heap.size w w2) := (hBW.out).trans ((hb).mono (hBW.out).size)
  have hXw2 : Hid (w2.heap[X]? = some (.cells #[.int .i64 kd, .int .i64 n, .string s, .string t, .slice A m c] 32 (0, 0))) := heap_kept hXW.out hb
  clear hBW hXW
  clear hb
  refine sl_run rfl (.bool false) w2 (by kernel_rfl) ?_
  simp only [Act.put, List.setIfInBounds_toArray, List.set_cons_zero, List.set_cons_succ]
  refine wpList_nil ?_
  go_upto_region 4 with fail
  refine wp_region_lit ?_
  refine sl_run rfl (.pointer none) w2 (by kernel_rfl) ?_
  simp only [Act.put, List.setIfInBounds_toArray, List.set_cons_zero, List.set_cons_succ]
  refine sl_run rfl (.pointer (some ⟨X, 1, none⟩)) w2 (by kernel_rfl) ?_
  simp only [Act.put, List.setIfInBounds_toArray, List.set_cons_zero, List.set_cons_succ]
  refine sl_run rfl (.int .i64 n) w2 (exec_load_cell 3 w2 _ rfl ⟨X, 1, none⟩ (by kernel_rfl) _ (by rw [cell_of_row _ _ _ _ _ _ hXw2.out]; rfl) (fun _ => by kernel_rfl)) ?_
  simp only [Act.put, List.setIfInBounds_toArray, List.set_cons_zero, List.set_cons_succ]
  refine sg_call (by kernel_rfl) 24 #[.pointer none, .int .i64 n] (by kernel_rfl) (R := fun v w' => v = .tuple #[] ∧ w2 = w') ((Fuse_nil n w2).mono fun e w' h => ⟨_, h.1, rfl, h.2⟩) ?_
  rintro _ _ ⟨rfl, rfl⟩
  simp only [Act.put, List.setIfInBounds_toArray, List.set_cons_zero, List.set_cons_succ]
  refine wpList_nil ?_
  go_upto_region 5 with fail
  refine wp_region_lit ?_
  refine sl_run rfl (.pointer none) w2 (by kernel_rfl) ?_
  simp only [Act.put, List.setIfInBounds_toArray, List.set_cons_zero, List.set_cons_succ]
  refine sl_run rfl (.pointer (some ⟨X, 1, none⟩)) w2 (by kernel_rfl) ?_
  simp only [Act.put, List.setIfInBounds_toArray, List.set_cons_zero, List.set_cons_succ]
  refine sl_run rfl (.int .i64 n) w2 (exec_load_cell 3 w2 _ rfl ⟨X, 1, none⟩ (by kernel_rfl) _ (by rw [cell_of_row _ _ _ _ _ _ hXw2.out]; rfl) (fun _ => by kernel_rfl)) ?_
  simp only [Act.put, List.setIfInBounds_toArray, List.set_cons_zero, List.set_cons_succ]
  refine sg_call (by kernel_rfl) 26 #[.pointer none, .int .i64 n] (by kernel_rfl) (R := fun v w' => v = .tuple #[] ∧ w2 = w') ((Crash_nil n w2).mono fun e w' h => ⟨_, h.1, rfl, h.2⟩) ?_
  rintro _ _ ⟨rfl, rfl⟩
  simp only [Act.put, List.setIfInBounds_toArray, List.set_cons_zero, List.set_cons_succ]
  refine wpList_nil ?_
  go_upto_region 6 with fail
  refine wp_region_lit ?_
  refine sl_run rfl (.pointer none) w2 (by kernel_rfl) ?_
  simp only [Act.put, List.setIfInBounds_toArray, List.set_cons_zero, List.set_cons_succ]
  refine sl_run rfl (.pointer (some ⟨X, 2, none⟩)) w2 (by kernel_rfl) ?_
  simp only [Act.put, List.setIfInBounds_toArray, List.set_cons_zero, List.set_cons_succ]
  refine sl_run rfl (.string s) w2 (exec_load_cell 9 w2 _ rfl ⟨X, 2, none⟩ (by kernel_rfl) _ (by rw [cell_of_row _ _ _ _ _ _ hXw2.out]; rfl) (fun _ => by kernel_rfl)) ?_
  simp only [Act.put, List.setIfInBounds_toArray, List.set_cons_zero, List.set_cons_succ]
  refine sg_call (by kernel_rfl) 22 #[.pointer none, .string s] (by kernel_rfl) (R := fun v w' => v = .tuple #[.slice none 0 0, .int .i64 20] ∧ Below w2.heap.size w2 w') ((Read_nil s w2).mono fun e w' h => ⟨_, h.1, rfl, h.2⟩) ?_
  rintro _ w3 ⟨rfl, hb⟩
  simp only [Act.put, List.setIfInBounds_toArray, List.set_cons_zero, List.set_cons_succ]
  have hBw3 : Hid (Below w.heap.size w w3) := (hBw2.out).trans ((hb).mono (hBw2.out).size)
  have hXw3 : Hid (w3.heap[X]? = some (.cells #[.int .i64 kd, .int .i64 n, .string s, .string t, .slice A m c] 32 (0, 0))) := heap_kept hXw2.out hb
  clear hBw2 hXw2
  clear hb
  refine sl_run rfl (.tuple #[.slice none 0 0, .int .i64 20]) w3 (by kernel_rfl) ?_
  simp only [Act.put, List.setIfInBounds_toArray, List.set_cons_zero, List.set_cons_succ]
  refine sl_run rfl (.slice none 0 0) w3 (by kernel_rfl) ?_
  simp only [Act.put, List.setIfInBounds_toArray, List.set_cons_zero, List.set_cons_succ]
  refine sl_run rfl (.int .i64 20) w3 (by kernel_rfl) ?_
  simp only [Act.put, List.setIfInBounds_toArray, List.set_cons_zero, List.set_cons_succ]
  refine sl_run rfl (.slice none 0 0) w3 (by kernel_rfl) ?_
  simp only [Act.put, List.setIfInBounds_toArray, List.set_cons_zero, List.set_cons_succ]
  refine sl_run rfl (.int .i64 20) w3 (by kernel_rfl) ?_
  simp only [Act.put, List.setIfInBounds_toArray, List.set_cons_zero, List.set_cons_succ]
  refine wpList_nil ?_
  go_upto_region 7 with fail
  refine wp_region_lit ?_
  refine sl_run rfl (.pointer none) w3 (by kernel_rfl) ?_
  simp only [Act.put, List.setIfInBounds_toArray, List.set_cons_zero, List.set_cons_succ]
  refine sg_call (by kernel_rfl) 29 #[.pointer none] (by kernel_rfl) (R := fun v w' => v = .bool false ∧ w3 = w') ((On_nil w3).mono fun e w' h => ⟨_, h.1, rfl, h.2⟩) ?_
  rintro _ _ ⟨rfl, rfl⟩
  simp only [Act.put, List.setIfInBounds_toArray, List.set_cons_zero, List.set_cons_succ]
  refine sl_run rfl (.bool true) w3 (by kernel_rfl) ?_
  simp only [Act.put, List.setIfInBounds_toArray, List.set_cons_zero, List.set_cons_succ]
  refine sl_run rfl (.bool true) w3 (by kernel_rfl) ?_
  simp only [Act.put, List.setIfInBounds_toArray, List.set_cons_zero, List.set_cons_succ]
  refine sg_run (by kernel_rfl) (.pointer none) w3 (by kernel_rfl) ?_
  simp only [Act.put, List.setIfInBounds_toArray, List.set_cons_zero, List.set_cons_succ]
  refine sg_call (by kernel_rfl) 30 #[.pointer none] (by kernel_rfl) (R := fun v w' => v = .int .i64 0 ∧ w3 = w') ((Left_nil w3).mono fun e w' h => ⟨_, h.1, rfl, h.2⟩) ?_
  rintro _ _ ⟨rfl, rfl⟩
  simp only [Act.put, List.setIfInBounds_toArray, List.set_cons_zero, List.set_cons_succ]
  refine sg_run (by kernel_rfl) (.bool true) w3 (by kernel_rfl) ?_
  simp only [Act.put, List.setIfInBounds_toArray, List.set_cons_zero, List.set_cons_succ]
  refine sl_run rfl (.bool true) w3 (by kernel_rfl) ?_
  simp only [Act.put, List.setIfInBounds_toArray, List.set_cons_zero, List.set_cons_succ]
  refine sl_run rfl (.bool true) w3 (by kernel_rfl) ?_
  simp only [Act.put, List.setIfInBounds_toArray, List.set_cons_zero, List.set_cons_succ]
  refine sg_run (by kernel_rfl) (.pointer none) w3 (by kernel_rfl) ?_
  simp only [Act.put, List.setIfInBounds_toArray, List.set_cons_zero, List.set_cons_succ]
  refine sg_call (by kernel_rfl) 31 #[.pointer none] (by kernel_rfl) (R := fun v w' => v = .slice none 0 0 ∧ w3 = w') ((Files_nil w3).mono fun e w' h => ⟨_, h.1, rfl, h.2⟩) ?_
  rintro _ _ ⟨rfl, rfl⟩
  simp only [Act.put, List.setIfInBounds_toArray, List.set_cons_zero, List.set_cons_succ]
  refine sg_run (by kernel_rfl) (.int .i64 0) w3 (by kernel_rfl) ?_
  simp only [Act.put, List.setIfInBounds_toArray, List.set_cons_zero, List.set_cons_succ]
  refine sg_run (by kernel_rfl) (.bool true) w3 (by kernel_rfl) ?_
  simp only [Act.put, List.setIfInBounds_toArray, List.set_cons_zero, List.set_cons_succ]
  refine sl_run rfl (.bool true) w3 (by kernel_rfl) ?_
  simp only [Act.put, List.setIfInBounds_toArray, List.set_cons_zero, List.set_cons_succ]
  refine sl_run rfl (.bool true) w3 (by kernel_rfl) ?_
  simp only [Act.put, List.setIfInBounds_toArray, List.set_cons_zero, List.set_cons_succ]
  refine sg_run (by kernel_rfl) (.int .i64 20) w3 (by kernel_rfl) ?_
  simp only [Act.put, List.setIfInBounds_toArray, List.set_cons_zero, List.set_cons_succ]
  refine sg_run (by kernel_rfl) (.bool true) w3 (by kernel_rfl) ?_
  simp only [Act.put, List.setIfInBounds_toArray, List.set_cons_zero, List.set_cons_succ]
  refine sl_run rfl (.bool true) w3 (by kernel_rfl) ?_
  simp only [Act.put, List.setIfInBounds_toArray, List.set_cons_zero, List.set_cons_succ]
  refine sl_run rfl (.bool true) w3 (by kernel_rfl) ?_
  simp only [Act.put, List.setIfInBounds_toArray, List.set_cons_zero, List.set_cons_succ]
  refine sg_run (by kernel_rfl) (.pointer none) w3 (by kernel_rfl) ?_
  simp only [Act.put, List.setIfInBounds_toArray, List.set_cons_zero, List.set_cons_succ]
  refine sg_run (by kernel_rfl) (.pointer (some ⟨X, 2, none⟩)) w3 (by kernel_rfl) ?_
  simp only [Act.put, List.setIfInBounds_toArray, List.set_cons_zero, List.set_cons_succ]
  refine sg_run (by kernel_rfl) (.string s) w3 (exec_load_cell 9 w3 _ rfl ⟨X, 2, none⟩ (by kernel_rfl) _ (by rw [cell_of_row _ _ _ _ _ _ hXw3.out]; rfl) (fun _ => by kernel_rfl)) ?_
  simp only [Act.put, List.setIfInBounds_toArray, List.set_cons_zero, List.set_cons_succ]
  refine sg_run (by kernel_rfl) (.pointer (some ⟨X, 4, none⟩)) w3 (by kernel_rfl) ?_
  simp only [Act.put, List.setIfInBounds_toArray, List.set_cons_zero, List.set_cons_succ]
  refine sg_run (by kernel_rfl) (.slice A m c) w3 (exec_load_cell 30 w3 _ rfl ⟨X, 4, none⟩ (by kernel_rfl) _ (by rw [cell_of_row _ _ _ _ _ _ hXw3.out]; rfl) (fun _ => by kernel_rfl)) ?_
  simp only [Act.put, List.setIfInBounds_toArray, List.set_cons_zero, List.set_cons_succ]
  refine sg_call (by kernel_rfl) 12 #[.pointer none, .string s, .slice A m c] (by kernel_rfl) (R := fun v w' => v = .int .i64 20 ∧ Below w3.heap.size w3 w') ((Append_nil s (.slice A m c) w3).mono fun e w' h => ⟨_, h.1, rfl, h.2⟩) ?_
  rintro _ w4 ⟨rfl, hb⟩
  simp only [Act.put, List.setIfInBounds_toArray, List.set_cons_zero, List.set_cons_succ]
  have hBw4 : Hid (Below w.heap.size w w4) := (hBw3.out).trans ((hb).mono (hBw3.out).size)
  have hXw4 : Hid (w4.heap[X]? = some (.cells #[.int .i64 kd, .int .i64 n, .string s, .string t, .slice A m c] 32 (0, 0))) := heap_kept hXw3.out hb
  clear hBw3 hXw3
  clear hb
  refine sg_run (by kernel_rfl) (.bool true) w4 (by kernel_rfl) ?_
  simp only [Act.put, List.setIfInBounds_toArray, List.set_cons_zero, List.set_cons_succ]
  refine sl_run rfl (.bool true) w4 (by kernel_rfl) ?_
  simp only [Act.put, List.setIfInBounds_toArray, List.set_cons_zero, List.set_cons_succ]
  refine sl_run rfl (.bool true) w4 (by kernel_rfl) ?_
  simp only [Act.put, List.setIfInBounds_toArray, List.set_cons_zero, List.set_cons_succ]
  refine sg_run (by kernel_rfl) (.pointer none) w4 (by kernel_rfl) ?_
  simp only [Act.put, List.setIfInBounds_toArray, List.set_cons_zero, List.set_cons_succ]
  refine sg_run (by kernel_rfl) (.pointer (some ⟨X, 2, none⟩)) w4 (by kernel_rfl) ?_
  simp only [Act.put, List.setIfInBounds_toArray, List.set_cons_zero, List.set_cons_succ]
  refine sg_run (by kernel_rfl) (.string s) w4 (exec_load_cell 9 w4 _ rfl ⟨X, 2, none⟩ (by kernel_rfl) _ (by rw [cell_of_row _ _ _ _ _ _ hXw4.out]; rfl) (fun _ => by kernel_rfl)) ?_
  simp only [Act.put, List.setIfInBounds_toArray, List.set_cons_zero, List.set_cons_succ]
  refine sg_call (by kernel_rfl) 14 #[.pointer none, .string s] (by kernel_rfl) (R := fun v w' => v = .int .i64 20 ∧ Below w4.heap.size w4 w') ((Sync_nil s w4).mono fun e w' h => ⟨_, h.1, rfl, h.2⟩) ?_
  rintro _ w5 ⟨rfl, hb⟩
  simp only [Act.put, List.setIfInBounds_toArray, List.set_cons_zero, List.set_cons_succ]
  have hBw5 : Hid (Below w.heap.size w w5) := (hBw4.out).trans ((hb).mono (hBw4.out).size)
  have hXw5 : Hid (w5.heap[X]? = some (.cells #[.int .i64 kd, .int .i64 n, .string s, .string t, .slice A m c] 32 (0, 0))) := heap_kept hXw4.out hb
  clear hBw4 hXw4
  clear hb
  refine sg_run (by kernel_rfl) (.bool true) w5 (by kernel_rfl) ?_
  simp only [Act.put, List.setIfInBounds_toArray, List.set_cons_zero, List.set_cons_succ]
  refine sl_run rfl (.bool true) w5 (by kernel_rfl) ?_
  simp only [Act.put, List.setIfInBounds_toArray, List.set_cons_zero, List.set_cons_succ]
  refine sl_run rfl (.bool true) w5 (by kernel_rfl) ?_
  simp only [Act.put, List.setIfInBounds_toArray, List.set_cons_zero, List.set_cons_succ]
  refine sg_run (by kernel_rfl) (.pointer none) w5 (by kernel_rfl) ?_
  simp only [Act.put, List.setIfInBounds_toArray, List.set_cons_zero, List.set_cons_succ]
  refine sg_run (by kernel_rfl) (.pointer (some ⟨X, 2, none⟩)) w5 (by kernel_rfl) ?_
  simp only [Act.put, List.setIfInBounds_toArray, List.set_cons_zero, List.set_cons_succ]
  refine sg_run (by kernel_rfl) (.string s) w5 (exec_load_cell 9 w5 _ rfl ⟨X, 2, none⟩ (by kernel_rfl) _ (by rw [cell_of_row _ _ _ _ _ _ hXw5.out]; rfl) (fun _ => by kernel_rfl)) ?_
  simp only [Act.put, List.setIfInBounds_toArray, List.set_cons_zero, List.set_cons_succ]
  refine sg_run (by kernel_rfl) (.pointer (some ⟨X, 3, none⟩)) w5 (by kernel_rfl) ?_
  simp only [Act.put, List.setIfInBounds_toArray, List.set_cons_zero, List.set_cons_succ]
  refine sg_run (by kernel_rfl) (.string t) w5 (exec_load_cell 9 w5 _ rfl ⟨X, 3, none⟩ (by kernel_rfl) _ (by rw [cell_of_row _ _ _ _ _ _ hXw5.out]; rfl) (fun _ => by kernel_rfl)) ?_
  simp only [Act.put, List.setIfInBounds_toArray, List.set_cons_zero, List.set_cons_succ]
  refine sg_call (by kernel_rfl) 16 #[.pointer none, .string s, .string t] (by kernel_rfl) (R := fun v w' => v = .int .i64 20 ∧ Below w5.heap.size w5 w') ((Rename_nil s t w5).mono fun e w' h => ⟨_, h.1, rfl, h.2⟩) ?_
  rintro _ w6 ⟨rfl, hb⟩
  simp only [Act.put, List.setIfInBounds_toArray, List.set_cons_zero, List.set_cons_succ]
  have hBw6 : Hid (Below w.heap.size w w6) := (hBw5.out).trans ((hb).mono (hBw5.out).size)
  have hXw6 : Hid (w6.heap[X]? = some (.cells #[.int .i64 kd, .int .i64 n, .string s, .string t, .slice A m c] 32 (0, 0))) := heap_kept hXw5.out hb
  clear hBw5 hXw5
  clear hb
  refine sg_run (by kernel_rfl) (.bool true) w6 (by kernel_rfl) ?_
  simp only [Act.put, List.setIfInBounds_toArray, List.set_cons_zero, List.set_cons_succ]
  refine sl_run rfl (.bool true) w6 (by kernel_rfl) ?_
  simp only [Act.put, List.setIfInBounds_toArray, List.set_cons_zero, List.set_cons_succ]
  refine sl_run rfl (.bool true) w6 (by kernel_rfl) ?_
  simp only [Act.put, List.setIfInBounds_toArray, List.set_cons_zero, List.set_cons_succ]
  refine sg_run (by kernel_rfl) (.pointer none) w6 (by kernel_rfl) ?_
  simp only [Act.put, List.setIfInBounds_toArray, List.set_cons_zero, List.set_cons_succ]
  refine sg_run (by kernel_rfl) (.pointer (some ⟨X, 2, none⟩)) w6 (by kernel_rfl) ?_
  simp only [Act.put, List.setIfInBounds_toArray, List.set_cons_zero, List.set_cons_succ]
  refine sg_run (by kernel_rfl) (.string s) w6 (exec_load_cell 9 w6 _ rfl ⟨X, 2, none⟩ (by kernel_rfl) _ (by rw [cell_of_row _ _ _ _ _ _ hXw6.out]; rfl) (fun _ => by kernel_rfl)) ?_
  simp only [Act.put, List.setIfInBounds_toArray, List.set_cons_zero, List.set_cons_succ]
  refine sg_run (by kernel_rfl) (.pointer (some ⟨X, 1, none⟩)) w6 (by kernel_rfl) ?_
  simp only [Act.put, List.setIfInBounds_toArray, List.set_cons_zero, List.set_cons_succ]
  refine sg_run (by kernel_rfl) (.int .i64 n) w6 (exec_load_cell 3 w6 _ rfl ⟨X, 1, none⟩ (by kernel_rfl) _ (by rw [cell_of_row _ _ _ _ _ _ hXw6.out]; rfl) (fun _ => by kernel_rfl)) ?_
  simp only [Act.put, List.setIfInBounds_toArray, List.set_cons_zero, List.set_cons_succ]
  refine sg_call (by kernel_rfl) 18 #[.pointer none, .string s, .int .i64 n] (by kernel_rfl) (R := fun v w' => v = .int .i64 20 ∧ Below w6.heap.size w6 w') ((Cut_nil s n w6).mono fun e w' h => ⟨_, h.1, rfl, h.2⟩) ?_
  rintro _ w7 ⟨rfl, hb⟩
  simp only [Act.put, List.setIfInBounds_toArray, List.set_cons_zero, List.set_cons_succ]
  have hBw7 : Hid (Below w.heap.size w w7) := (hBw6.out).trans ((hb).mono (hBw6.out).size)
  have hXw7 : Hid (w7.heap[X]? = some (.cells #[.int .i64 kd, .int .i64 n, .string s, .string t, .slice A m c] 32 (0, 0))) := heap_kept hXw6.out hb
  clear hBw6 hXw6
  clear hb
  refine sg_run (by kernel_rfl) (.bool true) w7 (by kernel_rfl) ?_
  simp only [Act.put, List.setIfInBounds_toArray, List.set_cons_zero, List.set_cons_succ]
  refine sl_run rfl (.bool true) w7 (by kernel_rfl) ?_
  simp only [Act.put, List.setIfInBounds_toArray, List.set_cons_zero, List.set_cons_succ]
  refine sl_run rfl (.bool true) w7 (by kernel_rfl) ?_
  simp only [Act.put, List.setIfInBounds_toArray, List.set_cons_zero, List.set_cons_succ]
  refine sg_run (by kernel_rfl) (.pointer none) w7 (by kernel_rfl) ?_
  simp only [Act.put, List.setIfInBounds_toArray, List.set_cons_zero, List.set_cons_succ]
  refine sg_run (by kernel_rfl) (.pointer (some ⟨X, 2, none⟩)) w7 (by kernel_rfl) ?_
  simp only [Act.put, List.setIfInBounds_toArray, List.set_cons_zero, List.set_cons_succ]
  refine sg_run (by kernel_rfl) (.string s) w7 (exec_load_cell 9 w7 _ rfl ⟨X, 2, none⟩ (by kernel_rfl) _ (by rw [cell_of_row _ _ _ _ _ _ hXw7.out]; rfl) (fun _ => by kernel_rfl)) ?_
  simp only [Act.put, List.setIfInBounds_toArray, List.set_cons_zero, List.set_cons_succ]
  refine sg_call (by kernel_rfl) 20 #[.pointer none, .string s] (by kernel_rfl) (R := fun v w' => v = .int .i64 20 ∧ Below w7.heap.size w7 w') ((Remove_nil s w7).mono fun e w' h => ⟨_, h.1, rfl, h.2⟩) ?_
  rintro _ w8 ⟨rfl, hb⟩
  simp only [Act.put, List.setIfInBounds_toArray, List.set_cons_zero, List.set_cons_succ]
  have hBw8 : Hid (Below w.heap.size w w8) := (hBw7.out).trans ((hb).mono (hBw7.out).size)
  have hXw8 : Hid (w8.heap[X]? = some (.cells #[.int .i64 kd, .int .i64 n, .string s, .string t, .slice A m c] 32 (0, 0))) := heap_kept hXw7.out hb
  clear hBw7 hXw7
  clear hb
  refine sg_run (by kernel_rfl) (.bool true) w8 (by kernel_rfl) ?_
  simp only [Act.put, List.setIfInBounds_toArray, List.set_cons_zero, List.set_cons_succ]
  refine sl_run rfl (.bool true) w8 (by kernel_rfl) ?_
  simp only [Act.put, List.setIfInBounds_toArray, List.set_cons_zero, List.set_cons_succ]
  refine sl_run rfl (.bool true) w8 (by kernel_rfl) ?_
  simp only [Act.put, List.setIfInBounds_toArray, List.set_cons_zero, List.set_cons_succ]
  refine wpList_nil ?_
  have hF := hBw8
  clear hXw8
  go_wp2_with fail
  go_ret
  exact ⟨rfl, hF.out⟩
end Go.Proofs.Ytmdfgndjphhgnaa
