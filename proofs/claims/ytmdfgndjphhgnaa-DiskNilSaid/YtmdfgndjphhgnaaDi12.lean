/-
  Methods of a disk that isn't there.
-/
import Derived.Test.YtmdfgndjphhgnaaDi10
namespace Go.Proofs.Ytmdfgndjphhgnaa
open Go.RowKit
set_option linter.unusedVariables false
set_option linter.unusedSimpArgs false
set_option maxRecDepth 100000 in
theorem Remove_nil (s : ByteArray) (w : World) : Calls Try.prog 20 #[.pointer none, .string s] w fun e w' => e = .returned (.int .i64 20) ∧ Below w.heap.size w w' := by
  have hBw : Hid (Below w.heap.size w w) := Below.refl _ _
  go_enter Try.func20, Try.ntmps20
  go_upto_region 1 with fail
  have h0Bd : ((w.alloc (.cells #[.pointer none] 23)).alloc (.cells #[.string s] 9)).heap[w.heap.size]? = some (.cells #[.pointer none] 23 (0, 0)) := (heap_kept (heap_at w _ w.heap.size rfl) ((Below.refl _ _).alloc (Nat.le_refl _) _))
  have h0Bn : ((w.alloc (.cells #[.pointer none] 23)).alloc (.cells #[.string s] 9)).heap[(w.heap.size + 1)]? = some (.cells #[.string s] 9 (0, 0)) := (heap_at (w.alloc (.cells #[.pointer none] 23)) _ (w.heap.size + 1) (by rw [size_al]))
  have hB0 : Below w.heap.size w ((w.alloc (.cells #[.pointer none] 23)).alloc (.cells #[.string s] 9)) := (((Below.refl _ _).alloc (by exact Nat.le_refl _) _).alloc (by rw [size_al]; omega) _)
  generalize ((w.alloc (.cells #[.pointer none] 23)).alloc (.cells #[.string s] 9)) = W at hB0 h0Bd h0Bn ⊢
  obtain ⟨Bd, hBd⟩ : ∃ B, B = w.heap.size := ⟨_, rfl⟩
  obtain ⟨Bn, hBn⟩ : ∃ B, B = (w.heap.size + 1) := ⟨_, rfl⟩
  rw [← hBn] at h0Bn ⊢
  rw [← hBd] at h0Bd ⊢
  have hBdW : Hid (W.heap[Bd]? = some (.cells #[.pointer none] 23 (0, 0))) := h0Bd
  have hBnW : Hid (W.heap[Bn]? = some (.cells #[.string s] 9 (0, 0))) := h0Bn
  have hBW : Hid (Below w.heap.size w W) := hB0
  clear hB0 h0Bd h0Bn hBd hBn
  clear hBw
  refine wp_region_lit ?_
  refine sl_run rfl (.pointer none) W (exec_load_cell 23 W _ rfl ⟨Bd, 0, none⟩ (by kernel_rfl) _ (by rw [cell_of_row _ _ _ _ _ _ hBdW.out]; rfl) (fun _ => by kernel_rfl)) ?_
  simp only [Act.put, List.setIfInBounds_toArray, List.set_cons_zero, List.set_cons_succ]
  refine sl_run rfl (.string s) W (exec_load_cell 9 W _ rfl ⟨Bn, 0, none⟩ (by kernel_rfl) _ (by rw [cell_of_row _ _ _ _ _ _ hBnW.out]; rfl) (fun _ => by kernel_rfl)) ?_
  simp only [Act.put, List.setIfInBounds_toArray, List.set_cons_zero, List.set_cons_succ]
  refine sg_call (by kernel_rfl) 32 #[.pointer none, .string s] (by kernel_rfl) (R := fun v w' => v = .tuple #[.agg #[.slice none 0 0, .int .i64 0], .int .i64 20] ∧ Below W.heap.size W w') ((find_nil s W).mono fun e w' h => ⟨_, h.1, rfl, h.2⟩) ?_
  rintro _ W2 ⟨rfl, hb⟩
  simp only [Act.put, List.setIfInBounds_toArray, List.set_cons_zero, List.set_cons_succ]
  have hBW2 : Hid (Below w.heap.size w W2) := (hBW.out).trans ((hb).mono (hBW.out).size)
  have hBdW2 : Hid (W2.heap[Bd]? = some (.cells #[.pointer none] 23 (0, 0))) := heap_kept hBdW.out hb
  have hBnW2 : Hid (W2.heap[Bn]? = some (.cells #[.string s] 9 (0, 0))) := heap_kept hBnW.out hb
  clear hBW hBdW hBnW
  clear hb
  refine sl_run rfl (.tuple #[.agg #[.slice none 0 0, .int .i64 0], .int .i64 20]) W2 (by kernel_rfl) ?_
  simp only [Act.put, List.setIfInBounds_toArray, List.set_cons_zero, List.set_cons_succ]
  refine sl_run rfl (.agg #[.slice none 0 0, .int .i64 0]) W2 (by kernel_rfl) ?_
  simp only [Act.put, List.setIfInBounds_toArray, List.set_cons_zero, List.set_cons_succ]
  refine sl_run rfl (.int .i64 20) W2 (by kernel_rfl) ?_
  simp only [Act.put, List.setIfInBounds_toArray, List.set_cons_zero, List.set_cons_succ]
  refine sg_run (by kernel_rfl) (.pointer (some ⟨W2.heap.size, 0, none⟩)) (W2.alloc (.cells #[.slice none 0 0, .int .i64 0] 65)) (by kernel_rfl) ?_
  simp only [Act.put, List.setIfInBounds_toArray, List.set_cons_zero, List.set_cons_succ]
  refine sl_skipped (by kernel_rfl) ((W2.alloc (.cells #[.slice none 0 0, .int .i64 0] 65)).setRow W2.heap.size #[.slice none 0 0, .int .i64 0]) ?he ?_
  case he => exact exec_store_f _ _ rfl W2.heap.size (by kernel_rfl) (.slice none 0 0) 0 rfl (by kernel_rfl) #[.slice none 0 0, .int .i64 0] (heap_alloc_new _ _) rfl
  simp only [Act.put, List.setIfInBounds_toArray, List.set_cons_zero, List.set_cons_succ]
  have hb : Below W2.heap.size W2 ((W2.alloc (.cells #[.slice none 0 0, .int .i64 0] 65)).setRow W2.heap.size #[.slice none 0 0, .int .i64 0]) := below_setRow ((Below.refl _ _).alloc (Nat.le_refl _) _) (Nat.le_refl _) _
  generalize ((W2.alloc (.cells #[.slice none 0 0, .int .i64 0] 65)).setRow W2.heap.size #[.slice none 0 0, .int .i64 0]) = W3 at hb ⊢
  generalize W2.heap.size = F
  have hBW3 : Hid (Below w.heap.size w W3) := (hBW2.out).trans ((hb).mono (hBW2.out).size)
  have hBdW3 : Hid (W3.heap[Bd]? = some (.cells #[.pointer none] 23 (0, 0))) := heap_kept hBdW2.out hb
  have hBnW3 : Hid (W3.heap[Bn]? = some (.cells #[.string s] 9 (0, 0))) := heap_kept hBnW2.out hb
  clear hBW2 hBdW2 hBnW2
  clear hb
  refine sl_run rfl (.int .i64 20) W3 (by kernel_rfl) ?_
  simp only [Act.put, List.setIfInBounds_toArray, List.set_cons_zero, List.set_cons_succ]
  refine wpList_nil ?_
  have hF := hBW3
  clear hBdW3 hBnW3
  go_wp2_with fail
  go_ret
  exact ⟨rfl, hF.out⟩
set_option maxRecDepth 100000 in
theorem Sync_nil (s : ByteArray) (w : World) : Calls Try.prog 14 #[.pointer none, .string s] w fun e w' => e = .returned (.int .i64 20) ∧ Below w.heap.size w w' := by
  have hBw : Hid (Below w.heap.size w w) := Below.refl _ _
  go_enter Try.func14, Try.ntmps14
  go_upto_region 1 with fail
  have h0Bd : ((w.alloc (.cells #[.pointer none] 23)).alloc (.cells #[.string s] 9)).heap[w.heap.size]? = some (.cells #[.pointer none] 23 (0, 0)) := (heap_kept (heap_at w _ w.heap.size rfl) ((Below.refl _ _).alloc (Nat.le_refl _) _))
  have h0Bn : ((w.alloc (.cells #[.pointer none] 23)).alloc (.cells #[.string s] 9)).heap[(w.heap.size + 1)]? = some (.cells #[.string s] 9 (0, 0)) := (heap_at (w.alloc (.cells #[.pointer none] 23)) _ (w.heap.size + 1) (by rw [size_al]))
  have hB0 : Below w.heap.size w ((w.alloc (.cells #[.pointer none] 23)).alloc (.cells #[.string s] 9)) := (((Below.refl _ _).alloc (by exact Nat.le_refl _) _).alloc (by rw [size_al]; omega) _)
  generalize ((w.alloc (.cells #[.pointer none] 23)).alloc (.cells #[.string s] 9)) = W at hB0 h0Bd h0Bn ⊢
  obtain ⟨Bd, hBd⟩ : ∃ B, B = w.heap.size := ⟨_, rfl⟩
  obtain ⟨Bn, hBn⟩ : ∃ B, B = (w.heap.size + 1) := ⟨_, rfl⟩
  rw [← hBn] at h0Bn ⊢
  rw [← hBd] at h0Bd ⊢
  have hBdW : Hid (W.heap[Bd]? = some (.cells #[.pointer none] 23 (0, 0))) := h0Bd
  have hBnW : Hid (W.heap[Bn]? = some (.cells #[.string s] 9 (0, 0))) := h0Bn
  have hBW : Hid (Below w.heap.size w W) := hB0
  clear hB0 h0Bd h0Bn hBd hBn
  clear hBw
  refine wp_region_lit ?_
  refine sl_run rfl (.pointer none) W (exec_load_cell 23 W _ rfl ⟨Bd, 0, none⟩ (by kernel_rfl) _ (by rw [cell_of_row _ _ _ _ _ _ hBdW.out]; rfl) (fun _ => by kernel_rfl)) ?_
  simp only [Act.put, List.setIfInBounds_toArray, List.set_cons_zero, List.set_cons_succ]
  refine sl_run rfl (.string s) W (exec_load_cell 9 W _ rfl ⟨Bn, 0, none⟩ (by kernel_rfl) _ (by rw [cell_of_row _ _ _ _ _ _ hBnW.out]; rfl) (fun _ => by kernel_rfl)) ?_
  simp only [Act.put, List.setIfInBounds_toArray, List.set_cons_zero, List.set_cons_succ]
  refine sg_call (by kernel_rfl) 32 #[.pointer none, .string s] (by kernel_rfl) (R := fun v w' => v = .tuple #[.agg #[.slice none 0 0, .int .i64 0], .int .i64 20] ∧ Below W.heap.size W w') ((find_nil s W).mono fun e w' h => ⟨_, h.1, rfl, h.2⟩) ?_
  rintro _ W2 ⟨rfl, hb⟩
  simp only [Act.put, List.setIfInBounds_toArray, List.set_cons_zero, List.set_cons_succ]
  have hBW2 : Hid (Below w.heap.size w W2) := (hBW.out).trans ((hb).mono (hBW.out).size)
  have hBdW2 : Hid (W2.heap[Bd]? = some (.cells #[.pointer none] 23 (0, 0))) := heap_kept hBdW.out hb
  have hBnW2 : Hid (W2.heap[Bn]? = some (.cells #[.string s] 9 (0, 0))) := heap_kept hBnW.out hb
  clear hBW hBdW hBnW
  clear hb
  refine sl_run rfl (.tuple #[.agg #[.slice none 0 0, .int .i64 0], .int .i64 20]) W2 (by kernel_rfl) ?_
  simp only [Act.put, List.setIfInBounds_toArray, List.set_cons_zero, List.set_cons_succ]
  refine sl_run rfl (.agg #[.slice none 0 0, .int .i64 0]) W2 (by kernel_rfl) ?_
  simp only [Act.put, List.setIfInBounds_toArray, List.set_cons_zero, List.set_cons_succ]
  refine sl_run rfl (.int .i64 20) W2 (by kernel_rfl) ?_
  simp only [Act.put, List.setIfInBounds_toArray, List.set_cons_zero, List.set_cons_succ]
  refine sg_run (by kernel_rfl) (.pointer (some ⟨W2.heap.size, 0, none⟩)) (W2.alloc (.cells #[.slice none 0 0, .int .i64 0] 65)) (by kernel_rfl) ?_
  simp only [Act.put, List.setIfInBounds_toArray, List.set_cons_zero, List.set_cons_succ]
  refine sl_skipped (by kernel_rfl) ((W2.alloc (.cells #[.slice none 0 0, .int .i64 0] 65)).setRow W2.heap.size #[.slice none 0 0, .int .i64 0]) ?he ?_
  case he => exact exec_store_f _ _ rfl W2.heap.size (by kernel_rfl) (.slice none 0 0) 0 rfl (by kernel_rfl) #[.slice none 0 0, .int .i64 0] (heap_alloc_new _ _) rfl
  simp only [Act.put, List.setIfInBounds_toArray, List.set_cons_zero, List.set_cons_succ]
  have hb : Below W2.heap.size W2 ((W2.alloc (.cells #[.slice none 0 0, .int .i64 0] 65)).setRow W2.heap.size #[.slice none 0 0, .int .i64 0]) := below_setRow ((Below.refl _ _).alloc (Nat.le_refl _) _) (Nat.le_refl _) _
  generalize ((W2.alloc (.cells #[.slice none 0 0, .int .i64 0] 65)).setRow W2.heap.size #[.slice none 0 0, .int .i64 0]) = W3 at hb ⊢
  generalize W2.heap.size = F
  have hBW3 : Hid (Below w.heap.size w W3) := (hBW2.out).trans ((hb).mono (hBW2.out).size)
  have hBdW3 : Hid (W3.heap[Bd]? = some (.cells #[.pointer none] 23 (0, 0))) := heap_kept hBdW2.out hb
  have hBnW3 : Hid (W3.heap[Bn]? = some (.cells #[.string s] 9 (0, 0))) := heap_kept hBnW2.out hb
  clear hBW2 hBdW2 hBnW2
  clear hb
  refine sl_run rfl (.int .i64 20) W3 (by kernel_rfl) ?_
  simp only [Act.put, List.setIfInBounds_toArray, List.set_cons_zero, List.set_cons_succ]
  refine wpList_nil ?_
  have hF := hBW3
  clear hBdW3 hBnW3
  go_wp2_with fail
  go_ret
  exact ⟨rfl, hF.out⟩
set_option maxRecDepth 100000 in
theorem Cut_nil (s : ByteArray) (n : Int) (w : World) : Calls Try.prog 18 #[.pointer none, .string s, .int .i64 n] w fun e w' => e = .returned (.int .i64 20) ∧ Below w.heap.size w w' := by
  have hBw : Hid (Below w.heap.size w w) := Below.refl _ _
  go_enter Try.func18, Try.ntmps18
  go_upto_region 1 with fail
  have h0Bd : ((w.alloc (.cells #[.pointer none] 23)).alloc (.cells #[.string s] 9)).heap[w.heap.size]? = some (.cells #[.pointer none] 23 (0, 0)) := (heap_kept (heap_at w _ w.heap.size rfl) ((Below.refl _ _).alloc (Nat.le_refl _) _))
  have h0Bn : ((w.alloc (.cells #[.pointer none] 23)).alloc (.cells #[.string s] 9)).heap[(w.heap.size + 1)]? = some (.cells #[.string s] 9 (0, 0)) := (heap_at (w.alloc (.cells #[.pointer none] 23)) _ (w.heap.size + 1) (by rw [size_al]))
  have hB0 : Below w.heap.size w ((w.alloc (.cells #[.pointer none] 23)).alloc (.cells #[.string s] 9)) := (((Below.refl _ _).alloc (by exact Nat.le_refl _) _).alloc (by rw [size_al]; omega) _)
  generalize ((w.alloc (.cells #[.pointer none] 23)).alloc (.cells #[.string s] 9)) = W at hB0 h0Bd h0Bn ⊢
  obtain ⟨Bd, hBd⟩ : ∃ B, B = w.heap.size := ⟨_, rfl⟩
  obtain ⟨Bn, hBn⟩ : ∃ B, B = (w.heap.size + 1) := ⟨_, rfl⟩
  rw [← hBn] at h0Bn ⊢
  rw [← hBd] at h0Bd ⊢
  have hBdW : Hid (W.heap[Bd]? = some (.cells #[.pointer none] 23 (0, 0))) := h0Bd
  have hBnW : Hid (W.heap[Bn]? = some (.cells #[.string s] 9 (0, 0))) := h0Bn
  have hBW : Hid (Below w.heap.size w W) := hB0
  clear hB0 h0Bd h0Bn hBd hBn
  clear hBw
  refine wp_region_lit ?_
  refine sl_run rfl (.pointer none) W (exec_load_cell 23 W _ rfl ⟨Bd, 0, none⟩ (by kernel_rfl) _ (by rw [cell_of_row _ _ _ _ _ _ hBdW.out]; rfl) (fun _ => by kernel_rfl)) ?_
  simp only [Act.put, List.setIfInBounds_toArray, List.set_cons_zero, List.set_cons_succ]
  refine sl_run rfl (.string s) W (exec_load_cell 9 W _ rfl ⟨Bn, 0, none⟩ (by kernel_rfl) _ (by rw [cell_of_row _ _ _ _ _ _ hBnW.out]; rfl) (fun _ => by kernel_rfl)) ?_
  simp only [Act.put, List.setIfInBounds_toArray, List.set_cons_zero, List.set_cons_succ]
  refine sg_call (by kernel_rfl) 32 #[.pointer none, .string s] (by kernel_rfl) (R := fun v w' => v = .tuple #[.agg #[.slice none 0 0, .int .i64 0], .int .i64 20] ∧ Below W.heap.size W w') ((find_nil s W).mono fun e w' h => ⟨_, h.1, rfl, h.2⟩) ?_
  rintro _ W2 ⟨rfl, hb⟩
  simp only [Act.put, List.setIfInBounds_toArray, List.set_cons_zero, List.set_cons_succ]
  have hBW2 : Hid (Below w.heap.size w W2) := (hBW.out).trans ((hb).mono (hBW.out).size)
  have hBdW2 : Hid (W2.heap[Bd]? = some (.cells #[.pointer none] 23 (0, 0))) := heap_kept hBdW.out hb
  have hBnW2 : Hid (W2.heap[Bn]? = some (.cells #[.string s] 9 (0, 0))) := heap_kept hBnW.out hb
  clear hBW hBdW hBnW
  clear hb
  refine sl_run rfl (.tuple #[.agg #[.slice none 0 0, .int .i64 0], .int .i64 20]) W2 (by kernel_rfl) ?_
  simp only [Act.put, List.setIfInBounds_toArray, List.set_cons_zero, List.set_cons_succ]
  refine sl_run rfl (.agg #[.slice none 0 0, .int .i64 0]) W2 (by kernel_rfl) ?_
  simp only [Act.put, List.setIfInBounds_toArray, List.set_cons_zero, List.set_cons_succ]
  refine sl_run rfl (.int .i64 20) W2 (by kernel_rfl) ?_
  simp only [Act.put, List.setIfInBounds_toArray, List.set_cons_zero, List.set_cons_succ]
  refine sg_run (by kernel_rfl) (.pointer (some ⟨W2.heap.size, 0, none⟩)) (W2.alloc (.cells #[.slice none 0 0, .int .i64 0] 65)) (by kernel_rfl) ?_
  simp only [Act.put, List.setIfInBounds_toArray, List.set_cons_zero, List.set_cons_succ]
  refine sl_skipped (by kernel_rfl) ((W2.alloc (.cells #[.slice none 0 0, .int .i64 0] 65)).setRow W2.heap.size #[.slice none 0 0, .int .i64 0]) ?he ?_
  case he => exact exec_store_f _ _ rfl W2.heap.size (by kernel_rfl) (.slice none 0 0) 0 rfl (by kernel_rfl) #[.slice none 0 0, .int .i64 0] (heap_alloc_new _ _) rfl
  simp only [Act.put, List.setIfInBounds_toArray, List.set_cons_zero, List.set_cons_succ]
  have hb : Below W2.heap.size W2 ((W2.alloc (.cells #[.slice none 0 0, .int .i64 0] 65)).setRow W2.heap.size #[.slice none 0 0, .int .i64 0]) := below_setRow ((Below.refl _ _).alloc (Nat.le_refl _) _) (Nat.le_refl _) _
  generalize ((W2.alloc (.cells #[.slice none 0 0, .int .i64 0] 65)).setRow W2.heap.size #[.slice none 0 0, .int .i64 0]) = W3 at hb ⊢
  generalize W2.heap.size = F
  have hBW3 : Hid (Below w.heap.size w W3) := (hBW2.out).trans ((hb).mono (hBW2.out).size)
  have hBdW3 : Hid (W3.heap[Bd]? = some (.cells #[.pointer none] 23 (0, 0))) := heap_kept hBdW2.out hb
  have hBnW3 : Hid (W3.heap[Bn]? = some (.cells #[.string s] 9 (0, 0))) := heap_kept hBnW2.out hb
  clear hBW2 hBdW2 hBnW2
  clear hb
  refine sl_run rfl (.int .i64 20) W3 (by kernel_rfl) ?_
  simp only [Act.put, List.setIfInBounds_toArray, List.set_cons_zero, List.set_cons_succ]
  refine wpList_nil ?_
  have hF := hBW3
  clear hBdW3 hBnW3
  go_wp2_with fail
  go_ret
  exact ⟨rfl, hF.out⟩
set_option maxRecDepth 100000 in
theorem Rename_nil (s t : ByteArray) (w : World) : Calls Try.prog 16 #[.pointer none, .string s, .string t] w fun e w' => e = .returned (.int .i64 20) ∧ Below w.heap.size w w' := by
  have hBw : Hid (Below w.heap.size w w) := Below.refl _ _
  go_enter Try.func16, Try.ntmps16
  go_upto_region 1 with fail
  have h0Bd : (((w.alloc (.cells #[.pointer none] 23)).alloc (.cells #[.string s] 9)).alloc (.cells #[.string t] 9)).heap[w.heap.size]? = some (.cells #[.pointer none] 23 (0, 0)) := (heap_kept (heap_kept (heap_at w _ w.heap.size rfl) ((Below.refl _ _).alloc (Nat.le_refl _) _)) ((Below.refl _ _).alloc (Nat.le_refl _) _))
  have h0Bn : (((w.alloc (.cells #[.pointer none] 23)).alloc (.cells #[.string s] 9)).alloc (.cells #[.string t] 9)).heap[(w.heap.size + 1)]? = some (.cells #[.string s] 9 (0, 0)) := (heap_kept (heap_at (w.alloc (.cells #[.pointer none] 23)) _ (w.heap.size + 1) (by rw [size_al])) ((Below.refl _ _).alloc (Nat.le_refl _) _))
  have h0Bt : (((w.alloc (.cells #[.pointer none] 23)).alloc (.cells #[.string s] 9)).alloc (.cells #[.string t] 9)).heap[(w.heap.size + 2)]? = some (.cells #[.string t] 9 (0, 0)) := (heap_at ((w.alloc (.cells #[.pointer none] 23)).alloc (.cells #[.string s] 9)) _ (w.heap.size + 2) (by rw [size_al, size_al]))
  have hB0 : Below w.heap.size w (((w.alloc (.cells #[.pointer none] 23)).alloc (.cells #[.string s] 9)).alloc (.cells #[.string t] 9)) := ((((Below.refl _ _).alloc (by exact Nat.le_refl _) _).alloc (by rw [size_al]; omega) _).alloc (by rw [size_al, size_al]; omega) _)
  generalize (((w.alloc (.cells #[.pointer none] 23)).alloc (.cells #[.string s] 9)).alloc (.cells #[.string t] 9)) = W at hB0 h0Bd h0Bn h0Bt ⊢
  obtain ⟨Bd, hBd⟩ : ∃ B, B = w.heap.size := ⟨_, rfl⟩
  obtain ⟨Bn, hBn⟩ : ∃ B, B = (w.heap.size + 1) := ⟨_, rfl⟩
  obtain ⟨Bt, hBt⟩ : ∃ B, B = (w.heap.size + 2) := ⟨_, rfl⟩
  rw [← hBt] at h0Bt ⊢
  rw [← hBn] at h0Bn ⊢
  rw [← hBd] at h0Bd ⊢
  have hBdW : Hid (W.heap[Bd]? = some (.cells #[.pointer none] 23 (0, 0))) := h0Bd
  have hBnW : Hid (W.heap[Bn]? = some (.cells #[.string s] 9 (0, 0))) := h0Bn
  have hBtW : Hid (W.heap[Bt]? = some (.cells #[.string t] 9 (0, 0))) := h0Bt
  have hBW : Hid (Below w.heap.size w W) := hB0
  clear hB0 h0Bd h0Bn h0Bt hBd hBn hBt
  clear hBw
  refine wp_region_lit ?_
  refine sl_run rfl (.pointer none) W (exec_load_cell 23 W _ rfl ⟨Bd, 0, none⟩ (by kernel_rfl) _ (by rw [cell_of_row _ _ _ _ _ _ hBdW.out]; rfl) (fun _ => by kernel_rfl)) ?_
  simp only [Act.put, List.setIfInBounds_toArray, List.set_cons_zero, List.set_cons_succ]
  refine sl_run rfl (.string s) W (exec_load_cell 9 W _ rfl ⟨Bn, 0, none⟩ (by kernel_rfl) _ (by rw [cell_of_row _ _ _ _ _ _ hBnW.out]; rfl) (fun _ => by kernel_rfl)) ?_
  simp only [Act.put, List.setIfInBounds_toArray, List.set_cons_zero, List.set_cons_succ]
  refine sg_call (by kernel_rfl) 32 #[.pointer none, .string s] (by kernel_rfl) (R := fun v w' => v = .tuple #[.agg #[.slice none 0 0, .int .i64 0], .int .i64 20] ∧ Below W.heap.size W w') ((find_nil s W).mono fun e w' h => ⟨_, h.1, rfl, h.2⟩) ?_
  rintro _ W2 ⟨rfl, hb⟩
  simp only [Act.put, List.setIfInBounds_toArray, List.set_cons_zero, List.set_cons_succ]
  have hBW2 : Hid (Below w.heap.size w W2) := (hBW.out).trans ((hb).mono (hBW.out).size)
  have hBdW2 : Hid (W2.heap[Bd]? = some (.cells #[.pointer none] 23 (0, 0))) := heap_kept hBdW.out hb
  have hBnW2 : Hid (W2.heap[Bn]? = some (.cells #[.string s] 9 (0, 0))) := heap_kept hBnW.out hb
  have hBtW2 : Hid (W2.heap[Bt]? = some (.cells #[.string t] 9 (0, 0))) := heap_kept hBtW.out hb
  clear hBW hBdW hBnW hBtW
  clear hb
  refine sl_run rfl (.tuple #[.agg #[.slice none 0 0, .int .i64 0], .int .i64 20]) W2 (by kernel_rfl) ?_
  simp only [Act.put, List.setIfInBounds_toArray, List.set_cons_zero, List.set_cons_succ]
  refine sl_run rfl (.agg #[.slice none 0 0, .int .i64 0]) W2 (by kernel_rfl) ?_
  simp only [Act.put, List.setIfInBounds_toArray, List.set_cons_zero, List.set_cons_succ]
  refine sl_run rfl (.int .i64 20) W2 (by kernel_rfl) ?_
  simp only [Act.put, List.setIfInBounds_toArray, List.set_cons_zero, List.set_cons_succ]
  refine sg_run (by kernel_rfl) (.pointer (some ⟨W2.heap.size, 0, none⟩)) (W2.alloc (.cells #[.slice none 0 0, .int .i64 0] 65)) (by kernel_rfl) ?_
  simp only [Act.put, List.setIfInBounds_toArray, List.set_cons_zero, List.set_cons_succ]
  refine sl_skipped (by kernel_rfl) ((W2.alloc (.cells #[.slice none 0 0, .int .i64 0] 65)).setRow W2.heap.size #[.slice none 0 0, .int .i64 0]) ?he ?_
  case he => exact exec_store_f _ _ rfl W2.heap.size (by kernel_rfl) (.slice none 0 0) 0 rfl (by kernel_rfl) #[.slice none 0 0, .int .i64 0] (heap_alloc_new _ _) rfl
  simp only [Act.put, List.setIfInBounds_toArray, List.set_cons_zero, List.set_cons_succ]
  have hb : Below W2.heap.size W2 ((W2.alloc (.cells #[.slice none 0 0, .int .i64 0] 65)).setRow W2.heap.size #[.slice none 0 0, .int .i64 0]) := below_setRow ((Below.refl _ _).alloc (Nat.le_refl _) _) (Nat.le_refl _) _
  generalize ((W2.alloc (.cells #[.slice none 0 0, .int .i64 0] 65)).setRow W2.heap.size #[.slice none 0 0, .int .i64 0]) = W3 at hb ⊢
  generalize W2.heap.size = F
  have hBW3 : Hid (Below w.heap.size w W3) := (hBW2.out).trans ((hb).mono (hBW2.out).size)
  have hBdW3 : Hid (W3.heap[Bd]? = some (.cells #[.pointer none] 23 (0, 0))) := heap_kept hBdW2.out hb
  have hBnW3 : Hid (W3.heap[Bn]? = some (.cells #[.string s] 9 (0, 0))) := heap_kept hBnW2.out hb
  have hBtW3 : Hid (W3.heap[Bt]? = some (.cells #[.string t] 9 (0, 0))) := heap_kept hBtW2.out hb
  clear hBW2 hBdW2 hBnW2 hBtW2
  clear hb
  refine sl_run rfl (.int .i64 20) W3 (by kernel_rfl) ?_
  simp only [Act.put, List.setIfInBounds_toArray, List.set_cons_zero, List.set_cons_succ]
  refine wpList_nil ?_
  have hF := hBW3
  clear hBdW3 hBnW3 hBtW3
  go_wp2_with fail
  go_ret
  exact ⟨rfl, hF.out⟩
set_option maxRecDepth 100000 in
theorem Read_nil (s : ByteArray) (w : World) : Calls Try.prog 22 #[.pointer none, .string s] w fun e w' => e = .returned (.tuple #[.slice none 0 0, .int .i64 20]) ∧ Below w.heap.size w w' := by
  have hBw : Hid (Below w.heap.size w w) := Below.refl _ _
  go_enter Try.func22, Try.ntmps22
  go_upto_region 1 with fail
  refine wp_region_lit ?_
  refine sl_run rfl (.pointer none) w (by kernel_rfl) ?_
  simp only [Act.put, List.setIfInBounds_toArray, List.set_cons_zero, List.set_cons_succ]
  refine sl_run rfl (.string s) w (by kernel_rfl) ?_
  simp only [Act.put, List.setIfInBounds_toArray, List.set_cons_zero, List.set_cons_succ]
  refine sg_call (by kernel_rfl) 32 #[.pointer none, .string s] (by kernel_rfl) (R := fun v w' => v = .tuple #[.agg #[.slice none 0 0, .int .i64 0], .int .i64 20] ∧ Below w.heap.size w w') ((find_nil s w).mono fun e w' h => ⟨_, h.1, rfl, h.2⟩) ?_
  rintro _ W2 ⟨rfl, hb⟩
  simp only [Act.put, List.setIfInBounds_toArray, List.set_cons_zero, List.set_cons_succ]
  have hBW2 : Hid (Below w.heap.size w W2) := (hBw.out).trans ((hb).mono (hBw.out).size)
  clear hBw
  clear hb
  refine sl_run rfl (.tuple #[.agg #[.slice none 0 0, .int .i64 0], .int .i64 20]) W2 (by kernel_rfl) ?_
  simp only [Act.put, List.setIfInBounds_toArray, List.set_cons_zero, List.set_cons_succ]
  refine sl_run rfl (.agg #[.slice none 0 0, .int .i64 0]) W2 (by kernel_rfl) ?_
  simp only [Act.put, List.setIfInBounds_toArray, List.set_cons_zero, List.set_cons_succ]
  refine sl_run rfl (.int .i64 20) W2 (by kernel_rfl) ?_
  simp only [Act.put, List.setIfInBounds_toArray, List.set_cons_zero, List.set_cons_succ]
  refine sg_run (by kernel_rfl) (.pointer (some ⟨W2.heap.size, 0, none⟩)) (W2.alloc (.cells #[.slice none 0 0, .int .i64 0] 65)) (by kernel_rfl) ?_
  simp only [Act.put, List.setIfInBounds_toArray, List.set_cons_zero, List.set_cons_succ]
  refine sl_skipped (by kernel_rfl) ((W2.alloc (.cells #[.slice none 0 0, .int .i64 0] 65)).setRow W2.heap.size #[.slice none 0 0, .int .i64 0]) ?he ?_
  case he => exact exec_store_f _ _ rfl W2.heap.size (by kernel_rfl) (.slice none 0 0) 0 rfl (by kernel_rfl) #[.slice none 0 0, .int .i64 0] (heap_alloc_new _ _) rfl
  simp only [Act.put, List.setIfInBounds_toArray, List.set_cons_zero, List.set_cons_succ]
  have hb : Below W2.heap.size W2 ((W2.alloc (.cells #[.slice none 0 0, .int .i64 0] 65)).setRow W2.heap.size #[.slice none 0 0, .int .i64 0]) := below_setRow ((Below.refl _ _).alloc (Nat.le_refl _) _) (Nat.le_refl _) _
  generalize ((W2.alloc (.cells #[.slice none 0 0, .int .i64 0] 65)).setRow W2.heap.size #[.slice none 0 0, .int .i64 0]) = W3 at hb ⊢
  generalize W2.heap.size = F
  have hBW3 : Hid (Below w.heap.size w W3) := (hBW2.out).trans ((hb).mono (hBW2.out).size)
  clear hBW2
  clear hb
  refine sl_run rfl (.int .i64 20) W3 (by kernel_rfl) ?_
  simp only [Act.put, List.setIfInBounds_toArray, List.set_cons_zero, List.set_cons_succ]
  refine wpList_nil ?_
  have hF := hBW3
  clear hBW3
  go_wp2_with fail
  go_ret2
  exact ⟨rfl, hF.out⟩
set_option maxRecDepth 100000 in
theorem Append_nil (s : ByteArray) (v : Value) (w : World) : Calls Try.prog 12 #[.pointer none, .string s, v] w fun e w' => e = .returned (.int .i64 20) ∧ Below w.heap.size w w' := by
  have hBw : Hid (Below w.heap.size w w) := Below.refl _ _
  go_enter Try.func12, Try.ntmps12
  go_upto_region 1 with fail
  refine wp_region_lit ?_
  refine sl_run rfl (.pointer none) w (by kernel_rfl) ?_
  simp only [Act.put, List.setIfInBounds_toArray, List.set_cons_zero, List.set_cons_succ]
  refine sl_run rfl (.string s) w (by kernel_rfl) ?_
  simp only [Act.put, List.setIfInBounds_toArray, List.set_cons_zero, List.set_cons_succ]
  refine sg_call (by kernel_rfl) 32 #[.pointer none, .string s] (by kernel_rfl) (R := fun v w' => v = .tuple #[.agg #[.slice none 0 0, .int .i64 0], .int .i64 20] ∧ Below w.heap.size w w') ((find_nil s w).mono fun e w' h => ⟨_, h.1, rfl, h.2⟩) ?_
  rintro _ W2 ⟨rfl, hb⟩
  simp only [Act.put, List.setIfInBounds_toArray, List.set_cons_zero, List.set_cons_succ]
  have hBW2 : Hid (Below w.heap.size w W2) := (hBw.out).trans ((hb).mono (hBw.out).size)
  clear hBw
  clear hb
  refine sl_run rfl (.tuple #[.agg #[.slice none 0 0, .int .i64 0], .int .i64 20]) W2 (by kernel_rfl) ?_
  simp only [Act.put, List.setIfInBounds_toArray, List.set_cons_zero, List.set_cons_succ]
  refine sl_run rfl (.agg #[.slice none 0 0, .int .i64 0]) W2 (by kernel_rfl) ?_
  simp only [Act.put, List.setIfInBounds_toArray, List.set_cons_zero, List.set_cons_succ]
  refine sl_run rfl (.int .i64 20) W2 (by kernel_rfl) ?_
  simp only [Act.put, List.setIfInBounds_toArray, List.set_cons_zero, List.set_cons_succ]
  refine sg_run (by kernel_rfl) (.pointer (some ⟨W2.heap.size, 0, none⟩)) (W2.alloc (.cells #[.slice none 0 0, .int .i64 0] 65)) (by kernel_rfl) ?_
  simp only [Act.put, List.setIfInBounds_toArray, List.set_cons_zero, List.set_cons_succ]
  refine sl_skipped (by kernel_rfl) ((W2.alloc (.cells #[.slice none 0 0, .int .i64 0] 65)).setRow W2.heap.size #[.slice none 0 0, .int .i64 0]) ?he ?_
  case he => exact exec_store_f _ _ rfl W2.heap.size (by kernel_rfl) (.slice none 0 0) 0 rfl (by kernel_rfl) #[.slice none 0 0, .int .i64 0] (heap_alloc_new _ _) rfl
  simp only [Act.put, List.setIfInBounds_toArray, List.set_cons_zero, List.set_cons_succ]
  have hb : Below W2.heap.size W2 ((W2.alloc (.cells #[.slice none 0 0, .int .i64 0] 65)).setRow W2.heap.size #[.slice none 0 0, .int .i64 0]) := below_setRow ((Below.refl _ _).alloc (Nat.le_refl _) _) (Nat.le_refl _) _
  generalize ((W2.alloc (.cells #[.slice none 0 0, .int .i64 0] 65)).setRow W2.heap.size #[.slice none 0 0, .int .i64 0]) = W3 at hb ⊢
  generalize W2.heap.size = F
  have hBW3 : Hid (Below w.heap.size w W3) := (hBW2.out).trans ((hb).mono (hBW2.out).size)
  clear hBW2
  clear hb
  refine sl_run rfl (.int .i64 20) W3 (by kernel_rfl) ?_
  simp only [Act.put, List.setIfInBounds_toArray, List.set_cons_zero, List.set_cons_succ]
  refine wpList_nil ?_
  have hF := hBW3
  clear hBW3
  go_wp2_with fail
  go_ret
  exact ⟨rfl, hF.out⟩
end Go.Proofs.Ytmdfgndjphhgnaa
