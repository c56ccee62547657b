/-
  Bindings: a copy of a literal, whose terms are the call's own.
-/
import Derived.Test.YtehgblnhhlgikaaBiCopy
import Derived.Test.YtehgblnhhlgikaaBiSel
namespace Go.Proofs.Ytehgblnhhlgikaa.Bi
open Go.RowKit
set_option linter.unusedVariables false
set_option linter.unusedSimpArgs false
set_option pp.maxSteps 50000
set_option maxRecDepth 100000 in
set_option maxHeartbeats 1000000 in
theorem copyO_calls (k : Nat) (p : ByteArray) (args : List T3) (A : Option Addr) (n c : Nat) (hn : n = args.length) (hn9 : n ≤ 1000000) (w : World) (hy : Rw 3 T3.c w (.slice A n c) args) :
    Calls Try.prog 10 #[.agg (flatC k p (.slice A n c))] w fun e w' => ∃ A2 c2, e = .returned (.agg (flatC k p (.slice A2 n c2))) ∧ w'.ownsRow w.heap.size 48 3 (.slice A2 n c2) args.length (flat T3.c args) ∧ Below w.heap.size w w' := by
  obtain ⟨i48, hi48, hz0, hz1, hz2⟩ := info_parts inf48
  have hn' : Hid (n = args.length) := hn
  have hyH : Hid (Rw 3 T3.c w (.slice A n c) args) := hy
  clear hn hy
  unfold flatC
  go_enter Try.func10, Try.ntmps10
  go_upto_region 1 with fail
  generalize hW : World.alloc _ _ = W
  have hW0 : W.heap[w.heap.size]? = some (.cells #[.int .u8 (k : Int), .string p, .slice A n c] 24 (0, 0)) := by rw [← hW]; exact heap_alloc2_old w _ _
  have hW1 : W.heap[w.heap.size + 1]? = some (.cells #[.int .u8 0, .string ByteArray.empty, .slice none 0 0] 24 (0, 0)) := by rw [← hW]; exact heap_alloc2_new w _ _
  have hWB : Below w.heap.size w W := by rw [← hW]; exact ((Below.refl _ _).alloc (Nat.le_refl _) _).alloc (by simp) _
  have hWs : W.heap.size = w.heap.size + 2 := by rw [← hW]; simp
  clear hW
  have hyW := hyH.out.below hWB
  refine wp_region_lit ?_
  refine sl_run rfl (.slice (some ⟨W.heap.size, 0, none⟩) 0 0) (W.alloc (.cells #[] 48)) (by kernel_rfl) ?_
  have hown0 : (W.alloc (.cells #[] 48)).ownsRow W.heap.size 48 3 (.slice (some ⟨W.heap.size, 0, none⟩) 0 0) ([] : List T3).length (flat T3.c []) := World.ownsRow_made _ _ 0 (Nat.le_refl _) (by decide) rfl
  have hB0 : Below W.heap.size W (W.alloc (.cells #[] 48)) := (Below.refl _ _).alloc (Nat.le_refl _) _
  obtain ⟨H, hH⟩ : ∃ H, H = W.heap.size := ⟨_, rfl⟩
  rw [← hH] at hown0 hB0 ⊢
  generalize W.alloc _ = w3 at hown0 hB0
  have h30 : w3.heap[w.heap.size]? = some (.cells #[.int .u8 (k : Int), .string p, .slice A n c] 24 (0, 0)) := by rw [hB0.block _ (by omega)]; exact hW0
  simp only [Act.put, List.setIfInBounds_toArray, List.set_cons_zero, List.set_cons_succ]
  refine sl_run rfl (.pointer (some ⟨w.heap.size, 2, none⟩)) w3 (by kernel_rfl) ?_
  refine sl_run rfl (.slice A n c) w3 (exec_load_cell 22 w3 _ rfl ⟨w.heap.size, 2, none⟩ (by kernel_rfl) _ (by rw [cell_of_row _ _ _ _ _ _ h30]; rfl) (fun _ => by kernel_rfl)) ?_
  simp only [Act.put, List.setIfInBounds_toArray, List.set_cons_zero, List.set_cons_succ]
  refine appendRw 22 48 40 i48 z3 Try.underlying22 hi48 hz0 hz1 hz2 rfl (by decide) t3_size t3_ones rfl _ _ rfl H _ [] args (by kernel_rfl) hown0 _ (by kernel_rfl) (hyW.below (by rw [← hH]; exact hB0)) (by have := hn'.out; simp; omega) (by have := hn'.out; simp; omega) (by have := hB0.size; omega) ?_
  intro v5 w5 hown5 hgr5
  rw [List.nil_append] at hown5
  have hB5 : Below H W w5 := Below.grown hB0 hgr5 (by have := hB0.size; omega) (fun q hq => (hown0.lt q hq).1)
  have h50 : w5.heap[w.heap.size]? = some (.cells #[.int .u8 (k : Int), .string p, .slice A n c] 24 (0, 0)) := by rw [hB5.block _ (by omega)]; exact hW0
  have h51 : w5.heap[w.heap.size + 1]? = some (.cells #[.int .u8 0, .string ByteArray.empty, .slice none 0 0] 24 (0, 0)) := by rw [hB5.block _ (by omega)]; exact hW1
  obtain ⟨A2, c2, rfl⟩ : ∃ A c, v5 = .slice A n c := by
    obtain ⟨A, c, h⟩ := (Rw.own t3_size (by decide) hown5).form
    exact ⟨A, c, by rw [h, hn'.out]⟩
  have hb5 : ∀ q, (Value.slice A2 n c2).ownBlock = some q → w.heap.size + 2 ≤ q := fun q hq => by have := (hown5.lt q hq).1; omega
  simp only [Act.put, List.setIfInBounds_toArray, List.set_cons_zero, List.set_cons_succ]
  refine sl_run rfl (.pointer (some ⟨w.heap.size, 2, none⟩)) w5 (by kernel_rfl) ?_
  refine wpList_store_cell rfl 22 _ _ rfl w.heap.size 2 (by kernel_rfl) (.slice A2 n c2) (by kernel_rfl) _ (by rw [cell_of_row _ _ _ _ _ _ h50]; rfl) (frozen_of_row _ _ _ _ _ h50) (fun _ => by kernel_rfl) rfl rfl ?_
  refine wpList_nil ?_
  simp only [Act.put, List.setIfInBounds_toArray, List.set_cons_zero, List.set_cons_succ]
  have h60 := heap_setCell_same w5 w.heap.size 2 _ _ (.slice A2 n c2) h50
  have h61 : (w5.setCell ⟨w.heap.size, 2, none⟩ (.slice A2 n c2)).heap[w.heap.size + 1]? = some (.cells #[.int .u8 0, .string ByteArray.empty, .slice none 0 0] 24 (0, 0)) := by rw [Below.heap_setCell _ _ _ _ (by show _ ≠ w.heap.size; omega)]; exact h51
  have hB6 : Below w.heap.size w (w5.setCell ⟨w.heap.size, 2, none⟩ (.slice A2 n c2)) := (hWB.trans (hB5.mono (by omega))).setCell (Nat.le_refl _) _
  have hy6 : (w5.setCell ⟨w.heap.size, 2, none⟩ (.slice A2 n c2)).ownsRow (w.heap.size + 2) 48 3 (.slice A2 n c2) args.length (flat T3.c args) := own_keep (own_mono hown5 (by omega)) (fun q hq => Below.heap_setCell _ _ _ _ (by have := hb5 q hq; show q ≠ w.heap.size; omega))
  generalize World.setCell _ _ _ = w6 at h60 h61 hB6 hy6
  clear h50 h51 hB5 hW0 hW1 hWB hyW hown0 hB0 h30 hown5 hgr5
  go_upto_region 2 with fail
  refine wp_region_lit ?_
  refine wpList_load_row rfl 24 _ rfl w.heap.size (by kernel_rfl) 24 #[.int .u8 (k : Int), .string p, .slice A2 n c2] (0, 0) _ h60 Try.underlying24 rfl (by kernel_rfl) ?_
  refine wpList_store_row rfl 24 _ _ rfl (w.heap.size + 1) #[.int .u8 (k : Int), .string p, .slice A2 n c2] (by kernel_rfl) (by kernel_rfl) 24 _ h61 (by kernel_rfl) (by kernel_rfl) (by simp [Value.oneCell']) ?_
  refine wpList_nil ?_
  have hz := setRow_heap _ _ _ #[.int .u8 (k : Int), .string p, .slice A2 n c2] _ _ h61
  have hzB : Below w.heap.size w (w6.setRow (w.heap.size + 1) #[.int .u8 (k : Int), .string p, .slice A2 n c2]) := below_setRow hB6 (by omega) _
  have hzy : (w6.setRow (w.heap.size + 1) #[.int .u8 (k : Int), .string p, .slice A2 n c2]).ownsRow w.heap.size 48 3 (.slice A2 n c2) args.length (flat T3.c args) := own_mono (own_keep hy6 (fun q hq => setRow_other _ _ _ _ (by have := hb5 q hq; omega))) (by omega)
  rename_i hK
  refine hK _ _ (wp_ret ?_)
  refine bodyPost_ret (results_cell_row rfl _ _ (w.heap.size + 1) 24 #[.int .u8 (k : Int), .string p, .slice A2 n c2] (0, 0) _ (by kernel_rfl) hz Try.underlying24 rfl (by kernel_rfl)) (by kernel_rfl) ?_
  exact ⟨A2, c2, rfl, hzy, hzB⟩
end Go.Proofs.Ytehgblnhhlgikaa.Bi
