/-
  ShaSums: the walk.
-/
import Derived.Test.YtnaknnnobcnnfaaShaHeld
import Derived.Test.YtnaknnnobcnnfaaShaRSum
namespace Go.Proofs.Ytnaknnnobcnnfaa.Sha
open Go.RowKit
set_option linter.unusedVariables false
set_option linter.unusedSimpArgs false
set_option pp.maxSteps 50000
set_option maxRecDepth 100000 in
set_option maxHeartbeats 1000000 in
theorem sums_calls (l : List Nat) (hl : ∀ j, l.getD j 0 < 256) (A : Option Addr) (c : Nat) (w : World) (hy : Bytes w (.slice A l.length c) l) :
    Calls Try.prog 3 #[.slice A l.length c] w fun e w' => e = .returned (.bool true) ∧ Below w.heap.size w w' := by
  obtain ⟨n, hn⟩ : ∃ n, n = l.length := ⟨_, rfl⟩
  have hn' : Hid (n = l.length) := hn
  rw [← hn] at hy ⊢
  clear hn
  by_cases h2 : n ≤ 20000
  · have hle : ¬ (20000 : Int) < (n : Int) := by omega
    go_enter Try.func3, Try.ntmps3
    go_upto_region 1 with fail
    refine wp_region_lit ?_
    refine sl_call rfl 7 #[] (by kernel_rfl) (R := fun v w' => v = .bool true ∧ Below w.heap.size w w') ((fixed_calls w).mono fun e w' h => ⟨_, h.1, rfl, h.2⟩) ?_
    rintro _ w1 ⟨rfl, hB1⟩
    have hs1 := hB1.size
    refine sl_run rfl (.bool false) w1 (by kernel_rfl) ?_
    refine wpList_nil ?_
    simp only [Act.put, List.setIfInBounds_toArray, List.set_cons_zero, List.set_cons_succ]
    have hy1 : Bytes w1 (.slice A n c) l := hy.below hB1
    go_upto_region 5 with fail
    refine wp_region_lit ?_
    refine sl_run rfl (.slice A n c) w1 (by kernel_rfl) ?_
    obtain ⟨D, hD⟩ : ∃ D, D = sumB l := ⟨_, rfl⟩
    have hDl : D.length = 32 := by rw [hD]; exact sumB_length _
    have hDb : ∀ j, D.getD j 0 < 256 := by rw [hD]; exact sumB_lt _
    obtain ⟨X, hX⟩ : ∃ X, X = hexB D 32 := ⟨_, rfl⟩
    refine sl_call rfl 8 #[.slice A n c] (by kernel_rfl) (R := fun v w' => v = .agg (bytesC D) ∧ Below w1.heap.size w1 w') (by
      have e := hn'.out
      subst e
      exact (rsum_calls l hl (by omega) A c w1 hy1).mono fun e w' h => ⟨_, h.1, by rw [hD], h.2⟩) ?_
    rintro _ w2 ⟨rfl, hB2⟩
    have hs2 := hB2.size
    refine sl_run rfl (.pointer (some ⟨w2.heap.size, 0, none⟩)) (w2.alloc (.cells (bytesC (zeros 32)) 24)) (by kernel_rfl) ?_
    refine wpList_store_row rfl 24 _ _ rfl w2.heap.size (bytesC D) (by kernel_rfl) (by kernel_rfl) 24 _ (heap_alloc_new _ _) (by rw [bytesC_size, hDl]; kernel_rfl) (by rw [bytesC_size, bytesC_size, hDl]; rfl) (bytesC_one _) ?_
    rw [World.setRow_alloc_new]
    refine wpList_nil ?_
    have hg3 : (w2.alloc (.cells (bytesC D) 24)).heap[w2.heap.size]? = some (.cells (bytesC D) 24 (0, 0)) := heap_alloc_new _ _
    have hB3 : Below w.heap.size w (w2.alloc (.cells (bytesC D) 24)) := (hB1.trans (hB2.mono hs1)).alloc (by omega) _
    have hlt3 : w2.heap.size < (w2.alloc (.cells (bytesC D) 24)).heap.size := by simp
    obtain ⟨d, hd⟩ : ∃ d, d = w2.heap.size := ⟨_, rfl⟩
    have hwd : w.heap.size ≤ d := by omega
    rw [← hd] at hg3 hlt3 ⊢
    generalize w2.alloc _ = w3 at hg3 hB3 hlt3
    have hy3 : Bytes w3 (.slice A n c) l := hy.below hB3
    have hs3 := hB3.size
    clear hd
    simp only [Act.put, List.setIfInBounds_toArray, List.set_cons_zero, List.set_cons_succ]
    go_upto_region 6 with fail
    refine wp_region_held_drew (S := fun w' => Below w3.heap.size w3 w') (by kernel_rfl) (Below.refl _ _).drew (fun hS => ?_)
    change wpAnyH _ _ _ _ _ 14 (Array.replicate 14 false) _ _
    generalize hx : w3.drew = w4 at hS
    clear hx
    have ld : ∀ w', Below w3.heap.size w3 w' → w'.heap[d]? = some (.cells (bytesC D) 24 (0, 0)) := fun w' h => by rw [h.block d hlt3]; exact hg3
    have i24 : (Try.prog.info? 24).map (·.size) = some (bytesC D).size := by rw [bytesC_size, hDl]; kernel_rfl
    refine held_take 1 rfl (by kernel_rfl) (by kernel_rfl) (by kernel_rfl) (.slice A n c) (fun _ _ _ h => h) (by kernel_rfl) (fun _ _ => by kernel_rfl) hS ?_
    simp only [Act.put, List.setIfInBounds_toArray, List.set_cons_zero, List.set_cons_succ]
    refine held_take 4 rfl (by kernel_rfl) (by kernel_rfl) (by kernel_rfl) (.agg (bytesC D)) (fun _ _ _ h => h) (by kernel_rfl) (fun w' h => exec_load_row 24 w' _ rfl d (by kernel_rfl) 24 (bytesC D) (0, 0) _ (ld w' h) Try.underlying24 rfl i24) hS ?_
    simp only [Act.put, List.setIfInBounds_toArray, List.set_cons_zero, List.set_cons_succ]
    have hy4 : Bytes w4 (.slice A n c) l := hy3.below hS
    have hs4 := hS.size
    refine held_run 0 rfl (by kernel_rfl) (by kernel_rfl) (.slice (some ⟨w4.heap.size, 0, none⟩) 0 0) (w4.alloc (.cells #[] 5)) (by kernel_rfl) (hS.alloc hs4 _) ?_
    simp only [Act.put, List.setIfInBounds_toArray, List.set_cons_zero, List.set_cons_succ]
    have hown5 : (w4.alloc (.cells #[] 5)).ownsRow w3.heap.size 5 1 (.slice (some ⟨w4.heap.size, 0, none⟩) 0 0) ([] : List Nat).length (vals []) := World.ownsRow_made _ _ 0 hs4 (by decide) rfl
    have hy5 := hy4.alloc (.cells #[] 5)
    have hS5 : Below w3.heap.size w3 (w4.alloc (.cells #[] 5)) := hS.alloc hs4 _
    generalize w4.alloc _ = w5 at hown5 hy5 hS5
    have hs5 := hS5.size
    refine held_append22 2 rfl (by kernel_rfl) (by kernel_rfl) _ _ rfl w3.heap.size _ [] l (by kernel_rfl) hown5 _ (by kernel_rfl) hy5 (by have := hn'.out; simp; omega) hs5 (fun v6 w6 hown6 hgr6 => ?_)
    have hS6 : Below w3.heap.size w3 w6 := Below.grown hS5 hgr6 hs5 (fun k hk => (hown5.lt k hk).1)
    refine ⟨hS6, ?_⟩
    simp only [Act.put, List.setIfInBounds_toArray, List.set_cons_zero, List.set_cons_succ]
    have hy6 : Bytes w6 v6 l := Bytes.own hown6
    have hs6 := hS6.size
    refine held_call 3 rfl (by kernel_rfl) (by kernel_rfl) 9 #[v6] (by kernel_rfl) (R := fun v w' => v = .agg (bytesC D) ∧ Below w6.heap.size w6 w') ((one_calls l hl (by have := hn'.out; omega) v6 w6 hy6).mono fun e w' h => ⟨_, h.1, by rw [hD], h.2⟩) ?_
    rintro _ w7 ⟨rfl, hB7⟩
    have hS7 : Below w3.heap.size w3 w7 := hS6.trans (hB7.mono hs6)
    refine ⟨hS7, ?_⟩
    simp only [Act.put, List.setIfInBounds_toArray, List.set_cons_zero, List.set_cons_succ]
    refine held_take 5 rfl (by kernel_rfl) (by kernel_rfl) (by kernel_rfl) (.bool true) (fun _ _ _ h => h) (by kernel_rfl) (fun w' _ => exec_eql _ _ rfl D hDl (by kernel_rfl) (by kernel_rfl) w') hS7 ?_
    simp only [Act.put, List.setIfInBounds_toArray, List.set_cons_zero, List.set_cons_succ]
    refine held_take 6 rfl (by kernel_rfl) (by kernel_rfl) (by kernel_rfl) (.bool true) (fun _ _ _ h => h) (by kernel_rfl) (fun _ _ => by kernel_rfl) hS7 ?_
    simp only [Act.put, List.setIfInBounds_toArray, List.set_cons_zero, List.set_cons_succ]
    refine held_take 7 rfl (by kernel_rfl) (by kernel_rfl) (by kernel_rfl) (.agg (bytesC D)) (fun _ _ _ h => h) (by kernel_rfl) (fun w' h => exec_load_row 24 w' _ rfl d (by kernel_rfl) 24 (bytesC D) (0, 0) _ (ld w' h) Try.underlying24 rfl i24) hS7 ?_
    simp only [Act.put, List.setIfInBounds_toArray, List.set_cons_zero, List.set_cons_succ]
    refine held_take 9 rfl (by kernel_rfl) (by kernel_rfl) (by kernel_rfl) (.agg (bytesC D)) (fun _ _ _ h => h) (by kernel_rfl) (fun w' h => exec_load_row 24 w' _ rfl d (by kernel_rfl) 24 (bytesC D) (0, 0) _ (ld w' h) Try.underlying24 rfl i24) hS7 ?_
    simp only [Act.put, List.setIfInBounds_toArray, List.set_cons_zero, List.set_cons_succ]
    have hs7 := hS7.size
    refine held_call 8 rfl (by kernel_rfl) (by kernel_rfl) 10 #[.agg (bytesC D)] (by kernel_rfl) (R := fun v w' => v = .string X ∧ Below w7.heap.size w7 w') ((hex_calls D hDl hDb w7).mono fun e w' h => ⟨_, h.1, by rw [hX], h.2⟩) ?_
    rintro _ w8 ⟨rfl, hB8⟩
    have hS8 : Below w3.heap.size w3 w8 := hS7.trans (hB8.mono hs7)
    have hs8 := hS8.size
    refine ⟨hS8, ?_⟩
    simp only [Act.put, List.setIfInBounds_toArray, List.set_cons_zero, List.set_cons_succ]
    refine held_call 10 rfl (by kernel_rfl) (by kernel_rfl) 11 #[.agg (bytesC D)] (by kernel_rfl) (R := fun v w' => v = .string X ∧ Below w8.heap.size w8 w') ((rhex_calls D hDl hDb w8).mono fun e w' h => ⟨_, h.1, by rw [hX], h.2⟩) ?_
    rintro _ w9 ⟨rfl, hB9⟩
    have hS9 : Below w3.heap.size w3 w9 := hS8.trans (hB9.mono hs8)
    refine ⟨hS9, ?_⟩
    simp only [Act.put, List.setIfInBounds_toArray, List.set_cons_zero, List.set_cons_succ]
    refine held_take 11 rfl (by kernel_rfl) (by kernel_rfl) (by kernel_rfl) (.bool true) (fun _ _ _ h => h) (by kernel_rfl) (fun w' _ => exec_eqlS _ _ rfl X (by kernel_rfl) (by kernel_rfl) w') hS9 ?_
    simp only [Act.put, List.setIfInBounds_toArray, List.set_cons_zero, List.set_cons_succ]
    refine held_take 12 rfl (by kernel_rfl) (by kernel_rfl) (by kernel_rfl) (.bool true) (fun _ _ _ h => h) (by kernel_rfl) (fun _ _ => by kernel_rfl) hS9 ?_
    simp only [Act.put, List.setIfInBounds_toArray, List.set_cons_zero, List.set_cons_succ]
    refine held_take 13 rfl (by kernel_rfl) (by kernel_rfl) (by kernel_rfl) (.bool true) (fun _ _ _ h => h) (by kernel_rfl) (fun _ _ => by kernel_rfl) hS9 ?_
    simp only [Act.put, List.setIfInBounds_toArray, List.set_cons_zero, List.set_cons_succ]
    refine wpAnyH_done (by kernel_rfl) ?_ _
    rename_i hK
    exact hK _ _ (wp_ret (bodyPost_ret (v := .bool true) (by kernel_rfl) (by kernel_rfl) ⟨rfl, hB3.trans (hS9.mono hs3)⟩))
  · have hlt : (20000 : Int) < (n : Int) := by omega
    go_enter Try.func3, Try.ntmps3
    go_upto_region 1 with fail
    refine wp_region_lit ?_
    refine sl_call rfl 7 #[] (by kernel_rfl) (R := fun v w' => v = .bool true ∧ Below w.heap.size w w') ((fixed_calls w).mono fun e w' h => ⟨_, h.1, rfl, h.2⟩) ?_
    rintro _ w1 ⟨rfl, hB1⟩
    refine sl_run rfl (.bool false) w1 (by kernel_rfl) ?_
    refine wpList_nil ?_
    simp only [Act.put, List.setIfInBounds_toArray, List.set_cons_zero, List.set_cons_succ]
    go_wp2_with fail
    go_ret
    exact ⟨rfl, hB1⟩
end Go.Proofs.Ytnaknnnobcnnfaa.Sha
