/-
  SHA-256: the sum of lists; the sum of a list; lists joined.
-/
import Derived.Test.YtnaknnnobcnnfaaShaObj
namespace Go.Proofs.Ytnaknnnobcnnfaa.Sha
open Go.RowKit
set_option linter.unusedVariables false
set_option linter.unusedSimpArgs false
set_option pp.maxSteps 50000
set_option maxRecDepth 100000 in
set_option maxHeartbeats 1000000 in
theorem parts_calls (ls : List (List Nat)) (hls : ∀ x ∈ ls, ∀ j, x.getD j 0 < 256) (hlen : ls.flatten.length ≤ 1000000000) (hn : ls.length ≤ 1000000) (A0 : Option Addr) (c : Nat) (w : World) (hy : Lists w (.slice A0 ls.length c) ls) :
    Calls Try.prog 16 #[.slice A0 ls.length c] w fun e w' => e = .returned (.agg (bytesC (sumB ls.flatten))) ∧ Below w.heap.size w w' := by
  go_enter Try.func16, Try.ntmps16
  go_upto_region 1 with fail
  generalize hW : World.alloc _ _ = W
  have hWs : W.heap.size = w.heap.size + 1 := by rw [← hW]; simp
  have hW0 : W.heap[w.heap.size]? = some (.cells (bytesC (zeros 32)) 24 (0, 0)) := by rw [← hW]; exact heap_alloc_new w _
  have hWB : Below w.heap.size w W := by rw [← hW]; exact (Below.refl _ _).alloc (Nat.le_refl _) _
  clear hW
  refine wp_region_lit ?_
  refine sl_call rfl 12 #[] (by kernel_rfl) (R := fun v w' => ∃ g, v = .pointer (some ⟨g, 0, none⟩) ∧ W.heap.size ≤ g ∧ Holds w' W.heap.size g (.slice none 0 0) [] ∧ Below W.heap.size W w') ((new_holds W).mono fun e w' h => by obtain ⟨g, h1, h2⟩ := h; exact ⟨_, h1, g, rfl, h2⟩) ?_
  rintro _ w2 ⟨g, rfl, hgW, hH, hB2⟩
  refine sl_run rfl (.pointer (some ⟨g, 0, none⟩)) w2 (by kernel_rfl) ?_
  refine wpList_nil ?_
  simp only [Act.put, List.setIfInBounds_toArray, List.set_cons_zero, List.set_cons_succ]
  obtain ⟨n, hnn⟩ : ∃ n, n = ls.length := ⟨_, rfl⟩
  have hn' : Hid (n = ls.length) := hnn
  have hyW : Hid (Lists W (.slice A0 n c) ls) := by rw [hnn]; exact hy.below hWB
  have hn6 : n ≤ 1000000 := by omega
  have hH0 : Holds w2 (w.heap.size + 1) g (.slice none 0 0) (ls.take 0).flatten := by rw [← hWs]; exact hH
  have hB0 : Hid (Below (w.heap.size + 1) W w2) := by rw [← hWs]; exact hB2
  have hg1 : w.heap.size + 1 ≤ g := by omega
  rw [← hnn]
  clear hy hH hB2 hnn
  go_wp2_with fail
  go_loopw [9] (fun u wr => ∃ (i : Nat) (v : Value), i ≤ n ∧ u = .int .i64 i ∧ Holds wr (w.heap.size + 1) g v (ls.take i).flatten ∧ Hid (Below (w.heap.size + 1) W wr)) (fun u _ => n - (intOf u).toNat)
  case atStart => exact ⟨0, .slice none 0 0, by omega, rfl, hH0, hB0⟩
  case round =>
    clear hH0 hB0
    obtain ⟨i, v, hi, rfl, hH, hB⟩ := hrel
    have hs : w.heap.size + 1 ≤ wr.heap.size := by have := Below.size hB.out; omega
    by_cases hlt : i < n
    · have hil : i < ls.length := by rw [← hn'.out]; exact hlt
      obtain ⟨q, o, y, rfl, hnc, hqs, hcy, hyy⟩ := hyW.out.elem i hil
      have hq : q < w.heap.size + 1 := by omega
      have hc1 : wr.cell? ⟨q, o + i, none⟩ = some y := by rw [hB.out.cell (by exact hq)]; exact hcy
      have hyb : ls.getD i [] ≠ [] → ∀ k, y.ownBlock = some k → k < w.heap.size + 1 := fun hl k hk => by have := hyy.lt hl k hk; omega
      have hy1 : Bytes wr y (ls.getD i []) := hyy.kept (Below.size hB.out) fun hl k hk => hB.out.block k (hyb hl k hk)
      have hyg : ls.getD i [] ≠ [] → y.ownBlock ≠ some g := fun hl e => by have := hyb hl g e; omega
      have hmem := listD_mem i hil
      have hiI : (i : Int) < (n : Int) := by omega
      go_upto_region 5 with fail
      refine wp_region_lit ?_
      refine sl_run rfl (.pointer (some ⟨g, 0, none⟩)) wr (by kernel_rfl) ?_
      refine sl_run rfl y wr (by kernel_rfl) ?_
      refine sl_call rfl 13 #[.pointer (some ⟨g, 0, none⟩), y] (by kernel_rfl) (R := fun u w' => ∃ v', Holds w' wr.heap.size g v' (ls.take (i + 1)).flatten ∧ Kept2 wr w' g v.ownBlock) ((write_holds (ls.take i).flatten (ls.getD i []) (flat_lt (take_lt hls i)) (hls _ hmem) (Nat.le_trans (flat_take_len ls i) hlen) (Nat.le_trans (elem_len ls i hil) hlen) v _ g wr hH y hy1 hyg).mono fun e w' h => ⟨_, h.1, by rw [flat_take ls i hil]; exact h.2⟩) ?_
      rintro u w5 ⟨v', hH5, hK5⟩
      refine wpList_nil ?_
      have hH6 : Holds w5 (w.heap.size + 1) g v' (ls.take (i + 1)).flatten := hH5.mono hs
      have hB6 : Hid (Below (w.heap.size + 1) W w5) := hB.out.trans (hK5.toBelow hg1 hs fun k hk => (hH.2.lt k hk).1)
      simp only [Act.put, List.setIfInBounds_toArray, List.set_cons_zero, List.set_cons_succ]
      clear hH hB hc1 hy1 hH5 hK5 hcy
      go_wp2_with fail
      go_roundw
      case rel => exact ⟨i + 1, v', by omega, by go_num, hH6, hB6⟩
      case measure => simp [intOf]; omega
    · have hni : ¬ (i : Int) < (n : Int) := by omega
      have hfull : ls.take i = ls := List.take_of_length_le (by have := hn'.out; omega)
      rw [hfull] at hH
      go_upto_region 7 with fail
      refine wp_region_lit ?_
      refine sl_run rfl (.pointer (some ⟨g, 0, none⟩)) wr (by kernel_rfl) ?_
      refine sl_call rfl 14 #[.pointer (some ⟨g, 0, none⟩)] (by kernel_rfl) (R := fun u w' => u = .agg (bytesC (sumB ls.flatten)) ∧ Below wr.heap.size wr w') ((sum_holds ls.flatten (flat_lt hls) hlen v _ g wr hH).mono fun e w' h => ⟨_, h.1, rfl, h.2⟩) ?_
      rintro _ w5 ⟨rfl, hB5⟩
      have hB6 : Below (w.heap.size + 1) W w5 := hB.out.trans (hB5.mono hs)
      have h50 : w5.heap[w.heap.size]? = some (.cells (bytesC (zeros 32)) 24 (0, 0)) := by rw [hB6.block _ (by omega)]; exact hW0
      refine wpList_store_row rfl 24 _ _ rfl w.heap.size (bytesC (sumB ls.flatten)) (by kernel_rfl) (by kernel_rfl) 24 _ h50 (by rw [bytesC_size, sumB_length]; kernel_rfl) (by rw [bytesC_size, bytesC_size, sumB_length]; rfl) (bytesC_one _) ?_
      refine wpList_nil ?_
      have hz := setRow_heap _ _ _ (bytesC (sumB ls.flatten)) _ _ h50
      have hzB : Below w.heap.size w (w5.setRow w.heap.size (bytesC (sumB ls.flatten))) := below_setRow (hWB.trans (hB6.mono (by omega))) (Nat.le_refl _) _
      rename_i hK
      exact hK _ _ (wp_ret (bodyPost_ret (results_cell_row rfl _ _ w.heap.size 24 (bytesC (sumB ls.flatten)) (0, 0) _ (by kernel_rfl) hz Try.underlying24 rfl (by rw [bytesC_size, sumB_length]; kernel_rfl)) (by kernel_rfl) ⟨rfl, hzB⟩))
/-- One list, as a row of one slice. -/
theorem lists_one {w : World} {y : Value} {l : List Nat} (hy : Bytes w y l) : Lists (w.alloc (.cells #[y] 22)) (.slice (some ⟨w.heap.size, 0, none⟩) 1 1) [l] := by
  refine .inr ⟨_, 0, _, rfl, Nat.le_refl _, by simp, fun i hi => ⟨y, ?_, ?_⟩⟩
  · have : i = 0 := by simpa using hi
    subst this
    rw [cell_of_row _ _ _ _ _ _ (heap_alloc_new w _)]; rfl
  · have : i = 0 := by simpa using hi
    subst this
    exact hy.alloc _
set_option maxRecDepth 100000 in
set_option maxHeartbeats 1000000 in
theorem one_calls (l : List Nat) (hl : ∀ j, l.getD j 0 < 256) (hlen : l.length ≤ 1000000000) (y : Value) (w : World) (hy : Bytes w y l) :
    Calls Try.prog 9 #[y] w fun e w' => e = .returned (.agg (bytesC (sumB l))) ∧ Below w.heap.size w w' := by
  obtain ⟨A, c, rfl⟩ := hy.form
  go_enter Try.func9, Try.ntmps9
  go_upto_region 1 with fail
  generalize hW : World.alloc _ _ = W
  have hWs : W.heap.size = w.heap.size + 1 := by rw [← hW]; simp
  have hW0 : W.heap[w.heap.size]? = some (.cells (bytesC (zeros 32)) 24 (0, 0)) := by rw [← hW]; exact heap_alloc_new w _
  have hWB : Below w.heap.size w W := by rw [← hW]; exact (Below.refl _ _).alloc (Nat.le_refl _) _
  clear hW
  have hyW := hy.below hWB
  refine wp_region_lit ?_
  refine sl_run rfl (.slice A l.length c) W (by kernel_rfl) ?_
  refine sl_run rfl (.slice (some ⟨W.heap.size, 0, none⟩) 1 1) (W.alloc (.cells #[.slice A l.length c] 22)) (by kernel_rfl) ?_
  have hlists := lists_one hyW
  have hBV : Below W.heap.size W (W.alloc (.cells #[.slice A l.length c] 22)) := (Below.refl _ _).alloc (Nat.le_refl _) _
  generalize World.alloc _ _ = V at hlists hBV
  refine sl_call rfl 16 #[.slice (some ⟨W.heap.size, 0, none⟩) 1 1] (by kernel_rfl) (R := fun u w' => u = .agg (bytesC (sumB l)) ∧ Below V.heap.size V w') ((parts_calls [l] (fun x hx => List.mem_singleton.1 hx ▸ hl) (by simpa using hlen) (by simp) _ _ V hlists).mono fun e w' h => ⟨_, h.1, by simp, h.2⟩) ?_
  rintro _ w5 ⟨rfl, hB5⟩
  have hB6 : Below W.heap.size W w5 := hBV.trans (hB5.mono hBV.size)
  have h50 : w5.heap[w.heap.size]? = some (.cells (bytesC (zeros 32)) 24 (0, 0)) := by rw [hB6.block _ (by omega)]; exact hW0
  refine wpList_store_row rfl 24 _ _ rfl w.heap.size (bytesC (sumB l)) (by kernel_rfl) (by kernel_rfl) 24 _ h50 (by rw [bytesC_size, sumB_length]; kernel_rfl) (by rw [bytesC_size, bytesC_size, sumB_length]; rfl) (bytesC_one _) ?_
  refine wpList_nil ?_
  have hz := setRow_heap _ _ _ (bytesC (sumB l)) _ _ h50
  have hzB : Below w.heap.size w (w5.setRow w.heap.size (bytesC (sumB l))) := below_setRow (hWB.trans (hB6.mono (by omega))) (Nat.le_refl _) _
  rename_i hK
  exact hK _ _ (wp_ret (bodyPost_ret (results_cell_row rfl _ _ w.heap.size 24 (bytesC (sumB l)) (0, 0) _ (by kernel_rfl) hz Try.underlying24 rfl (by rw [bytesC_size, sumB_length]; kernel_rfl)) (by kernel_rfl) ⟨rfl, hzB⟩))
set_option maxRecDepth 100000 in
set_option maxHeartbeats 1000000 in
/-- A hash that isn't there tells the sum of nothing. -/
theorem hnil_calls (w : World) : Calls Try.prog 14 #[.pointer none] w fun e w' => e = .returned (.agg (bytesC (sumB []))) ∧ Below w.heap.size w w' := by
  go_enter Try.func14, Try.ntmps14
  go_upto_region 2 with fail
  generalize hW : World.alloc _ _ = W
  have hWs : W.heap.size = w.heap.size + 1 := by rw [← hW]; simp
  have hW0 : W.heap[w.heap.size]? = some (.cells (bytesC (zeros 32)) 24 (0, 0)) := by rw [← hW]; exact heap_alloc_new w _
  have hWB : Below w.heap.size w W := by rw [← hW]; exact (Below.refl _ _).alloc (Nat.le_refl _) _
  clear hW
  refine wp_region_lit ?_
  refine sl_call rfl 9 #[.slice none 0 0] (by kernel_rfl) (R := fun u w' => u = .agg (bytesC (sumB [])) ∧ Below W.heap.size W w') ((one_calls [] (by simp) (by simp) _ W (Bytes.nil W)).mono fun e w' h => ⟨_, h.1, rfl, h.2⟩) ?_
  rintro _ w5 ⟨rfl, hB5⟩
  have h50 : w5.heap[w.heap.size]? = some (.cells (bytesC (zeros 32)) 24 (0, 0)) := by rw [hB5.block _ (by omega)]; exact hW0
  refine wpList_store_row rfl 24 _ _ rfl w.heap.size (bytesC (sumB [])) (by kernel_rfl) (by kernel_rfl) 24 _ h50 (by rw [bytesC_size, sumB_length]; kernel_rfl) (by rw [bytesC_size, bytesC_size, sumB_length]; rfl) (bytesC_one _) ?_
  refine wpList_nil ?_
  have hz := setRow_heap _ _ _ (bytesC (sumB [])) _ _ h50
  have hzB : Below w.heap.size w (w5.setRow w.heap.size (bytesC (sumB []))) := below_setRow (hWB.trans (hB5.mono (by omega))) (Nat.le_refl _) _
  rename_i hK
  refine hK _ _ (wp_ret ?_)
  change bodyPost Try.prog Try.f14 (fun e w' => e = .returned (.agg (bytesC (sumB []))) ∧ Below w.heap.size w w') .ret _ _
  exact (bodyPost_ret (results_cell_row rfl _ _ w.heap.size 24 (bytesC (sumB [])) (0, 0) _ (by kernel_rfl) hz Try.underlying24 rfl (by rw [bytesC_size, sumB_length]; kernel_rfl)) (by kernel_rfl) ⟨rfl, hzB⟩)
theorem wnil_calls (y : Value) (l : List Nat) (w : World) (hy : Bytes w y l) : Calls Try.prog 13 #[.pointer none, y] w fun e w' => e = .returned (.tuple #[]) ∧ w' = w := by
  obtain ⟨A, c, rfl⟩ := hy.form
  go_enter Try.func13, Try.ntmps13
  go_wp2
  exact bodyPost_ret (by kernel_rfl) (by kernel_rfl) ⟨rfl, rfl⟩
set_option maxRecDepth 100000 in
set_option maxHeartbeats 1000000 in
/-- Lists joined: a list of the call's own. -/
theorem joined_calls (ls : List (List Nat)) (hlen : ls.flatten.length ≤ 1000000000) (hn : ls.length ≤ 1000000) (A0 : Option Addr) (c : Nat) (w : World) (hy : Lists w (.slice A0 ls.length c) ls) :
    Calls Try.prog 15 #[.slice A0 ls.length c] w fun e w' => ∃ v, e = .returned v ∧ Bytes w' v ls.flatten ∧ Below w.heap.size w w' := by
  obtain ⟨n, hnn⟩ : ∃ n, n = ls.length := ⟨_, rfl⟩
  have hn' : Hid (n = ls.length) := hnn
  have hyW : Hid (Lists w (.slice A0 n c) ls) := by rw [hnn]; exact hy
  have hn6 : n ≤ 1000000 := by omega
  rw [← hnn]
  clear hy hnn
  go_enter Try.func15, Try.ntmps15
  go_wp2_with fail
  go_loopw [3, 4] (fun v u wr => ∃ i : Nat, i ≤ n ∧ u = .int .i64 i ∧ wr.ownsRow w.heap.size 5 1 v (ls.take i).flatten.length (vals (ls.take i).flatten) ∧ Hid (Below w.heap.size w wr)) (fun _ u _ => n - (intOf u).toNat)
  case atStart => exact ⟨0, by omega, rfl, World.ownsRow_nil _ _ _ _, Below.refl _ _⟩
  case round =>
    obtain ⟨i, hi, rfl, hown, hB⟩ := hrel
    have hs : w.heap.size ≤ wr.heap.size := Below.size hB.out
    by_cases hlt : i < n
    · have hil : i < ls.length := by rw [← hn'.out]; exact hlt
      obtain ⟨q, o, y, rfl, hnc, hqs, hcy, hyy⟩ := hyW.out.elem i hil
      have hc1 : wr.cell? ⟨q, o + i, none⟩ = some y := by rw [hB.out.cell (by exact hqs)]; exact hcy
      have hy1 : Bytes wr y (ls.getD i []) := hyy.below hB.out
      have hiI : (i : Int) < (n : Int) := by omega
      go_wp2_with (at_builtin; refine append22 rfl _ _ rfl w.heap.size _ (ls.take i).flatten (ls.getD i []) rfl hown y rfl hy1 (by have := flat_take_len ls i; have := elem_len ls i hil; omega) hs ?_; intro v' w5 hown5 hgrow5 hnil5)
      rw [← flat_take ls i hil] at hown5
      have hB6 : Hid (Below w.heap.size w w5) := Below.grown hB.out hgrow5 hs (fun k hk => (hown.lt k hk).1)
      clear hown hB hc1 hy1 hcy hgrow5 hnil5
      go_roundw
      case rel => exact ⟨i + 1, by omega, by go_num, hown5, hB6⟩
      case measure => simp [intOf]; omega
    · have hni : ¬ (i : Int) < (n : Int) := by omega
      have hfull : ls.take i = ls := List.take_of_length_le (by have := hn'.out; omega)
      rw [hfull] at hown
      go_wp2_with fail
      go_ret
      exact ⟨_, rfl, Bytes.own hown, hB.out⟩
end Go.Proofs.Ytnaknnnobcnnfaa.Sha
