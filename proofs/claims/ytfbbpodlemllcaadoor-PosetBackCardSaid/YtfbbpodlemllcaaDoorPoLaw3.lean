/-
  The law PosetBuilds, walked.
-/
import Derived.Test.YtfbbpodlemllcaaDoorPoLaw5
import Derived.Test.YtfbbpodlemllcaaDoorPoRefs5
namespace Go.Proofs.YtfbbpodlemllcaaDoor
open Go.RowKit Go.Shelf
set_option linter.unusedVariables false
set_option linter.unusedSimpArgs false
set_option pp.maxSteps 50000

theorem buildS_len (n : Int) (pairs : List P2) : (buildS n pairs).1.length ≤ 64 := by
  unfold buildS
  cases h : tr (Fit n pairs) with
  | false => rw [if_neg (by decide)]; simp
  | true =>
    have hf := tr_iff.1 h
    rw [if_pos rfl]
    split
    · rw [clos_len]; have := hf.2.1; omega
    · simp
set_option maxRecDepth 100000 in
set_option maxHeartbeats 4000000 in
theorem lbuilds_calls (n : Int) (pairs : List P2) (A : Option Addr) (k c : Nat) (hk : k = pairs.length) (w : World) (ht : Tab w) (hy : Rw 2 encP w (.slice A k c) pairs) :
    Calls Tryd.prog 3 #[.int .i64 n, .slice A k c] w fun e w' => e = .returned (.bool true) ∧ Below w.heap.size w w' := by
  have hk' : Hid (k = pairs.length) := hk
  have hTw : Hid (Tab w) := ht
  have hyw : Hid (Rw 2 encP w (.slice A k c) pairs) := hy
  have hBw : Hid (Below w.heap.size w w) := Below.refl _ _
  have hw0 : Hid (0 < w.heap.size) := ht.1
  obtain ⟨R, hR⟩ : ∃ R, R = buildS n pairs := ⟨_, rfl⟩
  have hRl : R.1.length ≤ 64 := by rw [hR]; exact buildS_len _ _
  obtain ⟨up, er⟩ := R
  simp only at hRl
  clear hk ht hy
  go_enter Tryd.func3, Tryd.ntmps3
  go_upto_region 1 with fail
  refine wp_region_lit ?_
  refine sg_call (by kernel_rfl) 11 #[] (by kernel_rfl) (R := fun v w' => v = .bool true ∧ Below w.heap.size w w') ((fixed_calls w hTw.out).mono fun e w' h => by
    obtain ⟨h1, h2⟩ := h
    skip
    exact ⟨_, h1, rfl, h2⟩) ?_
  rintro _ w1 ⟨rfl, hb⟩
  simp only [Act.put, List.setIfInBounds_toArray, List.set_cons_zero, List.set_cons_succ]
  have hBw1 : Hid (Below w.heap.size w w1) := hBw.out.trans ((hb).mono (hBw.out).size)
  have hTw1 : Hid (Tab w1) := (hTw.out).below (hTw.out).1 hb
  have hyw1 : Hid (Rw 2 encP w1 (.slice A k c) pairs) := (hyw.out).below hb
  clear hBw hTw hyw
  clear hb
  refine sl_run rfl (.bool false) w1 (by kernel_rfl) ?_
  simp only [Act.put, List.setIfInBounds_toArray, List.set_cons_zero, List.set_cons_succ]
  refine wpList_nil ?_
  by_cases hbig : 500 < k
  · have hI : (500 : Int) < (k : Int) := by omega
    have hBf := hBw1
    clear hyw1 hTw1
    go_wp2_with fail
    go_ret
    exact ⟨rfl, hBf.out⟩
  have hI : ¬ (500 : Int) < (k : Int) := by omega
  go_upto_region 5 with fail
  refine wp_region_lit ?_
  refine sl_run rfl (.int .i64 n) w1 (by kernel_rfl) ?_
  simp only [Act.put, List.setIfInBounds_toArray, List.set_cons_zero, List.set_cons_succ]
  refine sg_run (by kernel_rfl) (.slice (some ⟨w1.heap.size, 0, none⟩) 0 0) (w1.alloc (.cells #[] 44)) (by kernel_rfl) ?_
  simp only [Act.put, List.setIfInBounds_toArray, List.set_cons_zero, List.set_cons_succ]
  have hbn_w2 : Below w1.heap.size w1 (w1.alloc (.cells #[] 44)) := (Below.refl _ _).alloc (Nat.le_refl _) _
  have hown0_w2 : (w1.alloc (.cells #[] 44)).ownsRow w1.heap.size 44 2 (.slice (some ⟨w1.heap.size, 0, none⟩) 0 0) 0 [] := World.ownsRow_made _ _ 0 (Nat.le_refl _) (by decide) (by simp)
  obtain ⟨x_w2, hx_w2⟩ : ∃ x, x = (w1.alloc (.cells #[] 44)) := ⟨_, rfl⟩
  obtain ⟨g_w2, hg_w2⟩ : ∃ g, g = w1.heap.size := ⟨_, rfl⟩
  rw [← hx_w2] at hown0_w2 hbn_w2 ⊢
  rw [← hg_w2] at hown0_w2 ⊢
  have hgle_w2 : g_w2 ≤ x_w2.heap.size := by rw [hg_w2]; exact hbn_w2.size
  have hrw_w2 := (hyw1.out).below hbn_w2
  clear hx_w2
  refine sg_run (by kernel_rfl) (.slice A k c) x_w2 (by kernel_rfl) ?_
  simp only [Act.put, List.setIfInBounds_toArray, List.set_cons_zero, List.set_cons_succ]
  obtain ⟨i44, hi_w2, hz0_w2, hz1_w2, hz2_w2⟩ := info_parts inf44
  refine BigFrame.wpList_want (by kernel_rfl) fun _ hK => ?_
  refine wp_appendRw 22 44 16 i44 z44 Tryd.underlying22 hi_w2 hz0_w2 hz1_w2 hz2_w2 rfl (by decide) encP_size encP_ones _ _ rfl g_w2 (.slice (some ⟨g_w2, 0, none⟩) 0 0) [] pairs (by kernel_rfl) hown0_w2 _ (by kernel_rfl) hrw_w2 (by simp; have := hk'.out; omega) (by simp; have := hk'.out; omega) hgle_w2 ?_
  intro v_w2 w2 hown_w2 hgrow_w2
  refine hK _ _ ?_
  clear hK
  simp only [Act.put, List.setIfInBounds_toArray, List.set_cons_zero, List.set_cons_succ]
  rw [List.nil_append] at hown_w2
  have hcp := Rw.own (enc := encP) encP_size (by decide) hown_w2
  obtain ⟨A_w2, c_w2, rfl⟩ := own_form hown_w2
  have hcw2 : Hid (Rw 2 encP w2 (.slice A_w2 pairs.length c_w2) pairs) := hcp
  have hb : Below w1.heap.size w1 w2 := hbn_w2.grown hgrow_w2 hbn_w2.size (fun q hq => by simp [Value.ownBlock] at hq; omega)
  clear hown_w2 hgrow_w2 hown0_w2 hbn_w2 hgle_w2 hrw_w2 hi_w2 hz0_w2 hz1_w2 hz2_w2 hcp hg_w2
  have hBw2 : Hid (Below w.heap.size w w2) := hBw1.out.trans ((hb).mono (hBw1.out).size)
  have hTw2 : Hid (Tab w2) := (hTw1.out).below (hTw1.out).1 hb
  have hyw2 : Hid (Rw 2 encP w2 (.slice A k c) pairs) := (hyw1.out).below hb
  clear hBw1 hTw1 hyw1
  clear hb
  refine sg_call (by kernel_rfl) 12 #[.int .i64 n, .slice A_w2 pairs.length c_w2] (by kernel_rfl) (R := fun v w' => ∃ A5 c5, v = .tuple #[.slice A5 up.length c5, .int .i64 (er : Int)] ∧ Ms w' (.slice A5 up.length c5) up ∧ Below w2.heap.size w2 w') ((build_calls n pairs A_w2 pairs.length c_w2 rfl (by have := hk'.out; omega) w2 hTw2.out hcw2.out).mono fun e w' h => by
    obtain ⟨v, h1, h2, h3⟩ := h
    rw [← hR] at h1 h2
    obtain ⟨A5, c5, rfl⟩ := h2.form
    exact ⟨_, h1, A5, c5, rfl, h2, h3⟩) ?_
  rintro _ w3 ⟨A5, c5, rfl, hms5, hb⟩
  simp only [Act.put, List.setIfInBounds_toArray, List.set_cons_zero, List.set_cons_succ]
  have hBw3 : Hid (Below w.heap.size w w3) := hBw2.out.trans ((hb).mono (hBw2.out).size)
  have hTw3 : Hid (Tab w3) := (hTw2.out).below (hTw2.out).1 hb
  have hyw3 : Hid (Rw 2 encP w3 (.slice A k c) pairs) := (hyw2.out).below hb
  have hcw3 : Hid (Rw 2 encP w3 (.slice A_w2 pairs.length c_w2) pairs) := (hcw2.out).below hb
  clear hBw2 hTw2 hyw2 hcw2
  clear hb
  have hm5w3 : Hid (Ms w3 (.slice A5 up.length c5) up) := hms5
  clear hms5
  refine sl_run rfl (.tuple #[.slice A5 up.length c5, .int .i64 (er : Int)]) w3 (by kernel_rfl) ?_
  simp only [Act.put, List.setIfInBounds_toArray, List.set_cons_zero, List.set_cons_succ]
  refine sl_run rfl (.slice A5 up.length c5) w3 (by kernel_rfl) ?_
  simp only [Act.put, List.setIfInBounds_toArray, List.set_cons_zero, List.set_cons_succ]
  refine sl_run rfl (.int .i64 (er : Int)) w3 (by kernel_rfl) ?_
  simp only [Act.put, List.setIfInBounds_toArray, List.set_cons_zero, List.set_cons_succ]
  refine sl_run rfl (.slice A5 up.length c5) w3 (by kernel_rfl) ?_
  simp only [Act.put, List.setIfInBounds_toArray, List.set_cons_zero, List.set_cons_succ]
  refine sl_run rfl (.int .i64 (er : Int)) w3 (by kernel_rfl) ?_
  simp only [Act.put, List.setIfInBounds_toArray, List.set_cons_zero, List.set_cons_succ]
  refine wpList_nil ?_
  go_upto_region 6 with fail
  refine wp_region_lit ?_
  refine sl_run rfl (.int .i64 n) w3 (by kernel_rfl) ?_
  simp only [Act.put, List.setIfInBounds_toArray, List.set_cons_zero, List.set_cons_succ]
  refine sl_run rfl (.slice A k c) w3 (by kernel_rfl) ?_
  simp only [Act.put, List.setIfInBounds_toArray, List.set_cons_zero, List.set_cons_succ]
  refine sg_call (by kernel_rfl) 13 #[.int .i64 n, .slice A k c] (by kernel_rfl) (R := fun v w' => ∃ A6 c6, v = .tuple #[.slice A6 up.length c6, .int .i64 (er : Int)] ∧ Ms w' (.slice A6 up.length c6) up ∧ Below w3.heap.size w3 w') ((rbuild_calls n pairs A k c hk'.out (by omega) w3 hyw3.out).mono fun e w' h => by
    obtain ⟨v, h1, h2, h3⟩ := h
    rw [← hR] at h1 h2
    obtain ⟨A6, c6, rfl⟩ := h2.form
    exact ⟨_, h1, A6, c6, rfl, h2, h3⟩) ?_
  rintro _ w4 ⟨A6, c6, rfl, hms6, hb⟩
  simp only [Act.put, List.setIfInBounds_toArray, List.set_cons_zero, List.set_cons_succ]
  have hBw4 : Hid (Below w.heap.size w w4) := hBw3.out.trans ((hb).mono (hBw3.out).size)
  have hTw4 : Hid (Tab w4) := (hTw3.out).below (hTw3.out).1 hb
  have hyw4 : Hid (Rw 2 encP w4 (.slice A k c) pairs) := (hyw3.out).below hb
  have hcw4 : Hid (Rw 2 encP w4 (.slice A_w2 pairs.length c_w2) pairs) := (hcw3.out).below hb
  have hm5w4 : Hid (Ms w4 (.slice A5 up.length c5) up) := (hm5w3.out).below hb
  clear hBw3 hTw3 hyw3 hcw3 hm5w3
  clear hb
  have hm6w4 : Hid (Ms w4 (.slice A6 up.length c6) up) := hms6
  clear hms6
  refine sl_run rfl (.tuple #[.slice A6 up.length c6, .int .i64 (er : Int)]) w4 (by kernel_rfl) ?_
  simp only [Act.put, List.setIfInBounds_toArray, List.set_cons_zero, List.set_cons_succ]
  refine sl_run rfl (.slice A6 up.length c6) w4 (by kernel_rfl) ?_
  simp only [Act.put, List.setIfInBounds_toArray, List.set_cons_zero, List.set_cons_succ]
  refine sl_run rfl (.int .i64 (er : Int)) w4 (by kernel_rfl) ?_
  simp only [Act.put, List.setIfInBounds_toArray, List.set_cons_zero, List.set_cons_succ]
  refine sl_run rfl (.slice A6 up.length c6) w4 (by kernel_rfl) ?_
  simp only [Act.put, List.setIfInBounds_toArray, List.set_cons_zero, List.set_cons_succ]
  refine sl_run rfl (.int .i64 (er : Int)) w4 (by kernel_rfl) ?_
  simp only [Act.put, List.setIfInBounds_toArray, List.set_cons_zero, List.set_cons_succ]
  refine wpList_nil ?_
  go_upto_region 7 with fail
  refine wp_region_lit ?_
  refine sl_run rfl (.int .i64 (er : Int)) w4 (by kernel_rfl) ?_
  simp only [Act.put, List.setIfInBounds_toArray, List.set_cons_zero, List.set_cons_succ]
  refine sl_run rfl (.int .i64 (er : Int)) w4 (by kernel_rfl) ?_
  simp only [Act.put, List.setIfInBounds_toArray, List.set_cons_zero, List.set_cons_succ]
  refine sl_run rfl (.bool ((er : Int) == (er : Int))) w4 (exec_eqI _ _ rfl (er : Int) (er : Int) (by kernel_rfl) (by kernel_rfl)) ?_
  simp only [Act.put, List.setIfInBounds_toArray, List.set_cons_zero, List.set_cons_succ]
  rw [beq_self_eq_true]
  refine sl_run rfl (.bool true) w4 (by kernel_rfl) ?_
  simp only [Act.put, List.setIfInBounds_toArray, List.set_cons_zero, List.set_cons_succ]
  refine sg_run (by kernel_rfl) (.slice A5 up.length c5) w4 (by kernel_rfl) ?_
  simp only [Act.put, List.setIfInBounds_toArray, List.set_cons_zero, List.set_cons_succ]
  refine sg_run (by kernel_rfl) (.slice A6 up.length c6) w4 (by kernel_rfl) ?_
  simp only [Act.put, List.setIfInBounds_toArray, List.set_cons_zero, List.set_cons_succ]
  refine sg_call (by kernel_rfl) 14 #[.slice A5 up.length c5, .slice A6 up.length c6] (by kernel_rfl) (R := fun v w' => v = .bool true ∧ Below w4.heap.size w4 w') ((masks_calls up up A5 A6 up.length c5 up.length c6 rfl rfl (by omega) w4 hm5w4.out hm6w4.out).mono fun e w' h => by
    obtain ⟨h1, h2⟩ := h
    rw [decide_eq_true rfl] at h1
    exact ⟨_, h1, rfl, h2⟩) ?_
  rintro _ w5 ⟨rfl, hb⟩
  simp only [Act.put, List.setIfInBounds_toArray, List.set_cons_zero, List.set_cons_succ]
  have hBw5 : Hid (Below w.heap.size w w5) := hBw4.out.trans ((hb).mono (hBw4.out).size)
  have hTw5 : Hid (Tab w5) := (hTw4.out).below (hTw4.out).1 hb
  have hyw5 : Hid (Rw 2 encP w5 (.slice A k c) pairs) := (hyw4.out).below hb
  have hcw5 : Hid (Rw 2 encP w5 (.slice A_w2 pairs.length c_w2) pairs) := (hcw4.out).below hb
  have hm5w5 : Hid (Ms w5 (.slice A5 up.length c5) up) := (hm5w4.out).below hb
  have hm6w5 : Hid (Ms w5 (.slice A6 up.length c6) up) := (hm6w4.out).below hb
  clear hBw4 hTw4 hyw4 hcw4 hm5w4 hm6w4
  clear hb
  refine sg_run (by kernel_rfl) (.bool true) w5 (by kernel_rfl) ?_
  simp only [Act.put, List.setIfInBounds_toArray, List.set_cons_zero, List.set_cons_succ]
  refine sg_run (by kernel_rfl) (.bool true) w5 (by kernel_rfl) ?_
  simp only [Act.put, List.setIfInBounds_toArray, List.set_cons_zero, List.set_cons_succ]
  refine wpList_nil ?_
  have hBf := hBw5
  clear hyw5 hcw5 hTw5 hm5w5 hm6w5
  go_wp2_with fail
  go_ret
  exact ⟨rfl, hBf.out⟩
end Go.Proofs.YtfbbpodlemllcaaDoor
