/-
  The law PosetAsks, walked.
-/
import Derived.Test.YtfbbpodlemllcaaDoorPoLaw4
import Derived.Test.YtfbbpodlemllcaaDoorPoRefs3
namespace Go.Proofs.YtfbbpodlemllcaaDoor
open Go.RowKit Go.Shelf
set_option linter.unusedVariables false
set_option linter.unusedSimpArgs false
set_option pp.maxSteps 50000

theorem exec_eqI {o : Oper} {a : Act} {w : World} (x y : Operand) (ho : o.op = .binOp .eql 3 x y 3) (u v : Int) (hx : a.eval x = .int .i64 u) (hy : a.eval y = .int .i64 v) : (execOp a.eval o).run Tryd.prog w = .ok (.value (.bool (u == v))) w := by
  unfold execOp
  simp [ho, hx, hy, eqGuard, binOp_eql]
set_option maxRecDepth 100000 in
set_option maxHeartbeats 4000000 in
theorem lasks_calls (up : List Nat) (hs : Small up) (A : Option Addr) (n c : Nat) (hn : n = up.length) (hnb : n * 8 ≤ 140737488351232) (a b : Int) (w : World) (ht : Tab w) (hy : Ms w (.slice A n c) up) :
    Calls Tryd.prog 5 #[.slice A n c, .int .i64 a, .int .i64 b] w fun e w' => e = .returned (.bool true) ∧ Below w.heap.size w w' := by
  have hn' : Hid (n = up.length) := hn
  have hTw : Hid (Tab w) := ht
  have hyw : Hid (Ms w (.slice A n c) up) := hy
  have hBw : Hid (Below w.heap.size w w) := Below.refl _ _
  have hw0 : Hid (0 < w.heap.size) := ht.1
  obtain ⟨ra, hra⟩ : ∃ r, r = tr (atS up a b) := ⟨_, rfl⟩
  obtain ⟨rb, hrb⟩ : ∃ r, r = aboveS up a := ⟨_, rfl⟩
  obtain ⟨rc, hrc⟩ : ∃ r, r = belowS up a := ⟨_, rfl⟩
  obtain ⟨rj, hrj⟩ : ∃ r : Nat, r = (joinS up a b).getD 0 := ⟨_, rfl⟩
  obtain ⟨rk, hrk⟩ : ∃ r, r = (joinS up a b).isSome := ⟨_, rfl⟩
  clear hn ht hy
  go_enter Tryd.func5, Tryd.ntmps5
  go_upto_region 1 with fail
  refine wp_region_lit ?_
  refine sg_run (by kernel_rfl) (.slice (some ⟨w.heap.size, 0, none⟩) 0 0) (w.alloc (.cells #[] 36)) (by kernel_rfl) ?_
  simp only [Act.put, List.setIfInBounds_toArray, List.set_cons_zero, List.set_cons_succ]
  have hbn_w1 : Below w.heap.size w (w.alloc (.cells #[] 36)) := (Below.refl _ _).alloc (Nat.le_refl _) _
  have hown0_w1 : (w.alloc (.cells #[] 36)).ownsRow w.heap.size 36 1 (.slice (some ⟨w.heap.size, 0, none⟩) 0 0) 0 [] := World.ownsRow_made _ _ 0 (Nat.le_refl _) (by decide) (by simp)
  obtain ⟨x_w1, hx_w1⟩ : ∃ x, x = (w.alloc (.cells #[] 36)) := ⟨_, rfl⟩
  obtain ⟨g_w1, hg_w1⟩ : ∃ g, g = w.heap.size := ⟨_, rfl⟩
  rw [← hx_w1] at hown0_w1 hbn_w1 ⊢
  rw [← hg_w1] at hown0_w1 ⊢
  have hgle_w1 : g_w1 ≤ x_w1.heap.size := by rw [hg_w1]; exact hbn_w1.size
  have hrw_w1 := (hyw.out).below hbn_w1
  clear hx_w1
  refine sg_run (by kernel_rfl) (.slice A n c) x_w1 (by kernel_rfl) ?_
  simp only [Act.put, List.setIfInBounds_toArray, List.set_cons_zero, List.set_cons_succ]
  obtain ⟨i36, hi_w1, hz0_w1, hz1_w1, hz2_w1⟩ := info_parts inf36
  refine BigFrame.wpList_want (by kernel_rfl) fun _ hK => ?_
  refine wp_appendRw 24 36 8 i36 (.int .u64 0) Tryd.underlying24 hi_w1 hz0_w1 hz1_w1 hz2_w1 rfl (by decide) encM_size encM_ones _ _ rfl g_w1 (.slice (some ⟨g_w1, 0, none⟩) 0 0) [] up (by kernel_rfl) hown0_w1 _ (by kernel_rfl) hrw_w1 (by simp; have := hn'.out; omega) (by simp; have := hn'.out; omega) hgle_w1 ?_
  intro v_w1 w1 hown_w1 hgrow_w1
  refine hK _ _ ?_
  clear hK
  simp only [Act.put, List.setIfInBounds_toArray, List.set_cons_zero, List.set_cons_succ]
  rw [List.nil_append] at hown_w1
  have hcp := Rw.own (enc := encM) encM_size (by decide) hown_w1
  obtain ⟨A_w1, c_w1, rfl⟩ := own_form hown_w1
  have hcw1 : Hid (Rw 1 encM w1 (.slice A_w1 up.length c_w1) up) := hcp
  have hb : Below w.heap.size w w1 := hbn_w1.grown hgrow_w1 hbn_w1.size (fun q hq => by simp [Value.ownBlock] at hq; omega)
  clear hown_w1 hgrow_w1 hown0_w1 hbn_w1 hgle_w1 hrw_w1 hi_w1 hz0_w1 hz1_w1 hz2_w1 hcp hg_w1
  have hBw1 : Hid (Below w.heap.size w w1) := hBw.out.trans ((hb).mono (hBw.out).size)
  have hTw1 : Hid (Tab w1) := (hTw.out).below (hTw.out).1 hb
  have hyw1 : Hid (Ms w1 (.slice A n c) up) := (hyw.out).below hb
  clear hBw hTw hyw
  clear hb
  refine sl_run rfl (.slice A_w1 up.length c_w1) w1 (by kernel_rfl) ?_
  simp only [Act.put, List.setIfInBounds_toArray, List.set_cons_zero, List.set_cons_succ]
  refine wpList_nil ?_
  go_upto_region 2 with fail
  refine wp_region_lit ?_
  refine sl_run rfl (.slice A_w1 up.length c_w1) w1 (by kernel_rfl) ?_
  simp only [Act.put, List.setIfInBounds_toArray, List.set_cons_zero, List.set_cons_succ]
  refine sl_run rfl (.int .i64 a) w1 (by kernel_rfl) ?_
  simp only [Act.put, List.setIfInBounds_toArray, List.set_cons_zero, List.set_cons_succ]
  refine sl_run rfl (.int .i64 b) w1 (by kernel_rfl) ?_
  simp only [Act.put, List.setIfInBounds_toArray, List.set_cons_zero, List.set_cons_succ]
  refine sg_call (by kernel_rfl) 17 #[.slice A_w1 up.length c_w1, .int .i64 a, .int .i64 b] (by kernel_rfl) (R := fun v w' => v = .tuple #[.int .i64 (rj : Int), .bool rk] ∧ Below w1.heap.size w1 w') ((join_calls up hs A_w1 up.length c_w1 rfl a b w1 hTw1.out hcw1.out).mono fun e w' h => by
    obtain ⟨h1, h2⟩ := h
    rw [← hrj, ← hrk] at h1
    exact ⟨_, h1, rfl, h2⟩) ?_
  rintro _ w2 ⟨rfl, hb⟩
  simp only [Act.put, List.setIfInBounds_toArray, List.set_cons_zero, List.set_cons_succ]
  have hBw2 : Hid (Below w.heap.size w w2) := hBw1.out.trans ((hb).mono (hBw1.out).size)
  have hTw2 : Hid (Tab w2) := (hTw1.out).below (hTw1.out).1 hb
  have hyw2 : Hid (Ms w2 (.slice A n c) up) := (hyw1.out).below hb
  have hcw2 : Hid (Ms w2 (.slice A_w1 up.length c_w1) up) := (hcw1.out).below hb
  clear hBw1 hTw1 hyw1 hcw1
  clear hb
  refine sl_run rfl (.tuple #[.int .i64 (rj : Int), .bool rk]) w2 (by kernel_rfl) ?_
  simp only [Act.put, List.setIfInBounds_toArray, List.set_cons_zero, List.set_cons_succ]
  refine sl_run rfl (.int .i64 (rj : Int)) w2 (by kernel_rfl) ?_
  simp only [Act.put, List.setIfInBounds_toArray, List.set_cons_zero, List.set_cons_succ]
  refine sl_run rfl (.bool rk) w2 (by kernel_rfl) ?_
  simp only [Act.put, List.setIfInBounds_toArray, List.set_cons_zero, List.set_cons_succ]
  refine sl_run rfl (.int .i64 (rj : Int)) w2 (by kernel_rfl) ?_
  simp only [Act.put, List.setIfInBounds_toArray, List.set_cons_zero, List.set_cons_succ]
  refine sl_run rfl (.bool rk) w2 (by kernel_rfl) ?_
  simp only [Act.put, List.setIfInBounds_toArray, List.set_cons_zero, List.set_cons_succ]
  refine wpList_nil ?_
  go_upto_region 3 with fail
  refine wp_region_lit ?_
  refine sl_run rfl (.slice A n c) w2 (by kernel_rfl) ?_
  simp only [Act.put, List.setIfInBounds_toArray, List.set_cons_zero, List.set_cons_succ]
  refine sl_run rfl (.int .i64 a) w2 (by kernel_rfl) ?_
  simp only [Act.put, List.setIfInBounds_toArray, List.set_cons_zero, List.set_cons_succ]
  refine sl_run rfl (.int .i64 b) w2 (by kernel_rfl) ?_
  simp only [Act.put, List.setIfInBounds_toArray, List.set_cons_zero, List.set_cons_succ]
  refine sg_call (by kernel_rfl) 18 #[.slice A n c, .int .i64 a, .int .i64 b] (by kernel_rfl) (R := fun v w' => v = .tuple #[.int .i64 (rj : Int), .bool rk] ∧ Below w2.heap.size w2 w') ((rjoin_calls up hs A n c hn'.out a b w2 hyw2.out).mono fun e w' h => by
    obtain ⟨h1, h2⟩ := h
    rw [← hrj, ← hrk] at h1
    exact ⟨_, h1, rfl, by rw [h2]; exact Below.refl _ _⟩) ?_
  rintro _ w3 ⟨rfl, hb⟩
  simp only [Act.put, List.setIfInBounds_toArray, List.set_cons_zero, List.set_cons_succ]
  have hBw3 : Hid (Below w.heap.size w w3) := hBw2.out.trans ((hb).mono (hBw2.out).size)
  have hTw3 : Hid (Tab w3) := (hTw2.out).below (hTw2.out).1 hb
  have hyw3 : Hid (Ms w3 (.slice A n c) up) := (hyw2.out).below hb
  have hcw3 : Hid (Ms w3 (.slice A_w1 up.length c_w1) up) := (hcw2.out).below hb
  clear hBw2 hTw2 hyw2 hcw2
  clear hb
  refine sl_run rfl (.tuple #[.int .i64 (rj : Int), .bool rk]) w3 (by kernel_rfl) ?_
  simp only [Act.put, List.setIfInBounds_toArray, List.set_cons_zero, List.set_cons_succ]
  refine sl_run rfl (.int .i64 (rj : Int)) w3 (by kernel_rfl) ?_
  simp only [Act.put, List.setIfInBounds_toArray, List.set_cons_zero, List.set_cons_succ]
  refine sl_run rfl (.bool rk) w3 (by kernel_rfl) ?_
  simp only [Act.put, List.setIfInBounds_toArray, List.set_cons_zero, List.set_cons_succ]
  refine sl_run rfl (.int .i64 (rj : Int)) w3 (by kernel_rfl) ?_
  simp only [Act.put, List.setIfInBounds_toArray, List.set_cons_zero, List.set_cons_succ]
  refine sl_run rfl (.bool rk) w3 (by kernel_rfl) ?_
  simp only [Act.put, List.setIfInBounds_toArray, List.set_cons_zero, List.set_cons_succ]
  refine wpList_nil ?_
  go_upto_region 4 with fail
  refine wp_region_lit ?_
  refine sg_call (by kernel_rfl) 11 #[] (by kernel_rfl) (R := fun v w' => v = .bool true ∧ Below w3.heap.size w3 w') ((fixed_calls w3 hTw3.out).mono fun e w' h => by
    obtain ⟨h1, h2⟩ := h
    skip
    exact ⟨_, h1, rfl, h2⟩) ?_
  rintro _ w4 ⟨rfl, hb⟩
  simp only [Act.put, List.setIfInBounds_toArray, List.set_cons_zero, List.set_cons_succ]
  have hBw4 : Hid (Below w.heap.size w w4) := hBw3.out.trans ((hb).mono (hBw3.out).size)
  have hTw4 : Hid (Tab w4) := (hTw3.out).below (hTw3.out).1 hb
  have hyw4 : Hid (Ms w4 (.slice A n c) up) := (hyw3.out).below hb
  have hcw4 : Hid (Ms w4 (.slice A_w1 up.length c_w1) up) := (hcw3.out).below hb
  clear hBw3 hTw3 hyw3 hcw3
  clear hb
  refine sg_run (by kernel_rfl) (.bool true) w4 (by kernel_rfl) ?_
  simp only [Act.put, List.setIfInBounds_toArray, List.set_cons_zero, List.set_cons_succ]
  refine sg_run (by kernel_rfl) (.slice A_w1 up.length c_w1) w4 (by kernel_rfl) ?_
  simp only [Act.put, List.setIfInBounds_toArray, List.set_cons_zero, List.set_cons_succ]
  refine sg_run (by kernel_rfl) (.int .i64 a) w4 (by kernel_rfl) ?_
  simp only [Act.put, List.setIfInBounds_toArray, List.set_cons_zero, List.set_cons_succ]
  refine sg_run (by kernel_rfl) (.int .i64 b) w4 (by kernel_rfl) ?_
  simp only [Act.put, List.setIfInBounds_toArray, List.set_cons_zero, List.set_cons_succ]
  refine sg_call (by kernel_rfl) 19 #[.slice A_w1 up.length c_w1, .int .i64 a, .int .i64 b] (by kernel_rfl) (R := fun v w' => v = .bool ra ∧ Below w4.heap.size w4 w') ((at_calls up hs A_w1 up.length c_w1 rfl a b w4 hTw4.out hcw4.out).mono fun e w' h => by
    obtain ⟨h1, h2⟩ := h
    rw [← hra] at h1
    exact ⟨_, h1, rfl, h2⟩) ?_
  rintro _ w5 ⟨rfl, hb⟩
  simp only [Act.put, List.setIfInBounds_toArray, List.set_cons_zero, List.set_cons_succ]
  have hBw5 : Hid (Below w.heap.size w w5) := hBw4.out.trans ((hb).mono (hBw4.out).size)
  have hTw5 : Hid (Tab w5) := (hTw4.out).below (hTw4.out).1 hb
  have hyw5 : Hid (Ms w5 (.slice A n c) up) := (hyw4.out).below hb
  have hcw5 : Hid (Ms w5 (.slice A_w1 up.length c_w1) up) := (hcw4.out).below hb
  clear hBw4 hTw4 hyw4 hcw4
  clear hb
  refine sg_run (by kernel_rfl) (.slice A n c) w5 (by kernel_rfl) ?_
  simp only [Act.put, List.setIfInBounds_toArray, List.set_cons_zero, List.set_cons_succ]
  refine sg_run (by kernel_rfl) (.int .i64 a) w5 (by kernel_rfl) ?_
  simp only [Act.put, List.setIfInBounds_toArray, List.set_cons_zero, List.set_cons_succ]
  refine sg_run (by kernel_rfl) (.int .i64 b) w5 (by kernel_rfl) ?_
  simp only [Act.put, List.setIfInBounds_toArray, List.set_cons_zero, List.set_cons_succ]
  refine sg_call (by kernel_rfl) 20 #[.slice A n c, .int .i64 a, .int .i64 b] (by kernel_rfl) (R := fun v w' => v = .bool ra ∧ Below w5.heap.size w5 w') ((rat_calls up hs A n c hn'.out a b w5 hyw5.out).mono fun e w' h => by
    obtain ⟨h1, h2⟩ := h
    rw [← hra] at h1
    exact ⟨_, h1, rfl, by rw [h2]; exact Below.refl _ _⟩) ?_
  rintro _ w6 ⟨rfl, hb⟩
  simp only [Act.put, List.setIfInBounds_toArray, List.set_cons_zero, List.set_cons_succ]
  have hBw6 : Hid (Below w.heap.size w w6) := hBw5.out.trans ((hb).mono (hBw5.out).size)
  have hTw6 : Hid (Tab w6) := (hTw5.out).below (hTw5.out).1 hb
  have hyw6 : Hid (Ms w6 (.slice A n c) up) := (hyw5.out).below hb
  have hcw6 : Hid (Ms w6 (.slice A_w1 up.length c_w1) up) := (hcw5.out).below hb
  clear hBw5 hTw5 hyw5 hcw5
  clear hb
  refine sg_run (by kernel_rfl) (.bool (ra == ra)) w6 (exec_eqB _ _ rfl ra ra (by kernel_rfl) (by kernel_rfl)) ?_
  simp only [Act.put, List.setIfInBounds_toArray, List.set_cons_zero, List.set_cons_succ]
  rw [beq_self_eq_true]
  refine sg_run (by kernel_rfl) (.bool true) w6 (by kernel_rfl) ?_
  simp only [Act.put, List.setIfInBounds_toArray, List.set_cons_zero, List.set_cons_succ]
  refine sg_run (by kernel_rfl) (.bool true) w6 (by kernel_rfl) ?_
  simp only [Act.put, List.setIfInBounds_toArray, List.set_cons_zero, List.set_cons_succ]
  refine sg_run (by kernel_rfl) (.slice A_w1 up.length c_w1) w6 (by kernel_rfl) ?_
  simp only [Act.put, List.setIfInBounds_toArray, List.set_cons_zero, List.set_cons_succ]
  refine sg_run (by kernel_rfl) (.int .i64 a) w6 (by kernel_rfl) ?_
  simp only [Act.put, List.setIfInBounds_toArray, List.set_cons_zero, List.set_cons_succ]
  refine sg_call (by kernel_rfl) 21 #[.slice A_w1 up.length c_w1, .int .i64 a] (by kernel_rfl) (R := fun v w' => v = .int .u64 (rb : Int) ∧ Below w6.heap.size w6 w') ((above_calls up hs A_w1 up.length c_w1 rfl a w6 hTw6.out hcw6.out).mono fun e w' h => by
    obtain ⟨h1, h2⟩ := h
    rw [← hrb] at h1
    exact ⟨_, h1, rfl, h2⟩) ?_
  rintro _ w7 ⟨rfl, hb⟩
  simp only [Act.put, List.setIfInBounds_toArray, List.set_cons_zero, List.set_cons_succ]
  have hBw7 : Hid (Below w.heap.size w w7) := hBw6.out.trans ((hb).mono (hBw6.out).size)
  have hTw7 : Hid (Tab w7) := (hTw6.out).below (hTw6.out).1 hb
  have hyw7 : Hid (Ms w7 (.slice A n c) up) := (hyw6.out).below hb
  have hcw7 : Hid (Ms w7 (.slice A_w1 up.length c_w1) up) := (hcw6.out).below hb
  clear hBw6 hTw6 hyw6 hcw6
  clear hb
  refine sg_run (by kernel_rfl) (.slice A n c) w7 (by kernel_rfl) ?_
  simp only [Act.put, List.setIfInBounds_toArray, List.set_cons_zero, List.set_cons_succ]
  refine sg_run (by kernel_rfl) (.int .i64 a) w7 (by kernel_rfl) ?_
  simp only [Act.put, List.setIfInBounds_toArray, List.set_cons_zero, List.set_cons_succ]
  refine sg_call (by kernel_rfl) 22 #[.slice A n c, .int .i64 a] (by kernel_rfl) (R := fun v w' => v = .int .u64 (rb : Int) ∧ Below w7.heap.size w7 w') ((rabove_calls up hs A n c hn'.out (by omega) a w7 hyw7.out).mono fun e w' h => by
    obtain ⟨h1, h2⟩ := h
    rw [← hrb] at h1
    exact ⟨_, h1, rfl, by rw [h2]; exact Below.refl _ _⟩) ?_
  rintro _ w8 ⟨rfl, hb⟩
  simp only [Act.put, List.setIfInBounds_toArray, List.set_cons_zero, List.set_cons_succ]
  have hBw8 : Hid (Below w.heap.size w w8) := hBw7.out.trans ((hb).mono (hBw7.out).size)
  have hTw8 : Hid (Tab w8) := (hTw7.out).below (hTw7.out).1 hb
  have hyw8 : Hid (Ms w8 (.slice A n c) up) := (hyw7.out).below hb
  have hcw8 : Hid (Ms w8 (.slice A_w1 up.length c_w1) up) := (hcw7.out).below hb
  clear hBw7 hTw7 hyw7 hcw7
  clear hb
  refine sg_run (by kernel_rfl) (.bool ((rb : Int) == (rb : Int))) w8 (exec_eqM _ _ rfl (rb : Int) (rb : Int) (by kernel_rfl) (by kernel_rfl)) ?_
  simp only [Act.put, List.setIfInBounds_toArray, List.set_cons_zero, List.set_cons_succ]
  rw [beq_self_eq_true]
  refine sg_run (by kernel_rfl) (.bool true) w8 (by kernel_rfl) ?_
  simp only [Act.put, List.setIfInBounds_toArray, List.set_cons_zero, List.set_cons_succ]
  refine sg_run (by kernel_rfl) (.bool true) w8 (by kernel_rfl) ?_
  simp only [Act.put, List.setIfInBounds_toArray, List.set_cons_zero, List.set_cons_succ]
  refine sg_run (by kernel_rfl) (.slice A_w1 up.length c_w1) w8 (by kernel_rfl) ?_
  simp only [Act.put, List.setIfInBounds_toArray, List.set_cons_zero, List.set_cons_succ]
  refine sg_run (by kernel_rfl) (.int .i64 a) w8 (by kernel_rfl) ?_
  simp only [Act.put, List.setIfInBounds_toArray, List.set_cons_zero, List.set_cons_succ]
  refine sg_call (by kernel_rfl) 23 #[.slice A_w1 up.length c_w1, .int .i64 a] (by kernel_rfl) (R := fun v w' => v = .int .u64 (rc : Int) ∧ Below w8.heap.size w8 w') ((below_calls up hs A_w1 up.length c_w1 rfl a w8 hTw8.out hcw8.out).mono fun e w' h => by
    obtain ⟨h1, h2⟩ := h
    rw [← hrc] at h1
    exact ⟨_, h1, rfl, h2⟩) ?_
  rintro _ w9 ⟨rfl, hb⟩
  simp only [Act.put, List.setIfInBounds_toArray, List.set_cons_zero, List.set_cons_succ]
  have hBw9 : Hid (Below w.heap.size w w9) := hBw8.out.trans ((hb).mono (hBw8.out).size)
  have hTw9 : Hid (Tab w9) := (hTw8.out).below (hTw8.out).1 hb
  have hyw9 : Hid (Ms w9 (.slice A n c) up) := (hyw8.out).below hb
  have hcw9 : Hid (Ms w9 (.slice A_w1 up.length c_w1) up) := (hcw8.out).below hb
  clear hBw8 hTw8 hyw8 hcw8
  clear hb
  refine sg_run (by kernel_rfl) (.slice A n c) w9 (by kernel_rfl) ?_
  simp only [Act.put, List.setIfInBounds_toArray, List.set_cons_zero, List.set_cons_succ]
  refine sg_run (by kernel_rfl) (.int .i64 a) w9 (by kernel_rfl) ?_
  simp only [Act.put, List.setIfInBounds_toArray, List.set_cons_zero, List.set_cons_succ]
  refine sg_call (by kernel_rfl) 24 #[.slice A n c, .int .i64 a] (by kernel_rfl) (R := fun v w' => v = .int .u64 (rc : Int) ∧ Below w9.heap.size w9 w') ((rbelow_calls up hs A n c hn'.out (by omega) a w9 hyw9.out).mono fun e w' h => by
    obtain ⟨h1, h2⟩ := h
    rw [← hrc] at h1
    exact ⟨_, h1, rfl, by rw [h2]; exact Below.refl _ _⟩) ?_
  rintro _ wA ⟨rfl, hb⟩
  simp only [Act.put, List.setIfInBounds_toArray, List.set_cons_zero, List.set_cons_succ]
  have hBwA : Hid (Below w.heap.size w wA) := hBw9.out.trans ((hb).mono (hBw9.out).size)
  have hTwA : Hid (Tab wA) := (hTw9.out).below (hTw9.out).1 hb
  have hywA : Hid (Ms wA (.slice A n c) up) := (hyw9.out).below hb
  have hcwA : Hid (Ms wA (.slice A_w1 up.length c_w1) up) := (hcw9.out).below hb
  clear hBw9 hTw9 hyw9 hcw9
  clear hb
  refine sg_run (by kernel_rfl) (.bool ((rc : Int) == (rc : Int))) wA (exec_eqM _ _ rfl (rc : Int) (rc : Int) (by kernel_rfl) (by kernel_rfl)) ?_
  simp only [Act.put, List.setIfInBounds_toArray, List.set_cons_zero, List.set_cons_succ]
  rw [beq_self_eq_true]
  refine sg_run (by kernel_rfl) (.bool true) wA (by kernel_rfl) ?_
  simp only [Act.put, List.setIfInBounds_toArray, List.set_cons_zero, List.set_cons_succ]
  refine sg_run (by kernel_rfl) (.bool true) wA (by kernel_rfl) ?_
  simp only [Act.put, List.setIfInBounds_toArray, List.set_cons_zero, List.set_cons_succ]
  refine sg_run (by kernel_rfl) (.int .i64 (rj : Int)) wA (by kernel_rfl) ?_
  simp only [Act.put, List.setIfInBounds_toArray, List.set_cons_zero, List.set_cons_succ]
  refine sg_run (by kernel_rfl) (.int .i64 (rj : Int)) wA (by kernel_rfl) ?_
  simp only [Act.put, List.setIfInBounds_toArray, List.set_cons_zero, List.set_cons_succ]
  refine sg_run (by kernel_rfl) (.bool ((rj : Int) == (rj : Int))) wA (exec_eqI _ _ rfl (rj : Int) (rj : Int) (by kernel_rfl) (by kernel_rfl)) ?_
  simp only [Act.put, List.setIfInBounds_toArray, List.set_cons_zero, List.set_cons_succ]
  rw [beq_self_eq_true]
  refine sg_run (by kernel_rfl) (.bool true) wA (by kernel_rfl) ?_
  simp only [Act.put, List.setIfInBounds_toArray, List.set_cons_zero, List.set_cons_succ]
  refine sg_run (by kernel_rfl) (.bool true) wA (by kernel_rfl) ?_
  simp only [Act.put, List.setIfInBounds_toArray, List.set_cons_zero, List.set_cons_succ]
  refine sg_run (by kernel_rfl) (.bool rk) wA (by kernel_rfl) ?_
  simp only [Act.put, List.setIfInBounds_toArray, List.set_cons_zero, List.set_cons_succ]
  refine sg_run (by kernel_rfl) (.bool rk) wA (by kernel_rfl) ?_
  simp only [Act.put, List.setIfInBounds_toArray, List.set_cons_zero, List.set_cons_succ]
  refine sg_run (by kernel_rfl) (.bool (rk == rk)) wA (exec_eqB _ _ rfl rk rk (by kernel_rfl) (by kernel_rfl)) ?_
  simp only [Act.put, List.setIfInBounds_toArray, List.set_cons_zero, List.set_cons_succ]
  rw [beq_self_eq_true]
  refine sg_run (by kernel_rfl) (.bool true) wA (by kernel_rfl) ?_
  simp only [Act.put, List.setIfInBounds_toArray, List.set_cons_zero, List.set_cons_succ]
  refine sg_run (by kernel_rfl) (.bool true) wA (by kernel_rfl) ?_
  simp only [Act.put, List.setIfInBounds_toArray, List.set_cons_zero, List.set_cons_succ]
  refine wpList_nil ?_
  have hBf := hBwA
  clear hywA hcwA hTwA
  go_wp2_with fail
  go_ret
  exact ⟨rfl, hBf.out⟩
end Go.Proofs.YtfbbpodlemllcaaDoor
