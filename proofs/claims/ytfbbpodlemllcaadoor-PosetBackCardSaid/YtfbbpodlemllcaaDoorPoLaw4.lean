/-
  The law PosetRight, walked.
-/
import Derived.Test.YtfbbpodlemllcaaDoorPoFixed
namespace Go.Proofs.YtfbbpodlemllcaaDoor
open Go.RowKit Go.Shelf
set_option linter.unusedVariables false
set_option linter.unusedSimpArgs false
set_option pp.maxSteps 50000

theorem exec_eqB {o : Oper} {a : Act} {w : World} (x y : Operand) (ho : o.op = .binOp .eql 4 x y 4) (u v : Bool) (hx : a.eval x = .bool u) (hy : a.eval y = .bool v) : (execOp a.eval o).run Tryd.prog w = .ok (.value (.bool (u == v))) w := by
  unfold execOp
  simp only [ho, hx, hy]
  cases u <;> cases v <;> kernel_rfl
set_option maxRecDepth 100000 in
set_option maxHeartbeats 4000000 in
theorem lright_calls (up : List Nat) (hs : Small up) (A : Option Addr) (n c : Nat) (hn : n = up.length) (hnb : n * 8 ≤ 140737488351232) (w : World) (ht : Tab w) (hy : Ms w (.slice A n c) up) :
    Calls Tryd.prog 4 #[.slice A n c] w fun e w' => e = .returned (.bool true) ∧ Below w.heap.size w w' := by
  have hn' : Hid (n = up.length) := hn
  have hTw : Hid (Tab w) := ht
  have hyw : Hid (Ms w (.slice A n c) up) := hy
  have hBw : Hid (Below w.heap.size w w) := Below.refl _ _
  have hw0 : Hid (0 < w.heap.size) := ht.1
  obtain ⟨rr, hrr⟩ : ∃ r, r = tr (Ord up) := ⟨_, rfl⟩
  clear hn ht hy
  go_enter Tryd.func4, Tryd.ntmps4
  go_upto_region 1 with fail
  refine wp_region_lit ?_
  refine sg_call (by kernel_rfl) 11 #[] (by kernel_rfl) (R := fun v w' => v = .bool true ∧ Below w.heap.size w w') ((fixed_calls w hTw.out).mono fun e w' h => by
    obtain ⟨h1, h2⟩ := h
    skip
    exact ⟨_, h1, rfl, h2⟩) ?_
  rintro _ w1 ⟨rfl, hb⟩
  simp only [Act.put, List.setIfInBounds_toArray, List.set_cons_zero, List.set_cons_succ]
  have hBw1 : Hid (Below w.heap.size w w1) := hBw.out.trans ((hb).mono (hBw.out).size)
  have hTw1 : Hid (Tab w1) := (hTw.out).below (hTw.out).1 hb
  have hyw1 : Hid (Ms w1 (.slice A n c) up) := (hyw.out).below hb
  clear hBw hTw hyw
  clear hb
  refine sg_run (by kernel_rfl) (.bool true) w1 (by kernel_rfl) ?_
  simp only [Act.put, List.setIfInBounds_toArray, List.set_cons_zero, List.set_cons_succ]
  refine sg_run (by kernel_rfl) (.slice (some ⟨w1.heap.size, 0, none⟩) 0 0) (w1.alloc (.cells #[] 36)) (by kernel_rfl) ?_
  simp only [Act.put, List.setIfInBounds_toArray, List.set_cons_zero, List.set_cons_succ]
  have hbn_w2 : Below w1.heap.size w1 (w1.alloc (.cells #[] 36)) := (Below.refl _ _).alloc (Nat.le_refl _) _
  have hown0_w2 : (w1.alloc (.cells #[] 36)).ownsRow w1.heap.size 36 1 (.slice (some ⟨w1.heap.size, 0, none⟩) 0 0) 0 [] := World.ownsRow_made _ _ 0 (Nat.le_refl _) (by decide) (by simp)
  obtain ⟨x_w2, hx_w2⟩ : ∃ x, x = (w1.alloc (.cells #[] 36)) := ⟨_, rfl⟩
  obtain ⟨g_w2, hg_w2⟩ : ∃ g, g = w1.heap.size := ⟨_, rfl⟩
  rw [← hx_w2] at hown0_w2 hbn_w2 ⊢
  rw [← hg_w2] at hown0_w2 ⊢
  have hgle_w2 : g_w2 ≤ x_w2.heap.size := by rw [hg_w2]; exact hbn_w2.size
  have hrw_w2 := (hyw1.out).below hbn_w2
  clear hx_w2
  refine sg_run (by kernel_rfl) (.slice A n c) x_w2 (by kernel_rfl) ?_
  simp only [Act.put, List.setIfInBounds_toArray, List.set_cons_zero, List.set_cons_succ]
  obtain ⟨i36, hi_w2, hz0_w2, hz1_w2, hz2_w2⟩ := info_parts inf36
  refine BigFrame.wpList_want (by kernel_rfl) fun _ hK => ?_
  refine wp_appendRw 24 36 8 i36 (.int .u64 0) Tryd.underlying24 hi_w2 hz0_w2 hz1_w2 hz2_w2 rfl (by decide) encM_size encM_ones _ _ rfl g_w2 (.slice (some ⟨g_w2, 0, none⟩) 0 0) [] up (by kernel_rfl) hown0_w2 _ (by kernel_rfl) hrw_w2 (by simp; have := hn'.out; omega) (by simp; have := hn'.out; omega) hgle_w2 ?_
  intro v_w2 w2 hown_w2 hgrow_w2
  refine hK _ _ ?_
  clear hK
  simp only [Act.put, List.setIfInBounds_toArray, List.set_cons_zero, List.set_cons_succ]
  rw [List.nil_append] at hown_w2
  have hcp := Rw.own (enc := encM) encM_size (by decide) hown_w2
  obtain ⟨A_w2, c_w2, rfl⟩ := own_form hown_w2
  have hcw2 : Hid (Rw 1 encM w2 (.slice A_w2 up.length c_w2) up) := hcp
  have hb : Below w1.heap.size w1 w2 := hbn_w2.grown hgrow_w2 hbn_w2.size (fun q hq => by simp [Value.ownBlock] at hq; omega)
  clear hown_w2 hgrow_w2 hown0_w2 hbn_w2 hgle_w2 hrw_w2 hi_w2 hz0_w2 hz1_w2 hz2_w2 hcp hg_w2
  have hBw2 : Hid (Below w.heap.size w w2) := hBw1.out.trans ((hb).mono (hBw1.out).size)
  have hTw2 : Hid (Tab w2) := (hTw1.out).below (hTw1.out).1 hb
  have hyw2 : Hid (Ms w2 (.slice A n c) up) := (hyw1.out).below hb
  clear hBw1 hTw1 hyw1
  clear hb
  refine sg_call (by kernel_rfl) 15 #[.slice A_w2 up.length c_w2] (by kernel_rfl) (R := fun v w' => v = .bool rr ∧ Below w2.heap.size w2 w') ((rightT_calls up hs A_w2 up.length c_w2 rfl w2 hTw2.out hcw2.out).mono fun e w' h => by
    obtain ⟨h1, h2⟩ := h
    rw [← hrr] at h1
    exact ⟨_, h1, rfl, h2⟩) ?_
  rintro _ w3 ⟨rfl, hb⟩
  simp only [Act.put, List.setIfInBounds_toArray, List.set_cons_zero, List.set_cons_succ]
  have hBw3 : Hid (Below w.heap.size w w3) := hBw2.out.trans ((hb).mono (hBw2.out).size)
  have hTw3 : Hid (Tab w3) := (hTw2.out).below (hTw2.out).1 hb
  have hyw3 : Hid (Ms w3 (.slice A n c) up) := (hyw2.out).below hb
  have hcw3 : Hid (Ms w3 (.slice A_w2 up.length c_w2) up) := (hcw2.out).below hb
  clear hBw2 hTw2 hyw2 hcw2
  clear hb
  refine sg_run (by kernel_rfl) (.slice A n c) w3 (by kernel_rfl) ?_
  simp only [Act.put, List.setIfInBounds_toArray, List.set_cons_zero, List.set_cons_succ]
  refine sg_call (by kernel_rfl) 16 #[.slice A n c] (by kernel_rfl) (R := fun v w' => v = .bool rr ∧ Below w3.heap.size w3 w') ((rright_calls up hs A n c hn'.out w3 hyw3.out).mono fun e w' h => by
    obtain ⟨h1, h2⟩ := h
    rw [← hrr] at h1
    exact ⟨_, h1, rfl, by rw [h2]; exact Below.refl _ _⟩) ?_
  rintro _ w4 ⟨rfl, hb⟩
  simp only [Act.put, List.setIfInBounds_toArray, List.set_cons_zero, List.set_cons_succ]
  have hBw4 : Hid (Below w.heap.size w w4) := hBw3.out.trans ((hb).mono (hBw3.out).size)
  have hTw4 : Hid (Tab w4) := (hTw3.out).below (hTw3.out).1 hb
  have hyw4 : Hid (Ms w4 (.slice A n c) up) := (hyw3.out).below hb
  have hcw4 : Hid (Ms w4 (.slice A_w2 up.length c_w2) up) := (hcw3.out).below hb
  clear hBw3 hTw3 hyw3 hcw3
  clear hb
  refine sg_run (by kernel_rfl) (.bool (rr == rr)) w4 (exec_eqB _ _ rfl rr rr (by kernel_rfl) (by kernel_rfl)) ?_
  simp only [Act.put, List.setIfInBounds_toArray, List.set_cons_zero, List.set_cons_succ]
  rw [beq_self_eq_true]
  refine sg_run (by kernel_rfl) (.bool true) w4 (by kernel_rfl) ?_
  simp only [Act.put, List.setIfInBounds_toArray, List.set_cons_zero, List.set_cons_succ]
  refine sg_run (by kernel_rfl) (.bool true) w4 (by kernel_rfl) ?_
  simp only [Act.put, List.setIfInBounds_toArray, List.set_cons_zero, List.set_cons_succ]
  refine wpList_nil ?_
  have hBf := hBw4
  clear hyw4 hcw4 hTw4
  go_wp2_with fail
  go_ret
  exact ⟨rfl, hBf.out⟩
end Go.Proofs.YtfbbpodlemllcaaDoor
