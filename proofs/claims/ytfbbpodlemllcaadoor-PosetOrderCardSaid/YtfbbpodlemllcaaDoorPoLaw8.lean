/-
  The law PosetOrder, walked.
-/
import Derived.Test.YtfbbpodlemllcaaDoorPoLaw8p
import Derived.Test.YtfbbpodlemllcaaDoorPoLaw5
namespace Go.Proofs.YtfbbpodlemllcaaDoor
open Go.RowKit Go.Shelf
set_option linter.unusedVariables false
set_option linter.unusedSimpArgs false
set_option pp.maxSteps 50000

/-- What PosetOrder keeps. -/
structure OC (w0 : World) (B : Nat) (sv : Value) (xa xb xc : Int) (cv : Value) (up : List Nat) (w : World) : Prop where
  hbox : w.heap[B]? = some (.cells #[sv, .int .i64 xa, .int .i64 xb, .int .i64 xc] 46 (0, 0))
  hc : Ms w cv up
  hT : Tab w
  hB : Below w0.heap.size w0 w
theorem OC.below {w0 w w' : World} {B : Nat} {sv cv : Value} {xa xb xc : Int} {up : List Nat} (h : OC w0 B sv xa xb xc cv up w) (hb : Below w.heap.size w w') : OC w0 B sv xa xb xc cv up w' :=
  ⟨heap_kept h.hbox hb, h.hc.below hb, h.hT.below h.hT.1 hb, h.hB.trans (hb.mono h.hB.size)⟩
theorem exec_geI {o : Oper} {a : Act} {w : World} (x y : Operand) (ho : o.op = .binOp .geq 3 x y 3) (u v : Int) (hx : a.eval x = .int .i64 u) (hy : a.eval y = .int .i64 v) : (execOp a.eval o).run Tryd.prog w = .ok (.value (.bool (decide (v ≤ u)))) w := by
  unfold execOp
  simp [ho, hx, hy, eqGuard, binOp_geq]
theorem exec_neB {o : Oper} {a : Act} {w : World} (x y : Operand) (ho : o.op = .binOp .neq 4 x y 4) (u v : Bool) (hx : a.eval x = .bool u) (hy : a.eval y = .bool v) : (execOp a.eval o).run Tryd.prog w = .ok (.value (.bool (u != v))) w := by
  unfold execOp
  simp only [ho, hx, hy]
  cases u <;> cases v <;> kernel_rfl
theorem below_drewN (w : World) (k : Nat) : Below w.heap.size w (w.drewN k) := by
  induction k with
  | zero => exact Below.refl _ _
  | succ k ih => exact ih.drew
theorem bit_callsT (m : Nat) (k : Int) (hm : m < 18446744073709551616) (w : World) (r : Bool) (hr : bitI m k = r) : Calls Tryd.prog 29 #[.int .u64 (m : Int), .int .i64 k] w fun e w' => ∃ v, e = .returned v ∧ v = .bool r ∧ Below w.heap.size w w' :=
  (bit_calls m k hm w).mono fun e w' h => ⟨_, h.1, by rw [hr], by rw [h.2]; exact Below.refl _ _⟩
theorem above_callsT (up : List Nat) (hs : Small up) (A : Option Addr) (n c : Nat) (hn : n = up.length) (a : Int) (w : World) (ht : Tab w) (hy : Ms w (.slice A n c) up) (r : Nat) (hr : r = aboveS up a) :
    Calls Tryd.prog 21 #[.slice A n c, .int .i64 a] w fun e w' => ∃ v, e = .returned v ∧ v = .int .u64 (r : Int) ∧ Below w.heap.size w w' :=
  (above_calls up hs A n c hn a w ht hy).mono fun e w' h => ⟨_, h.1, by rw [hr], h.2⟩
theorem below_callsT (up : List Nat) (hs : Small up) (A : Option Addr) (n c : Nat) (hn : n = up.length) (a : Int) (w : World) (ht : Tab w) (hy : Ms w (.slice A n c) up) (r : Nat) (hr : r = belowS up a) :
    Calls Tryd.prog 23 #[.slice A n c, .int .i64 a] w fun e w' => ∃ v, e = .returned v ∧ v = .int .u64 (r : Int) ∧ Below w.heap.size w w' :=
  (below_calls up hs A n c hn a w ht hy).mono fun e w' h => ⟨_, h.1, by rw [hr], h.2⟩
theorem aboveS_lt {up : List Nat} (hs : Small up) (a : Int) : aboveS up a < 18446744073709551616 := by
  unfold aboveS; split
  · exact small_get hs _
  · decide
theorem belowS_lt {up : List Nat} (a : Int) : belowS up a < 18446744073709551616 := by
  unfold belowS; split
  · rename_i h; exact maskOf_lt _ _ (tr_iff.1 h).2.2.1
  · decide
theorem at_callsT (up : List Nat) (hs : Small up) (A : Option Addr) (n c : Nat) (hn : n = up.length) (a b : Int) (w : World) (ht : Tab w) (hy : Ms w (.slice A n c) up) (r : Bool) (hr : r = tr (atS up a b)) :
    Calls Tryd.prog 19 #[.slice A n c, .int .i64 a, .int .i64 b] w fun e w' => ∃ v, e = .returned v ∧ v = .bool r ∧ Below w.heap.size w w' :=
  (at_calls up hs A n c hn a b w ht hy).mono fun e w' h => ⟨_, h.1, by rw [hr], h.2⟩
set_option maxRecDepth 100000 in
set_option maxHeartbeats 16000000 in
theorem lorder_calls (up : List Nat) (hs : Small up) (A : Option Addr) (n c : Nat) (hn : n = up.length) (hnb : n * 8 ≤ 140737488351232) (xa xb xc : Int) (w : World) (ht : Tab w) (hy : Ms w (.slice A n c) up) :
    Calls Tryd.prog 9 #[.agg #[.slice A n c, .int .i64 xa, .int .i64 xb, .int .i64 xc]] w fun e w' => e = .returned (.bool true) ∧ Below w.heap.size w w' := by
  have hn' : Hid (n = up.length) := hn
  have hTw : Hid (Tab w) := ht
  have hyw : Hid (Ms w (.slice A n c) up) := hy
  have hw0 : Hid (0 < w.heap.size) := ht.1
  clear hn ht hy
  go_enter Tryd.func9, Tryd.ntmps9
  go_upto_region 1 with fail
  generalize hW : World.alloc _ _ = W
  have hW0 : W.heap[w.heap.size]? = some (.cells #[.slice A n c, .int .i64 xa, .int .i64 xb, .int .i64 xc] 46 (0, 0)) := by rw [← hW]; exact heap_alloc_new _ _
  have hWB : Below w.heap.size w W := by rw [← hW]; exact (Below.refl _ _).alloc (Nat.le_refl _) _
  clear hW
  obtain ⟨B, hBd⟩ : ∃ B, B = w.heap.size := ⟨_, rfl⟩
  rw [← hBd] at hW0 ⊢
  clear hBd
  have hOW : Hid (OC w B (.slice A n c) xa xb xc (.slice A n c) up W) := ⟨hW0, hyw.out.below hWB, hTw.out.below hTw.out.1 hWB, hWB⟩
  clear hW0 hWB hTw hyw
  refine wp_region_lit ?_
  refine sg_call (by kernel_rfl) 11 #[] (by kernel_rfl) (R := fun v w' => v = .bool true ∧ Below W.heap.size W w') ((fixed_calls W hOW.out.hT).mono fun e w' h => by
    obtain ⟨h1, h2⟩ := h
    skip
    exact ⟨_, h1, rfl, h2⟩) ?_
  rintro _ w1 ⟨rfl, hb⟩
  simp only [Act.put, List.setIfInBounds_toArray, List.set_cons_zero, List.set_cons_succ]
  have hOw1 : Hid (OC w B (.slice A n c) xa xb xc (.slice A n c) up w1) := (hOW.out).below hb
  clear hOW
  clear hb
  refine sl_run rfl (.bool false) w1 (by kernel_rfl) ?_
  simp only [Act.put, List.setIfInBounds_toArray, List.set_cons_zero, List.set_cons_succ]
  refine wpList_nil ?_
  go_upto_region 3 with fail
  refine wp_region_lit ?_
  have hyw1 : Hid (Ms w1 (.slice A n c) up) := hOw1.out.hc
  refine sg_run (by kernel_rfl) (.slice (some ⟨w1.heap.size, 0, none⟩) 0 0) (w1.alloc (.cells #[] 36)) (by kernel_rfl) ?_
  simp only [Act.put, List.setIfInBounds_toArray, List.set_cons_zero, List.set_cons_succ]
  have hbn_w2 : Below w1.heap.size w1 (w1.alloc (.cells #[] 36)) := (Below.refl _ _).alloc (Nat.le_refl _) _
  have hown0_w2 : (w1.alloc (.cells #[] 36)).ownsRow w1.heap.size 36 1 (.slice (some ⟨w1.heap.size, 0, none⟩) 0 0) 0 [] := World.ownsRow_made _ _ 0 (Nat.le_refl _) (by decide) (by simp)
  obtain ⟨x_w2, hx_w2⟩ : ∃ x, x = (w1.alloc (.cells #[] 36)) := ⟨_, rfl⟩
  obtain ⟨g_w2, hg_w2⟩ : ∃ g, g = w1.heap.size := ⟨_, rfl⟩
  rw [← hx_w2] at hown0_w2 hbn_w2 ⊢
  rw [← hg_w2] at hown0_w2 ⊢
  have hgle_w2 : g_w2 ≤ x_w2.heap.size := by rw [hg_w2]; exact hbn_w2.size
  have hrw_w2 := (hyw1.out).below hbn_w2
  clear hx_w2
  have hOx : Hid (OC w B (.slice A n c) xa xb xc (.slice A n c) up x_w2) := hOw1.out.below hbn_w2
  refine sg_run (by kernel_rfl) (.pointer (some ⟨B, 0, none⟩)) x_w2 (by kernel_rfl) ?_
  simp only [Act.put, List.setIfInBounds_toArray, List.set_cons_zero, List.set_cons_succ]
  refine sg_run (by kernel_rfl) (.slice A n c) x_w2 (exec_load_cell 24 x_w2 _ rfl ⟨B, 0, none⟩ (by kernel_rfl) _ (by rw [cell_of_row _ _ _ _ _ _ hOx.out.hbox]; rfl) (fun _ => by kernel_rfl)) ?_
  simp only [Act.put, List.setIfInBounds_toArray, List.set_cons_zero, List.set_cons_succ]
  obtain ⟨i36, hi_w2, hz0_w2, hz1_w2, hz2_w2⟩ := info_parts inf36
  refine BigFrame.wpList_want (by kernel_rfl) fun _ hK => ?_
  refine wp_appendRw 24 36 8 i36 (.int .u64 0) Tryd.underlying24 hi_w2 hz0_w2 hz1_w2 hz2_w2 rfl (by decide) encM_size encM_ones _ _ rfl g_w2 (.slice (some ⟨g_w2, 0, none⟩) 0 0) [] up (by kernel_rfl) hown0_w2 _ (by kernel_rfl) hrw_w2 (by simp; have := hn'.out; omega) (by simp; have := hn'.out; omega) hgle_w2 ?_
  intro v_w2 w2 hown_w2 hgrow_w2
  refine hK _ _ ?_
  clear hK
  simp only [Act.put, List.setIfInBounds_toArray, List.set_cons_zero, List.set_cons_succ]
  rw [List.nil_append] at hown_w2
  have hcp := Rw.own (enc := encM) encM_size (by decide) hown_w2
  obtain ⟨A_w2, c_w2, rfl⟩ := own_form hown_w2
  have hcw2 : Hid (Rw 1 encM w2 (.slice A_w2 up.length c_w2) up) := hcp
  have hb : Below w1.heap.size w1 w2 := hbn_w2.grown hgrow_w2 hbn_w2.size (fun q hq => by simp [Value.ownBlock] at hq; omega)
  clear hown_w2 hgrow_w2 hown0_w2 hbn_w2 hgle_w2 hrw_w2 hi_w2 hz0_w2 hz1_w2 hz2_w2 hcp hg_w2
  have hOw2 : Hid (OC w B (.slice A n c) xa xb xc (.slice A n c) up w2) := (hOw1.out).below hb
  clear hOw1
  clear hb
  have hOc : Hid (OC w B (.slice A n c) xa xb xc (.slice A_w2 up.length c_w2) up w2) := ⟨hOw2.out.hbox, hcw2.out, hOw2.out.hT, hOw2.out.hB⟩
  clear hOw2 hcw2 hOx hyw1
  obtain ⟨A2, hA2⟩ : ∃ A2, A2 = A_w2 := ⟨_, rfl⟩
  rw [← hA2] at hOc ⊢
  clear hA2
  obtain ⟨m, hm⟩ : ∃ m, m = up.length := ⟨_, rfl⟩
  have hmH : Hid (m = up.length) := hm
  rw [← hm] at hOc ⊢
  clear hm
  generalize c_w2 = c2 at hOc ⊢
  obtain ⟨ab, hab⟩ : ∃ r, r = tr (atS up xa xb) := ⟨_, rfl⟩
  obtain ⟨bc, hbc⟩ : ∃ r, r = tr (atS up xb xc) := ⟨_, rfl⟩
  obtain ⟨ac, hac⟩ : ∃ r, r = tr (atS up xa xc) := ⟨_, rfl⟩
  obtain ⟨ba, hba⟩ : ∃ r, r = tr (atS up xb xa) := ⟨_, rfl⟩
  refine sl_run rfl (.slice A2 m c2) w2 (by kernel_rfl) ?_
  simp only [Act.put, List.setIfInBounds_toArray, List.set_cons_zero, List.set_cons_succ]
  refine wpList_nil ?_
  go_upto_region 4 with fail
  refine wp_normal ?_
  refine wp_region_held_drew (S := fun w' => Below w2.heap.size w2 w') (by kernel_rfl) (Below.refl _ _).drew (fun hS => ?_)
  change wpAnyH _ _ _ _ _ 28 (Array.replicate 28 false) _ _
  generalize hx : w2.drew = v0 at hS
  clear hx
  refine held_take 0 rfl (by kernel_rfl) (by kernel_rfl) (by kernel_rfl) (.slice A2 m c2) (fun _ _ _ h => nomatch h.1) (by kernel_rfl) (fun w' h => by kernel_rfl) hS ?_
  simp only [Act.put, List.setIfInBounds_toArray, List.set_cons_zero, List.set_cons_succ, List.getElem_toArray, List.getElem_cons_succ, List.getElem_cons_zero]
  refine held_take 1 rfl (by kernel_rfl) (by kernel_rfl) (by kernel_rfl) (.pointer (some ⟨B, 1, none⟩)) (fun _ _ _ h => nomatch h.1) (by kernel_rfl) (fun w' h => by kernel_rfl) hS ?_
  simp only [Act.put, List.setIfInBounds_toArray, List.set_cons_zero, List.set_cons_succ, List.getElem_toArray, List.getElem_cons_succ, List.getElem_cons_zero]
  refine held_take 2 rfl (by kernel_rfl) (by kernel_rfl) (by kernel_rfl) (.int .i64 xa) (fun _ _ _ h => nomatch h.1) (by kernel_rfl) (fun w' h => exec_load_cell 3 w' _ rfl ⟨B, 1, none⟩ (by kernel_rfl) _ (by rw [cell_of_row _ _ _ _ _ _ (hOc.out.below h).hbox]; rfl) (fun _ => by kernel_rfl)) hS ?_
  simp only [Act.put, List.setIfInBounds_toArray, List.set_cons_zero, List.set_cons_succ, List.getElem_toArray, List.getElem_cons_succ, List.getElem_cons_zero]
  refine held_take 3 rfl (by kernel_rfl) (by kernel_rfl) (by kernel_rfl) (.pointer (some ⟨B, 2, none⟩)) (fun _ _ _ h => nomatch h.1) (by kernel_rfl) (fun w' h => by kernel_rfl) hS ?_
  simp only [Act.put, List.setIfInBounds_toArray, List.set_cons_zero, List.set_cons_succ, List.getElem_toArray, List.getElem_cons_succ, List.getElem_cons_zero]
  refine held_take 4 rfl (by kernel_rfl) (by kernel_rfl) (by kernel_rfl) (.int .i64 xb) (fun _ _ _ h => nomatch h.1) (by kernel_rfl) (fun w' h => exec_load_cell 3 w' _ rfl ⟨B, 2, none⟩ (by kernel_rfl) _ (by rw [cell_of_row _ _ _ _ _ _ (hOc.out.below h).hbox]; rfl) (fun _ => by kernel_rfl)) hS ?_
  simp only [Act.put, List.setIfInBounds_toArray, List.set_cons_zero, List.set_cons_succ, List.getElem_toArray, List.getElem_cons_succ, List.getElem_cons_zero]
  refine held_take 6 rfl (by kernel_rfl) (by kernel_rfl) (by kernel_rfl) (.slice A2 m c2) (fun _ _ _ h => nomatch h.1) (by kernel_rfl) (fun w' h => by kernel_rfl) hS ?_
  simp only [Act.put, List.setIfInBounds_toArray, List.set_cons_zero, List.set_cons_succ, List.getElem_toArray, List.getElem_cons_succ, List.getElem_cons_zero]
  refine held_take 7 rfl (by kernel_rfl) (by kernel_rfl) (by kernel_rfl) (.pointer (some ⟨B, 2, none⟩)) (fun _ _ _ h => nomatch h.1) (by kernel_rfl) (fun w' h => by kernel_rfl) hS ?_
  simp only [Act.put, List.setIfInBounds_toArray, List.set_cons_zero, List.set_cons_succ, List.getElem_toArray, List.getElem_cons_succ, List.getElem_cons_zero]
  refine held_take 8 rfl (by kernel_rfl) (by kernel_rfl) (by kernel_rfl) (.int .i64 xb) (fun _ _ _ h => nomatch h.1) (by kernel_rfl) (fun w' h => exec_load_cell 3 w' _ rfl ⟨B, 2, none⟩ (by kernel_rfl) _ (by rw [cell_of_row _ _ _ _ _ _ (hOc.out.below h).hbox]; rfl) (fun _ => by kernel_rfl)) hS ?_
  simp only [Act.put, List.setIfInBounds_toArray, List.set_cons_zero, List.set_cons_succ, List.getElem_toArray, List.getElem_cons_succ, List.getElem_cons_zero]
  refine held_take 9 rfl (by kernel_rfl) (by kernel_rfl) (by kernel_rfl) (.pointer (some ⟨B, 3, none⟩)) (fun _ _ _ h => nomatch h.1) (by kernel_rfl) (fun w' h => by kernel_rfl) hS ?_
  simp only [Act.put, List.setIfInBounds_toArray, List.set_cons_zero, List.set_cons_succ, List.getElem_toArray, List.getElem_cons_succ, List.getElem_cons_zero]
  refine held_take 10 rfl (by kernel_rfl) (by kernel_rfl) (by kernel_rfl) (.int .i64 xc) (fun _ _ _ h => nomatch h.1) (by kernel_rfl) (fun w' h => exec_load_cell 3 w' _ rfl ⟨B, 3, none⟩ (by kernel_rfl) _ (by rw [cell_of_row _ _ _ _ _ _ (hOc.out.below h).hbox]; rfl) (fun _ => by kernel_rfl)) hS ?_
  simp only [Act.put, List.setIfInBounds_toArray, List.set_cons_zero, List.set_cons_succ, List.getElem_toArray, List.getElem_cons_succ, List.getElem_cons_zero]
  refine held_take 12 rfl (by kernel_rfl) (by kernel_rfl) (by kernel_rfl) (.slice A2 m c2) (fun _ _ _ h => nomatch h.1) (by kernel_rfl) (fun w' h => by kernel_rfl) hS ?_
  simp only [Act.put, List.setIfInBounds_toArray, List.set_cons_zero, List.set_cons_succ, List.getElem_toArray, List.getElem_cons_succ, List.getElem_cons_zero]
  refine held_take 13 rfl (by kernel_rfl) (by kernel_rfl) (by kernel_rfl) (.pointer (some ⟨B, 1, none⟩)) (fun _ _ _ h => nomatch h.1) (by kernel_rfl) (fun w' h => by kernel_rfl) hS ?_
  simp only [Act.put, List.setIfInBounds_toArray, List.set_cons_zero, List.set_cons_succ, List.getElem_toArray, List.getElem_cons_succ, List.getElem_cons_zero]
  refine held_take 14 rfl (by kernel_rfl) (by kernel_rfl) (by kernel_rfl) (.int .i64 xa) (fun _ _ _ h => nomatch h.1) (by kernel_rfl) (fun w' h => exec_load_cell 3 w' _ rfl ⟨B, 1, none⟩ (by kernel_rfl) _ (by rw [cell_of_row _ _ _ _ _ _ (hOc.out.below h).hbox]; rfl) (fun _ => by kernel_rfl)) hS ?_
  simp only [Act.put, List.setIfInBounds_toArray, List.set_cons_zero, List.set_cons_succ, List.getElem_toArray, List.getElem_cons_succ, List.getElem_cons_zero]
  refine held_take 15 rfl (by kernel_rfl) (by kernel_rfl) (by kernel_rfl) (.pointer (some ⟨B, 3, none⟩)) (fun _ _ _ h => nomatch h.1) (by kernel_rfl) (fun w' h => by kernel_rfl) hS ?_
  simp only [Act.put, List.setIfInBounds_toArray, List.set_cons_zero, List.set_cons_succ, List.getElem_toArray, List.getElem_cons_succ, List.getElem_cons_zero]
  refine held_take 16 rfl (by kernel_rfl) (by kernel_rfl) (by kernel_rfl) (.int .i64 xc) (fun _ _ _ h => nomatch h.1) (by kernel_rfl) (fun w' h => exec_load_cell 3 w' _ rfl ⟨B, 3, none⟩ (by kernel_rfl) _ (by rw [cell_of_row _ _ _ _ _ _ (hOc.out.below h).hbox]; rfl) (fun _ => by kernel_rfl)) hS ?_
  simp only [Act.put, List.setIfInBounds_toArray, List.set_cons_zero, List.set_cons_succ, List.getElem_toArray, List.getElem_cons_succ, List.getElem_cons_zero]
  refine held_take 18 rfl (by kernel_rfl) (by kernel_rfl) (by kernel_rfl) (.slice A2 m c2) (fun _ _ _ h => nomatch h.1) (by kernel_rfl) (fun w' h => by kernel_rfl) hS ?_
  simp only [Act.put, List.setIfInBounds_toArray, List.set_cons_zero, List.set_cons_succ, List.getElem_toArray, List.getElem_cons_succ, List.getElem_cons_zero]
  refine held_take 19 rfl (by kernel_rfl) (by kernel_rfl) (by kernel_rfl) (.pointer (some ⟨B, 2, none⟩)) (fun _ _ _ h => nomatch h.1) (by kernel_rfl) (fun w' h => by kernel_rfl) hS ?_
  simp only [Act.put, List.setIfInBounds_toArray, List.set_cons_zero, List.set_cons_succ, List.getElem_toArray, List.getElem_cons_succ, List.getElem_cons_zero]
  refine held_take 20 rfl (by kernel_rfl) (by kernel_rfl) (by kernel_rfl) (.int .i64 xb) (fun _ _ _ h => nomatch h.1) (by kernel_rfl) (fun w' h => exec_load_cell 3 w' _ rfl ⟨B, 2, none⟩ (by kernel_rfl) _ (by rw [cell_of_row _ _ _ _ _ _ (hOc.out.below h).hbox]; rfl) (fun _ => by kernel_rfl)) hS ?_
  simp only [Act.put, List.setIfInBounds_toArray, List.set_cons_zero, List.set_cons_succ, List.getElem_toArray, List.getElem_cons_succ, List.getElem_cons_zero]
  refine held_take 21 rfl (by kernel_rfl) (by kernel_rfl) (by kernel_rfl) (.pointer (some ⟨B, 1, none⟩)) (fun _ _ _ h => nomatch h.1) (by kernel_rfl) (fun w' h => by kernel_rfl) hS ?_
  simp only [Act.put, List.setIfInBounds_toArray, List.set_cons_zero, List.set_cons_succ, List.getElem_toArray, List.getElem_cons_succ, List.getElem_cons_zero]
  refine held_take 22 rfl (by kernel_rfl) (by kernel_rfl) (by kernel_rfl) (.int .i64 xa) (fun _ _ _ h => nomatch h.1) (by kernel_rfl) (fun w' h => exec_load_cell 3 w' _ rfl ⟨B, 1, none⟩ (by kernel_rfl) _ (by rw [cell_of_row _ _ _ _ _ _ (hOc.out.below h).hbox]; rfl) (fun _ => by kernel_rfl)) hS ?_
  simp only [Act.put, List.setIfInBounds_toArray, List.set_cons_zero, List.set_cons_succ, List.getElem_toArray, List.getElem_cons_succ, List.getElem_cons_zero]
  refine held_call 5 rfl (by kernel_rfl) (by kernel_rfl) 19 #[.slice A2 m c2, .int .i64 xa, .int .i64 xb] (by kernel_rfl) (R := fun v w' => v = .bool ab ∧ Below v0.heap.size v0 w') (at_callsT up hs A2 m c2 hmH.out xa xb v0 (hOc.out.below hS).hT (hOc.out.below hS).hc ab hab) ?_
  rintro _ v1 ⟨rfl, hbn⟩
  have hSn : Below w2.heap.size w2 v1 := hS.trans (hbn.mono hS.size)
  refine ⟨hSn, ?_⟩
  clear hS hbn
  have hS := hSn
  clear hSn
  simp only [Act.put, List.setIfInBounds_toArray, List.set_cons_zero, List.set_cons_succ, List.getElem_toArray, List.getElem_cons_succ, List.getElem_cons_zero]
  refine held_call 11 rfl (by kernel_rfl) (by kernel_rfl) 19 #[.slice A2 m c2, .int .i64 xb, .int .i64 xc] (by kernel_rfl) (R := fun v w' => v = .bool bc ∧ Below v1.heap.size v1 w') (at_callsT up hs A2 m c2 hmH.out xb xc v1 (hOc.out.below hS).hT (hOc.out.below hS).hc bc hbc) ?_
  rintro _ v2 ⟨rfl, hbn⟩
  have hSn : Below w2.heap.size w2 v2 := hS.trans (hbn.mono hS.size)
  refine ⟨hSn, ?_⟩
  clear hS hbn
  have hS := hSn
  clear hSn
  simp only [Act.put, List.setIfInBounds_toArray, List.set_cons_zero, List.set_cons_succ, List.getElem_toArray, List.getElem_cons_succ, List.getElem_cons_zero]
  refine held_call 17 rfl (by kernel_rfl) (by kernel_rfl) 19 #[.slice A2 m c2, .int .i64 xa, .int .i64 xc] (by kernel_rfl) (R := fun v w' => v = .bool ac ∧ Below v2.heap.size v2 w') (at_callsT up hs A2 m c2 hmH.out xa xc v2 (hOc.out.below hS).hT (hOc.out.below hS).hc ac hac) ?_
  rintro _ v3 ⟨rfl, hbn⟩
  have hSn : Below w2.heap.size w2 v3 := hS.trans (hbn.mono hS.size)
  refine ⟨hSn, ?_⟩
  clear hS hbn
  have hS := hSn
  clear hSn
  simp only [Act.put, List.setIfInBounds_toArray, List.set_cons_zero, List.set_cons_succ, List.getElem_toArray, List.getElem_cons_succ, List.getElem_cons_zero]
  refine held_call 23 rfl (by kernel_rfl) (by kernel_rfl) 19 #[.slice A2 m c2, .int .i64 xb, .int .i64 xa] (by kernel_rfl) (R := fun v w' => v = .bool ba ∧ Below v3.heap.size v3 w') (at_callsT up hs A2 m c2 hmH.out xb xa v3 (hOc.out.below hS).hT (hOc.out.below hS).hc ba hba) ?_
  rintro _ v4 ⟨rfl, hbn⟩
  have hSn : Below w2.heap.size w2 v4 := hS.trans (hbn.mono hS.size)
  refine ⟨hSn, ?_⟩
  clear hS hbn
  have hS := hSn
  clear hSn
  simp only [Act.put, List.setIfInBounds_toArray, List.set_cons_zero, List.set_cons_succ, List.getElem_toArray, List.getElem_cons_succ, List.getElem_cons_zero]
  refine held_take 24 rfl (by kernel_rfl) (by kernel_rfl) (by kernel_rfl) (.bool ab) (fun _ _ _ h => nomatch h.1) (by kernel_rfl) (fun w' h => by kernel_rfl) hS ?_
  simp only [Act.put, List.setIfInBounds_toArray, List.set_cons_zero, List.set_cons_succ, List.getElem_toArray, List.getElem_cons_succ, List.getElem_cons_zero]
  refine held_take 25 rfl (by kernel_rfl) (by kernel_rfl) (by kernel_rfl) (.bool bc) (fun _ _ _ h => nomatch h.1) (by kernel_rfl) (fun w' h => by kernel_rfl) hS ?_
  simp only [Act.put, List.setIfInBounds_toArray, List.set_cons_zero, List.set_cons_succ, List.getElem_toArray, List.getElem_cons_succ, List.getElem_cons_zero]
  refine held_take 26 rfl (by kernel_rfl) (by kernel_rfl) (by kernel_rfl) (.bool ac) (fun _ _ _ h => nomatch h.1) (by kernel_rfl) (fun w' h => by kernel_rfl) hS ?_
  simp only [Act.put, List.setIfInBounds_toArray, List.set_cons_zero, List.set_cons_succ, List.getElem_toArray, List.getElem_cons_succ, List.getElem_cons_zero]
  refine held_take 27 rfl (by kernel_rfl) (by kernel_rfl) (by kernel_rfl) (.bool ba) (fun _ _ _ h => nomatch h.1) (by kernel_rfl) (fun w' h => by kernel_rfl) hS ?_
  simp only [Act.put, List.setIfInBounds_toArray, List.set_cons_zero, List.set_cons_succ, List.getElem_toArray, List.getElem_cons_succ, List.getElem_cons_zero]
  refine wpAnyH_done (by kernel_rfl) ?_ _
  refine ⟨rfl, ?_⟩
  rename_i hK
  refine hK _ _ ?_
  clear hK
  have hO4 : Hid (OC w B (.slice A n c) xa xb xc (.slice A2 m c2) up v4) := hOc.out.below hS
  clear hS hOc
  have f1 : Hid (ab = true → bc = true → ac = true) := fun h1 h2 => by rw [hac]; exact tr_iff.2 (at_trans (tr_iff.1 (hab ▸ h1)) (tr_iff.1 (hbc ▸ h2)))
  have f2 : Hid (ab = true → ba = true → xa = xb) := fun h1 h2 => at_anti (tr_iff.1 (hab ▸ h1)) (tr_iff.1 (hba ▸ h2))
  have f3 : Hid (0 ≤ xb → xb < 64 → bitI (aboveS up xa) xb = ab) := fun h0 h1 => by rw [hab]; exact above_bit h0 h1
  have f4 : Hid (0 ≤ xa → xa < 64 → bitI (belowS up xb) xa = ab) := fun h0 h1 => by rw [hab]; exact below_bit h0 h1
  have g1 : Hid (tr (atS up xa xc) = ac) := hac.symm
  have g2 : Hid (tr (atS up xb xc) = bc) := hbc.symm
  clear hab hbc hac hba
  go_upto_region 5 with fail
  go_cut [60] from 10 (fun s60 wc => s60 = .bool false ∧ Hid (OC w B (.slice A n c) xa xb xc (.slice A2 m c2) up wc))
  case first =>
    have k1 : v4.cell? ⟨B, 1, none⟩ = some (.int .i64 xa) := by rw [cell_of_row _ _ _ _ _ _ hO4.out.hbox]; rfl
    have k2 : v4.cell? ⟨B, 2, none⟩ = some (.int .i64 xb) := by rw [cell_of_row _ _ _ _ _ _ hO4.out.hbox]; rfl
    cases ab with
    | false =>
      go_wp2_with fail
      go_meet
      case rel => exact ⟨rfl, hO4⟩
    | true =>
      cases bc with
      | true =>
        obtain rfl : ac = true := f1.out rfl rfl
        cases ba with
        | true =>
          have hx : (xa != xb) = false := by rw [f2.out rfl rfl]; simp
          go_wp2_with fail
          go_meet
          case rel => exact ⟨rfl, hO4⟩
        | false =>
          go_wp2_with fail
          go_meet
          case rel => exact ⟨rfl, hO4⟩
      | false =>
        cases ba with
        | true =>
          have hx : (xa != xb) = false := by rw [f2.out rfl rfl]; simp
          go_wp2_with fail
          go_meet
          case rel => exact ⟨rfl, hO4⟩
        | false =>
          go_wp2_with fail
          go_meet
          case rel => exact ⟨rfl, hO4⟩
  case rest =>
    obtain ⟨rfl, hO5⟩ := hcut
    clear hO4
    go_upto_region 7 with fail
    go_cut [100] from 10 (fun s100 w9 => s100 = .bool false ∧ Hid (OC w B (.slice A n c) xa xb xc (.slice A2 m c2) up w9))
    case first =>
      have k1 : wc.cell? ⟨B, 1, none⟩ = some (.int .i64 xa) := by rw [cell_of_row _ _ _ _ _ _ hO5.out.hbox]; rfl
      have k2 : wc.cell? ⟨B, 2, none⟩ = some (.int .i64 xb) := by rw [cell_of_row _ _ _ _ _ _ hO5.out.hbox]; rfl
      have hd9 : ∀ k, Hid (OC w B (.slice A n c) xa xb xc (.slice A2 m c2) up (wc.drewN k)) := fun k => hO5.out.below (below_drewN _ k)
      by_cases h1 : 0 ≤ xb
      · have d1 : decide (0 ≤ xb) = true := by simpa using h1
        by_cases h2 : xb < 64
        · have d2 : decide (xb < 64) = true := by simpa using h2
          by_cases h3 : 0 ≤ xa
          · have d3 : decide (0 ≤ xa) = true := by simpa using h3
            by_cases h4 : xa < 64
            · clear k1 k2 hd9
              have b1 : bitI (aboveS up xa) xb = ab := f3.out h1 h2
              have b2 : bitI (belowS up xb) xa = ab := f4.out h3 h4
              have d4 : decide (xa < 64) = true := by simpa using h4
              obtain ⟨ma, hma⟩ : ∃ r, r = aboveS up xa := ⟨_, rfl⟩
              obtain ⟨mb, hmb⟩ : ∃ r, r = belowS up xb := ⟨_, rfl⟩
              have ma9 : ma < 18446744073709551616 := by rw [hma]; exact aboveS_lt hs _
              have mb9 : mb < 18446744073709551616 := by rw [hmb]; exact belowS_lt _
              rw [← hma] at b1
              rw [← hmb] at b2
              refine wp_normal ?_
              refine wp_region_held_drew (S := fun w' => Below wc.heap.size wc w') (by kernel_rfl) (Below.refl _ _).drew (fun hS => ?_)
              change wpAnyH _ _ _ _ _ 40 (Array.replicate 40 false) _ _
              generalize hx : wc.drew = v0 at hS
              clear hx
              refine held_take 0 rfl (by kernel_rfl) (by kernel_rfl) (by kernel_rfl) (.pointer (some ⟨B, 2, none⟩)) (fun _ _ _ h => nomatch h.1) (by kernel_rfl) (fun w' h => by kernel_rfl) hS ?_
              simp only [Act.put, List.setIfInBounds_toArray, List.set_cons_zero, List.set_cons_succ, List.getElem_toArray, List.getElem_cons_succ, List.getElem_cons_zero]
              refine held_take 1 rfl (by kernel_rfl) (by kernel_rfl) (by kernel_rfl) (.int .i64 xb) (fun _ _ _ h => nomatch h.1) (by kernel_rfl) (fun w' h => exec_load_cell 3 w' _ rfl ⟨B, 2, none⟩ (by kernel_rfl) _ (by rw [cell_of_row _ _ _ _ _ _ (hO5.out.below h).hbox]; rfl) (fun _ => by kernel_rfl)) hS ?_
              simp only [Act.put, List.setIfInBounds_toArray, List.set_cons_zero, List.set_cons_succ, List.getElem_toArray, List.getElem_cons_succ, List.getElem_cons_zero]
              refine held_take 2 rfl (by kernel_rfl) (by kernel_rfl) (by kernel_rfl) (.bool true) (fun _ _ _ h => nomatch h.1) (by kernel_rfl) (fun w' h => (exec_geI _ _ rfl xb 0 (by kernel_rfl) (by kernel_rfl)).trans (by rw [d1])) hS ?_
              simp only [Act.put, List.setIfInBounds_toArray, List.set_cons_zero, List.set_cons_succ, List.getElem_toArray, List.getElem_cons_succ, List.getElem_cons_zero]
              refine held_take 3 rfl (by kernel_rfl) (by kernel_rfl) (by kernel_rfl) (.bool true) (fun _ _ _ h => nomatch h.1) (by kernel_rfl) (fun w' h => by kernel_rfl) hS ?_
              simp only [Act.put, List.setIfInBounds_toArray, List.set_cons_zero, List.set_cons_succ, List.getElem_toArray, List.getElem_cons_succ, List.getElem_cons_zero]
              refine held_take 4 rfl (by kernel_rfl) (by kernel_rfl) (by kernel_rfl) (.pointer (some ⟨B, 2, none⟩)) (fun _ _ _ h => nomatch h.1) (by kernel_rfl) (fun w' h => by kernel_rfl) hS ?_
              simp only [Act.put, List.setIfInBounds_toArray, List.set_cons_zero, List.set_cons_succ, List.getElem_toArray, List.getElem_cons_succ, List.getElem_cons_zero]
              refine held_take 5 rfl (by kernel_rfl) (by kernel_rfl) (by kernel_rfl) (.int .i64 xb) (fun _ _ _ h => nomatch h.1) (by kernel_rfl) (fun w' h => exec_load_cell 3 w' _ rfl ⟨B, 2, none⟩ (by kernel_rfl) _ (by rw [cell_of_row _ _ _ _ _ _ (hO5.out.below h).hbox]; rfl) (fun _ => by kernel_rfl)) hS ?_
              simp only [Act.put, List.setIfInBounds_toArray, List.set_cons_zero, List.set_cons_succ, List.getElem_toArray, List.getElem_cons_succ, List.getElem_cons_zero]
              refine held_take 6 rfl (by kernel_rfl) (by kernel_rfl) (by kernel_rfl) (.bool true) (fun _ _ _ h => nomatch h.1) (by kernel_rfl) (fun w' h => (exec_ltI _ _ rfl xb 64 (by kernel_rfl) (by kernel_rfl)).trans (by rw [d2])) hS ?_
              simp only [Act.put, List.setIfInBounds_toArray, List.set_cons_zero, List.set_cons_succ, List.getElem_toArray, List.getElem_cons_succ, List.getElem_cons_zero]
              refine held_take 7 rfl (by kernel_rfl) (by kernel_rfl) (by kernel_rfl) (.bool true) (fun _ _ _ h => nomatch h.1) (by kernel_rfl) (fun w' h => by kernel_rfl) hS ?_
              simp only [Act.put, List.setIfInBounds_toArray, List.set_cons_zero, List.set_cons_succ, List.getElem_toArray, List.getElem_cons_succ, List.getElem_cons_zero]
              refine held_take 8 rfl (by kernel_rfl) (by kernel_rfl) (by kernel_rfl) (.bool true) (fun _ _ _ h => nomatch h.1) (by kernel_rfl) (fun w' h => by kernel_rfl) hS ?_
              simp only [Act.put, List.setIfInBounds_toArray, List.set_cons_zero, List.set_cons_succ, List.getElem_toArray, List.getElem_cons_succ, List.getElem_cons_zero]
              refine held_take 9 rfl (by kernel_rfl) (by kernel_rfl) (by kernel_rfl) (.pointer (some ⟨B, 1, none⟩)) (fun _ _ _ h => nomatch h.1) (by kernel_rfl) (fun w' h => by kernel_rfl) hS ?_
              simp only [Act.put, List.setIfInBounds_toArray, List.set_cons_zero, List.set_cons_succ, List.getElem_toArray, List.getElem_cons_succ, List.getElem_cons_zero]
              refine held_take 10 rfl (by kernel_rfl) (by kernel_rfl) (by kernel_rfl) (.int .i64 xa) (fun _ _ _ h => nomatch h.1) (by kernel_rfl) (fun w' h => exec_load_cell 3 w' _ rfl ⟨B, 1, none⟩ (by kernel_rfl) _ (by rw [cell_of_row _ _ _ _ _ _ (hO5.out.below h).hbox]; rfl) (fun _ => by kernel_rfl)) hS ?_
              simp only [Act.put, List.setIfInBounds_toArray, List.set_cons_zero, List.set_cons_succ, List.getElem_toArray, List.getElem_cons_succ, List.getElem_cons_zero]
              refine held_take 11 rfl (by kernel_rfl) (by kernel_rfl) (by kernel_rfl) (.bool true) (fun _ _ _ h => nomatch h.1) (by kernel_rfl) (fun w' h => (exec_geI _ _ rfl xa 0 (by kernel_rfl) (by kernel_rfl)).trans (by rw [d3])) hS ?_
              simp only [Act.put, List.setIfInBounds_toArray, List.set_cons_zero, List.set_cons_succ, List.getElem_toArray, List.getElem_cons_succ, List.getElem_cons_zero]
              refine held_take 12 rfl (by kernel_rfl) (by kernel_rfl) (by kernel_rfl) (.bool true) (fun _ _ _ h => nomatch h.1) (by kernel_rfl) (fun w' h => by kernel_rfl) hS ?_
              simp only [Act.put, List.setIfInBounds_toArray, List.set_cons_zero, List.set_cons_succ, List.getElem_toArray, List.getElem_cons_succ, List.getElem_cons_zero]
              refine held_take 13 rfl (by kernel_rfl) (by kernel_rfl) (by kernel_rfl) (.bool true) (fun _ _ _ h => nomatch h.1) (by kernel_rfl) (fun w' h => by kernel_rfl) hS ?_
              simp only [Act.put, List.setIfInBounds_toArray, List.set_cons_zero, List.set_cons_succ, List.getElem_toArray, List.getElem_cons_succ, List.getElem_cons_zero]
              refine held_take 14 rfl (by kernel_rfl) (by kernel_rfl) (by kernel_rfl) (.pointer (some ⟨B, 1, none⟩)) (fun _ _ _ h => nomatch h.1) (by kernel_rfl) (fun w' h => by kernel_rfl) hS ?_
              simp only [Act.put, List.setIfInBounds_toArray, List.set_cons_zero, List.set_cons_succ, List.getElem_toArray, List.getElem_cons_succ, List.getElem_cons_zero]
              refine held_take 15 rfl (by kernel_rfl) (by kernel_rfl) (by kernel_rfl) (.int .i64 xa) (fun _ _ _ h => nomatch h.1) (by kernel_rfl) (fun w' h => exec_load_cell 3 w' _ rfl ⟨B, 1, none⟩ (by kernel_rfl) _ (by rw [cell_of_row _ _ _ _ _ _ (hO5.out.below h).hbox]; rfl) (fun _ => by kernel_rfl)) hS ?_
              simp only [Act.put, List.setIfInBounds_toArray, List.set_cons_zero, List.set_cons_succ, List.getElem_toArray, List.getElem_cons_succ, List.getElem_cons_zero]
              refine held_take 16 rfl (by kernel_rfl) (by kernel_rfl) (by kernel_rfl) (.bool true) (fun _ _ _ h => nomatch h.1) (by kernel_rfl) (fun w' h => (exec_ltI _ _ rfl xa 64 (by kernel_rfl) (by kernel_rfl)).trans (by rw [d4])) hS ?_
              simp only [Act.put, List.setIfInBounds_toArray, List.set_cons_zero, List.set_cons_succ, List.getElem_toArray, List.getElem_cons_succ, List.getElem_cons_zero]
              refine held_take 17 rfl (by kernel_rfl) (by kernel_rfl) (by kernel_rfl) (.bool true) (fun _ _ _ h => nomatch h.1) (by kernel_rfl) (fun w' h => by kernel_rfl) hS ?_
              simp only [Act.put, List.setIfInBounds_toArray, List.set_cons_zero, List.set_cons_succ, List.getElem_toArray, List.getElem_cons_succ, List.getElem_cons_zero]
              refine held_take 18 rfl (by kernel_rfl) (by kernel_rfl) (by kernel_rfl) (.bool true) (fun _ _ _ h => nomatch h.1) (by kernel_rfl) (fun w' h => by kernel_rfl) hS ?_
              simp only [Act.put, List.setIfInBounds_toArray, List.set_cons_zero, List.set_cons_succ, List.getElem_toArray, List.getElem_cons_succ, List.getElem_cons_zero]
              refine held_take 19 rfl (by kernel_rfl) (by kernel_rfl) (by kernel_rfl) (.slice A2 m c2) (fun _ _ _ h => nomatch h.1) (by kernel_rfl) (fun w' h => by kernel_rfl) hS ?_
              simp only [Act.put, List.setIfInBounds_toArray, List.set_cons_zero, List.set_cons_succ, List.getElem_toArray, List.getElem_cons_succ, List.getElem_cons_zero]
              refine held_take 20 rfl (by kernel_rfl) (by kernel_rfl) (by kernel_rfl) (.pointer (some ⟨B, 1, none⟩)) (fun _ _ _ h => nomatch h.1) (by kernel_rfl) (fun w' h => by kernel_rfl) hS ?_
              simp only [Act.put, List.setIfInBounds_toArray, List.set_cons_zero, List.set_cons_succ, List.getElem_toArray, List.getElem_cons_succ, List.getElem_cons_zero]
              refine held_take 21 rfl (by kernel_rfl) (by kernel_rfl) (by kernel_rfl) (.int .i64 xa) (fun _ _ _ h => nomatch h.1) (by kernel_rfl) (fun w' h => exec_load_cell 3 w' _ rfl ⟨B, 1, none⟩ (by kernel_rfl) _ (by rw [cell_of_row _ _ _ _ _ _ (hO5.out.below h).hbox]; rfl) (fun _ => by kernel_rfl)) hS ?_
              simp only [Act.put, List.setIfInBounds_toArray, List.set_cons_zero, List.set_cons_succ, List.getElem_toArray, List.getElem_cons_succ, List.getElem_cons_zero]
              refine held_take 23 rfl (by kernel_rfl) (by kernel_rfl) (by kernel_rfl) (.pointer (some ⟨B, 2, none⟩)) (fun _ _ _ h => nomatch h.1) (by kernel_rfl) (fun w' h => by kernel_rfl) hS ?_
              simp only [Act.put, List.setIfInBounds_toArray, List.set_cons_zero, List.set_cons_succ, List.getElem_toArray, List.getElem_cons_succ, List.getElem_cons_zero]
              refine held_take 24 rfl (by kernel_rfl) (by kernel_rfl) (by kernel_rfl) (.int .i64 xb) (fun _ _ _ h => nomatch h.1) (by kernel_rfl) (fun w' h => exec_load_cell 3 w' _ rfl ⟨B, 2, none⟩ (by kernel_rfl) _ (by rw [cell_of_row _ _ _ _ _ _ (hO5.out.below h).hbox]; rfl) (fun _ => by kernel_rfl)) hS ?_
              simp only [Act.put, List.setIfInBounds_toArray, List.set_cons_zero, List.set_cons_succ, List.getElem_toArray, List.getElem_cons_succ, List.getElem_cons_zero]
              refine held_take 26 rfl (by kernel_rfl) (by kernel_rfl) (by kernel_rfl) (.bool ab) (fun _ _ _ h => nomatch h.1) (by kernel_rfl) (fun w' h => by kernel_rfl) hS ?_
              simp only [Act.put, List.setIfInBounds_toArray, List.set_cons_zero, List.set_cons_succ, List.getElem_toArray, List.getElem_cons_succ, List.getElem_cons_zero]
              refine held_call 22 rfl (by kernel_rfl) (by kernel_rfl) 21 #[.slice A2 m c2, .int .i64 xa] (by kernel_rfl) (R := fun v w' => v = .int .u64 (ma : Int) ∧ Below v0.heap.size v0 w') (above_callsT up hs A2 m c2 hmH.out xa v0 (hO5.out.below hS).hT (hO5.out.below hS).hc ma hma) ?_
              rintro _ y1 ⟨rfl, hbn⟩
              have hSn : Below wc.heap.size wc y1 := hS.trans (hbn.mono hS.size)
              refine ⟨hSn, ?_⟩
              clear hS hbn
              have hS := hSn
              clear hSn
              simp only [Act.put, List.setIfInBounds_toArray, List.set_cons_zero, List.set_cons_succ, List.getElem_toArray, List.getElem_cons_succ, List.getElem_cons_zero]
              refine held_call 25 rfl (by kernel_rfl) (by kernel_rfl) 29 #[.int .u64 (ma : Int), .int .i64 xb] (by kernel_rfl) (R := fun v w' => v = .bool ab ∧ Below y1.heap.size y1 w') (bit_callsT ma xb ma9 y1 ab b1) ?_
              rintro _ y2 ⟨rfl, hbn⟩
              have hSn : Below wc.heap.size wc y2 := hS.trans (hbn.mono hS.size)
              refine ⟨hSn, ?_⟩
              clear hS hbn
              have hS := hSn
              clear hSn
              simp only [Act.put, List.setIfInBounds_toArray, List.set_cons_zero, List.set_cons_succ, List.getElem_toArray, List.getElem_cons_succ, List.getElem_cons_zero]
              refine held_take 27 rfl (by kernel_rfl) (by kernel_rfl) (by kernel_rfl) (.bool false) (fun _ _ _ h => nomatch h.1) (by kernel_rfl) (fun w' h => (exec_neB _ _ rfl ab ab (by kernel_rfl) (by kernel_rfl)).trans (by rw [bne_self_eq_false])) hS ?_
              simp only [Act.put, List.setIfInBounds_toArray, List.set_cons_zero, List.set_cons_succ, List.getElem_toArray, List.getElem_cons_succ, List.getElem_cons_zero]
              refine held_take 28 rfl (by kernel_rfl) (by kernel_rfl) (by kernel_rfl) (.bool false) (fun _ _ _ h => nomatch h.1) (by kernel_rfl) (fun w' h => by kernel_rfl) hS ?_
              simp only [Act.put, List.setIfInBounds_toArray, List.set_cons_zero, List.set_cons_succ, List.getElem_toArray, List.getElem_cons_succ, List.getElem_cons_zero]
              refine held_take 29 rfl (by kernel_rfl) (by kernel_rfl) (by kernel_rfl) (.slice A2 m c2) (fun _ _ _ h => nomatch h.1) (by kernel_rfl) (fun w' h => by kernel_rfl) hS ?_
              simp only [Act.put, List.setIfInBounds_toArray, List.set_cons_zero, List.set_cons_succ, List.getElem_toArray, List.getElem_cons_succ, List.getElem_cons_zero]
              refine held_take 30 rfl (by kernel_rfl) (by kernel_rfl) (by kernel_rfl) (.pointer (some ⟨B, 2, none⟩)) (fun _ _ _ h => nomatch h.1) (by kernel_rfl) (fun w' h => by kernel_rfl) hS ?_
              simp only [Act.put, List.setIfInBounds_toArray, List.set_cons_zero, List.set_cons_succ, List.getElem_toArray, List.getElem_cons_succ, List.getElem_cons_zero]
              refine held_take 31 rfl (by kernel_rfl) (by kernel_rfl) (by kernel_rfl) (.int .i64 xb) (fun _ _ _ h => nomatch h.1) (by kernel_rfl) (fun w' h => exec_load_cell 3 w' _ rfl ⟨B, 2, none⟩ (by kernel_rfl) _ (by rw [cell_of_row _ _ _ _ _ _ (hO5.out.below h).hbox]; rfl) (fun _ => by kernel_rfl)) hS ?_
              simp only [Act.put, List.setIfInBounds_toArray, List.set_cons_zero, List.set_cons_succ, List.getElem_toArray, List.getElem_cons_succ, List.getElem_cons_zero]
              refine held_take 33 rfl (by kernel_rfl) (by kernel_rfl) (by kernel_rfl) (.pointer (some ⟨B, 1, none⟩)) (fun _ _ _ h => nomatch h.1) (by kernel_rfl) (fun w' h => by kernel_rfl) hS ?_
              simp only [Act.put, List.setIfInBounds_toArray, List.set_cons_zero, List.set_cons_succ, List.getElem_toArray, List.getElem_cons_succ, List.getElem_cons_zero]
              refine held_take 34 rfl (by kernel_rfl) (by kernel_rfl) (by kernel_rfl) (.int .i64 xa) (fun _ _ _ h => nomatch h.1) (by kernel_rfl) (fun w' h => exec_load_cell 3 w' _ rfl ⟨B, 1, none⟩ (by kernel_rfl) _ (by rw [cell_of_row _ _ _ _ _ _ (hO5.out.below h).hbox]; rfl) (fun _ => by kernel_rfl)) hS ?_
              simp only [Act.put, List.setIfInBounds_toArray, List.set_cons_zero, List.set_cons_succ, List.getElem_toArray, List.getElem_cons_succ, List.getElem_cons_zero]
              refine held_take 36 rfl (by kernel_rfl) (by kernel_rfl) (by kernel_rfl) (.bool ab) (fun _ _ _ h => nomatch h.1) (by kernel_rfl) (fun w' h => by kernel_rfl) hS ?_
              simp only [Act.put, List.setIfInBounds_toArray, List.set_cons_zero, List.set_cons_succ, List.getElem_toArray, List.getElem_cons_succ, List.getElem_cons_zero]
              refine held_call 32 rfl (by kernel_rfl) (by kernel_rfl) 23 #[.slice A2 m c2, .int .i64 xb] (by kernel_rfl) (R := fun v w' => v = .int .u64 (mb : Int) ∧ Below y2.heap.size y2 w') (below_callsT up hs A2 m c2 hmH.out xb y2 (hO5.out.below hS).hT (hO5.out.below hS).hc mb hmb) ?_
              rintro _ y3 ⟨rfl, hbn⟩
              have hSn : Below wc.heap.size wc y3 := hS.trans (hbn.mono hS.size)
              refine ⟨hSn, ?_⟩
              clear hS hbn
              have hS := hSn
              clear hSn
              simp only [Act.put, List.setIfInBounds_toArray, List.set_cons_zero, List.set_cons_succ, List.getElem_toArray, List.getElem_cons_succ, List.getElem_cons_zero]
              refine held_call 35 rfl (by kernel_rfl) (by kernel_rfl) 29 #[.int .u64 (mb : Int), .int .i64 xa] (by kernel_rfl) (R := fun v w' => v = .bool ab ∧ Below y3.heap.size y3 w') (bit_callsT mb xa mb9 y3 ab b2) ?_
              rintro _ y4 ⟨rfl, hbn⟩
              have hSn : Below wc.heap.size wc y4 := hS.trans (hbn.mono hS.size)
              refine ⟨hSn, ?_⟩
              clear hS hbn
              have hS := hSn
              clear hSn
              simp only [Act.put, List.setIfInBounds_toArray, List.set_cons_zero, List.set_cons_succ, List.getElem_toArray, List.getElem_cons_succ, List.getElem_cons_zero]
              refine held_take 37 rfl (by kernel_rfl) (by kernel_rfl) (by kernel_rfl) (.bool false) (fun _ _ _ h => nomatch h.1) (by kernel_rfl) (fun w' h => (exec_neB _ _ rfl ab ab (by kernel_rfl) (by kernel_rfl)).trans (by rw [bne_self_eq_false])) hS ?_
              simp only [Act.put, List.setIfInBounds_toArray, List.set_cons_zero, List.set_cons_succ, List.getElem_toArray, List.getElem_cons_succ, List.getElem_cons_zero]
              refine held_take 38 rfl (by kernel_rfl) (by kernel_rfl) (by kernel_rfl) (.bool false) (fun _ _ _ h => nomatch h.1) (by kernel_rfl) (fun w' h => by kernel_rfl) hS ?_
              simp only [Act.put, List.setIfInBounds_toArray, List.set_cons_zero, List.set_cons_succ, List.getElem_toArray, List.getElem_cons_succ, List.getElem_cons_zero]
              refine held_take 39 rfl (by kernel_rfl) (by kernel_rfl) (by kernel_rfl) (.bool false) (fun _ _ _ h => nomatch h.1) (by kernel_rfl) (fun w' h => by kernel_rfl) hS ?_
              simp only [Act.put, List.setIfInBounds_toArray, List.set_cons_zero, List.set_cons_succ, List.getElem_toArray, List.getElem_cons_succ, List.getElem_cons_zero]
              refine wpAnyH_done (by kernel_rfl) ?_ _
              have hO6 : Hid (OC w B (.slice A n c) xa xb xc (.slice A2 m c2) up y4) := hO5.out.below hS
              refine ⟨rfl, ?_⟩
              rename_i hK
              refine hK _ _ ?_
              go_meet
              case rel => exact ⟨rfl, hO6⟩
            · have d4 : decide (xa < 64) = false := by simpa using h4
              go_quiet (fail)
              go_wp2_with fail
              go_meet
              case rel => exact ⟨rfl, hd9 _⟩
          · have d3 : decide (0 ≤ xa) = false := by simpa using h3
            go_quiet (fail)
            go_wp2_with fail
            go_meet
            case rel => exact ⟨rfl, hd9 _⟩
        · have d2 : decide (xb < 64) = false := by simpa using h2
          go_quiet (fail)
          go_wp2_with fail
          go_meet
          case rel => exact ⟨rfl, hd9 _⟩
      · have d1 : decide (0 ≤ xb) = false := by simpa using h1
        go_quiet (fail)
        go_wp2_with fail
        go_meet
        case rel => exact ⟨rfl, hd9 _⟩
    case rest =>
      obtain ⟨w9, rfl⟩ : ∃ w9 : World, w9 = wc := ⟨_, rfl⟩
      obtain ⟨rfl, hOw9⟩ := hcut
      clear hO5 f1 f2 f3 f4
      go_upto_region 9 with fail
      obtain ⟨r, hr⟩ : ∃ r, r = joinS up xa xb := ⟨_, rfl⟩
      obtain ⟨k, hk⟩ : ∃ k : Nat, k = r.getD 0 := ⟨_, rfl⟩
      obtain ⟨ok, hok⟩ : ∃ k, k = r.isSome := ⟨_, rfl⟩
      have hrH : Hid (r = joinS up xa xb) := hr
      have hkH : Hid (k = r.getD 0) := hk
      have hokH : Hid (ok = r.isSome) := hok
      clear hr hk hok
      refine wp_region_lit ?_
      refine sl_run rfl (.slice A2 m c2) w9 (by kernel_rfl) ?_
      simp only [Act.put, List.setIfInBounds_toArray, List.set_cons_zero, List.set_cons_succ]
      refine sl_run rfl (.pointer (some ⟨B, 1, none⟩)) w9 (by kernel_rfl) ?_
      simp only [Act.put, List.setIfInBounds_toArray, List.set_cons_zero, List.set_cons_succ]
      refine sl_run rfl (.int .i64 xa) w9 (exec_load_cell 3 w9 _ rfl ⟨B, 1, none⟩ (by kernel_rfl) _ (by rw [cell_of_row _ _ _ _ _ _ hOw9.out.hbox]; rfl) (fun _ => by kernel_rfl)) ?_
      simp only [Act.put, List.setIfInBounds_toArray, List.set_cons_zero, List.set_cons_succ]
      refine sl_run rfl (.pointer (some ⟨B, 2, none⟩)) w9 (by kernel_rfl) ?_
      simp only [Act.put, List.setIfInBounds_toArray, List.set_cons_zero, List.set_cons_succ]
      refine sl_run rfl (.int .i64 xb) w9 (exec_load_cell 3 w9 _ rfl ⟨B, 2, none⟩ (by kernel_rfl) _ (by rw [cell_of_row _ _ _ _ _ _ hOw9.out.hbox]; rfl) (fun _ => by kernel_rfl)) ?_
      simp only [Act.put, List.setIfInBounds_toArray, List.set_cons_zero, List.set_cons_succ]
      refine sg_call (by kernel_rfl) 17 #[.slice A2 m c2, .int .i64 xa, .int .i64 xb] (by kernel_rfl) (R := fun v w' => v = .tuple #[.int .i64 (k : Int), .bool ok] ∧ Below w9.heap.size w9 w') ((join_calls up hs A2 m c2 hmH.out xa xb w9 hOw9.out.hT hOw9.out.hc).mono fun e w' h => by
        obtain ⟨h1, h2⟩ := h
        rw [← hrH.out, ← hkH.out, ← hokH.out] at h1
        exact ⟨_, h1, rfl, h2⟩) ?_
      rintro _ w10 ⟨rfl, hb⟩
      simp only [Act.put, List.setIfInBounds_toArray, List.set_cons_zero, List.set_cons_succ]
      have hOw10 : Hid (OC w B (.slice A n c) xa xb xc (.slice A2 m c2) up w10) := (hOw9.out).below hb
      clear hOw9
      clear hb
      refine sl_run rfl (.tuple #[.int .i64 (k : Int), .bool ok]) w10 (by kernel_rfl) ?_
      simp only [Act.put, List.setIfInBounds_toArray, List.set_cons_zero, List.set_cons_succ]
      refine sl_run rfl (.int .i64 (k : Int)) w10 (by kernel_rfl) ?_
      simp only [Act.put, List.setIfInBounds_toArray, List.set_cons_zero, List.set_cons_succ]
      refine sl_run rfl (.bool ok) w10 (by kernel_rfl) ?_
      simp only [Act.put, List.setIfInBounds_toArray, List.set_cons_zero, List.set_cons_succ]
      refine sl_run rfl (.int .i64 (k : Int)) w10 (by kernel_rfl) ?_
      simp only [Act.put, List.setIfInBounds_toArray, List.set_cons_zero, List.set_cons_succ]
      refine sl_run rfl (.bool ok) w10 (by kernel_rfl) ?_
      simp only [Act.put, List.setIfInBounds_toArray, List.set_cons_zero, List.set_cons_succ]
      refine wpList_nil ?_
      go_upto_region 10 with fail
      cases ok with
      | false =>
        have hBf : Hid (Below w.heap.size w w10) := hOw10.out.hB
        clear hOw10
        go_wp2_with fail
        go_ret
        exact ⟨rfl, hBf.out⟩
      | true =>
        have hjk : joinS up xa xb = some k := by
          rw [← hrH.out, hkH.out]
          have := hokH.out
          cases r with
          | none => cases this
          | some q => rfl
        obtain ⟨p1, p2, p3⟩ := join_least hs hjk
        have q1 : Hid (tr (atS up xa (k : Int)) = true) := tr_iff.2 p1
        have q2 : Hid (tr (atS up xb (k : Int)) = true) := tr_iff.2 p2
        have q3 : Hid (ac = true → bc = true → tr (atS up (k : Int) xc) = true) := fun h1 h2 => tr_iff.2 (p3 xc (tr_iff.1 (g1.out.trans h1)) (tr_iff.1 (g2.out.trans h2)))
        clear hjk p1 p2 p3 hrH hkH hokH
        refine wp_region_lit ?_
        refine sg_run (by kernel_rfl) (.bool true) w10 (by kernel_rfl) ?_
        simp only [Act.put, List.setIfInBounds_toArray, List.set_cons_zero, List.set_cons_succ]
        refine sg_run (by kernel_rfl) (.bool true) w10 (by kernel_rfl) ?_
        simp only [Act.put, List.setIfInBounds_toArray, List.set_cons_zero, List.set_cons_succ]
        refine sg_run (by kernel_rfl) (.slice A2 m c2) w10 (by kernel_rfl) ?_
        simp only [Act.put, List.setIfInBounds_toArray, List.set_cons_zero, List.set_cons_succ]
        refine sg_run (by kernel_rfl) (.pointer (some ⟨B, 1, none⟩)) w10 (by kernel_rfl) ?_
        simp only [Act.put, List.setIfInBounds_toArray, List.set_cons_zero, List.set_cons_succ]
        refine sg_run (by kernel_rfl) (.int .i64 xa) w10 (exec_load_cell 3 w10 _ rfl ⟨B, 1, none⟩ (by kernel_rfl) _ (by rw [cell_of_row _ _ _ _ _ _ hOw10.out.hbox]; rfl) (fun _ => by kernel_rfl)) ?_
        simp only [Act.put, List.setIfInBounds_toArray, List.set_cons_zero, List.set_cons_succ]
        refine sg_run (by kernel_rfl) (.int .i64 (k : Int)) w10 (by kernel_rfl) ?_
        simp only [Act.put, List.setIfInBounds_toArray, List.set_cons_zero, List.set_cons_succ]
        refine sg_call (by kernel_rfl) 19 #[.slice A2 m c2, .int .i64 xa, .int .i64 (k : Int)] (by kernel_rfl) (R := fun v w' => v = .bool true ∧ Below w10.heap.size w10 w') ((at_calls up hs A2 m c2 hmH.out xa k w10 hOw10.out.hT hOw10.out.hc).mono fun e w' h => by
          obtain ⟨h1, h2⟩ := h
          rw [q1.out] at h1
          exact ⟨_, h1, rfl, h2⟩) ?_
        rintro _ w11 ⟨rfl, hb⟩
        simp only [Act.put, List.setIfInBounds_toArray, List.set_cons_zero, List.set_cons_succ]
        have hOw11 : Hid (OC w B (.slice A n c) xa xb xc (.slice A2 m c2) up w11) := (hOw10.out).below hb
        clear hOw10
        clear hb
        refine sg_run (by kernel_rfl) (.bool false) w11 (by kernel_rfl) ?_
        simp only [Act.put, List.setIfInBounds_toArray, List.set_cons_zero, List.set_cons_succ]
        refine sg_run (by kernel_rfl) (.bool false) w11 (by kernel_rfl) ?_
        simp only [Act.put, List.setIfInBounds_toArray, List.set_cons_zero, List.set_cons_succ]
        refine sg_run (by kernel_rfl) (.slice A2 m c2) w11 (by kernel_rfl) ?_
        simp only [Act.put, List.setIfInBounds_toArray, List.set_cons_zero, List.set_cons_succ]
        refine sg_run (by kernel_rfl) (.pointer (some ⟨B, 2, none⟩)) w11 (by kernel_rfl) ?_
        simp only [Act.put, List.setIfInBounds_toArray, List.set_cons_zero, List.set_cons_succ]
        refine sg_run (by kernel_rfl) (.int .i64 xb) w11 (exec_load_cell 3 w11 _ rfl ⟨B, 2, none⟩ (by kernel_rfl) _ (by rw [cell_of_row _ _ _ _ _ _ hOw11.out.hbox]; rfl) (fun _ => by kernel_rfl)) ?_
        simp only [Act.put, List.setIfInBounds_toArray, List.set_cons_zero, List.set_cons_succ]
        refine sg_run (by kernel_rfl) (.int .i64 (k : Int)) w11 (by kernel_rfl) ?_
        simp only [Act.put, List.setIfInBounds_toArray, List.set_cons_zero, List.set_cons_succ]
        refine sg_call (by kernel_rfl) 19 #[.slice A2 m c2, .int .i64 xb, .int .i64 (k : Int)] (by kernel_rfl) (R := fun v w' => v = .bool true ∧ Below w11.heap.size w11 w') ((at_calls up hs A2 m c2 hmH.out xb k w11 hOw11.out.hT hOw11.out.hc).mono fun e w' h => by
          obtain ⟨h1, h2⟩ := h
          rw [q2.out] at h1
          exact ⟨_, h1, rfl, h2⟩) ?_
        rintro _ w12 ⟨rfl, hb⟩
        simp only [Act.put, List.setIfInBounds_toArray, List.set_cons_zero, List.set_cons_succ]
        have hOw12 : Hid (OC w B (.slice A n c) xa xb xc (.slice A2 m c2) up w12) := (hOw11.out).below hb
        clear hOw11
        clear hb
        refine sg_run (by kernel_rfl) (.bool false) w12 (by kernel_rfl) ?_
        simp only [Act.put, List.setIfInBounds_toArray, List.set_cons_zero, List.set_cons_succ]
        refine sg_run (by kernel_rfl) (.bool false) w12 (by kernel_rfl) ?_
        simp only [Act.put, List.setIfInBounds_toArray, List.set_cons_zero, List.set_cons_succ]
        refine sg_run (by kernel_rfl) (.bool false) w12 (by kernel_rfl) ?_
        simp only [Act.put, List.setIfInBounds_toArray, List.set_cons_zero, List.set_cons_succ]
        refine sg_run (by kernel_rfl) (.slice A2 m c2) w12 (by kernel_rfl) ?_
        simp only [Act.put, List.setIfInBounds_toArray, List.set_cons_zero, List.set_cons_succ]
        refine sg_run (by kernel_rfl) (.pointer (some ⟨B, 1, none⟩)) w12 (by kernel_rfl) ?_
        simp only [Act.put, List.setIfInBounds_toArray, List.set_cons_zero, List.set_cons_succ]
        refine sg_run (by kernel_rfl) (.int .i64 xa) w12 (exec_load_cell 3 w12 _ rfl ⟨B, 1, none⟩ (by kernel_rfl) _ (by rw [cell_of_row _ _ _ _ _ _ hOw12.out.hbox]; rfl) (fun _ => by kernel_rfl)) ?_
        simp only [Act.put, List.setIfInBounds_toArray, List.set_cons_zero, List.set_cons_succ]
        refine sg_run (by kernel_rfl) (.pointer (some ⟨B, 3, none⟩)) w12 (by kernel_rfl) ?_
        simp only [Act.put, List.setIfInBounds_toArray, List.set_cons_zero, List.set_cons_succ]
        refine sg_run (by kernel_rfl) (.int .i64 xc) w12 (exec_load_cell 3 w12 _ rfl ⟨B, 3, none⟩ (by kernel_rfl) _ (by rw [cell_of_row _ _ _ _ _ _ hOw12.out.hbox]; rfl) (fun _ => by kernel_rfl)) ?_
        simp only [Act.put, List.setIfInBounds_toArray, List.set_cons_zero, List.set_cons_succ]
        refine sg_call (by kernel_rfl) 19 #[.slice A2 m c2, .int .i64 xa, .int .i64 xc] (by kernel_rfl) (R := fun v w' => v = .bool ac ∧ Below w12.heap.size w12 w') ((at_calls up hs A2 m c2 hmH.out xa xc w12 hOw12.out.hT hOw12.out.hc).mono fun e w' h => by
          obtain ⟨h1, h2⟩ := h
          rw [g1.out] at h1
          exact ⟨_, h1, rfl, h2⟩) ?_
        rintro _ w13 ⟨rfl, hb⟩
        simp only [Act.put, List.setIfInBounds_toArray, List.set_cons_zero, List.set_cons_succ]
        have hOw13 : Hid (OC w B (.slice A n c) xa xb xc (.slice A2 m c2) up w13) := (hOw12.out).below hb
        clear hOw12
        clear hb
        refine sg_run (by kernel_rfl) (.bool ac) w13 (by kernel_rfl) ?_
        simp only [Act.put, List.setIfInBounds_toArray, List.set_cons_zero, List.set_cons_succ]
        cases ac with
        | false =>
          refine wpList_skip ?hw ?_
          case hw => kernel_rfl
          simp only [Act.put, List.setIfInBounds_toArray, List.set_cons_zero, List.set_cons_succ]
          refine wpList_skip ?hw ?_
          case hw => kernel_rfl
          simp only [Act.put, List.setIfInBounds_toArray, List.set_cons_zero, List.set_cons_succ]
          refine wpList_skip ?hw ?_
          case hw => kernel_rfl
          simp only [Act.put, List.setIfInBounds_toArray, List.set_cons_zero, List.set_cons_succ]
          refine wpList_skip ?hw ?_
          case hw => kernel_rfl
          simp only [Act.put, List.setIfInBounds_toArray, List.set_cons_zero, List.set_cons_succ]
          refine wpList_skip ?hw ?_
          case hw => kernel_rfl
          simp only [Act.put, List.setIfInBounds_toArray, List.set_cons_zero, List.set_cons_succ]
          refine wpList_skip ?hw ?_
          case hw => kernel_rfl
          simp only [Act.put, List.setIfInBounds_toArray, List.set_cons_zero, List.set_cons_succ]
          refine sg_run (by kernel_rfl) (.bool false) w13 (by kernel_rfl) ?_
          simp only [Act.put, List.setIfInBounds_toArray, List.set_cons_zero, List.set_cons_succ]
          refine sg_run (by kernel_rfl) (.bool false) w13 (by kernel_rfl) ?_
          simp only [Act.put, List.setIfInBounds_toArray, List.set_cons_zero, List.set_cons_succ]
          refine wpList_skip ?hw ?_
          case hw => kernel_rfl
          simp only [Act.put, List.setIfInBounds_toArray, List.set_cons_zero, List.set_cons_succ]
          refine wpList_skip ?hw ?_
          case hw => kernel_rfl
          simp only [Act.put, List.setIfInBounds_toArray, List.set_cons_zero, List.set_cons_succ]
          refine wpList_skip ?hw ?_
          case hw => kernel_rfl
          simp only [Act.put, List.setIfInBounds_toArray, List.set_cons_zero, List.set_cons_succ]
          refine wpList_skip ?hw ?_
          case hw => kernel_rfl
          simp only [Act.put, List.setIfInBounds_toArray, List.set_cons_zero, List.set_cons_succ]
          refine wpList_skip ?hw ?_
          case hw => kernel_rfl
          simp only [Act.put, List.setIfInBounds_toArray, List.set_cons_zero, List.set_cons_succ]
          refine wpList_skip ?hw ?_
          case hw => kernel_rfl
          simp only [Act.put, List.setIfInBounds_toArray, List.set_cons_zero, List.set_cons_succ]
          refine sg_run (by kernel_rfl) (.bool false) w13 (by kernel_rfl) ?_
          simp only [Act.put, List.setIfInBounds_toArray, List.set_cons_zero, List.set_cons_succ]
          refine sg_run (by kernel_rfl) (.bool false) w13 (by kernel_rfl) ?_
          simp only [Act.put, List.setIfInBounds_toArray, List.set_cons_zero, List.set_cons_succ]
          refine sg_run (by kernel_rfl) (.bool false) w13 (by kernel_rfl) ?_
          simp only [Act.put, List.setIfInBounds_toArray, List.set_cons_zero, List.set_cons_succ]
          refine wpList_nil ?_
          have hBf : Hid (Below w.heap.size w w13) := hOw13.out.hB
          clear hOw13
          go_wp2_with fail
          go_ret
          exact ⟨rfl, hBf.out⟩
        | true =>
          refine sg_run (by kernel_rfl) (.slice A2 m c2) w13 (by kernel_rfl) ?_
          simp only [Act.put, List.setIfInBounds_toArray, List.set_cons_zero, List.set_cons_succ]
          refine sg_run (by kernel_rfl) (.pointer (some ⟨B, 2, none⟩)) w13 (by kernel_rfl) ?_
          simp only [Act.put, List.setIfInBounds_toArray, List.set_cons_zero, List.set_cons_succ]
          refine sg_run (by kernel_rfl) (.int .i64 xb) w13 (exec_load_cell 3 w13 _ rfl ⟨B, 2, none⟩ (by kernel_rfl) _ (by rw [cell_of_row _ _ _ _ _ _ hOw13.out.hbox]; rfl) (fun _ => by kernel_rfl)) ?_
          simp only [Act.put, List.setIfInBounds_toArray, List.set_cons_zero, List.set_cons_succ]
          refine sg_run (by kernel_rfl) (.pointer (some ⟨B, 3, none⟩)) w13 (by kernel_rfl) ?_
          simp only [Act.put, List.setIfInBounds_toArray, List.set_cons_zero, List.set_cons_succ]
          refine sg_run (by kernel_rfl) (.int .i64 xc) w13 (exec_load_cell 3 w13 _ rfl ⟨B, 3, none⟩ (by kernel_rfl) _ (by rw [cell_of_row _ _ _ _ _ _ hOw13.out.hbox]; rfl) (fun _ => by kernel_rfl)) ?_
          simp only [Act.put, List.setIfInBounds_toArray, List.set_cons_zero, List.set_cons_succ]
          refine sg_call (by kernel_rfl) 19 #[.slice A2 m c2, .int .i64 xb, .int .i64 xc] (by kernel_rfl) (R := fun v w' => v = .bool bc ∧ Below w13.heap.size w13 w') ((at_calls up hs A2 m c2 hmH.out xb xc w13 hOw13.out.hT hOw13.out.hc).mono fun e w' h => by
            obtain ⟨h1, h2⟩ := h
            rw [g2.out] at h1
            exact ⟨_, h1, rfl, h2⟩) ?_
          rintro _ w14 ⟨rfl, hb⟩
          simp only [Act.put, List.setIfInBounds_toArray, List.set_cons_zero, List.set_cons_succ]
          have hOw14 : Hid (OC w B (.slice A n c) xa xb xc (.slice A2 m c2) up w14) := (hOw13.out).below hb
          clear hOw13
          clear hb
          refine sg_run (by kernel_rfl) (.bool bc) w14 (by kernel_rfl) ?_
          simp only [Act.put, List.setIfInBounds_toArray, List.set_cons_zero, List.set_cons_succ]
          refine sg_run (by kernel_rfl) (.bool bc) w14 (by kernel_rfl) ?_
          simp only [Act.put, List.setIfInBounds_toArray, List.set_cons_zero, List.set_cons_succ]
          cases bc with
          | false =>
            refine wpList_skip ?hw ?_
            case hw => kernel_rfl
            simp only [Act.put, List.setIfInBounds_toArray, List.set_cons_zero, List.set_cons_succ]
            refine wpList_skip ?hw ?_
            case hw => kernel_rfl
            simp only [Act.put, List.setIfInBounds_toArray, List.set_cons_zero, List.set_cons_succ]
            refine wpList_skip ?hw ?_
            case hw => kernel_rfl
            simp only [Act.put, List.setIfInBounds_toArray, List.set_cons_zero, List.set_cons_succ]
            refine wpList_skip ?hw ?_
            case hw => kernel_rfl
            simp only [Act.put, List.setIfInBounds_toArray, List.set_cons_zero, List.set_cons_succ]
            refine wpList_skip ?hw ?_
            case hw => kernel_rfl
            simp only [Act.put, List.setIfInBounds_toArray, List.set_cons_zero, List.set_cons_succ]
            refine wpList_skip ?hw ?_
            case hw => kernel_rfl
            simp only [Act.put, List.setIfInBounds_toArray, List.set_cons_zero, List.set_cons_succ]
            refine sg_run (by kernel_rfl) (.bool false) w14 (by kernel_rfl) ?_
            simp only [Act.put, List.setIfInBounds_toArray, List.set_cons_zero, List.set_cons_succ]
            refine sg_run (by kernel_rfl) (.bool false) w14 (by kernel_rfl) ?_
            simp only [Act.put, List.setIfInBounds_toArray, List.set_cons_zero, List.set_cons_succ]
            refine sg_run (by kernel_rfl) (.bool false) w14 (by kernel_rfl) ?_
            simp only [Act.put, List.setIfInBounds_toArray, List.set_cons_zero, List.set_cons_succ]
            refine wpList_nil ?_
            have hBf : Hid (Below w.heap.size w w14) := hOw14.out.hB
            clear hOw14
            go_wp2_with fail
            go_ret
            exact ⟨rfl, hBf.out⟩
          | true =>
            refine sg_run (by kernel_rfl) (.slice A2 m c2) w14 (by kernel_rfl) ?_
            simp only [Act.put, List.setIfInBounds_toArray, List.set_cons_zero, List.set_cons_succ]
            refine sg_run (by kernel_rfl) (.int .i64 (k : Int)) w14 (by kernel_rfl) ?_
            simp only [Act.put, List.setIfInBounds_toArray, List.set_cons_zero, List.set_cons_succ]
            refine sg_run (by kernel_rfl) (.pointer (some ⟨B, 3, none⟩)) w14 (by kernel_rfl) ?_
            simp only [Act.put, List.setIfInBounds_toArray, List.set_cons_zero, List.set_cons_succ]
            refine sg_run (by kernel_rfl) (.int .i64 xc) w14 (exec_load_cell 3 w14 _ rfl ⟨B, 3, none⟩ (by kernel_rfl) _ (by rw [cell_of_row _ _ _ _ _ _ hOw14.out.hbox]; rfl) (fun _ => by kernel_rfl)) ?_
            simp only [Act.put, List.setIfInBounds_toArray, List.set_cons_zero, List.set_cons_succ]
            refine sg_call (by kernel_rfl) 19 #[.slice A2 m c2, .int .i64 (k : Int), .int .i64 xc] (by kernel_rfl) (R := fun v w' => v = .bool true ∧ Below w14.heap.size w14 w') ((at_calls up hs A2 m c2 hmH.out k xc w14 hOw14.out.hT hOw14.out.hc).mono fun e w' h => by
              obtain ⟨h1, h2⟩ := h
              rw [q3.out rfl rfl] at h1
              exact ⟨_, h1, rfl, h2⟩) ?_
            rintro _ w15 ⟨rfl, hb⟩
            simp only [Act.put, List.setIfInBounds_toArray, List.set_cons_zero, List.set_cons_succ]
            have hOw15 : Hid (OC w B (.slice A n c) xa xb xc (.slice A2 m c2) up w15) := (hOw14.out).below hb
            clear hOw14
            clear hb
            refine sg_run (by kernel_rfl) (.bool false) w15 (by kernel_rfl) ?_
            simp only [Act.put, List.setIfInBounds_toArray, List.set_cons_zero, List.set_cons_succ]
            refine sg_run (by kernel_rfl) (.bool false) w15 (by kernel_rfl) ?_
            simp only [Act.put, List.setIfInBounds_toArray, List.set_cons_zero, List.set_cons_succ]
            refine sg_run (by kernel_rfl) (.bool false) w15 (by kernel_rfl) ?_
            simp only [Act.put, List.setIfInBounds_toArray, List.set_cons_zero, List.set_cons_succ]
            refine sg_run (by kernel_rfl) (.bool false) w15 (by kernel_rfl) ?_
            simp only [Act.put, List.setIfInBounds_toArray, List.set_cons_zero, List.set_cons_succ]
            refine wpList_nil ?_
            have hBf : Hid (Below w.heap.size w w15) := hOw15.out.hB
            clear hOw15
            go_wp2_with fail
            go_ret
            exact ⟨rfl, hBf.out⟩
end Go.Proofs.YtfbbpodlemllcaaDoor
