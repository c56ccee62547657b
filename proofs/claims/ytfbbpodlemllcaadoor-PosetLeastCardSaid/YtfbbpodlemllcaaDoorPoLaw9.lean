/-
  The law PosetLeast, walked.
-/
import Derived.Test.YtfbbpodlemllcaaDoorPoLaw9p
import Derived.Deep.LoopGhost
namespace Go.Proofs.YtfbbpodlemllcaaDoor
open Go.RowKit Go.Shelf
set_option linter.unusedVariables false
set_option linter.unusedSimpArgs false
set_option pp.maxSteps 50000

/-- What PosetLeast keeps. -/
structure LC (w0 : World) (B : Nat) (xn xa xb : Int) (sv : Value) (pairs : List P2) (w : World) : Prop where
  hbox : w.heap[B]? = some (.cells #[.int .i64 xn, sv, .int .i64 xa, .int .i64 xb] 49 (0, 0))
  hy : Rw 2 encP w sv pairs
  hT : Tab w
  hB : Below w0.heap.size w0 w
theorem LC.below {w0 w w' : World} {B : Nat} {sv : Value} {xn xa xb : Int} {pairs : List P2} (h : LC w0 B xn xa xb sv pairs w) (hb : Below w.heap.size w w') : LC w0 B xn xa xb sv pairs w' :=
  ⟨heap_kept h.hbox hb, h.hy.below hb, h.hT.below h.hT.1 hb, h.hB.trans (hb.mono h.hB.size)⟩
theorem exec_eqB2 {o : Oper} {a : Act} {w : World} (x y : Operand) (ho : o.op = .binOp .eql 4 x y 4) (u v : Bool) (hx : a.eval x = .bool u) (hy : a.eval y = .bool v) : (execOp a.eval o).run Tryd.prog w = .ok (.value (.bool (u == v))) w := by
  unfold execOp
  simp only [ho, hx, hy]
  cases u <;> cases v <;> kernel_rfl
theorem at_callsQ (up : List Nat) (hs : Small up) (A : Option Addr) (n c : Nat) (hn : n = up.length) (a b : Int) (w : World) (ht : Tab w) (hy : Ms w (.slice A n c) up) (r : Bool) (hr : r = tr (atS up a b)) :
    Calls Tryd.prog 19 #[.slice A n c, .int .i64 a, .int .i64 b] w fun e w' => ∃ v, e = .returned v ∧ v = .bool r ∧ Below w.heap.size w w' :=
  (at_calls up hs A n c hn a b w ht hy).mono fun e w' h => ⟨_, h.1, by rw [hr], h.2⟩
theorem cell_lt {w : World} {b i : Nat} {v : Value} (h : w.cell? ⟨b, i, none⟩ = some v) : b < w.heap.size := by
  by_cases hb : b < w.heap.size
  · exact hb
  · exfalso
    have : w.heap[b]? = none := Array.getElem?_eq_none (by omega)
    simp [World.cell?, this] at h
theorem ms_form {w : World} {v : Value} {l : List Nat} (h : Ms w v l) : ∃ A c, v = .slice A l.length c := by
  rcases h with ⟨A, c, rfl, rfl, _⟩ | ⟨g, off, c, rfl, _⟩
  · exact ⟨A, c, rfl⟩
  · exact ⟨_, c, rfl⟩
theorem build_callsT (n : Int) (pairs : List P2) (A : Option Addr) (k c : Nat) (hk : k = pairs.length) (hkb : k ≤ 1000000) (w : World) (ht : Tab w) (hy : Rw 2 encP w (.slice A k c) pairs) (R : List Nat × Nat) (hR : R = buildS n pairs) :
    Calls Tryd.prog 12 #[.int .i64 n, .slice A k c] w fun e w' => ∃ v, e = .returned v ∧ ∃ u, v = .tuple #[u, .int .i64 (R.2 : Int)] ∧ Ms w' u R.1 ∧ Below w.heap.size w w' :=
  (build_calls n pairs A k c hk hkb w ht hy).mono fun e w' h => by
    obtain ⟨v, h1, h2, h3⟩ := h
    rw [hR]; exact ⟨_, h1, v, rfl, h2, h3⟩
set_option maxRecDepth 100000 in
set_option maxHeartbeats 8000000 in
theorem lleast_calls (pairs : List P2) (xn : Int) (A : Option Addr) (k c : Nat) (hk : k = pairs.length) (hkb : k * 16 ≤ 140737488351232) (xa xb : Int) (w : World) (ht : Tab w) (hy : Rw 2 encP w (.slice A k c) pairs) :
    Calls Tryd.prog 10 #[.agg #[.int .i64 xn, .slice A k c, .int .i64 xa, .int .i64 xb]] w fun e w' => e = .returned (.bool true) ∧ Below w.heap.size w w' := by
  have hk' : Hid (k = pairs.length) := hk
  have hTw : Hid (Tab w) := ht
  have hyw : Hid (Rw 2 encP w (.slice A k c) pairs) := hy
  clear hk ht hy
  go_enter Tryd.func10, Tryd.ntmps10
  go_upto_region 1 with fail
  generalize hW : World.alloc _ _ = W
  have hW0 : W.heap[w.heap.size]? = some (.cells #[.int .i64 xn, .slice A k c, .int .i64 xa, .int .i64 xb] 49 (0, 0)) := by rw [← hW]; exact heap_alloc_new _ _
  have hWB : Below w.heap.size w W := by rw [← hW]; exact (Below.refl _ _).alloc (Nat.le_refl _) _
  clear hW
  obtain ⟨B, hBd⟩ : ∃ B, B = w.heap.size := ⟨_, rfl⟩
  rw [← hBd] at hW0 ⊢
  clear hBd
  have hOW : Hid (LC w B xn xa xb (.slice A k c) pairs W) := ⟨hW0, hyw.out.below hWB, hTw.out.below hTw.out.1 hWB, hWB⟩
  clear hW0 hWB hTw hyw
  refine wp_region_lit ?_
  refine sg_call (by kernel_rfl) 11 #[] (by kernel_rfl) (R := fun v w' => v = .bool true ∧ Below W.heap.size W w') ((fixed_calls W hOW.out.hT).mono fun e w' h => by
    obtain ⟨h1, h2⟩ := h
    skip
    exact ⟨_, h1, rfl, h2⟩) ?_
  rintro _ w1 ⟨rfl, hb⟩
  simp only [Act.put, List.setIfInBounds_toArray, List.set_cons_zero, List.set_cons_succ]
  have hOw1 : Hid (LC w B xn xa xb (.slice A k c) pairs w1) := (hOW.out).below hb
  clear hOW
  clear hb
  refine sl_run rfl (.bool false) w1 (by kernel_rfl) ?_
  simp only [Act.put, List.setIfInBounds_toArray, List.set_cons_zero, List.set_cons_succ]
  refine wpList_nil ?_
  go_upto_region 3 with fail
  have cs : w1.cell? ⟨B, 1, none⟩ = some (.slice A k c) := by rw [cell_of_row _ _ _ _ _ _ hOw1.out.hbox]; rfl
  by_cases h40 : 40 < k
  · have hI : (40 : Int) < (k : Int) := by omega
    go_wp2_with fail
    go_ret
    exact ⟨rfl, hOw1.out.hB⟩
  have hI : ¬ (40 : Int) < (k : Int) := by omega
  go_upto_region 5 with fail
  clear cs hI
  refine wp_normal ?_
  refine wp_region_held_drew (S := fun w' => Below w1.heap.size w1 w') (by kernel_rfl) (Below.refl _ _).drew (fun hS => ?_)
  change wpAnyH _ _ _ _ _ 12 (Array.replicate 12 false) _ _
  generalize hx : w1.drew = v0 at hS
  clear hx
  refine held_take 0 rfl (by kernel_rfl) (by kernel_rfl) (by kernel_rfl) (.pointer (some ⟨B, 0, none⟩)) (fun _ _ _ h => nomatch h.1) (by kernel_rfl) (fun w' h => by kernel_rfl) hS ?_
  simp only [Act.put, List.setIfInBounds_toArray, List.set_cons_zero, List.set_cons_succ, List.getElem_toArray, List.getElem_cons_succ, List.getElem_cons_zero]
  refine held_take 1 rfl (by kernel_rfl) (by kernel_rfl) (by kernel_rfl) (.int .i64 xn) (fun _ _ _ h => nomatch h.1) (by kernel_rfl) (fun w' h => exec_load_cell 3 w' _ rfl ⟨B, 0, none⟩ (by kernel_rfl) _ (by rw [cell_of_row _ _ _ _ _ _ (hOw1.out.below h).hbox]; rfl) (fun _ => by kernel_rfl)) hS ?_
  simp only [Act.put, List.setIfInBounds_toArray, List.set_cons_zero, List.set_cons_succ, List.getElem_toArray, List.getElem_cons_succ, List.getElem_cons_zero]
  refine held_take 3 rfl (by kernel_rfl) (by kernel_rfl) (by kernel_rfl) (.pointer (some ⟨B, 1, none⟩)) (fun _ _ _ h => nomatch h.1) (by kernel_rfl) (fun w' h => by kernel_rfl) hS ?_
  simp only [Act.put, List.setIfInBounds_toArray, List.set_cons_zero, List.set_cons_succ, List.getElem_toArray, List.getElem_cons_succ, List.getElem_cons_zero]
  refine held_take 4 rfl (by kernel_rfl) (by kernel_rfl) (by kernel_rfl) (.slice A k c) (fun _ _ _ h => nomatch h.1) (by kernel_rfl) (fun w' h => exec_load_cell 22 w' _ rfl ⟨B, 1, none⟩ (by kernel_rfl) _ (by rw [cell_of_row _ _ _ _ _ _ (hOw1.out.below h).hbox]; rfl) (fun _ => by kernel_rfl)) hS ?_
  simp only [Act.put, List.setIfInBounds_toArray, List.set_cons_zero, List.set_cons_succ, List.getElem_toArray, List.getElem_cons_succ, List.getElem_cons_zero]
  refine held_new 2 rfl (by kernel_rfl) (by kernel_rfl) (.slice (some ⟨v0.heap.size, 0, none⟩) 0 0) (v0.alloc (.cells #[] 44)) (by kernel_rfl) (fun w' => Below w1.heap.size w1 w' ∧ w'.ownsRow v0.heap.size 44 2 (.slice (some ⟨v0.heap.size, 0, none⟩) 0 0) 0 [] ∧ v0.heap.size ≤ w'.heap.size) ⟨hS.alloc hS.size _, World.ownsRow_made _ _ 0 (Nat.le_refl _) (by decide) (by simp), by simp⟩ ?_
  rintro v1 ⟨hS1, hown0, hsz⟩
  refine ⟨hS1, ?_⟩
  simp only [Act.put, List.setIfInBounds_toArray, List.set_cons_zero, List.set_cons_succ, List.getElem_toArray, List.getElem_cons_succ, List.getElem_cons_zero]
  have hd2 : w1.heap.size ≤ v0.heap.size := hS.size
  generalize v0.heap.size = g at hown0 hsz hd2 ⊢
  have hrw := hOw1.out.hy.below hS1
  obtain ⟨i44, hi, hz0, hz1, hz2⟩ := info_parts inf44
  refine held_one 5 rfl (by kernel_rfl) (by kernel_rfl) (fun K hK => ?_)
  refine wp_appendRw 22 44 16 i44 z44 Tryd.underlying22 hi hz0 hz1 hz2 rfl (by decide) encP_size encP_ones _ _ rfl g (.slice (some ⟨g, 0, none⟩) 0 0) [] pairs (by kernel_rfl) hown0 _ (by kernel_rfl) hrw (by simp; have := hk'.out; omega) (by simp; have := hk'.out; omega) hsz ?_
  intro vv v2 hown hgrow
  rw [List.nil_append] at hown
  have hcp := Rw.own (enc := encP) encP_size (by decide) hown
  obtain ⟨A2, c2, rfl⟩ := own_form hown
  have hS2 : Below w1.heap.size w1 v2 := hS1.grown hgrow hS1.size (fun q hq => by simp [Value.ownBlock] at hq; omega)
  refine hK _ _ hS2 ?_
  clear hK hown hgrow hown0 hi hz0 hz1 hz2 hrw hsz hS1 hS
  simp only [Act.put, List.setIfInBounds_toArray, List.set_cons_zero, List.set_cons_succ, List.getElem_toArray, List.getElem_cons_succ, List.getElem_cons_zero]
  obtain ⟨R, hR⟩ : ∃ R, R = buildS xn pairs := ⟨_, rfl⟩
  refine held_call 6 rfl (by kernel_rfl) (by kernel_rfl) 12 #[.int .i64 xn, .slice A2 pairs.length c2] (by kernel_rfl) (R := fun v w' => ∃ u, v = .tuple #[u, .int .i64 (R.2 : Int)] ∧ Ms w' u R.1 ∧ Below v2.heap.size v2 w') (build_callsT xn pairs A2 pairs.length c2 rfl (by have := hk'.out; omega) v2 (hOw1.out.below hS2).hT hcp R hR) ?_
  rintro _ v3 ⟨u, rfl, hMs, hbn⟩
  have hS3 : Below w1.heap.size w1 v3 := hS2.trans (hbn.mono hS2.size)
  refine ⟨hS3, ?_⟩
  have hS := hS3
  have hRH : Hid (R = buildS xn pairs) := hR
  clear hS2 hbn hcp hR
  simp only [Act.put, List.setIfInBounds_toArray, List.set_cons_zero, List.set_cons_succ, List.getElem_toArray, List.getElem_cons_succ, List.getElem_cons_zero]
  refine held_take 7 rfl (by kernel_rfl) (by kernel_rfl) (by kernel_rfl) (.tuple #[u, .int .i64 (R.2 : Int)]) (fun _ _ _ h => nomatch h.1) (by kernel_rfl) (fun w' h => by kernel_rfl) hS ?_
  simp only [Act.put, List.setIfInBounds_toArray, List.set_cons_zero, List.set_cons_succ, List.getElem_toArray, List.getElem_cons_succ, List.getElem_cons_zero]
  refine held_take 8 rfl (by kernel_rfl) (by kernel_rfl) (by kernel_rfl) (u) (fun _ _ _ h => nomatch h.1) (by kernel_rfl) (fun w' h => by kernel_rfl) hS ?_
  simp only [Act.put, List.setIfInBounds_toArray, List.set_cons_zero, List.set_cons_succ, List.getElem_toArray, List.getElem_cons_succ, List.getElem_cons_zero]
  refine held_take 9 rfl (by kernel_rfl) (by kernel_rfl) (by kernel_rfl) (.int .i64 (R.2 : Int)) (fun _ _ _ h => nomatch h.1) (by kernel_rfl) (fun w' h => by kernel_rfl) hS ?_
  simp only [Act.put, List.setIfInBounds_toArray, List.set_cons_zero, List.set_cons_succ, List.getElem_toArray, List.getElem_cons_succ, List.getElem_cons_zero]
  refine held_take 10 rfl (by kernel_rfl) (by kernel_rfl) (by kernel_rfl) (u) (fun _ _ _ h => nomatch h.1) (by kernel_rfl) (fun w' h => by kernel_rfl) hS ?_
  simp only [Act.put, List.setIfInBounds_toArray, List.set_cons_zero, List.set_cons_succ, List.getElem_toArray, List.getElem_cons_succ, List.getElem_cons_zero]
  refine held_take 11 rfl (by kernel_rfl) (by kernel_rfl) (by kernel_rfl) (.int .i64 (R.2 : Int)) (fun _ _ _ h => nomatch h.1) (by kernel_rfl) (fun w' h => by kernel_rfl) hS ?_
  simp only [Act.put, List.setIfInBounds_toArray, List.set_cons_zero, List.set_cons_succ, List.getElem_toArray, List.getElem_cons_succ, List.getElem_cons_zero]
  refine wpAnyH_done (by kernel_rfl) ?_ _
  refine ⟨rfl, ?_⟩
  rename_i hK
  refine hK _ _ ?_
  clear hK
  have hO3 : Hid (LC w B xn xa xb (.slice A k c) pairs v3) := hOw1.out.below hS
  have hMsH : Hid (Ms v3 u R.1) := hMs
  clear hS hS3 hOw1 hMs
  have cn : v3.cell? ⟨B, 0, none⟩ = some (.int .i64 xn) := by rw [cell_of_row _ _ _ _ _ _ hO3.out.hbox]; rfl
  have ca : v3.cell? ⟨B, 2, none⟩ = some (.int .i64 xa) := by rw [cell_of_row _ _ _ _ _ _ hO3.out.hbox]; rfl
  have cb : v3.cell? ⟨B, 3, none⟩ = some (.int .i64 xb) := by rw [cell_of_row _ _ _ _ _ _ hO3.out.hbox]; rfl
  obtain ⟨code, hcode⟩ : ∃ z, z = R.2 := ⟨_, rfl⟩
  have hcodeH : Hid (code = R.2) := hcode
  rw [← hcode]
  clear hcode
  by_cases h0 : code = 0
  case neg =>
    have hne : ((code : Int) != 0) = true := by rw [bne_iff_ne]; omega
    have hne2 : ((code : Int) == 0) = false := by rw [beq_eq_false_iff_ne]; omega
    go_wp2_with fail
    go_ret
    exact ⟨rfl, hO3.out.hB⟩
  have hne : ((code : Int) != 0) = false := by rw [h0]; rfl
  have hne2 : ((code : Int) == 0) = true := by rw [h0]; rfl
  by_cases ha0 : xa < 0
  · go_wp2_with fail
    go_ret
    exact ⟨rfl, hO3.out.hB⟩
  by_cases ha1 : xn ≤ xa
  · go_wp2_with fail
    go_ret
    exact ⟨rfl, hO3.out.hB⟩
  by_cases hb0 : xb < 0
  · go_wp2_with fail
    go_ret
    exact ⟨rfl, hO3.out.hB⟩
  by_cases hb1 : xn ≤ xb
  · go_wp2_with fail
    go_ret
    exact ⟨rfl, hO3.out.hB⟩
  obtain ⟨m, rfl⟩ : ∃ m : Nat, xn = m := ⟨xn.toNat, by omega⟩
  obtain ⟨ia, rfl⟩ : ∃ m : Nat, xa = m := ⟨xa.toNat, by omega⟩
  obtain ⟨ib, rfl⟩ : ∃ m : Nat, xb = m := ⟨xb.toNat, by omega⟩
  have ham : ia < m := by omega
  have hbm : ib < m := by omega
  obtain ⟨hfit, hord, hR1⟩ := build_ok (n := (m : Int)) (pairs := pairs) (by rw [← hRH.out, ← hcodeH.out]; exact h0)
  rw [Int.toNat_natCast] at hord hR1
  have hm64 : m ≤ 64 := by have := hfit.2.1; omega
  have hfitH : Hid (Fit m pairs) := hfit
  have hordH : Hid (Ord (closS m pairs)) := hord
  have hMs2 : Hid (Ms v3 u (closS m pairs)) := by have := hMsH.out; rw [hRH.out, hR1] at this; exact this
  clear hfit hord hR1 hRH hMsH hcodeH
  obtain ⟨A3, c3, rfl⟩ := ms_form hMs2.out
  obtain ⟨up, hup⟩ : ∃ up, up = closS m pairs := ⟨_, rfl⟩
  have hupH : Hid (up = closS m pairs) := hup
  rw [← hup] at hMs2 ⊢
  clear hup
  obtain ⟨i4, hi, hz0, hz1, hz2⟩ := info_parts inf4
  go_upto_region 8 with fail
  clear hne hne2 ha0 ha1 hb0 hb1 h0 cn ca cb
  refine wp_region_lit ?_
  refine sl_run rfl (.pointer (some ⟨B, 0, none⟩)) v3 (by kernel_rfl) ?_
  simp only [Act.put, List.setIfInBounds_toArray, List.set_cons_zero, List.set_cons_succ]
  refine sl_run rfl (.int .i64 (m : Int)) v3 (exec_load_cell 3 v3 _ rfl ⟨B, 0, none⟩ (by kernel_rfl) _ (by rw [cell_of_row _ _ _ _ _ _ hO3.out.hbox]; rfl) (fun _ => by kernel_rfl)) ?_
  simp only [Act.put, List.setIfInBounds_toArray, List.set_cons_zero, List.set_cons_succ]
  refine sl_run rfl (.slice (some ⟨v3.heap.size, 0, none⟩) m m) (v3.alloc (.cells (madeCells (Value.bool false).cells (m * i4.size)) 4)) (exec_makeN 50 _ _ rfl 4 i4 (.bool false) Tryd.underlying50 hi hz0 m (by kernel_rfl) (by kernel_rfl) (by rw [hz2]; omega) (by unfold maxLen; omega)) ?_
  simp only [Act.put, List.setIfInBounds_toArray, List.set_cons_zero, List.set_cons_succ]
  refine sl_run rfl (.slice (some ⟨v3.heap.size, 0, none⟩) m m) (v3.alloc (.cells (madeCells (Value.bool false).cells (m * i4.size)) 4)) (by kernel_rfl) ?_
  simp only [Act.put, List.setIfInBounds_toArray, List.set_cons_zero, List.set_cons_succ]
  refine wpList_nil ?_
  rw [hz1, made_false]
  have hr1 : RowT v3.heap.size (List.replicate m false) (v3.alloc (.cells ((List.replicate m false).map Value.bool).toArray 4)) := heap_alloc_new _ _
  have hb1 : Below v3.heap.size v3 (v3.alloc (.cells ((List.replicate m false).map Value.bool).toArray 4)) := (Below.refl _ _).alloc (Nat.le_refl _) _
  obtain ⟨g5, hg5⟩ : ∃ g, g = v3.heap.size := ⟨_, rfl⟩
  have hgle : Hid (v3.heap.size ≤ g5) := by show _ ≤ _; omega
  rw [← hg5] at hr1 ⊢
  clear hg5 hi hz0 hz1 hz2
  generalize World.alloc _ _ = v4 at hr1 hb1 ⊢
  have hr1H : Hid (RowT g5 (List.replicate m false) v4) := hr1
  have hb1H : Hid (Below v3.heap.size v3 v4) := hb1
  clear hr1 hb1
  go_upto_region 9 with fail
  refine wp_region_lit ?_
  refine sl_run rfl (.slice (some ⟨g5, 0, none⟩) m m) v4 (by kernel_rfl) ?_
  simp only [Act.put, List.setIfInBounds_toArray, List.set_cons_zero, List.set_cons_succ]
  refine sl_run rfl (.pointer (some ⟨B, 2, none⟩)) v4 (by kernel_rfl) ?_
  simp only [Act.put, List.setIfInBounds_toArray, List.set_cons_zero, List.set_cons_succ]
  refine sl_run rfl (.int .i64 (ia : Int)) v4 (exec_load_cell 3 v4 _ rfl ⟨B, 2, none⟩ (by kernel_rfl) _ (by rw [cell_of_row _ _ _ _ _ _ (hO3.out.below hb1H.out).hbox]; rfl) (fun _ => by kernel_rfl)) ?_
  simp only [Act.put, List.setIfInBounds_toArray, List.set_cons_zero, List.set_cons_succ]
  refine sl_run rfl (.pointer (some ⟨g5, 0 + ia * 1, none⟩)) v4 (exec_index un50 sz50 _ _ rfl g5 0 m m ia (by kernel_rfl) (by kernel_rfl) ham v4) ?_
  simp only [Act.put, List.setIfInBounds_toArray, List.set_cons_zero, List.set_cons_succ]
  rw [Nat.zero_add, Nat.mul_one]
  refine wpList_store_cell rfl 4 _ _ rfl g5 ia (by kernel_rfl) (.bool true) (by kernel_rfl) _ (hr1H.out.cell (by simpa using ham)) hr1H.out.frozen (fun _ => by kernel_rfl) rfl rfl ?_
  simp only [Act.put, List.setIfInBounds_toArray, List.set_cons_zero, List.set_cons_succ]
  refine wpList_nil ?_
  have hr2 : Hid (RowT g5 (seen0 m ia) (v4.setCell ⟨g5, ia, none⟩ (.bool true))) := hr1H.out.set ia
  have hb2 : Hid (Below v3.heap.size v3 (v4.setCell ⟨g5, ia, none⟩ (.bool true))) := hb1H.out.setCell hgle.out _
  have hs2 : Hid (Sound m pairs ia (seen0 m ia)) := seen0_sound pairs ham
  clear hr1H hb1H
  generalize World.setCell _ _ _ = v5 at hr2 hb2 ⊢
  generalize seen0 m ia = S0 at hr2 hs2
  go_wp2_with fail
  go_loopg [6] (2 * holes S0 + 1) (fun gk t wr => ∃ (S : List Bool) (z : Bool), t = .bool z ∧ Hid (Sound m pairs ia S) ∧ Hid (z = false → ∀ p ∈ pairs, ShutAt S p) ∧ Hid (RowT g5 S wr) ∧ Hid (Below v3.heap.size v3 wr) ∧ gk = 2 * holes S + (if z then 1 else 0))
  case atStart => exact ⟨S0, true, rfl, hs2, (fun h => by cases h), hr2, hb2, rfl⟩
  case round =>
    obtain ⟨S, z, rfl, hsS, hshut, hrS, hbS, hgk⟩ := hrel
    obtain ⟨wo, rfl⟩ : ∃ wo : World, wo = wr := ⟨_, rfl⟩
    clear hr2 hb2 hs2
    cases z with
    | true =>
      rw [if_pos rfl] at hgk
      go_wp2_with fail
      go_loopw [6, 7] (fun z u wr => ∃ (i : Nat) (zz : Bool) (S' : List Bool), i ≤ k ∧ u = .int .i64 (i : Int) ∧ z = .bool zz ∧ Hid (SInv m pairs ia S S' zz i) ∧ Hid (RowT g5 S' wr) ∧ Hid (Below v3.heap.size v3 wr)) (fun _ u _ => k - (intOf u).toNat)
      case atStart => exact ⟨0, false, S, by omega, rfl, rfl, sinv_start hsS.out, hrS, hbS⟩
      case round =>
        obtain ⟨i, zz, S', hik, rfl, rfl, hinv, hr, hb⟩ := hrel
        clear hrS hbS hshut
        have cs : wr.cell? ⟨B, 1, none⟩ = some (.slice A k c) := by rw [cell_of_row _ _ _ _ _ _ (hO3.out.below hb.out).hbox]; rfl
        by_cases hlt : i < k
        · have hI : (i : Int) < (k : Int) := by omega
          obtain ⟨g2, o2, rfl, hkc, hg2, hel⟩ := hO3.out.hy.elem i (by rw [← hk'.out]; exact hlt)
          obtain ⟨pr, hpr⟩ : ∃ p, p = pairs.getD i default := ⟨_, rfl⟩
          have hl : i < pairs.length := by rw [← hk'.out]; exact hlt
          have htk : Hid (pairs.take (i + 1) = pairs.take i ++ [pr]) := by
            show _ = _
            rw [List.take_add_one, hpr]; simp [hl]
          have hmem : pr ∈ pairs := by rw [hpr]; simp [hl]
          rw [← hpr] at hel
          have hel2 : wr.rangeAt g2 (o2 + i * 2) (encP pr).toList := range_below hel hb.out hg2
          clear hpr hel hl
          have hin := hfitH.out.2.2 pr hmem
          obtain ⟨p1, p2⟩ := pr
          obtain ⟨h1, h2, h3, h4⟩ := hin
          obtain ⟨x, rfl⟩ : ∃ m : Nat, p1 = m := ⟨p1.toNat, by simp at h1; omega⟩
          obtain ⟨y, rfl⟩ : ∃ m : Nat, p2 = m := ⟨p2.toNat, by simp at h3; omega⟩
          have hxm : x < m := by simp at h2; omega
          have hym : y < m := by simp at h4; omega
          have hmemH : Hid (((x : Int), (y : Int)) ∈ pairs) := hmem
          clear h1 h2 h3 h4 hmem
          go_upto_region 16 with fail
          refine wp_region_lit ?_
          refine sl_run rfl (.pointer (some ⟨B, 1, none⟩)) wr (by kernel_rfl) ?_
          simp only [Act.put, List.setIfInBounds_toArray, List.set_cons_zero, List.set_cons_succ]
          refine sl_run rfl (.slice (some ⟨g2, o2, none⟩) k c) wr (exec_load_cell 22 wr _ rfl ⟨B, 1, none⟩ (by kernel_rfl) _ (by rw [cell_of_row _ _ _ _ _ _ (hO3.out.below hb.out).hbox]; rfl) (fun _ => by kernel_rfl)) ?_
          simp only [Act.put, List.setIfInBounds_toArray, List.set_cons_zero, List.set_cons_succ]
          refine sl_run rfl (.int .i64 (i : Int)) wr (by kernel_rfl) ?_
          simp only [Act.put, List.setIfInBounds_toArray, List.set_cons_zero, List.set_cons_succ]
          refine sl_run rfl (.pointer (some ⟨g2, o2 + i * 2, none⟩)) wr (exec_index un22 sz22 _ _ rfl g2 o2 k c i (by kernel_rfl) (by kernel_rfl) hlt wr) ?_
          simp only [Act.put, List.setIfInBounds_toArray, List.set_cons_zero, List.set_cons_succ]
          refine wpList_load_mid rfl 44 _ rfl g2 (o2 + i * 2) (by kernel_rfl) _ _ hel2 Tryd.underlying44 rfl (by kernel_rfl) ?_
          simp only [Act.put, List.setIfInBounds_toArray, List.set_cons_zero, List.set_cons_succ]
          simp only [encP, Array.toArray_toList]
          refine sl_run rfl (.pointer (some ⟨wr.heap.size, 0, none⟩)) (wr.alloc (.cells #[.int .i64 0, .int .i64 0] 44)) (by kernel_rfl) ?_
          simp only [Act.put, List.setIfInBounds_toArray, List.set_cons_zero, List.set_cons_succ]
          refine wpList_store_row rfl 44 _ _ rfl wr.heap.size #[.int .i64 (x : Int), .int .i64 (y : Int)] (by kernel_rfl) (by kernel_rfl) 44 _ (heap_alloc_new _ _) (by kernel_rfl) (by kernel_rfl) (by simp [Value.oneCell']) ?_
          simp only [Act.put, List.setIfInBounds_toArray, List.set_cons_zero, List.set_cons_succ]
          refine wpList_nil ?_
          have hx0 : ((wr.alloc (.cells #[.int .i64 0, .int .i64 0] 44)).setRow wr.heap.size #[.int .i64 (x : Int), .int .i64 (y : Int)]).heap[wr.heap.size]? = some (.cells #[.int .i64 (x : Int), .int .i64 (y : Int)] 44 (0, 0)) := setRow_heap _ _ _ _ _ _ (heap_alloc_new _ _)
          have hb2 : Below wr.heap.size wr ((wr.alloc (.cells #[.int .i64 0, .int .i64 0] 44)).setRow wr.heap.size #[.int .i64 (x : Int), .int .i64 (y : Int)]) := below_setRow ((Below.refl _ _).alloc (Nat.le_refl _) _) (Nat.le_refl _) _
          obtain ⟨bx, hbx⟩ : ∃ b, b = wr.heap.size := ⟨_, rfl⟩
          have hb2' : Below wr.heap.size wr ((wr.alloc (.cells #[.int .i64 0, .int .i64 0] 44)).setRow bx #[.int .i64 (x : Int), .int .i64 (y : Int)]) := by rw [hbx]; exact hb2
          clear hb2
          rw [← hbx] at hx0 ⊢
          generalize World.setRow _ _ _ = w2 at hx0 hb2' ⊢
          have hr2 : Hid (RowT g5 S' w2) := hr.out.below hb2'
          have hb3 : Hid (Below v3.heap.size v3 w2) := hb.out.trans (hb2'.mono hb.out.size)
          have hx0H : Hid (w2.heap[bx]? = some (.cells #[.int .i64 (x : Int), .int .i64 (y : Int)] 44 (0, 0))) := hx0
          clear hx0 hb2' hr hb hel2 hbx cs hI
          have hlS : S'.length = m := hinv.out.sound.1
          obtain ⟨sx, hsx⟩ : ∃ b, b = S'.getD x false := ⟨_, rfl⟩
          obtain ⟨sy, hsy⟩ : ∃ b, b = S'.getD y false := ⟨_, rfl⟩
          have hcx : Hid (w2.cell? ⟨g5, x, none⟩ = some (.bool sx)) := by rw [hsx]; exact hr2.out.cell (by omega)
          have hcy : Hid (w2.cell? ⟨g5, y, none⟩ = some (.bool sy)) := by rw [hsy]; exact hr2.out.cell (by omega)
          have hsxH : Hid (sx = S'.getD x false) := hsx
          have hsyH : Hid (sy = S'.getD y false) := hsy
          clear hsx hsy
          go_upto_region 17 with fail
          refine wp_region_lit ?_
          refine sg_run (by kernel_rfl) (.slice (some ⟨g5, 0, none⟩) m m) w2 (by kernel_rfl) ?_
          simp only [Act.put, List.setIfInBounds_toArray, List.set_cons_zero, List.set_cons_succ]
          refine sg_run (by kernel_rfl) (.pointer (some ⟨bx, 0, none⟩)) w2 (by kernel_rfl) ?_
          simp only [Act.put, List.setIfInBounds_toArray, List.set_cons_zero, List.set_cons_succ]
          refine sg_run (by kernel_rfl) (.int .i64 (x : Int)) w2 (exec_load_cell 3 w2 _ rfl ⟨bx, 0, none⟩ (by kernel_rfl) _ (by rw [cell_of_row _ _ _ _ _ _ hx0H.out]; rfl) (fun _ => by kernel_rfl)) ?_
          simp only [Act.put, List.setIfInBounds_toArray, List.set_cons_zero, List.set_cons_succ]
          refine sg_run (by kernel_rfl) (.pointer (some ⟨g5, 0 + x * 1, none⟩)) w2 (exec_index un50 sz50 _ _ rfl g5 0 m m x (by kernel_rfl) (by kernel_rfl) hxm w2) ?_
          simp only [Act.put, List.setIfInBounds_toArray, List.set_cons_zero, List.set_cons_succ]
          rw [Nat.zero_add, Nat.mul_one]
          refine sg_run (by kernel_rfl) (.bool sx) w2 (exec_load_cell 4 w2 _ rfl ⟨g5, x, none⟩ (by kernel_rfl) _ hcx.out (fun _ => by kernel_rfl)) ?_
          simp only [Act.put, List.setIfInBounds_toArray, List.set_cons_zero, List.set_cons_succ]
          refine sg_run (by kernel_rfl) (.bool sx) w2 (by kernel_rfl) ?_
          simp only [Act.put, List.setIfInBounds_toArray, List.set_cons_zero, List.set_cons_succ]
          cases sx with
          | false =>
            refine wpList_skip ?hw ?_
            case hw => kernel_rfl
            simp only [Act.put, List.setIfInBounds_toArray, List.set_cons_zero, List.set_cons_succ]
            refine wpList_skip ?hw ?_
            case hw => kernel_rfl
            simp only [Act.put, List.setIfInBounds_toArray, List.set_cons_zero, List.set_cons_succ]
            refine wpList_skip ?hw ?_
            case hw => kernel_rfl
            simp only [Act.put, List.setIfInBounds_toArray, List.set_cons_zero, List.set_cons_succ]
            refine wpList_skip ?hw ?_
            case hw => kernel_rfl
            simp only [Act.put, List.setIfInBounds_toArray, List.set_cons_zero, List.set_cons_succ]
            refine wpList_skip ?hw ?_
            case hw => kernel_rfl
            simp only [Act.put, List.setIfInBounds_toArray, List.set_cons_zero, List.set_cons_succ]
            refine wpList_skip ?hw ?_
            case hw => kernel_rfl
            simp only [Act.put, List.setIfInBounds_toArray, List.set_cons_zero, List.set_cons_succ]
            refine sg_run (by kernel_rfl) (.bool false) w2 (by kernel_rfl) ?_
            simp only [Act.put, List.setIfInBounds_toArray, List.set_cons_zero, List.set_cons_succ]
            refine wpList_nil ?_
            have hnext : Hid (SInv m pairs ia S S' zz (i + 1)) := sinv_keep hinv.out htk.out (fun h => by simp only [Int.toNat_natCast] at h; rw [← hsxH.out] at h; cases h)
            clear hinv htk hmemH hx0H hcx hcy hsxH hsyH
            go_wp2_with fail
            go_roundw
            case rel => exact ⟨i + 1, zz, S', by omega, by go_num, rfl, hnext, hr2, hb3⟩
            case measure => simp [intOf]; omega
          | true =>
            refine sg_run (by kernel_rfl) (.slice (some ⟨g5, 0, none⟩) m m) w2 (by kernel_rfl) ?_
            simp only [Act.put, List.setIfInBounds_toArray, List.set_cons_zero, List.set_cons_succ]
            refine sg_run (by kernel_rfl) (.pointer (some ⟨bx, 1, none⟩)) w2 (by kernel_rfl) ?_
            simp only [Act.put, List.setIfInBounds_toArray, List.set_cons_zero, List.set_cons_succ]
            refine sg_run (by kernel_rfl) (.int .i64 (y : Int)) w2 (exec_load_cell 3 w2 _ rfl ⟨bx, 1, none⟩ (by kernel_rfl) _ (by rw [cell_of_row _ _ _ _ _ _ hx0H.out]; rfl) (fun _ => by kernel_rfl)) ?_
            simp only [Act.put, List.setIfInBounds_toArray, List.set_cons_zero, List.set_cons_succ]
            refine sg_run (by kernel_rfl) (.pointer (some ⟨g5, 0 + y * 1, none⟩)) w2 (exec_index un50 sz50 _ _ rfl g5 0 m m y (by kernel_rfl) (by kernel_rfl) hym w2) ?_
            simp only [Act.put, List.setIfInBounds_toArray, List.set_cons_zero, List.set_cons_succ]
            rw [Nat.zero_add, Nat.mul_one]
            refine sg_run (by kernel_rfl) (.bool sy) w2 (exec_load_cell 4 w2 _ rfl ⟨g5, y, none⟩ (by kernel_rfl) _ hcy.out (fun _ => by kernel_rfl)) ?_
            simp only [Act.put, List.setIfInBounds_toArray, List.set_cons_zero, List.set_cons_succ]
            refine sg_run (by kernel_rfl) (.bool (!sy)) w2 (by kernel_rfl) ?_
            simp only [Act.put, List.setIfInBounds_toArray, List.set_cons_zero, List.set_cons_succ]
            refine sg_run (by kernel_rfl) (.bool (!sy)) w2 (by kernel_rfl) ?_
            simp only [Act.put, List.setIfInBounds_toArray, List.set_cons_zero, List.set_cons_succ]
            refine wpList_nil ?_
            cases sy with
            | true =>
              have hnext : Hid (SInv m pairs ia S S' zz (i + 1)) := sinv_keep hinv.out htk.out (fun h => by simp only [Int.toNat_natCast]; exact hsyH.out.symm)
              clear hinv htk hmemH hx0H hcx hcy hsxH hsyH
              go_wp2_with fail
              go_roundw
              case rel => exact ⟨i + 1, zz, S', by omega, by go_num, rfl, hnext, hr2, hb3⟩
              case measure => simp [intOf]; omega
            | false =>
              have hnext : Hid (SInv m pairs ia S (S'.set y true) true (i + 1)) := sinv_set hinv.out hmemH.out hym hsxH.out.symm hsyH.out.symm _
              go_upto_region 18 with fail
              refine wp_region_lit ?_
              refine sl_run rfl (.slice (some ⟨g5, 0, none⟩) m m) w2 (by kernel_rfl) ?_
              simp only [Act.put, List.setIfInBounds_toArray, List.set_cons_zero, List.set_cons_succ]
              refine sl_run rfl (.pointer (some ⟨bx, 1, none⟩)) w2 (by kernel_rfl) ?_
              simp only [Act.put, List.setIfInBounds_toArray, List.set_cons_zero, List.set_cons_succ]
              refine sl_run rfl (.int .i64 (y : Int)) w2 (exec_load_cell 3 w2 _ rfl ⟨bx, 1, none⟩ (by kernel_rfl) _ (by rw [cell_of_row _ _ _ _ _ _ hx0H.out]; rfl) (fun _ => by kernel_rfl)) ?_
              simp only [Act.put, List.setIfInBounds_toArray, List.set_cons_zero, List.set_cons_succ]
              refine sl_run rfl (.pointer (some ⟨g5, 0 + y * 1, none⟩)) w2 (exec_index un50 sz50 _ _ rfl g5 0 m m y (by kernel_rfl) (by kernel_rfl) hym w2) ?_
              simp only [Act.put, List.setIfInBounds_toArray, List.set_cons_zero, List.set_cons_succ]
              rw [Nat.zero_add, Nat.mul_one]
              refine wpList_store_cell rfl 4 _ _ rfl g5 y (by kernel_rfl) (.bool true) (by kernel_rfl) _ hcy.out hr2.out.frozen (fun _ => by kernel_rfl) rfl rfl ?_
              simp only [Act.put, List.setIfInBounds_toArray, List.set_cons_zero, List.set_cons_succ]
              refine wpList_nil ?_
              have hr4 : Hid (RowT g5 (S'.set y true) (w2.setCell ⟨g5, y, none⟩ (.bool true))) := hr2.out.set y
              have hb4 : Hid (Below v3.heap.size v3 (w2.setCell ⟨g5, y, none⟩ (.bool true))) := hb3.out.setCell hgle.out _
              clear hinv htk hmemH hx0H hcx hcy hsxH hsyH hr2 hb3
              generalize World.setCell _ _ _ = w4 at hr4 hb4 ⊢
              go_wp2_with fail
              go_roundw
              case rel => exact ⟨i + 1, true, S'.set y true, by omega, by go_num, rfl, hnext, hr4, hb4⟩
              case measure => simp [intOf]; omega
        · have hI : ¬ (i : Int) < (k : Int) := by omega
          obtain rfl : i = k := by omega
          have hall : Hid (zz = false → ∀ p ∈ pairs, ShutAt S' p) := fun hz p hp => (hinv.out.no hz).2 p (by rw [hk'.out, List.take_length]; exact hp)
          have hsS' : Hid (Sound m pairs ia S') := hinv.out.sound
          have hms : Hid (2 * holes S' + (if zz then 1 else 0) < 2 * holes S + 1) := by
            show _ < _
            cases zz with
            | false => rw [(hinv.out.no rfl).1]; simp
            | true => have := hinv.out.yes rfl; simp; omega
          clear hinv hsS
          go_wp2_with fail
          go_roundg (2 * holes S' + (if zz then 1 else 0))
          case measure => have := hms.out; omega
          case rel => exact ⟨S', zz, rfl, hsS', hall, hr, hb, rfl⟩
    | false =>
      have hseen : Hid (tr (atS up (ia : Int) (ib : Int)) = S.getD ib false) := by
        show _ = _
        rw [Bool.eq_iff_iff, tr_iff, hupH.out, at_clos ham hbm hordH.out, shut_way hsS.out (hshut.out rfl)]
      have hlS : S.length = m := hsS.out.1
      go_upto_region 20 with fail
      have hOo : Hid (LC w B m ia ib (.slice A k c) pairs wo) := hO3.out.below hbS.out
      have hMo : Hid (Ms wo (.slice A3 up.length c3) up) := hMs2.out.below hbS.out
      obtain ⟨r, hr⟩ : ∃ r, r = tr (atS up (ia : Int) (ib : Int)) := ⟨_, rfl⟩
      have hrq : S.getD ib false = r := by rw [hr, hseen.out]
      have hcb : Hid (wo.cell? ⟨g5, ib, none⟩ = some (.bool r)) := by rw [← hrq]; exact hrS.out.cell (by omega)
      have hsmall : Hid (Small up) := by show Small _; rw [hupH.out]; exact clos_small hm64
      refine wp_normal ?_
      refine wp_region_held_drew (S := fun w' => Below wo.heap.size wo w') (by kernel_rfl) (Below.refl _ _).drew (fun hS => ?_)
      change wpAnyH _ _ _ _ _ 13 (Array.replicate 13 false) _ _
      generalize hx : wo.drew = y0 at hS
      clear hx
      refine held_take 0 rfl (by kernel_rfl) (by kernel_rfl) (by kernel_rfl) (.slice A3 up.length c3) (fun _ _ _ h => nomatch h.1) (by kernel_rfl) (fun w' h => by kernel_rfl) hS ?_
      simp only [Act.put, List.setIfInBounds_toArray, List.set_cons_zero, List.set_cons_succ, List.getElem_toArray, List.getElem_cons_succ, List.getElem_cons_zero]
      refine held_take 1 rfl (by kernel_rfl) (by kernel_rfl) (by kernel_rfl) (.pointer (some ⟨B, 2, none⟩)) (fun _ _ _ h => nomatch h.1) (by kernel_rfl) (fun w' h => by kernel_rfl) hS ?_
      simp only [Act.put, List.setIfInBounds_toArray, List.set_cons_zero, List.set_cons_succ, List.getElem_toArray, List.getElem_cons_succ, List.getElem_cons_zero]
      refine held_take 2 rfl (by kernel_rfl) (by kernel_rfl) (by kernel_rfl) (.int .i64 (ia : Int)) (fun _ _ _ h => nomatch h.1) (by kernel_rfl) (fun w' h => exec_load_cell 3 w' _ rfl ⟨B, 2, none⟩ (by kernel_rfl) _ (by rw [cell_of_row _ _ _ _ _ _ (hOo.out.below h).hbox]; rfl) (fun _ => by kernel_rfl)) hS ?_
      simp only [Act.put, List.setIfInBounds_toArray, List.set_cons_zero, List.set_cons_succ, List.getElem_toArray, List.getElem_cons_succ, List.getElem_cons_zero]
      refine held_take 3 rfl (by kernel_rfl) (by kernel_rfl) (by kernel_rfl) (.pointer (some ⟨B, 3, none⟩)) (fun _ _ _ h => nomatch h.1) (by kernel_rfl) (fun w' h => by kernel_rfl) hS ?_
      simp only [Act.put, List.setIfInBounds_toArray, List.set_cons_zero, List.set_cons_succ, List.getElem_toArray, List.getElem_cons_succ, List.getElem_cons_zero]
      refine held_take 4 rfl (by kernel_rfl) (by kernel_rfl) (by kernel_rfl) (.int .i64 (ib : Int)) (fun _ _ _ h => nomatch h.1) (by kernel_rfl) (fun w' h => exec_load_cell 3 w' _ rfl ⟨B, 3, none⟩ (by kernel_rfl) _ (by rw [cell_of_row _ _ _ _ _ _ (hOo.out.below h).hbox]; rfl) (fun _ => by kernel_rfl)) hS ?_
      simp only [Act.put, List.setIfInBounds_toArray, List.set_cons_zero, List.set_cons_succ, List.getElem_toArray, List.getElem_cons_succ, List.getElem_cons_zero]
      refine held_take 6 rfl (by kernel_rfl) (by kernel_rfl) (by kernel_rfl) (.slice (some ⟨g5, 0, none⟩) m m) (fun _ _ _ h => nomatch h.1) (by kernel_rfl) (fun w' h => by kernel_rfl) hS ?_
      simp only [Act.put, List.setIfInBounds_toArray, List.set_cons_zero, List.set_cons_succ, List.getElem_toArray, List.getElem_cons_succ, List.getElem_cons_zero]
      refine held_take 7 rfl (by kernel_rfl) (by kernel_rfl) (by kernel_rfl) (.pointer (some ⟨B, 3, none⟩)) (fun _ _ _ h => nomatch h.1) (by kernel_rfl) (fun w' h => by kernel_rfl) hS ?_
      simp only [Act.put, List.setIfInBounds_toArray, List.set_cons_zero, List.set_cons_succ, List.getElem_toArray, List.getElem_cons_succ, List.getElem_cons_zero]
      refine held_take 8 rfl (by kernel_rfl) (by kernel_rfl) (by kernel_rfl) (.int .i64 (ib : Int)) (fun _ _ _ h => nomatch h.1) (by kernel_rfl) (fun w' h => exec_load_cell 3 w' _ rfl ⟨B, 3, none⟩ (by kernel_rfl) _ (by rw [cell_of_row _ _ _ _ _ _ (hOo.out.below h).hbox]; rfl) (fun _ => by kernel_rfl)) hS ?_
      simp only [Act.put, List.setIfInBounds_toArray, List.set_cons_zero, List.set_cons_succ, List.getElem_toArray, List.getElem_cons_succ, List.getElem_cons_zero]
      refine held_take 9 rfl (by kernel_rfl) (by kernel_rfl) (by kernel_rfl) (.pointer (some ⟨g5, 0 + ib * 1, none⟩)) (fun _ _ _ h => nomatch h.1) (by kernel_rfl) (fun w' h => exec_index un50 sz50 _ _ rfl g5 0 m m ib (by kernel_rfl) (by kernel_rfl) hbm w') hS ?_
      simp only [Act.put, List.setIfInBounds_toArray, List.set_cons_zero, List.set_cons_succ, List.getElem_toArray, List.getElem_cons_succ, List.getElem_cons_zero]
      rw [Nat.zero_add, Nat.mul_one]
      refine held_take 10 rfl (by kernel_rfl) (by kernel_rfl) (by kernel_rfl) (.bool r) (fun _ _ _ h => nomatch h.1) (by kernel_rfl) (fun w' h => exec_load_cell 4 w' _ rfl ⟨g5, ib, none⟩ (by kernel_rfl) _ (by rw [h.cell (cell_lt hcb.out)]; exact hcb.out) (fun _ => by kernel_rfl)) hS ?_
      simp only [Act.put, List.setIfInBounds_toArray, List.set_cons_zero, List.set_cons_succ, List.getElem_toArray, List.getElem_cons_succ, List.getElem_cons_zero]
      refine held_call 5 rfl (by kernel_rfl) (by kernel_rfl) 19 #[.slice A3 up.length c3, .int .i64 (ia : Int), .int .i64 (ib : Int)] (by kernel_rfl) (R := fun v w' => v = .bool r ∧ Below y0.heap.size y0 w') (at_callsQ up hsmall.out A3 up.length c3 rfl (ia : Int) (ib : Int) y0 (hOo.out.below hS).hT (hMo.out.below hS) r hr) ?_
      rintro _ y1 ⟨rfl, hbn⟩
      have hS1 : Below wo.heap.size wo y1 := hS.trans (hbn.mono hS.size)
      refine ⟨hS1, ?_⟩
      clear hS hbn
      have hS := hS1
      clear hS1
      simp only [Act.put, List.setIfInBounds_toArray, List.set_cons_zero, List.set_cons_succ, List.getElem_toArray, List.getElem_cons_succ, List.getElem_cons_zero]
      refine held_take 11 rfl (by kernel_rfl) (by kernel_rfl) (by kernel_rfl) (.bool true) (fun _ _ _ h => nomatch h.1) (by kernel_rfl) (fun w' h => (exec_eqB2 _ _ rfl r r (by kernel_rfl) (by kernel_rfl)).trans (by rw [beq_self_eq_true])) hS ?_
      simp only [Act.put, List.setIfInBounds_toArray, List.set_cons_zero, List.set_cons_succ, List.getElem_toArray, List.getElem_cons_succ, List.getElem_cons_zero]
      refine held_take 12 rfl (by kernel_rfl) (by kernel_rfl) (by kernel_rfl) (.bool true) (fun _ _ _ h => nomatch h.1) (by kernel_rfl) (fun w' h => by kernel_rfl) hS ?_
      simp only [Act.put, List.setIfInBounds_toArray, List.set_cons_zero, List.set_cons_succ, List.getElem_toArray, List.getElem_cons_succ, List.getElem_cons_zero]
      refine wpAnyH_done (by kernel_rfl) ?_ _
      refine ⟨rfl, ?_⟩
      rename_i hK
      refine hK _ _ ?_
      clear hK
      have hBf : Hid (Below w.heap.size w y1) := (hOo.out.below hS).hB
      clear hS hOo hMo hcb hseen
      go_wp2_with fail
      go_ret
      exact ⟨rfl, hBf.out⟩
end Go.Proofs.YtfbbpodlemllcaaDoor
