/-
  Orders: the program's Pairs.
-/
import Derived.Test.YtfbbpodlemllcaaDoorPoPdef
namespace Go.Proofs.YtfbbpodlemllcaaDoor
open Go.RowKit Go.Shelf
set_option linter.unusedVariables false
set_option linter.unusedSimpArgs false
set_option pp.maxSteps 50000
attribute [local go_sem] Oper.semAt_some
/-- Pairs' loop, between two rounds. -/
def PInv (up : List Nat) (w : World) (B Bo g o n c : Nat) (a' : Act) (wr : World) : Prop :=
  ∃ (u4 u5 u14 u15 u16 u17 u18 u19 u20 u21 u22 u23 u24 u25 u52 : Value) (ds : List Deferred), (∃ (i : Nat) (Ds : List Nat), i ≤ n ∧ u14 = .int .i64 (i : Int) ∧ ds = Ds.map mark ∧ Hid (PF w B Bo (.slice (some ⟨g, o, none⟩) n c) Ds (pairsT up i) wr)) ∧ a' = { tmps := #[.slice (some ⟨g, o, none⟩) n c, .pointer (some ⟨B, 0, none⟩), .slice none 0 0, .pointer (some ⟨Bo, 0, none⟩), u4, u5, undef, undef, undef, .slice (some ⟨g, o, none⟩) n c, .bool true, .bool false, .slice (some ⟨g, o, none⟩) n c, .int .i64 (n : Int), u14, u15, u16, u17, u18, u19, u20, u21, u22, u23, u24, u25, undef, undef, undef, undef, undef, undef, undef, undef, undef, undef, undef, undef, undef, undef, undef, undef, undef, undef, undef, undef, undef, undef, undef, undef, undef, undef, u52, undef], defers := ds }
set_option maxRecDepth 100000 in
set_option maxHeartbeats 4000000 in
theorem pairs_calls (up : List Nat) (hs : Small up) (A : Option Addr) (n c : Nat) (hn : n = up.length) (w : World) (ht : Tab w) (hy : Ms w (.slice A n c) up) :
    Calls Tryd.prog 26 #[.slice A n c] w fun e w' => ∃ v, e = .returned v ∧ w'.ownsRow w.heap.size 44 2 v (pairsS up).length (flat encP (pairsS up)) ∧ Below w.heap.size w w' := by
  obtain ⟨L, hL⟩ : ∃ L, L = pairsS up := ⟨_, rfl⟩
  rw [← hL]
  have hLH : Hid (L = pairsS up) := hL
  have hn' : Hid (n = up.length) := hn
  have hsH : Hid (Small up) := hs
  have htH : Hid (Tab w) := ht
  have hyH : Hid (Ms w (.slice A n c) up) := hy
  have hw0 : Hid (0 < w.heap.size) := ht.1
  clear hn hs ht hy hL
  refine calls_marks 9 Tryd.func26 rfl ?_
  simp only [Tryd.ntmps26, List.size_toArray, List.length_cons, List.length_nil, Nat.reduceAdd, Nat.reduceSub, Array.replicate_succ, Array.replicate_zero, List.push_toArray, List.append_toArray, List.nil_append, List.cons_append]
  go_upto_region 1 with fail
  have hW0 : (w.alloc (.cells #[.slice A n c] 24)).heap[w.heap.size]? = some (.cells #[.slice A n c] 24 (0, 0)) := heap_alloc_new _ _
  have hWB : Below w.heap.size w (w.alloc (.cells #[.slice A n c] 24)) := (Below.refl _ _).alloc (Nat.le_refl _) _
  generalize w.alloc _ = W at hW0 hWB ⊢
  obtain ⟨B, hBd⟩ : ∃ B, B = w.heap.size := ⟨_, rfl⟩
  have hBH : Hid (B = w.heap.size) := hBd
  rw [← hBd] at hW0 ⊢
  clear hBd
  obtain ⟨rr, hrr⟩ : ∃ r, r = tr (Ord up) := ⟨_, rfl⟩
  refine wp_region_lit ?_
  refine sl_run rfl (.slice A n c) W (exec_load_cell 24 W _ rfl ⟨B, 0, none⟩ (by kernel_rfl) _ (by rw [cell_of_row _ _ _ _ _ _ hW0]; rfl) (fun _ => by kernel_rfl)) ?_
  simp only [Act.put, List.setIfInBounds_toArray, List.set_cons_zero, List.set_cons_succ]
  refine sl_call rfl 15 #[.slice A n c] (by kernel_rfl) (R := fun v w' => v = .bool rr ∧ Below W.heap.size W w') ((rightT_calls up hsH.out A n c hn'.out W (htH.out.below hw0.out hWB) (hyH.out.below hWB)).mono fun e w' h => ⟨_, h.1, by rw [hrr], h.2⟩) ?_
  rintro _ w2 ⟨rfl, hb2⟩
  simp only [Act.put, List.setIfInBounds_toArray, List.set_cons_zero, List.set_cons_succ]
  refine sl_run rfl (.bool (!rr)) w2 (by kernel_rfl) ?_
  simp only [Act.put, List.setIfInBounds_toArray, List.set_cons_zero, List.set_cons_succ]
  refine wpList_nil ?_
  have k0 : Hid (w2.heap[B]? = some (.cells #[.slice A n c] 24 (0, 0))) := heap_kept hW0 hb2
  have hb3 : Hid (Below w.heap.size w w2) := hWB.trans (hb2.mono hWB.size)
  have hrH : Hid (rr = tr (Ord up)) := hrr
  clear hb2 hrr hW0 hWB
  cases rr with
  | false =>
    have hL0 : Hid (L = []) := by show _ = _; rw [hLH.out]; unfold pairsS; rw [← hrH.out]; rfl
    go_wp2_with fail
    change bodyPostM Fence.wide 9 Tryd.prog Tryd.f26 (fun e w' => ∃ v, e = .returned v ∧ w'.ownsRow w.heap.size 44 2 v L.length (flat encP L) ∧ Below w.heap.size w w') .ret _ _
    refine bodyM_ret (v := .slice none 0 0) (by rw [results_tmp (t := 2) rfl]; rfl) (by kernel_rfl) ?_
    exact ⟨_, rfl, by rw [hL0.out]; exact World.ownsRow_nil _ _ _ _, hb3.out⟩
  | true =>
    have hord : Hid (Ord up) := tr_iff.1 hrH.out.symm
    have hLT : Hid (L = pairsT up n) := by show _ = _; rw [hLH.out]; unfold pairsS; rw [← hrH.out, if_pos rfl, hn'.out]
    have h1n : 1 ≤ n := by rw [hn'.out]; exact hord.out.1
    have hn64 : n ≤ 64 := by rw [hn'.out]; exact hord.out.2.1
    clear hLH hrH
    obtain ⟨g, o, rfl, hnc, hg, _⟩ := hyH.out.elem 0 (by rw [← hn'.out]; omega)
    have hreg : Hid (∀ w', Below w.heap.size w w' → ∀ i, i < n → w'.cell? ⟨g, o + i, none⟩ = some (.int .u64 ((up.getD i 0 : Nat) : Int))) := fun w' h i hi => by
      rw [h.cell (by exact hg)]; exact elem_ms hyH.out i (by rw [← hn'.out]; exact hi)
    go_upto_region 4 with fail
    have ho3 : (w2.alloc (.cells #[.slice none 0 0] 22)).heap[w2.heap.size]? = some (.cells #[.slice none 0 0] 22 (0, 0)) := heap_alloc_new _ _
    have hb4 : Below w2.heap.size w2 (w2.alloc (.cells #[.slice none 0 0] 22)) := (Below.refl _ _).alloc (Nat.le_refl _) _
    have hBoH : Hid (w.heap.size ≤ w2.heap.size) := hb3.out.size
    obtain ⟨Bo, hBo⟩ : ∃ b, b = w2.heap.size := ⟨_, rfl⟩
    rw [← hBo] at ho3 hBoH ⊢
    generalize w2.alloc _ = w4 at ho3 hb4 ⊢
    have hP4 : Hid (PFv w B Bo (.slice (some ⟨g, o, none⟩) n c) (.slice none 0 0) [] [] w4) := ⟨heap_kept k0.out hb4, ho3, World.ownsRow_nil _ _ _ _, fun D h => (List.not_mem_nil h).elim, by simp, fun D h => (List.not_mem_nil h).elim, hb3.out.trans (hb4.mono hb3.out.size)⟩
    clear hb4 ho3 k0 hb3 hBo
    have c0 : w4.cell? ⟨B, 0, none⟩ = some (.slice (some ⟨g, o, none⟩) n c) := by rw [cell_of_row _ _ _ _ _ _ hP4.out.h0]; rfl
    go_wp2_with fail
    clear c0
    refine wp_loop (PInv up w B Bo g o n c) (fun a' _ => n - (intOf (a'.tmps.getD 14 undef)).toNat) ?_ ?_
    · unfold PInv
      (repeat apply Exists.intro)
      refine ⟨?_, rfl⟩
      exact ⟨0, [], by omega, rfl, rfl, ⟨_, hP4.out⟩⟩
    · intro a' wr hinv
      unfold PInv at hinv
      obtain ⟨u4, hinv⟩ := hinv
      obtain ⟨u5, hinv⟩ := hinv
      obtain ⟨u14, hinv⟩ := hinv
      obtain ⟨u15, hinv⟩ := hinv
      obtain ⟨u16, hinv⟩ := hinv
      obtain ⟨u17, hinv⟩ := hinv
      obtain ⟨u18, hinv⟩ := hinv
      obtain ⟨u19, hinv⟩ := hinv
      obtain ⟨u20, hinv⟩ := hinv
      obtain ⟨u21, hinv⟩ := hinv
      obtain ⟨u22, hinv⟩ := hinv
      obtain ⟨u23, hinv⟩ := hinv
      obtain ⟨u24, hinv⟩ := hinv
      obtain ⟨u25, hinv⟩ := hinv
      obtain ⟨u52, hinv⟩ := hinv
      obtain ⟨ds, hinv⟩ := hinv
      obtain ⟨⟨i, Ds, hi, rfl, rfl, hR⟩, ha⟩ := hinv
      subst ha
      try dsimp only
      obtain ⟨vo, hR⟩ := hR
      have hR : Hid (PFv w B Bo (.slice (some ⟨g, o, none⟩) n c) vo Ds (pairsT up i) wr) := hR
      clear hP4
      by_cases hlt : i < n
      · have hI : (i : Int) < (n : Int) := by omega
        obtain ⟨mi, hmi⟩ : ∃ mi, mi = up.getD i 0 := ⟨_, rfl⟩
        have hmiH : Hid (mi = up.getD i 0) := hmi
        have hmi9 : mi < 18446744073709551616 := by rw [hmi]; exact small_get hsH.out i
        have hkn : Hid (∀ k, mi.testBit k = true → k < n) := fun k hk => by rw [hn'.out]; exact ((hord.out.2.2 i (by rw [← hn'.out]; exact hlt)).2 k (by rw [← hmi]; exact hk)).1
        clear hmi
        obtain ⟨p, hp⟩ : ∃ p, p = 2 ^ i := ⟨_, rfl⟩
        have hp9 : p < 18446744073709551616 := by have h : 2 ^ i < 2 ^ 64 := Nat.pow_lt_pow_right (by omega) (by omega); rw [hp]; exact h
        obtain ⟨st, hst⟩ : ∃ st, st = mi &&& (18446744073709551615 - p) := ⟨_, rfl⟩
        have hstH : Hid (st = mi &&& (18446744073709551615 - p)) := hst
        have hst9 : st < 18446744073709551616 := by rw [hst]; exact Nat.lt_of_le_of_lt Nat.and_le_left hmi9
        have hstS : Hid (st = strictM up i) := by show _ = _; rw [hst, hp, hmiH.out]; rfl
        have hskn : Hid (∀ k, st.testBit k = true → k < n) := fun k hk => by
          rw [hst, Nat.testBit_and, Bool.and_eq_true] at hk; exact hkn.out k hk.1
        have hpH : Hid (p = 2 ^ i) := hp
        clear hst hp hkn
        go_upto_region 6 with fail
        refine wp_region_lit ?_
        refine sl_run rfl (.int .i64 (i : Int)) wr (by kernel_rfl) ?_
        simp only [Act.put, List.setIfInBounds_toArray, List.set_cons_zero, List.set_cons_succ]
        refine sl_run rfl (.pointer (some ⟨wr.heap.size, 0, none⟩)) (wr.alloc (.cells #[.int .i64 0] 3)) (by kernel_rfl) ?_
        simp only [Act.put, List.setIfInBounds_toArray, List.set_cons_zero, List.set_cons_succ]
        have hn0 : (wr.alloc (.cells #[.int .i64 0] 3)).heap[wr.heap.size]? = some (.cells #[.int .i64 0] 3 (0, 0)) := heap_alloc_new _ _
        refine wpList_store_cell rfl 3 _ _ rfl wr.heap.size 0 (by kernel_rfl) (.int .i64 (i : Int)) (by kernel_rfl) (.int .i64 0) (by rw [cell_of_row _ _ _ _ _ _ hn0]; rfl) (frozen_of_row _ _ _ _ _ hn0) (fun _ => by kernel_rfl) rfl rfl ?_
        refine wpList_nil ?_
        simp only [Act.put, List.setIfInBounds_toArray, List.set_cons_zero, List.set_cons_succ]
        have hn1 := heap_setCell_same _ _ 0 _ _ (.int .i64 (i : Int)) hn0
        have hb1 : Below wr.heap.size wr ((wr.alloc (.cells #[.int .i64 0] 3)).setCell ⟨wr.heap.size, 0, none⟩ (.int .i64 (i : Int))) := ((Below.refl _ _).alloc (Nat.le_refl _) _).setCell (Nat.le_refl _) _
        obtain ⟨d, hd⟩ : ∃ d, d = wr.heap.size := ⟨_, rfl⟩
        rw [← hd] at hn1 ⊢
        have hb1' : Below wr.heap.size wr ((wr.alloc (.cells #[.int .i64 0] 3)).setCell ⟨d, 0, none⟩ (.int .i64 (i : Int))) := by rw [hd]; exact hb1
        clear hb1
        generalize World.setCell _ _ _ = w5 at hn1 hb1' ⊢
        have hi5 : Hid (w5.heap[d]? = some (.cells #[.int .i64 (i : Int)] 3 (0, 0))) := hn1
        have hR5 : Hid (PFv w B Bo (.slice (some ⟨g, o, none⟩) n c) vo Ds (pairsT up i) w5) := hR.out.below hb1'
        clear hn0 hn1 hb1' hR hd
        go_upto_region 7 with fail
        try refine wp_seq ?_
        refine wp_leaves (α := Nat) (fun s a => ((((((((a.put (some 17) (.slice (some ⟨g, o, none⟩) n c)).put (some 18) (.int .i64 (i : Int))).put (some 19) (.pointer (some ⟨g, o + i, none⟩))).put (some 20) (.int .u64 (mi : Int))).put (some 21) (.int .i64 (i : Int))).put (some 22) (.int .u64 (p : Int))).put (some 23) (.int .u64 (st : Int))).put (some 5) (.pointer (some ⟨s, 0, none⟩))))
          (fun s w' => Hid (Below w5.heap.size w5 w' ∧ w'.heap[s]? = some (.cells #[.int .u64 (st : Int)] 36 (0, 0)))) ?_ ?_
        · refine wp_region_held_drew (S := fun w' => Below w5.heap.size w5 w') (by kernel_rfl) (Below.refl _ _).drew (fun hS => ?_)
          change wpAnyH _ _ _ _ _ 9 (Array.replicate 9 false) _ _
          generalize hx : w5.drew = v0 at hS
          clear hx
          refine held_take 0 rfl (by kernel_rfl) (by kernel_rfl) (by kernel_rfl) (.slice (some ⟨g, o, none⟩) n c) (fun _ _ _ h => nomatch h.1) (by kernel_rfl) (fun w' h => exec_load_cell 24 w' _ rfl ⟨B, 0, none⟩ (by kernel_rfl) _ (by rw [cell_of_row _ _ _ _ _ _ (heap_kept hR5.out.h0 h)]; rfl) (fun _ => by kernel_rfl)) hS ?_
          simp only [Act.put, List.setIfInBounds_toArray, List.set_cons_zero, List.set_cons_succ, List.getElem_toArray, List.getElem_cons_succ, List.getElem_cons_zero]
          refine held_take 1 rfl (by kernel_rfl) (by kernel_rfl) (by kernel_rfl) (.int .i64 (i : Int)) (fun _ _ _ h => nomatch h.1) (by kernel_rfl) (fun w' h => exec_load_cell 3 w' _ rfl ⟨d, 0, none⟩ (by kernel_rfl) _ (by rw [cell_of_row _ _ _ _ _ _ (heap_kept hi5.out h)]; rfl) (fun _ => by kernel_rfl)) hS ?_
          simp only [Act.put, List.setIfInBounds_toArray, List.set_cons_zero, List.set_cons_succ, List.getElem_toArray, List.getElem_cons_succ, List.getElem_cons_zero]
          refine held_take 2 rfl (by kernel_rfl) (by kernel_rfl) (by kernel_rfl) (.pointer (some ⟨g, o + i, none⟩)) (fun _ _ _ h => nomatch h.1) (by kernel_rfl) (fun w' _ => exec_ixM _ _ rfl g o n c i (by kernel_rfl) (by kernel_rfl) hlt) hS ?_
          simp only [Act.put, List.setIfInBounds_toArray, List.set_cons_zero, List.set_cons_succ, List.getElem_toArray, List.getElem_cons_succ, List.getElem_cons_zero]
          refine held_take 3 rfl (by kernel_rfl) (by kernel_rfl) (by kernel_rfl) (.int .u64 (mi : Int)) (fun _ _ _ h => nomatch h.1) (by kernel_rfl) (fun w' h => exec_load_cell 36 w' _ rfl ⟨g, o + i, none⟩ (by kernel_rfl) _ (by rw [hmiH.out]; exact hreg.out w' (hR5.out.hB.trans (h.mono hR5.out.hB.size)) i hlt) (fun _ => by kernel_rfl)) hS ?_
          simp only [Act.put, List.setIfInBounds_toArray, List.set_cons_zero, List.set_cons_succ, List.getElem_toArray, List.getElem_cons_succ, List.getElem_cons_zero]
          refine held_take 4 rfl (by kernel_rfl) (by kernel_rfl) (by kernel_rfl) (.int .i64 (i : Int)) (fun _ _ _ h => nomatch h.1) (by kernel_rfl) (fun w' h => exec_load_cell 3 w' _ rfl ⟨d, 0, none⟩ (by kernel_rfl) _ (by rw [cell_of_row _ _ _ _ _ _ (heap_kept hi5.out h)]; rfl) (fun _ => by kernel_rfl)) hS ?_
          simp only [Act.put, List.setIfInBounds_toArray, List.set_cons_zero, List.set_cons_succ, List.getElem_toArray, List.getElem_cons_succ, List.getElem_cons_zero]
          refine held_take 5 rfl (by kernel_rfl) (by kernel_rfl) (by kernel_rfl) (.int .u64 (p : Int)) (fun _ _ _ h => nomatch h.1) (by kernel_rfl) (fun w' _ => (exec_shl1 _ 3 rfl .i64 i (by kernel_rfl) (by omega)).trans (by rw [hpH.out])) hS ?_
          simp only [Act.put, List.setIfInBounds_toArray, List.set_cons_zero, List.set_cons_succ, List.getElem_toArray, List.getElem_cons_succ, List.getElem_cons_zero]
          refine held_take 6 rfl (by kernel_rfl) (by kernel_rfl) (by kernel_rfl) (.int .u64 (st : Int)) (fun _ _ _ h => nomatch h.1) (by kernel_rfl) (fun w' _ => (exec_andNotM _ _ rfl mi p (by kernel_rfl) (by kernel_rfl) hmi9 hp9).trans (by rw [hstH.out])) hS ?_
          simp only [Act.put, List.setIfInBounds_toArray, List.set_cons_zero, List.set_cons_succ, List.getElem_toArray, List.getElem_cons_succ, List.getElem_cons_zero]
          refine held_new 7 rfl (by kernel_rfl) (by kernel_rfl) (.pointer (some ⟨v0.heap.size, 0, none⟩)) (v0.alloc (.cells #[.int .u64 0] 36)) (by kernel_rfl) (fun w' => Below w5.heap.size w5 w' ∧ w'.heap[v0.heap.size]? = some (.cells #[.int .u64 0] 36 (0, 0))) ⟨hS.alloc hS.size _, heap_alloc_new _ _⟩ ?_
          rintro w6 ⟨hS3, hn3⟩
          refine ⟨hS3, ?_⟩
          simp only [Act.put, List.setIfInBounds_toArray, List.set_cons_zero, List.set_cons_succ, List.getElem_toArray, List.getElem_cons_succ, List.getElem_cons_zero]
          have hd2 : w5.heap.size ≤ v0.heap.size := hS.size
          generalize v0.heap.size = s at hn3 hd2 ⊢
          refine held_one 8 rfl (by kernel_rfl) (by kernel_rfl) (fun K hK => ?_)
          refine wp_skipped (w6.setCell ⟨s, 0, none⟩ (.int .u64 (st : Int))) (exec_store_cell 36 _ _ rfl s 0 (by kernel_rfl) (.int .u64 (st : Int)) (by kernel_rfl) (.int .u64 0) (by rw [cell_of_row _ _ _ _ _ _ hn3]; rfl) (frozen_of_row _ _ _ _ _ hn3) (fun _ => by kernel_rfl) rfl rfl) ?_
          refine hK _ _ (hS3.setCell hd2 _) ?_
          clear hK
          simp only [Act.put, List.setIfInBounds_toArray, List.set_cons_zero, List.set_cons_succ, List.getElem_toArray, List.getElem_cons_succ, List.getElem_cons_zero]
          refine wpAnyH_done (by kernel_rfl) ?_ _
          have hn4 := heap_setCell_same _ _ 0 _ _ (.int .u64 (st : Int)) hn3
          have hS4 : Below w5.heap.size w5 (w6.setCell ⟨s, 0, none⟩ (.int .u64 (st : Int))) := hS3.setCell hd2 _
          generalize World.setCell _ _ _ = w7 at hn4 hS4 ⊢
          have hJ : Hid (Below w5.heap.size w5 w7 ∧ w7.heap[s]? = some (.cells #[.int .u64 (st : Int)] 36 (0, 0))) := ⟨hS4, hn4⟩
          exact ⟨rfl, s, by kernel_rfl, hJ⟩
        rintro s w7 hJ
        rename_i hK
        refine hK _ _ ?_
        clear hK
        simp only [Act.put, List.setIfInBounds_toArray, List.set_cons_zero, List.set_cons_succ]
        obtain ⟨hb7, hs7⟩ := hJ
        have hs7 : Hid (w7.heap[s]? = some (.cells #[.int .u64 (st : Int)] 36 (0, 0))) := hs7
        have hi7 : Hid (w7.heap[d]? = some (.cells #[.int .i64 (i : Int)] 3 (0, 0))) := heap_kept hi5.out hb7
        have hR7 : Hid (PFv w B Bo (.slice (some ⟨g, o, none⟩) n c) vo Ds (pairsT up i) w7) := hR5.out.below hb7
        clear hb7 hi5 hR5 hpH hp9
        go_upto_region 8 with fail
        refine wp_region_lit ?_
        refine sl_run rfl (.int .u64 (st : Int)) w7 (exec_load_cell 36 w7 _ rfl ⟨s, 0, none⟩ (by kernel_rfl) _ (by rw [cell_of_row _ _ _ _ _ _ hs7.out]; rfl) (fun _ => by kernel_rfl)) ?_
        simp only [Act.put, List.setIfInBounds_toArray, List.set_cons_zero, List.set_cons_succ]
        refine sl_call rfl 28 #[.int .u64 (st : Int)] (by kernel_rfl) (R := fun v w' => v = .func (.func 33) #[] #[.pointer (some ⟨w7.heap.size, 0, none⟩)] ∧ w' = w7.alloc (.cells #[.int .u64 (st : Int)] 36)) ((bits_calls st w7).mono fun e w' h => ⟨_, h.1, rfl, h.2⟩) ?_
        rintro _ _ ⟨rfl, rfl⟩
        simp only [Act.put, List.setIfInBounds_toArray, List.set_cons_zero, List.set_cons_succ]
        refine wpList_nil ?_
        have hb8 : Below w7.heap.size w7 (w7.alloc (.cells #[.int .u64 (st : Int)] 36)) := (Below.refl _ _).alloc (Nat.le_refl _) _
        have hm8 : (w7.alloc (.cells #[.int .u64 (st : Int)] 36)).heap[w7.heap.size]? = some (.cells #[.int .u64 (st : Int)] 36 (0, 0)) := heap_alloc_new _ _
        obtain ⟨bm, hbm⟩ : ∃ b, b = w7.heap.size := ⟨_, rfl⟩
        rw [← hbm] at hm8 ⊢
        generalize w7.alloc _ = w8 at hb8 hm8 ⊢
        have hs8 : Hid (w8.heap[s]? = some (.cells #[.int .u64 (st : Int)] 36 (0, 0))) := heap_kept hs7.out hb8
        have hi8 : Hid (w8.heap[d]? = some (.cells #[.int .i64 (i : Int)] 3 (0, 0))) := heap_kept hi7.out hb8
        have hR8 : Hid (PFv w B Bo (.slice (some ⟨g, o, none⟩) n c) vo Ds (pairsT up i) w8) := hR7.out.below hb8
        have htab8 : Hid (Tab w8) := htH.out.below hw0.out hR8.out.hB
        have hwle : w.heap.size ≤ w8.heap.size := hR8.out.hB.size
        clear hb8 hbm hs7 hi7 hR7
        rename_i hK
        refine hK _ _ ?_
        clear hK
        refine wp_block ?_
        refine wp_rangeH 9 (by decide) (gf := 33) (lb := #[.pointer (some ⟨bm, 0, none⟩)]) rfl (enters_of Tryd.func33 (by kernel_rfl) rfl)
          (bits_stops 8 (by decide) st bm w.heap.size hst9 w8 hw0.out hwle (by rw [cell_of_row _ _ _ _ _ _ hm8]; rfl) ((Array.getElem?_eq_some_iff.1 hm8).1) htab8.out) hwle (fun _ => rfl)
          (fun pre W => PF w B Bo (.slice (some ⟨g, o, none⟩) n c) Ds (outP up i pre) W ∧ (W.heap[d]? = some (.cells #[.int .i64 (i : Int)] 3 (0, 0)) ∧ W.heap[s]? = some (.cells #[.int .u64 (st : Int)] 36 (0, 0))))
          (fun c pre W => False)
          (OwnFrom.and (PF.own hR8.out.lt hwle) (OwnFrom.and (own_heap (cs := fun _ => #[.int .i64 (i : Int)])) (own_heap (cs := fun _ => #[.int .u64 (st : Int)]))))
          (fun c => own_false)
          ⟨⟨vo, by rw [outP_nil]; exact hR8.out⟩, hi8.out, hs8.out⟩
          (fun x a' W => ∃ q, W.heap[q]? = some (.cells #[.int .i64 (x.1 : Int)] 3 (0, 0)) ∧ a' = { tmps := #[.slice (some ⟨g, o, none⟩) n c, .pointer (some ⟨B, 0, none⟩), .slice none 0 0, .pointer (some ⟨Bo, 0, none⟩), .pointer (some ⟨d, 0, none⟩), .pointer (some ⟨s, 0, none⟩), .pointer (some ⟨q, 0, none⟩), undef, undef, .slice (some ⟨g, o, none⟩) n c, .bool true, .bool false, .slice (some ⟨g, o, none⟩) n c, .int .i64 (n : Int), .int .i64 (i : Int), .bool true, .int .i64 (i : Int), .slice (some ⟨g, o, none⟩) n c, .int .i64 (i : Int), .pointer (some ⟨g, o + i, none⟩), .int .u64 (mi : Int), .int .i64 (i : Int), .int .u64 (p : Int), .int .u64 (st : Int), .int .u64 (st : Int), .func (.func 33) #[] #[.pointer (some ⟨bm, 0, none⟩)], .int .i64 (x.1 : Int), undef, undef, undef, undef, undef, undef, undef, undef, undef, undef, undef, undef, undef, undef, undef, undef, undef, undef, undef, undef, undef, undef, undef, undef, undef, u52, undef], defers := [] })
          (fun x a' _ X Y row hs hg hr => by obtain ⟨q, e2, e3⟩ := hs; exact ⟨q, own_heap (β := Unit) (cs := fun _ => #[.int .i64 (x.1 : Int)]) () X Y row e2 hg hr, e3⟩) ?assign ?body ?done ?stop
        case assign =>
          rintro l pre x W K ⟨⟨v, hP⟩, hdW, hsW⟩ hK
          simp only [encB]
          have hP : Hid (PFv w B Bo (.slice (some ⟨g, o, none⟩) n c) v Ds (outP up i pre) W) := hP
          have hn0 : (W.alloc (.cells #[.int .i64 0] 3)).heap[W.heap.size]? = some (.cells #[.int .i64 0] 3 (0, 0)) := heap_alloc_new _ _
          refine wpIn_region_lit ?_
          refine ri_run (by kernel_rfl) (by intro c hc; cases hc) (.pointer (some ⟨W.heap.size, 0, none⟩)) (W.alloc (.cells #[.int .i64 0] 3)) (by kernel_rfl) ?_
          simp only [Act.put, List.setIfInBounds_toArray, List.set_cons_zero, List.set_cons_succ]
          refine ri_skipped (by kernel_rfl) (by intro c hc; cases hc) ((W.alloc (.cells #[.int .i64 0] 3)).setCell ⟨W.heap.size, 0, none⟩ (.int .i64 (x.1 : Int))) (exec_store_cell 3 _ _ rfl W.heap.size 0 (by kernel_rfl) (.int .i64 (x.1 : Int)) (by kernel_rfl) (.int .i64 0) (by rw [cell_of_row _ _ _ _ _ _ hn0]; rfl) (frozen_of_row _ _ _ _ _ hn0) (fun _ => by kernel_rfl) rfl rfl) ?_
          simp only [Act.put]
          refine wpListIn_nil ?_
          have hn1 := heap_setCell_same _ _ 0 _ _ (.int .i64 (x.1 : Int)) hn0
          have hb1 : Below W.heap.size W ((W.alloc (.cells #[.int .i64 0] 3)).setCell ⟨W.heap.size, 0, none⟩ (.int .i64 (x.1 : Int))) := ((Below.refl _ _).alloc (Nat.le_refl _) _).setCell (Nat.le_refl _) _
          exact hK _ _ ((keeps_below hb1).from _) (hb1.mono hP.out.hB.size) ⟨⟨v, hP.out.below hb1⟩, heap_kept hdW hb1, heap_kept hsW hb1⟩ ⟨W.heap.size, hn1, by kernel_rfl⟩
        case done =>
          rintro D xs W hD hS ⟨⟨v, hP⟩, _, _⟩ hK
          have hPD : Hid (PFv w B Bo (.slice (some ⟨g, o, none⟩) n c) v (D :: Ds) (pairsT up (i + 1)) W) := by
            have := hP.more hK (fun D' h' => by have := hR8.out.lt D' h'; omega) (by omega)
            rwa [outP_all' hstS.out hS] at this
          clear hP hK hR8 hi8 hs8 hm8
          go_wp2_with fail
          refine ⟨?_, ?measure⟩
          unfold PInv
          refine ⟨.pointer (some ⟨d, 0, none⟩), .pointer (some ⟨s, 0, none⟩), .int .i64 ((i : Int) + 1), .bool true, .int .i64 (i : Int), .slice (some ⟨g, o, none⟩) n c, .int .i64 (i : Int), .pointer (some ⟨g, o + i, none⟩), .int .u64 (mi : Int), .int .i64 (i : Int), .int .u64 (p : Int), .int .u64 (st : Int), .int .u64 (st : Int), .func (.func 33) #[] #[.pointer (some ⟨bm, 0, none⟩)], .int .i64 ((i : Int) + 1), mark D :: Ds.map mark, ?rel, by kernel_rfl⟩
          case rel => exact ⟨i + 1, D :: Ds, by omega, by go_num, rfl, ⟨_, hPD.out⟩⟩
          case measure => simp [intOf]; omega
        case stop =>
          rintro D cc pre W hD hSp hF hK
          exact hF.elim
        case body =>
          rintro l pre x a' W hl ⟨rl, hrl⟩ ⟨⟨v, hP⟩, hdW, hsW⟩ ⟨q, hqW, rfl⟩ hlt64
          have hxm := x.2.2
          have hx64 := x.2.1
          have hP' : Hid (PFv w B Bo (.slice (some ⟨g, o, none⟩) n c) v Ds (outP up i pre) W) := hP
          have hdW' : Hid (W.heap[d]? = some (.cells #[.int .i64 (i : Int)] 3 (0, 0))) := hdW
          have hsW' : Hid (W.heap[s]? = some (.cells #[.int .u64 (st : Int)] 36 (0, 0))) := hsW
          have hrl' : Hid (W.heap[l]? = some (.loop rl)) := hrl
          have hl' : Hid (w8.heap.size ≤ l) := hl
          have hlen := outP_len (up := up) (i := i) hlt64
          obtain ⟨kb, hkb⟩ : ∃ kx, kx = x.1 := ⟨_, rfl⟩
          have hkbH : Hid (kb = x.1) := hkb
          rw [← hkb] at hqW hxm hx64 ⊢
          have hqW' : Hid (W.heap[q]? = some (.cells #[.int .i64 (kb : Int)] 3 (0, 0))) := hqW
          obtain ⟨pb, hpb⟩ : ∃ p, p = 2 ^ kb := ⟨_, rfl⟩
          have hpb9 : pb < 18446744073709551616 := by have h : 2 ^ kb < 2 ^ 64 := Nat.pow_lt_pow_right (by omega) (by omega); rw [hpb]; exact h
          obtain ⟨sb, hsb⟩ : ∃ z, z = st &&& (18446744073709551615 - pb) := ⟨_, rfl⟩
          have hsbH : Hid (sb = st &&& (18446744073709551615 - pb)) := hsb
          have hsb9 : sb < 18446744073709551616 := by rw [hsb]; exact Nat.lt_of_le_of_lt Nat.and_le_left hst9
          have hsbS : Hid (sb = without st x.1) := by show _ = _; rw [hsb, hpb, hkb]; rfl
          have hbkn : Hid (∀ k, sb.testBit k = true → k < n) := fun k hk => by
            rw [hsb, Nat.testBit_and, Bool.and_eq_true] at hk; exact hskn.out k hk.1
          have hpbH : Hid (pb = 2 ^ kb) := hpb
          clear hP hdW hsW hrl hl hqW hkb hpb hsb hR8 hi8 hs8 hm8
          refine wpIn_block ?_
          refine wpIn_seq ?_
          refine wpIn_region_lit ?_
          have hn0 : (W.alloc (.cells #[.bool false] 4)).heap[W.heap.size]? = some (.cells #[.bool false] 4 (0, 0)) := heap_alloc_new _ _
          refine ri_run (by kernel_rfl) (by intro c hc; cases hc) (.pointer (some ⟨W.heap.size, 0, none⟩)) (W.alloc (.cells #[.bool false] 4)) (by kernel_rfl) ?_
          simp only [Act.put, List.setIfInBounds_toArray, List.set_cons_zero, List.set_cons_succ]
          refine ri_skipped (by kernel_rfl) (by intro c hc; cases hc) ((W.alloc (.cells #[.bool false] 4)).setCell ⟨W.heap.size, 0, none⟩ (.bool false)) (exec_store_cell 4 _ _ rfl W.heap.size 0 (by kernel_rfl) (.bool false) (by kernel_rfl) (.bool false) (by rw [cell_of_row _ _ _ _ _ _ hn0]; rfl) (frozen_of_row _ _ _ _ _ hn0) (fun _ => by kernel_rfl) rfl rfl) ?_
          simp only [Act.put, List.setIfInBounds_toArray, List.set_cons_zero, List.set_cons_succ]
          refine wpListIn_nil ?_
          have hn1 := heap_setCell_same _ _ 0 _ _ (.bool false) hn0
          have hb1 : Below W.heap.size W ((W.alloc (.cells #[.bool false] 4)).setCell ⟨W.heap.size, 0, none⟩ (.bool false)) := ((Below.refl _ _).alloc (Nat.le_refl _) _).setCell (Nat.le_refl _) _
          obtain ⟨bt, hbt⟩ : ∃ b, b = W.heap.size := ⟨_, rfl⟩
          rw [← hbt] at hn1 ⊢
          have hb1' : Below W.heap.size W ((W.alloc (.cells #[.bool false] 4)).setCell ⟨bt, 0, none⟩ (.bool false)) := by rw [hbt]; exact hb1
          clear hb1 hn0
          generalize World.setCell _ _ _ = x1 at hn1 hb1' ⊢
          have hbtH : Hid (bt = W.heap.size) := hbt
          have hP1 : Hid (PFv w B Bo (.slice (some ⟨g, o, none⟩) n c) v Ds (outP up i pre) x1) := hP'.out.below hb1'
          have hd1 : Hid (x1.heap[d]? = some (.cells #[.int .i64 (i : Int)] 3 (0, 0))) := heap_kept hdW'.out hb1'
          have hs1 : Hid (x1.heap[s]? = some (.cells #[.int .u64 (st : Int)] 36 (0, 0))) := heap_kept hsW'.out hb1'
          have hq1 : Hid (x1.heap[q]? = some (.cells #[.int .i64 (kb : Int)] 3 (0, 0))) := heap_kept hqW'.out hb1'
          have hB1 : Hid (Below W.heap.size W x1) := hb1'
          have hbt1 : Hid (x1.heap[bt]? = some (.cells #[.bool false] 4 (0, 0))) := hn1
          clear hn1 hb1' hbt
          refine wpIn_seq ?_
          refine wpIn_seq ?_
          refine wpIn_region_tailR 4 (Below x1.heap.size x1) (of_noDefer (by kernel_rfl)) (by kernel_rfl) (by kernel_rfl) (Below.refl _ _).drew ?_
          simp only [List.take_succ_cons, List.take_zero, List.drop_succ_cons, List.drop_zero]
          refine rq_run (by kernel_rfl) (.int .u64 (st : Int)) (fun w' h => exec_load_cell 36 w' _ rfl ⟨s, 0, none⟩ (by kernel_rfl) _ (by rw [cell_of_row _ _ _ _ _ _ (heap_kept hs1.out h)]; rfl) (fun _ => by kernel_rfl)) ?_
          simp only [Act.put, List.setIfInBounds_toArray, List.set_cons_zero, List.set_cons_succ]
          refine rq_run (by kernel_rfl) (.int .i64 (kb : Int)) (fun w' h => exec_load_cell 3 w' _ rfl ⟨q, 0, none⟩ (by kernel_rfl) _ (by rw [cell_of_row _ _ _ _ _ _ (heap_kept hq1.out h)]; rfl) (fun _ => by kernel_rfl)) ?_
          simp only [Act.put, List.setIfInBounds_toArray, List.set_cons_zero, List.set_cons_succ]
          refine rq_run (by kernel_rfl) (.int .u64 (pb : Int)) (fun w' h => (exec_shl1 _ 3 rfl .i64 kb (by kernel_rfl) hx64).trans (by rw [hpbH.out])) ?_
          simp only [Act.put, List.setIfInBounds_toArray, List.set_cons_zero, List.set_cons_succ]
          refine rq_run (by kernel_rfl) (.int .u64 (sb : Int)) (fun w' h => (exec_andNotM _ _ rfl st pb (by kernel_rfl) (by kernel_rfl) hst9 hpb9).trans (by rw [hsbH.out])) ?_
          simp only [Act.put, List.setIfInBounds_toArray, List.set_cons_zero, List.set_cons_succ]
          refine wpQuietIn_nil ?_
          intro x2 hb2
          refine ri_call (by kernel_rfl) (by intro c hc; cases hc) 28 #[.int .u64 (sb : Int)] (by kernel_rfl) (R := fun v w' => v = .func (.func 33) #[] #[.pointer (some ⟨x2.heap.size, 0, none⟩)] ∧ w' = x2.alloc (.cells #[.int .u64 (sb : Int)] 36)) ((bits_calls sb x2).mono fun e w' h => ⟨_, h.1, rfl, h.2⟩) ?_
          rintro _ _ ⟨rfl, rfl⟩
          simp only [Act.put, List.setIfInBounds_toArray, List.set_cons_zero, List.set_cons_succ]
          refine wpListIn_nil ?_
          have hb3 : Below x1.heap.size x1 (x2.alloc (.cells #[.int .u64 (sb : Int)] 36)) := hb2.alloc hb2.size _
          have hm3 : (x2.alloc (.cells #[.int .u64 (sb : Int)] 36)).heap[x2.heap.size]? = some (.cells #[.int .u64 (sb : Int)] 36 (0, 0)) := heap_alloc_new _ _
          generalize x2.heap.size = bm2 at hm3 ⊢
          generalize x2.alloc _ = x3 at hb3 hm3 ⊢
          have hP3 : Hid (PFv w B Bo (.slice (some ⟨g, o, none⟩) n c) v Ds (outP up i pre) x3) := hP1.out.below hb3
          have hd3 : Hid (x3.heap[d]? = some (.cells #[.int .i64 (i : Int)] 3 (0, 0))) := heap_kept hd1.out hb3
          have hs3 : Hid (x3.heap[s]? = some (.cells #[.int .u64 (st : Int)] 36 (0, 0))) := heap_kept hs1.out hb3
          have hq3 : Hid (x3.heap[q]? = some (.cells #[.int .i64 (kb : Int)] 3 (0, 0))) := heap_kept hq1.out hb3
          have hbt3 : Hid (x3.heap[bt]? = some (.cells #[.bool false] 4 (0, 0))) := heap_kept hbt1.out hb3
          have hB3 : Hid (Below W.heap.size W x3) := hB1.out.trans (hb3.mono hB1.out.size)
          have htab3 : Hid (Tab x3) := htH.out.below hw0.out hP3.out.hB
          have hwle3 : w.heap.size ≤ x3.heap.size := hP3.out.hB.size
          have hwbt : Hid (w.heap.size ≤ bt) := by show _ ≤ _; rw [hbtH.out]; exact hP'.out.hB.size
          have hrl3 : x3.heap[l]? = some (.loop rl) := heap_kept hrl'.out hB3.out
          clear hb2 hb3 hP1 hd1 hs1 hq1 hbt1 hB1
          refine wpIn_block ?_
          refine wpIn_rangeFunc_ownN (n := 7) (l₀ := l) (r₀ := rl) rfl hrl3 (by decide) (gf := 33) (lb := #[.pointer (some ⟨bm2, 0, none⟩)]) rfl trivial (enters_of Tryd.func33 (by kernel_rfl) rfl)
            ((bits_stops 6 (by decide) sb bm2 w.heap.size hsb9 x3 hw0.out hwle3 (by rw [cell_of_row _ _ _ _ _ _ hm3]; rfl) ((Array.getElem?_eq_some_iff.1 hm3).1) htab3.out).inRound l) belowK_t (belowK_b hwle3) (Below.refl _ _) (fun _ => rfl)
            (fun (qre : List (BitOf sb)) W' => W'.heap[bt]? = some (.cells #[.bool (anyB up kb qre)] 4 (0, 0)) ∧ Same bt x3 W')
            (fun c qre W' => False)
            (OwnFrom.and (own_heap (cs := fun (qre : List (BitOf sb)) => #[.bool (anyB up kb qre)])) (Same.own (Nat.le_refl _)))
            (fun c => own_false)
            ⟨hbt3.out, Same.refl _ _⟩
            (fun (y : BitOf sb) a' W' => a' = { tmps := #[.slice (some ⟨g, o, none⟩) n c, .pointer (some ⟨B, 0, none⟩), .slice none 0 0, .pointer (some ⟨Bo, 0, none⟩), .pointer (some ⟨d, 0, none⟩), .pointer (some ⟨s, 0, none⟩), .pointer (some ⟨q, 0, none⟩), .pointer (some ⟨bt, 0, none⟩), .int .i64 (y.1 : Int), .slice (some ⟨g, o, none⟩) n c, .bool true, .bool false, .slice (some ⟨g, o, none⟩) n c, .int .i64 (n : Int), .int .i64 (i : Int), .bool true, .int .i64 (i : Int), .slice (some ⟨g, o, none⟩) n c, .int .i64 (i : Int), .pointer (some ⟨g, o + i, none⟩), .int .u64 (mi : Int), .int .i64 (i : Int), .int .u64 (p : Int), .int .u64 (st : Int), .int .u64 (st : Int), .func (.func 33) #[] #[.pointer (some ⟨bm, 0, none⟩)], .int .i64 (kb : Int), .int .u64 (st : Int), .int .i64 (kb : Int), .int .u64 (pb : Int), .int .u64 (sb : Int), .func (.func 33) #[] #[.pointer (some ⟨bm2, 0, none⟩)], .int .i64 (y.1 : Int), undef, undef, undef, undef, undef, undef, undef, undef, undef, undef, undef, undef, undef, undef, undef, undef, undef, undef, undef, u52, undef], defers := [] })
            (fun y a' _ _ _ _ hs _ _ => hs) ?assign2 ?body2 ?done2 ?stop2
          case assign2 =>
            intro l2 qre y W' K hI hK
            simp only [encB]
            refine wpIn_region_lit ?_
            refine ri_run (by kernel_rfl) (by intro c hc; cases hc) (.int .i64 (y.1 : Int)) W' (by kernel_rfl) ?_
            simp only [Act.put]
            refine wpListIn_nil ?_
            exact hK _ _ (KeepsFrom.refl _ _) (Below.refl _ _) hI (by kernel_rfl)
          case stop2 =>
            intro c qre W' hSp hF
            exact hF.elim
          case body2 =>
            rintro l2 qre y a' W' hl2 _ ⟨hbtW, hsame⟩ rfl hlt2
            obtain ⟨z, hz⟩ : ∃ z, z = anyB up kb qre := ⟨_, rfl⟩
            have hzH : Hid (z = anyB up kb qre) := hz
            rw [← hz] at hbtW
            have hyn : y.1 < n := hbkn.out y.1 y.2.2
            obtain ⟨ky, hky⟩ : ∃ k, k = y.1 := ⟨_, rfl⟩
            have hkyH : Hid (ky = y.1) := hky
            rw [← hky] at hyn ⊢
            obtain ⟨mk, hmk⟩ : ∃ mk, mk = up.getD ky 0 := ⟨_, rfl⟩
            have hmk9 : mk < 18446744073709551616 := by rw [hmk]; exact small_get hsH.out _
            have hmkH : Hid (mk = up.getD ky 0) := hmk
            have hbtW' : Hid (W'.heap[bt]? = some (.cells #[.bool z] 4 (0, 0))) := hbtW
            have hsame' : Hid (Same bt x3 W') := hsame
            have hBsv : Hid (W'.heap[B]? = some (.cells #[.slice (some ⟨g, o, none⟩) n c] 24 (0, 0))) := hsame.heap hP3.out.h0 (fun e => by have h := hbt3.out; rw [← e, hP3.out.h0] at h; cases h)
            have hqW2 : Hid (W'.heap[q]? = some (.cells #[.int .i64 (kb : Int)] 3 (0, 0))) := hsame.heap hq3.out (fun e => by have h := hbt3.out; rw [← e, hq3.out] at h; cases h)
            have hBW2 : Hid (Below w.heap.size w W') := hP3.out.hB.trans (hsame.below hwbt.out hwle3)
            clear hz hky hmk hbtW hsame hm3 hrl3
            refine wpIn_block ?_
            refine wpIn_region_tailR 11 (Below W'.heap.size W') (of_noDefer (by kernel_rfl)) (by kernel_rfl) (by kernel_rfl) (Below.refl _ _).drew ?_
            simp only [List.take_succ_cons, List.take_zero, List.drop_succ_cons, List.drop_zero]
            cases z with
            | true =>
              refine rq_run (by kernel_rfl) (.bool true) (fun w' h => exec_load_cell 4 w' _ rfl ⟨bt, 0, none⟩ (by kernel_rfl) _ (by rw [cell_of_row _ _ _ _ _ _ (heap_kept hbtW'.out h)]; rfl) (fun _ => by kernel_rfl)) ?_
              simp only [Act.put, List.setIfInBounds_toArray, List.set_cons_zero, List.set_cons_succ]
              refine rq_run (by kernel_rfl) (.bool true) (fun w' h => (by kernel_rfl)) ?_
              simp only [Act.put, List.setIfInBounds_toArray, List.set_cons_zero, List.set_cons_succ]
              refine rq_skip ?hw ?_
              case hw => kernel_rfl
              simp only [Act.put, List.setIfInBounds_toArray, List.set_cons_zero, List.set_cons_succ]
              refine rq_skip ?hw ?_
              case hw => kernel_rfl
              simp only [Act.put, List.setIfInBounds_toArray, List.set_cons_zero, List.set_cons_succ]
              refine rq_skip ?hw ?_
              case hw => kernel_rfl
              simp only [Act.put, List.setIfInBounds_toArray, List.set_cons_zero, List.set_cons_succ]
              refine rq_skip ?hw ?_
              case hw => kernel_rfl
              simp only [Act.put, List.setIfInBounds_toArray, List.set_cons_zero, List.set_cons_succ]
              refine rq_skip ?hw ?_
              case hw => kernel_rfl
              simp only [Act.put, List.setIfInBounds_toArray, List.set_cons_zero, List.set_cons_succ]
              refine rq_skip ?hw ?_
              case hw => kernel_rfl
              simp only [Act.put, List.setIfInBounds_toArray, List.set_cons_zero, List.set_cons_succ]
              refine rq_skip ?hw ?_
              case hw => kernel_rfl
              simp only [Act.put, List.setIfInBounds_toArray, List.set_cons_zero, List.set_cons_succ]
              refine rq_skip ?hw ?_
              case hw => kernel_rfl
              simp only [Act.put, List.setIfInBounds_toArray, List.set_cons_zero, List.set_cons_succ]
              refine rq_run (by kernel_rfl) (.bool true) (fun w' h => (by kernel_rfl)) ?_
              simp only [Act.put, List.setIfInBounds_toArray, List.set_cons_zero, List.set_cons_succ]
              refine wpQuietIn_nil ?_
              intro x4 hb4
              refine ri_skipped (by kernel_rfl) (by intro c hc; cases hc) (x4.setCell ⟨bt, 0, none⟩ (.bool true)) (exec_store_cell 4 _ _ rfl bt 0 (by kernel_rfl) (.bool true) (by kernel_rfl) _ (by rw [cell_of_row _ _ _ _ _ _ (heap_kept hbtW'.out hb4)]; rfl) (frozen_of_row _ _ _ _ _ (heap_kept hbtW'.out hb4)) (fun _ => by kernel_rfl) rfl rfl) ?_
              simp only [Act.put, List.setIfInBounds_toArray, List.set_cons_zero, List.set_cons_succ]
              refine wpListIn_nil ?_
              have hz2 : anyB up kb (qre ++ [y]) = true := by rw [anyB_snoc, ← hzH.out]; rfl
              refine ⟨((keeps_below hb4).trans (KeepsOthers.setCell _ _ _)).from _, (hb4.mono hBW2.out.size).setCell hwbt.out _, ?_, (hsame'.out.step hb4).set _⟩
              rw [hz2]
              exact heap_setCell_same _ _ 0 _ _ _ (heap_kept hbtW'.out hb4)
            | false =>
              refine rq_run (by kernel_rfl) (.bool false) (fun w' h => exec_load_cell 4 w' _ rfl ⟨bt, 0, none⟩ (by kernel_rfl) _ (by rw [cell_of_row _ _ _ _ _ _ (heap_kept hbtW'.out h)]; rfl) (fun _ => by kernel_rfl)) ?_
              simp only [Act.put, List.setIfInBounds_toArray, List.set_cons_zero, List.set_cons_succ]
              refine rq_run (by kernel_rfl) (.bool false) (fun w' h => (by kernel_rfl)) ?_
              simp only [Act.put, List.setIfInBounds_toArray, List.set_cons_zero, List.set_cons_succ]
              refine rq_run (by kernel_rfl) (.slice (some ⟨g, o, none⟩) n c) (fun w' h => exec_load_cell 24 w' _ rfl ⟨B, 0, none⟩ (by kernel_rfl) _ (by rw [cell_of_row _ _ _ _ _ _ (heap_kept hBsv.out h)]; rfl) (fun _ => by kernel_rfl)) ?_
              simp only [Act.put, List.setIfInBounds_toArray, List.set_cons_zero, List.set_cons_succ]
              refine rq_run (by kernel_rfl) (.int .i64 (ky : Int)) (fun w' h => (by kernel_rfl)) ?_
              simp only [Act.put, List.setIfInBounds_toArray, List.set_cons_zero, List.set_cons_succ]
              refine rq_run (by kernel_rfl) (.pointer (some ⟨g, o + ky, none⟩)) (fun w' h => exec_ixM _ _ rfl g o n c ky (by kernel_rfl) (by kernel_rfl) hyn) ?_
              simp only [Act.put, List.setIfInBounds_toArray, List.set_cons_zero, List.set_cons_succ]
              refine rq_run (by kernel_rfl) (.int .u64 (mk : Int)) (fun w' h => exec_load_cell 36 w' _ rfl ⟨g, o + ky, none⟩ (by kernel_rfl) _ (by rw [hmkH.out]; exact hreg.out w' (hBW2.out.trans (h.mono hBW2.out.size)) ky hyn) (fun _ => by kernel_rfl)) ?_
              simp only [Act.put, List.setIfInBounds_toArray, List.set_cons_zero, List.set_cons_succ]
              refine rq_run (by kernel_rfl) (.int .i64 (kb : Int)) (fun w' h => exec_load_cell 3 w' _ rfl ⟨q, 0, none⟩ (by kernel_rfl) _ (by rw [cell_of_row _ _ _ _ _ _ (heap_kept hqW2.out h)]; rfl) (fun _ => by kernel_rfl)) ?_
              simp only [Act.put, List.setIfInBounds_toArray, List.set_cons_zero, List.set_cons_succ]
              refine rq_run (by kernel_rfl) (.int .u64 ((mk / 2 ^ kb : Nat) : Int)) (fun w' h => exec_shr _ _ 3 rfl .i64 mk kb (by kernel_rfl) (by kernel_rfl) (by omega)) ?_
              simp only [Act.put, List.setIfInBounds_toArray, List.set_cons_zero, List.set_cons_succ]
              refine rq_run (by kernel_rfl) (.int .u64 ((mk / 2 ^ kb &&& 1 : Nat) : Int)) (fun w' h => exec_andM _ _ rfl (mk / 2 ^ kb) 1 (by kernel_rfl) (by kernel_rfl) (Nat.lt_of_le_of_lt (Nat.div_le_self _ _) hmk9) (by decide)) ?_
              simp only [Act.put, List.setIfInBounds_toArray, List.set_cons_zero, List.set_cons_succ]
              refine rq_run (by kernel_rfl) (.bool (mk.testBit kb)) (fun w' h => (exec_eqM _ _ rfl _ 1 (by kernel_rfl) (by kernel_rfl)).trans (by rw [low_bit1])) ?_
              simp only [Act.put, List.setIfInBounds_toArray, List.set_cons_zero, List.set_cons_succ]
              refine rq_run (by kernel_rfl) (.bool (mk.testBit kb)) (fun w' h => (by kernel_rfl)) ?_
              simp only [Act.put, List.setIfInBounds_toArray, List.set_cons_zero, List.set_cons_succ]
              refine wpQuietIn_nil ?_
              intro x4 hb4
              refine ri_skipped (by kernel_rfl) (by intro c hc; cases hc) (x4.setCell ⟨bt, 0, none⟩ (.bool (mk.testBit kb))) (exec_store_cell 4 _ _ rfl bt 0 (by kernel_rfl) (.bool (mk.testBit kb)) (by kernel_rfl) _ (by rw [cell_of_row _ _ _ _ _ _ (heap_kept hbtW'.out hb4)]; rfl) (frozen_of_row _ _ _ _ _ (heap_kept hbtW'.out hb4)) (fun _ => by kernel_rfl) rfl rfl) ?_
              simp only [Act.put, List.setIfInBounds_toArray, List.set_cons_zero, List.set_cons_succ]
              refine wpListIn_nil ?_
              have hz2 : anyB up kb (qre ++ [y]) = (mk.testBit kb) := by rw [anyB_snoc, ← hzH.out, hmkH.out, hkyH.out]; rfl
              refine ⟨((keeps_below hb4).trans (KeepsOthers.setCell _ _ _)).from _, (hb4.mono hBW2.out.size).setCell hwbt.out _, ?_, (hsame'.out.step hb4).set _⟩
              rw [hz2]
              exact heap_setCell_same _ _ 0 _ _ _ (heap_kept hbtW'.out hb4)
          case done2 =>
            rintro xs W' hS ⟨hbtW, hsame⟩
            have hzb : anyB up kb xs = betw up st x.1 := by rw [hkbH.out]; exact anyB_all' hsbS.out hS
            rw [hzb] at hbtW
            obtain ⟨z, hz⟩ : ∃ z, z = betw up st x.1 := ⟨_, rfl⟩
            have hzH : Hid (z = betw up st x.1) := hz
            rw [← hz] at hbtW
            have hbtW' : Hid (W'.heap[bt]? = some (.cells #[.bool z] 4 (0, 0))) := hbtW
            have hP4 : Hid (PFv w B Bo (.slice (some ⟨g, o, none⟩) n c) v Ds (outP up i pre) W') := hP3.out.same hsame ⟨_, hbt3.out⟩ hwbt.out
            have hd4 : Hid (W'.heap[d]? = some (.cells #[.int .i64 (i : Int)] 3 (0, 0))) := hsame.heap hd3.out (fun e => by have h := hbt3.out; rw [← e, hd3.out] at h; cases h)
            have hs4 : Hid (W'.heap[s]? = some (.cells #[.int .u64 (st : Int)] 36 (0, 0))) := hsame.heap hs3.out (fun e => by have h := hbt3.out; rw [← e, hs3.out] at h; cases h)
            have hq4 : Hid (W'.heap[q]? = some (.cells #[.int .i64 (kb : Int)] 3 (0, 0))) := hsame.heap hq3.out (fun e => by have h := hbt3.out; rw [← e, hq3.out] at h; cases h)
            have hB4 : Hid (Below W.heap.size W W') := hB3.out.trans (hsame.below (by rw [hbtH.out]; exact Nat.le_refl _) hB3.out.size)
            clear hS hzb hz hbtW hsame hP3 hd3 hs3 hq3 hB3 hbt3 hm3 hrl3 htab3
            refine wpIn_seq ?_
            refine wpIn_region_lit ?_
            refine ri_run (by kernel_rfl) (by intro c hc; cases hc) (.bool z) W' (exec_load_cell 4 W' _ rfl ⟨bt, 0, none⟩ (by kernel_rfl) _ (by rw [cell_of_row _ _ _ _ _ _ hbtW'.out]; rfl) (fun _ => by kernel_rfl)) ?_
            simp only [Act.put, List.setIfInBounds_toArray, List.set_cons_zero, List.set_cons_succ]
            refine ri_run (by kernel_rfl) (by intro c hc; cases hc) (.bool (!z)) W' (by kernel_rfl) ?_
            simp only [Act.put, List.setIfInBounds_toArray, List.set_cons_zero, List.set_cons_succ]
            refine wpListIn_nil ?_
            cases z with
            | true =>
              refine wpIn_cond_false (by kernel_rfl) ?_
              refine wpIn_skip ?_
              refine ⟨(keeps_below hB4.out).from _, hB4.out.mono hP'.out.hB.size, ⟨v, ?_⟩, hd4.out, hs4.out⟩
              rw [outP_snoc, if_neg (by rw [← hzH.out]; decide), List.append_nil]
              exact hP4.out
            | false =>
              refine wpIn_cond_true (by kernel_rfl) ?_
              refine wpIn_region_lit ?_
              refine ri_run (by kernel_rfl) (by intro c hc; cases hc) v W' (exec_load_cell 22 W' _ rfl ⟨Bo, 0, none⟩ (by kernel_rfl) _ (by rw [cell_of_row _ _ _ _ _ _ hP4.out.ho]; rfl) (fun _ => by kernel_rfl)) ?_
              simp only [Act.put, List.setIfInBounds_toArray, List.set_cons_zero, List.set_cons_succ]
              refine ri_run (by kernel_rfl) (by intro c hc; cases hc) (.int .i64 (i : Int)) W' (exec_load_cell 3 W' _ rfl ⟨d, 0, none⟩ (by kernel_rfl) _ (by rw [cell_of_row _ _ _ _ _ _ hd4.out]; rfl) (fun _ => by kernel_rfl)) ?_
              simp only [Act.put, List.setIfInBounds_toArray, List.set_cons_zero, List.set_cons_succ]
              refine ri_run (by kernel_rfl) (by intro c hc; cases hc) (.int .i64 (kb : Int)) W' (exec_load_cell 3 W' _ rfl ⟨q, 0, none⟩ (by kernel_rfl) _ (by rw [cell_of_row _ _ _ _ _ _ hq4.out]; rfl) (fun _ => by kernel_rfl)) ?_
              simp only [Act.put, List.setIfInBounds_toArray, List.set_cons_zero, List.set_cons_succ]
              refine ri_run (by kernel_rfl) (by intro c hc; cases hc) (.agg #[.int .i64 (i : Int), .int .i64 (kb : Int)]) W' (by kernel_rfl) ?_
              simp only [Act.put, List.setIfInBounds_toArray, List.set_cons_zero, List.set_cons_succ]
              refine ri_run (by kernel_rfl) (by intro c hc; cases hc) (.slice (some ⟨W'.heap.size, 0, none⟩) 1 1) (W'.alloc (.cells #[.int .i64 (i : Int), .int .i64 (kb : Int)] 44)) (by kernel_rfl) ?_
              simp only [Act.put, List.setIfInBounds_toArray, List.set_cons_zero, List.set_cons_succ]
              obtain ⟨i44, hi44, hz0, hz1, hz2⟩ := info_parts inf44
              have hnew : (W'.alloc (.cells #[.int .i64 (i : Int), .int .i64 (kb : Int)] 44)).heap[W'.heap.size]? = some (.cells #[.int .i64 (i : Int), .int .i64 (kb : Int)] 44 (0, 0)) := heap_alloc_new _ _
              refine wpListIn_append_own (W'.alloc (.cells #[.int .i64 (i : Int), .int .i64 (kb : Int)] 44)) rfl _ _ 22 rfl w.heap.size 44 i44 z44 2 16 Tryd.underlying22 hi44 hz0 hz1 hz2 rfl (by decide) v _ _ (by kernel_rfl) (hP4.out.below ((Below.refl _ _).alloc (Nat.le_refl _) _)).hr ⟨W'.heap.size, 0, none⟩ 1 1 [.int .i64 (i : Int), .int .i64 (kb : Int)] (by kernel_rfl) rfl (fun j u hu => by rw [Addr.add_mid, cell_of_row _ _ _ _ _ _ hnew]; simpa using hu) (by simp [Value.oneCell']) (by unfold maxLen; omega) (by omega) (by have := hP4.out.hB.size; simp; omega) ?_
              intro v' y1 hown' hgrow _
              obtain ⟨A', c', rfl⟩ := own_form hown'
              have hl' : outP up i (pre ++ [x]) = outP up i pre ++ [((i : Int), (kb : Int))] := by rw [outP_snoc, if_pos hzH.out.symm, hkbH.out]
              have hown2 : y1.ownsRow w.heap.size 44 2 (.slice A' ((outP up i pre).length + 1) c') (outP up i (pre ++ [x])).length (flat encP (outP up i (pre ++ [x]))) := by
                rw [hl', List.length_append, flat_app]; exact hown'
              obtain ⟨a1, a2, a3, a4, a5⟩ := hP4.out.app hBoH.out hown2 hgrow
              refine ri_skipped (by kernel_rfl) (by intro c hc; cases hc) (y1.setCell ⟨Bo, 0, none⟩ (.slice A' ((outP up i pre).length + 1) c')) (exec_store_cell 22 _ _ rfl Bo 0 (by kernel_rfl) _ (by kernel_rfl) v (by rw [cell_of_row _ _ _ _ _ _ a4]; rfl) (frozen_of_row _ _ _ _ _ a4) (fun _ => by kernel_rfl) rfl rfl) ?_
              simp only [Act.put, List.setIfInBounds_toArray, List.set_cons_zero, List.set_cons_succ]
              refine wpListIn_nil ?_
              exact ⟨((keeps_below hB4.out).trans a2).from _, (hB4.out.mono hP'.out.hB.size).trans a3, ⟨_, a1⟩, a5 d _ 3 hd4.out (by decide) (by decide), a5 s _ 36 hs4.out (by decide) (by decide)⟩
      · have hI : ¬ (i : Int) < (n : Int) := by omega
        have hin : i = n := by omega
        have cO : wr.cell? ⟨Bo, 0, none⟩ = some vo := by rw [cell_of_row _ _ _ _ _ _ hR.out.ho]; rfl
        go_upto_region 17 with fail
        refine wp_region_lit ?_
        refine sl_run rfl vo wr (exec_load_cell 22 wr _ rfl ⟨Bo, 0, none⟩ (by kernel_rfl) _ cO (fun _ => by kernel_rfl)) ?_
        simp only [Act.put, List.setIfInBounds_toArray, List.set_cons_zero, List.set_cons_succ]
        refine sl_run rfl vo wr (by kernel_rfl) ?_
        simp only [Act.put, List.setIfInBounds_toArray, List.set_cons_zero, List.set_cons_succ]
        refine wpList_nil ?_
        rename_i hK
        refine hK _ _ (wp_ret ?_)
        change bodyPostM Fence.wide 9 Tryd.prog Tryd.f26 (fun e w' => ∃ v, e = .returned v ∧ w'.ownsRow w.heap.size 44 2 v L.length (flat encP L) ∧ Below w.heap.size w w') .ret _ _
        exact pairs_leaves hR.out (by kernel_rfl) (by kernel_rfl) (by rw [hLT.out, hin])
end Go.Proofs.YtfbbpodlemllcaaDoor
