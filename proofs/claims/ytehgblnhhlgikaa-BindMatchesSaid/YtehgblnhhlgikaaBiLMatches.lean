/-
  Bindings: any literal against any tuple: the law's walk.
-/
import Derived.Test.YtehgblnhhlgikaaBiLaw0
import Derived.Test.YtehgblnhhlgikaaBiSame
namespace Go.Proofs.Ytehgblnhhlgikaa.Bi
open Go.RowKit
set_option linter.unusedVariables false
set_option linter.unusedSimpArgs false
set_option pp.maxSteps 50000
set_option maxRecDepth 100000 in
set_option maxHeartbeats 4000000 in
theorem lmatches_calls (k : Nat) (p tp : ByteArray) (args b : List T3) (ts : List V2) (A1 tA A3 : Option Addr) (n m q c1 tc c3 : Nat) (hn : n = args.length) (hm : m = ts.length) (hq : q = b.length) (hxs : ∀ t ∈ args, t.x.size ≤ 9223372036854775807) (w : World)
    (hy1 : Rw 3 T3.c w (.slice A1 n c1) args) (hy2 : Rw 2 V2.c w (.slice tA m tc) ts) (hy3 : Rw 3 T3.c w (.slice A3 q c3) b) :
    Calls Try.prog 3 #[.agg (flatC k p (.slice A1 n c1)), .agg (tup tp (.slice tA m tc)), .slice A3 q c3] w fun e w' => e = .returned (.bool true) ∧ Below w.heap.size w w' := by
  obtain ⟨r, hr0⟩ : ∃ r, r = matchS k p args tp ts b := ⟨_, rfl⟩
  obtain ⟨hit, hhit0⟩ : ∃ hit, hit = r.isSome := ⟨_, rfl⟩
  have hr : Hid (r = matchS k p args tp ts b) := hr0
  have hhit : Hid (hit = r.isSome) := hhit0
  have hn' : Hid (n = args.length) := hn
  have hm' : Hid (m = ts.length) := hm
  have hq' : Hid (q = b.length) := hq
  have hxsH : Hid (∀ t ∈ args, t.x.size ≤ 9223372036854775807) := hxs
  have hin : Hid (Rw 3 T3.c w (.slice A1 n c1) args ∧ Rw 2 V2.c w (.slice tA m tc) ts ∧ Rw 3 T3.c w (.slice A3 q c3) b) := ⟨hy1, hy2, hy3⟩
  clear hn hm hq hy1 hy2 hy3 hr0 hhit0 hxs
  obtain ⟨i50, hi50, hz0, hz1, hz2⟩ := info_parts inf50
  unfold flatC tup
  go_enter Try.func3, Try.ntmps3
  go_upto_region 1 with fail
  generalize hW : World.alloc _ _ = W
  have hW0 : W.heap[w.heap.size]? = some (.cells (flatC k p (.slice A1 n c1)) 24 (0, 0)) := by rw [← hW]; exact heap_alloc2_old w _ _
  have hW1 : W.heap[w.heap.size + 1]? = some (.cells (tup tp (.slice tA m tc)) 27 (0, 0)) := by rw [← hW]; exact heap_alloc2_new w _ _
  have hWB : Below w.heap.size w W := by rw [← hW]; exact ((Below.refl _ _).alloc (Nat.le_refl _) _).alloc (by simp) _
  clear hW
  obtain ⟨B, hBd⟩ : ∃ B, B = w.heap.size := ⟨_, rfl⟩
  rw [← hBd] at hW0 hW1 ⊢
  generalize hB1 : B + 1 = B1 at hW1 ⊢
  clear hB1 hBd
  have hC : Hid (CtxM w B B1 (flatC k p (.slice A1 n c1)) (tup tp (.slice tA m tc)) (.slice A1 n c1) (.slice tA m tc) (.slice A3 q c3) args ts b W) := ⟨hW0, hW1, hin.out.1.below hWB, hin.out.2.1.below hWB, hin.out.2.2.below hWB, hWB⟩
  clear hW0 hW1 hWB hin
  refine wp_region_lit ?_
  refine sl_call rfl 8 #[] (by kernel_rfl) (R := fun v w' => v = .bool true ∧ Below W.heap.size W w') ((fixed_calls W).mono fun e w' h => ⟨_, h.1, rfl, h.2⟩) ?_
  rintro _ w1 ⟨rfl, hb⟩
  simp only [Act.put, List.setIfInBounds_toArray, List.set_cons_zero, List.set_cons_succ]
  replace hC := (show Hid (CtxM w B B1 (flatC k p (.slice A1 n c1)) (tup tp (.slice tA m tc)) (.slice A1 n c1) (.slice tA m tc) (.slice A3 q c3) args ts b w1) from hC.out.below hb)
  clear hb
  refine sl_run rfl (.bool false) w1 (by kernel_rfl) ?_
  simp only [Act.put, List.setIfInBounds_toArray, List.set_cons_zero, List.set_cons_succ]
  refine wpList_nil ?_
  have c02 : w1.cell? ⟨B, 2, none⟩ = some (.slice A1 n c1) := by rw [cell_of_row _ _ _ _ _ _ hC.out.hf]; rfl
  have c11 : w1.cell? ⟨B1, 1, none⟩ = some (.slice tA m tc) := by rw [cell_of_row _ _ _ _ _ _ hC.out.ht]; rfl
  by_cases h1 : 100 < n
  · have hI1 : (100 : Int) < (n : Int) := by omega
    go_wp2_with fail
    go_ret
    exact ⟨rfl, hC.out.hB⟩
  have hI1 : ¬ (100 : Int) < (n : Int) := by omega
  by_cases h2 : 100 < m
  · have hI2 : (100 : Int) < (m : Int) := by omega
    go_wp2_with fail
    go_ret
    exact ⟨rfl, hC.out.hB⟩
  have hI2 : ¬ (100 : Int) < (m : Int) := by omega
  by_cases h3 : 100 < q
  · have hI3 : (100 : Int) < (q : Int) := by omega
    go_wp2_with fail
    go_ret
    exact ⟨rfl, hC.out.hB⟩
  have hI3 : ¬ (100 : Int) < (q : Int) := by omega
  have hn9 : n ≤ 1000000 := by omega
  have hq9 : q ≤ 100 := by omega
  have hl9 : Hid ((r.getD []).length ≤ 200) := by
    show _ ≤ _
    have h5 : ((matchS k p args tp ts b).getD []).length ≤ b.length + args.length := matchS_len
    rw [← hr.out] at h5
    have := hn'.out
    have := hq'.out
    omega
  clear h2 h3
  go_upto_region 5 with fail
  refine wp_leaves (α := Option Addr × Nat × Nat × Option Addr × Nat × Value) (fun d a => ((((((((((((a.put (some 29) (.agg (flatC k p (.slice A1 n c1)))).put (some 30) (.agg (flatC k p (.slice d.1 n d.2.1)))).put (some 31) (.agg (tup tp (.slice tA m tc)))).put (some 32) (.slice (some ⟨d.2.2.1, 0, none⟩) 0 0)).put (some 33) (.slice A3 q c3)).put (some 34) (.slice d.2.2.2.1 q d.2.2.2.2.1)).put (some 35) (.tuple #[d.2.2.2.2.2, .bool hit])).put (some 28) (.tuple #[d.2.2.2.2.2, .bool hit])).put (some 36) (d.2.2.2.2.2)).put (some 37) (.bool hit)).put (some 7) (d.2.2.2.2.2)).put (some 8) (.bool hit)))
    (fun d w' => Rw 3 T3.c w' d.2.2.2.2.2 (r.getD []) ∧ Below w1.heap.size w1 w') ?_ ?_
  · refine wp_region_held_drew (S := fun w' => Below w1.heap.size w1 w') (by kernel_rfl) (Below.refl _ _).drew (fun hS => ?_)
    change wpAnyH _ _ _ _ _ 12 (Array.replicate 12 false) _ _
    generalize hx : w1.drew = v0 at hS
    clear hx
    refine held_take 0 rfl (by kernel_rfl) (by kernel_rfl) (by kernel_rfl) (.agg (flatC k p (.slice A1 n c1))) (fun _ _ _ h => nomatch h.1) (by kernel_rfl) (fun w' h => exec_load_row 24 w' _ rfl B (by kernel_rfl) 24 _ (0, 0) _ (heap_kept hC.out.hf h) Try.underlying24 rfl (by kernel_rfl)) hS ?_
    simp only [Act.put, List.setIfInBounds_toArray, List.set_cons_zero, List.set_cons_succ, List.getElem_toArray, List.getElem_cons_succ, List.getElem_cons_zero]
    refine held_take 2 rfl (by kernel_rfl) (by kernel_rfl) (by kernel_rfl) (.agg (tup tp (.slice tA m tc))) (fun _ _ _ h => nomatch h.1) (by kernel_rfl) (fun w' h => exec_load_row 27 w' _ rfl B1 (by kernel_rfl) 27 _ (0, 0) _ (heap_kept hC.out.ht h) Try.underlying27 rfl (by kernel_rfl)) hS ?_
    simp only [Act.put, List.setIfInBounds_toArray, List.set_cons_zero, List.set_cons_succ, List.getElem_toArray, List.getElem_cons_succ, List.getElem_cons_zero]
    refine held_take 4 rfl (by kernel_rfl) (by kernel_rfl) (by kernel_rfl) (.slice A3 q c3) (fun _ _ _ h => nomatch h.1) (by kernel_rfl) (fun _ _ => by kernel_rfl) hS ?_
    simp only [Act.put, List.setIfInBounds_toArray, List.set_cons_zero, List.set_cons_succ, List.getElem_toArray, List.getElem_cons_succ, List.getElem_cons_zero]
    refine held_both 1 3 rfl rfl (by kernel_rfl) (by kernel_rfl) (by kernel_rfl) (fun K hK => ?_) (fun K hK => ?_)
    · skip
      refine wp_enter 10 #[.agg (flatC k p (.slice A1 n c1))] (by kernel_rfl) (R := fun v w' => ∃ A2 c2, v = .agg (flatC k p (.slice A2 n c2)) ∧ w'.ownsRow v0.heap.size 48 3 (.slice A2 n c2) args.length (flat T3.c args) ∧ Below v0.heap.size v0 w') ((copyO_calls k p args A1 n c1 hn'.out hn9 v0 (hC.out.ha.below hS)).mono fun e w' h => by
          obtain ⟨A2, c2, h1, h2, h3⟩ := h
          exact ⟨_, h1, A2, c2, rfl, h2, h3⟩) ?_
      rintro _ v1 ⟨A2, c2, rfl, hcp, hb⟩
      replace hcp := own_mono hcp hS.size
      replace hS := hS.trans (hb.mono hS.size)
      clear hb
      refine hK _ _ hS ?_
      clear hK
      simp only [Act.put, List.setIfInBounds_toArray, List.set_cons_zero, List.set_cons_succ, List.getElem_toArray, List.getElem_cons_succ, List.getElem_cons_zero]
      refine held_one 3 rfl (by kernel_rfl) (by kernel_rfl) (fun K hK => ?_)
      refine wp_ran (.slice (some ⟨v1.heap.size, 0, none⟩) 0 0) (v1.alloc (.cells #[] 50)) (by kernel_rfl) ?_
      replace hcp := hcp.alloc (.cells #[] 50)
      have hmk : (v1.alloc (.cells #[] 50)).ownsRow w1.heap.size 50 3 (.slice (some ⟨v1.heap.size, 0, none⟩) 0 0) ([] : List T3).length (flat T3.c []) := World.ownsRow_made _ _ 0 hS.size (by decide) rfl
      replace hS := hS.alloc hS.size (.cells #[] 50)
      generalize v1.alloc _ = v2 at hS hmk hcp ⊢
      generalize v1.heap.size = g at hmk ⊢
      refine hK _ _ hS ?_
      clear hK
      simp only [Act.put, List.setIfInBounds_toArray, List.set_cons_zero, List.set_cons_succ, List.getElem_toArray, List.getElem_cons_succ, List.getElem_cons_zero]
      refine held_one 5 rfl (by kernel_rfl) (by kernel_rfl) (fun K hK => ?_)
      refine wp_appendRw 28 50 40 i50 z3 Try.underlying28 hi50 hz0 hz1 hz2 rfl (by decide) t3_size t3_ones _ _ rfl w1.heap.size _ [] b (by kernel_rfl) hmk _ (by kernel_rfl) ((hC.out.hb).below hS) (by have := hq'.out; simp; omega) (by have := hq'.out; simp; omega) hS.size ?_
      intro v6 v3 hap hgr
      rw [List.nil_append] at hap
      obtain ⟨A6, c6, rfl⟩ := own_formq hap hq'.out
      replace hcp := own_keep hcp (fun q hq => hgr.block q (hcp.lt q hq).2 (own_other hmk hcp (by decide) q hq))
      replace hS := Below.grown hS hgr hS.size (fun q hq => (hmk.lt q hq).1)
      clear hgr hmk
      refine hK _ _ hS ?_
      clear hK
      simp only [Act.put, List.setIfInBounds_toArray, List.set_cons_zero, List.set_cons_succ, List.getElem_toArray, List.getElem_cons_succ, List.getElem_cons_zero]
      refine held_one 6 rfl (by kernel_rfl) (by kernel_rfl) (fun K hK => ?_)
      refine wp_enter 9 #[.agg (flatC k p (.slice A2 n c2)), .agg (tup tp (.slice tA m tc)), .slice A6 q c6] (by kernel_rfl) (R := fun v w' => ∃ lv, v = .tuple #[lv, .bool hit] ∧ Rw 3 T3.c w' lv (r.getD []) ∧ Below v3.heap.size v3 w') ((match_calls k p tp args b ts A2 tA A6 n m q c2 tc c6 hn'.out hm'.out hq'.out hn9 (by have := hq'.out; have := hq'.out; omega) v3 (by rw [hn'.out]; rw [hn'.out] at hcp; exact Rw.own t3_size (by decide) hcp) (hC.out.hv.below hS) (by rw [hq'.out]; rw [hq'.out] at hap; exact Rw.own t3_size (by decide) hap)).mono fun e w' h => by
          rw [← hr.out] at h
          obtain ⟨lv, h1, h2, h3⟩ := h
          exact ⟨_, h1, lv, by rw [hhit.out], h2, h3⟩) ?_
      rintro _ v3z ⟨lv, rfl, hlv, hb⟩
      replace hS := hS.trans (hb.mono hS.size)
      refine hK _ _ hS ?_
      clear hK
      simp only [Act.put, List.setIfInBounds_toArray, List.set_cons_zero, List.set_cons_succ, List.getElem_toArray, List.getElem_cons_succ, List.getElem_cons_zero]
      refine held_take 7 rfl (by kernel_rfl) (by kernel_rfl) (by kernel_rfl) (.tuple #[lv, .bool hit]) (fun _ _ _ h => nomatch h.1) (by kernel_rfl) (fun _ _ => by kernel_rfl) hS ?_
      simp only [Act.put, List.setIfInBounds_toArray, List.set_cons_zero, List.set_cons_succ, List.getElem_toArray, List.getElem_cons_succ, List.getElem_cons_zero]
      refine held_take 8 rfl (by kernel_rfl) (by kernel_rfl) (by kernel_rfl) (lv) (fun _ _ _ h => nomatch h.1) (by kernel_rfl) (fun _ _ => by kernel_rfl) hS ?_
      simp only [Act.put, List.setIfInBounds_toArray, List.set_cons_zero, List.set_cons_succ, List.getElem_toArray, List.getElem_cons_succ, List.getElem_cons_zero]
      refine held_take 9 rfl (by kernel_rfl) (by kernel_rfl) (by kernel_rfl) (.bool hit) (fun _ _ _ h => nomatch h.1) (by kernel_rfl) (fun _ _ => by kernel_rfl) hS ?_
      simp only [Act.put, List.setIfInBounds_toArray, List.set_cons_zero, List.set_cons_succ, List.getElem_toArray, List.getElem_cons_succ, List.getElem_cons_zero]
      refine held_take 10 rfl (by kernel_rfl) (by kernel_rfl) (by kernel_rfl) (lv) (fun _ _ _ h => nomatch h.1) (by kernel_rfl) (fun _ _ => by kernel_rfl) hS ?_
      simp only [Act.put, List.setIfInBounds_toArray, List.set_cons_zero, List.set_cons_succ, List.getElem_toArray, List.getElem_cons_succ, List.getElem_cons_zero]
      refine held_take 11 rfl (by kernel_rfl) (by kernel_rfl) (by kernel_rfl) (.bool hit) (fun _ _ _ h => nomatch h.1) (by kernel_rfl) (fun _ _ => by kernel_rfl) hS ?_
      simp only [Act.put, List.setIfInBounds_toArray, List.set_cons_zero, List.set_cons_succ, List.getElem_toArray, List.getElem_cons_succ, List.getElem_cons_zero]
      refine wpAnyH_done (by kernel_rfl) ?_ _
      exact ⟨rfl, (A2, c2, g, A6, c6, lv), by kernel_rfl, hlv, hS⟩
    · skip
      refine wp_ran (.slice (some ⟨v0.heap.size, 0, none⟩) 0 0) (v0.alloc (.cells #[] 50)) (by kernel_rfl) ?_
      have hmk : (v0.alloc (.cells #[] 50)).ownsRow w1.heap.size 50 3 (.slice (some ⟨v0.heap.size, 0, none⟩) 0 0) ([] : List T3).length (flat T3.c []) := World.ownsRow_made _ _ 0 hS.size (by decide) rfl
      replace hS := hS.alloc hS.size (.cells #[] 50)
      generalize v0.alloc _ = v1 at hS hmk ⊢
      generalize v0.heap.size = g at hmk ⊢
      refine hK _ _ hS ?_
      clear hK
      simp only [Act.put, List.setIfInBounds_toArray, List.set_cons_zero, List.set_cons_succ, List.getElem_toArray, List.getElem_cons_succ, List.getElem_cons_zero]
      refine held_one 1 rfl (by kernel_rfl) (by kernel_rfl) (fun K hK => ?_)
      refine wp_enter 10 #[.agg (flatC k p (.slice A1 n c1))] (by kernel_rfl) (R := fun v w' => ∃ A2 c2, v = .agg (flatC k p (.slice A2 n c2)) ∧ w'.ownsRow v1.heap.size 48 3 (.slice A2 n c2) args.length (flat T3.c args) ∧ Below v1.heap.size v1 w') ((copyO_calls k p args A1 n c1 hn'.out hn9 v1 (hC.out.ha.below hS)).mono fun e w' h => by
          obtain ⟨A2, c2, h1, h2, h3⟩ := h
          exact ⟨_, h1, A2, c2, rfl, h2, h3⟩) ?_
      rintro _ v2 ⟨A2, c2, rfl, hcp, hb⟩
      replace hcp := own_mono hcp hS.size
      replace hmk := own_keep hmk (fun q hq => hb.block q (hmk.lt q hq).2)
      replace hS := hS.trans (hb.mono hS.size)
      clear hb
      refine hK _ _ hS ?_
      clear hK
      simp only [Act.put, List.setIfInBounds_toArray, List.set_cons_zero, List.set_cons_succ, List.getElem_toArray, List.getElem_cons_succ, List.getElem_cons_zero]
      refine held_one 5 rfl (by kernel_rfl) (by kernel_rfl) (fun K hK => ?_)
      refine wp_appendRw 28 50 40 i50 z3 Try.underlying28 hi50 hz0 hz1 hz2 rfl (by decide) t3_size t3_ones _ _ rfl w1.heap.size _ [] b (by kernel_rfl) hmk _ (by kernel_rfl) ((hC.out.hb).below hS) (by have := hq'.out; simp; omega) (by have := hq'.out; simp; omega) hS.size ?_
      intro v6 v3 hap hgr
      rw [List.nil_append] at hap
      obtain ⟨A6, c6, rfl⟩ := own_formq hap hq'.out
      replace hcp := own_keep hcp (fun q hq => hgr.block q (hcp.lt q hq).2 (own_other hmk hcp (by decide) q hq))
      replace hS := Below.grown hS hgr hS.size (fun q hq => (hmk.lt q hq).1)
      clear hgr hmk
      refine hK _ _ hS ?_
      clear hK
      simp only [Act.put, List.setIfInBounds_toArray, List.set_cons_zero, List.set_cons_succ, List.getElem_toArray, List.getElem_cons_succ, List.getElem_cons_zero]
      refine held_one 6 rfl (by kernel_rfl) (by kernel_rfl) (fun K hK => ?_)
      refine wp_enter 9 #[.agg (flatC k p (.slice A2 n c2)), .agg (tup tp (.slice tA m tc)), .slice A6 q c6] (by kernel_rfl) (R := fun v w' => ∃ lv, v = .tuple #[lv, .bool hit] ∧ Rw 3 T3.c w' lv (r.getD []) ∧ Below v3.heap.size v3 w') ((match_calls k p tp args b ts A2 tA A6 n m q c2 tc c6 hn'.out hm'.out hq'.out hn9 (by have := hq'.out; have := hq'.out; omega) v3 (by rw [hn'.out]; rw [hn'.out] at hcp; exact Rw.own t3_size (by decide) hcp) (hC.out.hv.below hS) (by rw [hq'.out]; rw [hq'.out] at hap; exact Rw.own t3_size (by decide) hap)).mono fun e w' h => by
          rw [← hr.out] at h
          obtain ⟨lv, h1, h2, h3⟩ := h
          exact ⟨_, h1, lv, by rw [hhit.out], h2, h3⟩) ?_
      rintro _ v3z ⟨lv, rfl, hlv, hb⟩
      replace hS := hS.trans (hb.mono hS.size)
      refine hK _ _ hS ?_
      clear hK
      simp only [Act.put, List.setIfInBounds_toArray, List.set_cons_zero, List.set_cons_succ, List.getElem_toArray, List.getElem_cons_succ, List.getElem_cons_zero]
      refine held_take 7 rfl (by kernel_rfl) (by kernel_rfl) (by kernel_rfl) (.tuple #[lv, .bool hit]) (fun _ _ _ h => nomatch h.1) (by kernel_rfl) (fun _ _ => by kernel_rfl) hS ?_
      simp only [Act.put, List.setIfInBounds_toArray, List.set_cons_zero, List.set_cons_succ, List.getElem_toArray, List.getElem_cons_succ, List.getElem_cons_zero]
      refine held_take 8 rfl (by kernel_rfl) (by kernel_rfl) (by kernel_rfl) (lv) (fun _ _ _ h => nomatch h.1) (by kernel_rfl) (fun _ _ => by kernel_rfl) hS ?_
      simp only [Act.put, List.setIfInBounds_toArray, List.set_cons_zero, List.set_cons_succ, List.getElem_toArray, List.getElem_cons_succ, List.getElem_cons_zero]
      refine held_take 9 rfl (by kernel_rfl) (by kernel_rfl) (by kernel_rfl) (.bool hit) (fun _ _ _ h => nomatch h.1) (by kernel_rfl) (fun _ _ => by kernel_rfl) hS ?_
      simp only [Act.put, List.setIfInBounds_toArray, List.set_cons_zero, List.set_cons_succ, List.getElem_toArray, List.getElem_cons_succ, List.getElem_cons_zero]
      refine held_take 10 rfl (by kernel_rfl) (by kernel_rfl) (by kernel_rfl) (lv) (fun _ _ _ h => nomatch h.1) (by kernel_rfl) (fun _ _ => by kernel_rfl) hS ?_
      simp only [Act.put, List.setIfInBounds_toArray, List.set_cons_zero, List.set_cons_succ, List.getElem_toArray, List.getElem_cons_succ, List.getElem_cons_zero]
      refine held_take 11 rfl (by kernel_rfl) (by kernel_rfl) (by kernel_rfl) (.bool hit) (fun _ _ _ h => nomatch h.1) (by kernel_rfl) (fun _ _ => by kernel_rfl) hS ?_
      simp only [Act.put, List.setIfInBounds_toArray, List.set_cons_zero, List.set_cons_succ, List.getElem_toArray, List.getElem_cons_succ, List.getElem_cons_zero]
      refine wpAnyH_done (by kernel_rfl) ?_ _
      exact ⟨rfl, (A2, c2, g, A6, c6, lv), by kernel_rfl, hlv, hS⟩
  · rintro ⟨A2, c2, g, A6, c6, lv⟩ w2 ⟨hlv, hb⟩
    rename_i hK
    refine hK _ _ ?_
    simp only [Act.put, List.setIfInBounds_toArray, List.set_cons_zero, List.set_cons_succ]
    have hl : Hid (Rw 3 T3.c w2 lv (r.getD [])) := hlv
    clear hlv
    replace hC := (show Hid (CtxM w B B1 (flatC k p (.slice A1 n c1)) (tup tp (.slice tA m tc)) (.slice A1 n c1) (.slice tA m tc) (.slice A3 q c3) args ts b w2) from hC.out.below hb)
    clear hb
    go_upto_region 6 with fail
    refine wp_region_lit ?_
    refine sl_run rfl (.agg (flatC k p (.slice A1 n c1))) w2 (exec_load_row 24 w2 _ rfl B (by kernel_rfl) 24 _ (0, 0) _ hC.out.hf Try.underlying24 rfl (by kernel_rfl)) ?_
    simp only [Act.put, List.setIfInBounds_toArray, List.set_cons_zero, List.set_cons_succ]
    refine sl_run rfl (.agg (tup tp (.slice tA m tc))) w2 (exec_load_row 27 w2 _ rfl B1 (by kernel_rfl) 27 _ (0, 0) _ hC.out.ht Try.underlying27 rfl (by kernel_rfl)) ?_
    simp only [Act.put, List.setIfInBounds_toArray, List.set_cons_zero, List.set_cons_succ]
    refine sl_run rfl (.slice A3 q c3) w2 (by kernel_rfl) ?_
    simp only [Act.put, List.setIfInBounds_toArray, List.set_cons_zero, List.set_cons_succ]
    refine sl_call rfl 11 #[.agg (flatC k p (.slice A1 n c1)), .agg (tup tp (.slice tA m tc)), .slice A3 q c3] (by kernel_rfl) (R := fun v w' => ∃ lv, v = .tuple #[lv, .bool hit] ∧ Rw 3 T3.c w' lv (r.getD []) ∧ Below w2.heap.size w2 w') ((rmatch_calls k p tp args b ts A1 tA A3 n m q c1 tc c3 hn'.out hm'.out hq'.out hn9 (by omega) hxsH.out w2 hC.out.ha hC.out.hv hC.out.hb).mono fun e w' h => by
        rw [← hr.out] at h
        obtain ⟨lv, h1, h2, h3⟩ := h
        exact ⟨_, h1, lv, by rw [hhit.out], h2, h3⟩) ?_
    rintro _ w3 ⟨lv2, rfl, hlv2, hb⟩
    simp only [Act.put, List.setIfInBounds_toArray, List.set_cons_zero, List.set_cons_succ]
    have hl2 : Hid (Rw 3 T3.c w3 lv2 (r.getD [])) := hlv2
    clear hlv2
    replace hC := (show Hid (CtxM w B B1 (flatC k p (.slice A1 n c1)) (tup tp (.slice tA m tc)) (.slice A1 n c1) (.slice tA m tc) (.slice A3 q c3) args ts b w3) from hC.out.below hb)
    replace hl := (show Hid (Rw 3 T3.c w3 lv (r.getD [])) from hl.out.below hb)
    clear hb
    refine sl_run rfl (.tuple #[lv2, .bool hit]) w3 (by kernel_rfl) ?_
    simp only [Act.put, List.setIfInBounds_toArray, List.set_cons_zero, List.set_cons_succ]
    refine sl_run rfl (lv2) w3 (by kernel_rfl) ?_
    simp only [Act.put, List.setIfInBounds_toArray, List.set_cons_zero, List.set_cons_succ]
    refine sl_run rfl (.bool hit) w3 (by kernel_rfl) ?_
    simp only [Act.put, List.setIfInBounds_toArray, List.set_cons_zero, List.set_cons_succ]
    refine sl_run rfl (lv2) w3 (by kernel_rfl) ?_
    simp only [Act.put, List.setIfInBounds_toArray, List.set_cons_zero, List.set_cons_succ]
    refine sl_run rfl (.bool hit) w3 (by kernel_rfl) ?_
    simp only [Act.put, List.setIfInBounds_toArray, List.set_cons_zero, List.set_cons_succ]
    refine wpList_nil ?_
    go_upto_region 7 with fail
    refine wp_region_lit ?_
    refine sl_run rfl (.bool hit) w3 (by kernel_rfl) ?_
    simp only [Act.put, List.setIfInBounds_toArray, List.set_cons_zero, List.set_cons_succ]
    refine sl_run rfl (.bool hit) w3 (by kernel_rfl) ?_
    simp only [Act.put, List.setIfInBounds_toArray, List.set_cons_zero, List.set_cons_succ]
    refine sl_run rfl (.bool true) w3 ((exec_eqb _ _ rfl hit hit (by kernel_rfl) (by kernel_rfl) w3).trans (by rw [beq_self_eq_true])) ?_
    simp only [Act.put, List.setIfInBounds_toArray, List.set_cons_zero, List.set_cons_succ]
    refine sl_run rfl (.bool true) w3 (by kernel_rfl) ?_
    simp only [Act.put, List.setIfInBounds_toArray, List.set_cons_zero, List.set_cons_succ]
    refine sg_run (by kernel_rfl) (lv) w3 (by kernel_rfl) ?_
    simp only [Act.put, List.setIfInBounds_toArray, List.set_cons_zero, List.set_cons_succ]
    refine sg_run (by kernel_rfl) (lv2) w3 (by kernel_rfl) ?_
    simp only [Act.put, List.setIfInBounds_toArray, List.set_cons_zero, List.set_cons_succ]
    refine sg_call (by kernel_rfl) 12 #[lv, lv2] (by kernel_rfl) (R := fun v w' => v = .bool true ∧ Below w3.heap.size w3 w') ((same_calls (r.getD []) lv lv2 w3 (by have := hl9.out; omega) hl.out hl2.out).mono fun e w' h => ⟨_, h.1, rfl, h.2⟩) ?_
    rintro _ w4 ⟨rfl, hb⟩
    simp only [Act.put, List.setIfInBounds_toArray, List.set_cons_zero, List.set_cons_succ]
    replace hC := (show Hid (CtxM w B B1 (flatC k p (.slice A1 n c1)) (tup tp (.slice tA m tc)) (.slice A1 n c1) (.slice tA m tc) (.slice A3 q c3) args ts b w4) from hC.out.below hb)
    clear hb
    refine sl_run rfl (.bool true) w4 (by kernel_rfl) ?_
    simp only [Act.put, List.setIfInBounds_toArray, List.set_cons_zero, List.set_cons_succ]
    refine sl_run rfl (.bool true) w4 (by kernel_rfl) ?_
    simp only [Act.put, List.setIfInBounds_toArray, List.set_cons_zero, List.set_cons_succ]
    refine wpList_nil ?_
    clear hl hl2
    go_wp2_with fail
    go_ret
    exact ⟨rfl, hC.out.hB⟩
end Go.Proofs.Ytehgblnhhlgikaa.Bi
