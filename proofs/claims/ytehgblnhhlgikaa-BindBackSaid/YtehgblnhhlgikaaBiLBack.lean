/-
  Bindings: matched and filled, there and back: the law's walk.
-/
import Derived.Test.YtehgblnhhlgikaaBiBack0
import Derived.Test.YtehgblnhhlgikaaBiLFills
import Derived.Test.YtehgblnhhlgikaaBiSame
namespace Go.Proofs.Ytehgblnhhlgikaa.Bi
open Go.RowKit
set_option linter.unusedVariables false
set_option linter.unusedSimpArgs false
set_option pp.maxSteps 50000
set_option maxRecDepth 100000 in
set_option maxHeartbeats 4000000 in
theorem lback_calls (k : Nat) (p tp : ByteArray) (args b : List T3) (ts : List V2) (A1 tA A3 : Option Addr) (n m q c1 tc c3 : Nat) (hn : n = args.length) (hm : m = ts.length) (hq : q = b.length) (hp9 : p.size ≤ 9223372036854775807) (htp9 : tp.size ≤ 9223372036854775807) (hgt : ∀ v ∈ ts, v.ok) (hga2 : ∀ t ∈ args, t.v.ok) (hgb : ∀ t ∈ b, t.v.ok) (w : World)
    (hy1 : Rw 3 T3.c w (.slice A1 n c1) args) (hy2 : Rw 2 V2.c w (.slice tA m tc) ts) (hy3 : Rw 3 T3.c w (.slice A3 q c3) b) :
    Calls Try.prog 6 #[.agg (flatC k p (.slice A1 n c1)), .agg (tup tp (.slice tA m tc)), .slice A3 q c3] w fun e w' => e = .returned (.bool true) ∧ Below w.heap.size w w' := by
  obtain ⟨r, hr0⟩ : ∃ r, r = matchS k p args tp ts b := ⟨_, rfl⟩
  obtain ⟨hit, hhit0⟩ : ∃ hit, hit = r.isSome := ⟨_, rfl⟩
  obtain ⟨f, hf0⟩ : ∃ f, f = fillS k args b := ⟨_, rfl⟩
  have hfok : Hid ((∀ v ∈ f.getD [], v.ok) ∧ (f.getD []).length ≤ args.length) := by rw [hf0]; exact fillS_ok hga2 hgb
  obtain ⟨fit, hfit0⟩ : ∃ fit, fit = f.isSome := ⟨_, rfl⟩
  obtain ⟨s, hs0⟩ : ∃ s, s = if f.isSome then p else ByteArray.empty := ⟨_, rfl⟩
  have hs9 : Hid (s.size ≤ 9223372036854775807) := by
    rw [hs0]; split
    · exact hp9
    · show ByteArray.empty.size ≤ 9223372036854775807; decide
  obtain ⟨ln, hln0⟩ : ∃ ln, ln = (f.getD []).length := ⟨_, rfl⟩
  have hr : Hid (r = matchS k p args tp ts b) := hr0
  have hhit : Hid (hit = r.isSome) := hhit0
  have hf : Hid (f = fillS k args b) := hf0
  have hfit : Hid (fit = f.isSome) := hfit0
  have hs : Hid (s = if f.isSome then p else ByteArray.empty) := hs0
  have hln : Hid (ln = (f.getD []).length) := hln0
  have hn' : Hid (n = args.length) := hn
  have hm' : Hid (m = ts.length) := hm
  have hq' : Hid (q = b.length) := hq
  have hgH : Hid ((∀ v ∈ ts, v.ok) ∧ tp.size ≤ 9223372036854775807 ∧ p.size ≤ 9223372036854775807) := ⟨hgt, htp9, hp9⟩
  have hin : Hid (Rw 3 T3.c w (.slice A1 n c1) args ∧ Rw 2 V2.c w (.slice tA m tc) ts ∧ Rw 3 T3.c w (.slice A3 q c3) b) := ⟨hy1, hy2, hy3⟩
  clear hn hm hq hy1 hy2 hy3 hr0 hhit0 hf0 hfit0 hs0 hln0 hgt hga2 hgb hp9 htp9
  obtain ⟨i50, hi50, hz0, hz1, hz2⟩ := info_parts inf50
  unfold flatC tup
  go_enter Try.func6, Try.ntmps6
  go_upto_region 1 with fail
  generalize hW : World.alloc _ _ = W
  have hW0 : W.heap[w.heap.size]? = some (.cells (flatC k p (.slice A1 n c1)) 24 (0, 0)) := by rw [← hW]; exact heap_alloc2_old w _ _
  have hW1 : W.heap[w.heap.size + 1]? = some (.cells (tup tp (.slice tA m tc)) 27 (0, 0)) := by rw [← hW]; exact heap_alloc2_new w _ _
  have hWB : Below w.heap.size w W := by rw [← hW]; exact ((Below.refl _ _).alloc (Nat.le_refl _) _).alloc (by simp) _
  clear hW
  obtain ⟨B, hBd⟩ : ∃ B, B = w.heap.size := ⟨_, rfl⟩
  rw [← hBd] at hW0 hW1 ⊢
  generalize hB1 : B + 1 = B1 at hW1 ⊢
  clear hB1 hBd
  have hC : Hid (CtxM w B B1 (flatC k p (.slice A1 n c1)) (tup tp (.slice tA m tc)) (.slice A1 n c1) (.slice tA m tc) (.slice A3 q c3) args ts b W) := ⟨hW0, hW1, hin.out.1.below hWB, hin.out.2.1.below hWB, hin.out.2.2.below hWB, hWB⟩
  clear hW0 hW1 hWB hin
  refine wp_region_lit ?_
  refine sl_call rfl 8 #[] (by kernel_rfl) (R := fun v w' => v = .bool true ∧ Below W.heap.size W w') ((fixed_calls W).mono fun e w' h => ⟨_, h.1, rfl, h.2⟩) ?_
  rintro _ w1 ⟨rfl, hb⟩
  simp only [Act.put, List.setIfInBounds_toArray, List.set_cons_zero, List.set_cons_succ]
  replace hC := (show Hid (CtxM w B B1 (flatC k p (.slice A1 n c1)) (tup tp (.slice tA m tc)) (.slice A1 n c1) (.slice tA m tc) (.slice A3 q c3) args ts b w1) from hC.out.below hb)
  clear hb
  refine sl_run rfl (.bool false) w1 (by kernel_rfl) ?_
  simp only [Act.put, List.setIfInBounds_toArray, List.set_cons_zero, List.set_cons_succ]
  refine wpList_nil ?_
  have c02 : w1.cell? ⟨B, 2, none⟩ = some (.slice A1 n c1) := by rw [cell_of_row _ _ _ _ _ _ hC.out.hf]; rfl
  by_cases h1 : 100 < n
  · have hI1 : (100 : Int) < (n : Int) := by omega
    go_wp2_with fail
    go_ret
    exact ⟨rfl, hC.out.hB⟩
  have hI1 : ¬ (100 : Int) < (n : Int) := by omega
  by_cases h3 : 100 < q
  · have hI3 : (100 : Int) < (q : Int) := by omega
    go_wp2_with fail
    go_ret
    exact ⟨rfl, hC.out.hB⟩
  have hI3 : ¬ (100 : Int) < (q : Int) := by omega
  have hn9 : n ≤ 1000000 := by omega
  have hq9 : q ≤ 100 := by omega
  have hn8 : Hid (n ≤ 100) := by show _ ≤ _; omega
  clear h3 h1
  go_upto_region 5 with fail
  refine wp_leaves (α := Option Addr × Nat × Nat × Option Addr × Nat × Value) (fun d a => ((((((((((((a.put (some 27) (.agg (flatC k p (.slice A1 n c1)))).put (some 28) (.agg (flatC k p (.slice d.1 n d.2.1)))).put (some 29) (.agg (tup tp (.slice tA m tc)))).put (some 30) (.slice (some ⟨d.2.2.1, 0, none⟩) 0 0)).put (some 31) (.slice A3 q c3)).put (some 32) (.slice d.2.2.2.1 q d.2.2.2.2.1)).put (some 33) (.tuple #[d.2.2.2.2.2, .bool hit])).put (some 26) (.tuple #[d.2.2.2.2.2, .bool hit])).put (some 34) (d.2.2.2.2.2)).put (some 35) (.bool hit)).put (some 7) (d.2.2.2.2.2)).put (some 8) (.bool hit)))
    (fun d w' => Rw 3 T3.c w' d.2.2.2.2.2 (r.getD []) ∧ Below w1.heap.size w1 w') ?_ ?_
  · refine wp_region_held_drew (S := fun w' => Below w1.heap.size w1 w') (by kernel_rfl) (Below.refl _ _).drew (fun hS => ?_)
    change wpAnyH _ _ _ _ _ 12 (Array.replicate 12 false) _ _
    generalize hx : w1.drew = v0 at hS
    clear hx
    refine held_take 0 rfl (by kernel_rfl) (by kernel_rfl) (by kernel_rfl) (.agg (flatC k p (.slice A1 n c1))) (fun _ _ _ h => nomatch h.1) (by kernel_rfl) (fun w' h => exec_load_row 24 w' _ rfl B (by kernel_rfl) 24 _ (0, 0) _ (heap_kept hC.out.hf h) Try.underlying24 rfl (by kernel_rfl)) hS ?_
    simp only [Act.put, List.setIfInBounds_toArray, List.set_cons_zero, List.set_cons_succ, List.getElem_toArray, List.getElem_cons_succ, List.getElem_cons_zero]
    refine held_take 2 rfl (by kernel_rfl) (by kernel_rfl) (by kernel_rfl) (.agg (tup tp (.slice tA m tc))) (fun _ _ _ h => nomatch h.1) (by kernel_rfl) (fun w' h => exec_load_row 27 w' _ rfl B1 (by kernel_rfl) 27 _ (0, 0) _ (heap_kept hC.out.ht h) Try.underlying27 rfl (by kernel_rfl)) hS ?_
    simp only [Act.put, List.setIfInBounds_toArray, List.set_cons_zero, List.set_cons_succ, List.getElem_toArray, List.getElem_cons_succ, List.getElem_cons_zero]
    refine held_take 4 rfl (by kernel_rfl) (by kernel_rfl) (by kernel_rfl) (.slice A3 q c3) (fun _ _ _ h => nomatch h.1) (by kernel_rfl) (fun _ _ => by kernel_rfl) hS ?_
    simp only [Act.put, List.setIfInBounds_toArray, List.set_cons_zero, List.set_cons_succ, List.getElem_toArray, List.getElem_cons_succ, List.getElem_cons_zero]
    refine held_both 1 3 rfl rfl (by kernel_rfl) (by kernel_rfl) (by kernel_rfl) (fun K hK => ?_) (fun K hK => ?_)
    · skip
      refine wp_enter 10 #[.agg (flatC k p (.slice A1 n c1))] (by kernel_rfl) (R := fun v w' => ∃ A2 c2, v = .agg (flatC k p (.slice A2 n c2)) ∧ w'.ownsRow v0.heap.size 48 3 (.slice A2 n c2) args.length (flat T3.c args) ∧ Below v0.heap.size v0 w') ((copyO_calls k p args A1 n c1 hn'.out hn9 v0 (hC.out.ha.below hS)).mono fun e w' h => by
          obtain ⟨A2, c2, h1, h2, h3⟩ := h
          exact ⟨_, h1, A2, c2, rfl, h2, h3⟩) ?_
      rintro _ v1 ⟨A2, c2, rfl, hcp, hb⟩
      replace hcp := own_mono hcp hS.size
      replace hS := hS.trans (hb.mono hS.size)
      clear hb
      refine hK _ _ hS ?_
      clear hK
      simp only [Act.put, List.setIfInBounds_toArray, List.set_cons_zero, List.set_cons_succ, List.getElem_toArray, List.getElem_cons_succ, List.getElem_cons_zero]
      refine held_one 3 rfl (by kernel_rfl) (by kernel_rfl) (fun K hK => ?_)
      refine wp_ran (.slice (some ⟨v1.heap.size, 0, none⟩) 0 0) (v1.alloc (.cells #[] 50)) (by kernel_rfl) ?_
      replace hcp := hcp.alloc (.cells #[] 50)
      have hmk : (v1.alloc (.cells #[] 50)).ownsRow w1.heap.size 50 3 (.slice (some ⟨v1.heap.size, 0, none⟩) 0 0) ([] : List T3).length (flat T3.c []) := World.ownsRow_made _ _ 0 hS.size (by decide) rfl
      replace hS := hS.alloc hS.size (.cells #[] 50)
      generalize v1.alloc _ = v2 at hS hmk hcp ⊢
      generalize v1.heap.size = g at hmk ⊢
      refine hK _ _ hS ?_
      clear hK
      simp only [Act.put, List.setIfInBounds_toArray, List.set_cons_zero, List.set_cons_succ, List.getElem_toArray, List.getElem_cons_succ, List.getElem_cons_zero]
      refine held_one 5 rfl (by kernel_rfl) (by kernel_rfl) (fun K hK => ?_)
      refine wp_appendRw 28 50 40 i50 z3 Try.underlying28 hi50 hz0 hz1 hz2 rfl (by decide) t3_size t3_ones _ _ rfl w1.heap.size _ [] b (by kernel_rfl) hmk _ (by kernel_rfl) ((hC.out.hb).below hS) (by have := hq'.out; simp; omega) (by have := hq'.out; simp; omega) hS.size ?_
      intro v6 v3 hap hgr
      rw [List.nil_append] at hap
      obtain ⟨A6, c6, rfl⟩ := own_formq hap hq'.out
      replace hcp := own_keep hcp (fun q hq => hgr.block q (hcp.lt q hq).2 (own_other hmk hcp (by decide) q hq))
      replace hS := Below.grown hS hgr hS.size (fun q hq => (hmk.lt q hq).1)
      clear hgr hmk
      refine hK _ _ hS ?_
      clear hK
      simp only [Act.put, List.setIfInBounds_toArray, List.set_cons_zero, List.set_cons_succ, List.getElem_toArray, List.getElem_cons_succ, List.getElem_cons_zero]
      refine held_one 6 rfl (by kernel_rfl) (by kernel_rfl) (fun K hK => ?_)
      refine wp_enter 9 #[.agg (flatC k p (.slice A2 n c2)), .agg (tup tp (.slice tA m tc)), .slice A6 q c6] (by kernel_rfl) (R := fun v w' => ∃ lv, v = .tuple #[lv, .bool hit] ∧ Rw 3 T3.c w' lv (r.getD []) ∧ Below v3.heap.size v3 w') ((match_calls k p tp args b ts A2 tA A6 n m q c2 tc c6 hn'.out hm'.out hq'.out hn9 (by have := hq'.out; have := hq'.out; omega) v3 (by rw [hn'.out]; rw [hn'.out] at hcp; exact Rw.own t3_size (by decide) hcp) (hC.out.hv.below hS) (by rw [hq'.out]; rw [hq'.out] at hap; exact Rw.own t3_size (by decide) hap)).mono fun e w' h => by
          rw [← hr.out] at h
          obtain ⟨lv, h1, h2, h3⟩ := h
          exact ⟨_, h1, lv, by rw [hhit.out], h2, h3⟩) ?_
      rintro _ v3z ⟨lv, rfl, hlv, hb⟩
      replace hS := hS.trans (hb.mono hS.size)
      refine hK _ _ hS ?_
      clear hK
      simp only [Act.put, List.setIfInBounds_toArray, List.set_cons_zero, List.set_cons_succ, List.getElem_toArray, List.getElem_cons_succ, List.getElem_cons_zero]
      refine held_take 7 rfl (by kernel_rfl) (by kernel_rfl) (by kernel_rfl) (.tuple #[lv, .bool hit]) (fun _ _ _ h => nomatch h.1) (by kernel_rfl) (fun _ _ => by kernel_rfl) hS ?_
      simp only [Act.put, List.setIfInBounds_toArray, List.set_cons_zero, List.set_cons_succ, List.getElem_toArray, List.getElem_cons_succ, List.getElem_cons_zero]
      refine held_take 8 rfl (by kernel_rfl) (by kernel_rfl) (by kernel_rfl) (lv) (fun _ _ _ h => nomatch h.1) (by kernel_rfl) (fun _ _ => by kernel_rfl) hS ?_
      simp only [Act.put, List.setIfInBounds_toArray, List.set_cons_zero, List.set_cons_succ, List.getElem_toArray, List.getElem_cons_succ, List.getElem_cons_zero]
      refine held_take 9 rfl (by kernel_rfl) (by kernel_rfl) (by kernel_rfl) (.bool hit) (fun _ _ _ h => nomatch h.1) (by kernel_rfl) (fun _ _ => by kernel_rfl) hS ?_
      simp only [Act.put, List.setIfInBounds_toArray, List.set_cons_zero, List.set_cons_succ, List.getElem_toArray, List.getElem_cons_succ, List.getElem_cons_zero]
      refine held_take 10 rfl (by kernel_rfl) (by kernel_rfl) (by kernel_rfl) (lv) (fun _ _ _ h => nomatch h.1) (by kernel_rfl) (fun _ _ => by kernel_rfl) hS ?_
      simp only [Act.put, List.setIfInBounds_toArray, List.set_cons_zero, List.set_cons_succ, List.getElem_toArray, List.getElem_cons_succ, List.getElem_cons_zero]
      refine held_take 11 rfl (by kernel_rfl) (by kernel_rfl) (by kernel_rfl) (.bool hit) (fun _ _ _ h => nomatch h.1) (by kernel_rfl) (fun _ _ => by kernel_rfl) hS ?_
      simp only [Act.put, List.setIfInBounds_toArray, List.set_cons_zero, List.set_cons_succ, List.getElem_toArray, List.getElem_cons_succ, List.getElem_cons_zero]
      refine wpAnyH_done (by kernel_rfl) ?_ _
      exact ⟨rfl, (A2, c2, g, A6, c6, lv), by kernel_rfl, hlv, hS⟩
    · skip
      refine wp_ran (.slice (some ⟨v0.heap.size, 0, none⟩) 0 0) (v0.alloc (.cells #[] 50)) (by kernel_rfl) ?_
      have hmk : (v0.alloc (.cells #[] 50)).ownsRow w1.heap.size 50 3 (.slice (some ⟨v0.heap.size, 0, none⟩) 0 0) ([] : List T3).length (flat T3.c []) := World.ownsRow_made _ _ 0 hS.size (by decide) rfl
      replace hS := hS.alloc hS.size (.cells #[] 50)
      generalize v0.alloc _ = v1 at hS hmk ⊢
      generalize v0.heap.size = g at hmk ⊢
      refine hK _ _ hS ?_
      clear hK
      simp only [Act.put, List.setIfInBounds_toArray, List.set_cons_zero, List.set_cons_succ, List.getElem_toArray, List.getElem_cons_succ, List.getElem_cons_zero]
      refine held_one 1 rfl (by kernel_rfl) (by kernel_rfl) (fun K hK => ?_)
      refine wp_enter 10 #[.agg (flatC k p (.slice A1 n c1))] (by kernel_rfl) (R := fun v w' => ∃ A2 c2, v = .agg (flatC k p (.slice A2 n c2)) ∧ w'.ownsRow v1.heap.size 48 3 (.slice A2 n c2) args.length (flat T3.c args) ∧ Below v1.heap.size v1 w') ((copyO_calls k p args A1 n c1 hn'.out hn9 v1 (hC.out.ha.below hS)).mono fun e w' h => by
          obtain ⟨A2, c2, h1, h2, h3⟩ := h
          exact ⟨_, h1, A2, c2, rfl, h2, h3⟩) ?_
      rintro _ v2 ⟨A2, c2, rfl, hcp, hb⟩
      replace hcp := own_mono hcp hS.size
      replace hmk := own_keep hmk (fun q hq => hb.block q (hmk.lt q hq).2)
      replace hS := hS.trans (hb.mono hS.size)
      clear hb
      refine hK _ _ hS ?_
      clear hK
      simp only [Act.put, List.setIfInBounds_toArray, List.set_cons_zero, List.set_cons_succ, List.getElem_toArray, List.getElem_cons_succ, List.getElem_cons_zero]
      refine held_one 5 rfl (by kernel_rfl) (by kernel_rfl) (fun K hK => ?_)
      refine wp_appendRw 28 50 40 i50 z3 Try.underlying28 hi50 hz0 hz1 hz2 rfl (by decide) t3_size t3_ones _ _ rfl w1.heap.size _ [] b (by kernel_rfl) hmk _ (by kernel_rfl) ((hC.out.hb).below hS) (by have := hq'.out; simp; omega) (by have := hq'.out; simp; omega) hS.size ?_
      intro v6 v3 hap hgr
      rw [List.nil_append] at hap
      obtain ⟨A6, c6, rfl⟩ := own_formq hap hq'.out
      replace hcp := own_keep hcp (fun q hq => hgr.block q (hcp.lt q hq).2 (own_other hmk hcp (by decide) q hq))
      replace hS := Below.grown hS hgr hS.size (fun q hq => (hmk.lt q hq).1)
      clear hgr hmk
      refine hK _ _ hS ?_
      clear hK
      simp only [Act.put, List.setIfInBounds_toArray, List.set_cons_zero, List.set_cons_succ, List.getElem_toArray, List.getElem_cons_succ, List.getElem_cons_zero]
      refine held_one 6 rfl (by kernel_rfl) (by kernel_rfl) (fun K hK => ?_)
      refine wp_enter 9 #[.agg (flatC k p (.slice A2 n c2)), .agg (tup tp (.slice tA m tc)), .slice A6 q c6] (by kernel_rfl) (R := fun v w' => ∃ lv, v = .tuple #[lv, .bool hit] ∧ Rw 3 T3.c w' lv (r.getD []) ∧ Below v3.heap.size v3 w') ((match_calls k p tp args b ts A2 tA A6 n m q c2 tc c6 hn'.out hm'.out hq'.out hn9 (by have := hq'.out; have := hq'.out; omega) v3 (by rw [hn'.out]; rw [hn'.out] at hcp; exact Rw.own t3_size (by decide) hcp) (hC.out.hv.below hS) (by rw [hq'.out]; rw [hq'.out] at hap; exact Rw.own t3_size (by decide) hap)).mono fun e w' h => by
          rw [← hr.out] at h
          obtain ⟨lv, h1, h2, h3⟩ := h
          exact ⟨_, h1, lv, by rw [hhit.out], h2, h3⟩) ?_
      rintro _ v3z ⟨lv, rfl, hlv, hb⟩
      replace hS := hS.trans (hb.mono hS.size)
      refine hK _ _ hS ?_
      clear hK
      simp only [Act.put, List.setIfInBounds_toArray, List.set_cons_zero, List.set_cons_succ, List.getElem_toArray, List.getElem_cons_succ, List.getElem_cons_zero]
      refine held_take 7 rfl (by kernel_rfl) (by kernel_rfl) (by kernel_rfl) (.tuple #[lv, .bool hit]) (fun _ _ _ h => nomatch h.1) (by kernel_rfl) (fun _ _ => by kernel_rfl) hS ?_
      simp only [Act.put, List.setIfInBounds_toArray, List.set_cons_zero, List.set_cons_succ, List.getElem_toArray, List.getElem_cons_succ, List.getElem_cons_zero]
      refine held_take 8 rfl (by kernel_rfl) (by kernel_rfl) (by kernel_rfl) (lv) (fun _ _ _ h => nomatch h.1) (by kernel_rfl) (fun _ _ => by kernel_rfl) hS ?_
      simp only [Act.put, List.setIfInBounds_toArray, List.set_cons_zero, List.set_cons_succ, List.getElem_toArray, List.getElem_cons_succ, List.getElem_cons_zero]
      refine held_take 9 rfl (by kernel_rfl) (by kernel_rfl) (by kernel_rfl) (.bool hit) (fun _ _ _ h => nomatch h.1) (by kernel_rfl) (fun _ _ => by kernel_rfl) hS ?_
      simp only [Act.put, List.setIfInBounds_toArray, List.set_cons_zero, List.set_cons_succ, List.getElem_toArray, List.getElem_cons_succ, List.getElem_cons_zero]
      refine held_take 10 rfl (by kernel_rfl) (by kernel_rfl) (by kernel_rfl) (lv) (fun _ _ _ h => nomatch h.1) (by kernel_rfl) (fun _ _ => by kernel_rfl) hS ?_
      simp only [Act.put, List.setIfInBounds_toArray, List.set_cons_zero, List.set_cons_succ, List.getElem_toArray, List.getElem_cons_succ, List.getElem_cons_zero]
      refine held_take 11 rfl (by kernel_rfl) (by kernel_rfl) (by kernel_rfl) (.bool hit) (fun _ _ _ h => nomatch h.1) (by kernel_rfl) (fun _ _ => by kernel_rfl) hS ?_
      simp only [Act.put, List.setIfInBounds_toArray, List.set_cons_zero, List.set_cons_succ, List.getElem_toArray, List.getElem_cons_succ, List.getElem_cons_zero]
      refine wpAnyH_done (by kernel_rfl) ?_ _
      exact ⟨rfl, (A2, c2, g, A6, c6, lv), by kernel_rfl, hlv, hS⟩
  · rintro ⟨A2, c2, g, A6, c6, lv⟩ w2 ⟨hlv, hb⟩
    rename_i hK
    refine hK _ _ ?_
    simp only [Act.put, List.setIfInBounds_toArray, List.set_cons_zero, List.set_cons_succ]
    have hl : Hid (Rw 3 T3.c w2 lv (r.getD [])) := hlv
    clear hlv
    replace hC := (show Hid (CtxM w B B1 (flatC k p (.slice A1 n c1)) (tup tp (.slice tA m tc)) (.slice A1 n c1) (.slice tA m tc) (.slice A3 q c3) args ts b w2) from hC.out.below hb)
    clear hb
    go_upto_region 6 with fail
    refine wp_region_lit ?_
    refine sl_run rfl (.agg (flatC k p (.slice A1 n c1))) w2 (exec_load_row 24 w2 _ rfl B (by kernel_rfl) 24 _ (0, 0) _ hC.out.hf Try.underlying24 rfl (by kernel_rfl)) ?_
    simp only [Act.put, List.setIfInBounds_toArray, List.set_cons_zero, List.set_cons_succ]
    refine sl_call rfl 10 #[.agg (flatC k p (.slice A1 n c1))] (by kernel_rfl) (R := fun v w' => ∃ A2 c2, v = .agg (flatC k p (.slice A2 n c2)) ∧ Rw 3 T3.c w' (.slice A2 n c2) args ∧ Below w2.heap.size w2 w') ((copy_calls k p args A1 n c1 hn'.out hn9 w2 hC.out.ha).mono fun e w' h => by
        obtain ⟨A2, c2, h1, h2, h3⟩ := h
        exact ⟨_, h1, A2, c2, rfl, h2, h3⟩) ?_
    rintro _ w3 ⟨A2, c2, rfl, hcp0, hb⟩
    simp only [Act.put, List.setIfInBounds_toArray, List.set_cons_zero, List.set_cons_succ]
    have hcp : Hid (Rw 3 T3.c w3 (.slice A2 n c2) args) := hcp0
    clear hcp0
    replace hC := (show Hid (CtxM w B B1 (flatC k p (.slice A1 n c1)) (tup tp (.slice tA m tc)) (.slice A1 n c1) (.slice tA m tc) (.slice A3 q c3) args ts b w3) from hC.out.below hb)
    replace hl := (show Hid (Rw 3 T3.c w3 (lv) (r.getD [])) from hl.out.below hb)
    clear hb
    refine sl_run rfl (.slice (some ⟨w3.heap.size, 0, none⟩) 0 0) (w3.alloc (.cells #[] 50)) (by kernel_rfl) ?_
    simp only [Act.put, List.setIfInBounds_toArray, List.set_cons_zero, List.set_cons_succ]
    refine sl_run rfl (.slice A3 q c3) (w3.alloc (.cells #[] 50)) (by kernel_rfl) ?_
    simp only [Act.put, List.setIfInBounds_toArray, List.set_cons_zero, List.set_cons_succ]
    have hmk : (w3.alloc (.cells #[] 50)).ownsRow w3.heap.size 50 3 (.slice (some ⟨w3.heap.size, 0, none⟩) 0 0) ([] : List T3).length (flat T3.c []) := World.ownsRow_made _ _ 0 (Nat.le_refl _) (by decide) rfl
    have hb0 : Below w3.heap.size w3 (w3.alloc (.cells #[] 50)) := (Below.refl _ _).alloc (Nat.le_refl _) _
    refine appendRw 28 50 40 i50 z3 Try.underlying28 hi50 hz0 hz1 hz2 rfl (by decide) t3_size t3_ones rfl _ _ rfl w3.heap.size _ [] b (by kernel_rfl) hmk _ (by kernel_rfl) ((hC.out.hb).below hb0) (by have := hq'.out; simp; omega) (by have := hq'.out; simp; omega) hb0.size ?_
    intro v6 w4 hap0 hgr
    rw [List.nil_append] at hap0
    obtain ⟨A6, c6, rfl⟩ := own_formq hap0 hq'.out
    have hb : Below w3.heap.size w3 w4 := Below.grown hb0 hgr hb0.size (fun q hq => (hmk.lt q hq).1)
    have hap : Hid (Rw 3 T3.c w4 (.slice A6 q c6) b) := by
      show Rw 3 T3.c w4 (.slice A6 q c6) b
      exact Rw.own t3_size (by decide) hap0
    clear hap0 hgr hmk hb0
    simp only [Act.put, List.setIfInBounds_toArray, List.set_cons_zero, List.set_cons_succ]
    replace hC := (show Hid (CtxM w B B1 (flatC k p (.slice A1 n c1)) (tup tp (.slice tA m tc)) (.slice A1 n c1) (.slice tA m tc) (.slice A3 q c3) args ts b w4) from hC.out.below hb)
    replace hl := (show Hid (Rw 3 T3.c w4 (lv) (r.getD [])) from hl.out.below hb)
    replace hcp := (show Hid (Rw 3 T3.c w4 (.slice A2 n c2) (args)) from hcp.out.below hb)
    clear hb
    refine sl_call rfl 13 #[.agg (flatC k p (.slice A2 n c2)), .slice A6 q c6] (by kernel_rfl) (R := fun v w' => ∃ lv, v = .tuple #[.agg (tup s lv), .bool fit] ∧ Rw 2 V2.c w' lv (f.getD []) ∧ Below w4.heap.size w4 w') ((fill_calls k p args b A2 A6 n q c2 c6 hn'.out hq'.out hn9 (by omega) w4 hcp.out hap.out).mono fun e w' h => by
        rw [← hf.out] at h
        obtain ⟨lv, h1, h2, h3⟩ := h
        exact ⟨_, h1, lv, by rw [hs.out, hfit.out]; rfl, h2, h3⟩) ?_
    rintro _ w5 ⟨lv0, rfl, hlv, hb⟩
    obtain ⟨lxA, lxc, rfl⟩ : ∃ A c, lv0 = .slice A ln c := by
      obtain ⟨A, c, h⟩ := hlv.form
      exact ⟨A, c, by rw [h, hln.out]⟩
    simp only [Act.put, List.setIfInBounds_toArray, List.set_cons_zero, List.set_cons_succ]
    have hlx : Hid (Rw 2 V2.c w5 (.slice lxA ln lxc) (f.getD [])) := hlv
    clear hlv
    replace hC := (show Hid (CtxM w B B1 (flatC k p (.slice A1 n c1)) (tup tp (.slice tA m tc)) (.slice A1 n c1) (.slice tA m tc) (.slice A3 q c3) args ts b w5) from hC.out.below hb)
    replace hl := (show Hid (Rw 3 T3.c w5 (lv) (r.getD [])) from hl.out.below hb)
    replace hcp := (show Hid (Rw 3 T3.c w5 (.slice A2 n c2) (args)) from hcp.out.below hb)
    replace hap := (show Hid (Rw 3 T3.c w5 (.slice A6 q c6) (b)) from hap.out.below hb)
    clear hb
    refine sl_run rfl (.tuple #[.agg (tup s (.slice lxA ln lxc)), .bool fit]) w5 (by kernel_rfl) ?_
    simp only [Act.put, List.setIfInBounds_toArray, List.set_cons_zero, List.set_cons_succ]
    refine sl_run rfl (.agg (tup s (.slice lxA ln lxc))) w5 (by kernel_rfl) ?_
    simp only [Act.put, List.setIfInBounds_toArray, List.set_cons_zero, List.set_cons_succ]
    refine sl_run rfl (.bool fit) w5 (by kernel_rfl) ?_
    simp only [Act.put, List.setIfInBounds_toArray, List.set_cons_zero, List.set_cons_succ]
    refine sl_run rfl (.pointer (some ⟨w5.heap.size, 0, none⟩)) (w5.alloc (.cells (tup ByteArray.empty (.slice none 0 0)) 27)) (by kernel_rfl) ?_
    simp only [Act.put, List.setIfInBounds_toArray, List.set_cons_zero, List.set_cons_succ]
    refine wpList_store_row rfl 27 _ _ rfl w5.heap.size (tup s (.slice lxA ln lxc)) (by kernel_rfl) (by kernel_rfl) 27 _ (heap_alloc_new _ _) (by kernel_rfl) (by kernel_rfl) (tup_one _ _ _ _) ?_
    simp only [Act.put, List.setIfInBounds_toArray, List.set_cons_zero, List.set_cons_succ]
    rw [World.setRow_alloc_new]
    have hn0 : (w5.alloc (.cells (tup s (.slice lxA ln lxc)) 27)).heap[w5.heap.size]? = some (.cells (tup s (.slice lxA ln lxc)) 27 (0, 0)) := heap_alloc_new _ _
    have hb : Below w5.heap.size w5 (w5.alloc (.cells (tup s (.slice lxA ln lxc)) 27)) := (Below.refl _ _).alloc (Nat.le_refl _) _
    obtain ⟨T9, hg0⟩ : ∃ g, g = w5.heap.size := ⟨_, rfl⟩
    rw [← hg0] at hn0 ⊢
    generalize w5.alloc _ = w6 at hn0 hb ⊢
    have h9 : Hid (w6.heap[T9]? = some (.cells (tup s (.slice lxA ln lxc)) 27 (0, 0))) := hn0
    clear hn0 hg0
    replace hC := (show Hid (CtxM w B B1 (flatC k p (.slice A1 n c1)) (tup tp (.slice tA m tc)) (.slice A1 n c1) (.slice tA m tc) (.slice A3 q c3) args ts b w6) from hC.out.below hb)
    replace hl := (show Hid (Rw 3 T3.c w6 (lv) (r.getD [])) from hl.out.below hb)
    replace hcp := (show Hid (Rw 3 T3.c w6 (.slice A2 n c2) (args)) from hcp.out.below hb)
    replace hap := (show Hid (Rw 3 T3.c w6 (.slice A6 q c6) (b)) from hap.out.below hb)
    replace hlx := (show Hid (Rw 2 V2.c w6 (.slice lxA ln lxc) (f.getD [])) from hlx.out.below hb)
    clear hb
    refine sl_run rfl (.bool fit) w6 (by kernel_rfl) ?_
    simp only [Act.put, List.setIfInBounds_toArray, List.set_cons_zero, List.set_cons_succ]
    refine wpList_nil ?_
    clear hcp hap
    cases hit with
    | false =>
      have hrn : Hid (matchS k p args tp ts b = none) := by show _ = _; rw [← hr.out]; exact Option.not_isSome_iff_eq_none.1 (by rw [← hhit.out]; decide)
      clear hl
      cases fit with
      | false =>
        go_upto_region 8 with fail
        refine wp_region_lit ?_
        refine sl_run rfl (.bool false) w6 (by kernel_rfl) ?_
        simp only [Act.put, List.setIfInBounds_toArray, List.set_cons_zero, List.set_cons_succ]
        refine sl_run rfl (.bool true) w6 (by kernel_rfl) ?_
        simp only [Act.put, List.setIfInBounds_toArray, List.set_cons_zero, List.set_cons_succ]
        refine sl_run rfl (.bool true) w6 (by kernel_rfl) ?_
        simp only [Act.put, List.setIfInBounds_toArray, List.set_cons_zero, List.set_cons_succ]
        refine wpList_skip (by kernel_rfl) ?_
        simp only [Act.put, List.setIfInBounds_toArray, List.set_cons_zero, List.set_cons_succ]
        refine wpList_skip (by kernel_rfl) ?_
        simp only [Act.put, List.setIfInBounds_toArray, List.set_cons_zero, List.set_cons_succ]
        refine wpList_skip (by kernel_rfl) ?_
        simp only [Act.put, List.setIfInBounds_toArray, List.set_cons_zero, List.set_cons_succ]
        refine wpList_skip (by kernel_rfl) ?_
        simp only [Act.put, List.setIfInBounds_toArray, List.set_cons_zero, List.set_cons_succ]
        refine sl_run rfl (.bool true) w6 (by kernel_rfl) ?_
        simp only [Act.put, List.setIfInBounds_toArray, List.set_cons_zero, List.set_cons_succ]
        refine sl_run rfl (.bool true) w6 (by kernel_rfl) ?_
        simp only [Act.put, List.setIfInBounds_toArray, List.set_cons_zero, List.set_cons_succ]
        refine wpList_nil ?_
        clear hlx h9
        go_wp2_with fail
        go_ret
        exact ⟨rfl, hC.out.hB⟩
      | true =>
        have hdd : Hid (decide (tp = s ∧ ts = f.getD []) = false) := by
          show _ = _
          obtain ⟨vs, hvs⟩ := Option.isSome_iff_exists.1 hfit.out.symm
          have h5 := back_none hrn.out (hf.out.symm.trans hvs)
          have h6 : s = p := by rw [hs.out, ← hfit.out]; rfl
          rw [h6, hvs]
          exact decide_eq_false h5
        go_upto_region 8 with fail
        refine wp_region_lit ?_
        refine sl_run rfl (.bool true) w6 (by kernel_rfl) ?_
        simp only [Act.put, List.setIfInBounds_toArray, List.set_cons_zero, List.set_cons_succ]
        refine sl_run rfl (.bool false) w6 (by kernel_rfl) ?_
        simp only [Act.put, List.setIfInBounds_toArray, List.set_cons_zero, List.set_cons_succ]
        refine sl_run rfl (.bool false) w6 (by kernel_rfl) ?_
        simp only [Act.put, List.setIfInBounds_toArray, List.set_cons_zero, List.set_cons_succ]
        refine sg_run (by kernel_rfl) (.agg (tup tp (.slice tA m tc))) w6 (exec_load_row 27 w6 _ rfl B1 (by kernel_rfl) 27 _ (0, 0) _ hC.out.ht Try.underlying27 rfl (by kernel_rfl)) ?_
        simp only [Act.put, List.setIfInBounds_toArray, List.set_cons_zero, List.set_cons_succ]
        refine sg_run (by kernel_rfl) (.agg (tup s (.slice lxA ln lxc))) w6 (exec_load_row 27 w6 _ rfl T9 (by kernel_rfl) 27 _ (0, 0) _ h9.out Try.underlying27 rfl (by kernel_rfl)) ?_
        simp only [Act.put, List.setIfInBounds_toArray, List.set_cons_zero, List.set_cons_succ]
        refine sg_call (by kernel_rfl) 17 #[.agg (tup tp (.slice tA m tc)), .agg (tup s (.slice lxA ln lxc))] (by kernel_rfl) (R := fun v w' => v = .bool false ∧ Below w6.heap.size w6 w') ((sameG_calls tp s ts (f.getD []) tA lxA m ln tc lxc hgH.out.2.1 hs9.out hgH.out.1 hfok.out.1 hm'.out hln.out (by have := hfok.out.2; have := hln.out; have := hn'.out; omega) w6 hC.out.hv hlx.out).mono fun e w' h => ⟨_, h.1, by rw [hdd.out], h.2⟩) ?_
        rintro _ w7 ⟨rfl, hb⟩
        simp only [Act.put, List.setIfInBounds_toArray, List.set_cons_zero, List.set_cons_succ]
        replace hC := (show Hid (CtxM w B B1 (flatC k p (.slice A1 n c1)) (tup tp (.slice tA m tc)) (.slice A1 n c1) (.slice tA m tc) (.slice A3 q c3) args ts b w7) from hC.out.below hb)
        replace hlx := (show Hid (Rw 2 V2.c w7 (.slice lxA ln lxc) (f.getD [])) from hlx.out.below hb)
        replace h9 := (show Hid (w7.heap[T9]? = some (.cells (tup s (.slice lxA ln lxc)) 27 (0, 0))) from heap_kept h9.out hb)
        clear hb
        refine sg_run (by kernel_rfl) (.bool true) w7 (by kernel_rfl) ?_
        simp only [Act.put, List.setIfInBounds_toArray, List.set_cons_zero, List.set_cons_succ]
        refine sl_run rfl (.bool true) w7 (by kernel_rfl) ?_
        simp only [Act.put, List.setIfInBounds_toArray, List.set_cons_zero, List.set_cons_succ]
        refine sl_run rfl (.bool true) w7 (by kernel_rfl) ?_
        simp only [Act.put, List.setIfInBounds_toArray, List.set_cons_zero, List.set_cons_succ]
        refine wpList_nil ?_
        clear hlx h9 hdd
        go_wp2_with fail
        go_ret
        exact ⟨rfl, hC.out.hB⟩
    | true =>
      obtain ⟨l, hl5⟩ : ∃ l, matchS k p args tp ts b = some l := by
        obtain ⟨l, h⟩ := Option.isSome_iff_exists.1 hhit.out.symm
        exact ⟨l, hr.out.symm.trans h⟩
      obtain ⟨hb1, hb2, hb3, hb4, ⟨ext, hb5⟩, hb6⟩ := back_some hl5
      have hrl : r.getD [] = l := by rw [hr.out, hl5]; rfl
      rw [hrl] at hl
      obtain ⟨L, hL⟩ : ∃ L, L = l.length := ⟨_, rfl⟩
      obtain ⟨lA, lc, rfl⟩ : ∃ A c, lv = .slice A L c := by
        obtain ⟨A, c, h⟩ := hl.out.form
        exact ⟨A, c, by rw [h, hL]⟩
      have hL' : Hid (L = l.length) := hL
      have hpt : Hid (p = tp) := hb1
      have hmn : Hid (m = n) := by show _ = _; rw [hm'.out, hn'.out, hb2]
      have hfl : Hid (fillS k args l = some ts) := hb3
      obtain ⟨r2, hr20⟩ : ∃ r2, r2 = matchS k p args tp ts l := ⟨_, rfl⟩
      have hr2 : Hid (r2 = matchS k p args tp ts l) := hr20
      have hr2l : Hid (r2 = some l) := hr20.trans hb4
      have hhit2 : Hid (true = r2.isSome) := by show _ = _; rw [hr2l.out]; rfl
      have htk : Hid (l.take q = b) := by show _ = _; rw [hb5, hq'.out, List.take_left]
      have hqL : q ≤ L := by rw [hL, hb5, hq'.out, List.length_append]; omega
      have hLn : L ≤ q + n := by rw [hL, hq'.out, hn'.out]; exact hb6
      have hL9 : L ≤ 200 := by have := hn8.out; omega
      have hlo : Hid (¬ ((L : Int) < (q : Int))) := by show ¬ _; omega
      have hhi : Hid (¬ ((q : Int) + (n : Int) < (L : Int))) := by show ¬ _; omega
      clear hL hb1 hb2 hb3 hb4 hb5 hb6 hr20 hl5 hrl hr hhit
      clear hlx h9
      go_upto_region 9 with fail
      refine wp_region_lit ?_
      refine sl_run rfl (.agg (flatC k p (.slice A1 n c1))) w6 (exec_load_row 24 w6 _ rfl B (by kernel_rfl) 24 _ (0, 0) _ hC.out.hf Try.underlying24 rfl (by kernel_rfl)) ?_
      simp only [Act.put, List.setIfInBounds_toArray, List.set_cons_zero, List.set_cons_succ]
      refine sl_call rfl 10 #[.agg (flatC k p (.slice A1 n c1))] (by kernel_rfl) (R := fun v w' => ∃ A2 c2, v = .agg (flatC k p (.slice A2 n c2)) ∧ Rw 3 T3.c w' (.slice A2 n c2) args ∧ Below w6.heap.size w6 w') ((copy_calls k p args A1 n c1 hn'.out hn9 w6 hC.out.ha).mono fun e w' h => by
          obtain ⟨A2, c2, h1, h2, h3⟩ := h
          exact ⟨_, h1, A2, c2, rfl, h2, h3⟩) ?_
      rintro _ w7 ⟨A2, c2, rfl, hcp0, hb⟩
      simp only [Act.put, List.setIfInBounds_toArray, List.set_cons_zero, List.set_cons_succ]
      have hcp : Hid (Rw 3 T3.c w7 (.slice A2 n c2) args) := hcp0
      clear hcp0
      replace hC := (show Hid (CtxM w B B1 (flatC k p (.slice A1 n c1)) (tup tp (.slice tA m tc)) (.slice A1 n c1) (.slice tA m tc) (.slice A3 q c3) args ts b w7) from hC.out.below hb)
      replace hl := (show Hid (Rw 3 T3.c w7 (.slice lA L lc) (l)) from hl.out.below hb)
      clear hb
      refine sl_run rfl (.slice lA L lc) w7 (by kernel_rfl) ?_
      simp only [Act.put, List.setIfInBounds_toArray, List.set_cons_zero, List.set_cons_succ]
      refine sl_call rfl 13 #[.agg (flatC k p (.slice A2 n c2)), .slice lA L lc] (by kernel_rfl) (R := fun v w' => ∃ lv, v = .tuple #[.agg (tup p lv), .bool true] ∧ Rw 2 V2.c w' lv (ts) ∧ Below w7.heap.size w7 w') ((fill_calls k p args l A2 lA n L c2 lc hn'.out hL'.out hn9 (by omega) w7 hcp.out hl.out).mono fun e w' h => by
          rw [hfl.out] at h
          obtain ⟨lv, h1, h2, h3⟩ := h
          exact ⟨_, h1, lv, by rfl, h2, h3⟩) ?_
      rintro _ w8 ⟨lv0, rfl, hlv, hb⟩
      obtain ⟨lyA, lyc, rfl⟩ : ∃ A c, lv0 = .slice A m c := by
        obtain ⟨A, c, h⟩ := hlv.form
        exact ⟨A, c, by rw [h, hm'.out]⟩
      simp only [Act.put, List.setIfInBounds_toArray, List.set_cons_zero, List.set_cons_succ]
      have hly : Hid (Rw 2 V2.c w8 (.slice lyA m lyc) (ts)) := hlv
      clear hlv
      replace hC := (show Hid (CtxM w B B1 (flatC k p (.slice A1 n c1)) (tup tp (.slice tA m tc)) (.slice A1 n c1) (.slice tA m tc) (.slice A3 q c3) args ts b w8) from hC.out.below hb)
      replace hl := (show Hid (Rw 3 T3.c w8 (.slice lA L lc) (l)) from hl.out.below hb)
      replace hcp := (show Hid (Rw 3 T3.c w8 (.slice A2 n c2) (args)) from hcp.out.below hb)
      clear hb
      refine sl_run rfl (.tuple #[.agg (tup p (.slice lyA m lyc)), .bool true]) w8 (by kernel_rfl) ?_
      simp only [Act.put, List.setIfInBounds_toArray, List.set_cons_zero, List.set_cons_succ]
      refine sl_run rfl (.agg (tup p (.slice lyA m lyc))) w8 (by kernel_rfl) ?_
      simp only [Act.put, List.setIfInBounds_toArray, List.set_cons_zero, List.set_cons_succ]
      refine sl_run rfl (.bool true) w8 (by kernel_rfl) ?_
      simp only [Act.put, List.setIfInBounds_toArray, List.set_cons_zero, List.set_cons_succ]
      refine sl_run rfl (.pointer (some ⟨w8.heap.size, 0, none⟩)) (w8.alloc (.cells (tup ByteArray.empty (.slice none 0 0)) 27)) (by kernel_rfl) ?_
      simp only [Act.put, List.setIfInBounds_toArray, List.set_cons_zero, List.set_cons_succ]
      refine wpList_store_row rfl 27 _ _ rfl w8.heap.size (tup p (.slice lyA m lyc)) (by kernel_rfl) (by kernel_rfl) 27 _ (heap_alloc_new _ _) (by kernel_rfl) (by kernel_rfl) (tup_one _ _ _ _) ?_
      simp only [Act.put, List.setIfInBounds_toArray, List.set_cons_zero, List.set_cons_succ]
      rw [World.setRow_alloc_new]
      have hn0 : (w8.alloc (.cells (tup p (.slice lyA m lyc)) 27)).heap[w8.heap.size]? = some (.cells (tup p (.slice lyA m lyc)) 27 (0, 0)) := heap_alloc_new _ _
      have hb : Below w8.heap.size w8 (w8.alloc (.cells (tup p (.slice lyA m lyc)) 27)) := (Below.refl _ _).alloc (Nat.le_refl _) _
      obtain ⟨T11, hg0⟩ : ∃ g, g = w8.heap.size := ⟨_, rfl⟩
      rw [← hg0] at hn0 ⊢
      generalize w8.alloc _ = w9 at hn0 hb ⊢
      have h11 : Hid (w9.heap[T11]? = some (.cells (tup p (.slice lyA m lyc)) 27 (0, 0))) := hn0
      clear hn0 hg0
      replace hC := (show Hid (CtxM w B B1 (flatC k p (.slice A1 n c1)) (tup tp (.slice tA m tc)) (.slice A1 n c1) (.slice tA m tc) (.slice A3 q c3) args ts b w9) from hC.out.below hb)
      replace hl := (show Hid (Rw 3 T3.c w9 (.slice lA L lc) (l)) from hl.out.below hb)
      replace hcp := (show Hid (Rw 3 T3.c w9 (.slice A2 n c2) (args)) from hcp.out.below hb)
      replace hly := (show Hid (Rw 2 V2.c w9 (.slice lyA m lyc) (ts)) from hly.out.below hb)
      clear hb
      refine sl_run rfl (.bool true) w9 (by kernel_rfl) ?_
      simp only [Act.put, List.setIfInBounds_toArray, List.set_cons_zero, List.set_cons_succ]
      refine wpList_nil ?_
      clear hcp
      go_upto_region 10 with fail
      refine wp_leaves (α := Option Addr × Nat × Nat × Option Addr × Nat × Value) (fun d a => ((((((((((((a.put (some 63) (.agg (flatC k p (.slice A1 n c1)))).put (some 64) (.agg (flatC k p (.slice d.1 n d.2.1)))).put (some 65) (.agg (tup tp (.slice tA m tc)))).put (some 66) (.slice (some ⟨d.2.2.1, 0, none⟩) 0 0)).put (some 67) (.slice lA L lc)).put (some 68) (.slice d.2.2.2.1 L d.2.2.2.2.1)).put (some 69) (.tuple #[d.2.2.2.2.2, .bool true])).put (some 62) (.tuple #[d.2.2.2.2.2, .bool true])).put (some 70) (d.2.2.2.2.2)).put (some 71) (.bool true)).put (some 13) (d.2.2.2.2.2)).put (some 14) (.bool true)))
        (fun d w' => Rw 3 T3.c w' d.2.2.2.2.2 (r2.getD []) ∧ Below w9.heap.size w9 w') ?_ ?_
      · refine wp_region_held_drew (S := fun w' => Below w9.heap.size w9 w') (by kernel_rfl) (Below.refl _ _).drew (fun hS => ?_)
        change wpAnyH _ _ _ _ _ 12 (Array.replicate 12 false) _ _
        generalize hx : w9.drew = v0 at hS
        clear hx
        refine held_take 0 rfl (by kernel_rfl) (by kernel_rfl) (by kernel_rfl) (.agg (flatC k p (.slice A1 n c1))) (fun _ _ _ h => nomatch h.1) (by kernel_rfl) (fun w' h => exec_load_row 24 w' _ rfl B (by kernel_rfl) 24 _ (0, 0) _ (heap_kept hC.out.hf h) Try.underlying24 rfl (by kernel_rfl)) hS ?_
        simp only [Act.put, List.setIfInBounds_toArray, List.set_cons_zero, List.set_cons_succ, List.getElem_toArray, List.getElem_cons_succ, List.getElem_cons_zero]
        refine held_take 2 rfl (by kernel_rfl) (by kernel_rfl) (by kernel_rfl) (.agg (tup tp (.slice tA m tc))) (fun _ _ _ h => nomatch h.1) (by kernel_rfl) (fun w' h => exec_load_row 27 w' _ rfl B1 (by kernel_rfl) 27 _ (0, 0) _ (heap_kept hC.out.ht h) Try.underlying27 rfl (by kernel_rfl)) hS ?_
        simp only [Act.put, List.setIfInBounds_toArray, List.set_cons_zero, List.set_cons_succ, List.getElem_toArray, List.getElem_cons_succ, List.getElem_cons_zero]
        refine held_take 4 rfl (by kernel_rfl) (by kernel_rfl) (by kernel_rfl) (.slice lA L lc) (fun _ _ _ h => nomatch h.1) (by kernel_rfl) (fun _ _ => by kernel_rfl) hS ?_
        simp only [Act.put, List.setIfInBounds_toArray, List.set_cons_zero, List.set_cons_succ, List.getElem_toArray, List.getElem_cons_succ, List.getElem_cons_zero]
        refine held_both 1 3 rfl rfl (by kernel_rfl) (by kernel_rfl) (by kernel_rfl) (fun K hK => ?_) (fun K hK => ?_)
        · skip
          refine wp_enter 10 #[.agg (flatC k p (.slice A1 n c1))] (by kernel_rfl) (R := fun v w' => ∃ A2 c2, v = .agg (flatC k p (.slice A2 n c2)) ∧ w'.ownsRow v0.heap.size 48 3 (.slice A2 n c2) args.length (flat T3.c args) ∧ Below v0.heap.size v0 w') ((copyO_calls k p args A1 n c1 hn'.out hn9 v0 (hC.out.ha.below hS)).mono fun e w' h => by
              obtain ⟨A2, c2, h1, h2, h3⟩ := h
              exact ⟨_, h1, A2, c2, rfl, h2, h3⟩) ?_
          rintro _ v1 ⟨A2, c2, rfl, hcp, hb⟩
          replace hcp := own_mono hcp hS.size
          replace hS := hS.trans (hb.mono hS.size)
          clear hb
          refine hK _ _ hS ?_
          clear hK
          simp only [Act.put, List.setIfInBounds_toArray, List.set_cons_zero, List.set_cons_succ, List.getElem_toArray, List.getElem_cons_succ, List.getElem_cons_zero]
          refine held_one 3 rfl (by kernel_rfl) (by kernel_rfl) (fun K hK => ?_)
          refine wp_ran (.slice (some ⟨v1.heap.size, 0, none⟩) 0 0) (v1.alloc (.cells #[] 50)) (by kernel_rfl) ?_
          replace hcp := hcp.alloc (.cells #[] 50)
          have hmk : (v1.alloc (.cells #[] 50)).ownsRow w9.heap.size 50 3 (.slice (some ⟨v1.heap.size, 0, none⟩) 0 0) ([] : List T3).length (flat T3.c []) := World.ownsRow_made _ _ 0 hS.size (by decide) rfl
          replace hS := hS.alloc hS.size (.cells #[] 50)
          generalize v1.alloc _ = v2 at hS hmk hcp ⊢
          generalize v1.heap.size = g at hmk ⊢
          refine hK _ _ hS ?_
          clear hK
          simp only [Act.put, List.setIfInBounds_toArray, List.set_cons_zero, List.set_cons_succ, List.getElem_toArray, List.getElem_cons_succ, List.getElem_cons_zero]
          refine held_one 5 rfl (by kernel_rfl) (by kernel_rfl) (fun K hK => ?_)
          refine wp_appendRw 28 50 40 i50 z3 Try.underlying28 hi50 hz0 hz1 hz2 rfl (by decide) t3_size t3_ones _ _ rfl w9.heap.size _ [] l (by kernel_rfl) hmk _ (by kernel_rfl) ((hl.out).below hS) (by have := hL'.out; simp; omega) (by have := hL'.out; simp; omega) hS.size ?_
          intro v6 v3 hap hgr
          rw [List.nil_append] at hap
          obtain ⟨A6, c6, rfl⟩ := own_formq hap hL'.out
          replace hcp := own_keep hcp (fun q hq => hgr.block q (hcp.lt q hq).2 (own_other hmk hcp (by decide) q hq))
          replace hS := Below.grown hS hgr hS.size (fun q hq => (hmk.lt q hq).1)
          clear hgr hmk
          refine hK _ _ hS ?_
          clear hK
          simp only [Act.put, List.setIfInBounds_toArray, List.set_cons_zero, List.set_cons_succ, List.getElem_toArray, List.getElem_cons_succ, List.getElem_cons_zero]
          refine held_one 6 rfl (by kernel_rfl) (by kernel_rfl) (fun K hK => ?_)
          refine wp_enter 9 #[.agg (flatC k p (.slice A2 n c2)), .agg (tup tp (.slice tA m tc)), .slice A6 L c6] (by kernel_rfl) (R := fun v w' => ∃ lv, v = .tuple #[lv, .bool true] ∧ Rw 3 T3.c w' lv (r2.getD []) ∧ Below v3.heap.size v3 w') ((match_calls k p tp args l ts A2 tA A6 n m L c2 tc c6 hn'.out hm'.out hL'.out hn9 (by have := hL'.out; have := hL'.out; omega) v3 (by rw [hn'.out]; rw [hn'.out] at hcp; exact Rw.own t3_size (by decide) hcp) (hC.out.hv.below hS) (by rw [hL'.out]; rw [hL'.out] at hap; exact Rw.own t3_size (by decide) hap)).mono fun e w' h => by
              rw [← hr2.out] at h
              obtain ⟨lv, h1, h2, h3⟩ := h
              exact ⟨_, h1, lv, by rw [hhit2.out], h2, h3⟩) ?_
          rintro _ v3z ⟨lv, rfl, hlv, hb⟩
          replace hS := hS.trans (hb.mono hS.size)
          refine hK _ _ hS ?_
          clear hK
          simp only [Act.put, List.setIfInBounds_toArray, List.set_cons_zero, List.set_cons_succ, List.getElem_toArray, List.getElem_cons_succ, List.getElem_cons_zero]
          refine held_take 7 rfl (by kernel_rfl) (by kernel_rfl) (by kernel_rfl) (.tuple #[lv, .bool true]) (fun _ _ _ h => nomatch h.1) (by kernel_rfl) (fun _ _ => by kernel_rfl) hS ?_
          simp only [Act.put, List.setIfInBounds_toArray, List.set_cons_zero, List.set_cons_succ, List.getElem_toArray, List.getElem_cons_succ, List.getElem_cons_zero]
          refine held_take 8 rfl (by kernel_rfl) (by kernel_rfl) (by kernel_rfl) (lv) (fun _ _ _ h => nomatch h.1) (by kernel_rfl) (fun _ _ => by kernel_rfl) hS ?_
          simp only [Act.put, List.setIfInBounds_toArray, List.set_cons_zero, List.set_cons_succ, List.getElem_toArray, List.getElem_cons_succ, List.getElem_cons_zero]
          refine held_take 9 rfl (by kernel_rfl) (by kernel_rfl) (by kernel_rfl) (.bool true) (fun _ _ _ h => nomatch h.1) (by kernel_rfl) (fun _ _ => by kernel_rfl) hS ?_
          simp only [Act.put, List.setIfInBounds_toArray, List.set_cons_zero, List.set_cons_succ, List.getElem_toArray, List.getElem_cons_succ, List.getElem_cons_zero]
          refine held_take 10 rfl (by kernel_rfl) (by kernel_rfl) (by kernel_rfl) (lv) (fun _ _ _ h => nomatch h.1) (by kernel_rfl) (fun _ _ => by kernel_rfl) hS ?_
          simp only [Act.put, List.setIfInBounds_toArray, List.set_cons_zero, List.set_cons_succ, List.getElem_toArray, List.getElem_cons_succ, List.getElem_cons_zero]
          refine held_take 11 rfl (by kernel_rfl) (by kernel_rfl) (by kernel_rfl) (.bool true) (fun _ _ _ h => nomatch h.1) (by kernel_rfl) (fun _ _ => by kernel_rfl) hS ?_
          simp only [Act.put, List.setIfInBounds_toArray, List.set_cons_zero, List.set_cons_succ, List.getElem_toArray, List.getElem_cons_succ, List.getElem_cons_zero]
          refine wpAnyH_done (by kernel_rfl) ?_ _
          exact ⟨rfl, (A2, c2, g, A6, c6, lv), by kernel_rfl, hlv, hS⟩
        · skip
          refine wp_ran (.slice (some ⟨v0.heap.size, 0, none⟩) 0 0) (v0.alloc (.cells #[] 50)) (by kernel_rfl) ?_
          have hmk : (v0.alloc (.cells #[] 50)).ownsRow w9.heap.size 50 3 (.slice (some ⟨v0.heap.size, 0, none⟩) 0 0) ([] : List T3).length (flat T3.c []) := World.ownsRow_made _ _ 0 hS.size (by decide) rfl
          replace hS := hS.alloc hS.size (.cells #[] 50)
          generalize v0.alloc _ = v1 at hS hmk ⊢
          generalize v0.heap.size = g at hmk ⊢
          refine hK _ _ hS ?_
          clear hK
          simp only [Act.put, List.setIfInBounds_toArray, List.set_cons_zero, List.set_cons_succ, List.getElem_toArray, List.getElem_cons_succ, List.getElem_cons_zero]
          refine held_one 1 rfl (by kernel_rfl) (by kernel_rfl) (fun K hK => ?_)
          refine wp_enter 10 #[.agg (flatC k p (.slice A1 n c1))] (by kernel_rfl) (R := fun v w' => ∃ A2 c2, v = .agg (flatC k p (.slice A2 n c2)) ∧ w'.ownsRow v1.heap.size 48 3 (.slice A2 n c2) args.length (flat T3.c args) ∧ Below v1.heap.size v1 w') ((copyO_calls k p args A1 n c1 hn'.out hn9 v1 (hC.out.ha.below hS)).mono fun e w' h => by
              obtain ⟨A2, c2, h1, h2, h3⟩ := h
              exact ⟨_, h1, A2, c2, rfl, h2, h3⟩) ?_
          rintro _ v2 ⟨A2, c2, rfl, hcp, hb⟩
          replace hcp := own_mono hcp hS.size
          replace hmk := own_keep hmk (fun q hq => hb.block q (hmk.lt q hq).2)
          replace hS := hS.trans (hb.mono hS.size)
          clear hb
          refine hK _ _ hS ?_
          clear hK
          simp only [Act.put, List.setIfInBounds_toArray, List.set_cons_zero, List.set_cons_succ, List.getElem_toArray, List.getElem_cons_succ, List.getElem_cons_zero]
          refine held_one 5 rfl (by kernel_rfl) (by kernel_rfl) (fun K hK => ?_)
          refine wp_appendRw 28 50 40 i50 z3 Try.underlying28 hi50 hz0 hz1 hz2 rfl (by decide) t3_size t3_ones _ _ rfl w9.heap.size _ [] l (by kernel_rfl) hmk _ (by kernel_rfl) ((hl.out).below hS) (by have := hL'.out; simp; omega) (by have := hL'.out; simp; omega) hS.size ?_
          intro v6 v3 hap hgr
          rw [List.nil_append] at hap
          obtain ⟨A6, c6, rfl⟩ := own_formq hap hL'.out
          replace hcp := own_keep hcp (fun q hq => hgr.block q (hcp.lt q hq).2 (own_other hmk hcp (by decide) q hq))
          replace hS := Below.grown hS hgr hS.size (fun q hq => (hmk.lt q hq).1)
          clear hgr hmk
          refine hK _ _ hS ?_
          clear hK
          simp only [Act.put, List.setIfInBounds_toArray, List.set_cons_zero, List.set_cons_succ, List.getElem_toArray, List.getElem_cons_succ, List.getElem_cons_zero]
          refine held_one 6 rfl (by kernel_rfl) (by kernel_rfl) (fun K hK => ?_)
          refine wp_enter 9 #[.agg (flatC k p (.slice A2 n c2)), .agg (tup tp (.slice tA m tc)), .slice A6 L c6] (by kernel_rfl) (R := fun v w' => ∃ lv, v = .tuple #[lv, .bool true] ∧ Rw 3 T3.c w' lv (r2.getD []) ∧ Below v3.heap.size v3 w') ((match_calls k p tp args l ts A2 tA A6 n m L c2 tc c6 hn'.out hm'.out hL'.out hn9 (by have := hL'.out; have := hL'.out; omega) v3 (by rw [hn'.out]; rw [hn'.out] at hcp; exact Rw.own t3_size (by decide) hcp) (hC.out.hv.below hS) (by rw [hL'.out]; rw [hL'.out] at hap; exact Rw.own t3_size (by decide) hap)).mono fun e w' h => by
              rw [← hr2.out] at h
              obtain ⟨lv, h1, h2, h3⟩ := h
              exact ⟨_, h1, lv, by rw [hhit2.out], h2, h3⟩) ?_
          rintro _ v3z ⟨lv, rfl, hlv, hb⟩
          replace hS := hS.trans (hb.mono hS.size)
          refine hK _ _ hS ?_
          clear hK
          simp only [Act.put, List.setIfInBounds_toArray, List.set_cons_zero, List.set_cons_succ, List.getElem_toArray, List.getElem_cons_succ, List.getElem_cons_zero]
          refine held_take 7 rfl (by kernel_rfl) (by kernel_rfl) (by kernel_rfl) (.tuple #[lv, .bool true]) (fun _ _ _ h => nomatch h.1) (by kernel_rfl) (fun _ _ => by kernel_rfl) hS ?_
          simp only [Act.put, List.setIfInBounds_toArray, List.set_cons_zero, List.set_cons_succ, List.getElem_toArray, List.getElem_cons_succ, List.getElem_cons_zero]
          refine held_take 8 rfl (by kernel_rfl) (by kernel_rfl) (by kernel_rfl) (lv) (fun _ _ _ h => nomatch h.1) (by kernel_rfl) (fun _ _ => by kernel_rfl) hS ?_
          simp only [Act.put, List.setIfInBounds_toArray, List.set_cons_zero, List.set_cons_succ, List.getElem_toArray, List.getElem_cons_succ, List.getElem_cons_zero]
          refine held_take 9 rfl (by kernel_rfl) (by kernel_rfl) (by kernel_rfl) (.bool true) (fun _ _ _ h => nomatch h.1) (by kernel_rfl) (fun _ _ => by kernel_rfl) hS ?_
          simp only [Act.put, List.setIfInBounds_toArray, List.set_cons_zero, List.set_cons_succ, List.getElem_toArray, List.getElem_cons_succ, List.getElem_cons_zero]
          refine held_take 10 rfl (by kernel_rfl) (by kernel_rfl) (by kernel_rfl) (lv) (fun _ _ _ h => nomatch h.1) (by kernel_rfl) (fun _ _ => by kernel_rfl) hS ?_
          simp only [Act.put, List.setIfInBounds_toArray, List.set_cons_zero, List.set_cons_succ, List.getElem_toArray, List.getElem_cons_succ, List.getElem_cons_zero]
          refine held_take 11 rfl (by kernel_rfl) (by kernel_rfl) (by kernel_rfl) (.bool true) (fun _ _ _ h => nomatch h.1) (by kernel_rfl) (fun _ _ => by kernel_rfl) hS ?_
          simp only [Act.put, List.setIfInBounds_toArray, List.set_cons_zero, List.set_cons_succ, List.getElem_toArray, List.getElem_cons_succ, List.getElem_cons_zero]
          refine wpAnyH_done (by kernel_rfl) ?_ _
          exact ⟨rfl, (A2, c2, g, A6, c6, lv), by kernel_rfl, hlv, hS⟩
      · rintro ⟨A2, c2, g, A6, c6, lv2⟩ w10 ⟨hlv, hb⟩
        rename_i hK
        refine hK _ _ ?_
        simp only [Act.put, List.setIfInBounds_toArray, List.set_cons_zero, List.set_cons_succ]
        have hl2 : Hid (Rw 3 T3.c w10 lv2 (r2.getD [])) := hlv
        clear hlv
        replace hC := (show Hid (CtxM w B B1 (flatC k p (.slice A1 n c1)) (tup tp (.slice tA m tc)) (.slice A1 n c1) (.slice tA m tc) (.slice A3 q c3) args ts b w10) from hC.out.below hb)
        replace hl := (show Hid (Rw 3 T3.c w10 (.slice lA L lc) (l)) from hl.out.below hb)
        replace hly := (show Hid (Rw 2 V2.c w10 (.slice lyA m lyc) (ts)) from hly.out.below hb)
        replace h11 := (show Hid (w10.heap[T11]? = some (.cells (tup p (.slice lyA m lyc)) 27 (0, 0))) from heap_kept h11.out hb)
        clear hb
        rw [hr2l.out] at hl2
        go_upto_region 11 with fail
        refine wp_region_lit ?_
        refine sl_run rfl (.bool true) w10 (by kernel_rfl) ?_
        simp only [Act.put, List.setIfInBounds_toArray, List.set_cons_zero, List.set_cons_succ]
        refine sl_run rfl (.bool false) w10 (by kernel_rfl) ?_
        simp only [Act.put, List.setIfInBounds_toArray, List.set_cons_zero, List.set_cons_succ]
        refine sl_run rfl (.bool false) w10 (by kernel_rfl) ?_
        simp only [Act.put, List.setIfInBounds_toArray, List.set_cons_zero, List.set_cons_succ]
        refine sg_run (by kernel_rfl) (.agg (tup p (.slice lyA m lyc))) w10 (exec_load_row 27 w10 _ rfl T11 (by kernel_rfl) 27 _ (0, 0) _ h11.out Try.underlying27 rfl (by kernel_rfl)) ?_
        simp only [Act.put, List.setIfInBounds_toArray, List.set_cons_zero, List.set_cons_succ]
        refine sg_run (by kernel_rfl) (.agg (tup tp (.slice tA m tc))) w10 (exec_load_row 27 w10 _ rfl B1 (by kernel_rfl) 27 _ (0, 0) _ hC.out.ht Try.underlying27 rfl (by kernel_rfl)) ?_
        simp only [Act.put, List.setIfInBounds_toArray, List.set_cons_zero, List.set_cons_succ]
        refine sg_call (by kernel_rfl) 17 #[.agg (tup p (.slice lyA m lyc)), .agg (tup tp (.slice tA m tc))] (by kernel_rfl) (R := fun v w' => v = .bool true ∧ Below w10.heap.size w10 w') ((sameG_calls p tp ts ts lyA tA m m lyc tc hgH.out.2.2 hgH.out.2.1 hgH.out.1 hgH.out.1 hm'.out hm'.out (by have := hmn.out; omega) w10 hly.out hC.out.hv).mono fun e w' h => ⟨_, h.1, by rw [decide_eq_true ⟨hpt.out, rfl⟩], h.2⟩) ?_
        rintro _ w11 ⟨rfl, hb⟩
        simp only [Act.put, List.setIfInBounds_toArray, List.set_cons_zero, List.set_cons_succ]
        replace hC := (show Hid (CtxM w B B1 (flatC k p (.slice A1 n c1)) (tup tp (.slice tA m tc)) (.slice A1 n c1) (.slice tA m tc) (.slice A3 q c3) args ts b w11) from hC.out.below hb)
        replace hl := (show Hid (Rw 3 T3.c w11 (.slice lA L lc) (l)) from hl.out.below hb)
        replace hly := (show Hid (Rw 2 V2.c w11 (.slice lyA m lyc) (ts)) from hly.out.below hb)
        replace h11 := (show Hid (w11.heap[T11]? = some (.cells (tup p (.slice lyA m lyc)) 27 (0, 0))) from heap_kept h11.out hb)
        replace hl2 := (show Hid (Rw 3 T3.c w11 (lv2) ((some l).getD [])) from hl2.out.below hb)
        clear hb
        refine sg_run (by kernel_rfl) (.bool false) w11 (by kernel_rfl) ?_
        simp only [Act.put, List.setIfInBounds_toArray, List.set_cons_zero, List.set_cons_succ]
        refine sl_run rfl (.bool false) w11 (by kernel_rfl) ?_
        simp only [Act.put, List.setIfInBounds_toArray, List.set_cons_zero, List.set_cons_succ]
        refine sl_run rfl (.bool false) w11 (by kernel_rfl) ?_
        simp only [Act.put, List.setIfInBounds_toArray, List.set_cons_zero, List.set_cons_succ]
        refine sg_run (by kernel_rfl) (.bool true) w11 (by kernel_rfl) ?_
        simp only [Act.put, List.setIfInBounds_toArray, List.set_cons_zero, List.set_cons_succ]
        refine sg_run (by kernel_rfl) (.bool false) w11 (by kernel_rfl) ?_
        simp only [Act.put, List.setIfInBounds_toArray, List.set_cons_zero, List.set_cons_succ]
        refine sl_run rfl (.bool false) w11 (by kernel_rfl) ?_
        simp only [Act.put, List.setIfInBounds_toArray, List.set_cons_zero, List.set_cons_succ]
        refine sl_run rfl (.bool false) w11 (by kernel_rfl) ?_
        simp only [Act.put, List.setIfInBounds_toArray, List.set_cons_zero, List.set_cons_succ]
        refine sg_run (by kernel_rfl) (.slice lA L lc) w11 (by kernel_rfl) ?_
        simp only [Act.put, List.setIfInBounds_toArray, List.set_cons_zero, List.set_cons_succ]
        refine sg_run (by kernel_rfl) (lv2) w11 (by kernel_rfl) ?_
        simp only [Act.put, List.setIfInBounds_toArray, List.set_cons_zero, List.set_cons_succ]
        refine sg_call (by kernel_rfl) 12 #[.slice lA L lc, lv2] (by kernel_rfl) (R := fun v w' => v = .bool true ∧ Below w11.heap.size w11 w') ((same_calls l (.slice lA L lc) lv2 w11 (by have := hL'.out; omega) hl.out hl2.out).mono fun e w' h => ⟨_, h.1, rfl, h.2⟩) ?_
        rintro _ w12 ⟨rfl, hb⟩
        simp only [Act.put, List.setIfInBounds_toArray, List.set_cons_zero, List.set_cons_succ]
        replace hC := (show Hid (CtxM w B B1 (flatC k p (.slice A1 n c1)) (tup tp (.slice tA m tc)) (.slice A1 n c1) (.slice tA m tc) (.slice A3 q c3) args ts b w12) from hC.out.below hb)
        replace hl := (show Hid (Rw 3 T3.c w12 (.slice lA L lc) (l)) from hl.out.below hb)
        replace hly := (show Hid (Rw 2 V2.c w12 (.slice lyA m lyc) (ts)) from hly.out.below hb)
        replace h11 := (show Hid (w12.heap[T11]? = some (.cells (tup p (.slice lyA m lyc)) 27 (0, 0))) from heap_kept h11.out hb)
        replace hl2 := (show Hid (Rw 3 T3.c w12 (lv2) ((some l).getD [])) from hl2.out.below hb)
        clear hb
        refine sg_run (by kernel_rfl) (.bool false) w12 (by kernel_rfl) ?_
        simp only [Act.put, List.setIfInBounds_toArray, List.set_cons_zero, List.set_cons_succ]
        refine sl_run rfl (.bool false) w12 (by kernel_rfl) ?_
        simp only [Act.put, List.setIfInBounds_toArray, List.set_cons_zero, List.set_cons_succ]
        refine sl_run rfl (.bool false) w12 (by kernel_rfl) ?_
        simp only [Act.put, List.setIfInBounds_toArray, List.set_cons_zero, List.set_cons_succ]
        refine sg_run (by kernel_rfl) (.slice lA L lc) w12 (by kernel_rfl) ?_
        simp only [Act.put, List.setIfInBounds_toArray, List.set_cons_zero, List.set_cons_succ]
        refine sg_run (by kernel_rfl) (.int .i64 L) w12 (by kernel_rfl) ?_
        simp only [Act.put, List.setIfInBounds_toArray, List.set_cons_zero, List.set_cons_succ]
        refine sg_run (by kernel_rfl) (.slice A3 q c3) w12 (by kernel_rfl) ?_
        simp only [Act.put, List.setIfInBounds_toArray, List.set_cons_zero, List.set_cons_succ]
        refine sg_run (by kernel_rfl) (.int .i64 q) w12 (by kernel_rfl) ?_
        simp only [Act.put, List.setIfInBounds_toArray, List.set_cons_zero, List.set_cons_succ]
        refine sg_run (by kernel_rfl) (.bool false) w12 ((exec_lss _ _ rfl (L : Int) (q : Int) (by kernel_rfl) (by kernel_rfl) w12).trans (by rw [decide_eq_false hlo.out])) ?_
        simp only [Act.put, List.setIfInBounds_toArray, List.set_cons_zero, List.set_cons_succ]
        refine sl_run rfl (.bool false) w12 (by kernel_rfl) ?_
        simp only [Act.put, List.setIfInBounds_toArray, List.set_cons_zero, List.set_cons_succ]
        refine sl_run rfl (.bool false) w12 (by kernel_rfl) ?_
        simp only [Act.put, List.setIfInBounds_toArray, List.set_cons_zero, List.set_cons_succ]
        refine sg_run (by kernel_rfl) (.slice lA L lc) w12 (by kernel_rfl) ?_
        simp only [Act.put, List.setIfInBounds_toArray, List.set_cons_zero, List.set_cons_succ]
        refine sg_run (by kernel_rfl) (.int .i64 L) w12 (by kernel_rfl) ?_
        simp only [Act.put, List.setIfInBounds_toArray, List.set_cons_zero, List.set_cons_succ]
        refine sg_run (by kernel_rfl) (.slice A3 q c3) w12 (by kernel_rfl) ?_
        simp only [Act.put, List.setIfInBounds_toArray, List.set_cons_zero, List.set_cons_succ]
        refine sg_run (by kernel_rfl) (.int .i64 q) w12 (by kernel_rfl) ?_
        simp only [Act.put, List.setIfInBounds_toArray, List.set_cons_zero, List.set_cons_succ]
        refine sg_run (by kernel_rfl) (.pointer (some ⟨B, 2, none⟩)) w12 (by kernel_rfl) ?_
        simp only [Act.put, List.setIfInBounds_toArray, List.set_cons_zero, List.set_cons_succ]
        refine sg_run (by kernel_rfl) (.slice A1 n c1) w12 (exec_load_cell 22 w12 _ rfl ⟨B, 2, none⟩ (by kernel_rfl) _ (by rw [cell_of_row _ _ _ _ _ _ hC.out.hf]; rfl) (fun _ => by kernel_rfl)) ?_
        simp only [Act.put, List.setIfInBounds_toArray, List.set_cons_zero, List.set_cons_succ]
        refine sg_run (by kernel_rfl) (.int .i64 n) w12 (by kernel_rfl) ?_
        simp only [Act.put, List.setIfInBounds_toArray, List.set_cons_zero, List.set_cons_succ]
        refine sg_run (by kernel_rfl) (.int .i64 ((q : Int) + (n : Int))) w12 (exec_add _ _ rfl (q : Int) (n : Int) (by kernel_rfl) (by kernel_rfl) (by omega) (by omega) w12) ?_
        simp only [Act.put, List.setIfInBounds_toArray, List.set_cons_zero, List.set_cons_succ]
        refine sg_run (by kernel_rfl) (.bool false) w12 ((exec_gtr _ _ rfl (L : Int) ((q : Int) + (n : Int)) (by kernel_rfl) (by kernel_rfl) w12).trans (by rw [decide_eq_false hhi.out])) ?_
        simp only [Act.put, List.setIfInBounds_toArray, List.set_cons_zero, List.set_cons_succ]
        refine sl_run rfl (.bool false) w12 (by kernel_rfl) ?_
        simp only [Act.put, List.setIfInBounds_toArray, List.set_cons_zero, List.set_cons_succ]
        refine wpList_nil ?_
        go_upto_region 13 with fail
        refine wp_region_lit ?_
        refine sl_run rfl (.slice lA L lc) w12 (by kernel_rfl) ?_
        simp only [Act.put, List.setIfInBounds_toArray, List.set_cons_zero, List.set_cons_succ]
        refine sl_run rfl (.slice A3 q c3) w12 (by kernel_rfl) ?_
        simp only [Act.put, List.setIfInBounds_toArray, List.set_cons_zero, List.set_cons_succ]
        refine sl_run rfl (.int .i64 q) w12 (by kernel_rfl) ?_
        simp only [Act.put, List.setIfInBounds_toArray, List.set_cons_zero, List.set_cons_succ]
        obtain ⟨hqc, htk2⟩ := rw_take hL'.out hl.out q hqL
        rw [htk.out] at htk2
        refine sl_run rfl (.slice (if lc = 0 then lA else lA.map (·.add 0)) q lc) w12 (exec_slice28 _ _ rfl lA L lc q (by kernel_rfl) (by kernel_rfl) hqc w12) ?_
        simp only [Act.put, List.setIfInBounds_toArray, List.set_cons_zero, List.set_cons_succ]
        generalize (if lc = 0 then lA else lA.map (·.add 0)) = lA2 at htk2 ⊢
        refine sl_run rfl (.slice A3 q c3) w12 (by kernel_rfl) ?_
        simp only [Act.put, List.setIfInBounds_toArray, List.set_cons_zero, List.set_cons_succ]
        refine sl_call rfl 12 #[.slice lA2 q lc, .slice A3 q c3] (by kernel_rfl) (R := fun v w' => v = .bool true ∧ Below w12.heap.size w12 w') ((same_calls b (.slice lA2 q lc) (.slice A3 q c3) w12 (by have := hq'.out; omega) htk2 hC.out.hb).mono fun e w' h => ⟨_, h.1, rfl, h.2⟩) ?_
        rintro _ w13 ⟨rfl, hb⟩
        simp only [Act.put, List.setIfInBounds_toArray, List.set_cons_zero, List.set_cons_succ]
        replace hC := (show Hid (CtxM w B B1 (flatC k p (.slice A1 n c1)) (tup tp (.slice tA m tc)) (.slice A1 n c1) (.slice tA m tc) (.slice A3 q c3) args ts b w13) from hC.out.below hb)
        replace hl := (show Hid (Rw 3 T3.c w13 (.slice lA L lc) (l)) from hl.out.below hb)
        replace hly := (show Hid (Rw 2 V2.c w13 (.slice lyA m lyc) (ts)) from hly.out.below hb)
        replace h11 := (show Hid (w13.heap[T11]? = some (.cells (tup p (.slice lyA m lyc)) 27 (0, 0))) from heap_kept h11.out hb)
        replace hl2 := (show Hid (Rw 3 T3.c w13 (lv2) ((some l).getD [])) from hl2.out.below hb)
        clear hb
        refine sl_run rfl (.bool true) w13 (by kernel_rfl) ?_
        simp only [Act.put, List.setIfInBounds_toArray, List.set_cons_zero, List.set_cons_succ]
        refine wpList_nil ?_
        clear hl hl2 hly h11 htk2
        go_wp2_with fail
        go_ret
        exact ⟨rfl, hC.out.hB⟩
end Go.Proofs.Ytehgblnhhlgikaa.Bi
