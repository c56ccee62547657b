/-
  Bindings: the document's Match.
-/
import Derived.Test.YtehgblnhhlgikaaBiMatch
namespace Go.Proofs.Ytehgblnhhlgikaa.Bi
open Go.RowKit
set_option linter.unusedVariables false
set_option linter.unusedSimpArgs false
set_option pp.maxSteps 50000
theorem t3_in {l : List T3} (i : Nat) (h : i < l.length) : l.getD i default ∈ l := by
  rw [List.getD_eq_getElem?_getD, List.getElem?_eq_getElem h]; exact List.getElem_mem h
set_option maxRecDepth 100000 in
set_option maxHeartbeats 2000000 in
theorem rmatch_calls (k : Nat) (p tp : ByteArray) (args b : List T3) (ts : List V2) (A1 A2 A3 : Option Addr) (n m q c1 c2 c3 : Nat) (hn : n = args.length) (hm : m = ts.length) (hq : q = b.length) (hn9 : n ≤ 1000000) (hq9 : q ≤ 1000000) (hxs : ∀ t ∈ args, t.x.size ≤ 9223372036854775807) (w : World)
    (hy1 : Rw 3 T3.c w (.slice A1 n c1) args) (hy2 : Rw 2 V2.c w (.slice A2 m c2) ts) (hy3 : Rw 3 T3.c w (.slice A3 q c3) b) :
    Calls Try.prog 11 #[.agg #[.int .u8 (k : Int), .string p, .slice A1 n c1], .agg #[.string tp, .slice A2 m c2], .slice A3 q c3] w fun e w' => ∃ v, e = .returned (.tuple #[v, .bool (matchS k p args tp ts b).isSome]) ∧ Rw 3 T3.c w' v ((matchS k p args tp ts b).getD []) ∧ Below w.heap.size w w' := by
  obtain ⟨r, hr0⟩ : ∃ r, r = matchS k p args tp ts b := ⟨_, rfl⟩
  rw [← hr0]
  have hr : Hid (r = matchS k p args tp ts b) := hr0
  have hH : Hid ((n = args.length ∧ m = ts.length ∧ q = b.length) ∧ Rw 3 T3.c w (.slice A1 n c1) args ∧ Rw 2 V2.c w (.slice A2 m c2) ts ∧ Rw 3 T3.c w (.slice A3 q c3) b) := ⟨⟨hn, hm, hq⟩, hy1, hy2, hy3⟩
  clear hr0 hn hm hq hy1 hy2 hy3
  go_enter Try.func11, Try.ntmps11
  go_upto_region 1 with fail
  generalize hW : World.alloc _ _ = W
  have hW0 : W.heap[w.heap.size]? = some (.cells #[.int .u8 (k : Int), .string p, .slice A1 n c1] 24 (0, 0)) := by rw [← hW]; exact heap_alloc2_old w _ _
  have hW1 : W.heap[w.heap.size + 1]? = some (.cells #[.string tp, .slice A2 m c2] 27 (0, 0)) := by rw [← hW]; exact heap_alloc2_new w _ _
  have hWB : Below w.heap.size w W := by rw [← hW]; exact ((Below.refl _ _).alloc (Nat.le_refl _) _).alloc (by simp) _
  have hWs : W.heap.size = w.heap.size + 2 := by rw [← hW]; simp
  clear hW
  have hxsH : Hid (∀ t ∈ args, t.x.size ≤ 9223372036854775807) := hxs
  clear hxs
  have c00 : W.cell? ⟨w.heap.size, 0, none⟩ = some (.int .u8 (k : Int)) := by rw [cell_of_row _ _ _ _ _ _ hW0]; rfl
  have c01 : W.cell? ⟨w.heap.size, 1, none⟩ = some (.string p) := by rw [cell_of_row _ _ _ _ _ _ hW0]; rfl
  have c02 : W.cell? ⟨w.heap.size, 2, none⟩ = some (.slice A1 n c1) := by rw [cell_of_row _ _ _ _ _ _ hW0]; rfl
  have c10 : W.cell? ⟨w.heap.size + 1, 0, none⟩ = some (.string tp) := by rw [cell_of_row _ _ _ _ _ _ hW1]; rfl
  have c11 : W.cell? ⟨w.heap.size + 1, 1, none⟩ = some (.slice A2 m c2) := by rw [cell_of_row _ _ _ _ _ _ hW1]; rfl
  have hW0' : Hid (W.heap[w.heap.size]? = some (.cells #[.int .u8 (k : Int), .string p, .slice A1 n c1] 24 (0, 0))) := hW0
  have hW1' : Hid (W.heap[w.heap.size + 1]? = some (.cells #[.string tp, .slice A2 m c2] 27 (0, 0))) := hW1
  have hWB' : Hid (Below w.heap.size w W) := hWB
  clear hW0 hW1 hWB
  by_cases hk : k = 1 ∨ k = 2
  · have hk' : (k = 1) ∨ (¬ k = 1 ∧ k = 2) := by omega
    by_cases hp : p.toList = tp.toList
    · have hpe : (p.toList == tp.toList) = true := by simpa using hp
      by_cases hnm : n = m
      · have hrr : Hid (r = goOn args ts b) := by
          show _ = _
          rw [hr.out]; unfold matchS; rw [if_pos ⟨hk, hp, by have := hH.out.1; omega⟩]
        subst hnm
        obtain ⟨⟨hna, hnt, hqb⟩, hy1, hy2, hy3⟩ := hH.out
        have hna' : Hid (n = args.length) := hna
        have hnt' : Hid (n = ts.length) := hnt
        have hqb' : Hid (q = b.length) := hqb
        have hy1' : Hid (Rw 3 T3.c w (.slice A1 n c1) args) := hy1
        have hy2' : Hid (Rw 2 V2.c w (.slice A2 n c2) ts) := hy2
        have hy3W : Hid (Rw 3 T3.c W (.slice A3 q c3) b) := hy3.below hWB'.out
        clear hna hnt hqb hy1 hy2 hy3 hH hp
        have hI0 : ∀ q : Nat, ((q : Int) == (q : Int)) = true := fun q => by simp
        rcases hk' with rfl | ⟨hk1, rfl⟩
        all_goals
          clear hk
          go_upto_region 3 with fail
          clear c00 c01 c10 hpe hI0
          obtain ⟨i50, hi50, hz0, hz1, hz2⟩ := info_parts inf50
          refine wp_region_lit ?_
          refine sl_run rfl (.slice (some ⟨W.heap.size, 0, none⟩) 0 0) (W.alloc (.cells #[] 50)) (by kernel_rfl) ?_
          refine sl_run rfl (.slice A3 q c3) (W.alloc (.cells #[] 50)) (by kernel_rfl) ?_
          have hown0 : (W.alloc (.cells #[] 50)).ownsRow W.heap.size 50 3 (.slice (some ⟨W.heap.size, 0, none⟩) 0 0) ([] : List T3).length (flat T3.c []) := World.ownsRow_made _ _ 0 (Nat.le_refl _) (by decide) rfl
          have hB0 : Below W.heap.size W (W.alloc (.cells #[] 50)) := (Below.refl _ _).alloc (Nat.le_refl _) _
          refine appendRw 28 50 40 i50 z3 Try.underlying28 hi50 hz0 hz1 hz2 rfl (by decide) t3_size t3_ones rfl _ _ rfl W.heap.size _ [] b (by kernel_rfl) hown0 _ (by kernel_rfl) (hy3W.out.below hB0) (by have := hqb'.out; simp; omega) (by have := hqb'.out; simp; omega) hB0.size ?_
          intro v6 w6 hown6 hgr6
          have hB6 : Below W.heap.size W w6 := Below.grown hB0 hgr6 hB0.size (fun q hq => (hown0.lt q hq).1)
          rw [List.nil_append] at hown6
          refine sl_run rfl v6 w6 (by kernel_rfl) ?_
          refine wpList_nil ?_
          simp only [Act.put, List.setIfInBounds_toArray, List.set_cons_zero, List.set_cons_succ]
          have h60 : w6.heap[w.heap.size]? = some (.cells #[.int .u8 _, .string p, .slice A1 n c1] 24 (0, 0)) := (hB6.block _ (by omega)).trans hW0'.out
          have h61 : w6.heap[w.heap.size + 1]? = some (.cells #[.string tp, .slice A2 n c2] 27 (0, 0)) := by rw [hB6.block _ (by omega)]; exact hW1'.out
          have hs6 : W.heap.size ≤ w6.heap.size := hB6.size
          have hB66 : Hid (Below w.heap.size w w6) := hWB'.out.trans (hB6.mono (by omega))
          clear hown0 hB0 hgr6 hB6 c02 c11 hW0' hW1' hWB' hy3W
          go_wp2_with fail
          go_loopw [8, 9] (fun v u wr => ∃ (i : Nat) (out : List T3), i ≤ n ∧ u = .int .i64 i ∧ out.length ≤ q + i ∧ wr.ownsRow W.heap.size 50 3 v out.length (flat T3.c out) ∧ Hid (goOn args ts b = goOn (args.drop i) (ts.drop i) out) ∧ Hid (∃ kk : Nat, wr.heap[w.heap.size]? = some (.cells #[.int .u8 (kk : Int), .string p, .slice A1 n c1] 24 (0, 0))) ∧ wr.heap[w.heap.size + 1]? = some (.cells #[.string tp, .slice A2 n c2] 27 (0, 0)) ∧ W.heap.size ≤ wr.heap.size ∧ Hid (Below w.heap.size w wr)) (fun _ u _ => n - (intOf u).toNat)
          case atStart => exact ⟨0, b, by omega, rfl, by have := hqb'.out; omega, hown6, rfl, ⟨_, h60⟩, h61, hs6, hB66⟩
          case round =>
            clear hown6 h60 h61 hs6 hB66
            obtain ⟨i, out, hi, rfl, hol, hown, hgo, h0, h1, hHs, hB⟩ := hrel
            obtain ⟨kk, h0⟩ := h0.out
            by_cases hlt : i < n
            · have hil : i < args.length := by rw [← hna'.out]; exact hlt
              have hitl : i < ts.length := by rw [← hnt'.out]; exact hlt
              have hI : (i : Int) < (n : Int) := by omega
              obtain ⟨g, o, rfl, hnc, hg, hra⟩ := hy1'.out.elem i hil
              obtain ⟨g2, o2, rfl, hnc2, hg2, hra2⟩ := hy2'.out.elem i hitl
              obtain ⟨e, hee⟩ : ∃ e, e = args.getD i default := ⟨_, rfl⟩
              obtain ⟨tv, htv⟩ : ∃ tv, tv = ts.getD i default := ⟨_, rfl⟩
              have hstep := goOn_step args ts out i hil hitl
              have hex : e.x.size ≤ 9223372036854775807 := by rw [hee]; exact hxsH.out _ (t3_in i hil)
              rw [← hee, ← htv] at hstep
              rw [← hee] at hra
              rw [← htv] at hra2
              have hstep' : Hid (goOn (args.drop i) (ts.drop i) out = if (look out e).2 then (if eqV (look out e).1 tv then goOn (args.drop (i + 1)) (ts.drop (i + 1)) out else none) else goOn (args.drop (i + 1)) (ts.drop (i + 1)) (out ++ [⟨e.x, tv⟩])) := hstep
              clear hstep hee htv hil hitl
              have hraw := range_below hra hB.out hg
              have hBs := Below.size hB.out
              obtain ⟨Ao, co, rfl⟩ : ∃ A c, u8 = .slice A out.length c := by
                rcases hown.2 with ⟨rfl, h0⟩ | ⟨g9, cap, cur, rfl, _⟩
                · exact ⟨none, 0, by rw [h0]⟩
                · exact ⟨_, cap, rfl⟩
              have c11 : wr.cell? ⟨w.heap.size + 1, 1, none⟩ = some (.slice (some ⟨g2, o2, none⟩) n c2) := by rw [cell_of_row _ _ _ _ _ _ h1]; rfl
              have c02 : wr.cell? ⟨w.heap.size, 2, none⟩ = some (.slice (some ⟨g, o, none⟩) n c1) := by rw [cell_of_row _ _ _ _ _ _ h0]; rfl
              go_upto_region 7 with fail
              refine wp_region_lit ?_
              refine sl_run rfl (.slice Ao out.length co) wr (by kernel_rfl) ?_
              refine sl_run rfl (.pointer (some ⟨w.heap.size, 2, none⟩)) wr (by kernel_rfl) ?_
              refine sl_run rfl (.slice (some ⟨g, o, none⟩) n c1) wr (exec_load_cell 22 wr _ rfl ⟨w.heap.size, 2, none⟩ (by kernel_rfl) _ c02 (fun _ => by kernel_rfl)) ?_
              refine sl_run rfl (.int .i64 i) wr (by kernel_rfl) ?_
              refine sl_run rfl (.pointer (some ⟨g, o + i * 3, none⟩)) wr (exec_index un22 sz22 _ _ rfl g o n c1 i (by kernel_rfl) (by kernel_rfl) hlt wr) ?_
              simp only [Act.put, List.setIfInBounds_toArray, List.set_cons_zero, List.set_cons_succ]
              refine sl_run rfl (.agg e.c) wr (exec_load_mid 48 wr _ rfl g (o + i * 3) (by kernel_rfl) e.c.toList _ hraw Try.underlying48 rfl (by kernel_rfl)) ?_
              obtain ⟨lv, hlv⟩ : ∃ lv, lv = (look out e).1 := ⟨_, rfl⟩
              obtain ⟨lb, hlb⟩ : ∃ lb, lb = (look out e).2 := ⟨_, rfl⟩
              refine sl_call rfl 24 #[.slice Ao out.length co, .agg e.c] (by kernel_rfl) (R := fun v w' => v = .tuple #[.agg lv.c, .bool lb] ∧ Below wr.heap.size wr w') ((rvalue_calls out e Ao out.length co wr rfl (by omega) hex (Rw.own t3_size (by decide) hown)).mono fun e w' h => ⟨_, h.1, by rw [hlv, hlb], h.2⟩) ?_
              rintro _ w4 ⟨rfl, hB4⟩
              simp only [Act.put, List.setIfInBounds_toArray, List.set_cons_zero, List.set_cons_succ]
              refine sl_run rfl (.tuple #[.agg lv.c, .bool lb]) w4 (by kernel_rfl) ?_
              refine sl_run rfl (.agg lv.c) w4 (by kernel_rfl) ?_
              refine sl_run rfl (.bool lb) w4 (by kernel_rfl) ?_
              simp only [Act.put, List.setIfInBounds_toArray, List.set_cons_zero, List.set_cons_succ]
              have h04 : w4.heap[w.heap.size]? = some (.cells #[.int .u8 (kk : Int), .string p, .slice (some ⟨g, o, none⟩) n c1] 24 (0, 0)) := by rw [hB4.block _ (by omega)]; exact h0
              have h14 : w4.heap[w.heap.size + 1]? = some (.cells #[.string tp, .slice (some ⟨g2, o2, none⟩) n c2] 27 (0, 0)) := by rw [hB4.block _ (by omega)]; exact h1
              have hown4 : w4.ownsRow W.heap.size 50 3 (.slice Ao out.length co) out.length (flat T3.c out) := own_keep3 hown (fun q hq => hB4.block q (hown.lt q hq).2)
              have hB04 : Hid (Below w.heap.size w w4) := hB.out.trans (hB4.mono (by omega))
              have hs4 := hB4.size
              clear h0 h1 hown hB hB4 c02 c11 hraw
              refine sl_run rfl (.pointer (some ⟨w4.heap.size, 0, none⟩)) (w4.alloc (.cells (default : V2).c 46)) (by kernel_rfl) ?_
              refine wpList_store_row rfl 46 _ _ rfl w4.heap.size lv.c (by kernel_rfl) (by kernel_rfl) 46 _ (heap_alloc_new _ _) (by kernel_rfl) (by kernel_rfl) (v2_one _) ?_
              rw [World.setRow_alloc_new]
              refine sl_run rfl (.bool lb) (w4.alloc (.cells lv.c 46)) (by kernel_rfl) ?_
              refine wpList_nil ?_
              simp only [Act.put, List.setIfInBounds_toArray, List.set_cons_zero, List.set_cons_succ]
              obtain ⟨f, hf⟩ : ∃ f, f = w4.heap.size := ⟨_, rfl⟩
              have hf5 : (w4.alloc (.cells lv.c 46)).heap[w4.heap.size]? = some (.cells lv.c 46 (0, 0)) := heap_alloc_new _ _
              have hB5 : Below w4.heap.size w4 (w4.alloc (.cells lv.c 46)) := (Below.refl _ _).alloc (Nat.le_refl _) _
              have hown5 := hown4.alloc (.cells lv.c 46)
              have h05 : (w4.alloc (.cells lv.c 46)).heap[w.heap.size]? = some (.cells #[.int .u8 (kk : Int), .string p, .slice (some ⟨g, o, none⟩) n c1] 24 (0, 0)) := by rw [heap_alloc_old _ _ (by omega)]; exact h04
              have h15 : (w4.alloc (.cells lv.c 46)).heap[w.heap.size + 1]? = some (.cells #[.string tp, .slice (some ⟨g2, o2, none⟩) n c2] 27 (0, 0)) := by rw [heap_alloc_old _ _ (by omega)]; exact h14
              have hs5 : (w4.alloc (.cells lv.c 46)).heap.size = w4.heap.size + 1 := by simp
              rw [← hf] at hf5 hs5 ⊢
              generalize w4.alloc _ = w5 at hf5 hB5 hown5 h05 h15 hs5
              have hB05 : Hid (Below w.heap.size w w5) := hB04.out.trans (hB5.mono (by omega))
              have hra5 := range_below hra hB05.out hg
              have hra25 := range_below hra2 hB05.out hg2
              clear hown4 h04 h14 hB5 hB04
              have hlvb : Hid (goOn (args.drop i) (ts.drop i) out = if lb then (if eqV lv tv then goOn (args.drop (i + 1)) (ts.drop (i + 1)) out else none) else goOn (args.drop (i + 1)) (ts.drop (i + 1)) (out ++ [⟨e.x, tv⟩])) := by rw [hlv, hlb]; exact hstep'
              clear hstep' hlv hlb
              cases lb with
              | true =>
                go_upto_region 10 with fail
                refine wp_region_quiet (C := Below w5.heap.size w5) (by kernel_rfl) (by kernel_rfl) (Below.refl _ _).drew ?_
                refine quiet_run rfl (.agg lv.c) (fun w' h => exec_load_row 46 w' _ rfl f (by kernel_rfl) 46 _ (0, 0) _ (by rw [h.block _ (by omega)]; exact hf5) Try.underlying46 rfl (by kernel_rfl)) ?_
                simp only [Act.put, List.setIfInBounds_toArray, List.set_cons_zero, List.set_cons_succ]
                refine quiet_run rfl (.pointer (some ⟨w.heap.size + 1, 1, none⟩)) (fun _ _ => by kernel_rfl) ?_
                simp only [Act.put, List.setIfInBounds_toArray, List.set_cons_zero, List.set_cons_succ]
                refine quiet_run rfl (.slice (some ⟨g2, o2, none⟩) n c2) (fun w' h => exec_load_cell 25 w' _ rfl ⟨w.heap.size + 1, 1, none⟩ (by kernel_rfl) _ (by rw [h.cell (by show w.heap.size + 1 < _; omega), cell_of_row _ _ _ _ _ _ h15]; rfl) (fun _ => by kernel_rfl)) ?_
                simp only [Act.put, List.setIfInBounds_toArray, List.set_cons_zero, List.set_cons_succ]
                refine quiet_run rfl (.int .i64 i) (fun _ _ => by kernel_rfl) ?_
                simp only [Act.put, List.setIfInBounds_toArray, List.set_cons_zero, List.set_cons_succ]
                refine quiet_run rfl (.pointer (some ⟨g2, o2 + i * 2, none⟩)) (fun w' _ => exec_index un25 sz25 _ _ rfl g2 o2 n c2 i (by kernel_rfl) (by kernel_rfl) hlt w') ?_
                simp only [Act.put, List.setIfInBounds_toArray, List.set_cons_zero, List.set_cons_succ]
                refine quiet_run rfl (.agg tv.c) (fun w' h => exec_load_mid 46 w' _ rfl g2 (o2 + i * 2) (by kernel_rfl) tv.c.toList _ (range_below hra25 h (by omega)) Try.underlying46 rfl (by kernel_rfl)) ?_
                simp only [Act.put, List.setIfInBounds_toArray, List.set_cons_zero, List.set_cons_succ]
                refine quiet_run rfl (.bool (!(eqV lv tv))) (fun w' _ => exec_neq46 _ _ rfl lv tv (by kernel_rfl) (by kernel_rfl) w') ?_
                simp only [Act.put, List.setIfInBounds_toArray, List.set_cons_zero, List.set_cons_succ]
                refine wpQuiet_nil ?_
                intro w6 hB6
                have hB06 : Hid (Below w.heap.size w w6) := hB05.out.trans (hB6.mono (by omega))
                have hown6 : w6.ownsRow W.heap.size 50 3 (.slice Ao out.length co) out.length (flat T3.c out) := own_keep3 hown5 (fun q hq => hB6.block q (hown5.lt q hq).2)
                have h06 : Hid (∃ kk : Nat, w6.heap[w.heap.size]? = some (.cells #[.int .u8 (kk : Int), .string p, .slice (some ⟨g, o, none⟩) n c1] 24 (0, 0))) := ⟨kk, by rw [hB6.block _ (by omega)]; exact h05⟩
                have h16 : w6.heap[w.heap.size + 1]? = some (.cells #[.string tp, .slice (some ⟨g2, o2, none⟩) n c2] 27 (0, 0)) := by rw [hB6.block _ (by omega)]; exact h15
                have hs6 : W.heap.size ≤ w6.heap.size := by have := hB6.size; omega
                clear hf5 hown5 h05 h15 hra5 hra25 hB05 hB6
                cases hq2 : eqV lv tv with
                | true =>
                  have hgo2 : Hid (goOn args ts b = goOn (args.drop (i + 1)) (ts.drop (i + 1)) out) := by show _ = _; rw [hgo.out, hlvb.out, hq2]; rfl
                  clear hgo hlvb hq2
                  go_wp2_with fail
                  go_roundw
                  case rel => exact ⟨i + 1, out, by omega, by go_num, by omega, hown6, hgo2, h06, h16, hs6, hB06⟩
                  case measure => simp [intOf]; omega
                | false =>
                  have hgo2 : Hid (r = none) := by show _ = _; rw [hrr.out, hgo.out, hlvb.out, hq2]; rfl
                  clear hgo hlvb hq2
                  go_wp2_with fail
                  refine bodyPost_ret (v := .tuple #[.slice none 0 0, .bool false]) (by kernel_rfl) (by kernel_rfl) ?_
                  exact ⟨_, by rw [hgo2.out]; rfl, by rw [hgo2.out]; exact Rw.nil, hB06.out⟩
              | false =>
                have hgo2 : Hid (goOn args ts b = goOn (args.drop (i + 1)) (ts.drop (i + 1)) (out ++ [⟨e.x, tv⟩])) := by show _ = _; rw [hgo.out, hlvb.out]; rfl
                clear hgo hlvb hf5
                go_upto_region 9 with fail
                have hown7 := hown5.drew
                refine wp_region_held_drew (S := fun w' => Below W.heap.size w5 w') (by kernel_rfl) (Below.refl _ _).drew (fun hS => ?_)
                change wpAnyH _ _ _ _ _ 16 (Array.replicate 16 false) _ _
                generalize hx : w5.drew = w7 at hS hown7
                clear hx
                refine held_take 0 rfl (by kernel_rfl) (by kernel_rfl) (by kernel_rfl) (.slice Ao out.length co) (fun _ _ _ h => h) (by kernel_rfl) (fun _ _ => by kernel_rfl) hS ?_
                simp only [Act.put, List.setIfInBounds_toArray, List.set_cons_zero, List.set_cons_succ, List.getElem_toArray, List.getElem_cons_succ, List.getElem_cons_zero]
                refine held_take 1 rfl (by kernel_rfl) (by kernel_rfl) (by kernel_rfl) (.pointer (some ⟨w.heap.size, 2, none⟩)) (fun _ _ _ h => h) (by kernel_rfl) (fun _ _ => by kernel_rfl) hS ?_
                simp only [Act.put, List.setIfInBounds_toArray, List.set_cons_zero, List.set_cons_succ, List.getElem_toArray, List.getElem_cons_succ, List.getElem_cons_zero]
                refine held_take 2 rfl (by kernel_rfl) (by kernel_rfl) (by kernel_rfl) (.slice (some ⟨g, o, none⟩) n c1) (fun _ _ _ h => h) (by kernel_rfl) (fun w' h => exec_load_cell 22 w' _ rfl ⟨w.heap.size, 2, none⟩ (by kernel_rfl) _ (by rw [h.cell (by show w.heap.size < _; omega), cell_of_row _ _ _ _ _ _ h05]; rfl) (fun _ => by kernel_rfl)) hS ?_
                simp only [Act.put, List.setIfInBounds_toArray, List.set_cons_zero, List.set_cons_succ, List.getElem_toArray, List.getElem_cons_succ, List.getElem_cons_zero]
                refine held_take 3 rfl (by kernel_rfl) (by kernel_rfl) (by kernel_rfl) (.int .i64 i) (fun _ _ _ h => h) (by kernel_rfl) (fun _ _ => by kernel_rfl) hS ?_
                simp only [Act.put, List.setIfInBounds_toArray, List.set_cons_zero, List.set_cons_succ, List.getElem_toArray, List.getElem_cons_succ, List.getElem_cons_zero]
                refine held_take 4 rfl (by kernel_rfl) (by kernel_rfl) (by kernel_rfl) (.pointer (some ⟨g, o + i * 3, none⟩)) (fun _ _ _ h => h) (by kernel_rfl) (fun w' _ => exec_index un22 sz22 _ _ rfl g o n c1 i (by kernel_rfl) (by kernel_rfl) hlt w') hS ?_
                simp only [Act.put, List.setIfInBounds_toArray, List.set_cons_zero, List.set_cons_succ, List.getElem_toArray, List.getElem_cons_succ, List.getElem_cons_zero]
                refine held_take 5 rfl (by kernel_rfl) (by kernel_rfl) (by kernel_rfl) (.pointer (some ⟨g, o + i * 3, none⟩)) (fun _ _ _ h => h) (by kernel_rfl) (fun _ _ => by kernel_rfl) hS ?_
                simp only [Act.put, List.setIfInBounds_toArray, List.set_cons_zero, List.set_cons_succ, List.getElem_toArray, List.getElem_cons_succ, List.getElem_cons_zero]
                refine held_take 6 rfl (by kernel_rfl) (by kernel_rfl) (by kernel_rfl) (.string e.x) (fun _ _ _ h => h) (by kernel_rfl) (fun w' h => exec_load_cell 9 w' _ rfl ⟨g, o + i * 3, none⟩ (by kernel_rfl) _ (range_below hra5 h (by omega) 0 _ rfl) (fun _ => by kernel_rfl)) hS ?_
                simp only [Act.put, List.setIfInBounds_toArray, List.set_cons_zero, List.set_cons_succ, List.getElem_toArray, List.getElem_cons_succ, List.getElem_cons_zero]
                refine held_take 7 rfl (by kernel_rfl) (by kernel_rfl) (by kernel_rfl) (.pointer (some ⟨w.heap.size + 1, 1, none⟩)) (fun _ _ _ h => h) (by kernel_rfl) (fun _ _ => by kernel_rfl) hS ?_
                simp only [Act.put, List.setIfInBounds_toArray, List.set_cons_zero, List.set_cons_succ, List.getElem_toArray, List.getElem_cons_succ, List.getElem_cons_zero]
                refine held_take 8 rfl (by kernel_rfl) (by kernel_rfl) (by kernel_rfl) (.slice (some ⟨g2, o2, none⟩) n c2) (fun _ _ _ h => h) (by kernel_rfl) (fun w' h => exec_load_cell 25 w' _ rfl ⟨w.heap.size + 1, 1, none⟩ (by kernel_rfl) _ (by rw [h.cell (by show w.heap.size + 1 < _; omega), cell_of_row _ _ _ _ _ _ h15]; rfl) (fun _ => by kernel_rfl)) hS ?_
                simp only [Act.put, List.setIfInBounds_toArray, List.set_cons_zero, List.set_cons_succ, List.getElem_toArray, List.getElem_cons_succ, List.getElem_cons_zero]
                refine held_take 9 rfl (by kernel_rfl) (by kernel_rfl) (by kernel_rfl) (.int .i64 i) (fun _ _ _ h => h) (by kernel_rfl) (fun _ _ => by kernel_rfl) hS ?_
                simp only [Act.put, List.setIfInBounds_toArray, List.set_cons_zero, List.set_cons_succ, List.getElem_toArray, List.getElem_cons_succ, List.getElem_cons_zero]
                refine held_take 10 rfl (by kernel_rfl) (by kernel_rfl) (by kernel_rfl) (.pointer (some ⟨g2, o2 + i * 2, none⟩)) (fun _ _ _ h => h) (by kernel_rfl) (fun w' _ => exec_index un25 sz25 _ _ rfl g2 o2 n c2 i (by kernel_rfl) (by kernel_rfl) hlt w') hS ?_
                simp only [Act.put, List.setIfInBounds_toArray, List.set_cons_zero, List.set_cons_succ, List.getElem_toArray, List.getElem_cons_succ, List.getElem_cons_zero]
                refine held_take 11 rfl (by kernel_rfl) (by kernel_rfl) (by kernel_rfl) (.agg tv.c) (fun _ _ _ h => h) (by kernel_rfl) (fun w' h => exec_load_mid 46 w' _ rfl g2 (o2 + i * 2) (by kernel_rfl) tv.c.toList _ (range_below hra25 h (by omega)) Try.underlying46 rfl (by kernel_rfl)) hS ?_
                simp only [Act.put, List.setIfInBounds_toArray, List.set_cons_zero, List.set_cons_succ, List.getElem_toArray, List.getElem_cons_succ, List.getElem_cons_zero]
                refine held_take 12 rfl (by kernel_rfl) (by kernel_rfl) (by kernel_rfl) (.agg (T3.c ⟨e.x, tv⟩)) (fun _ _ _ h => h) (by kernel_rfl) (fun _ _ => by kernel_rfl) hS ?_
                simp only [Act.put, List.setIfInBounds_toArray, List.set_cons_zero, List.set_cons_succ, List.getElem_toArray, List.getElem_cons_succ, List.getElem_cons_zero]
                have hs7 : w5.heap.size ≤ w7.heap.size := hS.size
                refine held_new 13 rfl (by kernel_rfl) (by kernel_rfl) (.slice (some ⟨w7.heap.size, 0, none⟩) 1 1) (w7.alloc (.cells (T3.c ⟨e.x, tv⟩) 50)) (by kernel_rfl) (fun w' => Below W.heap.size w5 w' ∧ w'.ownsRow W.heap.size 50 3 (.slice Ao out.length co) out.length (flat T3.c out) ∧ w'.heap[w7.heap.size]? = some (.cells (T3.c ⟨e.x, tv⟩) 50 (0, 0))) ⟨hS.alloc (by omega) _, hown7.alloc _, heap_alloc_new _ _⟩ ?_
                rintro w8 ⟨hS8, hown8, hnew8⟩
                refine ⟨hS8, ?_⟩
                simp only [Act.put, List.setIfInBounds_toArray, List.set_cons_zero, List.set_cons_succ, List.getElem_toArray, List.getElem_cons_succ, List.getElem_cons_zero]
                refine held_one 14 rfl (by kernel_rfl) (by kernel_rfl) (fun K hK => ?_)
                refine wp_append_own w8 _ _ 28 rfl W.heap.size 50 i50 z3 3 40 Try.underlying28 hi50 hz0 hz1 hz2 rfl (by decide) (.slice Ao out.length co) out.length (flat T3.c out) (by kernel_rfl) hown8 ⟨w7.heap.size, 0, none⟩ 1 1 (T3.c ⟨e.x, tv⟩).toList (by kernel_rfl) rfl (fun j u hu => by rw [Addr.add_mid, Nat.zero_add, cell_of_row _ _ _ _ _ _ hnew8]; simpa using hu) (t3_ones _) (by unfold maxLen; omega) (by omega) (by have := hS8.size; omega) ?_
                intro v9 w9 hw9 hgr9 hnil9
                clear hnil9
                have hS9 : Below W.heap.size w5 w9 := Below.grown hS8 hgr9 (by have := hS8.size; omega) (fun q hq => (hown8.lt q hq).1)
                have hown9 : w9.ownsRow W.heap.size 50 3 v9 (out ++ [(⟨e.x, tv⟩ : T3)]).length (flat T3.c (out ++ [(⟨e.x, tv⟩ : T3)])) := by
                  rw [flat_app, List.length_append]; exact hw9
                clear hw9
                refine hK _ _ hS9 ?_
                simp only [Act.put, List.setIfInBounds_toArray, List.set_cons_zero, List.set_cons_succ, List.getElem_toArray, List.getElem_cons_succ, List.getElem_cons_zero]
                refine held_take 15 rfl (by kernel_rfl) (by kernel_rfl) (by kernel_rfl) v9 (fun _ _ _ h => h) (by kernel_rfl) (fun _ _ => by kernel_rfl) hS9 ?_
                simp only [Act.put, List.setIfInBounds_toArray, List.set_cons_zero, List.set_cons_succ, List.getElem_toArray, List.getElem_cons_succ, List.getElem_cons_zero]
                refine wpAnyH_done (by kernel_rfl) ?_ _
                have h09 : Hid (∃ kk : Nat, w9.heap[w.heap.size]? = some (.cells #[.int .u8 (kk : Int), .string p, .slice (some ⟨g, o, none⟩) n c1] 24 (0, 0))) := ⟨kk, by rw [hS9.block _ (by omega)]; exact h05⟩
                have h19 : w9.heap[w.heap.size + 1]? = some (.cells #[.string tp, .slice (some ⟨g2, o2, none⟩) n c2] 27 (0, 0)) := by rw [hS9.block _ (by omega)]; exact h15
                have hB09 : Hid (Below w.heap.size w w9) := hB05.out.trans (hS9.mono (by omega))
                have hs9 : W.heap.size ≤ w9.heap.size := by have := hS9.size; omega
                clear hS hown7 hS8 hown8 hnew8 hgr9 hS9 h05 h15 hown5 hra5 hra25 hB05 hK
                rename_i hK
                refine hK _ _ ?_
                go_wp2_with fail
                go_roundw
                case rel => exact ⟨i + 1, out ++ [⟨e.x, tv⟩], by omega, by go_num, by simp; omega, hown9, hgo2, h09, h19, hs9, hB09⟩
                case measure => simp [intOf]; omega
            · have hI : ¬ (i : Int) < (n : Int) := by omega
              have hgo2 : Hid (r = some out) := by show _ = _; rw [hrr.out, hgo.out, goOn_end args ts out i (by have := hna'.out; omega)]
              have c11 : wr.cell? ⟨w.heap.size + 1, 1, none⟩ = some (.slice A2 n c2) := by rw [cell_of_row _ _ _ _ _ _ h1]; rfl
              go_wp2_with fail
              refine bodyPost_ret (v := .tuple #[u8, .bool true]) (by kernel_rfl) (by kernel_rfl) ?_
              exact ⟨_, by rw [hgo2.out]; rfl, by rw [hgo2.out]; exact Rw.own t3_size (by decide) hown, hB.out⟩
      · have hnme : ((n : Int) == (m : Int)) = false := by rw [beq_eq_false_iff_ne]; omega
        have hrr : Hid (r = none) := by
          show _ = _
          rw [hr.out]; unfold matchS; rw [if_neg (fun h => hnm (by have := hH.out.1; omega))]
        rcases hk' with rfl | ⟨hk1, rfl⟩
        all_goals
          clear hk
          go_wp2_with fail
          refine bodyPost_ret (v := .tuple #[.slice none 0 0, .bool false]) (by kernel_rfl) (by kernel_rfl) ?_
          exact ⟨_, by rw [hrr.out]; rfl, by rw [hrr.out]; exact Rw.nil, hWB'.out⟩
    · have hpe : (p.toList == tp.toList) = false := by simpa using hp
      have hrr : Hid (r = none) := by
        show _ = _
        rw [hr.out]; unfold matchS; rw [if_neg (fun h => hp h.2.1)]
      rcases hk' with rfl | ⟨hk1, rfl⟩
      all_goals
        clear hk
        go_wp2_with fail
        refine bodyPost_ret (v := .tuple #[.slice none 0 0, .bool false]) (by kernel_rfl) (by kernel_rfl) ?_
        exact ⟨_, by rw [hrr.out]; rfl, by rw [hrr.out]; exact Rw.nil, hWB'.out⟩
  · have e1 : ((k : Int) == 1) = false := by rw [beq_eq_false_iff_ne]; omega
    have e2 : ((k : Int) == 2) = false := by rw [beq_eq_false_iff_ne]; omega
    have hrr : Hid (r = none) := by
      show _ = _
      rw [hr.out]; unfold matchS; rw [if_neg (fun h => hk h.1)]
    go_wp2_with fail
    refine bodyPost_ret (v := .tuple #[.slice none 0 0, .bool false]) (by kernel_rfl) (by kernel_rfl) ?_
    exact ⟨_, by rw [hrr.out]; rfl, by rw [hrr.out]; exact Rw.nil, hWB'.out⟩
end Go.Proofs.Ytehgblnhhlgikaa.Bi
