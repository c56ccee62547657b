/-
  Bindings: the tuples that a literal matches: the law's walk.
-/
import Derived.Test.YtehgblnhhlgikaaBiLaw0
import Derived.Test.YtehgblnhhlgikaaBiSameAll
import Derived.Test.YtehgblnhhlgikaaBiRowsIn
namespace Go.Proofs.Ytehgblnhhlgikaa.Bi
open Go.RowKit
set_option linter.unusedVariables false
set_option linter.unusedSimpArgs false
set_option pp.maxSteps 50000
/-- What the law over a literal and tuples keeps. -/
structure CtxS (w0 : World) (B : Nat) (f : Array Value) (va vl : Value) (args : List T3) (l : List TT) (w : World) : Prop where
  hf : w.heap[B]? = some (.cells f 24 (0, 0))
  ha : Rw 3 T3.c w va args
  hl : Rw 2 TT.cs w vl l
  hi : ∀ t ∈ l, Rw 2 V2.c w t.v t.vs
  hB : Below w0.heap.size w0 w
theorem CtxS.below {w0 w w' : World} {B : Nat} {f : Array Value} {va vl : Value} {args : List T3} {l : List TT} (h : CtxS w0 B f va vl args l w) (hb : Below w.heap.size w w') : CtxS w0 B f va vl args l w' :=
  ⟨heap_kept h.hf hb, h.ha.below hb, h.hl.below hb, fun t ht => (h.hi t ht).below hb, h.hB.trans (hb.mono h.hB.size)⟩
/-- Behind an append to a row that was made later than all of it. -/
theorem CtxS.grown {w0 w w' : World} {B H : Nat} {f : Array Value} {va vl : Value} {args : List T3} {l : List TT} (h0 : Rw 3 T3.c w0 va args ∧ Rw 2 TT.cs w0 vl l ∧ ∀ t ∈ l, Rw 2 V2.c w0 t.v t.vs) (h : CtxS w0 B f va vl args l w) (hw : w0.heap.size ≤ B) (hH : B < H) (hb : Below H w w') : CtxS w0 B f va vl args l w' := by
  have hB : Below w0.heap.size w0 w' := h.hB.trans (hb.mono (by omega))
  exact ⟨(hb.block B hH).trans h.hf, h0.1.below hB, h0.2.1.below hB, fun t ht => (h0.2.2 t ht).below hB, hB⟩
theorem key_mem {l l2 : List TT} (h : l.map TT.key = l2.map TT.key) {t : TT} (ht : t ∈ l) : ∃ t2 ∈ l2, t2.key = t.key := by
  have : t.key ∈ l2.map TT.key := by rw [← h]; exact List.mem_map_of_mem ht
  obtain ⟨t2, h1, h2⟩ := List.mem_map.1 this
  exact ⟨t2, h1, h2⟩
set_option maxRecDepth 100000 in
set_option maxHeartbeats 4000000 in
theorem lselects_calls (k : Nat) (p : ByteArray) (args : List T3) (l : List TT) (A1 A3 : Option Addr) (n m c1 c3 : Nat) (hn : n = args.length) (hm : m = l.length) (hga : ∀ t ∈ args, t.x.size ≤ 9223372036854775807) (w : World)
    (hgl : ∀ t ∈ l, t.good w) (hy1 : Rw 3 T3.c w (.slice A1 n c1) args) (hy3 : Rw 2 TT.cs w (.slice A3 m c3) l) :
    Calls Try.prog 5 #[.agg (flatC k p (.slice A1 n c1)), .slice A3 m c3] w fun e w' => e = .returned (.bool true) ∧ Below w.heap.size w w' := by
  have hn' : Hid (n = args.length) := hn
  have hm' : Hid (m = l.length) := hm
  have hgaH : Hid (∀ t ∈ args, t.x.size ≤ 9223372036854775807) := hga
  have hglH : Hid (∀ t ∈ l, t.good w) := hgl
  have hin : Hid (Rw 3 T3.c w (.slice A1 n c1) args ∧ Rw 2 TT.cs w (.slice A3 m c3) l ∧ ∀ t ∈ l, Rw 2 V2.c w t.v t.vs) := ⟨hy1, hy3, fun t ht => (hgl t ht).2.2⟩
  clear hn hm hga hgl hy1 hy3
  obtain ⟨i27, hi27, hz0, hz1, hz2⟩ := info_parts inf27
  unfold flatC
  go_enter Try.func5, Try.ntmps5
  go_upto_region 1 with fail
  generalize hW : World.alloc _ _ = W
  have hW0 : W.heap[w.heap.size]? = some (.cells (flatC k p (.slice A1 n c1)) 24 (0, 0)) := by rw [← hW]; exact heap_alloc_new w _
  have hWB : Below w.heap.size w W := by rw [← hW]; exact (Below.refl _ _).alloc (Nat.le_refl _) _
  clear hW
  obtain ⟨B, hBd⟩ : ∃ B, B = w.heap.size := ⟨_, rfl⟩
  have hBH : Hid (w.heap.size ≤ B) := by show _ ≤ _; omega
  rw [← hBd] at hW0 ⊢
  have hC : Hid (CtxS w B (flatC k p (.slice A1 n c1)) (.slice A1 n c1) (.slice A3 m c3) args l W) := ⟨hW0, hin.out.1.below hWB, hin.out.2.1.below hWB, fun t ht => (hin.out.2.2 t ht).below hWB, hWB⟩
  clear hW0 hWB hBd
  refine wp_region_lit ?_
  refine sl_call rfl 8 #[] (by kernel_rfl) (R := fun v w' => v = .bool true ∧ Below W.heap.size W w') ((fixed_calls W).mono fun e w' h => ⟨_, h.1, rfl, h.2⟩) ?_
  rintro _ w1 ⟨rfl, hb⟩
  simp only [Act.put, List.setIfInBounds_toArray, List.set_cons_zero, List.set_cons_succ]
  replace hC := (show Hid (CtxS w B (flatC k p (.slice A1 n c1)) (.slice A1 n c1) (.slice A3 m c3) args l w1) from hC.out.below hb)
  clear hb
  refine sl_run rfl (.bool false) w1 (by kernel_rfl) ?_
  simp only [Act.put, List.setIfInBounds_toArray, List.set_cons_zero, List.set_cons_succ]
  refine wpList_nil ?_
  have c02 : w1.cell? ⟨B, 2, none⟩ = some (.slice A1 n c1) := by rw [cell_of_row _ _ _ _ _ _ hC.out.hf]; rfl
  by_cases h1 : 200 < m
  · have hI1 : (200 : Int) < (m : Int) := by omega
    go_wp2_with fail
    go_ret
    exact ⟨rfl, hC.out.hB⟩
  have hI1 : ¬ (200 : Int) < (m : Int) := by omega
  by_cases h3 : 100 < n
  · have hI3 : (100 : Int) < (n : Int) := by omega
    go_wp2_with fail
    go_ret
    exact ⟨rfl, hC.out.hB⟩
  have hI3 : ¬ (100 : Int) < (n : Int) := by omega
  have hn9 : n ≤ 1000000 := by omega
  have hm9 : m ≤ 200 := by omega
  have hn8 : Hid (n ≤ 100) := by show _ ≤ _; omega
  clear h1 h3
  obtain ⟨H, hH⟩ : ∃ H, H = w1.heap.size := ⟨_, rfl⟩
  have hH1 : B < H := by rw [hH]; exact (Array.getElem?_eq_some_iff.1 hC.out.hf).1
  have hown0 : Hid (w1.ownsRow H 27 2 (.slice none 0 0) ((l.take 0).filter (hits k p args)).length (flat TT.cs ((l.take 0).filter (hits k p args)))) := World.ownsRow_nil _ _ _ _
  have hHs0 : H ≤ w1.heap.size := by omega
  clear hH
  go_upto_region 6 with fail
  go_wp2_with fail
  go_loopw [5, 6] (fun v u wr => ∃ (i : Nat), i ≤ m ∧ u = .int .i64 i ∧ Hid (wr.ownsRow H 27 2 v ((l.take i).filter (hits k p args)).length (flat TT.cs ((l.take i).filter (hits k p args)))) ∧ H ≤ wr.heap.size ∧ Hid (CtxS w B (flatC k p (.slice A1 n c1)) (.slice A1 n c1) (.slice A3 m c3) args l wr)) (fun _ u _ => m - (intOf u).toNat)
  case atStart => exact ⟨0, by omega, rfl, hown0, hHs0, hC⟩
  case round =>
    clear hown0 hC c02 hHs0
    obtain ⟨i, hi, rfl, hown, hHs, hC⟩ := hrel
    by_cases hlt : i < m
    · have hil : i < l.length := by rw [← hm'.out]; exact hlt
      have hI : (i : Int) < (m : Int) := by omega
      obtain ⟨g, o, rfl, hnc, hg, _⟩ := hin.out.2.1.elem i hil
      obtain ⟨t, ht⟩ : ∃ t, t = l.getD i default := ⟨_, rfl⟩
      have htm : t ∈ l := by rw [ht]; exact tt_in hil
      have htH : Hid (t ∈ l) := htm
      have htk : Hid (l.take (i + 1) = l.take i ++ [t]) := by show _ = _; rw [take_next hil, ht]
      have hra : wr.rangeAt g (o + i * 2) t.cs.toList := by rw [ht]; exact run_elem hC.out.hl i hil
      have hgl : g < wr.heap.size := by have := hC.out.hB.size; omega
      clear ht htm hil hg
      obtain ⟨As, cs, rfl⟩ := own_form hown.out
      obtain ⟨wl, hwl⟩ : ∃ wl, wl = (l.take i).filter (hits k p args) := ⟨_, rfl⟩
      rw [← hwl] at hown ⊢
      have hwlH : Hid (wl = (l.take i).filter (hits k p args)) := hwl
      have hwl9 : wl.length ≤ i := by rw [hwl]; exact Nat.le_trans (List.length_filter_le _ _) (List.length_take_le _ _)
      clear hwl
      obtain ⟨hb, hhb⟩ : ∃ hb, hb = hits k p args t := ⟨_, rfl⟩
      have hhb' : Hid (hb = hits k p args t) := hhb
      clear hhb
      go_upto_region 9 with fail
      refine wp_region_held_drew (S := fun w' => Below wr.heap.size wr w') (by kernel_rfl) (Below.refl _ _).drew (fun hS => ?_)
      change wpAnyH _ _ _ _ _ 11 (Array.replicate 11 false) _ _
      generalize hx : wr.drew = v0 at hS
      clear hx
      refine held_take 0 rfl (by kernel_rfl) (by kernel_rfl) (by kernel_rfl) (.agg (flatC k p (.slice A1 n c1))) (fun _ _ _ h => h) (by kernel_rfl) (fun w' h => exec_load_row 24 w' _ rfl B (by kernel_rfl) 24 _ (0, 0) _ (heap_kept hC.out.hf h) Try.underlying24 rfl (by kernel_rfl)) hS ?_
      simp only [Act.put, List.setIfInBounds_toArray, List.set_cons_zero, List.set_cons_succ, List.getElem_toArray, List.getElem_cons_succ, List.getElem_cons_zero]
      refine held_take 1 rfl (by kernel_rfl) (by kernel_rfl) (by kernel_rfl) (.slice (some ⟨g, o, none⟩) m c3) (fun _ _ _ h => h) (by kernel_rfl) (fun _ _ => by kernel_rfl) hS ?_
      simp only [Act.put, List.setIfInBounds_toArray, List.set_cons_zero, List.set_cons_succ, List.getElem_toArray, List.getElem_cons_succ, List.getElem_cons_zero]
      refine held_take 2 rfl (by kernel_rfl) (by kernel_rfl) (by kernel_rfl) (.int .i64 i) (fun _ _ _ h => h) (by kernel_rfl) (fun _ _ => by kernel_rfl) hS ?_
      simp only [Act.put, List.setIfInBounds_toArray, List.set_cons_zero, List.set_cons_succ, List.getElem_toArray, List.getElem_cons_succ, List.getElem_cons_zero]
      refine held_take 3 rfl (by kernel_rfl) (by kernel_rfl) (by kernel_rfl) (.pointer (some ⟨g, o + i * 2, none⟩)) (fun _ _ _ h => h) (by kernel_rfl) (fun w' _ => exec_index un41 sz41 _ _ rfl g o m c3 i (by kernel_rfl) (by kernel_rfl) hlt w') hS ?_
      simp only [Act.put, List.setIfInBounds_toArray, List.set_cons_zero, List.set_cons_succ, List.getElem_toArray, List.getElem_cons_succ, List.getElem_cons_zero]
      refine held_take 4 rfl (by kernel_rfl) (by kernel_rfl) (by kernel_rfl) (.agg t.cs) (fun _ _ _ h => h) (by kernel_rfl) (fun w' h => exec_load_mid 27 w' _ rfl g (o + i * 2) (by kernel_rfl) t.cs.toList _ (range_below hra h hgl) Try.underlying27 rfl (by kernel_rfl)) hS ?_
      simp only [Act.put, List.setIfInBounds_toArray, List.set_cons_zero, List.set_cons_succ, List.getElem_toArray, List.getElem_cons_succ, List.getElem_cons_zero]
      refine held_call 5 rfl (by kernel_rfl) (by kernel_rfl) 11 #[.agg (flatC k p (.slice A1 n c1)), .agg t.cs, .slice none 0 0] (by kernel_rfl) (R := fun v w' => ∃ mv, v = .tuple #[mv, .bool hb] ∧ Below v0.heap.size v0 w') ((rmatch_calls k p t.p args [] t.vs A1 t.A none n t.vs.length 0 c1 t.c 0 hn'.out rfl rfl hn9 (by omega) hgaH.out v0 (hC.out.ha.below hS) ((hC.out.hi t htH.out).below hS) Rw.nil).mono fun e w' h => by
        obtain ⟨mv, h1, _, h3⟩ := h
        exact ⟨_, h1, mv, by rw [hhb'.out]; rfl, h3⟩) ?_
      rintro _ w4 ⟨mv, rfl, hb4⟩
      replace hS := hS.trans (hb4.mono hS.size)
      clear hb4
      refine ⟨hS, ?_⟩
      simp only [Act.put, List.setIfInBounds_toArray, List.set_cons_zero, List.set_cons_succ, List.getElem_toArray, List.getElem_cons_succ, List.getElem_cons_zero]
      refine held_take 6 rfl (by kernel_rfl) (by kernel_rfl) (by kernel_rfl) (.tuple #[mv, .bool hb]) (fun _ _ _ h => h) (by kernel_rfl) (fun _ _ => by kernel_rfl) hS ?_
      simp only [Act.put, List.setIfInBounds_toArray, List.set_cons_zero, List.set_cons_succ, List.getElem_toArray, List.getElem_cons_succ, List.getElem_cons_zero]
      refine held_take 7 rfl (by kernel_rfl) (by kernel_rfl) (by kernel_rfl) mv (fun _ _ _ h => h) (by kernel_rfl) (fun _ _ => by kernel_rfl) hS ?_
      simp only [Act.put, List.setIfInBounds_toArray, List.set_cons_zero, List.set_cons_succ, List.getElem_toArray, List.getElem_cons_succ, List.getElem_cons_zero]
      refine held_take 8 rfl (by kernel_rfl) (by kernel_rfl) (by kernel_rfl) (.bool hb) (fun _ _ _ h => h) (by kernel_rfl) (fun _ _ => by kernel_rfl) hS ?_
      simp only [Act.put, List.setIfInBounds_toArray, List.set_cons_zero, List.set_cons_succ, List.getElem_toArray, List.getElem_cons_succ, List.getElem_cons_zero]
      refine held_take 9 rfl (by kernel_rfl) (by kernel_rfl) (by kernel_rfl) mv (fun _ _ _ h => h) (by kernel_rfl) (fun _ _ => by kernel_rfl) hS ?_
      simp only [Act.put, List.setIfInBounds_toArray, List.set_cons_zero, List.set_cons_succ, List.getElem_toArray, List.getElem_cons_succ, List.getElem_cons_zero]
      refine held_take 10 rfl (by kernel_rfl) (by kernel_rfl) (by kernel_rfl) (.bool hb) (fun _ _ _ h => h) (by kernel_rfl) (fun _ _ => by kernel_rfl) hS ?_
      simp only [Act.put, List.setIfInBounds_toArray, List.set_cons_zero, List.set_cons_succ, List.getElem_toArray, List.getElem_cons_succ, List.getElem_cons_zero]
      refine wpAnyH_done (by kernel_rfl) ?_ _
      have hown4 : Hid (w4.ownsRow H 27 2 (.slice As wl.length cs) wl.length (flat TT.cs wl)) := own_keep hown.out (fun q hq => hS.block q (hown.out.lt q hq).2)
      have hra4 := range_below hra hS hgl
      have hHs4 : H ≤ w4.heap.size := by have := hS.size; omega
      have hC4 : Hid (CtxS w B (flatC k p (.slice A1 n c1)) (.slice A1 n c1) (.slice (some ⟨g, o, none⟩) m c3) args l w4) := hC.out.below hS
      clear hown hra hHs hC hS hgl
      rename_i hK
      refine hK _ _ ?_
      cases hb with
      | true =>
        have hwl2 : Hid (wl ++ [t] = (l.take (i + 1)).filter (hits k p args)) := by
          show _ = _
          rw [htk.out, List.filter_append, ← hwlH.out]
          simp [← hhb'.out]
        clear hwlH htk hhb'
        go_upto_region 11 with fail
        refine wp_region_lit ?_
        refine sl_run rfl (.slice As wl.length cs) w4 (by kernel_rfl) ?_
        simp only [Act.put, List.setIfInBounds_toArray, List.set_cons_zero, List.set_cons_succ]
        refine sl_run rfl (.slice (some ⟨g, o, none⟩) m c3) w4 (by kernel_rfl) ?_
        simp only [Act.put, List.setIfInBounds_toArray, List.set_cons_zero, List.set_cons_succ]
        refine sl_run rfl (.int .i64 i) w4 (by kernel_rfl) ?_
        simp only [Act.put, List.setIfInBounds_toArray, List.set_cons_zero, List.set_cons_succ]
        refine sl_run rfl (.pointer (some ⟨g, o + i * 2, none⟩)) w4 (exec_index un41 sz41 _ _ rfl g o m c3 i (by kernel_rfl) (by kernel_rfl) hlt w4) ?_
        simp only [Act.put, List.setIfInBounds_toArray, List.set_cons_zero, List.set_cons_succ]
        refine sl_run rfl (.agg t.cs) w4 (exec_load_mid 27 w4 _ rfl g (o + i * 2) (by kernel_rfl) t.cs.toList _ hra4 Try.underlying27 rfl (by kernel_rfl)) ?_
        simp only [Act.put, List.setIfInBounds_toArray, List.set_cons_zero, List.set_cons_succ]
        refine sl_run rfl (.slice (some ⟨w4.heap.size, 0, none⟩) 1 1) (w4.alloc (.cells t.cs 27)) (by kernel_rfl) ?_
        simp only [Act.put, List.setIfInBounds_toArray, List.set_cons_zero, List.set_cons_succ]
        have hown5 := hown4.out.alloc (.cells t.cs 27)
        have hb5 : Below w4.heap.size w4 (w4.alloc (.cells t.cs 27)) := (Below.refl _ _).alloc (Nat.le_refl _) _
        have hrw5 : Rw 2 TT.cs (w4.alloc (.cells t.cs 27)) (.slice (some ⟨w4.heap.size, 0, none⟩) 1 1) [t] := rw_one t (heap_alloc_new _ _)
        generalize w4.alloc _ = w5 at hown5 hb5 hrw5
        have hs5 := hb5.size
        refine appendRw 41 27 40 i27 zt Try.underlying41 hi27 hz0 hz1 hz2 rfl (by decide) tt_size tt_ones rfl _ _ rfl H (.slice As wl.length cs) wl [t] (by kernel_rfl) hown5 (.slice (some ⟨w4.heap.size, 0, none⟩) 1 1) (by kernel_rfl) hrw5 (by simp; omega) (by simp; omega) (by omega) ?_
        intro v6 w6 hown6 hgr6
        have hb6 : Below H w4 w6 := Below.grown (hb5.mono (by omega)) hgr6 (by omega) (fun q hq => (hown5.lt q hq).1)
        simp only [Act.put, List.setIfInBounds_toArray, List.set_cons_zero, List.set_cons_succ]
        refine sl_run rfl v6 w6 (by kernel_rfl) ?_
        simp only [Act.put, List.setIfInBounds_toArray, List.set_cons_zero, List.set_cons_succ]
        refine wpList_nil ?_
        have hC6 : Hid (CtxS w B (flatC k p (.slice A1 n c1)) (.slice A1 n c1) (.slice (some ⟨g, o, none⟩) m c3) args l w6) := CtxS.grown hin.out hC4.out hBH.out hH1 hb6
        have hHs6 : H ≤ w6.heap.size := by have := hb6.size; omega
        have hown6' : Hid (w6.ownsRow H 27 2 v6 ((l.take (i + 1)).filter (hits k p args)).length (flat TT.cs ((l.take (i + 1)).filter (hits k p args)))) := by rw [← hwl2.out]; exact hown6
        clear hown4 hra4 hHs4 hC4 hown5 hb5 hrw5 hs5 hown6 hgr6 hb6 hwl2 hwl9
        go_wp2_with fail
        go_roundw
        case rel => exact ⟨i + 1, by omega, by go_num, hown6', hHs6, hC6⟩
        case measure => simp [intOf]; omega
      | false =>
        have hwl2 : Hid (wl = (l.take (i + 1)).filter (hits k p args)) := by
          show _ = _
          rw [htk.out, List.filter_append, ← hwlH.out]
          simp [← hhb'.out]
        have hown6' : Hid (w4.ownsRow H 27 2 (.slice As wl.length cs) ((l.take (i + 1)).filter (hits k p args)).length (flat TT.cs ((l.take (i + 1)).filter (hits k p args)))) := by rw [← hwl2.out]; exact hown4
        clear hwlH htk hhb' hown4 hwl2 hra4 hwl9
        go_wp2_with fail
        go_roundw
        case rel => exact ⟨i + 1, by omega, by go_num, hown6', hHs4, hC4⟩
        case measure => simp [intOf]; omega
    · have hI : ¬ (i : Int) < (m : Int) := by omega
      have him : i = m := by omega
      subst him
      obtain ⟨wl, hwl⟩ : ∃ wl, wl = l.filter (hits k p args) := ⟨_, rfl⟩
      have hown' := hown.out
      rw [List.take_of_length_le (by have := hm'.out; omega), ← hwl] at hown'
      obtain ⟨As, cs, rfl⟩ := own_form hown'
      have hw0 : Hid (Rw 2 TT.cs wr (.slice As wl.length cs) wl) := Rw.own tt_size (by decide) hown'
      have hwm : Hid (∀ t ∈ wl, t ∈ l ∧ t.vs.length = args.length) := fun t ht => by
        rw [hwl] at ht
        have h2 := List.mem_filter.1 ht
        exact ⟨h2.1, hits_len h2.2⟩
      have hwlH : Hid (wl = l.filter (hits k p args)) := hwl
      clear hown hown' hwl
      go_upto_region 12 with fail
      refine wp_region_lit ?_
      refine sl_run rfl (.agg (flatC k p (.slice A1 n c1))) wr (exec_load_row 24 wr _ rfl B (by kernel_rfl) 24 _ (0, 0) _ hC.out.hf Try.underlying24 rfl (by kernel_rfl)) ?_
      simp only [Act.put, List.setIfInBounds_toArray, List.set_cons_zero, List.set_cons_succ]
      refine sl_call rfl 10 #[.agg (flatC k p (.slice A1 n c1))] (by kernel_rfl) (R := fun v w' => ∃ A2 c2, v = .agg (flatC k p (.slice A2 n c2)) ∧ Rw 3 T3.c w' (.slice A2 n c2) args ∧ Below wr.heap.size wr w') ((copy_calls k p args A1 n c1 hn'.out hn9 wr hC.out.ha).mono fun e w' h => by
        obtain ⟨A2, c2, h1, h2, h3⟩ := h
        exact ⟨_, h1, A2, c2, rfl, h2, h3⟩) ?_
      rintro _ w2 ⟨A2, c2, rfl, hcp, hb⟩
      simp only [Act.put, List.setIfInBounds_toArray, List.set_cons_zero, List.set_cons_succ]
      have hC2 : CtxS w B (flatC k p (.slice A1 n c1)) (.slice A1 n c1) (.slice A3 i c3) args l w2 := hC.out.below hb
      have hw2 : Hid (Rw 2 TT.cs w2 (.slice As wl.length cs) wl) := hw0.out.below hb
      clear hC hw0 hb
      refine sl_run rfl (.slice A3 i c3) w2 (by kernel_rfl) ?_
      simp only [Act.put, List.setIfInBounds_toArray, List.set_cons_zero, List.set_cons_succ]
      refine sl_call rfl 19 #[.agg (flatC k p (.slice A2 n c2)), .slice A3 i c3] (by kernel_rfl) (R := fun v w' => ∃ sel, Rw 2 TT.cs w' v sel ∧ (∀ t ∈ sel, Rw 2 V2.c w' t.v t.vs) ∧ sel.map TT.key = wl.map TT.key ∧ Below w2.heap.size w2 w') ((select_calls k p args l A2 A3 n i c2 c3 hn'.out hm'.out hn9 (by omega) w2 hcp hC2.hl hC2.hi).mono fun e w' h => by
        obtain ⟨v, sel, h1, h2, h3, h4, h5⟩ := h
        exact ⟨v, h1, sel, h2, h3, by rw [h4, hwlH.out], h5⟩) ?_
      rintro v3 w3 ⟨sel, hs1, hs2, hs3, hb⟩
      have hC3 := hC2.below hb
      have hw3 : Rw 2 TT.cs w3 (.slice As wl.length cs) wl := hw2.out.below hb
      clear hC2 hw2 hb hcp
      have hsl : sel.length = wl.length := by rw [← List.length_map (f := TT.key), hs3, List.length_map]
      obtain ⟨A5, c5, rfl⟩ : ∃ A c, v3 = .slice A wl.length c := by
        obtain ⟨A, c, h⟩ := hs1.form
        exact ⟨A, c, by rw [h, hsl]⟩
      simp only [Act.put, List.setIfInBounds_toArray, List.set_cons_zero, List.set_cons_succ]
      refine sl_run rfl (.slice As wl.length cs) w3 (by kernel_rfl) ?_
      simp only [Act.put, List.setIfInBounds_toArray, List.set_cons_zero, List.set_cons_succ]
      have hwl9 : wl.length ≤ 4000000 := by
        rw [hwlH.out]
        have := List.length_filter_le (hits k p args) l
        have := hm'.out
        omega
      refine sl_call rfl 18 #[.slice A5 wl.length c5, .slice As wl.length cs] (by kernel_rfl) (R := fun v w' => v = .bool true ∧ Below w3.heap.size w3 w') ((sameAll_calls sel wl A5 As wl.length c5 cs hs3 hsl.symm hwl9 (fun t ht => by
          obtain ⟨t2, h2, h3⟩ := key_mem hs3 ht
          have : t2.p = t.p := congrArg Prod.fst h3
          rw [← this]; exact (hglH.out t2 (hwm.out t2 h2).1).1) (fun t ht => by
          obtain ⟨t2, h2, h3⟩ := key_mem hs3 ht
          have : t2.vs = t.vs := congrArg Prod.snd h3
          rw [← this]; exact (hglH.out t2 (hwm.out t2 h2).1).2.1) (fun t ht => by
          obtain ⟨t2, h2, h3⟩ := key_mem hs3 ht
          have : t2.vs = t.vs := congrArg Prod.snd h3
          rw [← this, (hwm.out t2 h2).2]
          have := hn8.out
          have := hn'.out
          omega) w3 hs1 hw3 hs2 (fun t ht => hC3.hi t (hwm.out t ht).1)).mono fun e w' h => ⟨_, h.1, rfl, h.2⟩) ?_
      rintro _ w4 ⟨rfl, hb⟩
      simp only [Act.put, List.setIfInBounds_toArray, List.set_cons_zero, List.set_cons_succ]
      have hB4 : Hid (Below w.heap.size w w4) := hC3.hB.trans (hb.mono hC3.hB.size)
      clear hs1 hs2 hs3 hw3 hC3 hb
      refine sl_run rfl (.bool true) w4 (by kernel_rfl) ?_
      simp only [Act.put, List.setIfInBounds_toArray, List.set_cons_zero, List.set_cons_succ]
      refine wpList_nil ?_
      go_wp2_with fail
      go_ret
      exact ⟨rfl, hB4.out⟩
end Go.Proofs.Ytehgblnhhlgikaa.Bi
