/-
  Bindings: any literal filled, any comparison: the law's walk.
-/
import Derived.Test.YtehgblnhhlgikaaBiLaw0
namespace Go.Proofs.Ytehgblnhhlgikaa.Bi
open Go.RowKit
set_option linter.unusedVariables false
set_option linter.unusedSimpArgs false
set_option pp.maxSteps 50000
theorem fillOn_ok {b : List T3} (hb : ∀ x ∈ b, x.v.ok) : ∀ (args : List T3) (out l : List V2), (∀ t ∈ args, t.v.ok) → (∀ v ∈ out, v.ok) → fillOn b args out = some l → (∀ v ∈ l, v.ok) ∧ l.length = out.length + args.length
  | [], out, l, _, ho, h => by
    rw [fillOn] at h
    injection h with h; subst h
    exact ⟨ho, by simp⟩
  | x :: xs, out, l, ha, ho, h => by
    rw [fillOn] at h
    split at h
    · have := fillOn_ok hb xs _ l (fun t ht => ha t (List.mem_cons_of_mem _ ht)) (fun v hv => by
        rcases List.mem_append.1 hv with hv | hv
        · exact ho v hv
        · rw [List.mem_singleton.1 hv]; exact look_ok hb (ha x (List.mem_cons_self ..))) h
      refine ⟨this.1, ?_⟩
      have h2 := this.2
      simp only [List.length_append, List.length_cons, List.length_nil] at h2 ⊢; omega
    · cases h
theorem fillS_ok {k : Nat} {args b : List T3} (ha : ∀ t ∈ args, t.v.ok) (hb : ∀ x ∈ b, x.v.ok) : (∀ v ∈ (fillS k args b).getD [], v.ok) ∧ ((fillS k args b).getD []).length ≤ args.length := by
  unfold fillS
  split
  · cases h : fillOn b args [] with
    | none => simp
    | some l =>
      have := fillOn_ok hb args [] l ha (by simp) h
      refine ⟨this.1, ?_⟩
      have h2 := this.2
      simp at h2 ⊢; omega
  · simp
set_option maxRecDepth 100000 in
set_option maxHeartbeats 4000000 in
theorem lfills_calls (k : Nat) (p : ByteArray) (args b : List T3) (A1 A3 : Option Addr) (n q c1 c3 : Nat) (hn : n = args.length) (hq : q = b.length) (hp9 : p.size ≤ 9223372036854775807) (hga : ∀ t ∈ args, t.x.size ≤ 9223372036854775807) (hga2 : ∀ t ∈ args, t.v.ok) (hgb : ∀ t ∈ b, t.v.ok) (w : World)
    (hy1 : Rw 3 T3.c w (.slice A1 n c1) args) (hy3 : Rw 3 T3.c w (.slice A3 q c3) b) :
    Calls Try.prog 4 #[.agg (flatC k p (.slice A1 n c1)), .slice A3 q c3] w fun e w' => e = .returned (.bool true) ∧ Below w.heap.size w w' := by
  obtain ⟨r, hr0⟩ : ∃ r, r = fillS k args b := ⟨_, rfl⟩
  have hrok : Hid ((∀ v ∈ r.getD [], v.ok) ∧ (r.getD []).length ≤ args.length) := by rw [hr0]; exact fillS_ok hga2 hgb
  obtain ⟨hit, hhit0⟩ : ∃ hit, hit = r.isSome := ⟨_, rfl⟩
  obtain ⟨s, hs0⟩ : ∃ s, s = if r.isSome then p else ByteArray.empty := ⟨_, rfl⟩
  have hs9 : Hid (s.size ≤ 9223372036854775807) := by
    rw [hs0]; split
    · exact hp9
    · show ByteArray.empty.size ≤ 9223372036854775807; decide
  obtain ⟨ho, hho0⟩ : ∃ ho, ho = holdsS k args b := ⟨_, rfl⟩
  obtain ⟨x1, hx10⟩ : ∃ x1, x1 = ho.1 := ⟨_, rfl⟩
  obtain ⟨x2, hx20⟩ : ∃ x2, x2 = ho.2 := ⟨_, rfl⟩
  obtain ⟨ln, hln0⟩ : ∃ ln, ln = (r.getD []).length := ⟨_, rfl⟩
  have hr : Hid (r = fillS k args b) := hr0
  have hhit : Hid (hit = r.isSome) := hhit0
  have hs : Hid (s = if r.isSome then p else ByteArray.empty) := hs0
  have hho : Hid (ho = holdsS k args b) := hho0
  have hx1 : Hid (x1 = ho.1) := hx10
  have hx2 : Hid (x2 = ho.2) := hx20
  have hln : Hid (ln = (r.getD []).length) := hln0
  have hn' : Hid (n = args.length) := hn
  have hq' : Hid (q = b.length) := hq
  have hgaH : Hid ((∀ t ∈ args, t.x.size ≤ 9223372036854775807) ∧ (∀ t ∈ args, t.v.ok) ∧ (∀ t ∈ b, t.v.ok)) := ⟨hga, hga2, hgb⟩
  have hin : Hid (Rw 3 T3.c w (.slice A1 n c1) args ∧ Rw 3 T3.c w (.slice A3 q c3) b) := ⟨hy1, hy3⟩
  clear hn hq hy1 hy3 hr0 hhit0 hs0 hho0 hx10 hx20 hln0 hga hga2 hgb hp9
  obtain ⟨i50, hi50, hz0, hz1, hz2⟩ := info_parts inf50
  unfold flatC
  go_enter Try.func4, Try.ntmps4
  go_upto_region 1 with fail
  generalize hW : World.alloc _ _ = W
  have hW0 : W.heap[w.heap.size]? = some (.cells (flatC k p (.slice A1 n c1)) 24 (0, 0)) := by rw [← hW]; exact heap_alloc_new w _
  have hWB : Below w.heap.size w W := by rw [← hW]; exact (Below.refl _ _).alloc (Nat.le_refl _) _
  clear hW
  obtain ⟨B, hBd⟩ : ∃ B, B = w.heap.size := ⟨_, rfl⟩
  rw [← hBd] at hW0 ⊢
  have hC : Hid (CtxF w B (flatC k p (.slice A1 n c1)) (.slice A1 n c1) (.slice A3 q c3) args b W) := ⟨hW0, hin.out.1.below hWB, hin.out.2.below hWB, hWB⟩
  clear hW0 hWB hin hBd
  refine wp_region_lit ?_
  refine sl_call rfl 8 #[] (by kernel_rfl) (R := fun v w' => v = .bool true ∧ Below W.heap.size W w') ((fixed_calls W).mono fun e w' h => ⟨_, h.1, rfl, h.2⟩) ?_
  rintro _ w1 ⟨rfl, hb⟩
  simp only [Act.put, List.setIfInBounds_toArray, List.set_cons_zero, List.set_cons_succ]
  replace hC := (show Hid (CtxF w B (flatC k p (.slice A1 n c1)) (.slice A1 n c1) (.slice A3 q c3) args b w1) from hC.out.below hb)
  clear hb
  refine sl_run rfl (.bool false) w1 (by kernel_rfl) ?_
  simp only [Act.put, List.setIfInBounds_toArray, List.set_cons_zero, List.set_cons_succ]
  refine wpList_nil ?_
  have c02 : w1.cell? ⟨B, 2, none⟩ = some (.slice A1 n c1) := by rw [cell_of_row _ _ _ _ _ _ hC.out.hf]; rfl
  by_cases h1 : 100 < n
  · have hI1 : (100 : Int) < (n : Int) := by omega
    go_wp2_with fail
    go_ret
    exact ⟨rfl, hC.out.hB⟩
  have hI1 : ¬ (100 : Int) < (n : Int) := by omega
  by_cases h3 : 100 < q
  · have hI3 : (100 : Int) < (q : Int) := by omega
    go_wp2_with fail
    go_ret
    exact ⟨rfl, hC.out.hB⟩
  have hI3 : ¬ (100 : Int) < (q : Int) := by omega
  have hn9 : n ≤ 1000000 := by omega
  have hq9 : q ≤ 100 := by omega
  clear h3
  go_upto_region 5 with fail
  refine wp_region_lit ?_
  refine sl_run rfl (.agg (flatC k p (.slice A1 n c1))) w1 (exec_load_row 24 w1 _ rfl B (by kernel_rfl) 24 _ (0, 0) _ hC.out.hf Try.underlying24 rfl (by kernel_rfl)) ?_
  simp only [Act.put, List.setIfInBounds_toArray, List.set_cons_zero, List.set_cons_succ]
  refine sl_call rfl 10 #[.agg (flatC k p (.slice A1 n c1))] (by kernel_rfl) (R := fun v w' => ∃ A2 c2, v = .agg (flatC k p (.slice A2 n c2)) ∧ Rw 3 T3.c w' (.slice A2 n c2) args ∧ Below w1.heap.size w1 w') ((copy_calls k p args A1 n c1 hn'.out hn9 w1 hC.out.ha).mono fun e w' h => by
      obtain ⟨A2, c2, h1, h2, h3⟩ := h
      exact ⟨_, h1, A2, c2, rfl, h2, h3⟩) ?_
  rintro _ w2 ⟨A2, c2, rfl, hcp0, hb⟩
  simp only [Act.put, List.setIfInBounds_toArray, List.set_cons_zero, List.set_cons_succ]
  have hcp : Hid (Rw 3 T3.c w2 (.slice A2 n c2) args) := hcp0
  clear hcp0
  replace hC := (show Hid (CtxF w B (flatC k p (.slice A1 n c1)) (.slice A1 n c1) (.slice A3 q c3) args b w2) from hC.out.below hb)
  clear hb
  refine sl_run rfl (.slice (some ⟨w2.heap.size, 0, none⟩) 0 0) (w2.alloc (.cells #[] 50)) (by kernel_rfl) ?_
  simp only [Act.put, List.setIfInBounds_toArray, List.set_cons_zero, List.set_cons_succ]
  refine sl_run rfl (.slice A3 q c3) (w2.alloc (.cells #[] 50)) (by kernel_rfl) ?_
  simp only [Act.put, List.setIfInBounds_toArray, List.set_cons_zero, List.set_cons_succ]
  have hmk : (w2.alloc (.cells #[] 50)).ownsRow w2.heap.size 50 3 (.slice (some ⟨w2.heap.size, 0, none⟩) 0 0) ([] : List T3).length (flat T3.c []) := World.ownsRow_made _ _ 0 (Nat.le_refl _) (by decide) rfl
  have hb0 : Below w2.heap.size w2 (w2.alloc (.cells #[] 50)) := (Below.refl _ _).alloc (Nat.le_refl _) _
  refine appendRw 28 50 40 i50 z3 Try.underlying28 hi50 hz0 hz1 hz2 rfl (by decide) t3_size t3_ones rfl _ _ rfl w2.heap.size _ [] b (by kernel_rfl) hmk _ (by kernel_rfl) ((hC.out.hb).below hb0) (by have := hq'.out; simp; omega) (by have := hq'.out; simp; omega) hb0.size ?_
  intro v6 w3 hap0 hgr
  rw [List.nil_append] at hap0
  obtain ⟨A6, c6, rfl⟩ := own_formq hap0 hq'.out
  have hb : Below w2.heap.size w2 w3 := Below.grown hb0 hgr hb0.size (fun q hq => (hmk.lt q hq).1)
  have hap : Hid (Rw 3 T3.c w3 (.slice A6 q c6) b) := by
    show Rw 3 T3.c w3 (.slice A6 q c6) b
    exact Rw.own t3_size (by decide) hap0
  clear hap0 hgr hmk hb0
  simp only [Act.put, List.setIfInBounds_toArray, List.set_cons_zero, List.set_cons_succ]
  replace hC := (show Hid (CtxF w B (flatC k p (.slice A1 n c1)) (.slice A1 n c1) (.slice A3 q c3) args b w3) from hC.out.below hb)
  replace hcp := (show Hid (Rw 3 T3.c w3 (.slice A2 n c2) (args)) from hcp.out.below hb)
  clear hb
  refine sl_call rfl 13 #[.agg (flatC k p (.slice A2 n c2)), .slice A6 q c6] (by kernel_rfl) (R := fun v w' => ∃ lv, v = .tuple #[.agg (tup s lv), .bool hit] ∧ Rw 2 V2.c w' lv (r.getD []) ∧ Below w3.heap.size w3 w') ((fill_calls k p args b A2 A6 n q c2 c6 hn'.out hq'.out hn9 (by omega) w3 hcp.out hap.out).mono fun e w' h => by
      rw [← hr.out] at h
      obtain ⟨lv, h1, h2, h3⟩ := h
      exact ⟨_, h1, lv, by rw [hs.out, hhit.out]; rfl, h2, h3⟩) ?_
  rintro _ w4 ⟨lv, rfl, hlv, hb⟩
  obtain ⟨lxA, lxc, rfl⟩ : ∃ A c, lv = .slice A ln c := by
    obtain ⟨A, c, h⟩ := hlv.form
    exact ⟨A, c, by rw [h, hln.out]⟩
  simp only [Act.put, List.setIfInBounds_toArray, List.set_cons_zero, List.set_cons_succ]
  have hlx : Hid (Rw 2 V2.c w4 (.slice lxA ln lxc) (r.getD [])) := hlv
  clear hlv
  replace hC := (show Hid (CtxF w B (flatC k p (.slice A1 n c1)) (.slice A1 n c1) (.slice A3 q c3) args b w4) from hC.out.below hb)
  replace hcp := (show Hid (Rw 3 T3.c w4 (.slice A2 n c2) (args)) from hcp.out.below hb)
  replace hap := (show Hid (Rw 3 T3.c w4 (.slice A6 q c6) (b)) from hap.out.below hb)
  clear hb
  refine sl_run rfl (.tuple #[.agg (tup s (.slice lxA ln lxc)), .bool hit]) w4 (by kernel_rfl) ?_
  simp only [Act.put, List.setIfInBounds_toArray, List.set_cons_zero, List.set_cons_succ]
  refine sl_run rfl (.agg (tup s (.slice lxA ln lxc))) w4 (by kernel_rfl) ?_
  simp only [Act.put, List.setIfInBounds_toArray, List.set_cons_zero, List.set_cons_succ]
  refine sl_run rfl (.bool hit) w4 (by kernel_rfl) ?_
  simp only [Act.put, List.setIfInBounds_toArray, List.set_cons_zero, List.set_cons_succ]
  refine sl_run rfl (.pointer (some ⟨w4.heap.size, 0, none⟩)) (w4.alloc (.cells (tup ByteArray.empty (.slice none 0 0)) 27)) (by kernel_rfl) ?_
  simp only [Act.put, List.setIfInBounds_toArray, List.set_cons_zero, List.set_cons_succ]
  refine wpList_store_row rfl 27 _ _ rfl w4.heap.size (tup s (.slice lxA ln lxc)) (by kernel_rfl) (by kernel_rfl) 27 _ (heap_alloc_new _ _) (by kernel_rfl) (by kernel_rfl) (tup_one _ _ _ _) ?_
  simp only [Act.put, List.setIfInBounds_toArray, List.set_cons_zero, List.set_cons_succ]
  rw [World.setRow_alloc_new]
  have hn0 : (w4.alloc (.cells (tup s (.slice lxA ln lxc)) 27)).heap[w4.heap.size]? = some (.cells (tup s (.slice lxA ln lxc)) 27 (0, 0)) := heap_alloc_new _ _
  have hb : Below w4.heap.size w4 (w4.alloc (.cells (tup s (.slice lxA ln lxc)) 27)) := (Below.refl _ _).alloc (Nat.le_refl _) _
  obtain ⟨T5, hg0⟩ : ∃ g, g = w4.heap.size := ⟨_, rfl⟩
  rw [← hg0] at hn0 ⊢
  generalize w4.alloc _ = w5 at hn0 hb ⊢
  have h5 : Hid (w5.heap[T5]? = some (.cells (tup s (.slice lxA ln lxc)) 27 (0, 0))) := hn0
  clear hn0 hg0
  replace hC := (show Hid (CtxF w B (flatC k p (.slice A1 n c1)) (.slice A1 n c1) (.slice A3 q c3) args b w5) from hC.out.below hb)
  replace hcp := (show Hid (Rw 3 T3.c w5 (.slice A2 n c2) (args)) from hcp.out.below hb)
  replace hap := (show Hid (Rw 3 T3.c w5 (.slice A6 q c6) (b)) from hap.out.below hb)
  replace hlx := (show Hid (Rw 2 V2.c w5 (.slice lxA ln lxc) (r.getD [])) from hlx.out.below hb)
  clear hb
  refine sl_run rfl (.bool hit) w5 (by kernel_rfl) ?_
  simp only [Act.put, List.setIfInBounds_toArray, List.set_cons_zero, List.set_cons_succ]
  refine wpList_nil ?_
  clear hcp hap
  go_upto_region 6 with fail
  refine wp_region_lit ?_
  refine sl_run rfl (.agg (flatC k p (.slice A1 n c1))) w5 (exec_load_row 24 w5 _ rfl B (by kernel_rfl) 24 _ (0, 0) _ hC.out.hf Try.underlying24 rfl (by kernel_rfl)) ?_
  simp only [Act.put, List.setIfInBounds_toArray, List.set_cons_zero, List.set_cons_succ]
  refine sl_run rfl (.slice A3 q c3) w5 (by kernel_rfl) ?_
  simp only [Act.put, List.setIfInBounds_toArray, List.set_cons_zero, List.set_cons_succ]
  refine sl_call rfl 14 #[.agg (flatC k p (.slice A1 n c1)), .slice A3 q c3] (by kernel_rfl) (R := fun v w' => ∃ lv, v = .tuple #[.agg (tup s lv), .bool hit] ∧ Rw 2 V2.c w' lv (r.getD []) ∧ Below w5.heap.size w5 w') ((rfill_calls k p args b A1 A3 n q c1 c3 hn'.out hq'.out hn9 (by omega) hgaH.out.1 w5 hC.out.ha hC.out.hb).mono fun e w' h => by
      rw [← hr.out] at h
      obtain ⟨lv, h1, h2, h3⟩ := h
      exact ⟨_, h1, lv, by rw [hs.out, hhit.out]; rfl, h2, h3⟩) ?_
  rintro _ w6 ⟨lv, rfl, hlv, hb⟩
  obtain ⟨lyA, lyc, rfl⟩ : ∃ A c, lv = .slice A ln c := by
    obtain ⟨A, c, h⟩ := hlv.form
    exact ⟨A, c, by rw [h, hln.out]⟩
  simp only [Act.put, List.setIfInBounds_toArray, List.set_cons_zero, List.set_cons_succ]
  have hly : Hid (Rw 2 V2.c w6 (.slice lyA ln lyc) (r.getD [])) := hlv
  clear hlv
  replace hC := (show Hid (CtxF w B (flatC k p (.slice A1 n c1)) (.slice A1 n c1) (.slice A3 q c3) args b w6) from hC.out.below hb)
  replace hlx := (show Hid (Rw 2 V2.c w6 (.slice lxA ln lxc) (r.getD [])) from hlx.out.below hb)
  replace h5 := (show Hid (w6.heap[T5]? = some (.cells (tup s (.slice lxA ln lxc)) 27 (0, 0))) from heap_kept h5.out hb)
  clear hb
  refine sl_run rfl (.tuple #[.agg (tup s (.slice lyA ln lyc)), .bool hit]) w6 (by kernel_rfl) ?_
  simp only [Act.put, List.setIfInBounds_toArray, List.set_cons_zero, List.set_cons_succ]
  refine sl_run rfl (.agg (tup s (.slice lyA ln lyc))) w6 (by kernel_rfl) ?_
  simp only [Act.put, List.setIfInBounds_toArray, List.set_cons_zero, List.set_cons_succ]
  refine sl_run rfl (.bool hit) w6 (by kernel_rfl) ?_
  simp only [Act.put, List.setIfInBounds_toArray, List.set_cons_zero, List.set_cons_succ]
  refine sl_run rfl (.pointer (some ⟨w6.heap.size, 0, none⟩)) (w6.alloc (.cells (tup ByteArray.empty (.slice none 0 0)) 27)) (by kernel_rfl) ?_
  simp only [Act.put, List.setIfInBounds_toArray, List.set_cons_zero, List.set_cons_succ]
  refine wpList_store_row rfl 27 _ _ rfl w6.heap.size (tup s (.slice lyA ln lyc)) (by kernel_rfl) (by kernel_rfl) 27 _ (heap_alloc_new _ _) (by kernel_rfl) (by kernel_rfl) (tup_one _ _ _ _) ?_
  simp only [Act.put, List.setIfInBounds_toArray, List.set_cons_zero, List.set_cons_succ]
  rw [World.setRow_alloc_new]
  have hn0 : (w6.alloc (.cells (tup s (.slice lyA ln lyc)) 27)).heap[w6.heap.size]? = some (.cells (tup s (.slice lyA ln lyc)) 27 (0, 0)) := heap_alloc_new _ _
  have hb : Below w6.heap.size w6 (w6.alloc (.cells (tup s (.slice lyA ln lyc)) 27)) := (Below.refl _ _).alloc (Nat.le_refl _) _
  obtain ⟨T7, hg0⟩ : ∃ g, g = w6.heap.size := ⟨_, rfl⟩
  rw [← hg0] at hn0 ⊢
  generalize w6.alloc _ = w7 at hn0 hb ⊢
  have h7 : Hid (w7.heap[T7]? = some (.cells (tup s (.slice lyA ln lyc)) 27 (0, 0))) := hn0
  clear hn0 hg0
  replace hC := (show Hid (CtxF w B (flatC k p (.slice A1 n c1)) (.slice A1 n c1) (.slice A3 q c3) args b w7) from hC.out.below hb)
  replace hlx := (show Hid (Rw 2 V2.c w7 (.slice lxA ln lxc) (r.getD [])) from hlx.out.below hb)
  replace h5 := (show Hid (w7.heap[T5]? = some (.cells (tup s (.slice lxA ln lxc)) 27 (0, 0))) from heap_kept h5.out hb)
  replace hly := (show Hid (Rw 2 V2.c w7 (.slice lyA ln lyc) (r.getD [])) from hly.out.below hb)
  clear hb
  refine sl_run rfl (.bool hit) w7 (by kernel_rfl) ?_
  simp only [Act.put, List.setIfInBounds_toArray, List.set_cons_zero, List.set_cons_succ]
  refine wpList_nil ?_
  go_upto_region 7 with fail
  refine wp_region_lit ?_
  refine sl_run rfl (.agg (flatC k p (.slice A1 n c1))) w7 (exec_load_row 24 w7 _ rfl B (by kernel_rfl) 24 _ (0, 0) _ hC.out.hf Try.underlying24 rfl (by kernel_rfl)) ?_
  simp only [Act.put, List.setIfInBounds_toArray, List.set_cons_zero, List.set_cons_succ]
  refine sl_call rfl 10 #[.agg (flatC k p (.slice A1 n c1))] (by kernel_rfl) (R := fun v w' => ∃ A2 c2, v = .agg (flatC k p (.slice A2 n c2)) ∧ Rw 3 T3.c w' (.slice A2 n c2) args ∧ Below w7.heap.size w7 w') ((copy_calls k p args A1 n c1 hn'.out hn9 w7 hC.out.ha).mono fun e w' h => by
      obtain ⟨A2, c2, h1, h2, h3⟩ := h
      exact ⟨_, h1, A2, c2, rfl, h2, h3⟩) ?_
  rintro _ w8 ⟨A2, c2, rfl, hcp0, hb⟩
  simp only [Act.put, List.setIfInBounds_toArray, List.set_cons_zero, List.set_cons_succ]
  have hcp : Hid (Rw 3 T3.c w8 (.slice A2 n c2) args) := hcp0
  clear hcp0
  replace hC := (show Hid (CtxF w B (flatC k p (.slice A1 n c1)) (.slice A1 n c1) (.slice A3 q c3) args b w8) from hC.out.below hb)
  replace hlx := (show Hid (Rw 2 V2.c w8 (.slice lxA ln lxc) (r.getD [])) from hlx.out.below hb)
  replace h5 := (show Hid (w8.heap[T5]? = some (.cells (tup s (.slice lxA ln lxc)) 27 (0, 0))) from heap_kept h5.out hb)
  replace hly := (show Hid (Rw 2 V2.c w8 (.slice lyA ln lyc) (r.getD [])) from hly.out.below hb)
  replace h7 := (show Hid (w8.heap[T7]? = some (.cells (tup s (.slice lyA ln lyc)) 27 (0, 0))) from heap_kept h7.out hb)
  clear hb
  refine sl_run rfl (.slice (some ⟨w8.heap.size, 0, none⟩) 0 0) (w8.alloc (.cells #[] 50)) (by kernel_rfl) ?_
  simp only [Act.put, List.setIfInBounds_toArray, List.set_cons_zero, List.set_cons_succ]
  refine sl_run rfl (.slice A3 q c3) (w8.alloc (.cells #[] 50)) (by kernel_rfl) ?_
  simp only [Act.put, List.setIfInBounds_toArray, List.set_cons_zero, List.set_cons_succ]
  have hmk : (w8.alloc (.cells #[] 50)).ownsRow w8.heap.size 50 3 (.slice (some ⟨w8.heap.size, 0, none⟩) 0 0) ([] : List T3).length (flat T3.c []) := World.ownsRow_made _ _ 0 (Nat.le_refl _) (by decide) rfl
  have hb0 : Below w8.heap.size w8 (w8.alloc (.cells #[] 50)) := (Below.refl _ _).alloc (Nat.le_refl _) _
  refine appendRw 28 50 40 i50 z3 Try.underlying28 hi50 hz0 hz1 hz2 rfl (by decide) t3_size t3_ones rfl _ _ rfl w8.heap.size _ [] b (by kernel_rfl) hmk _ (by kernel_rfl) ((hC.out.hb).below hb0) (by have := hq'.out; simp; omega) (by have := hq'.out; simp; omega) hb0.size ?_
  intro v6 w9 hap0 hgr
  rw [List.nil_append] at hap0
  obtain ⟨A6, c6, rfl⟩ := own_formq hap0 hq'.out
  have hb : Below w8.heap.size w8 w9 := Below.grown hb0 hgr hb0.size (fun q hq => (hmk.lt q hq).1)
  have hap : Hid (Rw 3 T3.c w9 (.slice A6 q c6) b) := by
    show Rw 3 T3.c w9 (.slice A6 q c6) b
    exact Rw.own t3_size (by decide) hap0
  clear hap0 hgr hmk hb0
  simp only [Act.put, List.setIfInBounds_toArray, List.set_cons_zero, List.set_cons_succ]
  replace hC := (show Hid (CtxF w B (flatC k p (.slice A1 n c1)) (.slice A1 n c1) (.slice A3 q c3) args b w9) from hC.out.below hb)
  replace hlx := (show Hid (Rw 2 V2.c w9 (.slice lxA ln lxc) (r.getD [])) from hlx.out.below hb)
  replace h5 := (show Hid (w9.heap[T5]? = some (.cells (tup s (.slice lxA ln lxc)) 27 (0, 0))) from heap_kept h5.out hb)
  replace hly := (show Hid (Rw 2 V2.c w9 (.slice lyA ln lyc) (r.getD [])) from hly.out.below hb)
  replace h7 := (show Hid (w9.heap[T7]? = some (.cells (tup s (.slice lyA ln lyc)) 27 (0, 0))) from heap_kept h7.out hb)
  replace hcp := (show Hid (Rw 3 T3.c w9 (.slice A2 n c2) (args)) from hcp.out.below hb)
  clear hb
  refine sl_call rfl 15 #[.agg (flatC k p (.slice A2 n c2)), .slice A6 q c6] (by kernel_rfl) (R := fun v w' => v = .tuple #[.bool x1, .bool x2] ∧ Below w9.heap.size w9 w') ((holds_calls k p args b A2 A6 n q c2 c6 hn'.out hq'.out hn9 (by omega) w9 hcp.out hap.out).mono fun e w' h => by
      rw [← hho.out, ← hx1.out, ← hx2.out] at h
      exact ⟨_, h.1, rfl, h.2⟩) ?_
  rintro _ w10 ⟨rfl, hb⟩
  simp only [Act.put, List.setIfInBounds_toArray, List.set_cons_zero, List.set_cons_succ]
  replace hC := (show Hid (CtxF w B (flatC k p (.slice A1 n c1)) (.slice A1 n c1) (.slice A3 q c3) args b w10) from hC.out.below hb)
  replace hlx := (show Hid (Rw 2 V2.c w10 (.slice lxA ln lxc) (r.getD [])) from hlx.out.below hb)
  replace h5 := (show Hid (w10.heap[T5]? = some (.cells (tup s (.slice lxA ln lxc)) 27 (0, 0))) from heap_kept h5.out hb)
  replace hly := (show Hid (Rw 2 V2.c w10 (.slice lyA ln lyc) (r.getD [])) from hly.out.below hb)
  replace h7 := (show Hid (w10.heap[T7]? = some (.cells (tup s (.slice lyA ln lyc)) 27 (0, 0))) from heap_kept h7.out hb)
  replace hcp := (show Hid (Rw 3 T3.c w10 (.slice A2 n c2) (args)) from hcp.out.below hb)
  replace hap := (show Hid (Rw 3 T3.c w10 (.slice A6 q c6) (b)) from hap.out.below hb)
  clear hb
  refine sl_run rfl (.tuple #[.bool x1, .bool x2]) w10 (by kernel_rfl) ?_
  simp only [Act.put, List.setIfInBounds_toArray, List.set_cons_zero, List.set_cons_succ]
  refine sl_run rfl (.bool x1) w10 (by kernel_rfl) ?_
  simp only [Act.put, List.setIfInBounds_toArray, List.set_cons_zero, List.set_cons_succ]
  refine sl_run rfl (.bool x2) w10 (by kernel_rfl) ?_
  simp only [Act.put, List.setIfInBounds_toArray, List.set_cons_zero, List.set_cons_succ]
  refine sl_run rfl (.bool x1) w10 (by kernel_rfl) ?_
  simp only [Act.put, List.setIfInBounds_toArray, List.set_cons_zero, List.set_cons_succ]
  refine sl_run rfl (.bool x2) w10 (by kernel_rfl) ?_
  simp only [Act.put, List.setIfInBounds_toArray, List.set_cons_zero, List.set_cons_succ]
  refine wpList_nil ?_
  clear hcp hap
  go_upto_region 8 with fail
  refine wp_region_lit ?_
  refine sl_run rfl (.agg (flatC k p (.slice A1 n c1))) w10 (exec_load_row 24 w10 _ rfl B (by kernel_rfl) 24 _ (0, 0) _ hC.out.hf Try.underlying24 rfl (by kernel_rfl)) ?_
  simp only [Act.put, List.setIfInBounds_toArray, List.set_cons_zero, List.set_cons_succ]
  refine sl_run rfl (.slice A3 q c3) w10 (by kernel_rfl) ?_
  simp only [Act.put, List.setIfInBounds_toArray, List.set_cons_zero, List.set_cons_succ]
  refine sl_call rfl 16 #[.agg (flatC k p (.slice A1 n c1)), .slice A3 q c3] (by kernel_rfl) (R := fun v w' => v = .tuple #[.bool x1, .bool x2] ∧ Below w10.heap.size w10 w') ((rholds_calls k p args b A1 A3 n q c1 c3 hn'.out hq'.out hn9 (by omega) hgaH.out.1 hgaH.out.2.1 hgaH.out.2.2 w10 hC.out.ha hC.out.hb).mono fun e w' h => by
      rw [← hho.out, ← hx1.out, ← hx2.out] at h
      exact ⟨_, h.1, rfl, h.2⟩) ?_
  rintro _ w11 ⟨rfl, hb⟩
  simp only [Act.put, List.setIfInBounds_toArray, List.set_cons_zero, List.set_cons_succ]
  replace hC := (show Hid (CtxF w B (flatC k p (.slice A1 n c1)) (.slice A1 n c1) (.slice A3 q c3) args b w11) from hC.out.below hb)
  replace hlx := (show Hid (Rw 2 V2.c w11 (.slice lxA ln lxc) (r.getD [])) from hlx.out.below hb)
  replace h5 := (show Hid (w11.heap[T5]? = some (.cells (tup s (.slice lxA ln lxc)) 27 (0, 0))) from heap_kept h5.out hb)
  replace hly := (show Hid (Rw 2 V2.c w11 (.slice lyA ln lyc) (r.getD [])) from hly.out.below hb)
  replace h7 := (show Hid (w11.heap[T7]? = some (.cells (tup s (.slice lyA ln lyc)) 27 (0, 0))) from heap_kept h7.out hb)
  clear hb
  refine sl_run rfl (.tuple #[.bool x1, .bool x2]) w11 (by kernel_rfl) ?_
  simp only [Act.put, List.setIfInBounds_toArray, List.set_cons_zero, List.set_cons_succ]
  refine sl_run rfl (.bool x1) w11 (by kernel_rfl) ?_
  simp only [Act.put, List.setIfInBounds_toArray, List.set_cons_zero, List.set_cons_succ]
  refine sl_run rfl (.bool x2) w11 (by kernel_rfl) ?_
  simp only [Act.put, List.setIfInBounds_toArray, List.set_cons_zero, List.set_cons_succ]
  refine sl_run rfl (.bool x1) w11 (by kernel_rfl) ?_
  simp only [Act.put, List.setIfInBounds_toArray, List.set_cons_zero, List.set_cons_succ]
  refine sl_run rfl (.bool x2) w11 (by kernel_rfl) ?_
  simp only [Act.put, List.setIfInBounds_toArray, List.set_cons_zero, List.set_cons_succ]
  refine wpList_nil ?_
  go_upto_region 9 with fail
  refine wp_region_lit ?_
  refine sl_run rfl (.bool hit) w11 (by kernel_rfl) ?_
  simp only [Act.put, List.setIfInBounds_toArray, List.set_cons_zero, List.set_cons_succ]
  refine sl_run rfl (.bool hit) w11 (by kernel_rfl) ?_
  simp only [Act.put, List.setIfInBounds_toArray, List.set_cons_zero, List.set_cons_succ]
  refine sl_run rfl (.bool true) w11 ((exec_eqb _ _ rfl hit hit (by kernel_rfl) (by kernel_rfl) w11).trans (by rw [beq_self_eq_true])) ?_
  simp only [Act.put, List.setIfInBounds_toArray, List.set_cons_zero, List.set_cons_succ]
  refine sl_run rfl (.bool true) w11 (by kernel_rfl) ?_
  simp only [Act.put, List.setIfInBounds_toArray, List.set_cons_zero, List.set_cons_succ]
  refine sg_run (by kernel_rfl) (.agg (tup s (.slice lxA ln lxc))) w11 (exec_load_row 27 w11 _ rfl T5 (by kernel_rfl) 27 _ (0, 0) _ h5.out Try.underlying27 rfl (by kernel_rfl)) ?_
  simp only [Act.put, List.setIfInBounds_toArray, List.set_cons_zero, List.set_cons_succ]
  refine sg_run (by kernel_rfl) (.agg (tup s (.slice lyA ln lyc))) w11 (exec_load_row 27 w11 _ rfl T7 (by kernel_rfl) 27 _ (0, 0) _ h7.out Try.underlying27 rfl (by kernel_rfl)) ?_
  simp only [Act.put, List.setIfInBounds_toArray, List.set_cons_zero, List.set_cons_succ]
  refine sg_call (by kernel_rfl) 17 #[.agg (tup s (.slice lxA ln lxc)), .agg (tup s (.slice lyA ln lyc))] (by kernel_rfl) (R := fun v w' => v = .bool true ∧ Below w11.heap.size w11 w') ((sameT_calls s (r.getD []) lxA lyA ln lxc lyc hs9.out hrok.out.1 hln.out (by have := hrok.out.2; have := hn'.out; have := hln.out; omega) w11 hlx.out hly.out).mono fun e w' h => ⟨_, h.1, rfl, h.2⟩) ?_
  rintro _ w12 ⟨rfl, hb⟩
  simp only [Act.put, List.setIfInBounds_toArray, List.set_cons_zero, List.set_cons_succ]
  replace hC := (show Hid (CtxF w B (flatC k p (.slice A1 n c1)) (.slice A1 n c1) (.slice A3 q c3) args b w12) from hC.out.below hb)
  replace hlx := (show Hid (Rw 2 V2.c w12 (.slice lxA ln lxc) (r.getD [])) from hlx.out.below hb)
  replace h5 := (show Hid (w12.heap[T5]? = some (.cells (tup s (.slice lxA ln lxc)) 27 (0, 0))) from heap_kept h5.out hb)
  replace hly := (show Hid (Rw 2 V2.c w12 (.slice lyA ln lyc) (r.getD [])) from hly.out.below hb)
  replace h7 := (show Hid (w12.heap[T7]? = some (.cells (tup s (.slice lyA ln lyc)) 27 (0, 0))) from heap_kept h7.out hb)
  clear hb
  refine sl_run rfl (.bool true) w12 (by kernel_rfl) ?_
  simp only [Act.put, List.setIfInBounds_toArray, List.set_cons_zero, List.set_cons_succ]
  refine sl_run rfl (.bool true) w12 (by kernel_rfl) ?_
  simp only [Act.put, List.setIfInBounds_toArray, List.set_cons_zero, List.set_cons_succ]
  refine sg_run (by kernel_rfl) (.bool x1) w12 (by kernel_rfl) ?_
  simp only [Act.put, List.setIfInBounds_toArray, List.set_cons_zero, List.set_cons_succ]
  refine sg_run (by kernel_rfl) (.bool x1) w12 (by kernel_rfl) ?_
  simp only [Act.put, List.setIfInBounds_toArray, List.set_cons_zero, List.set_cons_succ]
  refine sg_run (by kernel_rfl) (.bool true) w12 ((exec_eqb _ _ rfl x1 x1 (by kernel_rfl) (by kernel_rfl) w12).trans (by rw [beq_self_eq_true])) ?_
  simp only [Act.put, List.setIfInBounds_toArray, List.set_cons_zero, List.set_cons_succ]
  refine sl_run rfl (.bool true) w12 (by kernel_rfl) ?_
  simp only [Act.put, List.setIfInBounds_toArray, List.set_cons_zero, List.set_cons_succ]
  refine sl_run rfl (.bool true) w12 (by kernel_rfl) ?_
  simp only [Act.put, List.setIfInBounds_toArray, List.set_cons_zero, List.set_cons_succ]
  refine sg_run (by kernel_rfl) (.bool x2) w12 (by kernel_rfl) ?_
  simp only [Act.put, List.setIfInBounds_toArray, List.set_cons_zero, List.set_cons_succ]
  refine sg_run (by kernel_rfl) (.bool x2) w12 (by kernel_rfl) ?_
  simp only [Act.put, List.setIfInBounds_toArray, List.set_cons_zero, List.set_cons_succ]
  refine sg_run (by kernel_rfl) (.bool true) w12 ((exec_eqb _ _ rfl x2 x2 (by kernel_rfl) (by kernel_rfl) w12).trans (by rw [beq_self_eq_true])) ?_
  simp only [Act.put, List.setIfInBounds_toArray, List.set_cons_zero, List.set_cons_succ]
  refine sl_run rfl (.bool true) w12 (by kernel_rfl) ?_
  simp only [Act.put, List.setIfInBounds_toArray, List.set_cons_zero, List.set_cons_succ]
  refine sl_run rfl (.bool true) w12 (by kernel_rfl) ?_
  simp only [Act.put, List.setIfInBounds_toArray, List.set_cons_zero, List.set_cons_succ]
  refine wpList_nil ?_
  clear hlx hly h5 h7
  go_wp2_with fail
  go_ret
  exact ⟨rfl, hC.out.hB⟩
end Go.Proofs.Ytehgblnhhlgikaa.Bi
