/-
  Bindings: whether a comparison holds, the document's.
-/
import Derived.Test.YtehgblnhhlgikaaBiMaps
namespace Go.Proofs.Ytehgblnhhlgikaa.Bi
open Go.RowKit
set_option linter.unusedVariables false
set_option linter.unusedSimpArgs false
set_option pp.maxSteps 50000
/-- Whether a comparison holds, and whether it can be told. -/
def holdsS (k : Nat) (args b : List T3) : Bool × Bool :=
  if (k = 3 ∨ k = 4) ∧ args.length = 2 then
    (if (look b (args.getD 0 default)).2 && (look b (args.getD 1 default)).2 then
      ((if k = 3 then decide (cmpV (look b (args.getD 0 default)).1 (look b (args.getD 1 default)).1 < 0) else (cmpV (look b (args.getD 0 default)).1 (look b (args.getD 1 default)).1 != 0)), true)
    else (false, false))
  else (false, false)
theorem lt_of_cell {w : World} {b o : Nat} {v : Value} (h : w.cell? ⟨b, o, none⟩ = some v) : b < w.heap.size := by
  refine Decidable.byContradiction fun hn => ?_
  have h0 : w.heap[b]? = none := by simp; omega
  simp [World.cell?, h0] at h
theorem look_ok {b : List T3} {t : T3} (hb : ∀ x ∈ b, x.v.ok) (ht : t.v.ok) : (look b t).1.ok := by
  unfold look
  split
  · exact ht
  · cases h : b.find? (hit t.x) with
    | some e => exact hb e (List.mem_of_find?_eq_some h)
    | none => show (default : V2).ok; unfold V2.ok; decide
set_option maxRecDepth 100000 in
set_option maxHeartbeats 2000000 in
theorem rholds_calls (k : Nat) (p : ByteArray) (args b : List T3) (A A3 : Option Addr) (n q c c3 : Nat) (hn : n = args.length) (hq : q = b.length) (hn9 : n ≤ 1000000) (hq9 : q ≤ 1000000) (hxs : ∀ t ∈ args, t.x.size ≤ 9223372036854775807) (hav : ∀ t ∈ args, t.v.ok) (hbv : ∀ t ∈ b, t.v.ok) (w : World)
    (hy : Rw 3 T3.c w (.slice A n c) args) (hz : Rw 3 T3.c w (.slice A3 q c3) b) :
    Calls Try.prog 16 #[.agg #[.int .u8 (k : Int), .string p, .slice A n c], .slice A3 q c3] w fun e w' => e = .returned (.tuple #[.bool (holdsS k args b).1, .bool (holdsS k args b).2]) ∧ Below w.heap.size w w' := by
  obtain ⟨r, hr0⟩ : ∃ r, r = holdsS k args b := ⟨_, rfl⟩
  rw [← hr0]
  have hr : Hid (r = holdsS k args b) := hr0
  have hH : Hid ((n = args.length ∧ q = b.length) ∧ (∀ t ∈ args, t.x.size ≤ 9223372036854775807) ∧ (∀ t ∈ args, t.v.ok) ∧ (∀ t ∈ b, t.v.ok) ∧ Rw 3 T3.c w (.slice A n c) args ∧ Rw 3 T3.c w (.slice A3 q c3) b) := ⟨⟨hn, hq⟩, hxs, hav, hbv, hy, hz⟩
  clear hr0 hn hq hxs hav hbv hy hz
  by_cases hk : (k = 3 ∨ k = 4) ∧ n = 2
  · obtain ⟨hk, hn2⟩ := hk
    subst hn2
    obtain ⟨⟨hn, hq⟩, hxs, hav, hbv, hy, hz⟩ := hH.out
    obtain ⟨g, o, rfl, hnc, hg, hra0⟩ := hy.elem 0 (by omega)
    obtain ⟨g', o', hgg, _, _, hra1⟩ := hy.elem 1 (by omega)
    injection hgg with hgg
    injection hgg with e1 e2
    subst e1 e2
    obtain ⟨t0, ht0⟩ : ∃ t, t = args.getD 0 default := ⟨_, rfl⟩
    obtain ⟨t1, ht1⟩ : ∃ t, t = args.getD 1 default := ⟨_, rfl⟩
    have m0 : t0 ∈ args := by rw [ht0, List.getD_eq_getElem?_getD, List.getElem?_eq_getElem (by omega)]; exact List.getElem_mem _
    have m1 : t1 ∈ args := by rw [ht1, List.getD_eq_getElem?_getD, List.getElem?_eq_getElem (by omega)]; exact List.getElem_mem _
    have hrr : Hid (r = if (look b t0).2 && (look b t1).2 then ((if k = 3 then decide (cmpV (look b t0).1 (look b t1).1 < 0) else (cmpV (look b t0).1 (look b t1).1 != 0)), true) else (false, false)) := by
      show _ = _
      rw [hr.out]; unfold holdsS; rw [if_pos ⟨hk, hn.symm⟩, ← ht0, ← ht1]
    rw [← ht0] at hra0
    rw [← ht1] at hra1
    have k0 := hxs t0 m0
    have k1 := hxs t1 m1
    have v0 := look_ok hbv (hav t0 m0)
    have v1 := look_ok hbv (hav t1 m1)
    have hzH : Hid (Rw 3 T3.c w (.slice A3 q c3) b) := hz
    have hqH : Hid (q = b.length) := hq
    obtain ⟨l0, hl0⟩ : ∃ l, l = look b t0 := ⟨_, rfl⟩
    obtain ⟨l1, hl1⟩ : ∃ l, l = look b t1 := ⟨_, rfl⟩
    rw [← hl0] at v0
    rw [← hl1] at v1
    rw [← hl0, ← hl1] at hrr
    have c0 : ∀ (v : World), Below w.heap.size w v → Calls Try.prog 24 #[.slice A3 q c3, .agg t0.c] v fun e w' => e = .returned (.tuple #[.agg l0.1.c, .bool l0.2]) ∧ Below v.heap.size v w' := fun v h => by rw [hl0]; exact rvalue_calls b t0 A3 q c3 v hqH.out (by omega) k0 (hzH.out.below h)
    have c1 : ∀ (v : World), Below w.heap.size w v → Calls Try.prog 24 #[.slice A3 q c3, .agg t1.c] v fun e w' => e = .returned (.tuple #[.agg l1.1.c, .bool l1.2]) ∧ Below v.heap.size v w' := fun v h => by rw [hl1]; exact rvalue_calls b t1 A3 q c3 v hqH.out (by omega) k1 (hzH.out.below h)
    clear hH hn hq hxs hav hbv hy hz ht0 ht1 m0 m1 k0 k1 hl0 hl1 hr
    rcases hk with rfl | rfl
    · skip
      have hra0' : Hid (w.rangeAt g o t0.c.toList) := by have := hra0; rw [Nat.zero_mul, Nat.add_zero] at this; exact this
      have hra1' : Hid (w.rangeAt g (o + 3) t1.c.toList) := by have := hra1; rw [Nat.one_mul] at this; exact this
      go_enter Try.func16, Try.ntmps16
      go_upto_region 3 with fail
      generalize hW : World.alloc _ _ = W
      have hW0 : W.heap[w.heap.size]? = some (.cells #[.int .u8 3, .string p, .slice (some ⟨g, o, none⟩) 2 c] 24 (0, 0)) := by rw [← hW]; exact heap_alloc_new w _
      have hWB : Below w.heap.size w W := by rw [← hW]; exact (Below.refl _ _).alloc (Nat.le_refl _) _
      have hWs : W.heap.size = w.heap.size + 1 := by rw [← hW]; simp
      have e02 : W.cell? ⟨w.heap.size, 2, none⟩ = some (.slice (some ⟨g, o, none⟩) 2 c) := by rw [cell_of_row _ _ _ _ _ _ hW0]; rfl
      have e00 : W.cell? ⟨w.heap.size, 0, none⟩ = some (.int .u8 3) := by rw [cell_of_row _ _ _ _ _ _ hW0]; rfl
      clear hW hW0
      refine wp_region_lit ?_
      refine sl_run rfl (.slice A3 q c3) W (by kernel_rfl) ?_
      refine sl_run rfl (.pointer (some ⟨w.heap.size, 2, none⟩)) W (by kernel_rfl) ?_
      refine sl_run rfl (.slice (some ⟨g, o, none⟩) 2 c) W (exec_load_cell 22 W _ rfl ⟨w.heap.size, 2, none⟩ (by kernel_rfl) _ e02 (fun _ => by kernel_rfl)) ?_
      simp only [Act.put, List.setIfInBounds_toArray, List.set_cons_zero, List.set_cons_succ]
      refine sl_run rfl (.pointer (some ⟨g, o + 0 * 3, none⟩)) W (exec_index un22 sz22 _ _ rfl g o 2 c 0 (by kernel_rfl) (by kernel_rfl) (by decide) W) ?_
      rw [Nat.zero_mul, Nat.add_zero]
      refine sl_run rfl (.agg t0.c) W (exec_load_mid 48 W _ rfl g o (by kernel_rfl) t0.c.toList _ (range_below hra0'.out hWB hg) Try.underlying48 rfl (by kernel_rfl)) ?_
      simp only [Act.put, List.setIfInBounds_toArray, List.set_cons_zero, List.set_cons_succ]
      refine sl_call rfl 24 #[.slice A3 q c3, .agg t0.c] (by kernel_rfl) (R := fun v w' => v = .tuple #[.agg l0.1.c, .bool l0.2] ∧ Below W.heap.size W w') ((c0 W hWB).mono fun e w' h => ⟨_, h.1, rfl, h.2⟩) ?_
      rintro _ w4 ⟨rfl, hB4⟩
      simp only [Act.put, List.setIfInBounds_toArray, List.set_cons_zero, List.set_cons_succ]
      refine sl_run rfl (.tuple #[.agg l0.1.c, .bool l0.2]) w4 (by kernel_rfl) ?_
      refine sl_run rfl (.agg l0.1.c) w4 (by kernel_rfl) ?_
      refine sl_run rfl (.bool l0.2) w4 (by kernel_rfl) ?_
      simp only [Act.put, List.setIfInBounds_toArray, List.set_cons_zero, List.set_cons_succ]
      refine sl_run rfl (.pointer (some ⟨w4.heap.size, 0, none⟩)) (w4.alloc (.cells (default : V2).c 46)) (by kernel_rfl) ?_
      refine wpList_store_row rfl 46 _ _ rfl w4.heap.size l0.1.c (by kernel_rfl) (by kernel_rfl) 46 _ (heap_alloc_new _ _) (by kernel_rfl) (by kernel_rfl) (v2_one _) ?_
      rw [World.setRow_alloc_new]
      refine sl_run rfl (.bool l0.2) (w4.alloc (.cells l0.1.c 46)) (by kernel_rfl) ?_
      refine wpList_nil ?_
      simp only [Act.put, List.setIfInBounds_toArray, List.set_cons_zero, List.set_cons_succ]
      have hs4 := hB4.size
      have hB5 : Below W.heap.size W (w4.alloc (.cells l0.1.c 46)) := hB4.alloc hs4 _
      have hf5 : (w4.alloc (.cells l0.1.c 46)).heap[w4.heap.size]? = some (.cells l0.1.c 46 (0, 0)) := heap_alloc_new _ _
      have hs5 : (w4.alloc (.cells l0.1.c 46)).heap.size = w4.heap.size + 1 := by simp
      generalize w4.alloc _ = w5 at hB5 hf5 hs5
      generalize w4.heap.size = f at hf5 hs4 hs5 ⊢
      have e52 : w5.cell? ⟨w.heap.size, 2, none⟩ = some (.slice (some ⟨g, o, none⟩) 2 c) := by rw [hB5.cell (by show w.heap.size < _; omega)]; exact e02
      have e50 : w5.cell? ⟨w.heap.size, 0, none⟩ = some (.int .u8 3) := by rw [hB5.cell (by show w.heap.size < _; omega)]; exact e00
      have hB05 : Below w.heap.size w w5 := hWB.trans (hB5.mono (by omega))
      clear e02 e00 hB4
      go_upto_region 4 with fail
      refine wp_region_lit ?_
      refine sl_run rfl (.slice A3 q c3) w5 (by kernel_rfl) ?_
      refine sl_run rfl (.pointer (some ⟨w.heap.size, 2, none⟩)) w5 (by kernel_rfl) ?_
      refine sl_run rfl (.slice (some ⟨g, o, none⟩) 2 c) w5 (exec_load_cell 22 w5 _ rfl ⟨w.heap.size, 2, none⟩ (by kernel_rfl) _ e52 (fun _ => by kernel_rfl)) ?_
      simp only [Act.put, List.setIfInBounds_toArray, List.set_cons_zero, List.set_cons_succ]
      refine sl_run rfl (.pointer (some ⟨g, o + 1 * 3, none⟩)) w5 (exec_index un22 sz22 _ _ rfl g o 2 c 1 (by kernel_rfl) (by kernel_rfl) (by decide) w5) ?_
      rw [Nat.one_mul]
      refine sl_run rfl (.agg t1.c) w5 (exec_load_mid 48 w5 _ rfl g (o + 3) (by kernel_rfl) t1.c.toList _ (range_below hra1'.out hB05 hg) Try.underlying48 rfl (by kernel_rfl)) ?_
      simp only [Act.put, List.setIfInBounds_toArray, List.set_cons_zero, List.set_cons_succ]
      refine sl_call rfl 24 #[.slice A3 q c3, .agg t1.c] (by kernel_rfl) (R := fun v w' => v = .tuple #[.agg l1.1.c, .bool l1.2] ∧ Below w5.heap.size w5 w') ((c1 w5 hB05).mono fun e w' h => ⟨_, h.1, rfl, h.2⟩) ?_
      rintro _ w6 ⟨rfl, hB6⟩
      simp only [Act.put, List.setIfInBounds_toArray, List.set_cons_zero, List.set_cons_succ]
      refine sl_run rfl (.tuple #[.agg l1.1.c, .bool l1.2]) w6 (by kernel_rfl) ?_
      refine sl_run rfl (.agg l1.1.c) w6 (by kernel_rfl) ?_
      refine sl_run rfl (.bool l1.2) w6 (by kernel_rfl) ?_
      simp only [Act.put, List.setIfInBounds_toArray, List.set_cons_zero, List.set_cons_succ]
      refine sl_run rfl (.pointer (some ⟨w6.heap.size, 0, none⟩)) (w6.alloc (.cells (default : V2).c 46)) (by kernel_rfl) ?_
      refine wpList_store_row rfl 46 _ _ rfl w6.heap.size l1.1.c (by kernel_rfl) (by kernel_rfl) 46 _ (heap_alloc_new _ _) (by kernel_rfl) (by kernel_rfl) (v2_one _) ?_
      rw [World.setRow_alloc_new]
      refine sl_run rfl (.bool l1.2) (w6.alloc (.cells l1.1.c 46)) (by kernel_rfl) ?_
      refine wpList_nil ?_
      simp only [Act.put, List.setIfInBounds_toArray, List.set_cons_zero, List.set_cons_succ]
      have e60 : (w6.alloc (.cells l1.1.c 46)).cell? ⟨w.heap.size, 0, none⟩ = some (.int .u8 3) := by rw [(hB6.alloc hB6.size _).cell (by show w.heap.size < _; omega)]; exact e50
      have hf6 : (w6.alloc (.cells l1.1.c 46)).heap[f]? = some (.cells l0.1.c 46 (0, 0)) := by rw [(hB6.alloc hB6.size _).block f (by omega)]; exact hf5
      have hg6 : (w6.alloc (.cells l1.1.c 46)).heap[w6.heap.size]? = some (.cells l1.1.c 46 (0, 0)) := heap_alloc_new _ _
      have hB06 : Below w.heap.size w (w6.alloc (.cells l1.1.c 46)) := hB05.trans ((hB6.alloc hB6.size _).mono (by omega))
      generalize w6.alloc _ = w7 at e60 hf6 hg6 hB06
      generalize w6.heap.size = f' at hg6 ⊢
      clear hf5 e52 e50 hB6 hB5
      go_upto_region 5 with fail
      obtain ⟨⟨x0, z0⟩, y0⟩ := l0
      obtain ⟨⟨x1, z1⟩, y1⟩ := l1
      cases y0
      · have hr2 : r = (false, false) := by rw [hrr.out]; rfl
        clear hrr
        subst hr2
        go_wp2_with fail
        (refine bodyPost_ret (v := .tuple #[.bool false, .bool false]) (by kernel_rfl) (by kernel_rfl) ?_; exact ⟨rfl, hB06⟩)
      · cases y1
        · have hr2 : r = (false, false) := by rw [hrr.out]; rfl
          clear hrr
          subst hr2
          go_wp2_with fail
          (refine bodyPost_ret (v := .tuple #[.bool false, .bool false]) (by kernel_rfl) (by kernel_rfl) ?_; exact ⟨rfl, hB06⟩)
        · have hr2 : r = ((fun z : Int => decide (z < 0)) (cmpV ⟨x0, z0⟩ ⟨x1, z1⟩), true) := by rw [hrr.out]; rfl
          clear hrr
          obtain ⟨z, hz⟩ : ∃ z, z = cmpV ⟨x0, z0⟩ ⟨x1, z1⟩ := ⟨_, rfl⟩
          rw [← hz] at hr2
          subst hr2
          go_upto_region 7 with fail
          have hcc : Calls Try.prog 27 #[.agg (V2.c ⟨x0, z0⟩), .agg (V2.c ⟨x1, z1⟩)] w7 fun e w' => e = .returned (.int .i64 z) ∧ Below w7.heap.size w7 w' := by rw [hz]; exact rcompare_calls _ _ v0 v1 w7
          clear hz
          refine wp_region_lit ?_
          refine wpList_load_row rfl 46 _ rfl f (by kernel_rfl) 46 (V2.c ⟨x0, z0⟩) (0, 0) _ hf6 Try.underlying46 rfl (by kernel_rfl) ?_
          refine wpList_load_row rfl 46 _ rfl f' (by kernel_rfl) 46 (V2.c ⟨x1, z1⟩) (0, 0) _ hg6 Try.underlying46 rfl (by kernel_rfl) ?_
          simp only [Act.put, List.setIfInBounds_toArray, List.set_cons_zero, List.set_cons_succ]
          refine sl_call rfl 27 #[.agg (V2.c ⟨x0, z0⟩), .agg (V2.c ⟨x1, z1⟩)] (by kernel_rfl) (R := fun v w' => v = .int .i64 z ∧ Below w7.heap.size w7 w') (hcc.mono fun e w' h => ⟨_, h.1, rfl, h.2⟩) ?_
          rintro _ w8 ⟨rfl, hB8⟩
          simp only [Act.put, List.setIfInBounds_toArray, List.set_cons_zero, List.set_cons_succ]
          refine sl_run rfl (.int .i64 z) w8 (by kernel_rfl) ?_
          refine wpList_nil ?_
          simp only [Act.put, List.setIfInBounds_toArray, List.set_cons_zero, List.set_cons_succ]
          have h70 : w.heap.size < w7.heap.size := lt_of_cell e60
          have e80 : w8.cell? ⟨w.heap.size, 0, none⟩ = some (.int .u8 3) := by rw [hB8.cell h70]; exact e60
          have hB08 : Below w.heap.size w w8 := hB06.trans (hB8.mono (by omega))
          clear e60 hB8 hcc hf6 hg6
          go_wp2_with fail
          (refine bodyPost_ret (v := .tuple #[.bool ((fun z : Int => decide (z < 0)) z), .bool true]) (by kernel_rfl) (by kernel_rfl) ?_; exact ⟨rfl, hB08⟩)
    · skip
      have hra0' : Hid (w.rangeAt g o t0.c.toList) := by have := hra0; rw [Nat.zero_mul, Nat.add_zero] at this; exact this
      have hra1' : Hid (w.rangeAt g (o + 3) t1.c.toList) := by have := hra1; rw [Nat.one_mul] at this; exact this
      go_enter Try.func16, Try.ntmps16
      go_upto_region 3 with fail
      generalize hW : World.alloc _ _ = W
      have hW0 : W.heap[w.heap.size]? = some (.cells #[.int .u8 4, .string p, .slice (some ⟨g, o, none⟩) 2 c] 24 (0, 0)) := by rw [← hW]; exact heap_alloc_new w _
      have hWB : Below w.heap.size w W := by rw [← hW]; exact (Below.refl _ _).alloc (Nat.le_refl _) _
      have hWs : W.heap.size = w.heap.size + 1 := by rw [← hW]; simp
      have e02 : W.cell? ⟨w.heap.size, 2, none⟩ = some (.slice (some ⟨g, o, none⟩) 2 c) := by rw [cell_of_row _ _ _ _ _ _ hW0]; rfl
      have e00 : W.cell? ⟨w.heap.size, 0, none⟩ = some (.int .u8 4) := by rw [cell_of_row _ _ _ _ _ _ hW0]; rfl
      clear hW hW0
      refine wp_region_lit ?_
      refine sl_run rfl (.slice A3 q c3) W (by kernel_rfl) ?_
      refine sl_run rfl (.pointer (some ⟨w.heap.size, 2, none⟩)) W (by kernel_rfl) ?_
      refine sl_run rfl (.slice (some ⟨g, o, none⟩) 2 c) W (exec_load_cell 22 W _ rfl ⟨w.heap.size, 2, none⟩ (by kernel_rfl) _ e02 (fun _ => by kernel_rfl)) ?_
      simp only [Act.put, List.setIfInBounds_toArray, List.set_cons_zero, List.set_cons_succ]
      refine sl_run rfl (.pointer (some ⟨g, o + 0 * 3, none⟩)) W (exec_index un22 sz22 _ _ rfl g o 2 c 0 (by kernel_rfl) (by kernel_rfl) (by decide) W) ?_
      rw [Nat.zero_mul, Nat.add_zero]
      refine sl_run rfl (.agg t0.c) W (exec_load_mid 48 W _ rfl g o (by kernel_rfl) t0.c.toList _ (range_below hra0'.out hWB hg) Try.underlying48 rfl (by kernel_rfl)) ?_
      simp only [Act.put, List.setIfInBounds_toArray, List.set_cons_zero, List.set_cons_succ]
      refine sl_call rfl 24 #[.slice A3 q c3, .agg t0.c] (by kernel_rfl) (R := fun v w' => v = .tuple #[.agg l0.1.c, .bool l0.2] ∧ Below W.heap.size W w') ((c0 W hWB).mono fun e w' h => ⟨_, h.1, rfl, h.2⟩) ?_
      rintro _ w4 ⟨rfl, hB4⟩
      simp only [Act.put, List.setIfInBounds_toArray, List.set_cons_zero, List.set_cons_succ]
      refine sl_run rfl (.tuple #[.agg l0.1.c, .bool l0.2]) w4 (by kernel_rfl) ?_
      refine sl_run rfl (.agg l0.1.c) w4 (by kernel_rfl) ?_
      refine sl_run rfl (.bool l0.2) w4 (by kernel_rfl) ?_
      simp only [Act.put, List.setIfInBounds_toArray, List.set_cons_zero, List.set_cons_succ]
      refine sl_run rfl (.pointer (some ⟨w4.heap.size, 0, none⟩)) (w4.alloc (.cells (default : V2).c 46)) (by kernel_rfl) ?_
      refine wpList_store_row rfl 46 _ _ rfl w4.heap.size l0.1.c (by kernel_rfl) (by kernel_rfl) 46 _ (heap_alloc_new _ _) (by kernel_rfl) (by kernel_rfl) (v2_one _) ?_
      rw [World.setRow_alloc_new]
      refine sl_run rfl (.bool l0.2) (w4.alloc (.cells l0.1.c 46)) (by kernel_rfl) ?_
      refine wpList_nil ?_
      simp only [Act.put, List.setIfInBounds_toArray, List.set_cons_zero, List.set_cons_succ]
      have hs4 := hB4.size
      have hB5 : Below W.heap.size W (w4.alloc (.cells l0.1.c 46)) := hB4.alloc hs4 _
      have hf5 : (w4.alloc (.cells l0.1.c 46)).heap[w4.heap.size]? = some (.cells l0.1.c 46 (0, 0)) := heap_alloc_new _ _
      have hs5 : (w4.alloc (.cells l0.1.c 46)).heap.size = w4.heap.size + 1 := by simp
      generalize w4.alloc _ = w5 at hB5 hf5 hs5
      generalize w4.heap.size = f at hf5 hs4 hs5 ⊢
      have e52 : w5.cell? ⟨w.heap.size, 2, none⟩ = some (.slice (some ⟨g, o, none⟩) 2 c) := by rw [hB5.cell (by show w.heap.size < _; omega)]; exact e02
      have e50 : w5.cell? ⟨w.heap.size, 0, none⟩ = some (.int .u8 4) := by rw [hB5.cell (by show w.heap.size < _; omega)]; exact e00
      have hB05 : Below w.heap.size w w5 := hWB.trans (hB5.mono (by omega))
      clear e02 e00 hB4
      go_upto_region 4 with fail
      refine wp_region_lit ?_
      refine sl_run rfl (.slice A3 q c3) w5 (by kernel_rfl) ?_
      refine sl_run rfl (.pointer (some ⟨w.heap.size, 2, none⟩)) w5 (by kernel_rfl) ?_
      refine sl_run rfl (.slice (some ⟨g, o, none⟩) 2 c) w5 (exec_load_cell 22 w5 _ rfl ⟨w.heap.size, 2, none⟩ (by kernel_rfl) _ e52 (fun _ => by kernel_rfl)) ?_
      simp only [Act.put, List.setIfInBounds_toArray, List.set_cons_zero, List.set_cons_succ]
      refine sl_run rfl (.pointer (some ⟨g, o + 1 * 3, none⟩)) w5 (exec_index un22 sz22 _ _ rfl g o 2 c 1 (by kernel_rfl) (by kernel_rfl) (by decide) w5) ?_
      rw [Nat.one_mul]
      refine sl_run rfl (.agg t1.c) w5 (exec_load_mid 48 w5 _ rfl g (o + 3) (by kernel_rfl) t1.c.toList _ (range_below hra1'.out hB05 hg) Try.underlying48 rfl (by kernel_rfl)) ?_
      simp only [Act.put, List.setIfInBounds_toArray, List.set_cons_zero, List.set_cons_succ]
      refine sl_call rfl 24 #[.slice A3 q c3, .agg t1.c] (by kernel_rfl) (R := fun v w' => v = .tuple #[.agg l1.1.c, .bool l1.2] ∧ Below w5.heap.size w5 w') ((c1 w5 hB05).mono fun e w' h => ⟨_, h.1, rfl, h.2⟩) ?_
      rintro _ w6 ⟨rfl, hB6⟩
      simp only [Act.put, List.setIfInBounds_toArray, List.set_cons_zero, List.set_cons_succ]
      refine sl_run rfl (.tuple #[.agg l1.1.c, .bool l1.2]) w6 (by kernel_rfl) ?_
      refine sl_run rfl (.agg l1.1.c) w6 (by kernel_rfl) ?_
      refine sl_run rfl (.bool l1.2) w6 (by kernel_rfl) ?_
      simp only [Act.put, List.setIfInBounds_toArray, List.set_cons_zero, List.set_cons_succ]
      refine sl_run rfl (.pointer (some ⟨w6.heap.size, 0, none⟩)) (w6.alloc (.cells (default : V2).c 46)) (by kernel_rfl) ?_
      refine wpList_store_row rfl 46 _ _ rfl w6.heap.size l1.1.c (by kernel_rfl) (by kernel_rfl) 46 _ (heap_alloc_new _ _) (by kernel_rfl) (by kernel_rfl) (v2_one _) ?_
      rw [World.setRow_alloc_new]
      refine sl_run rfl (.bool l1.2) (w6.alloc (.cells l1.1.c 46)) (by kernel_rfl) ?_
      refine wpList_nil ?_
      simp only [Act.put, List.setIfInBounds_toArray, List.set_cons_zero, List.set_cons_succ]
      have e60 : (w6.alloc (.cells l1.1.c 46)).cell? ⟨w.heap.size, 0, none⟩ = some (.int .u8 4) := by rw [(hB6.alloc hB6.size _).cell (by show w.heap.size < _; omega)]; exact e50
      have hf6 : (w6.alloc (.cells l1.1.c 46)).heap[f]? = some (.cells l0.1.c 46 (0, 0)) := by rw [(hB6.alloc hB6.size _).block f (by omega)]; exact hf5
      have hg6 : (w6.alloc (.cells l1.1.c 46)).heap[w6.heap.size]? = some (.cells l1.1.c 46 (0, 0)) := heap_alloc_new _ _
      have hB06 : Below w.heap.size w (w6.alloc (.cells l1.1.c 46)) := hB05.trans ((hB6.alloc hB6.size _).mono (by omega))
      generalize w6.alloc _ = w7 at e60 hf6 hg6 hB06
      generalize w6.heap.size = f' at hg6 ⊢
      clear hf5 e52 e50 hB6 hB5
      go_upto_region 5 with fail
      obtain ⟨⟨x0, z0⟩, y0⟩ := l0
      obtain ⟨⟨x1, z1⟩, y1⟩ := l1
      cases y0
      · have hr2 : r = (false, false) := by rw [hrr.out]; rfl
        clear hrr
        subst hr2
        go_wp2_with fail
        (refine bodyPost_ret (v := .tuple #[.bool false, .bool false]) (by kernel_rfl) (by kernel_rfl) ?_; exact ⟨rfl, hB06⟩)
      · cases y1
        · have hr2 : r = (false, false) := by rw [hrr.out]; rfl
          clear hrr
          subst hr2
          go_wp2_with fail
          (refine bodyPost_ret (v := .tuple #[.bool false, .bool false]) (by kernel_rfl) (by kernel_rfl) ?_; exact ⟨rfl, hB06⟩)
        · have hr2 : r = ((fun z : Int => (z != 0)) (cmpV ⟨x0, z0⟩ ⟨x1, z1⟩), true) := by rw [hrr.out]; rfl
          clear hrr
          obtain ⟨z, hz⟩ : ∃ z, z = cmpV ⟨x0, z0⟩ ⟨x1, z1⟩ := ⟨_, rfl⟩
          rw [← hz] at hr2
          subst hr2
          go_upto_region 7 with fail
          have hcc : Calls Try.prog 27 #[.agg (V2.c ⟨x0, z0⟩), .agg (V2.c ⟨x1, z1⟩)] w7 fun e w' => e = .returned (.int .i64 z) ∧ Below w7.heap.size w7 w' := by rw [hz]; exact rcompare_calls _ _ v0 v1 w7
          clear hz
          refine wp_region_lit ?_
          refine wpList_load_row rfl 46 _ rfl f (by kernel_rfl) 46 (V2.c ⟨x0, z0⟩) (0, 0) _ hf6 Try.underlying46 rfl (by kernel_rfl) ?_
          refine wpList_load_row rfl 46 _ rfl f' (by kernel_rfl) 46 (V2.c ⟨x1, z1⟩) (0, 0) _ hg6 Try.underlying46 rfl (by kernel_rfl) ?_
          simp only [Act.put, List.setIfInBounds_toArray, List.set_cons_zero, List.set_cons_succ]
          refine sl_call rfl 27 #[.agg (V2.c ⟨x0, z0⟩), .agg (V2.c ⟨x1, z1⟩)] (by kernel_rfl) (R := fun v w' => v = .int .i64 z ∧ Below w7.heap.size w7 w') (hcc.mono fun e w' h => ⟨_, h.1, rfl, h.2⟩) ?_
          rintro _ w8 ⟨rfl, hB8⟩
          simp only [Act.put, List.setIfInBounds_toArray, List.set_cons_zero, List.set_cons_succ]
          refine sl_run rfl (.int .i64 z) w8 (by kernel_rfl) ?_
          refine wpList_nil ?_
          simp only [Act.put, List.setIfInBounds_toArray, List.set_cons_zero, List.set_cons_succ]
          have h70 : w.heap.size < w7.heap.size := lt_of_cell e60
          have e80 : w8.cell? ⟨w.heap.size, 0, none⟩ = some (.int .u8 4) := by rw [hB8.cell h70]; exact e60
          have hB08 : Below w.heap.size w w8 := hB06.trans (hB8.mono (by omega))
          clear e60 hB8 hcc hf6 hg6
          go_wp2_with fail
          (refine bodyPost_ret (v := .tuple #[.bool ((fun z : Int => (z != 0)) z), .bool true]) (by kernel_rfl) (by kernel_rfl) ?_; exact ⟨rfl, hB08⟩)
  · have hrr : Hid (r = (false, false)) := by
      show _ = _
      rw [hr.out]; unfold holdsS; rw [if_neg (fun h => hk ⟨h.1, by have := hH.out.1.1; omega⟩)]
    have hrf : r = (false, false) := hrr.out
    subst hrf
    clear hrr hr hH
    have hBf := (Below.refl w.heap.size w).alloc (Nat.le_refl _) (.cells #[.int .u8 (k : Int), .string p, .slice A n c] 24)
    by_cases h3 : k = 3
    · subst h3
      have hn2 : ¬ ((n : Int) = 2) := fun h => hk ⟨.inl rfl, by omega⟩
      clear hk
      go_enter Try.func16, Try.ntmps16
      go_wp2_with fail
      (refine bodyPost_ret (v := .tuple #[.bool false, .bool false]) (by kernel_rfl) (by kernel_rfl) ?_; exact ⟨rfl, hBf⟩)
    · have e3 : ((k : Int) == 3) = false := by rw [beq_eq_false_iff_ne]; omega
      by_cases h4 : k = 4
      · subst h4
        have hn2 : ¬ ((n : Int) = 2) := fun h => hk ⟨.inr rfl, by omega⟩
        clear hk
        go_enter Try.func16, Try.ntmps16
        go_wp2_with fail
        (refine bodyPost_ret (v := .tuple #[.bool false, .bool false]) (by kernel_rfl) (by kernel_rfl) ?_; exact ⟨rfl, hBf⟩)
      · have e4 : ((k : Int) == 4) = false := by rw [beq_eq_false_iff_ne]; omega
        clear hk
        go_enter Try.func16, Try.ntmps16
        go_wp2_with fail
        (refine bodyPost_ret (v := .tuple #[.bool false, .bool false]) (by kernel_rfl) (by kernel_rfl) ?_; exact ⟨rfl, hBf⟩)
end Go.Proofs.Ytehgblnhhlgikaa.Bi
