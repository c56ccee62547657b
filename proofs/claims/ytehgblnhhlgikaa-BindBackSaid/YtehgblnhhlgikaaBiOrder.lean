/-
  Bindings: how two tuples stand in order.
-/
import Derived.Test.YtehgblnhhlgikaaBiTuple2
namespace Go.Proofs.Ytehgblnhhlgikaa.Bi
open Go.RowKit
set_option linter.unusedVariables false
set_option linter.unusedSimpArgs false
set_option pp.maxSteps 50000
/-- The first two values that are unlike. -/
def cmpVs : List V2 → List V2 → Int
  | x :: xs, y :: ys => if cmpV x y = 0 then cmpVs xs ys else cmpV x y
  | _, _ => 0
/-- Two tuples. -/
def ordT (p : ByteArray) (l : List V2) (p2 : ByteArray) (l2 : List V2) : Int :=
  if cmpL p.toList p2.toList = 0 then (if l.length < l2.length then -1 else if l2.length < l.length then 1 else cmpVs l l2) else cmpL p.toList p2.toList
theorem cmpL_zero {a b : List UInt8} : cmpL a b = 0 ↔ a = b := by
  have h := eq_cmp a b
  constructor
  · intro h0
    rw [h0] at h
    simpa using h
  · rintro rfl; exact cmpL_self _
theorem bytes_ext {a b : ByteArray} (h : a.toList = b.toList) : a = b := by
  rw [ByteArray.toList_eq, ByteArray.toList_eq] at h
  exact WideShapes.bytes_inj h
theorem cmpV_zero {u v : V2} : cmpV u v = 0 ↔ u = v := by
  constructor
  · intro h
    unfold cmpV at h
    split at h
    · next h2 => exact absurd h h2
    · next h2 =>
      have h3 : cmpL u.s.toList v.s.toList = 0 := Classical.not_not.1 h2
      have h4 := bytes_ext (cmpL_zero.1 h3)
      unfold cmpN at h
      cases u; cases v
      simp only at h4 h
      subst h4
      split at h
      · cases h
      · split at h
        · cases h
        · congr; omega
  · rintro rfl; exact cmpV_self _
theorem cmpVs_zero : ∀ {l l2 : List V2}, l.length = l2.length → (cmpVs l l2 = 0 ↔ l = l2)
  | [], [], _ => by simp [cmpVs]
  | [], _ :: _, h => by simp at h
  | _ :: _, [], h => by simp at h
  | x :: xs, y :: ys, h => by
    have ih := cmpVs_zero (l := xs) (l2 := ys) (by simpa using h)
    rw [cmpVs]
    by_cases h0 : cmpV x y = 0
    · rw [if_pos h0, ih, cmpV_zero.1 h0]; simp
    · rw [if_neg h0]
      constructor
      · intro h1; exact absurd h1 h0
      · intro h1; injection h1 with h1; exact absurd (cmpV_zero.2 h1) h0
theorem ordT_zero {p p2 : ByteArray} {l l2 : List V2} : ordT p l p2 l2 = 0 ↔ p = p2 ∧ l = l2 := by
  unfold ordT
  by_cases hp : cmpL p.toList p2.toList = 0
  · rw [if_pos hp]
    have hpe := bytes_ext (cmpL_zero.1 hp)
    by_cases h1 : l.length < l2.length
    · rw [if_pos h1]
      constructor
      · intro h; cases h
      · rintro ⟨_, rfl⟩; exact absurd h1 (Nat.lt_irrefl _)
    · rw [if_neg h1]
      by_cases h2 : l2.length < l.length
      · rw [if_pos h2]
        constructor
        · intro h; cases h
        · rintro ⟨_, rfl⟩; exact absurd h2 (Nat.lt_irrefl _)
      · rw [if_neg h2, cmpVs_zero (by omega)]
        exact ⟨fun h => ⟨hpe, h⟩, fun h => h.2⟩
  · rw [if_neg hp]
    constructor
    · intro h; exact absurd h hp
    · rintro ⟨rfl, _⟩; exact absurd (cmpL_self _) hp
theorem drop_c {l : List V2} {i : Nat} (h : i < l.length) : l.drop i = l.getD i default :: l.drop (i + 1) := by
  rw [List.drop_eq_getElem_cons h]; simp [h]
theorem cmpVs_step {l l2 : List V2} {i : Nat} (h : i < l.length) (h2 : i < l2.length) : cmpVs (l.drop i) (l2.drop i) = if cmpV (l.getD i default) (l2.getD i default) = 0 then cmpVs (l.drop (i + 1)) (l2.drop (i + 1)) else cmpV (l.getD i default) (l2.getD i default) := by
  rw [drop_c h, drop_c h2, cmpVs]
theorem cmpVs_end {l l2 : List V2} {i : Nat} (h : l.length ≤ i) : cmpVs (l.drop i) (l2.drop i) = 0 := by
  rw [List.drop_eq_nil_iff.2 h, cmpVs]
  intro x xs y ys h _; cases h
set_option maxRecDepth 100000 in
set_option maxHeartbeats 1000000 in
theorem orderG_calls (p p2 : ByteArray) (l l2 : List V2) (A A2 : Option Addr) (n n2 c c2 : Nat) (hp : p.size ≤ 9223372036854775807) (hp2 : p2.size ≤ 9223372036854775807) (hl : ∀ v ∈ l, v.ok) (hl2 : ∀ v ∈ l2, v.ok) (hn : n = l.length) (hn2 : n2 = l2.length) (hn9 : n2 ≤ 4000000) (w : World) (hy : Rw 2 V2.c w (.slice A n c) l) (hz : Rw 2 V2.c w (.slice A2 n2 c2) l2) :
    Calls Try.prog 28 #[.agg #[.string p, .slice A n c], .agg #[.string p2, .slice A2 n2 c2]] w fun e w' => e = .returned (.int .i64 (ordT p l p2 l2)) ∧ Below w.heap.size w w' := by
  obtain ⟨r, hr0⟩ : ∃ r, r = ordT p l p2 l2 := ⟨_, rfl⟩
  rw [← hr0]
  have hr : Hid (r = ordT p l p2 l2) := hr0
  have hn' : Hid (n = l.length) := hn
  have hn2' : Hid (n2 = l2.length) := hn2
  have hlH : Hid (∀ v ∈ l, v.ok) := hl
  have hl2H : Hid (∀ v ∈ l2, v.ok) := hl2
  have hyH : Hid (Rw 2 V2.c w (.slice A n c) l) := hy
  have hzH : Hid (Rw 2 V2.c w (.slice A2 n2 c2) l2) := hz
  clear hn hy hz hl hl2 hn2 hr0
  obtain ⟨cp, hcp0⟩ : ∃ cp, cp = cmpL p.toList p2.toList := ⟨_, rfl⟩
  have hcp : Hid (cp = cmpL p.toList p2.toList) := hcp0
  go_enter Try.func28, Try.ntmps28
  go_upto_region 1 with fail
  generalize hW : World.alloc _ _ = W
  have hW0 : W.heap[w.heap.size]? = some (.cells #[.string p, .slice A n c] 27 (0, 0)) := by rw [← hW]; exact heap_alloc2_old w _ _
  have hW1 : W.heap[w.heap.size + 1]? = some (.cells #[.string p2, .slice A2 n2 c2] 27 (0, 0)) := by rw [← hW]; exact heap_alloc2_new w _ _
  have hWB : Below w.heap.size w W := by rw [← hW]; exact ((Below.refl _ _).alloc (Nat.le_refl _) _).alloc (by simp) _
  have hWs : W.heap.size = w.heap.size + 2 := by rw [← hW]; simp
  clear hW
  refine wp_region_lit ?_
  refine sl_run rfl (.pointer (some ⟨w.heap.size, 0, none⟩)) W (by kernel_rfl) ?_
  refine sl_run rfl (.string p) W (exec_load_cell 9 W _ rfl ⟨w.heap.size, 0, none⟩ (by kernel_rfl) _ (by rw [cell_of_row _ _ _ _ _ _ hW0]; rfl) (fun _ => by kernel_rfl)) ?_
  refine sl_run rfl (.pointer (some ⟨w.heap.size + 1, 0, none⟩)) W (by kernel_rfl) ?_
  refine sl_run rfl (.string p2) W (exec_load_cell 9 W _ rfl ⟨w.heap.size + 1, 0, none⟩ (by kernel_rfl) _ (by rw [cell_of_row _ _ _ _ _ _ hW1]; rfl) (fun _ => by kernel_rfl)) ?_
  simp only [Act.put, List.setIfInBounds_toArray, List.set_cons_zero, List.set_cons_succ]
  refine sl_call rfl 37 #[.string p, .string p2] (by kernel_rfl) (R := fun v w' => v = .int .i64 cp ∧ Below W.heap.size W w') ((bytes_calls p p2 hp hp2 W).mono fun e w' h => ⟨_, h.1, by rw [hcp0], h.2⟩) ?_
  rintro _ w5 ⟨rfl, hB5⟩
  refine sl_run rfl (.int .i64 cp) w5 (by kernel_rfl) ?_
  refine wpList_nil ?_
  simp only [Act.put, List.setIfInBounds_toArray, List.set_cons_zero, List.set_cons_succ]
  have h50 : w5.heap[w.heap.size]? = some (.cells #[.string p, .slice A n c] 27 (0, 0)) := by rw [hB5.block _ (by omega)]; exact hW0
  have h51 : w5.heap[w.heap.size + 1]? = some (.cells #[.string p2, .slice A2 n2 c2] 27 (0, 0)) := by rw [hB5.block _ (by omega)]; exact hW1
  have d0 : w5.cell? ⟨w.heap.size, 1, none⟩ = some (.slice A n c) := by rw [cell_of_row _ _ _ _ _ _ h50]; rfl
  have d1 : w5.cell? ⟨w.heap.size + 1, 1, none⟩ = some (.slice A2 n2 c2) := by rw [cell_of_row _ _ _ _ _ _ h51]; rfl
  have hs5 : w.heap.size + 2 ≤ w5.heap.size := by have := hB5.size; omega
  have hB6 : Hid (Below w.heap.size w w5) := hWB.trans (hB5.mono (by omega))
  have h50' : Hid (w5.heap[w.heap.size]? = some (.cells #[.string p, .slice A n c] 27 (0, 0))) := h50
  have h51' : Hid (w5.heap[w.heap.size + 1]? = some (.cells #[.string p2, .slice A2 n2 c2] 27 (0, 0))) := h51
  clear hW0 hW1 hWB hWs hB5 h50 h51 hcp0
  by_cases hc0 : cp = 0
  · have hrr : Hid (r = if n < n2 then -1 else if n2 < n then 1 else cmpVs l l2) := by
      show _ = _
      rw [hr.out]; unfold ordT; rw [if_pos (by rw [← hcp.out]; exact hc0), hn'.out, hn2'.out]
    clear hr hcp
    subst hc0
    by_cases h1 : n < n2
    · have hI1 : (n : Int) < (n2 : Int) := by omega
      have hrr2 : Hid (r = -1) := by show _ = _; rw [hrr.out, if_pos h1]
      clear hrr h1
      go_wp2_with fail
      go_ret
      exact ⟨by rw [hrr2.out]; rfl, hB6.out⟩
    · have hI1 : ¬ (n : Int) < (n2 : Int) := by omega
      by_cases h2 : n2 < n
      · have hI2 : (n2 : Int) < (n : Int) := by omega
        have hrr2 : Hid (r = 1) := by show _ = _; rw [hrr.out, if_neg h1, if_pos h2]
        clear hrr h1 h2
        go_wp2_with fail
        go_ret
        exact ⟨by rw [hrr2.out]; rfl, hB6.out⟩
      · have hI2 : ¬ (n2 : Int) < (n : Int) := by omega
        have hnn : n2 = n := by omega
        have hrr2 : Hid (r = cmpVs l l2) := by show _ = _; rw [hrr.out, if_neg h1, if_neg h2]
        clear hrr h1 h2 hI1 hI2
        subst hnn
        have hI0 : ¬ (n2 : Int) < (n2 : Int) := by omega
        go_wp2_with fail
        go_loopw [6] (fun u wr => ∃ i : Nat, i ≤ n2 ∧ u = .int .i64 i ∧ Hid (cmpVs l l2 = cmpVs (l.drop i) (l2.drop i)) ∧ Hid (Below w5.heap.size w5 wr)) (fun u _ => n2 - (intOf u).toNat)
        case atStart => exact ⟨0, by omega, rfl, rfl, Below.refl _ _⟩
        case round =>
          clear d0 d1
          obtain ⟨i, hi, rfl, hgo, hB⟩ := hrel
          have d0 : wr.cell? ⟨w.heap.size, 1, none⟩ = some (.slice A n2 c) := by rw [hB.out.cell (by show w.heap.size < _; omega), cell_of_row _ _ _ _ _ _ h50'.out]; rfl
          have d1 : wr.cell? ⟨w.heap.size + 1, 1, none⟩ = some (.slice A2 n2 c2) := by rw [hB.out.cell (by show w.heap.size + 1 < _; omega), cell_of_row _ _ _ _ _ _ h51'.out]; rfl
          by_cases hlt : i < n2
          · have hil : i < l.length := by rw [← hn'.out]; exact hlt
            have hil2 : i < l2.length := by rw [← hn2'.out]; exact hlt
            have hI : (i : Int) < (n2 : Int) := by omega
            obtain ⟨g, o, rfl, hnc, hg, hra⟩ := hyH.out.elem i hil
            obtain ⟨g2, o2, rfl, hnc2, hg2, hra2⟩ := hzH.out.elem i hil2
            have hstep := cmpVs_step hil hil2
            obtain ⟨e, he⟩ : ∃ e, e = l.getD i default := ⟨_, rfl⟩
            obtain ⟨e2, he2⟩ : ∃ e, e = l2.getD i default := ⟨_, rfl⟩
            have hok : e.ok := by rw [he]; exact hlH.out _ (by rw [List.getD_eq_getElem?_getD, List.getElem?_eq_getElem hil]; exact List.getElem_mem hil)
            have hok2 : e2.ok := by rw [he2]; exact hl2H.out _ (by rw [List.getD_eq_getElem?_getD, List.getElem?_eq_getElem hil2]; exact List.getElem_mem hil2)
            rw [← he, ← he2] at hstep
            rw [← he] at hra
            rw [← he2] at hra2
            obtain ⟨cv, hcv⟩ : ∃ cv, cv = cmpV e e2 := ⟨_, rfl⟩
            rw [← hcv] at hstep
            have hstep' : Hid (cmpVs l l2 = if cv = 0 then cmpVs (l.drop (i + 1)) (l2.drop (i + 1)) else cv) := hgo.out.trans hstep
            have hBw : Below w.heap.size w wr := hB6.out.trans (hB.out.mono (by omega))
            have hra' := range_below hra hBw hg
            have hra2' := range_below hra2 hBw hg2
            have hws := Below.size hB.out
            have hww := hBw.size
            have hcvH : Hid (cv = cmpV e e2) := hcv
            clear he he2 hil hil2 hra hra2 hstep hgo hcv
            go_upto_region 11 with fail
            have hd0 := d0
            have hd1 := d1
            refine wp_region_quiet (C := Below wr.heap.size wr) (by kernel_rfl) (by kernel_rfl) (Below.refl _ _).drew ?_
            refine quiet_run rfl (.pointer (some ⟨w.heap.size, 1, none⟩)) (fun _ _ => by kernel_rfl) ?_
            simp only [Act.put, List.setIfInBounds_toArray, List.set_cons_zero, List.set_cons_succ]
            refine quiet_run rfl (.slice (some ⟨g, o, none⟩) n2 c) (fun w' h => exec_load_cell 25 w' _ rfl ⟨w.heap.size, 1, none⟩ (by kernel_rfl) _ (by rw [h.cell (by show w.heap.size < _; omega)]; exact hd0) (fun _ => by kernel_rfl)) ?_
            simp only [Act.put, List.setIfInBounds_toArray, List.set_cons_zero, List.set_cons_succ]
            refine quiet_run rfl (.int .i64 i) (fun _ _ => by kernel_rfl) ?_
            simp only [Act.put, List.setIfInBounds_toArray, List.set_cons_zero, List.set_cons_succ]
            refine quiet_run rfl (.pointer (some ⟨g, o + i * 2, none⟩)) (fun w' _ => exec_index un25 sz25 _ _ rfl g o n2 c i (by kernel_rfl) (by kernel_rfl) hlt w') ?_
            simp only [Act.put, List.setIfInBounds_toArray, List.set_cons_zero, List.set_cons_succ]
            refine quiet_run rfl (.agg e.c) (fun w' h => exec_load_mid 46 w' _ rfl g (o + i * 2) (by kernel_rfl) e.c.toList _ (range_below hra' h (by omega)) Try.underlying46 rfl (by kernel_rfl)) ?_
            simp only [Act.put, List.setIfInBounds_toArray, List.set_cons_zero, List.set_cons_succ]
            refine quiet_run rfl (.pointer (some ⟨w.heap.size + 1, 1, none⟩)) (fun _ _ => by kernel_rfl) ?_
            simp only [Act.put, List.setIfInBounds_toArray, List.set_cons_zero, List.set_cons_succ]
            refine quiet_run rfl (.slice (some ⟨g2, o2, none⟩) n2 c2) (fun w' h => exec_load_cell 25 w' _ rfl ⟨w.heap.size + 1, 1, none⟩ (by kernel_rfl) _ (by rw [h.cell (by show w.heap.size + 1 < _; omega)]; exact hd1) (fun _ => by kernel_rfl)) ?_
            simp only [Act.put, List.setIfInBounds_toArray, List.set_cons_zero, List.set_cons_succ]
            refine quiet_run rfl (.int .i64 i) (fun _ _ => by kernel_rfl) ?_
            simp only [Act.put, List.setIfInBounds_toArray, List.set_cons_zero, List.set_cons_succ]
            refine quiet_run rfl (.pointer (some ⟨g2, o2 + i * 2, none⟩)) (fun w' _ => exec_index un25 sz25 _ _ rfl g2 o2 n2 c2 i (by kernel_rfl) (by kernel_rfl) hlt w') ?_
            simp only [Act.put, List.setIfInBounds_toArray, List.set_cons_zero, List.set_cons_succ]
            refine quiet_run rfl (.agg e2.c) (fun w' h => exec_load_mid 46 w' _ rfl g2 (o2 + i * 2) (by kernel_rfl) e2.c.toList _ (range_below hra2' h (by omega)) Try.underlying46 rfl (by kernel_rfl)) ?_
            simp only [Act.put, List.setIfInBounds_toArray, List.set_cons_zero, List.set_cons_succ]
            refine quiet_fn rfl 27 #[.agg e.c, .agg e2.c] (fun _ _ => by kernel_rfl) (.int .i64 cv) (fun w' h => (rcompare_calls e e2 hok hok2 w').mono fun en w2 h2 => ⟨by rw [h2.1, hcvH.out], h.trans (h2.2.mono h.size)⟩) ?_
            simp only [Act.put, List.setIfInBounds_toArray, List.set_cons_zero, List.set_cons_succ]
            refine quiet_run rfl (.int .i64 cv) (fun _ _ => by kernel_rfl) ?_
            simp only [Act.put, List.setIfInBounds_toArray, List.set_cons_zero, List.set_cons_succ]
            refine wpQuiet_nil ?_
            intro w7 hB7
            have hB8 : Hid (Below w5.heap.size w5 w7) := hB.out.trans (hB7.mono hws)
            clear hra' hra2' hB hB7 hBw d0 d1 hd0 hd1 hcvH
            by_cases hcv0 : cv = 0
            · have hgo2 : Hid (cmpVs l l2 = cmpVs (l.drop (i + 1)) (l2.drop (i + 1))) := by show _ = _; rw [hstep'.out, if_pos hcv0]
              subst hcv0
              clear hstep'
              go_wp2_with fail
              go_roundw
              case rel => exact ⟨i + 1, by omega, by go_num, hgo2, hB8⟩
              case measure => simp [intOf]; omega
            · have hcvI : (cv == 0) = false := by rw [beq_eq_false_iff_ne]; exact hcv0
              have hgo2 : Hid (r = cv) := by show _ = _; rw [hrr2.out, hstep'.out, if_neg hcv0]
              clear hstep'
              go_wp2_with fail
              go_ret
              exact ⟨by rw [hgo2.out]; rfl, hB6.out.trans (hB8.out.mono (by omega))⟩
          · have hI : ¬ (i : Int) < (n2 : Int) := by omega
            have hgo2 : Hid (r = 0) := by show _ = _; rw [hrr2.out, hgo.out, cmpVs_end (by have := hn'.out; omega)]
            go_wp2_with fail
            go_ret
            exact ⟨by rw [hgo2.out]; rfl, hB6.out.trans (hB.out.mono (by omega))⟩
  · have hcI : (cp == 0) = false := by rw [beq_eq_false_iff_ne]; exact hc0
    have hrr : Hid (r = cp) := by show _ = _; rw [hr.out]; unfold ordT; rw [if_neg (by rw [← hcp.out]; exact hc0), hcp.out]
    clear hr hcp
    go_wp2_with fail
    go_ret
    exact ⟨by rw [hrr.out]; rfl, hB6.out⟩
set_option maxRecDepth 100000 in
set_option maxHeartbeats 1000000 in
theorem sameG_calls (p p2 : ByteArray) (l l2 : List V2) (A A2 : Option Addr) (n n2 c c2 : Nat) (hp : p.size ≤ 9223372036854775807) (hp2 : p2.size ≤ 9223372036854775807) (hl : ∀ v ∈ l, v.ok) (hl2 : ∀ v ∈ l2, v.ok) (hn : n = l.length) (hn2 : n2 = l2.length) (hn9 : n2 ≤ 4000000) (w : World) (hy : Rw 2 V2.c w (.slice A n c) l) (hz : Rw 2 V2.c w (.slice A2 n2 c2) l2) :
    Calls Try.prog 17 #[.agg #[.string p, .slice A n c], .agg #[.string p2, .slice A2 n2 c2]] w fun e w' => e = .returned (.bool (decide (p = p2 ∧ l = l2))) ∧ Below w.heap.size w w' := by
  obtain ⟨r, hr0⟩ : ∃ r, r = ordT p l p2 l2 := ⟨_, rfl⟩
  have hdd : (r == 0) = decide (p = p2 ∧ l = l2) := by
    rw [hr0, Bool.eq_iff_iff]; simp [ordT_zero]
  rw [← hdd]
  have hrH : Hid (r = ordT p l p2 l2) := hr0
  have hyH : Hid (Rw 2 V2.c w (.slice A n c) l) := hy
  have hzH : Hid (Rw 2 V2.c w (.slice A2 n2 c2) l2) := hz
  have hn' : Hid (n = l.length) := hn
  have hn2' : Hid (n2 = l2.length) := hn2
  have hlH : Hid (∀ v ∈ l, v.ok) := hl
  have hl2H : Hid (∀ v ∈ l2, v.ok) := hl2
  clear hy hz hn hl hn2 hl2 hr0 hdd
  go_enter Try.func17, Try.ntmps17
  go_upto_region 1 with fail
  generalize hW : World.alloc _ _ = W
  have hW0 : W.heap[w.heap.size]? = some (.cells #[.string p, .slice A n c] 27 (0, 0)) := by rw [← hW]; exact heap_alloc2_old w _ _
  have hW1 : W.heap[w.heap.size + 1]? = some (.cells #[.string p2, .slice A2 n2 c2] 27 (0, 0)) := by rw [← hW]; exact heap_alloc2_new w _ _
  have hWB : Below w.heap.size w W := by rw [← hW]; exact ((Below.refl _ _).alloc (Nat.le_refl _) _).alloc (by simp) _
  clear hW
  refine wp_region_lit ?_
  refine sl_run rfl (.agg #[.string p, .slice A n c]) W (exec_load_row 27 W _ rfl w.heap.size (by kernel_rfl) 27 _ (0, 0) _ hW0 Try.underlying27 rfl (by kernel_rfl)) ?_
  refine sl_run rfl (.agg #[.string p2, .slice A2 n2 c2]) W (exec_load_row 27 W _ rfl (w.heap.size + 1) (by kernel_rfl) 27 _ (0, 0) _ hW1 Try.underlying27 rfl (by kernel_rfl)) ?_
  simp only [Act.put, List.setIfInBounds_toArray, List.set_cons_zero, List.set_cons_succ]
  refine sl_call rfl 28 #[.agg #[.string p, .slice A n c], .agg #[.string p2, .slice A2 n2 c2]] (by kernel_rfl) (R := fun v w' => v = .int .i64 r ∧ Below W.heap.size W w') ((orderG_calls p p2 l l2 A A2 n n2 c c2 hp hp2 hlH.out hl2H.out hn'.out hn2'.out hn9 W (hyH.out.below hWB) (hzH.out.below hWB)).mono fun e w' h => ⟨_, h.1, by rw [hrH.out], h.2⟩) ?_
  rintro _ w5 ⟨rfl, hB5⟩
  refine sl_run rfl (.bool (r == 0)) w5 (by kernel_rfl) ?_
  refine sl_run rfl (.bool (r == 0)) w5 (by kernel_rfl) ?_
  refine wpList_nil ?_
  simp only [Act.put, List.setIfInBounds_toArray, List.set_cons_zero, List.set_cons_succ]
  have hB6 : Below w.heap.size w w5 := hWB.trans (hB5.mono hWB.size)
  clear hW0 hW1 hWB hB5
  go_wp2_with fail
  go_ret
  exact ⟨rfl, hB6⟩
end Go.Proofs.Ytehgblnhhlgikaa.Bi
