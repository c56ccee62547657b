/-
  Orders: Above, Below.
-/
import Derived.Test.YtfbbpodlemllcaaDoorPoAsks
namespace Go.Proofs.YtfbbpodlemllcaaDoor
open Go.RowKit Go.Shelf
set_option linter.unusedVariables false
set_option linter.unusedSimpArgs false
set_option pp.maxSteps 50000
/-- What is at or above. -/
noncomputable def aboveS (up : List Nat) (a : Int) : Nat := if tr (Has up [a]) then up.getD a.toNat 0 else 0
/-- The labels of which it holds, as a mask. -/
def maskOf (p : Nat → Bool) : Nat → Nat
  | 0 => 0
  | n + 1 => if p n then maskOf p n ||| 2 ^ n else maskOf p n
theorem maskOf_lt (p : Nat → Bool) : ∀ n, n ≤ 64 → maskOf p n < 18446744073709551616
  | 0, _ => by simp [maskOf]
  | n + 1, h => by
    rw [maskOf]
    have ih := maskOf_lt p n (by omega)
    split
    · exact (set_val _ n ih (by omega)).2
    · exact ih
theorem maskOf_bit (p : Nat → Bool) : ∀ n j, (maskOf p n).testBit j = (decide (j < n) && p j)
  | 0, j => by simp [maskOf]
  | n + 1, j => by
    rw [maskOf]
    have ih := maskOf_bit p n j
    split
    · next h =>
      rw [Nat.testBit_or, ih, Nat.testBit_two_pow]
      by_cases hj : j = n
      · subst hj; simp [h]
      · have h1 : ¬ n = j := fun e => hj e.symm
        have h2 : (j < n + 1) = (j < n) := by rw [eq_iff_iff]; omega
        simp [h1, h2]
    · next h =>
      rw [ih]
      by_cases hj : j = n
      · subst hj; simp [h]
      · have h2 : (j < n + 1) = (j < n) := by rw [eq_iff_iff]; omega
        simp [h2]
/-- What it is at or above. -/
noncomputable def belowS (up : List Nat) (a : Int) : Nat := if tr (Has up [a]) then maskOf (fun i => (up.getD i 0).testBit a.toNat) up.length else 0
theorem region_one (up : List Nat) (n : Nat) (hn : n = up.length) {a : Int} (h : Has up [a]) : ∃ i : Nat, a = i ∧ i < n ∧ n ≤ 64 := by
  have h1 := h.1 a (List.mem_singleton.2 rfl)
  have h2 := h.2.2.1
  exact ⟨a.toNat, by omega, by omega, by omega⟩
set_option maxRecDepth 100000 in
set_option maxHeartbeats 2000000 in
theorem above_calls (up : List Nat) (hs : Small up) (A : Option Addr) (n c : Nat) (hn : n = up.length) (a : Int) (w : World) (ht : Tab w) (hy : Ms w (.slice A n c) up) :
    Calls Tryd.prog 21 #[.slice A n c, .int .i64 a] w fun e w' => e = .returned (.int .u64 (aboveS up a : Int)) ∧ Below w.heap.size w w' := by
  obtain ⟨r, hr⟩ : ∃ r, r = aboveS up a := ⟨_, rfl⟩
  rw [← hr]
  have hrH : Hid (r = aboveS up a) := hr
  have hn' : Hid (n = up.length) := hn
  have hsH : Hid (Small up) := hs
  have htH : Hid (Tab w) := ht
  have hyH : Hid (Ms w (.slice A n c) up) := hy
  clear hn hs ht hy hr
  go_enter Tryd.func21, Tryd.ntmps21
  go_upto_region 1 with fail
  refine wp_region_lit ?_
  refine sl_run rfl (.slice A n c) w (by kernel_rfl) ?_
  simp only [Act.put, List.setIfInBounds_toArray, List.set_cons_zero, List.set_cons_succ]
  refine sl_run rfl (.int .i64 a) w (by kernel_rfl) ?_
  simp only [Act.put, List.setIfInBounds_toArray, List.set_cons_zero, List.set_cons_succ]
  refine sl_run rfl (.slice (some ⟨w.heap.size, 0, none⟩) 1 1) (w.alloc (.cells (flat encI [a]).toArray 3)) (by kernel_rfl) ?_
  simp only [Act.put, List.setIfInBounds_toArray, List.set_cons_zero, List.set_cons_succ]
  have hn1 : (w.alloc (.cells (flat encI [a]).toArray 3)).heap[w.heap.size]? = some (.cells (flat encI [a]).toArray 3 (0, 0)) := heap_alloc_new _ _
  have hb1 : Below w.heap.size w (w.alloc (.cells (flat encI [a]).toArray 3)) := (Below.refl _ _).alloc (Nat.le_refl _) _
  obtain ⟨g1, hg1⟩ : ∃ g, g = w.heap.size := ⟨_, rfl⟩
  rw [← hg1] at hn1 ⊢
  generalize w.alloc _ = w1 at hn1 hb1 ⊢
  have hrw : Rw 1 encI w1 (.slice (some ⟨g1, 0, none⟩) 1 1) [a] := rw_new (enc := encI) encI_size [a] hn1
  obtain ⟨hh, hhh⟩ : ∃ hh, hh = tr (Has up [a]) := ⟨_, rfl⟩
  refine sl_call rfl 31 #[.slice A n c, .slice (some ⟨g1, 0, none⟩) 1 1] (by kernel_rfl) (R := fun v w' => v = .bool hh ∧ Below w1.heap.size w1 w') ((has_calls up hsH.out A n c hn'.out [a] (some ⟨g1, 0, none⟩) 1 1 rfl (by decide) w1 (htH.out.below htH.out.1 hb1) (hyH.out.below hb1) hrw).mono fun e w' h => ⟨_, h.1, by rw [hhh], h.2⟩) ?_
  rintro _ w2 ⟨rfl, hb2⟩
  simp only [Act.put, List.setIfInBounds_toArray, List.set_cons_zero, List.set_cons_succ]
  refine sl_run rfl (.bool (!hh)) w2 (by kernel_rfl) ?_
  simp only [Act.put, List.setIfInBounds_toArray, List.set_cons_zero, List.set_cons_succ]
  refine wpList_nil ?_
  have hb3 : Hid (Below w.heap.size w w2) := hb1.trans (hb2.mono hb1.size)
  have hhH : Hid (hh = tr (Has up [a])) := hhh
  clear hn1 hb1 hrw hb2 hg1 hhh
  cases hh with
  | false =>
    have hr0 : Hid (r = 0) := by show _ = _; rw [hrH.out]; unfold aboveS; rw [← hhH.out]; rfl
    go_wp2_with fail
    go_ret
    refine ⟨?_, hb3.out⟩
    rw [hr0.out]; rfl
  | true =>
    have hH : Has up [a] := tr_iff.1 hhH.out.symm
    obtain ⟨i, rfl, hi, hn64⟩ := region_one up n hn'.out hH
    clear hH
    obtain ⟨g, o, rfl, hnc, hg, _⟩ := hyH.out.elem i (by rw [← hn'.out]; exact hi)
    have hr0 : Hid (r = up.getD i 0) := by show _ = _; rw [hrH.out]; unfold aboveS; rw [← hhH.out]; rfl
    have hmi : w2.cell? ⟨g, o + i, none⟩ = some (.int .u64 (r : Int)) := by
      rw [hr0.out, hb3.out.cell (by exact hg)]; exact elem_ms hyH.out i (by rw [← hn'.out]; exact hi)
    have hI : (i : Int) < (n : Int) := by omega
    clear hr0
    go_wp2_with fail
    go_ret
    exact ⟨rfl, hb3.out⟩
set_option maxRecDepth 100000 in
set_option maxHeartbeats 2000000 in
theorem below_calls (up : List Nat) (hs : Small up) (A : Option Addr) (n c : Nat) (hn : n = up.length) (a : Int) (w : World) (ht : Tab w) (hy : Ms w (.slice A n c) up) :
    Calls Tryd.prog 23 #[.slice A n c, .int .i64 a] w fun e w' => e = .returned (.int .u64 (belowS up a : Int)) ∧ Below w.heap.size w w' := by
  obtain ⟨r, hr⟩ : ∃ r, r = belowS up a := ⟨_, rfl⟩
  rw [← hr]
  have hrH : Hid (r = belowS up a) := hr
  have hn' : Hid (n = up.length) := hn
  have hsH : Hid (Small up) := hs
  have htH : Hid (Tab w) := ht
  have hyH : Hid (Ms w (.slice A n c) up) := hy
  clear hn hs ht hy hr
  go_enter Tryd.func23, Tryd.ntmps23
  go_upto_region 1 with fail
  refine wp_region_lit ?_
  refine sl_run rfl (.slice A n c) w (by kernel_rfl) ?_
  simp only [Act.put, List.setIfInBounds_toArray, List.set_cons_zero, List.set_cons_succ]
  refine sl_run rfl (.int .i64 a) w (by kernel_rfl) ?_
  simp only [Act.put, List.setIfInBounds_toArray, List.set_cons_zero, List.set_cons_succ]
  refine sl_run rfl (.slice (some ⟨w.heap.size, 0, none⟩) 1 1) (w.alloc (.cells (flat encI [a]).toArray 3)) (by kernel_rfl) ?_
  simp only [Act.put, List.setIfInBounds_toArray, List.set_cons_zero, List.set_cons_succ]
  have hn1 : (w.alloc (.cells (flat encI [a]).toArray 3)).heap[w.heap.size]? = some (.cells (flat encI [a]).toArray 3 (0, 0)) := heap_alloc_new _ _
  have hb1 : Below w.heap.size w (w.alloc (.cells (flat encI [a]).toArray 3)) := (Below.refl _ _).alloc (Nat.le_refl _) _
  obtain ⟨g1, hg1⟩ : ∃ g, g = w.heap.size := ⟨_, rfl⟩
  rw [← hg1] at hn1 ⊢
  generalize w.alloc _ = w1 at hn1 hb1 ⊢
  have hrw : Rw 1 encI w1 (.slice (some ⟨g1, 0, none⟩) 1 1) [a] := rw_new (enc := encI) encI_size [a] hn1
  obtain ⟨hh, hhh⟩ : ∃ hh, hh = tr (Has up [a]) := ⟨_, rfl⟩
  refine sl_call rfl 31 #[.slice A n c, .slice (some ⟨g1, 0, none⟩) 1 1] (by kernel_rfl) (R := fun v w' => v = .bool hh ∧ Below w1.heap.size w1 w') ((has_calls up hsH.out A n c hn'.out [a] (some ⟨g1, 0, none⟩) 1 1 rfl (by decide) w1 (htH.out.below htH.out.1 hb1) (hyH.out.below hb1) hrw).mono fun e w' h => ⟨_, h.1, by rw [hhh], h.2⟩) ?_
  rintro _ w2 ⟨rfl, hb2⟩
  simp only [Act.put, List.setIfInBounds_toArray, List.set_cons_zero, List.set_cons_succ]
  refine sl_run rfl (.bool (!hh)) w2 (by kernel_rfl) ?_
  simp only [Act.put, List.setIfInBounds_toArray, List.set_cons_zero, List.set_cons_succ]
  refine wpList_nil ?_
  have hb3 : Hid (Below w.heap.size w w2) := hb1.trans (hb2.mono hb1.size)
  have hhH : Hid (hh = tr (Has up [a])) := hhh
  clear hn1 hb1 hrw hb2 hg1 hhh
  cases hh with
  | false =>
    have hr0 : Hid (r = 0) := by show _ = _; rw [hrH.out]; unfold belowS; rw [← hhH.out]; rfl
    go_wp2_with fail
    go_ret
    refine ⟨?_, hb3.out⟩
    rw [hr0.out]; rfl
  | true =>
    have hH : Has up [a] := tr_iff.1 hhH.out.symm
    obtain ⟨ia, rfl, hia, hn64⟩ := region_one up n hn'.out hH
    clear hH
    have hr0 : Hid (r = maskOf (fun i => (up.getD i 0).testBit ia) n) := by show _ = _; rw [hrH.out]; unfold belowS; rw [← hhH.out, hn'.out]; rfl
    have hmin : min ia 64 = ia := by omega
    go_wp2_with fail
    go_loop [5, 14] (fun v u => ∃ i : Nat, i ≤ n ∧ u = .int .i64 (i : Int) ∧ v = .int .u64 ((maskOf (fun i => (up.getD i 0).testBit ia) i : Nat) : Int)) (fun _ u => n - (intOf u).toNat)
    case atStart => exact ⟨0, by omega, rfl, rfl⟩
    case round =>
      obtain ⟨i, hi, rfl, rfl⟩ := hrel
      have hm9 := maskOf_lt (fun i => (up.getD i 0).testBit ia) i (by omega)
      by_cases hlt : i < n
      · have hI : (i : Int) < (n : Int) := by omega
        obtain ⟨g, o, rfl, hnc, hg, _⟩ := hyH.out.elem i (by rw [← hn'.out]; exact hlt)
        have hmi : w2.cell? ⟨g, o + i, none⟩ = some (.int .u64 ((up.getD i 0 : Nat) : Int)) := by
          rw [hb3.out.cell (by exact hg)]; exact elem_ms hyH.out i (by rw [← hn'.out]; exact hlt)
        have hstep : Hid (maskOf (fun i => (up.getD i 0).testBit ia) (i + 1) = if (up.getD i 0).testBit ia then maskOf (fun i => (up.getD i 0).testBit ia) i ||| 2 ^ i else maskOf (fun i => (up.getD i 0).testBit ia) i) := rfl
        obtain ⟨m2, hm2⟩ : ∃ m2, m2 = maskOf (fun i => (up.getD i 0).testBit ia) (i + 1) := ⟨_, rfl⟩
        have hm2H : Hid (m2 = maskOf (fun i => (up.getD i 0).testBit ia) (i + 1)) := hm2
        have hstep2 : m2 = if (up.getD i 0).testBit ia then maskOf (fun i => (up.getD i 0).testBit ia) i ||| 2 ^ i else maskOf (fun i => (up.getD i 0).testBit ia) i := hm2
        clear hstep hm2
        have hbv := bit_val (up.getD i 0) ia (small_get hsH.out i)
        have hset := (set_val _ i hm9 (by omega)).1
        generalize maskOf (fun i => (up.getD i 0).testBit ia) i = mk at hm9 hset hstep2 ⊢
        generalize up.getD i 0 = mi at hmi hbv hstep2
        have hmin2 : min i 64 = i := by omega
        cases htb : mi.testBit ia with
        | true =>
          rw [htb] at hbv hstep2
          rw [if_pos rfl] at hstep2
          rw [← hstep2] at hset
          clear hstep2 htb
          go_wp2_with fail
          go_round
          case rel => exact ⟨i + 1, by omega, by go_num, by rw [hm2H.out]⟩
          case measure => simp [intOf]; omega
        | false =>
          rw [htb] at hbv hstep2
          have h3 : Hid (m2 = mk) := hstep2
          clear hstep2 htb hset
          go_wp2_with fail
          go_round
          case rel => exact ⟨i + 1, by omega, by go_num, by rw [← hm2H.out, h3.out]⟩
          case measure => simp [intOf]; omega
      · have hI : ¬ (i : Int) < (n : Int) := by omega
        have hin : Hid (i = n) := by show _ = _; omega
        go_wp2_with fail
        go_ret
        refine ⟨?_, hb3.out⟩
        rw [hr0.out, ← hin.out]; rfl
end Go.Proofs.YtfbbpodlemllcaaDoor
