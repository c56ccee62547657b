/-
  Orders: has, At, Above, Below.
-/
import Derived.Test.YtfbbpodlemllcaaDoorPoRight
namespace Go.Proofs.YtfbbpodlemllcaaDoor
open Go.RowKit Go.Shelf
set_option linter.unusedVariables false
set_option linter.unusedSimpArgs false
set_option pp.maxSteps 50000
def encI (z : Int) : Array Value := #[.int .i64 z]
theorem encI_size (z : Int) : (encI z).size = 1 := rfl
theorem el58 : Tryd.prog.elem 58 = 3 := by kernel_rfl
theorem un58 : Tryd.prog.underlying 58 = some (.slice (Tryd.prog.elem 58)) := by rw [el58]; exact Tryd.underlying58
theorem sz58 (w : World) : (sizeOf (Tryd.prog.elem 58)).run Tryd.prog w = .ok 1 w := by rw [el58]; kernel_rfl
instance : Inhabited Int := ⟨0⟩
/-- Is it so? -/
noncomputable def tr (p : Prop) : Bool := @decide p (Classical.propDecidable p)
theorem tr_iff {p : Prop} : tr p = true ↔ p := by unfold tr; simp
theorem tr_of {b : Bool} {p : Prop} (h : b = true ↔ p) : b = tr p := by rw [Bool.eq_iff_iff, h, tr_iff]
theorem tr_true {p : Prop} (h : p) : tr p = true := tr_iff.2 h
theorem tr_false {p : Prop} (h : ¬ p) : tr p = false := by rw [← Bool.not_eq_true, tr_iff]; exact h
theorem rightT_calls (up : List Nat) (hs : Small up) (A : Option Addr) (n c : Nat) (hn : n = up.length) (w : World) (ht : Tab w) (hy : Ms w (.slice A n c) up) :
    Calls Tryd.prog 15 #[.slice A n c] w fun e w' => e = .returned (.bool (tr (Ord up))) ∧ Below w.heap.size w w' :=
  (right_calls up hs A n c hn w ht hy).mono fun e w' h => by
    obtain ⟨b, h1, h2, h3⟩ := h
    rw [← tr_of h2]; exact ⟨h1, h3⟩
/-- Is it an order that has the labels? -/
def Has (up : List Nat) (l : List Int) : Prop := (∀ a ∈ l, 0 ≤ a ∧ a < up.length) ∧ Ord up
set_option maxRecDepth 100000 in
set_option maxHeartbeats 2000000 in
theorem has_calls (up : List Nat) (hs : Small up) (A : Option Addr) (n c : Nat) (hn : n = up.length) (l : List Int) (A2 : Option Addr) (m c2 : Nat) (hm : m = l.length) (hm9 : m ≤ 1000) (w : World) (ht : Tab w) (hy : Ms w (.slice A n c) up) (hz : Rw 1 encI w (.slice A2 m c2) l) :
    Calls Tryd.prog 31 #[.slice A n c, .slice A2 m c2] w fun e w' => e = .returned (.bool (tr (Has up l))) ∧ Below w.heap.size w w' := by
  obtain ⟨r, hr⟩ : ∃ r, r = tr (Has up l) := ⟨_, rfl⟩
  rw [← hr]
  have hrH : Hid (r = tr (Has up l)) := hr
  clear hr
  have hn' : Hid (n = up.length) := hn
  have hm' : Hid (m = l.length) := hm
  have hsH : Hid (Small up) := hs
  have htH : Hid (Tab w) := ht
  have hyH : Hid (Ms w (.slice A n c) up) := hy
  have hzH : Hid (Rw 1 encI w (.slice A2 m c2) l) := hz
  clear hn hm hs ht hy hz
  go_enter Tryd.func31, Tryd.ntmps31
  go_upto_region 1 with fail
  go_wp2_with fail
  go_loop [9] (fun u => ∃ i : Nat, i ≤ m ∧ u = .int .i64 (i : Int) ∧ Hid (∀ j, j < i → 0 ≤ l.getD j 0 ∧ l.getD j 0 < n)) (fun u => m - (intOf u).toNat)
  case atStart => exact ⟨0, by omega, rfl, fun j hj => by omega⟩
  case round =>
    obtain ⟨i, hi, rfl, hok⟩ := hrel
    by_cases hlt : i < m
    · have hil : i < l.length := by rw [← hm'.out]; exact hlt
      have hI : (i : Int) < (m : Int) := by omega
      obtain ⟨g, o, rfl, hnc, hg, hra⟩ := hzH.out.elem i hil
      have hra' : w.cell? ⟨g, o + i * 1, none⟩ = some (.int .i64 (l.getD i 0)) := hra 0 _ rfl
      rw [Nat.mul_one] at hra'
      have hzl : l.getD i 0 ∈ l := by rw [List.getD_eq_getElem?_getD, List.getElem?_eq_getElem hil]; exact List.getElem_mem hil
      obtain ⟨z, hz⟩ : ∃ z, z = l.getD i 0 := ⟨_, rfl⟩
      have hzH2 : Hid (z = l.getD i 0) := hz
      have hzlH : Hid (z ∈ l) := by rw [hz]; exact hzl
      rw [← hz] at hra'
      clear hz hzl hra hil
      by_cases h0 : z < 0
      · go_wp2_with fail
        go_ret
        refine ⟨?_, Below.refl _ _⟩
        rw [hrH.out, tr_false fun h => by have := (h.1 z hzlH.out).1; omega]; rfl
      · by_cases h1 : (n : Int) ≤ z
        · go_wp2_with fail
          go_ret
          refine ⟨?_, Below.refl _ _⟩
          rw [hrH.out, tr_false fun h => by have := (h.1 z hzlH.out).2; have := hn'.out; omega]; rfl
        · have hok2 : Hid (∀ j, j < i + 1 → 0 ≤ l.getD j 0 ∧ l.getD j 0 < n) := fun j hj => by
            by_cases hji : j < i
            · exact hok.out j hji
            · have : j = i := by omega
              subst this; rw [← hzH2.out]; omega
          clear hok
          go_wp2_with fail
          go_round
          case rel => exact ⟨i + 1, by omega, by go_num, hok2⟩
          case measure => simp [intOf]; omega
    · have hI : ¬ (i : Int) < (m : Int) := by omega
      have hall : Hid (∀ a ∈ l, 0 ≤ a ∧ a < n) := fun a ha => by
        obtain ⟨j, hj, rfl⟩ := List.getElem_of_mem ha
        have := hok.out j (by have := hm'.out; omega)
        rw [List.getD_eq_getElem?_getD, List.getElem?_eq_getElem hj] at this
        exact this
      go_upto_region 7 with fail
      refine wp_region_lit ?_
      refine sl_run rfl (.slice A n c) w (by kernel_rfl) ?_
      simp only [Act.put, List.setIfInBounds_toArray, List.set_cons_zero, List.set_cons_succ]
      have hrb : Hid (tr (Ord up) = r) := by
        show _ = _
        rw [hrH.out]
        exact tr_of ⟨fun h => ⟨fun a ha => by have := hall.out a ha; have := hn'.out; omega, tr_iff.1 h⟩, fun h => tr_iff.2 h.2⟩
      refine sl_call rfl 15 #[.slice A n c] (by kernel_rfl) (R := fun v w' => v = .bool r ∧ Below w.heap.size w w') ((rightT_calls up hsH.out A n c hn'.out w htH.out hyH.out).mono fun e w' h => ⟨_, h.1, by rw [hrb.out], h.2⟩) ?_
      rintro _ w2 ⟨rfl, hb2⟩
      simp only [Act.put, List.setIfInBounds_toArray, List.set_cons_zero, List.set_cons_succ]
      refine sl_run rfl (.bool r) w2 (by kernel_rfl) ?_
      simp only [Act.put, List.setIfInBounds_toArray, List.set_cons_zero, List.set_cons_succ]
      refine wpList_nil ?_
      have hb2' : Hid (Below w.heap.size w w2) := hb2
      clear hb2
      go_wp2_with fail
      go_ret
      exact ⟨rfl, hb2'.out⟩
/-- Where a label stands. -/
def atS (up : List Nat) (a b : Int) : Prop := Has up [a, b] ∧ (up.getD a.toNat 0).testBit b.toNat = true
theorem mem2 {p : Int → Prop} {a b : Int} : (∀ x ∈ [a, b], p x) ↔ p a ∧ p b := by simp
theorem region_at (up : List Nat) (n : Nat) (hn : n = up.length) {a b : Int} (h : Has up [a, b]) : ∃ i j : Nat, a = i ∧ b = j ∧ i < n ∧ j < n ∧ n ≤ 64 := by
  have h1 := mem2.1 h.1
  have h2 := h.2.2.1
  exact ⟨a.toNat, b.toNat, by omega, by omega, by omega, by omega, by omega⟩
set_option maxRecDepth 100000 in
set_option maxHeartbeats 2000000 in
theorem at_calls (up : List Nat) (hs : Small up) (A : Option Addr) (n c : Nat) (hn : n = up.length) (a b : Int) (w : World) (ht : Tab w) (hy : Ms w (.slice A n c) up) :
    Calls Tryd.prog 19 #[.slice A n c, .int .i64 a, .int .i64 b] w fun e w' => e = .returned (.bool (tr (atS up a b))) ∧ Below w.heap.size w w' := by
  obtain ⟨r, hr⟩ : ∃ r, r = tr (atS up a b) := ⟨_, rfl⟩
  rw [← hr]
  have hrH : Hid (r = tr (atS up a b)) := hr
  have hn' : Hid (n = up.length) := hn
  have hsH : Hid (Small up) := hs
  have htH : Hid (Tab w) := ht
  have hyH : Hid (Ms w (.slice A n c) up) := hy
  clear hn hs ht hy hr
  go_enter Tryd.func19, Tryd.ntmps19
  go_upto_region 1 with fail
  refine wp_region_lit ?_
  refine sl_run rfl (.slice A n c) w (by kernel_rfl) ?_
  simp only [Act.put, List.setIfInBounds_toArray, List.set_cons_zero, List.set_cons_succ]
  refine sl_run rfl (.int .i64 a) w (by kernel_rfl) ?_
  simp only [Act.put, List.setIfInBounds_toArray, List.set_cons_zero, List.set_cons_succ]
  refine sl_run rfl (.int .i64 b) w (by kernel_rfl) ?_
  simp only [Act.put, List.setIfInBounds_toArray, List.set_cons_zero, List.set_cons_succ]
  refine sl_run rfl (.slice (some ⟨w.heap.size, 0, none⟩) 2 2) (w.alloc (.cells (flat encI [a, b]).toArray 3)) (by kernel_rfl) ?_
  simp only [Act.put, List.setIfInBounds_toArray, List.set_cons_zero, List.set_cons_succ]
  have hn1 : (w.alloc (.cells (flat encI [a, b]).toArray 3)).heap[w.heap.size]? = some (.cells (flat encI [a, b]).toArray 3 (0, 0)) := heap_alloc_new _ _
  have hb1 : Below w.heap.size w (w.alloc (.cells (flat encI [a, b]).toArray 3)) := (Below.refl _ _).alloc (Nat.le_refl _) _
  obtain ⟨g1, hg1⟩ : ∃ g, g = w.heap.size := ⟨_, rfl⟩
  rw [← hg1] at hn1 ⊢
  generalize w.alloc _ = w1 at hn1 hb1 ⊢
  have hrw : Rw 1 encI w1 (.slice (some ⟨g1, 0, none⟩) 2 2) [a, b] := rw_new (enc := encI) encI_size [a, b] hn1
  obtain ⟨hh, hhh⟩ : ∃ hh, hh = tr (Has up [a, b]) := ⟨_, rfl⟩
  refine sl_call rfl 31 #[.slice A n c, .slice (some ⟨g1, 0, none⟩) 2 2] (by kernel_rfl) (R := fun v w' => v = .bool hh ∧ Below w1.heap.size w1 w') ((has_calls up hsH.out A n c hn'.out [a, b] (some ⟨g1, 0, none⟩) 2 2 rfl (by decide) w1 (htH.out.below htH.out.1 hb1) (hyH.out.below hb1) hrw).mono fun e w' h => ⟨_, h.1, by rw [hhh], h.2⟩) ?_
  rintro _ w2 ⟨rfl, hb2⟩
  simp only [Act.put, List.setIfInBounds_toArray, List.set_cons_zero, List.set_cons_succ]
  refine sl_run rfl (.bool hh) w2 (by kernel_rfl) ?_
  simp only [Act.put, List.setIfInBounds_toArray, List.set_cons_zero, List.set_cons_succ]
  have hb3 : Hid (Below w.heap.size w w2) := hb1.trans (hb2.mono hb1.size)
  have hhH : Hid (hh = tr (Has up [a, b])) := hhh
  clear hn1 hb1 hrw hb2 hg1 hhh
  cases hh with
  | false =>
    have hr0 : Hid (r = false) := by
      show _ = _
      rw [hrH.out]; exact tr_false fun h => by have := tr_iff.2 h.1; rw [← hhH.out] at this; cases this
    refine wpList_skip ?hw ?_
    case hw => kernel_rfl
    simp only [Act.put, List.setIfInBounds_toArray, List.set_cons_zero, List.set_cons_succ]
    refine wpList_skip ?hw ?_
    case hw => kernel_rfl
    simp only [Act.put, List.setIfInBounds_toArray, List.set_cons_zero, List.set_cons_succ]
    refine wpList_skip ?hw ?_
    case hw => kernel_rfl
    simp only [Act.put, List.setIfInBounds_toArray, List.set_cons_zero, List.set_cons_succ]
    refine wpList_skip ?hw ?_
    case hw => kernel_rfl
    simp only [Act.put, List.setIfInBounds_toArray, List.set_cons_zero, List.set_cons_succ]
    refine wpList_skip ?hw ?_
    case hw => kernel_rfl
    simp only [Act.put, List.setIfInBounds_toArray, List.set_cons_zero, List.set_cons_succ]
    refine wpList_skip ?hw ?_
    case hw => kernel_rfl
    simp only [Act.put, List.setIfInBounds_toArray, List.set_cons_zero, List.set_cons_succ]
    refine wpList_skip ?hw ?_
    case hw => kernel_rfl
    simp only [Act.put, List.setIfInBounds_toArray, List.set_cons_zero, List.set_cons_succ]
    refine wpList_skip ?hw ?_
    case hw => kernel_rfl
    simp only [Act.put, List.setIfInBounds_toArray, List.set_cons_zero, List.set_cons_succ]
    refine sl_run rfl (.bool false) w2 (by kernel_rfl) ?_
    simp only [Act.put, List.setIfInBounds_toArray, List.set_cons_zero, List.set_cons_succ]
    refine sl_run rfl (.bool false) w2 (by kernel_rfl) ?_
    simp only [Act.put, List.setIfInBounds_toArray, List.set_cons_zero, List.set_cons_succ]
    refine wpList_nil ?_
    go_wp2_with fail
    go_ret
    refine ⟨?_, hb3.out⟩
    rw [hr0.out]; rfl
  | true =>
    have hH : Has up [a, b] := tr_iff.1 hhH.out.symm
    obtain ⟨i, j, rfl, rfl, hi, hj, hn64⟩ := region_at up n hn'.out hH
    have hHH : Hid (Has up [(i : Int), (j : Int)]) := hH
    clear hH
    obtain ⟨g, o, rfl, hnc, hg, _⟩ := hyH.out.elem i (by rw [← hn'.out]; exact hi)
    have hmi : Hid (w2.cell? ⟨g, o + i, none⟩ = some (.int .u64 ((up.getD i 0 : Nat) : Int))) := by
      show _ = _
      rw [hb3.out.cell (by exact hg)]; exact elem_ms hyH.out i (by rw [← hn'.out]; exact hi)
    have hm9 := small_get hsH.out i
    have hr0 : Hid (r = (up.getD i 0).testBit j) := by
      show _ = _
      rw [hrH.out]
      exact (tr_of ⟨fun h => ⟨hHH.out, h⟩, fun h => h.2⟩).symm
    generalize up.getD i 0 = mi at hmi hm9 hr0
    refine sg_run (by kernel_rfl) (.slice (some ⟨g, o, none⟩) n c) w2 (by kernel_rfl) ?_
    simp only [Act.put, List.setIfInBounds_toArray, List.set_cons_zero, List.set_cons_succ]
    refine sg_run (by kernel_rfl) (.int .i64 (i : Int)) w2 (by kernel_rfl) ?_
    simp only [Act.put, List.setIfInBounds_toArray, List.set_cons_zero, List.set_cons_succ]
    refine sg_run (by kernel_rfl) (.pointer (some ⟨g, o + i, none⟩)) w2 (exec_ixM _ _ rfl g o n c i (by kernel_rfl) (by kernel_rfl) hi) ?_
    simp only [Act.put, List.setIfInBounds_toArray, List.set_cons_zero, List.set_cons_succ]
    refine sg_run (by kernel_rfl) (.int .u64 (mi : Int)) w2 (exec_load_cell 36 w2 _ rfl ⟨g, o + i, none⟩ (by kernel_rfl) _ hmi.out (fun _ => by kernel_rfl)) ?_
    simp only [Act.put, List.setIfInBounds_toArray, List.set_cons_zero, List.set_cons_succ]
    refine sg_run (by kernel_rfl) (.int .i64 (j : Int)) w2 (by kernel_rfl) ?_
    simp only [Act.put, List.setIfInBounds_toArray, List.set_cons_zero, List.set_cons_succ]
    refine sg_run (by kernel_rfl) (.int .u64 ((mi / 2 ^ j : Nat) : Int)) w2 (exec_shr _ _ 3 rfl .i64 mi j (by kernel_rfl) (by kernel_rfl) (by omega)) ?_
    simp only [Act.put, List.setIfInBounds_toArray, List.set_cons_zero, List.set_cons_succ]
    refine sg_run (by kernel_rfl) (.int .u64 ((mi / 2 ^ j &&& 1 : Nat) : Int)) w2 (exec_andM _ _ rfl (mi / 2 ^ j) 1 (by kernel_rfl) (by kernel_rfl) (Nat.lt_of_le_of_lt (Nat.div_le_self _ _) hm9) (by decide)) ?_
    simp only [Act.put, List.setIfInBounds_toArray, List.set_cons_zero, List.set_cons_succ]
    refine sg_run (by kernel_rfl) (.bool r) w2 ((exec_eqM _ _ rfl _ 1 (by kernel_rfl) (by kernel_rfl)).trans (by rw [low_bit1, hr0.out])) ?_
    simp only [Act.put, List.setIfInBounds_toArray, List.set_cons_zero, List.set_cons_succ]
    refine sl_run rfl (.bool r) w2 (by kernel_rfl) ?_
    simp only [Act.put, List.setIfInBounds_toArray, List.set_cons_zero, List.set_cons_succ]
    refine sl_run rfl (.bool r) w2 (by kernel_rfl) ?_
    simp only [Act.put, List.setIfInBounds_toArray, List.set_cons_zero, List.set_cons_succ]
    refine wpList_nil ?_
    clear hmi hr0
    go_wp2_with fail
    go_ret
    exact ⟨rfl, hb3.out⟩
end Go.Proofs.YtfbbpodlemllcaaDoor
