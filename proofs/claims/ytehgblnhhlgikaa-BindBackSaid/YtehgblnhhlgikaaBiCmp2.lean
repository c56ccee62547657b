/-
  Bindings: the program's comparison of values and the document's are one.
-/
import Derived.Test.YtehgblnhhlgikaaBiCmp
import Derived.Test.YtehgblnhhlgikaaStep
namespace Go.Proofs.Ytehgblnhhlgikaa.Bi
open Go.RowKit
set_option linter.unusedVariables false
set_option linter.unusedSimpArgs false
set_option maxRecDepth 100000 in
set_option maxHeartbeats 1000000 in
theorem compare_calls (a b : V2) (w : World) : Calls Try.prog 26 #[.agg a.c, .agg b.c] w fun e w' => e = .returned (.int .i64 (cmpV a b)) ∧ Below w.heap.size w w' := by
  unfold cmpV V2.c
  by_cases h : cmpL a.s.toList b.s.toList = 0
  · rw [if_neg (by simpa using h)]
    go_enter Try.func26, Try.ntmps26
    go_wp2_with (first
      | (go_at_call 35; refine ((signS_calls _ _ _).mono ?_); rintro e w' ⟨rfl, rfl⟩)
      | (go_at_call 36; refine ((signN_calls _ _ _).mono ?_); rintro e w' ⟨rfl, rfl⟩))
    go_ret
    exact ⟨rfl, ((Below.refl _ _).alloc (Nat.le_refl _) _).alloc (by simp) _⟩
  · rw [if_pos (by simpa using h)]
    have hb : (cmpL a.s.toList b.s.toList == 0) = false := by simpa using h
    go_enter Try.func26, Try.ntmps26
    go_wp2_with (first
      | (go_at_call 35; refine ((signS_calls _ _ _).mono ?_); rintro e w' ⟨rfl, rfl⟩)
      | (go_at_call 36; refine ((signN_calls _ _ _).mono ?_); rintro e w' ⟨rfl, rfl⟩))
    go_ret
    exact ⟨rfl, ((Below.refl _ _).alloc (Nat.le_refl _) _).alloc (by simp) _⟩
theorem nil_size {s : ByteArray} (h : s.size = 0) : s.toList = [] := List.eq_nil_of_length_eq_zero (by rw [byteList]; exact h)
theorem cmp_nil_l {a b : ByteArray} (ha : a.size = 0) (hb : 0 < b.size) : cmpL a.toList b.toList = -1 := by
  rw [nil_size ha]
  have := byteList b
  match h : b.toList with
  | [] => rw [h] at this; simp at this; omega
  | _ :: _ => rfl
theorem cmp_nil_r {a b : ByteArray} (ha : 0 < a.size) (hb : b.size = 0) : cmpL a.toList b.toList = 1 := by
  rw [nil_size hb]
  have := byteList a
  match h : a.toList with
  | [] => rw [h] at this; simp at this; omega
  | _ :: _ => rfl
/-- The size of a value's symbol. -/
def V2.ok (v : V2) : Prop := v.s.size ≤ 9223372036854775807
set_option maxRecDepth 100000 in
set_option maxHeartbeats 2000000 in
theorem rcompare_calls (a b : V2) (ha : a.ok) (hb : b.ok) (w : World) : Calls Try.prog 27 #[.agg a.c, .agg b.c] w fun e w' => e = .returned (.int .i64 (cmpV a b)) ∧ Below w.heap.size w w' := by
  unfold V2.ok at ha hb
  by_cases h1 : a.s.size = 0 ∧ 0 < b.s.size
  · have hc := cmp_nil_l h1.1 h1.2
    obtain ⟨h1, h2⟩ := h1
    have hv : cmpV a b = -1 := by unfold cmpV; rw [hc]; rfl
    rw [hv]
    unfold V2.c
    have hI : (0 : Int) < (b.s.size : Int) := by omega
    go_enter Try.func27, Try.ntmps27
    go_wp2_with fail
    go_ret
    exact ⟨rfl, ((Below.refl _ _).alloc (Nat.le_refl _) _).alloc (by simp) _⟩
  · by_cases h2 : 0 < a.s.size ∧ b.s.size = 0
    · have hc := cmp_nil_r h2.1 h2.2
      obtain ⟨h2, h3⟩ := h2
      have hv : cmpV a b = 1 := by unfold cmpV; rw [hc]; rfl
      rw [hv]
      unfold V2.c
      have hI : (0 : Int) < (a.s.size : Int) := by omega
      have hne : ((a.s.size : Int) == 0) = false := by rw [beq_eq_false_iff_ne]; omega
      go_enter Try.func27, Try.ntmps27
      go_wp2_with fail
      go_ret
      exact ⟨rfl, ((Below.refl _ _).alloc (Nat.le_refl _) _).alloc (by simp) _⟩
    · have hz : (a.s.size = 0 ∧ b.s.size = 0) ∨ (0 < a.s.size ∧ 0 < b.s.size) := by omega
      have hcall : ∀ v : World, Calls Try.prog 37 #[.string a.s, .string b.s] v fun e w' => e = .returned (.int .i64 (cmpL a.s.toList b.s.toList)) ∧ Below v.heap.size v w' := fun v => bytes_calls a.s b.s ha hb v
      obtain ⟨p, hp⟩ : ∃ p, p = cmpL a.s.toList b.s.toList := ⟨_, rfl⟩
      have hv : Hid (cmpV a b = if p ≠ 0 then p else cmpN a.n b.n) := by show _ = _; rw [hp]; rfl
      rw [← hp] at hcall
      clear hp h1 h2
      obtain ⟨sa, na⟩ := a
      obtain ⟨sb, nb⟩ := b
      dsimp only at *
      unfold V2.c
      rcases hz with ⟨z1, z2⟩ | ⟨z1, z2⟩
      all_goals
        have f1 : ((sa.size : Int) == 0) = decide (sa.size = 0) := by rw [Bool.eq_iff_iff]; simp
        have f2 : ((sb.size : Int) == 0) = decide (sb.size = 0) := by rw [Bool.eq_iff_iff]; simp
        first | (have g1 : ¬ sa.size = 0 := by omega
                 have g2 : ¬ sb.size = 0 := by omega
                 have g3 : (0 : Int) < (sa.size : Int) := by omega
                 have g4 : (0 : Int) < (sb.size : Int) := by omega
                 simp only [g1, g2, decide_false] at f1 f2
                 clear g1 g2) | (simp only [z1, z2, decide_true] at f1 f2)
        go_enter Try.func27, Try.ntmps27
        go_upto_region 5 with fail
        generalize hW : World.alloc _ _ = W
        have hW0 : W.heap[w.heap.size]? = some (.cells #[.string sa, .int .i64 na] 46 (0, 0)) := by rw [← hW]; exact heap_alloc2_old w _ _
        have hW1 : W.heap[w.heap.size + 1]? = some (.cells #[.string sb, .int .i64 nb] 46 (0, 0)) := by rw [← hW]; exact heap_alloc2_new w _ _
        have hWB : Below w.heap.size w W := by rw [← hW]; exact ((Below.refl _ _).alloc (Nat.le_refl _) _).alloc (by simp) _
        have hWs : W.heap.size = w.heap.size + 2 := by rw [← hW]; simp
        clear hW
        refine wp_region_lit ?_
        refine sl_run rfl (.pointer (some ⟨w.heap.size, 0, none⟩)) W (by kernel_rfl) ?_
        refine sl_run rfl (.string sa) W (exec_load_cell 9 W _ rfl ⟨w.heap.size, 0, none⟩ (by kernel_rfl) _ (by rw [cell_of_row _ _ _ _ _ _ hW0]; rfl) (fun _ => by kernel_rfl)) ?_
        refine sl_run rfl (.pointer (some ⟨w.heap.size + 1, 0, none⟩)) W (by kernel_rfl) ?_
        refine sl_run rfl (.string sb) W (exec_load_cell 9 W _ rfl ⟨w.heap.size + 1, 0, none⟩ (by kernel_rfl) _ (by rw [cell_of_row _ _ _ _ _ _ hW1]; rfl) (fun _ => by kernel_rfl)) ?_
        refine sl_call rfl 37 #[.string sa, .string sb] (by kernel_rfl) (R := fun v w' => v = .int .i64 p ∧ Below W.heap.size W w') ((hcall W).mono fun e w' h => ⟨_, h.1, rfl, h.2⟩) ?_
        rintro _ w5 ⟨rfl, hB5⟩
        refine sl_run rfl (.int .i64 p) w5 (by kernel_rfl) ?_
        refine wpList_nil ?_
        simp only [Act.put, List.setIfInBounds_toArray, List.set_cons_zero, List.set_cons_succ]
        have c0 : w5.cell? ⟨w.heap.size, 1, none⟩ = some (.int .i64 na) := by rw [hB5.cell (by show w.heap.size < _; omega), cell_of_row _ _ _ _ _ _ hW0]; rfl
        have c1 : w5.cell? ⟨w.heap.size + 1, 1, none⟩ = some (.int .i64 nb) := by rw [hB5.cell (by show w.heap.size + 1 < _; omega), cell_of_row _ _ _ _ _ _ hW1]; rfl
        have hB6 : Hid (Below w.heap.size w w5) := hWB.trans (hB5.mono (by omega))
        clear hW0 hW1 hWB hWs hB5 hcall
        by_cases hp0 : p = 0
        · subst hp0
          have hv : Hid (cmpV ⟨sa, na⟩ ⟨sb, nb⟩ = if na < nb then -1 else if nb < na then 1 else 0) := by show _ = _; rw [hv.out, if_neg (by simp)]; rfl
          by_cases h1 : na < nb
          · have hv2 : Hid (cmpV ⟨sa, na⟩ ⟨sb, nb⟩ = -1) := by show _ = _; rw [hv.out, if_pos h1]
            go_wp2_with fail
            go_ret
            exact ⟨by rw [hv2.out]; rfl, hB6.out⟩
          · by_cases h2 : nb < na
            · have hv2 : Hid (cmpV ⟨sa, na⟩ ⟨sb, nb⟩ = 1) := by show _ = _; rw [hv.out, if_neg h1, if_pos h2]
              go_wp2_with fail
              go_ret
              exact ⟨by rw [hv2.out]; rfl, hB6.out⟩
            · have hv2 : Hid (cmpV ⟨sa, na⟩ ⟨sb, nb⟩ = 0) := by show _ = _; rw [hv.out, if_neg h1, if_neg h2]
              go_wp2_with fail
              go_ret
              exact ⟨by rw [hv2.out]; rfl, hB6.out⟩
        · have hv2 : Hid (cmpV ⟨sa, na⟩ ⟨sb, nb⟩ = p) := by show _ = _; rw [hv.out, if_pos hp0]
          have hcb : (p == 0) = false := by simpa using hp0
          go_wp2_with fail
          go_ret
          exact ⟨by rw [hv2.out]; rfl, hB6.out⟩
end Go.Proofs.Ytehgblnhhlgikaa.Bi
