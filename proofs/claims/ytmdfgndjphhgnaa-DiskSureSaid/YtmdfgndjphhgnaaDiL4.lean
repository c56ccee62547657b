/-
  DiskSure, walked.
-/
import Derived.Test.YtmdfgndjphhgnaaDiLaw0
namespace Go.Proofs.Ytmdfgndjphhgnaa
open Go.RowKit
set_option linter.unusedVariables false
set_option linter.unusedSimpArgs false
set_option maxRecDepth 100000 in
set_option maxHeartbeats 2000000 in
theorem sure_calls {A A2 : Option Addr} {n m c c2 : Nat} {a b : List Nat} {keep : Int} {w : World} (hn : n = a.length) (hm : m = b.length) (ha : Rw 1 encB w (.slice A n c) a) (hb0 : Rw 1 encB w (.slice A2 m c2) b) (hk1 : -9223372036854775808 ≤ keep) (hk2 : keep < 9223372036854775808) : Calls Try.prog 4 #[.slice A n c, .slice A2 m c2, .int .i64 keep] w fun e w' => e = .returned (.bool true) ∧ Below w.heap.size w w' := by
  have haw : Hid (Rw 1 encB w (.slice A n c) a) := ha
  have hbw : Hid (Rw 1 encB w (.slice A2 m c2) b) := hb0
  have hkH : Hid (keep < 9223372036854775808) := hk2
  have hnH : Hid (n = a.length) := hn
  have hmH : Hid (m = b.length) := hm
  clear ha hb0 hk1 hk2 hn hm
  go_enter Try.func4, Try.ntmps4
  go_upto_region 1 with fail
  refine wp_region_lit ?_
  refine sg_call (by kernel_rfl) 9 #[] (by kernel_rfl) (R := fun v w' => ∃ D mb, v = .pointer (some ⟨D, 0, none⟩) ∧ DiskI w' D mb DS.new ∧ Below w.heap.size w w' ∧ w.heap.size ≤ D ∧ w.heap.size ≤ mb) ((New_calls w).mono fun e w' h => by
    obtain ⟨D, mb, h1, h2⟩ := h
    exact ⟨_, h1, D, mb, rfl, h2⟩) ?_
  rintro _ w1 ⟨D, mb, rfl, hD0, hb, hDl, hml⟩
  have hDw1 : Hid (DiskI w1 D mb DS.new) := hD0
  have hBw1 : Hid (Below w.heap.size w w1) := hb
  have hDle : Hid (w.heap.size ≤ D ∧ w.heap.size ≤ mb) := And.intro hDl hml
  simp only [Act.put, List.setIfInBounds_toArray, List.set_cons_zero, List.set_cons_succ]
  have haw1 : Hid (Rw 1 encB w1 (.slice A n c) a) := (haw.out).below hb
  have hbw1 : Hid (Rw 1 encB w1 (.slice A2 m c2) b) := (hbw.out).below hb
  clear haw hbw
  clear hD0 hb hDl hml
  refine sl_run rfl (.pointer (some ⟨D, 0, none⟩)) w1 (by kernel_rfl) ?_
  simp only [Act.put, List.setIfInBounds_toArray, List.set_cons_zero, List.set_cons_succ]
  refine wpList_nil ?_
  go_upto_region 2 with fail
  refine wp_region_lit ?_
  refine sg_call (by kernel_rfl) 10 #[] (by kernel_rfl) (R := fun v w' => v = .bool true ∧ Below w1.heap.size w1 w') ((fixed_calls w1).mono fun e w' h => ⟨_, h.1, rfl, h.2⟩) ?_
  rintro _ w2 ⟨rfl, hb⟩
  simp only [Act.put, List.setIfInBounds_toArray, List.set_cons_zero, List.set_cons_succ]
  have hDw2 : Hid (DiskI w2 D mb DS.new) := (hDw1.out).below hb
  have hBw2 : Hid (Below w.heap.size w w2) := (hBw1.out).trans ((hb).mono (hBw1.out).size)
  have haw2 : Hid (Rw 1 encB w2 (.slice A n c) a) := (haw1.out).below hb
  have hbw2 : Hid (Rw 1 encB w2 (.slice A2 m c2) b) := (hbw1.out).below hb
  clear hDw1 hBw1 haw1 hbw1
  clear hb
  refine sl_run rfl (.bool false) w2 (by kernel_rfl) ?_
  simp only [Act.put, List.setIfInBounds_toArray, List.set_cons_zero, List.set_cons_succ]
  refine sl_run rfl (.bool false) w2 (by kernel_rfl) ?_
  simp only [Act.put, List.setIfInBounds_toArray, List.set_cons_zero, List.set_cons_succ]
  refine sg_run (by kernel_rfl) (.pointer (some ⟨D, 0, none⟩)) w2 (by kernel_rfl) ?_
  simp only [Act.put, List.setIfInBounds_toArray, List.set_cons_zero, List.set_cons_succ]
  refine sg_run (by kernel_rfl) (.bool false) w2 (by kernel_rfl) ?_
  simp only [Act.put, List.setIfInBounds_toArray, List.set_cons_zero, List.set_cons_succ]
  refine sl_run rfl (.bool false) w2 (by kernel_rfl) ?_
  simp only [Act.put, List.setIfInBounds_toArray, List.set_cons_zero, List.set_cons_succ]
  refine wpList_nil ?_
  go_upto_region 4 with fail
  refine wp_region_lit ?_
  by_cases p1 : 2000 < n
  case pos =>
    refine sl_run rfl (.slice A n c) w2 (by kernel_rfl) ?_
    simp only [Act.put, List.setIfInBounds_toArray, List.set_cons_zero, List.set_cons_succ]
    refine sl_run rfl (.int .i64 (n : Int)) w2 (by kernel_rfl) ?_
    simp only [Act.put, List.setIfInBounds_toArray, List.set_cons_zero, List.set_cons_succ]
    refine sl_run rfl (.bool true) w2 (exec_gtr 3 _ _ rfl ((n : Int)) (2000) (by kernel_rfl) (by kernel_rfl) true (by rw [decide_eq_true_eq]; omega)) ?_
    simp only [Act.put, List.setIfInBounds_toArray, List.set_cons_zero, List.set_cons_succ]
    refine sl_run rfl (.bool true) w2 (by kernel_rfl) ?_
    simp only [Act.put, List.setIfInBounds_toArray, List.set_cons_zero, List.set_cons_succ]
    refine wpList_skip ?hw ?_
    case hw => kernel_rfl
    simp only [Act.put, List.setIfInBounds_toArray, List.set_cons_zero, List.set_cons_succ]
    refine wpList_skip ?hw ?_
    case hw => kernel_rfl
    simp only [Act.put, List.setIfInBounds_toArray, List.set_cons_zero, List.set_cons_succ]
    refine wpList_skip ?hw ?_
    case hw => kernel_rfl
    simp only [Act.put, List.setIfInBounds_toArray, List.set_cons_zero, List.set_cons_succ]
    refine sl_run rfl (.bool true) w2 (by kernel_rfl) ?_
    simp only [Act.put, List.setIfInBounds_toArray, List.set_cons_zero, List.set_cons_succ]
    refine wpList_nil ?_
    have hF := hBw2
    clear hDw2 haw2 hbw2
    clear hDle 
    go_wp2_with fail
    go_ret
    exact ⟨rfl, hF.out⟩
  case neg =>
    by_cases p2 : 2000 < m
    case pos =>
      refine sl_run rfl (.slice A n c) w2 (by kernel_rfl) ?_
      simp only [Act.put, List.setIfInBounds_toArray, List.set_cons_zero, List.set_cons_succ]
      refine sl_run rfl (.int .i64 (n : Int)) w2 (by kernel_rfl) ?_
      simp only [Act.put, List.setIfInBounds_toArray, List.set_cons_zero, List.set_cons_succ]
      refine sl_run rfl (.bool false) w2 (exec_gtr 3 _ _ rfl ((n : Int)) (2000) (by kernel_rfl) (by kernel_rfl) false (by rw [decide_eq_false_iff_not]; omega)) ?_
      simp only [Act.put, List.setIfInBounds_toArray, List.set_cons_zero, List.set_cons_succ]
      refine sl_run rfl (.bool false) w2 (by kernel_rfl) ?_
      simp only [Act.put, List.setIfInBounds_toArray, List.set_cons_zero, List.set_cons_succ]
      refine sg_run (by kernel_rfl) (.slice A2 m c2) w2 (by kernel_rfl) ?_
      simp only [Act.put, List.setIfInBounds_toArray, List.set_cons_zero, List.set_cons_succ]
      refine sg_run (by kernel_rfl) (.int .i64 (m : Int)) w2 (by kernel_rfl) ?_
      simp only [Act.put, List.setIfInBounds_toArray, List.set_cons_zero, List.set_cons_succ]
      refine sg_run (by kernel_rfl) (.bool true) w2 (exec_gtr 3 _ _ rfl ((m : Int)) (2000) (by kernel_rfl) (by kernel_rfl) true (by rw [decide_eq_true_eq]; omega)) ?_
      simp only [Act.put, List.setIfInBounds_toArray, List.set_cons_zero, List.set_cons_succ]
      refine sl_run rfl (.bool true) w2 (by kernel_rfl) ?_
      simp only [Act.put, List.setIfInBounds_toArray, List.set_cons_zero, List.set_cons_succ]
      refine wpList_nil ?_
      have hF := hBw2
      clear hDw2 haw2 hbw2
      clear hDle 
      go_wp2_with fail
      go_ret
      exact ⟨rfl, hF.out⟩
    case neg =>
      refine sl_run rfl (.slice A n c) w2 (by kernel_rfl) ?_
      simp only [Act.put, List.setIfInBounds_toArray, List.set_cons_zero, List.set_cons_succ]
      refine sl_run rfl (.int .i64 (n : Int)) w2 (by kernel_rfl) ?_
      simp only [Act.put, List.setIfInBounds_toArray, List.set_cons_zero, List.set_cons_succ]
      refine sl_run rfl (.bool false) w2 (exec_gtr 3 _ _ rfl ((n : Int)) (2000) (by kernel_rfl) (by kernel_rfl) false (by rw [decide_eq_false_iff_not]; omega)) ?_
      simp only [Act.put, List.setIfInBounds_toArray, List.set_cons_zero, List.set_cons_succ]
      refine sl_run rfl (.bool false) w2 (by kernel_rfl) ?_
      simp only [Act.put, List.setIfInBounds_toArray, List.set_cons_zero, List.set_cons_succ]
      refine sg_run (by kernel_rfl) (.slice A2 m c2) w2 (by kernel_rfl) ?_
      simp only [Act.put, List.setIfInBounds_toArray, List.set_cons_zero, List.set_cons_succ]
      refine sg_run (by kernel_rfl) (.int .i64 (m : Int)) w2 (by kernel_rfl) ?_
      simp only [Act.put, List.setIfInBounds_toArray, List.set_cons_zero, List.set_cons_succ]
      refine sg_run (by kernel_rfl) (.bool false) w2 (exec_gtr 3 _ _ rfl ((m : Int)) (2000) (by kernel_rfl) (by kernel_rfl) false (by rw [decide_eq_false_iff_not]; omega)) ?_
      simp only [Act.put, List.setIfInBounds_toArray, List.set_cons_zero, List.set_cons_succ]
      refine sl_run rfl (.bool false) w2 (by kernel_rfl) ?_
      simp only [Act.put, List.setIfInBounds_toArray, List.set_cons_zero, List.set_cons_succ]
      refine wpList_nil ?_
      have hal : Hid (a.length ≤ 2000) := by have := hnH.out; exact (by omega : a.length ≤ 2000)
      have hbl : Hid (b.length ≤ 2000) := by have := hmH.out; exact (by omega : b.length ≤ 2000)
      clear p1 p2
      go_upto_region 6 with fail
      refine wp_region_lit ?_
      refine sl_run rfl (.pointer (some ⟨D, 0, none⟩)) w2 (by kernel_rfl) ?_
      simp only [Act.put, List.setIfInBounds_toArray, List.set_cons_zero, List.set_cons_succ]
      refine sl_run rfl (.slice A n c) w2 (by kernel_rfl) ?_
      simp only [Act.put, List.setIfInBounds_toArray, List.set_cons_zero, List.set_cons_succ]
      refine sg_call (by kernel_rfl) 12 #[.pointer (some ⟨D, 0, none⟩), .string nF, .slice A n c] (by kernel_rfl) (R := fun v w' => v = .int .i64 0 ∧ DiskI w' D mb (fS nF a 0 (-1) false) ∧ KpS (TD D mb) w2 w') ?hc ?_
      case hc =>
        have h8 := Append_calls hDw2.out nF a A n c hnH.out (by have := hnH.out; have := hal.out; omega) haw2.out
        rw [new_app name_F a (by have := hal.out; omega)] at h8
        exact h8.mono fun e w' h => ⟨_, h.1, rfl, h.2⟩
      rintro _ w3 ⟨rfl, hD0, hK0⟩
      simp only [Act.put, List.setIfInBounds_toArray, List.set_cons_zero, List.set_cons_succ]
      have hDw3 : Hid (DiskI w3 D mb (fS nF a 0 (-1) false)) := hD0
      have hBw3 : Hid (Below w.heap.size w w3) := bel_kp hBw2.out hK0 hDle.out.1 hDle.out.2
      have haw3 : Hid (Rw 1 encB w3 (.slice A n c) a) := rw_kpS hDw2.out haw2.out hK0
      have hbw3 : Hid (Rw 1 encB w3 (.slice A2 m c2) b) := rw_kpS hDw2.out hbw2.out hK0
      clear hD0 hK0 hDw2 hBw2 haw2 hbw2
      refine sl_run rfl (.bool false) w3 (by kernel_rfl) ?_
      simp only [Act.put, List.setIfInBounds_toArray, List.set_cons_zero, List.set_cons_succ]
      refine sl_run rfl (.bool false) w3 (by kernel_rfl) ?_
      simp only [Act.put, List.setIfInBounds_toArray, List.set_cons_zero, List.set_cons_succ]
      refine sg_run (by kernel_rfl) (.pointer (some ⟨D, 0, none⟩)) w3 (by kernel_rfl) ?_
      simp only [Act.put, List.setIfInBounds_toArray, List.set_cons_zero, List.set_cons_succ]
      refine sg_call (by kernel_rfl) 14 #[.pointer (some ⟨D, 0, none⟩), .string nF] (by kernel_rfl) (R := fun v w' => v = .int .i64 0 ∧ DiskI w' D mb (fS nF a a.length (-1) false) ∧ KpS (TD D mb) w3 w') ?hc ?_
      case hc =>
        have h8 := Sync_calls hDw3.out nF
        rw [fS_sync] at h8
        exact h8.mono fun e w' h => ⟨_, h.1, rfl, h.2⟩
      rintro _ w4 ⟨rfl, hD0, hK0⟩
      simp only [Act.put, List.setIfInBounds_toArray, List.set_cons_zero, List.set_cons_succ]
      have hDw4 : Hid (DiskI w4 D mb (fS nF a a.length (-1) false)) := hD0
      have hBw4 : Hid (Below w.heap.size w w4) := bel_kp hBw3.out hK0 hDle.out.1 hDle.out.2
      have haw4 : Hid (Rw 1 encB w4 (.slice A n c) a) := rw_kpS hDw3.out haw3.out hK0
      have hbw4 : Hid (Rw 1 encB w4 (.slice A2 m c2) b) := rw_kpS hDw3.out hbw3.out hK0
      clear hD0 hK0 hDw3 hBw3 haw3 hbw3
      refine sg_run (by kernel_rfl) (.bool false) w4 (by kernel_rfl) ?_
      simp only [Act.put, List.setIfInBounds_toArray, List.set_cons_zero, List.set_cons_succ]
      refine sl_run rfl (.bool false) w4 (by kernel_rfl) ?_
      simp only [Act.put, List.setIfInBounds_toArray, List.set_cons_zero, List.set_cons_succ]
      refine sl_run rfl (.bool false) w4 (by kernel_rfl) ?_
      simp only [Act.put, List.setIfInBounds_toArray, List.set_cons_zero, List.set_cons_succ]
      refine sg_run (by kernel_rfl) (.pointer (some ⟨D, 0, none⟩)) w4 (by kernel_rfl) ?_
      simp only [Act.put, List.setIfInBounds_toArray, List.set_cons_zero, List.set_cons_succ]
      refine sg_run (by kernel_rfl) (.slice A2 m c2) w4 (by kernel_rfl) ?_
      simp only [Act.put, List.setIfInBounds_toArray, List.set_cons_zero, List.set_cons_succ]
      refine sg_call (by kernel_rfl) 12 #[.pointer (some ⟨D, 0, none⟩), .string nF, .slice A2 m c2] (by kernel_rfl) (R := fun v w' => v = .int .i64 0 ∧ DiskI w' D mb (fS nF (a ++ b) a.length (-1) false) ∧ KpS (TD D mb) w4 w') ?hc ?_
      case hc =>
        have h8 := Append_calls hDw4.out nF b A2 m c2 hmH.out (by have := hmH.out; have := hbl.out; omega) hbw4.out
        rw [fS_app name_F a b _ (by have := hal.out; have := hbl.out; omega)] at h8
        exact h8.mono fun e w' h => ⟨_, h.1, rfl, h.2⟩
      rintro _ w5 ⟨rfl, hD0, hK0⟩
      simp only [Act.put, List.setIfInBounds_toArray, List.set_cons_zero, List.set_cons_succ]
      have hDw5 : Hid (DiskI w5 D mb (fS nF (a ++ b) a.length (-1) false)) := hD0
      have hBw5 : Hid (Below w.heap.size w w5) := bel_kp hBw4.out hK0 hDle.out.1 hDle.out.2
      have haw5 : Hid (Rw 1 encB w5 (.slice A n c) a) := rw_kpS hDw4.out haw4.out hK0
      have hbw5 : Hid (Rw 1 encB w5 (.slice A2 m c2) b) := rw_kpS hDw4.out hbw4.out hK0
      clear hD0 hK0 hDw4 hBw4 haw4 hbw4
      refine sg_run (by kernel_rfl) (.bool false) w5 (by kernel_rfl) ?_
      simp only [Act.put, List.setIfInBounds_toArray, List.set_cons_zero, List.set_cons_succ]
      refine sl_run rfl (.bool false) w5 (by kernel_rfl) ?_
      simp only [Act.put, List.setIfInBounds_toArray, List.set_cons_zero, List.set_cons_succ]
      refine wpList_nil ?_
      obtain ⟨q, hq⟩ : ∃ q : Nat, q = min (max keep 0).toNat b.length := ⟨_, rfl⟩
      have hqb : Hid (q ≤ b.length) := by rw [hq]; exact Nat.min_le_right _ _
      have hqI : Hid (min (max keep 0) (m : Int) = (q : Int)) := by
        have := hmH.out
        rw [hq]; exact (by omega : min (max keep 0) (m : Int) = ((min (max keep 0).toNat b.length : Nat) : Int))
      have hcr : Hid ((fS nF (a ++ b) a.length (-1) false).crash keep = fS nF (a ++ b.take q) (a.length + q) (-1) false) := by
        rw [fS_crash, List.length_append, Nat.add_sub_cancel_left, ← hq, List.take_length_add_append]
        rfl
      have hc2 : Hid ((fS nF (a ++ b.take q) (a.length + q) (-1) false).crash 0 = fS nF (a ++ b.take q) (a.length + q) (-1) false) := by
        have e : (a ++ b.take q).length = a.length + q := by
          have := hqb.out
          rw [List.length_append, List.length_take]; omega
        rw [fS_crash, e, Nat.sub_self, Nat.min_zero, Nat.add_zero, List.take_of_length_le (by omega)]
        rfl
      have hst : Hid (strB a ++ strB (b.take q) = strB (a ++ b.take q)) := strB_app _ _
      have hsz : Hid ((strB a).size + (strB (b.take q)).size ≤ 1000000000) := by
        have := hal.out; have := hbl.out; have := hqb.out
        rw [strB_size, strB_size, List.length_take]
        exact (by omega : a.length + min q b.length ≤ 1000000000)
      clear hq
      go_upto_region 8 with fail
      refine wp_region_lit ?_
      refine sl_run rfl (.pointer (some ⟨D, 0, none⟩)) w5 (by kernel_rfl) ?_
      simp only [Act.put, List.setIfInBounds_toArray, List.set_cons_zero, List.set_cons_succ]
      refine sl_run rfl (.int .i64 keep) w5 (by kernel_rfl) ?_
      simp only [Act.put, List.setIfInBounds_toArray, List.set_cons_zero, List.set_cons_succ]
      refine sg_call (by kernel_rfl) 26 #[.pointer (some ⟨D, 0, none⟩), .int .i64 keep] (by kernel_rfl) (R := fun v w' => v = .tuple #[] ∧ DiskI w' D mb (fS nF (a ++ b.take q) (a.length + q) (-1) false) ∧ KpS (TD D mb) w5 w') ?hc ?_
      case hc =>
        have h8 := Crash_calls hDw5.out keep hkH.out
        rw [hcr.out] at h8
        exact h8.mono fun e w' h => ⟨_, h.1, rfl, h.2⟩
      rintro _ w6 ⟨rfl, hD0, hK0⟩
      simp only [Act.put, List.setIfInBounds_toArray, List.set_cons_zero, List.set_cons_succ]
      have hDw6 : Hid (DiskI w6 D mb (fS nF (a ++ b.take q) (a.length + q) (-1) false)) := hD0
      have hBw6 : Hid (Below w.heap.size w w6) := bel_kp hBw5.out hK0 hDle.out.1 hDle.out.2
      have haw6 : Hid (Rw 1 encB w6 (.slice A n c) a) := rw_kpS hDw5.out haw5.out hK0
      have hbw6 : Hid (Rw 1 encB w6 (.slice A2 m c2) b) := rw_kpS hDw5.out hbw5.out hK0
      clear hD0 hK0 hDw5 hBw5 haw5 hbw5
      refine wpList_nil ?_
      go_upto_region 9 with fail
      refine wp_region_lit ?_
      refine sl_run rfl (.pointer (some ⟨D, 0, none⟩)) w6 (by kernel_rfl) ?_
      simp only [Act.put, List.setIfInBounds_toArray, List.set_cons_zero, List.set_cons_succ]
      refine sg_call (by kernel_rfl) 22 #[.pointer (some ⟨D, 0, none⟩), .string nF] (by kernel_rfl) (R := fun v w' => ∃ u, v = .tuple #[u, .int .i64 0] ∧ Rw 1 encB w' u (a ++ b.take q) ∧ Below w6.heap.size w6 w') ?hc ?_
      case hc =>
        have h8 := Read_calls hDw6.out nF
        rw [fS_read] at h8
        refine h8.mono fun e w' h => ?_
        obtain ⟨v, h1, h2, h3⟩ := h
        exact ⟨_, h1, v, rfl, h2, h3⟩
      rintro _ w7 ⟨uc, rfl, hr0, hb⟩
      simp only [Act.put, List.setIfInBounds_toArray, List.set_cons_zero, List.set_cons_succ]
      have hDw7 : Hid (DiskI w7 D mb (fS nF (a ++ b.take q) (a.length + q) (-1) false)) := (hDw6.out).below hb
      have hBw7 : Hid (Below w.heap.size w w7) := (hBw6.out).trans ((hb).mono (hBw6.out).size)
      have haw7 : Hid (Rw 1 encB w7 (.slice A n c) a) := (haw6.out).below hb
      have hbw7 : Hid (Rw 1 encB w7 (.slice A2 m c2) b) := (hbw6.out).below hb
      clear hDw6 hBw6 haw6 hbw6
      have hrcw7 : Hid (Rw 1 encB w7 uc (a ++ b.take q)) := hr0
      clear hb hr0
      refine sl_run rfl (.tuple #[uc, .int .i64 0]) w7 (by kernel_rfl) ?_
      simp only [Act.put, List.setIfInBounds_toArray, List.set_cons_zero, List.set_cons_succ]
      refine sl_run rfl (uc) w7 (by kernel_rfl) ?_
      simp only [Act.put, List.setIfInBounds_toArray, List.set_cons_zero, List.set_cons_succ]
      refine sl_run rfl (.int .i64 0) w7 (by kernel_rfl) ?_
      simp only [Act.put, List.setIfInBounds_toArray, List.set_cons_zero, List.set_cons_succ]
      refine sl_run rfl (uc) w7 (by kernel_rfl) ?_
      simp only [Act.put, List.setIfInBounds_toArray, List.set_cons_zero, List.set_cons_succ]
      refine sl_run rfl (.int .i64 0) w7 (by kernel_rfl) ?_
      simp only [Act.put, List.setIfInBounds_toArray, List.set_cons_zero, List.set_cons_succ]
      refine wpList_nil ?_
      go_upto_region 10 with fail
      refine wp_region_lit ?_
      refine sl_run rfl (.int .i64 keep) w7 (by kernel_rfl) ?_
      simp only [Act.put, List.setIfInBounds_toArray, List.set_cons_zero, List.set_cons_succ]
      refine sl_run rfl (.int .i64 (max keep 0)) w7 (exec_maxI _ _ 3 rfl keep 0 (by kernel_rfl) (by kernel_rfl) _) ?_
      simp only [Act.put, List.setIfInBounds_toArray, List.set_cons_zero, List.set_cons_succ]
      refine sl_run rfl (.slice A2 m c2) w7 (by kernel_rfl) ?_
      simp only [Act.put, List.setIfInBounds_toArray, List.set_cons_zero, List.set_cons_succ]
      refine sl_run rfl (.int .i64 (m : Int)) w7 (by kernel_rfl) ?_
      simp only [Act.put, List.setIfInBounds_toArray, List.set_cons_zero, List.set_cons_succ]
      refine sl_run rfl (.int .i64 (q : Int)) w7 ((exec_minI _ _ rfl (max keep 0) (m : Int) (by kernel_rfl) (by kernel_rfl) _).trans (by rw [hqI.out])) ?_
      simp only [Act.put, List.setIfInBounds_toArray, List.set_cons_zero, List.set_cons_succ]
      refine sl_run rfl (.int .i64 (q : Int)) w7 (by kernel_rfl) ?_
      simp only [Act.put, List.setIfInBounds_toArray, List.set_cons_zero, List.set_cons_succ]
      refine wpList_nil ?_
      have htk := take_rw hbw7.out hqb.out
      obtain ⟨A3, hA3⟩ : ∃ x, (if c2 = 0 then A2 else A2.map (·.add 0)) = x := ⟨_, rfl⟩
      rw [hA3] at htk
      have hA3H : Hid ((if c2 = 0 then A2 else A2.map (·.add 0)) = A3) := hA3
      clear hA3
      have htc : Hid (q ≤ c2) := htk.1
      have htw : Hid (Rw 1 encB w7 (.slice A3 q c2) (b.take q)) := htk.2
      clear htk
      have htw7 := htw
      clear htw
      go_upto_region 11 with fail
      refine wp_region_quiet (C := Below w7.heap.size w7) (by kernel_rfl) (by kernel_rfl) (Below.refl _ _).drew ?_
      refine quiet_run rfl (.int .i64 0) (fun w' h => (by kernel_rfl)) ?_
      simp only [Act.put, List.setIfInBounds_toArray, List.set_cons_zero, List.set_cons_succ]
      refine quiet_run rfl (.bool false) (fun w' h => (by kernel_rfl)) ?_
      simp only [Act.put, List.setIfInBounds_toArray, List.set_cons_zero, List.set_cons_succ]
      refine quiet_run rfl (.bool false) (fun w' h => (by kernel_rfl)) ?_
      simp only [Act.put, List.setIfInBounds_toArray, List.set_cons_zero, List.set_cons_succ]
      refine quiet_runG (by kernel_rfl) (uc) (fun w' h => (by kernel_rfl)) ?_
      simp only [Act.put, List.setIfInBounds_toArray, List.set_cons_zero, List.set_cons_succ]
      refine quiet_runG (by kernel_rfl) (.string (strB (a ++ b.take q))) (fun w' h => (exec_convB _ rfl (uc) (a ++ b.take q) (by kernel_rfl) (hrcw7.out.below h))) ?_
      simp only [Act.put, List.setIfInBounds_toArray, List.set_cons_zero, List.set_cons_succ]
      refine quiet_runG (by kernel_rfl) (.slice A n c) (fun w' h => (by kernel_rfl)) ?_
      simp only [Act.put, List.setIfInBounds_toArray, List.set_cons_zero, List.set_cons_succ]
      refine quiet_runG (by kernel_rfl) (.string (strB (a))) (fun w' h => (exec_convB _ rfl (.slice A n c) (a) (by kernel_rfl) (haw7.out.below h))) ?_
      simp only [Act.put, List.setIfInBounds_toArray, List.set_cons_zero, List.set_cons_succ]
      refine quiet_runG (by kernel_rfl) (.slice A2 m c2) (fun w' h => (by kernel_rfl)) ?_
      simp only [Act.put, List.setIfInBounds_toArray, List.set_cons_zero, List.set_cons_succ]
      refine quiet_runG (by kernel_rfl) (.int .i64 (q : Int)) (fun w' h => (by kernel_rfl)) ?_
      simp only [Act.put, List.setIfInBounds_toArray, List.set_cons_zero, List.set_cons_succ]
      refine quiet_runG (by kernel_rfl) (.slice A3 q c2) (fun w' h => ((exec_takeB _ _ rfl A2 m c2 q (by kernel_rfl) (by kernel_rfl) htc.out _).trans (by rw [hA3H.out]))) ?_
      simp only [Act.put, List.setIfInBounds_toArray, List.set_cons_zero, List.set_cons_succ]
      refine quiet_runG (by kernel_rfl) (.string (strB (b.take q))) (fun w' h => (exec_convB _ rfl (.slice A3 q c2) (b.take q) (by kernel_rfl) (htw7.out.below h))) ?_
      simp only [Act.put, List.setIfInBounds_toArray, List.set_cons_zero, List.set_cons_succ]
      refine quiet_runG (by kernel_rfl) (.string (strB (a ++ b.take q))) (fun w' h => ((exec_addS _ _ rfl (strB a) (strB (b.take q)) (by kernel_rfl) (by kernel_rfl) hsz.out _).trans (by rw [hst.out]))) ?_
      simp only [Act.put, List.setIfInBounds_toArray, List.set_cons_zero, List.set_cons_succ]
      refine quiet_runG (by kernel_rfl) (.bool false) (fun w' h => (exec_neqS _ _ rfl (strB (a ++ b.take q)) (by kernel_rfl) (by kernel_rfl) _)) ?_
      simp only [Act.put, List.setIfInBounds_toArray, List.set_cons_zero, List.set_cons_succ]
      refine quiet_run rfl (.bool false) (fun w' h => (by kernel_rfl)) ?_
      simp only [Act.put, List.setIfInBounds_toArray, List.set_cons_zero, List.set_cons_succ]
      refine wpQuiet_nil ?_
      intro w8 hb
      have hDw8 : Hid (DiskI w8 D mb (fS nF (a ++ b.take q) (a.length + q) (-1) false)) := (hDw7.out).below hb
      have hBw8 : Hid (Below w.heap.size w w8) := (hBw7.out).trans ((hb).mono (hBw7.out).size)
      have haw8 : Hid (Rw 1 encB w8 (.slice A n c) a) := (haw7.out).below hb
      have hbw8 : Hid (Rw 1 encB w8 (.slice A2 m c2) b) := (hbw7.out).below hb
      have hrcw8 : Hid (Rw 1 encB w8 uc (a ++ b.take q)) := (hrcw7.out).below hb
      have htw8 : Hid (Rw 1 encB w8 (.slice A3 q c2) (b.take q)) := (htw7.out).below hb
      clear hDw7 hBw7 haw7 hbw7 hrcw7 htw7
      clear hb
      go_upto_region 13 with fail
      refine wp_region_lit ?_
      refine sl_run rfl (.pointer (some ⟨D, 0, none⟩)) w8 (by kernel_rfl) ?_
      simp only [Act.put, List.setIfInBounds_toArray, List.set_cons_zero, List.set_cons_succ]
      refine sg_call (by kernel_rfl) 26 #[.pointer (some ⟨D, 0, none⟩), .int .i64 0] (by kernel_rfl) (R := fun v w' => v = .tuple #[] ∧ DiskI w' D mb (fS nF (a ++ b.take q) (a.length + q) (-1) false) ∧ KpS (TD D mb) w8 w') ?hc ?_
      case hc =>
        have h8 := Crash_calls hDw8.out 0 (by decide)
        rw [hc2.out] at h8
        exact h8.mono fun e w' h => ⟨_, h.1, rfl, h.2⟩
      rintro _ w9 ⟨rfl, hD0, hK0⟩
      simp only [Act.put, List.setIfInBounds_toArray, List.set_cons_zero, List.set_cons_succ]
      have hDw9 : Hid (DiskI w9 D mb (fS nF (a ++ b.take q) (a.length + q) (-1) false)) := hD0
      have hBw9 : Hid (Below w.heap.size w w9) := bel_kp hBw8.out hK0 hDle.out.1 hDle.out.2
      have haw9 : Hid (Rw 1 encB w9 (.slice A n c) a) := rw_kpS hDw8.out haw8.out hK0
      have hbw9 : Hid (Rw 1 encB w9 (.slice A2 m c2) b) := rw_kpS hDw8.out hbw8.out hK0
      have hrcw9 : Hid (Rw 1 encB w9 uc (a ++ b.take q)) := rw_kpS hDw8.out hrcw8.out hK0
      have htw9 : Hid (Rw 1 encB w9 (.slice A3 q c2) (b.take q)) := rw_kpS hDw8.out htw8.out hK0
      clear hD0 hK0 hDw8 hBw8 haw8 hbw8 hrcw8 htw8
      refine wpList_nil ?_
      go_upto_region 14 with fail
      refine wp_region_lit ?_
      refine sl_run rfl (.pointer (some ⟨D, 0, none⟩)) w9 (by kernel_rfl) ?_
      simp only [Act.put, List.setIfInBounds_toArray, List.set_cons_zero, List.set_cons_succ]
      refine sg_call (by kernel_rfl) 22 #[.pointer (some ⟨D, 0, none⟩), .string nF] (by kernel_rfl) (R := fun v w' => ∃ u, v = .tuple #[u, .int .i64 0] ∧ Rw 1 encB w' u (a ++ b.take q) ∧ Below w9.heap.size w9 w') ?hc ?_
      case hc =>
        have h8 := Read_calls hDw9.out nF
        rw [fS_read] at h8
        refine h8.mono fun e w' h => ?_
        obtain ⟨v, h1, h2, h3⟩ := h
        exact ⟨_, h1, v, rfl, h2, h3⟩
      rintro _ w10 ⟨ud, rfl, hr0, hb⟩
      simp only [Act.put, List.setIfInBounds_toArray, List.set_cons_zero, List.set_cons_succ]
      have hDw10 : Hid (DiskI w10 D mb (fS nF (a ++ b.take q) (a.length + q) (-1) false)) := (hDw9.out).below hb
      have hBw10 : Hid (Below w.heap.size w w10) := (hBw9.out).trans ((hb).mono (hBw9.out).size)
      have haw10 : Hid (Rw 1 encB w10 (.slice A n c) a) := (haw9.out).below hb
      have hbw10 : Hid (Rw 1 encB w10 (.slice A2 m c2) b) := (hbw9.out).below hb
      have hrcw10 : Hid (Rw 1 encB w10 uc (a ++ b.take q)) := (hrcw9.out).below hb
      have htw10 : Hid (Rw 1 encB w10 (.slice A3 q c2) (b.take q)) := (htw9.out).below hb
      clear hDw9 hBw9 haw9 hbw9 hrcw9 htw9
      have hrdw10 : Hid (Rw 1 encB w10 ud (a ++ b.take q)) := hr0
      clear hb hr0
      refine sl_run rfl (.tuple #[ud, .int .i64 0]) w10 (by kernel_rfl) ?_
      simp only [Act.put, List.setIfInBounds_toArray, List.set_cons_zero, List.set_cons_succ]
      refine sl_run rfl (ud) w10 (by kernel_rfl) ?_
      simp only [Act.put, List.setIfInBounds_toArray, List.set_cons_zero, List.set_cons_succ]
      refine sl_run rfl (.int .i64 0) w10 (by kernel_rfl) ?_
      simp only [Act.put, List.setIfInBounds_toArray, List.set_cons_zero, List.set_cons_succ]
      refine sl_run rfl (ud) w10 (by kernel_rfl) ?_
      simp only [Act.put, List.setIfInBounds_toArray, List.set_cons_zero, List.set_cons_succ]
      refine sl_run rfl (.int .i64 0) w10 (by kernel_rfl) ?_
      simp only [Act.put, List.setIfInBounds_toArray, List.set_cons_zero, List.set_cons_succ]
      refine wpList_nil ?_
      go_upto_region 15 with fail
      refine wp_region_lit ?_
      refine sl_run rfl (.int .i64 0) w10 (by kernel_rfl) ?_
      simp only [Act.put, List.setIfInBounds_toArray, List.set_cons_zero, List.set_cons_succ]
      refine sl_run rfl (.bool true) w10 (by kernel_rfl) ?_
      simp only [Act.put, List.setIfInBounds_toArray, List.set_cons_zero, List.set_cons_succ]
      refine sl_run rfl (.bool true) w10 (by kernel_rfl) ?_
      simp only [Act.put, List.setIfInBounds_toArray, List.set_cons_zero, List.set_cons_succ]
      refine sg_run (by kernel_rfl) (ud) w10 (by kernel_rfl) ?_
      simp only [Act.put, List.setIfInBounds_toArray, List.set_cons_zero, List.set_cons_succ]
      refine sg_run (by kernel_rfl) (.string (strB (a ++ b.take q))) w10 (exec_convB _ rfl (ud) (a ++ b.take q) (by kernel_rfl) hrdw10.out) ?_
      simp only [Act.put, List.setIfInBounds_toArray, List.set_cons_zero, List.set_cons_succ]
      refine sg_run (by kernel_rfl) (uc) w10 (by kernel_rfl) ?_
      simp only [Act.put, List.setIfInBounds_toArray, List.set_cons_zero, List.set_cons_succ]
      refine sg_run (by kernel_rfl) (.string (strB (a ++ b.take q))) w10 (exec_convB _ rfl (uc) (a ++ b.take q) (by kernel_rfl) hrcw10.out) ?_
      simp only [Act.put, List.setIfInBounds_toArray, List.set_cons_zero, List.set_cons_succ]
      refine sg_run (by kernel_rfl) (.bool true) w10 (exec_eqlS _ _ rfl (strB (a ++ b.take q)) (by kernel_rfl) (by kernel_rfl) _) ?_
      simp only [Act.put, List.setIfInBounds_toArray, List.set_cons_zero, List.set_cons_succ]
      refine sl_run rfl (.bool true) w10 (by kernel_rfl) ?_
      simp only [Act.put, List.setIfInBounds_toArray, List.set_cons_zero, List.set_cons_succ]
      refine sl_run rfl (.bool true) w10 (by kernel_rfl) ?_
      simp only [Act.put, List.setIfInBounds_toArray, List.set_cons_zero, List.set_cons_succ]
      refine wpList_nil ?_
      have hF := hBw10
      clear hDw10 haw10 hbw10 hrcw10 htw10 hrdw10
      clear hDle 
      go_wp2_with fail
      go_ret
      exact ⟨rfl, hF.out⟩
end Go.Proofs.Ytmdfgndjphhgnaa
