/-
  DiskTorn, walked.
-/
import Derived.Test.YtmdfgndjphhgnaaDiLaw0
import Derived.Test.YtmdfgndjphhgnaaDiRowsIn
namespace Go.Proofs.Ytmdfgndjphhgnaa
open Go.RowKit
set_option linter.unusedVariables false
set_option linter.unusedSimpArgs false
open Go.Proofs.Ytmdfgndjphhgnaa.Pure (nameB)
theorem fuse_new (l : Nat) : DS.new.fuse (l : Int) = ⟨[], (l : Int), false⟩ := by
  simp [DS.fuse, DS.new]
  omega
theorem torn_ok {n : ByteArray} (hn : nameB n = true) (b : List Nat) (l : Nat) (hb : b.length ≤ 1000000) (hl : b.length ≤ l) : (⟨[], (l : Int), false⟩ : DS).app nameB n b = (fS n b 0 ((l : Int) - (b.length : Int)) false, 0) := by
  have h1 : ¬ (1048576 < b.length) := by omega
  have h2 : ¬ ((l : Int) < 0) := by omega
  have h3 : min b.length l = b.length := by omega
  have h4 : ¬ (l < b.length) := by omega
  simp [DS.app, DS.get, hn, h1, h2, h3, h4, hl, DS.putL, DS.useN, DS.used, DS.useOk, fS]
theorem torn_bad {n : ByteArray} (hn : nameB n = true) (b : List Nat) (l : Nat) (hb : b.length ≤ 1000000) (hl : l < b.length) : (⟨[], (l : Int), false⟩ : DS).app nameB n b = (fS n (b.take l) 0 0 true, 20) := by
  have h1 : ¬ (1048576 < b.length) := by omega
  have h2 : ¬ ((l : Int) < 0) := by omega
  have h3 : min b.length l = l := by omega
  have h4 : ¬ (b.length ≤ l) := by omega
  simp [DS.app, DS.get, hn, h1, h2, h3, h4, hl, DS.putL, DS.useN, DS.used, DS.useOk, fS]
theorem off_app (n : ByteArray) (a : List Nat) (k : Nat) (l : Int) (m : ByteArray) (b : List Nat) : (fS n a k l true).app nameB m b = (fS n a k l true, 20) := by
  simp [DS.app, fS]
theorem off_sync (n : ByteArray) (a : List Nat) (k : Nat) (l : Int) (m : ByteArray) : (fS n a k l true).sync m = (fS n a k l true, 20) := by
  simp [DS.sync, fS]
set_option maxRecDepth 100000 in
set_option maxHeartbeats 2000000 in
theorem torn_calls {A : Option Addr} {n c : Nat} {b : List Nat} {lv : Int} {w : World} (hn : n = b.length) (hb0 : Rw 1 encB w (.slice A n c) b) (hk2 : lv < 9223372036854775808) : Calls Try.prog 5 #[.slice A n c, .int .i64 lv] w fun e w' => e = .returned (.bool true) ∧ Below w.heap.size w w' := by
  have hbw : Hid (Rw 1 encB w (.slice A n c) b) := hb0
  have hkH : Hid (lv < 9223372036854775808) := hk2
  have hnH : Hid (n = b.length) := hn
  clear hb0 hk2 hn
  go_enter Try.func5, Try.ntmps5
  go_upto_region 1 with fail
  refine wp_region_lit ?_
  refine sg_call (by kernel_rfl) 9 #[] (by kernel_rfl) (R := fun v w' => ∃ D mb, v = .pointer (some ⟨D, 0, none⟩) ∧ DiskI w' D mb DS.new ∧ Below w.heap.size w w' ∧ w.heap.size ≤ D ∧ w.heap.size ≤ mb) ((New_calls w).mono fun e w' h => by
    obtain ⟨D, mb, h1, h2⟩ := h
    exact ⟨_, h1, D, mb, rfl, h2⟩) ?_
  rintro _ w1 ⟨D, mb, rfl, hD0, hb, hDl, hml⟩
  have hDw1 : Hid (DiskI w1 D mb DS.new) := hD0
  have hBw1 : Hid (Below w.heap.size w w1) := hb
  have hDle : Hid (w.heap.size ≤ D ∧ w.heap.size ≤ mb) := And.intro hDl hml
  simp only [Act.put, List.setIfInBounds_toArray, List.set_cons_zero, List.set_cons_succ]
  have hbw1 : Hid (Rw 1 encB w1 (.slice A n c) b) := (hbw.out).below hb
  clear hbw
  clear hD0 hb hDl hml
  refine sl_run rfl (.pointer (some ⟨D, 0, none⟩)) w1 (by kernel_rfl) ?_
  simp only [Act.put, List.setIfInBounds_toArray, List.set_cons_zero, List.set_cons_succ]
  refine wpList_nil ?_
  go_upto_region 2 with fail
  refine wp_region_lit ?_
  refine sg_call (by kernel_rfl) 10 #[] (by kernel_rfl) (R := fun v w' => v = .bool true ∧ Below w1.heap.size w1 w') ((fixed_calls w1).mono fun e w' h => ⟨_, h.1, rfl, h.2⟩) ?_
  rintro _ w2 ⟨rfl, hb⟩
  simp only [Act.put, List.setIfInBounds_toArray, List.set_cons_zero, List.set_cons_succ]
  have hDw2 : Hid (DiskI w2 D mb DS.new) := (hDw1.out).below hb
  have hBw2 : Hid (Below w.heap.size w w2) := (hBw1.out).trans ((hb).mono (hBw1.out).size)
  have hbw2 : Hid (Rw 1 encB w2 (.slice A n c) b) := (hbw1.out).below hb
  clear hDw1 hBw1 hbw1
  clear hb
  refine sl_run rfl (.bool false) w2 (by kernel_rfl) ?_
  simp only [Act.put, List.setIfInBounds_toArray, List.set_cons_zero, List.set_cons_succ]
  refine sl_run rfl (.bool false) w2 (by kernel_rfl) ?_
  simp only [Act.put, List.setIfInBounds_toArray, List.set_cons_zero, List.set_cons_succ]
  refine sg_run (by kernel_rfl) (.pointer (some ⟨D, 0, none⟩)) w2 (by kernel_rfl) ?_
  simp only [Act.put, List.setIfInBounds_toArray, List.set_cons_zero, List.set_cons_succ]
  refine sg_run (by kernel_rfl) (.bool false) w2 (by kernel_rfl) ?_
  simp only [Act.put, List.setIfInBounds_toArray, List.set_cons_zero, List.set_cons_succ]
  refine sl_run rfl (.bool false) w2 (by kernel_rfl) ?_
  simp only [Act.put, List.setIfInBounds_toArray, List.set_cons_zero, List.set_cons_succ]
  refine wpList_nil ?_
  go_upto_region 4 with fail
  refine wp_region_lit ?_
  by_cases p1 : 2000 < n
  case pos =>
    refine sl_run rfl (.slice A n c) w2 (by kernel_rfl) ?_
    simp only [Act.put, List.setIfInBounds_toArray, List.set_cons_zero, List.set_cons_succ]
    refine sl_run rfl (.int .i64 (n : Int)) w2 (by kernel_rfl) ?_
    simp only [Act.put, List.setIfInBounds_toArray, List.set_cons_zero, List.set_cons_succ]
    refine sl_run rfl (.bool true) w2 (exec_gtr 3 _ _ rfl ((n : Int)) (2000) (by kernel_rfl) (by kernel_rfl) true (by rw [decide_eq_true_eq]; omega)) ?_
    simp only [Act.put, List.setIfInBounds_toArray, List.set_cons_zero, List.set_cons_succ]
    refine sl_run rfl (.bool true) w2 (by kernel_rfl) ?_
    simp only [Act.put, List.setIfInBounds_toArray, List.set_cons_zero, List.set_cons_succ]
    refine wpList_skip ?hw ?_
    case hw => kernel_rfl
    simp only [Act.put, List.setIfInBounds_toArray, List.set_cons_zero, List.set_cons_succ]
    refine wpList_skip ?hw ?_
    case hw => kernel_rfl
    simp only [Act.put, List.setIfInBounds_toArray, List.set_cons_zero, List.set_cons_succ]
    refine sl_run rfl (.bool true) w2 (by kernel_rfl) ?_
    simp only [Act.put, List.setIfInBounds_toArray, List.set_cons_zero, List.set_cons_succ]
    refine wpList_nil ?_
    have hF := hBw2
    clear hDw2 hbw2
    clear hDle 
    go_wp2_with fail
    go_ret
    exact ⟨rfl, hF.out⟩
  case neg =>
    by_cases p2 : lv < 0
    case pos =>
      refine sl_run rfl (.slice A n c) w2 (by kernel_rfl) ?_
      simp only [Act.put, List.setIfInBounds_toArray, List.set_cons_zero, List.set_cons_succ]
      refine sl_run rfl (.int .i64 (n : Int)) w2 (by kernel_rfl) ?_
      simp only [Act.put, List.setIfInBounds_toArray, List.set_cons_zero, List.set_cons_succ]
      refine sl_run rfl (.bool false) w2 (exec_gtr 3 _ _ rfl ((n : Int)) (2000) (by kernel_rfl) (by kernel_rfl) false (by rw [decide_eq_false_iff_not]; omega)) ?_
      simp only [Act.put, List.setIfInBounds_toArray, List.set_cons_zero, List.set_cons_succ]
      refine sl_run rfl (.bool false) w2 (by kernel_rfl) ?_
      simp only [Act.put, List.setIfInBounds_toArray, List.set_cons_zero, List.set_cons_succ]
      refine sg_run (by kernel_rfl) (.int .i64 lv) w2 (by kernel_rfl) ?_
      simp only [Act.put, List.setIfInBounds_toArray, List.set_cons_zero, List.set_cons_succ]
      refine sg_run (by kernel_rfl) (.bool true) w2 (exec_lss 3 _ _ rfl (lv) (0) (by kernel_rfl) (by kernel_rfl) true (by rw [decide_eq_true_eq]; omega)) ?_
      simp only [Act.put, List.setIfInBounds_toArray, List.set_cons_zero, List.set_cons_succ]
      refine sl_run rfl (.bool true) w2 (by kernel_rfl) ?_
      simp only [Act.put, List.setIfInBounds_toArray, List.set_cons_zero, List.set_cons_succ]
      refine wpList_nil ?_
      have hF := hBw2
      clear hDw2 hbw2
      clear hDle 
      go_wp2_with fail
      go_ret
      exact ⟨rfl, hF.out⟩
    case neg =>
      refine sl_run rfl (.slice A n c) w2 (by kernel_rfl) ?_
      simp only [Act.put, List.setIfInBounds_toArray, List.set_cons_zero, List.set_cons_succ]
      refine sl_run rfl (.int .i64 (n : Int)) w2 (by kernel_rfl) ?_
      simp only [Act.put, List.setIfInBounds_toArray, List.set_cons_zero, List.set_cons_succ]
      refine sl_run rfl (.bool false) w2 (exec_gtr 3 _ _ rfl ((n : Int)) (2000) (by kernel_rfl) (by kernel_rfl) false (by rw [decide_eq_false_iff_not]; omega)) ?_
      simp only [Act.put, List.setIfInBounds_toArray, List.set_cons_zero, List.set_cons_succ]
      refine sl_run rfl (.bool false) w2 (by kernel_rfl) ?_
      simp only [Act.put, List.setIfInBounds_toArray, List.set_cons_zero, List.set_cons_succ]
      refine sg_run (by kernel_rfl) (.int .i64 lv) w2 (by kernel_rfl) ?_
      simp only [Act.put, List.setIfInBounds_toArray, List.set_cons_zero, List.set_cons_succ]
      refine sg_run (by kernel_rfl) (.bool false) w2 (exec_lss 3 _ _ rfl (lv) (0) (by kernel_rfl) (by kernel_rfl) false (by rw [decide_eq_false_iff_not]; omega)) ?_
      simp only [Act.put, List.setIfInBounds_toArray, List.set_cons_zero, List.set_cons_succ]
      refine sl_run rfl (.bool false) w2 (by kernel_rfl) ?_
      simp only [Act.put, List.setIfInBounds_toArray, List.set_cons_zero, List.set_cons_succ]
      refine wpList_nil ?_
      have hbl : Hid (b.length ≤ 2000) := by have := hnH.out; exact (by omega : b.length ≤ 2000)
      obtain ⟨l, rfl⟩ : ∃ l : Nat, lv = (l : Int) := ⟨lv.toNat, by omega⟩
      clear p1 p2
      go_upto_region 6 with fail
      refine wp_region_lit ?_
      refine sl_run rfl (.pointer (some ⟨D, 0, none⟩)) w2 (by kernel_rfl) ?_
      simp only [Act.put, List.setIfInBounds_toArray, List.set_cons_zero, List.set_cons_succ]
      refine sl_run rfl (.int .i64 (l : Int)) w2 (by kernel_rfl) ?_
      simp only [Act.put, List.setIfInBounds_toArray, List.set_cons_zero, List.set_cons_succ]
      refine sg_call (by kernel_rfl) 24 #[.pointer (some ⟨D, 0, none⟩), .int .i64 (l : Int)] (by kernel_rfl) (R := fun v w' => v = .tuple #[] ∧ DiskI w' D mb (⟨[], (l : Int), false⟩) ∧ KpS (TD D mb) w2 w') ?hc ?_
      case hc =>
        have h8 := Fuse_calls hDw2.out (l : Int) hkH.out
        rw [fuse_new] at h8
        exact h8.mono fun e w' h => ⟨_, h.1, rfl, h.2⟩
      rintro _ w3 ⟨rfl, hD0, hK0⟩
      simp only [Act.put, List.setIfInBounds_toArray, List.set_cons_zero, List.set_cons_succ]
      have hDw3 : Hid (DiskI w3 D mb (⟨[], (l : Int), false⟩)) := hD0
      have hBw3 : Hid (Below w.heap.size w w3) := bel_kp hBw2.out hK0 hDle.out.1 hDle.out.2
      have hbw3 : Hid (Rw 1 encB w3 (.slice A n c) b) := rw_kpS hDw2.out hbw2.out hK0
      clear hD0 hK0 hDw2 hBw2 hbw2
      refine wpList_nil ?_
      go_upto_region 7 with fail
      refine wp_region_lit ?_
      by_cases p : b.length ≤ l
      case pos =>
        refine sl_run rfl (.pointer (some ⟨D, 0, none⟩)) w3 (by kernel_rfl) ?_
        simp only [Act.put, List.setIfInBounds_toArray, List.set_cons_zero, List.set_cons_succ]
        refine sl_run rfl (.slice A n c) w3 (by kernel_rfl) ?_
        simp only [Act.put, List.setIfInBounds_toArray, List.set_cons_zero, List.set_cons_succ]
        refine sg_call (by kernel_rfl) 12 #[.pointer (some ⟨D, 0, none⟩), .string nF, .slice A n c] (by kernel_rfl) (R := fun v w' => v = .int .i64 0 ∧ DiskI w' D mb (fS nF b 0 ((l : Int) - (b.length : Int)) false) ∧ KpS (TD D mb) w3 w') ?hc ?_
        case hc =>
          have h8 := Append_calls hDw3.out nF b A n c hnH.out (by have := hnH.out; have := hbl.out; omega) hbw3.out
          rw [torn_ok name_F b l (by have := hbl.out; omega) p] at h8
          exact h8.mono fun e w' h => ⟨_, h.1, rfl, h.2⟩
        rintro _ w4 ⟨rfl, hD0, hK0⟩
        simp only [Act.put, List.setIfInBounds_toArray, List.set_cons_zero, List.set_cons_succ]
        have hDw4 : Hid (DiskI w4 D mb (fS nF b 0 ((l : Int) - (b.length : Int)) false)) := hD0
        have hBw4 : Hid (Below w.heap.size w w4) := bel_kp hBw3.out hK0 hDle.out.1 hDle.out.2
        have hbw4 : Hid (Rw 1 encB w4 (.slice A n c) b) := rw_kpS hDw3.out hbw3.out hK0
        clear hD0 hK0 hDw3 hBw3 hbw3
        refine sl_run rfl (.int .i64 0) w4 (by kernel_rfl) ?_
        simp only [Act.put, List.setIfInBounds_toArray, List.set_cons_zero, List.set_cons_succ]
        refine wpList_nil ?_
        have hge : (n : Int) ≤ (l : Int) := by have := hnH.out; omega
        go_upto_region 8 with fail
        refine wp_region_lit ?_
        refine sl_run rfl (.int .i64 (l : Int)) w4 (by kernel_rfl) ?_
        simp only [Act.put, List.setIfInBounds_toArray, List.set_cons_zero, List.set_cons_succ]
        refine sl_run rfl (.slice A n c) w4 (by kernel_rfl) ?_
        simp only [Act.put, List.setIfInBounds_toArray, List.set_cons_zero, List.set_cons_succ]
        refine sl_run rfl (.int .i64 (n : Int)) w4 (by kernel_rfl) ?_
        simp only [Act.put, List.setIfInBounds_toArray, List.set_cons_zero, List.set_cons_succ]
        refine sl_run rfl (.bool true) w4 (exec_geq 3 _ _ rfl ((l : Int)) ((n : Int)) (by kernel_rfl) (by kernel_rfl) true (by rw [decide_eq_true_eq]; exact hge)) ?_
        simp only [Act.put, List.setIfInBounds_toArray, List.set_cons_zero, List.set_cons_succ]
        refine wpList_nil ?_
        go_upto_region 9 with fail
        refine wp_region_lit ?_
        have hnE : Hid ((l : Int) - (b.length : Int) = (l : Int) - (n : Int)) := by rw [hnH.out]; rfl
        refine sl_run rfl (.int .i64 0) w4 (by kernel_rfl) ?_
        simp only [Act.put, List.setIfInBounds_toArray, List.set_cons_zero, List.set_cons_succ]
        refine sl_run rfl (.bool true) w4 (by kernel_rfl) ?_
        simp only [Act.put, List.setIfInBounds_toArray, List.set_cons_zero, List.set_cons_succ]
        refine sl_run rfl (.bool true) w4 (by kernel_rfl) ?_
        simp only [Act.put, List.setIfInBounds_toArray, List.set_cons_zero, List.set_cons_succ]
        refine sg_run (by kernel_rfl) (.pointer (some ⟨D, 0, none⟩)) w4 (by kernel_rfl) ?_
        simp only [Act.put, List.setIfInBounds_toArray, List.set_cons_zero, List.set_cons_succ]
        refine sg_call (by kernel_rfl) 29 #[.pointer (some ⟨D, 0, none⟩)] (by kernel_rfl) (R := fun v w' => v = .bool true ∧ w4 = w') ?hc ?_
        case hc =>
          have h8 := On_calls hDw4.out
          exact h8.mono fun e w' h => ⟨_, h.1, rfl, h.2⟩
        rintro _ _ ⟨rfl, rfl⟩
        simp only [Act.put, List.setIfInBounds_toArray, List.set_cons_zero, List.set_cons_succ]
        refine sl_run rfl (.bool true) w4 (by kernel_rfl) ?_
        simp only [Act.put, List.setIfInBounds_toArray, List.set_cons_zero, List.set_cons_succ]
        refine sl_run rfl (.bool true) w4 (by kernel_rfl) ?_
        simp only [Act.put, List.setIfInBounds_toArray, List.set_cons_zero, List.set_cons_succ]
        refine sg_run (by kernel_rfl) (.pointer (some ⟨D, 0, none⟩)) w4 (by kernel_rfl) ?_
        simp only [Act.put, List.setIfInBounds_toArray, List.set_cons_zero, List.set_cons_succ]
        refine sg_call (by kernel_rfl) 30 #[.pointer (some ⟨D, 0, none⟩)] (by kernel_rfl) (R := fun v w' => v = .int .i64 ((l : Int) - (b.length : Int)) ∧ w4 = w') ?hc ?_
        case hc =>
          have h8 := Left_calls hDw4.out
          exact h8.mono fun e w' h => ⟨_, h.1, rfl, h.2⟩
        rintro _ _ ⟨rfl, rfl⟩
        simp only [Act.put, List.setIfInBounds_toArray, List.set_cons_zero, List.set_cons_succ]
        refine sg_run (by kernel_rfl) (.int .i64 (l : Int)) w4 (by kernel_rfl) ?_
        simp only [Act.put, List.setIfInBounds_toArray, List.set_cons_zero, List.set_cons_succ]
        refine sg_run (by kernel_rfl) (.slice A n c) w4 (by kernel_rfl) ?_
        simp only [Act.put, List.setIfInBounds_toArray, List.set_cons_zero, List.set_cons_succ]
        refine sg_run (by kernel_rfl) (.int .i64 (n : Int)) w4 (by kernel_rfl) ?_
        simp only [Act.put, List.setIfInBounds_toArray, List.set_cons_zero, List.set_cons_succ]
        refine sg_run (by kernel_rfl) (.int .i64 ((l : Int) - (n : Int))) w4 (exec_subI _ _ rfl (l : Int) (n : Int) (by kernel_rfl) (by kernel_rfl) (by omega) (by have := hkH.out; omega) _) ?_
        simp only [Act.put, List.setIfInBounds_toArray, List.set_cons_zero, List.set_cons_succ]
        refine sg_run (by kernel_rfl) (.bool true) w4 (exec_eqI 3 _ _ rfl ((l : Int) - (b.length : Int)) ((l : Int) - (n : Int)) (by kernel_rfl) (by kernel_rfl) true (by rw [hnE.out]; exact beq_self_eq_true _)) ?_
        simp only [Act.put, List.setIfInBounds_toArray, List.set_cons_zero, List.set_cons_succ]
        refine sl_run rfl (.bool true) w4 (by kernel_rfl) ?_
        simp only [Act.put, List.setIfInBounds_toArray, List.set_cons_zero, List.set_cons_succ]
        refine sl_run rfl (.bool true) w4 (by kernel_rfl) ?_
        simp only [Act.put, List.setIfInBounds_toArray, List.set_cons_zero, List.set_cons_succ]
        refine wpList_nil ?_
        have hF := hBw4
        clear hDw4 hbw4
        clear hDle hge p
        go_wp2_with fail
        go_ret
        exact ⟨rfl, hF.out⟩
      case neg =>
        refine sl_run rfl (.pointer (some ⟨D, 0, none⟩)) w3 (by kernel_rfl) ?_
        simp only [Act.put, List.setIfInBounds_toArray, List.set_cons_zero, List.set_cons_succ]
        refine sl_run rfl (.slice A n c) w3 (by kernel_rfl) ?_
        simp only [Act.put, List.setIfInBounds_toArray, List.set_cons_zero, List.set_cons_succ]
        refine sg_call (by kernel_rfl) 12 #[.pointer (some ⟨D, 0, none⟩), .string nF, .slice A n c] (by kernel_rfl) (R := fun v w' => v = .int .i64 20 ∧ DiskI w' D mb (fS nF (b.take l) 0 0 true) ∧ KpS (TD D mb) w3 w') ?hc ?_
        case hc =>
          have h8 := Append_calls hDw3.out nF b A n c hnH.out (by have := hnH.out; have := hbl.out; omega) hbw3.out
          rw [torn_bad name_F b l (by have := hbl.out; omega) (by omega)] at h8
          exact h8.mono fun e w' h => ⟨_, h.1, rfl, h.2⟩
        rintro _ w5 ⟨rfl, hD0, hK0⟩
        simp only [Act.put, List.setIfInBounds_toArray, List.set_cons_zero, List.set_cons_succ]
        have hDw5 : Hid (DiskI w5 D mb (fS nF (b.take l) 0 0 true)) := hD0
        have hBw5 : Hid (Below w.heap.size w w5) := bel_kp hBw3.out hK0 hDle.out.1 hDle.out.2
        have hbw5 : Hid (Rw 1 encB w5 (.slice A n c) b) := rw_kpS hDw3.out hbw3.out hK0
        clear hD0 hK0 hDw3 hBw3 hbw3
        refine sl_run rfl (.int .i64 20) w5 (by kernel_rfl) ?_
        simp only [Act.put, List.setIfInBounds_toArray, List.set_cons_zero, List.set_cons_succ]
        refine wpList_nil ?_
        have hlt : (l : Int) < (n : Int) := by have := hnH.out; omega
        go_upto_region 8 with fail
        refine wp_region_lit ?_
        refine sl_run rfl (.int .i64 (l : Int)) w5 (by kernel_rfl) ?_
        simp only [Act.put, List.setIfInBounds_toArray, List.set_cons_zero, List.set_cons_succ]
        refine sl_run rfl (.slice A n c) w5 (by kernel_rfl) ?_
        simp only [Act.put, List.setIfInBounds_toArray, List.set_cons_zero, List.set_cons_succ]
        refine sl_run rfl (.int .i64 (n : Int)) w5 (by kernel_rfl) ?_
        simp only [Act.put, List.setIfInBounds_toArray, List.set_cons_zero, List.set_cons_succ]
        refine sl_run rfl (.bool false) w5 (exec_geq 3 _ _ rfl ((l : Int)) ((n : Int)) (by kernel_rfl) (by kernel_rfl) false (by rw [decide_eq_false_iff_not]; omega)) ?_
        simp only [Act.put, List.setIfInBounds_toArray, List.set_cons_zero, List.set_cons_succ]
        refine wpList_nil ?_
        go_upto_region 10 with fail
        refine wp_region_lit ?_
        refine sl_run rfl (.int .i64 20) w5 (by kernel_rfl) ?_
        simp only [Act.put, List.setIfInBounds_toArray, List.set_cons_zero, List.set_cons_succ]
        refine sl_run rfl (.bool false) w5 (by kernel_rfl) ?_
        simp only [Act.put, List.setIfInBounds_toArray, List.set_cons_zero, List.set_cons_succ]
        refine sl_run rfl (.bool false) w5 (by kernel_rfl) ?_
        simp only [Act.put, List.setIfInBounds_toArray, List.set_cons_zero, List.set_cons_succ]
        refine sg_run (by kernel_rfl) (.pointer (some ⟨D, 0, none⟩)) w5 (by kernel_rfl) ?_
        simp only [Act.put, List.setIfInBounds_toArray, List.set_cons_zero, List.set_cons_succ]
        refine sg_call (by kernel_rfl) 29 #[.pointer (some ⟨D, 0, none⟩)] (by kernel_rfl) (R := fun v w' => v = .bool false ∧ w5 = w') ?hc ?_
        case hc =>
          have h8 := On_calls hDw5.out
          exact h8.mono fun e w' h => ⟨_, h.1, rfl, h.2⟩
        rintro _ _ ⟨rfl, rfl⟩
        simp only [Act.put, List.setIfInBounds_toArray, List.set_cons_zero, List.set_cons_succ]
        refine sl_run rfl (.bool false) w5 (by kernel_rfl) ?_
        simp only [Act.put, List.setIfInBounds_toArray, List.set_cons_zero, List.set_cons_succ]
        refine sl_run rfl (.bool false) w5 (by kernel_rfl) ?_
        simp only [Act.put, List.setIfInBounds_toArray, List.set_cons_zero, List.set_cons_succ]
        refine sg_run (by kernel_rfl) (.pointer (some ⟨D, 0, none⟩)) w5 (by kernel_rfl) ?_
        simp only [Act.put, List.setIfInBounds_toArray, List.set_cons_zero, List.set_cons_succ]
        refine sg_call (by kernel_rfl) 30 #[.pointer (some ⟨D, 0, none⟩)] (by kernel_rfl) (R := fun v w' => v = .int .i64 0 ∧ w5 = w') ?hc ?_
        case hc =>
          have h8 := Left_calls hDw5.out
          exact h8.mono fun e w' h => ⟨_, h.1, rfl, h.2⟩
        rintro _ _ ⟨rfl, rfl⟩
        simp only [Act.put, List.setIfInBounds_toArray, List.set_cons_zero, List.set_cons_succ]
        refine sg_run (by kernel_rfl) (.bool false) w5 (by kernel_rfl) ?_
        simp only [Act.put, List.setIfInBounds_toArray, List.set_cons_zero, List.set_cons_succ]
        refine sl_run rfl (.bool false) w5 (by kernel_rfl) ?_
        simp only [Act.put, List.setIfInBounds_toArray, List.set_cons_zero, List.set_cons_succ]
        refine sl_run rfl (.bool false) w5 (by kernel_rfl) ?_
        simp only [Act.put, List.setIfInBounds_toArray, List.set_cons_zero, List.set_cons_succ]
        refine sg_run (by kernel_rfl) (.pointer (some ⟨D, 0, none⟩)) w5 (by kernel_rfl) ?_
        simp only [Act.put, List.setIfInBounds_toArray, List.set_cons_zero, List.set_cons_succ]
        refine sg_call (by kernel_rfl) 12 #[.pointer (some ⟨D, 0, none⟩), .string nF, .slice none 0 0] (by kernel_rfl) (R := fun v w' => v = .int .i64 20 ∧ DiskI w' D mb (fS nF (b.take l) 0 0 true) ∧ KpS (TD D mb) w5 w') ?hc ?_
        case hc =>
          have h8 := Append_calls hDw5.out nF [] none 0 0 rfl (by decide) (Rw.nil)
          rw [off_app] at h8
          exact h8.mono fun e w' h => ⟨_, h.1, rfl, h.2⟩
        rintro _ w6 ⟨rfl, hD0, hK0⟩
        simp only [Act.put, List.setIfInBounds_toArray, List.set_cons_zero, List.set_cons_succ]
        have hDw6 : Hid (DiskI w6 D mb (fS nF (b.take l) 0 0 true)) := hD0
        have hBw6 : Hid (Below w.heap.size w w6) := bel_kp hBw5.out hK0 hDle.out.1 hDle.out.2
        have hbw6 : Hid (Rw 1 encB w6 (.slice A n c) b) := rw_kpS hDw5.out hbw5.out hK0
        clear hD0 hK0 hDw5 hBw5 hbw5
        refine sg_run (by kernel_rfl) (.bool false) w6 (by kernel_rfl) ?_
        simp only [Act.put, List.setIfInBounds_toArray, List.set_cons_zero, List.set_cons_succ]
        refine sl_run rfl (.bool false) w6 (by kernel_rfl) ?_
        simp only [Act.put, List.setIfInBounds_toArray, List.set_cons_zero, List.set_cons_succ]
        refine sl_run rfl (.bool false) w6 (by kernel_rfl) ?_
        simp only [Act.put, List.setIfInBounds_toArray, List.set_cons_zero, List.set_cons_succ]
        refine sg_run (by kernel_rfl) (.pointer (some ⟨D, 0, none⟩)) w6 (by kernel_rfl) ?_
        simp only [Act.put, List.setIfInBounds_toArray, List.set_cons_zero, List.set_cons_succ]
        refine sg_call (by kernel_rfl) 14 #[.pointer (some ⟨D, 0, none⟩), .string nF] (by kernel_rfl) (R := fun v w' => v = .int .i64 20 ∧ DiskI w' D mb (fS nF (b.take l) 0 0 true) ∧ KpS (TD D mb) w6 w') ?hc ?_
        case hc =>
          have h8 := Sync_calls hDw6.out nF
          rw [off_sync] at h8
          exact h8.mono fun e w' h => ⟨_, h.1, rfl, h.2⟩
        rintro _ w7 ⟨rfl, hD0, hK0⟩
        simp only [Act.put, List.setIfInBounds_toArray, List.set_cons_zero, List.set_cons_succ]
        have hDw7 : Hid (DiskI w7 D mb (fS nF (b.take l) 0 0 true)) := hD0
        have hBw7 : Hid (Below w.heap.size w w7) := bel_kp hBw6.out hK0 hDle.out.1 hDle.out.2
        have hbw7 : Hid (Rw 1 encB w7 (.slice A n c) b) := rw_kpS hDw6.out hbw6.out hK0
        clear hD0 hK0 hDw6 hBw6 hbw6
        refine sg_run (by kernel_rfl) (.bool false) w7 (by kernel_rfl) ?_
        simp only [Act.put, List.setIfInBounds_toArray, List.set_cons_zero, List.set_cons_succ]
        refine sl_run rfl (.bool false) w7 (by kernel_rfl) ?_
        simp only [Act.put, List.setIfInBounds_toArray, List.set_cons_zero, List.set_cons_succ]
        refine sl_run rfl (.bool false) w7 (by kernel_rfl) ?_
        simp only [Act.put, List.setIfInBounds_toArray, List.set_cons_zero, List.set_cons_succ]
        refine sg_run (by kernel_rfl) (.pointer (some ⟨D, 0, none⟩)) w7 (by kernel_rfl) ?_
        simp only [Act.put, List.setIfInBounds_toArray, List.set_cons_zero, List.set_cons_succ]
        refine sg_call (by kernel_rfl) 31 #[.pointer (some ⟨D, 0, none⟩)] (by kernel_rfl) (R := fun v w' => v = .slice none 0 0 ∧ w7 = w') ?hc ?_
        case hc =>
          have h8 := Files_off hDw7.out rfl
          exact h8.mono fun e w' h => ⟨_, h.1, rfl, h.2⟩
        rintro _ _ ⟨rfl, rfl⟩
        simp only [Act.put, List.setIfInBounds_toArray, List.set_cons_zero, List.set_cons_succ]
        refine sg_run (by kernel_rfl) (.int .i64 0) w7 (by kernel_rfl) ?_
        simp only [Act.put, List.setIfInBounds_toArray, List.set_cons_zero, List.set_cons_succ]
        refine sg_run (by kernel_rfl) (.bool false) w7 (by kernel_rfl) ?_
        simp only [Act.put, List.setIfInBounds_toArray, List.set_cons_zero, List.set_cons_succ]
        refine sl_run rfl (.bool false) w7 (by kernel_rfl) ?_
        simp only [Act.put, List.setIfInBounds_toArray, List.set_cons_zero, List.set_cons_succ]
        refine wpList_nil ?_
        have hcr : Hid ((fS nF (b.take l) 0 0 true).crash (n : Int) = fS nF (b.take l) l (-1) false) := by
          have h9 := hnH.out
          have e : (b.take l).length = l := by rw [List.length_take]; omega
          have e2 : 0 + min (max (n : Int) 0).toNat (l - 0) = l := by omega
          rw [fS_crash, e, e2, List.take_take, Nat.min_self]
          rfl
        have hlb : Hid (l ≤ b.length) := by have := hnH.out; exact (by omega : l ≤ b.length)
        have hn9 : Hid ((n : Int) < 9223372036854775808) := by have := hnH.out; have := hbl.out; exact (by omega : (n : Int) < 9223372036854775808)
        clear p hlt
        go_upto_region 12 with fail
        refine wp_region_lit ?_
        refine sl_run rfl (.pointer (some ⟨D, 0, none⟩)) w7 (by kernel_rfl) ?_
        simp only [Act.put, List.setIfInBounds_toArray, List.set_cons_zero, List.set_cons_succ]
        refine sl_run rfl (.slice A n c) w7 (by kernel_rfl) ?_
        simp only [Act.put, List.setIfInBounds_toArray, List.set_cons_zero, List.set_cons_succ]
        refine sl_run rfl (.int .i64 (n : Int)) w7 (by kernel_rfl) ?_
        simp only [Act.put, List.setIfInBounds_toArray, List.set_cons_zero, List.set_cons_succ]
        refine sg_call (by kernel_rfl) 26 #[.pointer (some ⟨D, 0, none⟩), .int .i64 (n : Int)] (by kernel_rfl) (R := fun v w' => v = .tuple #[] ∧ DiskI w' D mb (fS nF (b.take l) l (-1) false) ∧ KpS (TD D mb) w7 w') ?hc ?_
        case hc =>
          have h8 := Crash_calls hDw7.out (n : Int) hn9.out
          rw [hcr.out] at h8
          exact h8.mono fun e w' h => ⟨_, h.1, rfl, h.2⟩
        rintro _ w8 ⟨rfl, hD0, hK0⟩
        simp only [Act.put, List.setIfInBounds_toArray, List.set_cons_zero, List.set_cons_succ]
        have hDw8 : Hid (DiskI w8 D mb (fS nF (b.take l) l (-1) false)) := hD0
        have hBw8 : Hid (Below w.heap.size w w8) := bel_kp hBw7.out hK0 hDle.out.1 hDle.out.2
        have hbw8 : Hid (Rw 1 encB w8 (.slice A n c) b) := rw_kpS hDw7.out hbw7.out hK0
        clear hD0 hK0 hDw7 hBw7 hbw7
        refine wpList_nil ?_
        go_upto_region 13 with fail
        refine wp_region_lit ?_
        refine sl_run rfl (.pointer (some ⟨D, 0, none⟩)) w8 (by kernel_rfl) ?_
        simp only [Act.put, List.setIfInBounds_toArray, List.set_cons_zero, List.set_cons_succ]
        refine sg_call (by kernel_rfl) 22 #[.pointer (some ⟨D, 0, none⟩), .string nF] (by kernel_rfl) (R := fun v w' => ∃ u, v = .tuple #[u, .int .i64 0] ∧ Rw 1 encB w' u (b.take l) ∧ Below w8.heap.size w8 w') ?hc ?_
        case hc =>
          have h8 := Read_calls hDw8.out nF
          rw [fS_read] at h8
          refine h8.mono fun e w' h => ?_
          obtain ⟨v, h1, h2, h3⟩ := h
          exact ⟨_, h1, v, rfl, h2, h3⟩
        rintro _ w9 ⟨uc, rfl, hr0, hb⟩
        simp only [Act.put, List.setIfInBounds_toArray, List.set_cons_zero, List.set_cons_succ]
        have hDw9 : Hid (DiskI w9 D mb (fS nF (b.take l) l (-1) false)) := (hDw8.out).below hb
        have hBw9 : Hid (Below w.heap.size w w9) := (hBw8.out).trans ((hb).mono (hBw8.out).size)
        have hbw9 : Hid (Rw 1 encB w9 (.slice A n c) b) := (hbw8.out).below hb
        clear hDw8 hBw8 hbw8
        have hrcw9 : Hid (Rw 1 encB w9 uc (b.take l)) := hr0
        clear hb hr0
        refine sl_run rfl (.tuple #[uc, .int .i64 0]) w9 (by kernel_rfl) ?_
        simp only [Act.put, List.setIfInBounds_toArray, List.set_cons_zero, List.set_cons_succ]
        refine sl_run rfl (uc) w9 (by kernel_rfl) ?_
        simp only [Act.put, List.setIfInBounds_toArray, List.set_cons_zero, List.set_cons_succ]
        refine sl_run rfl (.int .i64 0) w9 (by kernel_rfl) ?_
        simp only [Act.put, List.setIfInBounds_toArray, List.set_cons_zero, List.set_cons_succ]
        refine sl_run rfl (uc) w9 (by kernel_rfl) ?_
        simp only [Act.put, List.setIfInBounds_toArray, List.set_cons_zero, List.set_cons_succ]
        refine sl_run rfl (.int .i64 0) w9 (by kernel_rfl) ?_
        simp only [Act.put, List.setIfInBounds_toArray, List.set_cons_zero, List.set_cons_succ]
        refine wpList_nil ?_
        have htk := take_rw hbw9.out hlb.out
        obtain ⟨A3, hA3⟩ : ∃ x, (if c = 0 then A else A.map (·.add 0)) = x := ⟨_, rfl⟩
        rw [hA3] at htk
        have hA3H : Hid ((if c = 0 then A else A.map (·.add 0)) = A3) := hA3
        have htc : Hid (l ≤ c) := htk.1
        have htw9 : Hid (Rw 1 encB w9 (.slice A3 l c) (b.take l)) := htk.2
        clear htk hA3
        go_upto_region 14 with fail
        refine wp_region_quiet (C := Below w9.heap.size w9) (by kernel_rfl) (by kernel_rfl) (Below.refl _ _).drew ?_
        refine quiet_run rfl (.int .i64 0) (fun w' h => (by kernel_rfl)) ?_
        simp only [Act.put, List.setIfInBounds_toArray, List.set_cons_zero, List.set_cons_succ]
        refine quiet_run rfl (.bool true) (fun w' h => (by kernel_rfl)) ?_
        simp only [Act.put, List.setIfInBounds_toArray, List.set_cons_zero, List.set_cons_succ]
        refine quiet_run rfl (.bool true) (fun w' h => (by kernel_rfl)) ?_
        simp only [Act.put, List.setIfInBounds_toArray, List.set_cons_zero, List.set_cons_succ]
        refine quiet_runG (by kernel_rfl) (uc) (fun w' h => (by kernel_rfl)) ?_
        simp only [Act.put, List.setIfInBounds_toArray, List.set_cons_zero, List.set_cons_succ]
        refine quiet_runG (by kernel_rfl) (.string (strB (b.take l))) (fun w' h => (exec_convB _ rfl (uc) (b.take l) (by kernel_rfl) (hrcw9.out.below h))) ?_
        simp only [Act.put, List.setIfInBounds_toArray, List.set_cons_zero, List.set_cons_succ]
        refine quiet_runG (by kernel_rfl) (.slice A n c) (fun w' h => (by kernel_rfl)) ?_
        simp only [Act.put, List.setIfInBounds_toArray, List.set_cons_zero, List.set_cons_succ]
        refine quiet_runG (by kernel_rfl) (.int .i64 (l : Int)) (fun w' h => (by kernel_rfl)) ?_
        simp only [Act.put, List.setIfInBounds_toArray, List.set_cons_zero, List.set_cons_succ]
        refine quiet_runG (by kernel_rfl) (.slice A3 l c) (fun w' h => ((exec_takeB _ _ rfl A n c l (by kernel_rfl) (by kernel_rfl) htc.out _).trans (by rw [hA3H.out]))) ?_
        simp only [Act.put, List.setIfInBounds_toArray, List.set_cons_zero, List.set_cons_succ]
        refine quiet_runG (by kernel_rfl) (.string (strB (b.take l))) (fun w' h => (exec_convB _ rfl (.slice A3 l c) (b.take l) (by kernel_rfl) (htw9.out.below h))) ?_
        simp only [Act.put, List.setIfInBounds_toArray, List.set_cons_zero, List.set_cons_succ]
        refine quiet_runG (by kernel_rfl) (.bool true) (fun w' h => (exec_eqlS _ _ rfl (strB (b.take l)) (by kernel_rfl) (by kernel_rfl) _)) ?_
        simp only [Act.put, List.setIfInBounds_toArray, List.set_cons_zero, List.set_cons_succ]
        refine quiet_run rfl (.bool true) (fun w' h => (by kernel_rfl)) ?_
        simp only [Act.put, List.setIfInBounds_toArray, List.set_cons_zero, List.set_cons_succ]
        refine quiet_run rfl (.bool true) (fun w' h => (by kernel_rfl)) ?_
        simp only [Act.put, List.setIfInBounds_toArray, List.set_cons_zero, List.set_cons_succ]
        refine wpQuiet_nil ?_
        intro w10 hb
        have hDw10 : Hid (DiskI w10 D mb (fS nF (b.take l) l (-1) false)) := (hDw9.out).below hb
        have hBw10 : Hid (Below w.heap.size w w10) := (hBw9.out).trans ((hb).mono (hBw9.out).size)
        have hbw10 : Hid (Rw 1 encB w10 (.slice A n c) b) := (hbw9.out).below hb
        have hrcw10 : Hid (Rw 1 encB w10 uc (b.take l)) := (hrcw9.out).below hb
        have htw10 : Hid (Rw 1 encB w10 (.slice A3 l c) (b.take l)) := (htw9.out).below hb
        clear hDw9 hBw9 hbw9 hrcw9 htw9
        clear hb
        have hF := hBw10
        clear hDw10 hbw10 hrcw10 htw10
        clear hDle 
        go_wp2_with fail
        go_ret
        exact ⟨rfl, hF.out⟩
end Go.Proofs.Ytmdfgndjphhgnaa
