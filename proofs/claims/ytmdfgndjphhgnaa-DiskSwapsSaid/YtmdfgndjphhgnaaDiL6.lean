/-
  DiskSwaps, walked.
-/
import Derived.Test.YtmdfgndjphhgnaaDiLaw1
namespace Go.Proofs.Ytmdfgndjphhgnaa
open Go.RowKit
set_option linter.unusedVariables false
set_option linter.unusedSimpArgs false
open Go.Proofs.Ytmdfgndjphhgnaa.Pure (nameB)
def gS (a : List Nat) (ka : Nat) (b : List Nat) (kb : Nat) (left : Int) (off : Bool) : DS := ⟨[⟨nF, a, ka⟩, ⟨nG, b, kb⟩], left, off⟩
theorem nFG : ¬ (nF = nG) := by decide +kernel
theorem nGF : ¬ (nG = nF) := by decide +kernel
theorem g_app (a b : List Nat) (k : Nat) (hb : b.length ≤ 1000000) : (fS nF a k (-1) false).app nameB nG b = (gS a k b 0 (-1) false, 0) := by
  have h1 : ¬ (1048576 < b.length) := by omega
  simp [DS.app, DS.get, name_G, h1, DS.putL, DS.useN, DS.used, DS.useOk, fS, gS, nFG]
theorem g_sync (a b : List Nat) (k j : Nat) : (gS a k b j (-1) false).sync nG = (gS a k b b.length (-1) false, 0) := by
  simp [DS.sync, DS.get, gS, DS.one, DS.putL, DS.used, DS.useOk, nFG, nGF]
theorem g_fuse (a b : List Nat) (k j : Nat) (l : Nat) : (gS a k b j (-1) false).fuse (l : Int) = gS a k b j (l : Int) false := by
  simp [DS.fuse, gS]; omega
theorem g_ren1 (a b : List Nat) (k j : Nat) : (gS a k b j 1 false).ren nameB nG nF = (fS nF b j 0 false, 0) := by
  simp [DS.ren, DS.get, gS, fS, DS.one, DS.putL, DS.del, DS.used, DS.useOk, nFG, nGF, name_F]
theorem g_ren0 (a b : List Nat) (k j : Nat) : (gS a k b j 0 false).ren nameB nG nF = (gS a k b j 0 true, 20) := by
  simp [DS.ren, DS.get, gS, fS, DS.one, DS.putL, DS.del, DS.used, DS.useOk, nFG, nGF, name_F]
theorem g_crash (a b : List Nat) (l : Int) (o : Bool) : (gS a a.length b b.length l o).crash 0 = gS a a.length b b.length (-1) false := by
  simp [DS.crash, DS.crash1, gS]
theorem f_crash (a : List Nat) (l : Int) (o : Bool) : (fS nF a a.length l o).crash 0 = fS nF a a.length (-1) false := by
  simp [DS.crash, DS.crash1, fS]
theorem g_readF (a b : List Nat) (k j : Nat) (l : Int) : (gS a k b j l false).read nF = (a, 0) := by
  simp [DS.read, DS.get, gS]
theorem g_readG (a b : List Nat) (k j : Nat) (l : Int) : (gS a k b j l false).read nG = (b, 0) := by
  simp [DS.read, DS.get, gS, nFG]
theorem f_readG (a : List Nat) (k : Nat) (l : Int) : (fS nF a k l false).read nG = ([], 4) := by
  simp [DS.read, DS.get, fS, nFG]
set_option maxRecDepth 100000 in
set_option maxHeartbeats 2000000 in
theorem swaps_calls {A A2 : Option Addr} {n m c c2 : Nat} {a b : List Nat} {u : Nat} {w : World} (hn : n = a.length) (hm : m = b.length) (ha : Rw 1 encB w (.slice A n c) a) (hb0 : Rw 1 encB w (.slice A2 m c2) b) (hu : u < 256) : Calls Try.prog 6 #[.slice A n c, .slice A2 m c2, .int .u8 (u : Int)] w fun e w' => e = .returned (.bool true) ∧ Below w.heap.size w w' := by
  have haw : Hid (Rw 1 encB w (.slice A n c) a) := ha
  have hbw : Hid (Rw 1 encB w (.slice A2 m c2) b) := hb0
  have huH : Hid (u < 256) := hu
  have hnH : Hid (n = a.length) := hn
  have hmH : Hid (m = b.length) := hm
  clear ha hb0 hu hn hm
  go_enter Try.func6, Try.ntmps6
  go_upto_region 1 with fail
  refine wp_region_lit ?_
  refine sg_call (by kernel_rfl) 9 #[] (by kernel_rfl) (R := fun v w' => ∃ D mb, v = .pointer (some ⟨D, 0, none⟩) ∧ DiskI w' D mb DS.new ∧ Below w.heap.size w w' ∧ w.heap.size ≤ D ∧ w.heap.size ≤ mb) ((New_calls w).mono fun e w' h => by
    obtain ⟨D, mb, h1, h2⟩ := h
    exact ⟨_, h1, D, mb, rfl, h2⟩) ?_
  rintro _ w1 ⟨D, mb, rfl, hD0, hb, hDl, hml⟩
  have hDw1 : Hid (DiskI w1 D mb DS.new) := hD0
  have hBw1 : Hid (Below w.heap.size w w1) := hb
  have hDle : Hid (w.heap.size ≤ D ∧ w.heap.size ≤ mb) := And.intro hDl hml
  simp only [Act.put, List.setIfInBounds_toArray, List.set_cons_zero, List.set_cons_succ]
  have haw1 : Hid (Rw 1 encB w1 (.slice A n c) a) := (haw.out).below hb
  have hbw1 : Hid (Rw 1 encB w1 (.slice A2 m c2) b) := (hbw.out).below hb
  clear haw hbw
  clear hD0 hb hDl hml
  refine sl_run rfl (.pointer (some ⟨D, 0, none⟩)) w1 (by kernel_rfl) ?_
  simp only [Act.put, List.setIfInBounds_toArray, List.set_cons_zero, List.set_cons_succ]
  refine wpList_nil ?_
  go_upto_region 2 with fail
  refine wp_region_lit ?_
  refine sg_call (by kernel_rfl) 10 #[] (by kernel_rfl) (R := fun v w' => v = .bool true ∧ Below w1.heap.size w1 w') ((fixed_calls w1).mono fun e w' h => ⟨_, h.1, rfl, h.2⟩) ?_
  rintro _ w2 ⟨rfl, hb⟩
  simp only [Act.put, List.setIfInBounds_toArray, List.set_cons_zero, List.set_cons_succ]
  have hDw2 : Hid (DiskI w2 D mb DS.new) := (hDw1.out).below hb
  have hBw2 : Hid (Below w.heap.size w w2) := (hBw1.out).trans ((hb).mono (hBw1.out).size)
  have haw2 : Hid (Rw 1 encB w2 (.slice A n c) a) := (haw1.out).below hb
  have hbw2 : Hid (Rw 1 encB w2 (.slice A2 m c2) b) := (hbw1.out).below hb
  clear hDw1 hBw1 haw1 hbw1
  clear hb
  refine sl_run rfl (.bool false) w2 (by kernel_rfl) ?_
  simp only [Act.put, List.setIfInBounds_toArray, List.set_cons_zero, List.set_cons_succ]
  refine sl_run rfl (.bool false) w2 (by kernel_rfl) ?_
  simp only [Act.put, List.setIfInBounds_toArray, List.set_cons_zero, List.set_cons_succ]
  refine sg_run (by kernel_rfl) (.pointer (some ⟨D, 0, none⟩)) w2 (by kernel_rfl) ?_
  simp only [Act.put, List.setIfInBounds_toArray, List.set_cons_zero, List.set_cons_succ]
  refine sg_run (by kernel_rfl) (.bool false) w2 (by kernel_rfl) ?_
  simp only [Act.put, List.setIfInBounds_toArray, List.set_cons_zero, List.set_cons_succ]
  refine sl_run rfl (.bool false) w2 (by kernel_rfl) ?_
  simp only [Act.put, List.setIfInBounds_toArray, List.set_cons_zero, List.set_cons_succ]
  refine wpList_nil ?_
  go_upto_region 4 with fail
  refine wp_region_lit ?_
  by_cases p1 : 2000 < n
  case pos =>
    refine sl_run rfl (.slice A n c) w2 (by kernel_rfl) ?_
    simp only [Act.put, List.setIfInBounds_toArray, List.set_cons_zero, List.set_cons_succ]
    refine sl_run rfl (.int .i64 (n : Int)) w2 (by kernel_rfl) ?_
    simp only [Act.put, List.setIfInBounds_toArray, List.set_cons_zero, List.set_cons_succ]
    refine sl_run rfl (.bool true) w2 (exec_gtr 3 _ _ rfl ((n : Int)) (2000) (by kernel_rfl) (by kernel_rfl) true (by rw [decide_eq_true_eq]; omega)) ?_
    simp only [Act.put, List.setIfInBounds_toArray, List.set_cons_zero, List.set_cons_succ]
    refine sl_run rfl (.bool true) w2 (by kernel_rfl) ?_
    simp only [Act.put, List.setIfInBounds_toArray, List.set_cons_zero, List.set_cons_succ]
    refine wpList_skip ?hw ?_
    case hw => kernel_rfl
    simp only [Act.put, List.setIfInBounds_toArray, List.set_cons_zero, List.set_cons_succ]
    refine wpList_skip ?hw ?_
    case hw => kernel_rfl
    simp only [Act.put, List.setIfInBounds_toArray, List.set_cons_zero, List.set_cons_succ]
    refine wpList_skip ?hw ?_
    case hw => kernel_rfl
    simp only [Act.put, List.setIfInBounds_toArray, List.set_cons_zero, List.set_cons_succ]
    refine sl_run rfl (.bool true) w2 (by kernel_rfl) ?_
    simp only [Act.put, List.setIfInBounds_toArray, List.set_cons_zero, List.set_cons_succ]
    refine wpList_nil ?_
    have hF := hBw2
    clear hDw2 haw2 hbw2
    clear hDle 
    go_wp2_with fail
    go_ret
    exact ⟨rfl, hF.out⟩
  case neg =>
    by_cases p2 : 2000 < m
    case pos =>
      refine sl_run rfl (.slice A n c) w2 (by kernel_rfl) ?_
      simp only [Act.put, List.setIfInBounds_toArray, List.set_cons_zero, List.set_cons_succ]
      refine sl_run rfl (.int .i64 (n : Int)) w2 (by kernel_rfl) ?_
      simp only [Act.put, List.setIfInBounds_toArray, List.set_cons_zero, List.set_cons_succ]
      refine sl_run rfl (.bool false) w2 (exec_gtr 3 _ _ rfl ((n : Int)) (2000) (by kernel_rfl) (by kernel_rfl) false (by rw [decide_eq_false_iff_not]; omega)) ?_
      simp only [Act.put, List.setIfInBounds_toArray, List.set_cons_zero, List.set_cons_succ]
      refine sl_run rfl (.bool false) w2 (by kernel_rfl) ?_
      simp only [Act.put, List.setIfInBounds_toArray, List.set_cons_zero, List.set_cons_succ]
      refine sg_run (by kernel_rfl) (.slice A2 m c2) w2 (by kernel_rfl) ?_
      simp only [Act.put, List.setIfInBounds_toArray, List.set_cons_zero, List.set_cons_succ]
      refine sg_run (by kernel_rfl) (.int .i64 (m : Int)) w2 (by kernel_rfl) ?_
      simp only [Act.put, List.setIfInBounds_toArray, List.set_cons_zero, List.set_cons_succ]
      refine sg_run (by kernel_rfl) (.bool true) w2 (exec_gtr 3 _ _ rfl ((m : Int)) (2000) (by kernel_rfl) (by kernel_rfl) true (by rw [decide_eq_true_eq]; omega)) ?_
      simp only [Act.put, List.setIfInBounds_toArray, List.set_cons_zero, List.set_cons_succ]
      refine sl_run rfl (.bool true) w2 (by kernel_rfl) ?_
      simp only [Act.put, List.setIfInBounds_toArray, List.set_cons_zero, List.set_cons_succ]
      refine wpList_nil ?_
      have hF := hBw2
      clear hDw2 haw2 hbw2
      clear hDle 
      go_wp2_with fail
      go_ret
      exact ⟨rfl, hF.out⟩
    case neg =>
      refine sl_run rfl (.slice A n c) w2 (by kernel_rfl) ?_
      simp only [Act.put, List.setIfInBounds_toArray, List.set_cons_zero, List.set_cons_succ]
      refine sl_run rfl (.int .i64 (n : Int)) w2 (by kernel_rfl) ?_
      simp only [Act.put, List.setIfInBounds_toArray, List.set_cons_zero, List.set_cons_succ]
      refine sl_run rfl (.bool false) w2 (exec_gtr 3 _ _ rfl ((n : Int)) (2000) (by kernel_rfl) (by kernel_rfl) false (by rw [decide_eq_false_iff_not]; omega)) ?_
      simp only [Act.put, List.setIfInBounds_toArray, List.set_cons_zero, List.set_cons_succ]
      refine sl_run rfl (.bool false) w2 (by kernel_rfl) ?_
      simp only [Act.put, List.setIfInBounds_toArray, List.set_cons_zero, List.set_cons_succ]
      refine sg_run (by kernel_rfl) (.slice A2 m c2) w2 (by kernel_rfl) ?_
      simp only [Act.put, List.setIfInBounds_toArray, List.set_cons_zero, List.set_cons_succ]
      refine sg_run (by kernel_rfl) (.int .i64 (m : Int)) w2 (by kernel_rfl) ?_
      simp only [Act.put, List.setIfInBounds_toArray, List.set_cons_zero, List.set_cons_succ]
      refine sg_run (by kernel_rfl) (.bool false) w2 (exec_gtr 3 _ _ rfl ((m : Int)) (2000) (by kernel_rfl) (by kernel_rfl) false (by rw [decide_eq_false_iff_not]; omega)) ?_
      simp only [Act.put, List.setIfInBounds_toArray, List.set_cons_zero, List.set_cons_succ]
      refine sl_run rfl (.bool false) w2 (by kernel_rfl) ?_
      simp only [Act.put, List.setIfInBounds_toArray, List.set_cons_zero, List.set_cons_succ]
      refine wpList_nil ?_
      have hal : Hid (a.length ≤ 2000) := by have := hnH.out; exact (by omega : a.length ≤ 2000)
      have hbl : Hid (b.length ≤ 2000) := by have := hmH.out; exact (by omega : b.length ≤ 2000)
      clear p1 p2
      go_upto_region 6 with fail
      refine wp_region_lit ?_
      refine sl_run rfl (.pointer (some ⟨D, 0, none⟩)) w2 (by kernel_rfl) ?_
      simp only [Act.put, List.setIfInBounds_toArray, List.set_cons_zero, List.set_cons_succ]
      refine sl_run rfl (.slice A n c) w2 (by kernel_rfl) ?_
      simp only [Act.put, List.setIfInBounds_toArray, List.set_cons_zero, List.set_cons_succ]
      refine sg_call (by kernel_rfl) 12 #[.pointer (some ⟨D, 0, none⟩), .string nF, .slice A n c] (by kernel_rfl) (R := fun v w' => v = .int .i64 0 ∧ DiskI w' D mb (fS nF a 0 (-1) false) ∧ KpS (TD D mb) w2 w') ?hc ?_
      case hc =>
        have h8 := Append_calls hDw2.out nF a A n c hnH.out (by have := hnH.out; have := hal.out; omega) haw2.out
        rw [new_app name_F a (by have := hal.out; omega)] at h8
        exact h8.mono fun e w' h => ⟨_, h.1, rfl, h.2⟩
      rintro _ w3 ⟨rfl, hD0, hK0⟩
      simp only [Act.put, List.setIfInBounds_toArray, List.set_cons_zero, List.set_cons_succ]
      have hDw3 : Hid (DiskI w3 D mb (fS nF a 0 (-1) false)) := hD0
      have hBw3 : Hid (Below w.heap.size w w3) := bel_kp hBw2.out hK0 hDle.out.1 hDle.out.2
      have haw3 : Hid (Rw 1 encB w3 (.slice A n c) a) := rw_kpS hDw2.out haw2.out hK0
      have hbw3 : Hid (Rw 1 encB w3 (.slice A2 m c2) b) := rw_kpS hDw2.out hbw2.out hK0
      clear hD0 hK0 hDw2 hBw2 haw2 hbw2
      refine sl_run rfl (.bool false) w3 (by kernel_rfl) ?_
      simp only [Act.put, List.setIfInBounds_toArray, List.set_cons_zero, List.set_cons_succ]
      refine sl_run rfl (.bool false) w3 (by kernel_rfl) ?_
      simp only [Act.put, List.setIfInBounds_toArray, List.set_cons_zero, List.set_cons_succ]
      refine sg_run (by kernel_rfl) (.pointer (some ⟨D, 0, none⟩)) w3 (by kernel_rfl) ?_
      simp only [Act.put, List.setIfInBounds_toArray, List.set_cons_zero, List.set_cons_succ]
      refine sg_call (by kernel_rfl) 14 #[.pointer (some ⟨D, 0, none⟩), .string nF] (by kernel_rfl) (R := fun v w' => v = .int .i64 0 ∧ DiskI w' D mb (fS nF a a.length (-1) false) ∧ KpS (TD D mb) w3 w') ?hc ?_
      case hc =>
        have h8 := Sync_calls hDw3.out nF
        rw [fS_sync] at h8
        exact h8.mono fun e w' h => ⟨_, h.1, rfl, h.2⟩
      rintro _ w4 ⟨rfl, hD0, hK0⟩
      simp only [Act.put, List.setIfInBounds_toArray, List.set_cons_zero, List.set_cons_succ]
      have hDw4 : Hid (DiskI w4 D mb (fS nF a a.length (-1) false)) := hD0
      have hBw4 : Hid (Below w.heap.size w w4) := bel_kp hBw3.out hK0 hDle.out.1 hDle.out.2
      have haw4 : Hid (Rw 1 encB w4 (.slice A n c) a) := rw_kpS hDw3.out haw3.out hK0
      have hbw4 : Hid (Rw 1 encB w4 (.slice A2 m c2) b) := rw_kpS hDw3.out hbw3.out hK0
      clear hD0 hK0 hDw3 hBw3 haw3 hbw3
      refine sg_run (by kernel_rfl) (.bool false) w4 (by kernel_rfl) ?_
      simp only [Act.put, List.setIfInBounds_toArray, List.set_cons_zero, List.set_cons_succ]
      refine sl_run rfl (.bool false) w4 (by kernel_rfl) ?_
      simp only [Act.put, List.setIfInBounds_toArray, List.set_cons_zero, List.set_cons_succ]
      refine sl_run rfl (.bool false) w4 (by kernel_rfl) ?_
      simp only [Act.put, List.setIfInBounds_toArray, List.set_cons_zero, List.set_cons_succ]
      refine sg_run (by kernel_rfl) (.pointer (some ⟨D, 0, none⟩)) w4 (by kernel_rfl) ?_
      simp only [Act.put, List.setIfInBounds_toArray, List.set_cons_zero, List.set_cons_succ]
      refine sg_run (by kernel_rfl) (.slice A2 m c2) w4 (by kernel_rfl) ?_
      simp only [Act.put, List.setIfInBounds_toArray, List.set_cons_zero, List.set_cons_succ]
      refine sg_call (by kernel_rfl) 12 #[.pointer (some ⟨D, 0, none⟩), .string nG, .slice A2 m c2] (by kernel_rfl) (R := fun v w' => v = .int .i64 0 ∧ DiskI w' D mb (gS a a.length b 0 (-1) false) ∧ KpS (TD D mb) w4 w') ?hc ?_
      case hc =>
        have h8 := Append_calls hDw4.out nG b A2 m c2 hmH.out (by have := hmH.out; have := hbl.out; omega) hbw4.out
        rw [g_app a b _ (by have := hbl.out; omega)] at h8
        exact h8.mono fun e w' h => ⟨_, h.1, rfl, h.2⟩
      rintro _ w5 ⟨rfl, hD0, hK0⟩
      simp only [Act.put, List.setIfInBounds_toArray, List.set_cons_zero, List.set_cons_succ]
      have hDw5 : Hid (DiskI w5 D mb (gS a a.length b 0 (-1) false)) := hD0
      have hBw5 : Hid (Below w.heap.size w w5) := bel_kp hBw4.out hK0 hDle.out.1 hDle.out.2
      have haw5 : Hid (Rw 1 encB w5 (.slice A n c) a) := rw_kpS hDw4.out haw4.out hK0
      have hbw5 : Hid (Rw 1 encB w5 (.slice A2 m c2) b) := rw_kpS hDw4.out hbw4.out hK0
      clear hD0 hK0 hDw4 hBw4 haw4 hbw4
      refine sg_run (by kernel_rfl) (.bool false) w5 (by kernel_rfl) ?_
      simp only [Act.put, List.setIfInBounds_toArray, List.set_cons_zero, List.set_cons_succ]
      refine sl_run rfl (.bool false) w5 (by kernel_rfl) ?_
      simp only [Act.put, List.setIfInBounds_toArray, List.set_cons_zero, List.set_cons_succ]
      refine sl_run rfl (.bool false) w5 (by kernel_rfl) ?_
      simp only [Act.put, List.setIfInBounds_toArray, List.set_cons_zero, List.set_cons_succ]
      refine sg_run (by kernel_rfl) (.pointer (some ⟨D, 0, none⟩)) w5 (by kernel_rfl) ?_
      simp only [Act.put, List.setIfInBounds_toArray, List.set_cons_zero, List.set_cons_succ]
      refine sg_call (by kernel_rfl) 14 #[.pointer (some ⟨D, 0, none⟩), .string nG] (by kernel_rfl) (R := fun v w' => v = .int .i64 0 ∧ DiskI w' D mb (gS a a.length b b.length (-1) false) ∧ KpS (TD D mb) w5 w') ?hc ?_
      case hc =>
        have h8 := Sync_calls hDw5.out nG
        rw [g_sync] at h8
        exact h8.mono fun e w' h => ⟨_, h.1, rfl, h.2⟩
      rintro _ w6 ⟨rfl, hD0, hK0⟩
      simp only [Act.put, List.setIfInBounds_toArray, List.set_cons_zero, List.set_cons_succ]
      have hDw6 : Hid (DiskI w6 D mb (gS a a.length b b.length (-1) false)) := hD0
      have hBw6 : Hid (Below w.heap.size w w6) := bel_kp hBw5.out hK0 hDle.out.1 hDle.out.2
      have haw6 : Hid (Rw 1 encB w6 (.slice A n c) a) := rw_kpS hDw5.out haw5.out hK0
      have hbw6 : Hid (Rw 1 encB w6 (.slice A2 m c2) b) := rw_kpS hDw5.out hbw5.out hK0
      clear hD0 hK0 hDw5 hBw5 haw5 hbw5
      refine sg_run (by kernel_rfl) (.bool false) w6 (by kernel_rfl) ?_
      simp only [Act.put, List.setIfInBounds_toArray, List.set_cons_zero, List.set_cons_succ]
      refine sl_run rfl (.bool false) w6 (by kernel_rfl) ?_
      simp only [Act.put, List.setIfInBounds_toArray, List.set_cons_zero, List.set_cons_succ]
      refine wpList_nil ?_
      go_upto_region 8 with fail
      refine wp_region_lit ?_
      obtain hu2 | hu2 : u % 2 = 1 ∨ u % 2 = 0 := by omega
      case inl =>
        have huE : Hid (u % 2 = 1) := hu2
        clear hu2
        refine sl_run rfl (.pointer (some ⟨D, 0, none⟩)) w6 (by kernel_rfl) ?_
        simp only [Act.put, List.setIfInBounds_toArray, List.set_cons_zero, List.set_cons_succ]
        refine sl_run rfl (.int .u8 (u : Int)) w6 (by kernel_rfl) ?_
        simp only [Act.put, List.setIfInBounds_toArray, List.set_cons_zero, List.set_cons_succ]
        refine sl_run rfl (.int .i64 (u : Int)) w6 (exec_widen _ rfl u (by kernel_rfl) huH.out _) ?_
        simp only [Act.put, List.setIfInBounds_toArray, List.set_cons_zero, List.set_cons_succ]
        refine sl_run rfl (.int .i64 1) w6 ((exec_remN 3 .i64 _ _ rfl u 2 (by kernel_rfl) (by kernel_rfl) (by decide) _).trans (by rw [huE.out]; rfl)) ?_
        simp only [Act.put, List.setIfInBounds_toArray, List.set_cons_zero, List.set_cons_succ]
        refine sg_call (by kernel_rfl) 24 #[.pointer (some ⟨D, 0, none⟩), .int .i64 1] (by kernel_rfl) (R := fun v w' => v = .tuple #[] ∧ DiskI w' D mb (gS a a.length b b.length ((1 : Nat) : Int) false) ∧ KpS (TD D mb) w6 w') ?hc ?_
        case hc =>
          have h8 := Fuse_calls hDw6.out ((1 : Nat) : Int) (by decide)
          rw [g_fuse a b a.length b.length 1] at h8
          exact h8.mono fun e w' h => ⟨_, h.1, rfl, h.2⟩
        rintro _ w7 ⟨rfl, hD0, hK0⟩
        simp only [Act.put, List.setIfInBounds_toArray, List.set_cons_zero, List.set_cons_succ]
        have hDw7 : Hid (DiskI w7 D mb (gS a a.length b b.length ((1 : Nat) : Int) false)) := hD0
        have hBw7 : Hid (Below w.heap.size w w7) := bel_kp hBw6.out hK0 hDle.out.1 hDle.out.2
        have haw7 : Hid (Rw 1 encB w7 (.slice A n c) a) := rw_kpS hDw6.out haw6.out hK0
        have hbw7 : Hid (Rw 1 encB w7 (.slice A2 m c2) b) := rw_kpS hDw6.out hbw6.out hK0
        clear hD0 hK0 hDw6 hBw6 haw6 hbw6
        refine wpList_nil ?_
        go_upto_region 9 with fail
        refine wp_region_lit ?_
        refine sl_run rfl (.pointer (some ⟨D, 0, none⟩)) w7 (by kernel_rfl) ?_
        simp only [Act.put, List.setIfInBounds_toArray, List.set_cons_zero, List.set_cons_succ]
        refine sg_call (by kernel_rfl) 16 #[.pointer (some ⟨D, 0, none⟩), .string nG, .string nF] (by kernel_rfl) (R := fun v w' => v = .int .i64 0 ∧ DiskI w' D mb (fS nF b b.length 0 false) ∧ KpS (TD D mb) w7 w') ?hc ?_
        case hc =>
          have h8 := Rename_calls hDw7.out nG nF
          rw [show (gS a a.length b b.length ((1 : Nat) : Int) false).ren nameB nG nF = _ from g_ren1 _ _ _ _] at h8
          exact h8.mono fun e w' h => ⟨_, h.1, rfl, h.2⟩
        rintro _ w8 ⟨rfl, hD0, hK0⟩
        simp only [Act.put, List.setIfInBounds_toArray, List.set_cons_zero, List.set_cons_succ]
        have hDw8 : Hid (DiskI w8 D mb (fS nF b b.length 0 false)) := hD0
        have hBw8 : Hid (Below w.heap.size w w8) := bel_kp hBw7.out hK0 hDle.out.1 hDle.out.2
        have haw8 : Hid (Rw 1 encB w8 (.slice A n c) a) := rw_kpS hDw7.out haw7.out hK0
        have hbw8 : Hid (Rw 1 encB w8 (.slice A2 m c2) b) := rw_kpS hDw7.out hbw7.out hK0
        clear hD0 hK0 hDw7 hBw7 haw7 hbw7
        refine sl_run rfl (.int .i64 0) w8 (by kernel_rfl) ?_
        simp only [Act.put, List.setIfInBounds_toArray, List.set_cons_zero, List.set_cons_succ]
        refine wpList_nil ?_
        go_upto_region 10 with fail
        refine wp_region_lit ?_
        refine sl_run rfl (.pointer (some ⟨D, 0, none⟩)) w8 (by kernel_rfl) ?_
        simp only [Act.put, List.setIfInBounds_toArray, List.set_cons_zero, List.set_cons_succ]
        refine sg_call (by kernel_rfl) 26 #[.pointer (some ⟨D, 0, none⟩), .int .i64 0] (by kernel_rfl) (R := fun v w' => v = .tuple #[] ∧ DiskI w' D mb (fS nF b b.length (-1) false) ∧ KpS (TD D mb) w8 w') ?hc ?_
        case hc =>
          have h8 := Crash_calls hDw8.out 0 (by decide)
          rw [f_crash] at h8
          exact h8.mono fun e w' h => ⟨_, h.1, rfl, h.2⟩
        rintro _ w9 ⟨rfl, hD0, hK0⟩
        simp only [Act.put, List.setIfInBounds_toArray, List.set_cons_zero, List.set_cons_succ]
        have hDw9 : Hid (DiskI w9 D mb (fS nF b b.length (-1) false)) := hD0
        have hBw9 : Hid (Below w.heap.size w w9) := bel_kp hBw8.out hK0 hDle.out.1 hDle.out.2
        have haw9 : Hid (Rw 1 encB w9 (.slice A n c) a) := rw_kpS hDw8.out haw8.out hK0
        have hbw9 : Hid (Rw 1 encB w9 (.slice A2 m c2) b) := rw_kpS hDw8.out hbw8.out hK0
        clear hD0 hK0 hDw8 hBw8 haw8 hbw8
        refine wpList_nil ?_
        go_upto_region 11 with fail
        refine wp_region_lit ?_
        refine sl_run rfl (.pointer (some ⟨D, 0, none⟩)) w9 (by kernel_rfl) ?_
        simp only [Act.put, List.setIfInBounds_toArray, List.set_cons_zero, List.set_cons_succ]
        refine sg_call (by kernel_rfl) 22 #[.pointer (some ⟨D, 0, none⟩), .string nF] (by kernel_rfl) (R := fun v w' => ∃ u, v = .tuple #[u, .int .i64 0] ∧ Rw 1 encB w' u (b) ∧ Below w9.heap.size w9 w') ?hc ?_
        case hc =>
          have h8 := Read_calls hDw9.out nF
          rw [fS_read] at h8
          refine h8.mono fun e w' h => ?_
          obtain ⟨v, h1, h2, h3⟩ := h
          exact ⟨_, h1, v, rfl, h2, h3⟩
        rintro _ w10 ⟨uc, rfl, hr0, hb⟩
        simp only [Act.put, List.setIfInBounds_toArray, List.set_cons_zero, List.set_cons_succ]
        have hDw10 : Hid (DiskI w10 D mb (fS nF b b.length (-1) false)) := (hDw9.out).below hb
        have hBw10 : Hid (Below w.heap.size w w10) := (hBw9.out).trans ((hb).mono (hBw9.out).size)
        have haw10 : Hid (Rw 1 encB w10 (.slice A n c) a) := (haw9.out).below hb
        have hbw10 : Hid (Rw 1 encB w10 (.slice A2 m c2) b) := (hbw9.out).below hb
        clear hDw9 hBw9 haw9 hbw9
        have hrcw10 : Hid (Rw 1 encB w10 uc (b)) := hr0
        clear hb hr0
        refine sl_run rfl (.tuple #[uc, .int .i64 0]) w10 (by kernel_rfl) ?_
        simp only [Act.put, List.setIfInBounds_toArray, List.set_cons_zero, List.set_cons_succ]
        refine sl_run rfl (uc) w10 (by kernel_rfl) ?_
        simp only [Act.put, List.setIfInBounds_toArray, List.set_cons_zero, List.set_cons_succ]
        refine sl_run rfl (.int .i64 0) w10 (by kernel_rfl) ?_
        simp only [Act.put, List.setIfInBounds_toArray, List.set_cons_zero, List.set_cons_succ]
        refine sl_run rfl (uc) w10 (by kernel_rfl) ?_
        simp only [Act.put, List.setIfInBounds_toArray, List.set_cons_zero, List.set_cons_succ]
        refine sl_run rfl (.int .i64 0) w10 (by kernel_rfl) ?_
        simp only [Act.put, List.setIfInBounds_toArray, List.set_cons_zero, List.set_cons_succ]
        refine wpList_nil ?_
        go_upto_region 12 with fail
        refine wp_region_lit ?_
        refine sl_run rfl (.pointer (some ⟨D, 0, none⟩)) w10 (by kernel_rfl) ?_
        simp only [Act.put, List.setIfInBounds_toArray, List.set_cons_zero, List.set_cons_succ]
        refine sg_call (by kernel_rfl) 22 #[.pointer (some ⟨D, 0, none⟩), .string nG] (by kernel_rfl) (R := fun v w' => ∃ u, v = .tuple #[u, .int .i64 4] ∧ Rw 1 encB w' u ([]) ∧ Below w10.heap.size w10 w') ?hc ?_
        case hc =>
          have h8 := Read_calls hDw10.out nG
          rw [f_readG] at h8
          refine h8.mono fun e w' h => ?_
          obtain ⟨v, h1, h2, h3⟩ := h
          exact ⟨_, h1, v, rfl, h2, h3⟩
        rintro _ w11 ⟨ud, rfl, hr0, hb⟩
        simp only [Act.put, List.setIfInBounds_toArray, List.set_cons_zero, List.set_cons_succ]
        have hDw11 : Hid (DiskI w11 D mb (fS nF b b.length (-1) false)) := (hDw10.out).below hb
        have hBw11 : Hid (Below w.heap.size w w11) := (hBw10.out).trans ((hb).mono (hBw10.out).size)
        have haw11 : Hid (Rw 1 encB w11 (.slice A n c) a) := (haw10.out).below hb
        have hbw11 : Hid (Rw 1 encB w11 (.slice A2 m c2) b) := (hbw10.out).below hb
        have hrcw11 : Hid (Rw 1 encB w11 uc (b)) := (hrcw10.out).below hb
        clear hDw10 hBw10 haw10 hbw10 hrcw10
        have hrdw11 : Hid (Rw 1 encB w11 ud ([])) := hr0
        clear hb hr0
        refine sl_run rfl (.tuple #[ud, .int .i64 4]) w11 (by kernel_rfl) ?_
        simp only [Act.put, List.setIfInBounds_toArray, List.set_cons_zero, List.set_cons_succ]
        refine sl_run rfl (ud) w11 (by kernel_rfl) ?_
        simp only [Act.put, List.setIfInBounds_toArray, List.set_cons_zero, List.set_cons_succ]
        refine sl_run rfl (.int .i64 4) w11 (by kernel_rfl) ?_
        simp only [Act.put, List.setIfInBounds_toArray, List.set_cons_zero, List.set_cons_succ]
        refine sl_run rfl (ud) w11 (by kernel_rfl) ?_
        simp only [Act.put, List.setIfInBounds_toArray, List.set_cons_zero, List.set_cons_succ]
        refine sl_run rfl (.int .i64 4) w11 (by kernel_rfl) ?_
        simp only [Act.put, List.setIfInBounds_toArray, List.set_cons_zero, List.set_cons_succ]
        refine wpList_nil ?_
        go_upto_region 13 with fail
        refine wp_region_lit ?_
        refine sl_run rfl (.int .u8 (u : Int)) w11 (by kernel_rfl) ?_
        simp only [Act.put, List.setIfInBounds_toArray, List.set_cons_zero, List.set_cons_succ]
        refine sl_run rfl (.int .u8 1) w11 ((exec_remN 5 .u8 _ _ rfl u 2 (by kernel_rfl) (by kernel_rfl) (by decide) _).trans (by rw [huE.out]; rfl)) ?_
        simp only [Act.put, List.setIfInBounds_toArray, List.set_cons_zero, List.set_cons_succ]
        refine sl_run rfl (.bool true) w11 (by kernel_rfl) ?_
        simp only [Act.put, List.setIfInBounds_toArray, List.set_cons_zero, List.set_cons_succ]
        refine wpList_nil ?_
        go_upto_region 14 with fail
        refine wp_region_lit ?_
        refine sl_run rfl (.int .i64 0) w11 (by kernel_rfl) ?_
        simp only [Act.put, List.setIfInBounds_toArray, List.set_cons_zero, List.set_cons_succ]
        refine sl_run rfl (.bool true) w11 (by kernel_rfl) ?_
        simp only [Act.put, List.setIfInBounds_toArray, List.set_cons_zero, List.set_cons_succ]
        refine sl_run rfl (.bool true) w11 (by kernel_rfl) ?_
        simp only [Act.put, List.setIfInBounds_toArray, List.set_cons_zero, List.set_cons_succ]
        refine sg_run (by kernel_rfl) (.int .i64 0) w11 (by kernel_rfl) ?_
        simp only [Act.put, List.setIfInBounds_toArray, List.set_cons_zero, List.set_cons_succ]
        refine sg_run (by kernel_rfl) (.bool true) w11 (by kernel_rfl) ?_
        simp only [Act.put, List.setIfInBounds_toArray, List.set_cons_zero, List.set_cons_succ]
        refine sl_run rfl (.bool true) w11 (by kernel_rfl) ?_
        simp only [Act.put, List.setIfInBounds_toArray, List.set_cons_zero, List.set_cons_succ]
        refine sl_run rfl (.bool true) w11 (by kernel_rfl) ?_
        simp only [Act.put, List.setIfInBounds_toArray, List.set_cons_zero, List.set_cons_succ]
        refine sg_run (by kernel_rfl) (uc) w11 (by kernel_rfl) ?_
        simp only [Act.put, List.setIfInBounds_toArray, List.set_cons_zero, List.set_cons_succ]
        refine sg_run (by kernel_rfl) (.string (strB (b))) w11 (exec_convB _ rfl (uc) (b) (by kernel_rfl) hrcw11.out) ?_
        simp only [Act.put, List.setIfInBounds_toArray, List.set_cons_zero, List.set_cons_succ]
        refine sg_run (by kernel_rfl) (.slice A2 m c2) w11 (by kernel_rfl) ?_
        simp only [Act.put, List.setIfInBounds_toArray, List.set_cons_zero, List.set_cons_succ]
        refine sg_run (by kernel_rfl) (.string (strB (b))) w11 (exec_convB _ rfl (.slice A2 m c2) (b) (by kernel_rfl) hbw11.out) ?_
        simp only [Act.put, List.setIfInBounds_toArray, List.set_cons_zero, List.set_cons_succ]
        refine sg_run (by kernel_rfl) (.bool true) w11 (exec_eqlS _ _ rfl (strB b) (by kernel_rfl) (by kernel_rfl) _) ?_
        simp only [Act.put, List.setIfInBounds_toArray, List.set_cons_zero, List.set_cons_succ]
        refine sl_run rfl (.bool true) w11 (by kernel_rfl) ?_
        simp only [Act.put, List.setIfInBounds_toArray, List.set_cons_zero, List.set_cons_succ]
        refine sl_run rfl (.bool true) w11 (by kernel_rfl) ?_
        simp only [Act.put, List.setIfInBounds_toArray, List.set_cons_zero, List.set_cons_succ]
        refine sg_run (by kernel_rfl) (.int .i64 4) w11 (by kernel_rfl) ?_
        simp only [Act.put, List.setIfInBounds_toArray, List.set_cons_zero, List.set_cons_succ]
        refine sg_run (by kernel_rfl) (.bool true) w11 (by kernel_rfl) ?_
        simp only [Act.put, List.setIfInBounds_toArray, List.set_cons_zero, List.set_cons_succ]
        refine sl_run rfl (.bool true) w11 (by kernel_rfl) ?_
        simp only [Act.put, List.setIfInBounds_toArray, List.set_cons_zero, List.set_cons_succ]
        refine sl_run rfl (.bool true) w11 (by kernel_rfl) ?_
        simp only [Act.put, List.setIfInBounds_toArray, List.set_cons_zero, List.set_cons_succ]
        refine wpList_nil ?_
        have hF := hBw11
        clear hDw11 haw11 hbw11 hrcw11 hrdw11
        clear hDle 
        go_wp2_with fail
        go_ret
        exact ⟨rfl, hF.out⟩
      case inr =>
        have huE : Hid (u % 2 = 0) := hu2
        clear hu2
        refine sl_run rfl (.pointer (some ⟨D, 0, none⟩)) w6 (by kernel_rfl) ?_
        simp only [Act.put, List.setIfInBounds_toArray, List.set_cons_zero, List.set_cons_succ]
        refine sl_run rfl (.int .u8 (u : Int)) w6 (by kernel_rfl) ?_
        simp only [Act.put, List.setIfInBounds_toArray, List.set_cons_zero, List.set_cons_succ]
        refine sl_run rfl (.int .i64 (u : Int)) w6 (exec_widen _ rfl u (by kernel_rfl) huH.out _) ?_
        simp only [Act.put, List.setIfInBounds_toArray, List.set_cons_zero, List.set_cons_succ]
        refine sl_run rfl (.int .i64 0) w6 ((exec_remN 3 .i64 _ _ rfl u 2 (by kernel_rfl) (by kernel_rfl) (by decide) _).trans (by rw [huE.out]; rfl)) ?_
        simp only [Act.put, List.setIfInBounds_toArray, List.set_cons_zero, List.set_cons_succ]
        refine sg_call (by kernel_rfl) 24 #[.pointer (some ⟨D, 0, none⟩), .int .i64 0] (by kernel_rfl) (R := fun v w' => v = .tuple #[] ∧ DiskI w' D mb (gS a a.length b b.length ((0 : Nat) : Int) false) ∧ KpS (TD D mb) w6 w') ?hc ?_
        case hc =>
          have h8 := Fuse_calls hDw6.out ((0 : Nat) : Int) (by decide)
          rw [g_fuse a b a.length b.length 0] at h8
          exact h8.mono fun e w' h => ⟨_, h.1, rfl, h.2⟩
        rintro _ w12 ⟨rfl, hD0, hK0⟩
        simp only [Act.put, List.setIfInBounds_toArray, List.set_cons_zero, List.set_cons_succ]
        have hDw12 : Hid (DiskI w12 D mb (gS a a.length b b.length ((0 : Nat) : Int) false)) := hD0
        have hBw12 : Hid (Below w.heap.size w w12) := bel_kp hBw6.out hK0 hDle.out.1 hDle.out.2
        have haw12 : Hid (Rw 1 encB w12 (.slice A n c) a) := rw_kpS hDw6.out haw6.out hK0
        have hbw12 : Hid (Rw 1 encB w12 (.slice A2 m c2) b) := rw_kpS hDw6.out hbw6.out hK0
        clear hD0 hK0 hDw6 hBw6 haw6 hbw6
        refine wpList_nil ?_
        go_upto_region 9 with fail
        refine wp_region_lit ?_
        refine sl_run rfl (.pointer (some ⟨D, 0, none⟩)) w12 (by kernel_rfl) ?_
        simp only [Act.put, List.setIfInBounds_toArray, List.set_cons_zero, List.set_cons_succ]
        refine sg_call (by kernel_rfl) 16 #[.pointer (some ⟨D, 0, none⟩), .string nG, .string nF] (by kernel_rfl) (R := fun v w' => v = .int .i64 20 ∧ DiskI w' D mb (gS a a.length b b.length 0 true) ∧ KpS (TD D mb) w12 w') ?hc ?_
        case hc =>
          have h8 := Rename_calls hDw12.out nG nF
          rw [show (gS a a.length b b.length ((0 : Nat) : Int) false).ren nameB nG nF = _ from g_ren0 _ _ _ _] at h8
          exact h8.mono fun e w' h => ⟨_, h.1, rfl, h.2⟩
        rintro _ w13 ⟨rfl, hD0, hK0⟩
        simp only [Act.put, List.setIfInBounds_toArray, List.set_cons_zero, List.set_cons_succ]
        have hDw13 : Hid (DiskI w13 D mb (gS a a.length b b.length 0 true)) := hD0
        have hBw13 : Hid (Below w.heap.size w w13) := bel_kp hBw12.out hK0 hDle.out.1 hDle.out.2
        have haw13 : Hid (Rw 1 encB w13 (.slice A n c) a) := rw_kpS hDw12.out haw12.out hK0
        have hbw13 : Hid (Rw 1 encB w13 (.slice A2 m c2) b) := rw_kpS hDw12.out hbw12.out hK0
        clear hD0 hK0 hDw12 hBw12 haw12 hbw12
        refine sl_run rfl (.int .i64 20) w13 (by kernel_rfl) ?_
        simp only [Act.put, List.setIfInBounds_toArray, List.set_cons_zero, List.set_cons_succ]
        refine wpList_nil ?_
        go_upto_region 10 with fail
        refine wp_region_lit ?_
        refine sl_run rfl (.pointer (some ⟨D, 0, none⟩)) w13 (by kernel_rfl) ?_
        simp only [Act.put, List.setIfInBounds_toArray, List.set_cons_zero, List.set_cons_succ]
        refine sg_call (by kernel_rfl) 26 #[.pointer (some ⟨D, 0, none⟩), .int .i64 0] (by kernel_rfl) (R := fun v w' => v = .tuple #[] ∧ DiskI w' D mb (gS a a.length b b.length (-1) false) ∧ KpS (TD D mb) w13 w') ?hc ?_
        case hc =>
          have h8 := Crash_calls hDw13.out 0 (by decide)
          rw [g_crash] at h8
          exact h8.mono fun e w' h => ⟨_, h.1, rfl, h.2⟩
        rintro _ w14 ⟨rfl, hD0, hK0⟩
        simp only [Act.put, List.setIfInBounds_toArray, List.set_cons_zero, List.set_cons_succ]
        have hDw14 : Hid (DiskI w14 D mb (gS a a.length b b.length (-1) false)) := hD0
        have hBw14 : Hid (Below w.heap.size w w14) := bel_kp hBw13.out hK0 hDle.out.1 hDle.out.2
        have haw14 : Hid (Rw 1 encB w14 (.slice A n c) a) := rw_kpS hDw13.out haw13.out hK0
        have hbw14 : Hid (Rw 1 encB w14 (.slice A2 m c2) b) := rw_kpS hDw13.out hbw13.out hK0
        clear hD0 hK0 hDw13 hBw13 haw13 hbw13
        refine wpList_nil ?_
        go_upto_region 11 with fail
        refine wp_region_lit ?_
        refine sl_run rfl (.pointer (some ⟨D, 0, none⟩)) w14 (by kernel_rfl) ?_
        simp only [Act.put, List.setIfInBounds_toArray, List.set_cons_zero, List.set_cons_succ]
        refine sg_call (by kernel_rfl) 22 #[.pointer (some ⟨D, 0, none⟩), .string nF] (by kernel_rfl) (R := fun v w' => ∃ u, v = .tuple #[u, .int .i64 0] ∧ Rw 1 encB w' u (a) ∧ Below w14.heap.size w14 w') ?hc ?_
        case hc =>
          have h8 := Read_calls hDw14.out nF
          rw [g_readF] at h8
          refine h8.mono fun e w' h => ?_
          obtain ⟨v, h1, h2, h3⟩ := h
          exact ⟨_, h1, v, rfl, h2, h3⟩
        rintro _ w15 ⟨uc, rfl, hr0, hb⟩
        simp only [Act.put, List.setIfInBounds_toArray, List.set_cons_zero, List.set_cons_succ]
        have hDw15 : Hid (DiskI w15 D mb (gS a a.length b b.length (-1) false)) := (hDw14.out).below hb
        have hBw15 : Hid (Below w.heap.size w w15) := (hBw14.out).trans ((hb).mono (hBw14.out).size)
        have haw15 : Hid (Rw 1 encB w15 (.slice A n c) a) := (haw14.out).below hb
        have hbw15 : Hid (Rw 1 encB w15 (.slice A2 m c2) b) := (hbw14.out).below hb
        clear hDw14 hBw14 haw14 hbw14
        have hrcw15 : Hid (Rw 1 encB w15 uc (a)) := hr0
        clear hb hr0
        refine sl_run rfl (.tuple #[uc, .int .i64 0]) w15 (by kernel_rfl) ?_
        simp only [Act.put, List.setIfInBounds_toArray, List.set_cons_zero, List.set_cons_succ]
        refine sl_run rfl (uc) w15 (by kernel_rfl) ?_
        simp only [Act.put, List.setIfInBounds_toArray, List.set_cons_zero, List.set_cons_succ]
        refine sl_run rfl (.int .i64 0) w15 (by kernel_rfl) ?_
        simp only [Act.put, List.setIfInBounds_toArray, List.set_cons_zero, List.set_cons_succ]
        refine sl_run rfl (uc) w15 (by kernel_rfl) ?_
        simp only [Act.put, List.setIfInBounds_toArray, List.set_cons_zero, List.set_cons_succ]
        refine sl_run rfl (.int .i64 0) w15 (by kernel_rfl) ?_
        simp only [Act.put, List.setIfInBounds_toArray, List.set_cons_zero, List.set_cons_succ]
        refine wpList_nil ?_
        go_upto_region 12 with fail
        refine wp_region_lit ?_
        refine sl_run rfl (.pointer (some ⟨D, 0, none⟩)) w15 (by kernel_rfl) ?_
        simp only [Act.put, List.setIfInBounds_toArray, List.set_cons_zero, List.set_cons_succ]
        refine sg_call (by kernel_rfl) 22 #[.pointer (some ⟨D, 0, none⟩), .string nG] (by kernel_rfl) (R := fun v w' => ∃ u, v = .tuple #[u, .int .i64 0] ∧ Rw 1 encB w' u (b) ∧ Below w15.heap.size w15 w') ?hc ?_
        case hc =>
          have h8 := Read_calls hDw15.out nG
          rw [g_readG] at h8
          refine h8.mono fun e w' h => ?_
          obtain ⟨v, h1, h2, h3⟩ := h
          exact ⟨_, h1, v, rfl, h2, h3⟩
        rintro _ w16 ⟨ud, rfl, hr0, hb⟩
        simp only [Act.put, List.setIfInBounds_toArray, List.set_cons_zero, List.set_cons_succ]
        have hDw16 : Hid (DiskI w16 D mb (gS a a.length b b.length (-1) false)) := (hDw15.out).below hb
        have hBw16 : Hid (Below w.heap.size w w16) := (hBw15.out).trans ((hb).mono (hBw15.out).size)
        have haw16 : Hid (Rw 1 encB w16 (.slice A n c) a) := (haw15.out).below hb
        have hbw16 : Hid (Rw 1 encB w16 (.slice A2 m c2) b) := (hbw15.out).below hb
        have hrcw16 : Hid (Rw 1 encB w16 uc (a)) := (hrcw15.out).below hb
        clear hDw15 hBw15 haw15 hbw15 hrcw15
        have hrdw16 : Hid (Rw 1 encB w16 ud (b)) := hr0
        clear hb hr0
        refine sl_run rfl (.tuple #[ud, .int .i64 0]) w16 (by kernel_rfl) ?_
        simp only [Act.put, List.setIfInBounds_toArray, List.set_cons_zero, List.set_cons_succ]
        refine sl_run rfl (ud) w16 (by kernel_rfl) ?_
        simp only [Act.put, List.setIfInBounds_toArray, List.set_cons_zero, List.set_cons_succ]
        refine sl_run rfl (.int .i64 0) w16 (by kernel_rfl) ?_
        simp only [Act.put, List.setIfInBounds_toArray, List.set_cons_zero, List.set_cons_succ]
        refine sl_run rfl (ud) w16 (by kernel_rfl) ?_
        simp only [Act.put, List.setIfInBounds_toArray, List.set_cons_zero, List.set_cons_succ]
        refine sl_run rfl (.int .i64 0) w16 (by kernel_rfl) ?_
        simp only [Act.put, List.setIfInBounds_toArray, List.set_cons_zero, List.set_cons_succ]
        refine wpList_nil ?_
        go_upto_region 13 with fail
        refine wp_region_lit ?_
        refine sl_run rfl (.int .u8 (u : Int)) w16 (by kernel_rfl) ?_
        simp only [Act.put, List.setIfInBounds_toArray, List.set_cons_zero, List.set_cons_succ]
        refine sl_run rfl (.int .u8 0) w16 ((exec_remN 5 .u8 _ _ rfl u 2 (by kernel_rfl) (by kernel_rfl) (by decide) _).trans (by rw [huE.out]; rfl)) ?_
        simp only [Act.put, List.setIfInBounds_toArray, List.set_cons_zero, List.set_cons_succ]
        refine sl_run rfl (.bool false) w16 (by kernel_rfl) ?_
        simp only [Act.put, List.setIfInBounds_toArray, List.set_cons_zero, List.set_cons_succ]
        refine wpList_nil ?_
        go_upto_region 15 with fail
        refine wp_region_lit ?_
        refine sl_run rfl (.int .i64 20) w16 (by kernel_rfl) ?_
        simp only [Act.put, List.setIfInBounds_toArray, List.set_cons_zero, List.set_cons_succ]
        refine sl_run rfl (.bool true) w16 (by kernel_rfl) ?_
        simp only [Act.put, List.setIfInBounds_toArray, List.set_cons_zero, List.set_cons_succ]
        refine sl_run rfl (.bool true) w16 (by kernel_rfl) ?_
        simp only [Act.put, List.setIfInBounds_toArray, List.set_cons_zero, List.set_cons_succ]
        refine sg_run (by kernel_rfl) (.int .i64 0) w16 (by kernel_rfl) ?_
        simp only [Act.put, List.setIfInBounds_toArray, List.set_cons_zero, List.set_cons_succ]
        refine sg_run (by kernel_rfl) (.bool true) w16 (by kernel_rfl) ?_
        simp only [Act.put, List.setIfInBounds_toArray, List.set_cons_zero, List.set_cons_succ]
        refine sl_run rfl (.bool true) w16 (by kernel_rfl) ?_
        simp only [Act.put, List.setIfInBounds_toArray, List.set_cons_zero, List.set_cons_succ]
        refine sl_run rfl (.bool true) w16 (by kernel_rfl) ?_
        simp only [Act.put, List.setIfInBounds_toArray, List.set_cons_zero, List.set_cons_succ]
        refine sg_run (by kernel_rfl) (uc) w16 (by kernel_rfl) ?_
        simp only [Act.put, List.setIfInBounds_toArray, List.set_cons_zero, List.set_cons_succ]
        refine sg_run (by kernel_rfl) (.string (strB (a))) w16 (exec_convB _ rfl (uc) (a) (by kernel_rfl) hrcw16.out) ?_
        simp only [Act.put, List.setIfInBounds_toArray, List.set_cons_zero, List.set_cons_succ]
        refine sg_run (by kernel_rfl) (.slice A n c) w16 (by kernel_rfl) ?_
        simp only [Act.put, List.setIfInBounds_toArray, List.set_cons_zero, List.set_cons_succ]
        refine sg_run (by kernel_rfl) (.string (strB (a))) w16 (exec_convB _ rfl (.slice A n c) (a) (by kernel_rfl) haw16.out) ?_
        simp only [Act.put, List.setIfInBounds_toArray, List.set_cons_zero, List.set_cons_succ]
        refine sg_run (by kernel_rfl) (.bool true) w16 (exec_eqlS _ _ rfl (strB a) (by kernel_rfl) (by kernel_rfl) _) ?_
        simp only [Act.put, List.setIfInBounds_toArray, List.set_cons_zero, List.set_cons_succ]
        refine sl_run rfl (.bool true) w16 (by kernel_rfl) ?_
        simp only [Act.put, List.setIfInBounds_toArray, List.set_cons_zero, List.set_cons_succ]
        refine sl_run rfl (.bool true) w16 (by kernel_rfl) ?_
        simp only [Act.put, List.setIfInBounds_toArray, List.set_cons_zero, List.set_cons_succ]
        refine sg_run (by kernel_rfl) (.int .i64 0) w16 (by kernel_rfl) ?_
        simp only [Act.put, List.setIfInBounds_toArray, List.set_cons_zero, List.set_cons_succ]
        refine sg_run (by kernel_rfl) (.bool true) w16 (by kernel_rfl) ?_
        simp only [Act.put, List.setIfInBounds_toArray, List.set_cons_zero, List.set_cons_succ]
        refine sl_run rfl (.bool true) w16 (by kernel_rfl) ?_
        simp only [Act.put, List.setIfInBounds_toArray, List.set_cons_zero, List.set_cons_succ]
        refine sl_run rfl (.bool true) w16 (by kernel_rfl) ?_
        simp only [Act.put, List.setIfInBounds_toArray, List.set_cons_zero, List.set_cons_succ]
        refine wpList_nil ?_
        have hF := hBw16
        clear hDw16 haw16 hbw16 hrcw16 hrdw16
        clear hDle 
        go_wp2_with fail
        go_ret
        exact ⟨rfl, hF.out⟩
end Go.Proofs.Ytmdfgndjphhgnaa
