/-
  DiskFull, walked.
-/
import Derived.Test.YtmdfgndjphhgnaaDiLaw1
namespace Go.Proofs.Ytmdfgndjphhgnaa
open Go.RowKit
set_option linter.unusedVariables false
set_option linter.unusedSimpArgs false
open Go.Proofs.Ytmdfgndjphhgnaa.Pure (nameB)
def fN (i : Nat) : ByteArray := nF ++ strB [48 + i]
def fullS (i : Nat) : DS := ⟨(List.range i).map fun j => ⟨fN j, [1], 0⟩, -1, false⟩
def F2 (j : Nat) : DS := ((fullS 8).app nameB (fN j) [2]).1
def F3 (j : Nat) : DS := ((F2 j).ren nameB (fN j) nG).1
def F5 (j : Nat) : DS := ((F3 j).ren nameB nG nG).1
def F7 (j : Nat) : DS := ((F5 j).rem nG).1
def F8 (j : Nat) : DS := ((F7 j).app nameB (fN j) []).1
theorem z0 : ∀ i, i < 8 → (fullS i).app nameB (fN i) [1] = (fullS (i + 1), 0) := by decide +kernel
theorem z1 : (fullS 8).app nameB nG [] = (fullS 8, 3) := by decide +kernel
theorem z2 : ∀ j, j < 8 → (fullS 8).app nameB (fN j) [2] = (F2 j, 0) := by decide +kernel
theorem z3 : ∀ j, j < 8 → (F2 j).ren nameB (fN j) nG = (F3 j, 0) := by decide +kernel
theorem z4 : ∀ j, j < 8 → (F3 j).app nameB (fN j) [] = (F3 j, 3) := by decide +kernel
theorem z5 : ∀ j, j < 8 → (F3 j).ren nameB nG nG = (F5 j, 0) := by decide +kernel
theorem z6 : ∀ j, j < 8 → (F5 j).off = false ∧ (F5 j).L.length = 8 := by decide +kernel
theorem z7 : ∀ j, j < 8 → (F5 j).rem nG = (F7 j, 0) := by decide +kernel
theorem z8 : ∀ j, j < 8 → (F7 j).app nameB (fN j) [] = (F8 j, 0) := by decide +kernel
set_option maxRecDepth 100000 in
set_option maxHeartbeats 2000000 in
theorem full_calls {u : Nat} {w : World} (hu : u < 256) : Calls Try.prog 8 #[.int .u8 (u : Int)] w fun e w' => e = .returned (.bool true) ∧ Below w.heap.size w w' := by
  have huH : Hid (u < 256) := hu
  clear hu
  go_enter Try.func8, Try.ntmps8
  go_upto_region 1 with fail
  refine wp_region_lit ?_
  refine sg_call (by kernel_rfl) 9 #[] (by kernel_rfl) (R := fun v w' => ∃ D mb, v = .pointer (some ⟨D, 0, none⟩) ∧ DiskI w' D mb DS.new ∧ Below w.heap.size w w' ∧ w.heap.size ≤ D ∧ w.heap.size ≤ mb) ((New_calls w).mono fun e w' h => by
    obtain ⟨D, mb, h1, h2⟩ := h
    exact ⟨_, h1, D, mb, rfl, h2⟩) ?_
  rintro _ w1 ⟨D, mb, rfl, hD0, hb, hDl, hml⟩
  have hDw1 : Hid (DiskI w1 D mb DS.new) := hD0
  have hBw1 : Hid (Below w.heap.size w w1) := hb
  have hDle : Hid (w.heap.size ≤ D ∧ w.heap.size ≤ mb) := And.intro hDl hml
  simp only [Act.put, List.setIfInBounds_toArray, List.set_cons_zero, List.set_cons_succ]
  clear hD0 hb hDl hml
  refine sl_run rfl (.pointer (some ⟨D, 0, none⟩)) w1 (by kernel_rfl) ?_
  simp only [Act.put, List.setIfInBounds_toArray, List.set_cons_zero, List.set_cons_succ]
  refine wpList_nil ?_
  go_upto_region 2 with fail
  refine wp_region_lit ?_
  refine sg_call (by kernel_rfl) 10 #[] (by kernel_rfl) (R := fun v w' => v = .bool true ∧ Below w1.heap.size w1 w') ((fixed_calls w1).mono fun e w' h => ⟨_, h.1, rfl, h.2⟩) ?_
  rintro _ w2 ⟨rfl, hb⟩
  simp only [Act.put, List.setIfInBounds_toArray, List.set_cons_zero, List.set_cons_succ]
  have hDw2 : Hid (DiskI w2 D mb DS.new) := (hDw1.out).below hb
  have hBw2 : Hid (Below w.heap.size w w2) := (hBw1.out).trans ((hb).mono (hBw1.out).size)
  clear hDw1 hBw1
  clear hb
  refine sl_run rfl (.bool false) w2 (by kernel_rfl) ?_
  simp only [Act.put, List.setIfInBounds_toArray, List.set_cons_zero, List.set_cons_succ]
  refine sl_run rfl (.bool false) w2 (by kernel_rfl) ?_
  simp only [Act.put, List.setIfInBounds_toArray, List.set_cons_zero, List.set_cons_succ]
  refine sg_run (by kernel_rfl) (.pointer (some ⟨D, 0, none⟩)) w2 (by kernel_rfl) ?_
  simp only [Act.put, List.setIfInBounds_toArray, List.set_cons_zero, List.set_cons_succ]
  refine sg_run (by kernel_rfl) (.bool false) w2 (by kernel_rfl) ?_
  simp only [Act.put, List.setIfInBounds_toArray, List.set_cons_zero, List.set_cons_succ]
  refine sl_run rfl (.bool false) w2 (by kernel_rfl) ?_
  simp only [Act.put, List.setIfInBounds_toArray, List.set_cons_zero, List.set_cons_succ]
  refine wpList_nil ?_
  go_wp2_with fail
  go_loopw [4] (fun p wr => ∃ i : Nat, i ≤ 8 ∧ p = .int .i64 (i : Int) ∧ Hid (DiskI wr D mb (fullS i)) ∧ Hid (Below w.heap.size w wr)) (fun p _ => 8 - (intOf p).toNat)
  case atStart => exact ⟨0, by omega, rfl, hDw2, hBw2⟩
  case round =>
    obtain ⟨i, hi, rfl, hDo, hBo⟩ := hrel
    clear hDw2 hBw2
    obtain ⟨wo, rfl⟩ : ∃ v : World, v = wr := ⟨_, rfl⟩
    have hDwo : Hid (DiskI wo D mb (fullS i)) := hDo
    have hBwo : Hid (Below w.heap.size w wo) := hBo
    clear hDo hBo
    by_cases h1 : i < 8
    case pos =>
      have hI : (i : Int) < 8 := by omega
      have h1H : Hid (i < 8) := h1
      clear h1
      go_upto_region 7 with fail
      refine wp_region_lit ?_
      refine sl_run rfl (.pointer (some ⟨D, 0, none⟩)) wo (by kernel_rfl) ?_
      simp only [Act.put, List.setIfInBounds_toArray, List.set_cons_zero, List.set_cons_succ]
      refine sl_run rfl (.int .i64 (i : Int)) wo (by kernel_rfl) ?_
      simp only [Act.put, List.setIfInBounds_toArray, List.set_cons_zero, List.set_cons_succ]
      refine sl_run rfl (.int .i64 ((48 + i : Nat) : Int)) wo ((exec_add2 _ _ rfl 48 (i : Int) (by kernel_rfl) (by kernel_rfl) (by omega) (by have := h1H.out; omega) _).trans (by rw [show (48 : Int) + (i : Int) = ((48 + i : Nat) : Int) by omega])) ?_
      simp only [Act.put, List.setIfInBounds_toArray, List.set_cons_zero, List.set_cons_succ]
      refine sl_run rfl (.int .u8 ((48 + i : Nat) : Int)) wo (exec_narrow _ rfl (48 + i) (by kernel_rfl) (by have := h1H.out; omega) _) ?_
      simp only [Act.put, List.setIfInBounds_toArray, List.set_cons_zero, List.set_cons_succ]
      refine sg_run (by kernel_rfl) (.slice (some ⟨wo.heap.size, 0, none⟩) 1 1) (wo.alloc (.cells #[.int .u8 ((48 + i : Nat) : Int)] 5)) (by kernel_rfl) ?_
      simp only [Act.put, List.setIfInBounds_toArray, List.set_cons_zero, List.set_cons_succ]
      have hb : Below wo.heap.size wo (wo.alloc (.cells #[.int .u8 ((48 + i : Nat) : Int)] 5)) := (Below.refl _ _).alloc (Nat.le_refl _) _
      have hy0 : Rw 1 encB (wo.alloc (.cells #[.int .u8 ((48 + i : Nat) : Int)] 5)) (.slice (some ⟨wo.heap.size, 0, none⟩) 1 1) [48 + i] := rw_new encB_size (t := 5) (fr := (0, 0)) [48 + i] (heap_alloc_new _ _)
      obtain ⟨gbw3, hgb⟩ : ∃ g, g = wo.heap.size := ⟨_, rfl⟩
      generalize (wo.alloc (.cells #[.int .u8 ((48 + i : Nat) : Int)] 5)) = w3 at hb hy0 ⊢
      have hDw3 : Hid (DiskI w3 D mb (fullS i)) := (hDwo.out).below hb
      have hBw3 : Hid (Below w.heap.size w w3) := (hBwo.out).trans ((hb).mono (hBwo.out).size)
      clear hDwo hBwo
      rw [← hgb] at hy0 ⊢
      have hnw3 : Hid (Rw 1 encB w3 (.slice (some ⟨gbw3, 0, none⟩) 1 1) [48 + i]) := hy0
      clear hb hy0 hgb
      refine sl_run rfl (.string (strB [48 + i])) w3 (exec_convB _ rfl (.slice (some ⟨gbw3, 0, none⟩) 1 1) [48 + i] (by kernel_rfl) hnw3.out) ?_
      simp only [Act.put, List.setIfInBounds_toArray, List.set_cons_zero, List.set_cons_succ]
      refine sl_run rfl (.string (fN i)) w3 (exec_addS _ _ rfl nF (strB [48 + i]) (by kernel_rfl) (by kernel_rfl) (by rw [strB_size]; exact (by decide : nF.size + 1 ≤ 1000000000)) _) ?_
      simp only [Act.put, List.setIfInBounds_toArray, List.set_cons_zero, List.set_cons_succ]
      refine sg_run (by kernel_rfl) (.slice (some ⟨w3.heap.size, 0, none⟩) 1 1) (w3.alloc (.cells #[.int .u8 1] 5)) (by kernel_rfl) ?_
      simp only [Act.put, List.setIfInBounds_toArray, List.set_cons_zero, List.set_cons_succ]
      have hb : Below w3.heap.size w3 (w3.alloc (.cells #[.int .u8 1] 5)) := (Below.refl _ _).alloc (Nat.le_refl _) _
      have hy0 : Rw 1 encB (w3.alloc (.cells #[.int .u8 1] 5)) (.slice (some ⟨w3.heap.size, 0, none⟩) 1 1) [1] := rw_new encB_size (t := 5) (fr := (0, 0)) [1] (heap_alloc_new _ _)
      obtain ⟨gbw4, hgb⟩ : ∃ g, g = w3.heap.size := ⟨_, rfl⟩
      generalize (w3.alloc (.cells #[.int .u8 1] 5)) = w4 at hb hy0 ⊢
      have hDw4 : Hid (DiskI w4 D mb (fullS i)) := (hDw3.out).below hb
      have hBw4 : Hid (Below w.heap.size w w4) := (hBw3.out).trans ((hb).mono (hBw3.out).size)
      have hnw4 : Hid (Rw 1 encB w4 (.slice (some ⟨gbw3, 0, none⟩) 1 1) [48 + i]) := (hnw3.out).below hb
      clear hDw3 hBw3 hnw3
      rw [← hgb] at hy0 ⊢
      have hcw4 : Hid (Rw 1 encB w4 (.slice (some ⟨gbw4, 0, none⟩) 1 1) [1]) := hy0
      clear hb hy0 hgb
      refine sg_call (by kernel_rfl) 12 #[.pointer (some ⟨D, 0, none⟩), .string (fN i), .slice (some ⟨gbw4, 0, none⟩) 1 1] (by kernel_rfl) (R := fun v w' => v = .int .i64 0 ∧ DiskI w' D mb (fullS (i + 1)) ∧ KpS (TD D mb) w4 w') ?hc ?_
      case hc =>
        have h8 := Append_calls hDw4.out (fN i) [1] (some ⟨gbw4, 0, none⟩) 1 1 rfl (by decide) hcw4.out
        rw [z0 i h1H.out] at h8
        exact h8.mono fun e w' h => ⟨_, h.1, rfl, h.2⟩
      rintro _ w5 ⟨rfl, hD0, hK0⟩
      simp only [Act.put, List.setIfInBounds_toArray, List.set_cons_zero, List.set_cons_succ]
      have hDw5 : Hid (DiskI w5 D mb (fullS (i + 1))) := hD0
      have hBw5 : Hid (Below w.heap.size w w5) := bel_kp hBw4.out hK0 hDle.out.1 hDle.out.2
      have hnw5 : Hid (Rw 1 encB w5 (.slice (some ⟨gbw3, 0, none⟩) 1 1) [48 + i]) := rw_kpS hDw4.out hnw4.out hK0
      have hcw5 : Hid (Rw 1 encB w5 (.slice (some ⟨gbw4, 0, none⟩) 1 1) [1]) := rw_kpS hDw4.out hcw4.out hK0
      clear hD0 hK0 hDw4 hBw4 hnw4 hcw4
      refine sl_run rfl (.bool false) w5 (by kernel_rfl) ?_
      simp only [Act.put, List.setIfInBounds_toArray, List.set_cons_zero, List.set_cons_succ]
      refine wpList_nil ?_
      have hDn := hDw5
      have hBn := hBw5
      clear hDw5 hBw5 hnw5 hcw5
      go_wp2_with fail
      refine ⟨⟨i + 1, h1H.out, by rw [show ((i : Int) + 1) = ((i + 1 : Nat) : Int) by omega], hDn, hBn⟩, ?_⟩
      have := h1H.out
      show _ < _
      simp only [intOf]
      omega
    case neg =>
      have hI : ¬ (i : Int) < 8 := by omega
      obtain rfl : i = 8 := by omega
      clear h1
      obtain ⟨j, hj⟩ : ∃ j, j = u % 8 := ⟨_, rfl⟩
      have hjH : Hid (j < 8) := by rw [hj]; exact Nat.mod_lt _ (by decide)
      have hjE : Hid (u % 8 = j) := hj.symm
      clear hj
      go_upto_region 9 with fail
      refine wp_region_lit ?_
      refine sl_run rfl (.int .u8 (u : Int)) wo (by kernel_rfl) ?_
      simp only [Act.put, List.setIfInBounds_toArray, List.set_cons_zero, List.set_cons_succ]
      refine sl_run rfl (.int .i64 (u : Int)) wo (exec_widen _ rfl u (by kernel_rfl) huH.out _) ?_
      simp only [Act.put, List.setIfInBounds_toArray, List.set_cons_zero, List.set_cons_succ]
      refine sl_run rfl (.int .i64 (j : Int)) wo ((exec_remN 3 .i64 _ _ rfl u 8 (by kernel_rfl) (by kernel_rfl) (by decide) _).trans (by rw [hjE.out])) ?_
      simp only [Act.put, List.setIfInBounds_toArray, List.set_cons_zero, List.set_cons_succ]
      refine sl_run rfl (.int .i64 ((48 + j : Nat) : Int)) wo ((exec_add2 _ _ rfl 48 (j : Int) (by kernel_rfl) (by kernel_rfl) (by omega) (by have := hjH.out; omega) _).trans (by rw [show (48 : Int) + (j : Int) = ((48 + j : Nat) : Int) by omega])) ?_
      simp only [Act.put, List.setIfInBounds_toArray, List.set_cons_zero, List.set_cons_succ]
      refine sl_run rfl (.int .u8 ((48 + j : Nat) : Int)) wo (exec_narrow _ rfl (48 + j) (by kernel_rfl) (by have := hjH.out; omega) _) ?_
      simp only [Act.put, List.setIfInBounds_toArray, List.set_cons_zero, List.set_cons_succ]
      refine sg_run (by kernel_rfl) (.slice (some ⟨wo.heap.size, 0, none⟩) 1 1) (wo.alloc (.cells #[.int .u8 ((48 + j : Nat) : Int)] 5)) (by kernel_rfl) ?_
      simp only [Act.put, List.setIfInBounds_toArray, List.set_cons_zero, List.set_cons_succ]
      have hb : Below wo.heap.size wo (wo.alloc (.cells #[.int .u8 ((48 + j : Nat) : Int)] 5)) := (Below.refl _ _).alloc (Nat.le_refl _) _
      have hy0 : Rw 1 encB (wo.alloc (.cells #[.int .u8 ((48 + j : Nat) : Int)] 5)) (.slice (some ⟨wo.heap.size, 0, none⟩) 1 1) [48 + j] := rw_new encB_size (t := 5) (fr := (0, 0)) [48 + j] (heap_alloc_new _ _)
      obtain ⟨gbw6, hgb⟩ : ∃ g, g = wo.heap.size := ⟨_, rfl⟩
      generalize (wo.alloc (.cells #[.int .u8 ((48 + j : Nat) : Int)] 5)) = w6 at hb hy0 ⊢
      have hDw6 : Hid (DiskI w6 D mb (fullS 8)) := (hDwo.out).below hb
      have hBw6 : Hid (Below w.heap.size w w6) := (hBwo.out).trans ((hb).mono (hBwo.out).size)
      clear hDwo hBwo
      rw [← hgb] at hy0 ⊢
      have hnw6 : Hid (Rw 1 encB w6 (.slice (some ⟨gbw6, 0, none⟩) 1 1) [48 + j]) := hy0
      clear hb hy0 hgb
      refine sl_run rfl (.string (strB [48 + j])) w6 (exec_convB _ rfl (.slice (some ⟨gbw6, 0, none⟩) 1 1) [48 + j] (by kernel_rfl) hnw6.out) ?_
      simp only [Act.put, List.setIfInBounds_toArray, List.set_cons_zero, List.set_cons_succ]
      refine sl_run rfl (.string (fN j)) w6 (exec_addS _ _ rfl nF (strB [48 + j]) (by kernel_rfl) (by kernel_rfl) (by rw [strB_size]; exact (by decide : nF.size + 1 ≤ 1000000000)) _) ?_
      simp only [Act.put, List.setIfInBounds_toArray, List.set_cons_zero, List.set_cons_succ]
      refine sl_run rfl (.string (fN j)) w6 (by kernel_rfl) ?_
      simp only [Act.put, List.setIfInBounds_toArray, List.set_cons_zero, List.set_cons_succ]
      refine wpList_nil ?_
      clear hnw6
      go_upto_region 10 with fail
      refine wp_region_lit ?_
      refine sl_run rfl (.pointer (some ⟨D, 0, none⟩)) w6 (by kernel_rfl) ?_
      simp only [Act.put, List.setIfInBounds_toArray, List.set_cons_zero, List.set_cons_succ]
      refine sg_call (by kernel_rfl) 12 #[.pointer (some ⟨D, 0, none⟩), .string nG, .slice none 0 0] (by kernel_rfl) (R := fun v w' => v = .int .i64 3 ∧ DiskI w' D mb (fullS 8) ∧ KpS (TD D mb) w6 w') ?hc ?_
      case hc =>
        have h8 := Append_calls hDw6.out nG [] none 0 0 rfl (by decide) (Rw.nil)
        rw [z1] at h8
        exact h8.mono fun e w' h => ⟨_, h.1, rfl, h.2⟩
      rintro _ w7 ⟨rfl, hD0, hK0⟩
      simp only [Act.put, List.setIfInBounds_toArray, List.set_cons_zero, List.set_cons_succ]
      have hDw7 : Hid (DiskI w7 D mb (fullS 8)) := hD0
      have hBw7 : Hid (Below w.heap.size w w7) := bel_kp hBw6.out hK0 hDle.out.1 hDle.out.2
      clear hD0 hK0 hDw6 hBw6
      refine sl_run rfl (.bool true) w7 (by kernel_rfl) ?_
      simp only [Act.put, List.setIfInBounds_toArray, List.set_cons_zero, List.set_cons_succ]
      refine sl_run rfl (.bool true) w7 (by kernel_rfl) ?_
      simp only [Act.put, List.setIfInBounds_toArray, List.set_cons_zero, List.set_cons_succ]
      refine sg_run (by kernel_rfl) (.pointer (some ⟨D, 0, none⟩)) w7 (by kernel_rfl) ?_
      simp only [Act.put, List.setIfInBounds_toArray, List.set_cons_zero, List.set_cons_succ]
      refine sg_run (by kernel_rfl) (.string (fN j)) w7 (by kernel_rfl) ?_
      simp only [Act.put, List.setIfInBounds_toArray, List.set_cons_zero, List.set_cons_succ]
      refine sg_run (by kernel_rfl) (.slice (some ⟨w7.heap.size, 0, none⟩) 1 1) (w7.alloc (.cells #[.int .u8 2] 5)) (by kernel_rfl) ?_
      simp only [Act.put, List.setIfInBounds_toArray, List.set_cons_zero, List.set_cons_succ]
      have hb : Below w7.heap.size w7 (w7.alloc (.cells #[.int .u8 2] 5)) := (Below.refl _ _).alloc (Nat.le_refl _) _
      have hy0 : Rw 1 encB (w7.alloc (.cells #[.int .u8 2] 5)) (.slice (some ⟨w7.heap.size, 0, none⟩) 1 1) [2] := rw_new encB_size (t := 5) (fr := (0, 0)) [2] (heap_alloc_new _ _)
      obtain ⟨gbw8, hgb⟩ : ∃ g, g = w7.heap.size := ⟨_, rfl⟩
      generalize (w7.alloc (.cells #[.int .u8 2] 5)) = w8 at hb hy0 ⊢
      have hDw8 : Hid (DiskI w8 D mb (fullS 8)) := (hDw7.out).below hb
      have hBw8 : Hid (Below w.heap.size w w8) := (hBw7.out).trans ((hb).mono (hBw7.out).size)
      clear hDw7 hBw7
      rw [← hgb] at hy0 ⊢
      have hcw8 : Hid (Rw 1 encB w8 (.slice (some ⟨gbw8, 0, none⟩) 1 1) [2]) := hy0
      clear hb hy0 hgb
      refine sg_call (by kernel_rfl) 12 #[.pointer (some ⟨D, 0, none⟩), .string (fN j), .slice (some ⟨gbw8, 0, none⟩) 1 1] (by kernel_rfl) (R := fun v w' => v = .int .i64 0 ∧ DiskI w' D mb (F2 j) ∧ KpS (TD D mb) w8 w') ?hc ?_
      case hc =>
        have h8 := Append_calls hDw8.out (fN j) [2] (some ⟨gbw8, 0, none⟩) 1 1 rfl (by decide) hcw8.out
        rw [z2 j hjH.out] at h8
        exact h8.mono fun e w' h => ⟨_, h.1, rfl, h.2⟩
      rintro _ w9 ⟨rfl, hD0, hK0⟩
      simp only [Act.put, List.setIfInBounds_toArray, List.set_cons_zero, List.set_cons_succ]
      have hDw9 : Hid (DiskI w9 D mb (F2 j)) := hD0
      have hBw9 : Hid (Below w.heap.size w w9) := bel_kp hBw8.out hK0 hDle.out.1 hDle.out.2
      have hcw9 : Hid (Rw 1 encB w9 (.slice (some ⟨gbw8, 0, none⟩) 1 1) [2]) := rw_kpS hDw8.out hcw8.out hK0
      clear hD0 hK0 hDw8 hBw8 hcw8
      refine sg_run (by kernel_rfl) (.bool true) w9 (by kernel_rfl) ?_
      simp only [Act.put, List.setIfInBounds_toArray, List.set_cons_zero, List.set_cons_succ]
      refine sl_run rfl (.bool true) w9 (by kernel_rfl) ?_
      simp only [Act.put, List.setIfInBounds_toArray, List.set_cons_zero, List.set_cons_succ]
      refine sl_run rfl (.bool true) w9 (by kernel_rfl) ?_
      simp only [Act.put, List.setIfInBounds_toArray, List.set_cons_zero, List.set_cons_succ]
      refine sg_run (by kernel_rfl) (.pointer (some ⟨D, 0, none⟩)) w9 (by kernel_rfl) ?_
      simp only [Act.put, List.setIfInBounds_toArray, List.set_cons_zero, List.set_cons_succ]
      refine sg_run (by kernel_rfl) (.string (fN j)) w9 (by kernel_rfl) ?_
      simp only [Act.put, List.setIfInBounds_toArray, List.set_cons_zero, List.set_cons_succ]
      refine sg_call (by kernel_rfl) 16 #[.pointer (some ⟨D, 0, none⟩), .string (fN j), .string nG] (by kernel_rfl) (R := fun v w' => v = .int .i64 0 ∧ DiskI w' D mb (F3 j) ∧ KpS (TD D mb) w9 w') ?hc ?_
      case hc =>
        have h8 := Rename_calls hDw9.out (fN j) nG
        rw [z3 j hjH.out] at h8
        exact h8.mono fun e w' h => ⟨_, h.1, rfl, h.2⟩
      rintro _ w10 ⟨rfl, hD0, hK0⟩
      simp only [Act.put, List.setIfInBounds_toArray, List.set_cons_zero, List.set_cons_succ]
      have hDw10 : Hid (DiskI w10 D mb (F3 j)) := hD0
      have hBw10 : Hid (Below w.heap.size w w10) := bel_kp hBw9.out hK0 hDle.out.1 hDle.out.2
      have hcw10 : Hid (Rw 1 encB w10 (.slice (some ⟨gbw8, 0, none⟩) 1 1) [2]) := rw_kpS hDw9.out hcw9.out hK0
      clear hD0 hK0 hDw9 hBw9 hcw9
      refine sg_run (by kernel_rfl) (.bool true) w10 (by kernel_rfl) ?_
      simp only [Act.put, List.setIfInBounds_toArray, List.set_cons_zero, List.set_cons_succ]
      refine sl_run rfl (.bool true) w10 (by kernel_rfl) ?_
      simp only [Act.put, List.setIfInBounds_toArray, List.set_cons_zero, List.set_cons_succ]
      refine sl_run rfl (.bool true) w10 (by kernel_rfl) ?_
      simp only [Act.put, List.setIfInBounds_toArray, List.set_cons_zero, List.set_cons_succ]
      refine sg_run (by kernel_rfl) (.pointer (some ⟨D, 0, none⟩)) w10 (by kernel_rfl) ?_
      simp only [Act.put, List.setIfInBounds_toArray, List.set_cons_zero, List.set_cons_succ]
      refine sg_run (by kernel_rfl) (.string (fN j)) w10 (by kernel_rfl) ?_
      simp only [Act.put, List.setIfInBounds_toArray, List.set_cons_zero, List.set_cons_succ]
      refine sg_call (by kernel_rfl) 12 #[.pointer (some ⟨D, 0, none⟩), .string (fN j), .slice none 0 0] (by kernel_rfl) (R := fun v w' => v = .int .i64 3 ∧ DiskI w' D mb (F3 j) ∧ KpS (TD D mb) w10 w') ?hc ?_
      case hc =>
        have h8 := Append_calls hDw10.out (fN j) [] none 0 0 rfl (by decide) (Rw.nil)
        rw [z4 j hjH.out] at h8
        exact h8.mono fun e w' h => ⟨_, h.1, rfl, h.2⟩
      rintro _ w11 ⟨rfl, hD0, hK0⟩
      simp only [Act.put, List.setIfInBounds_toArray, List.set_cons_zero, List.set_cons_succ]
      have hDw11 : Hid (DiskI w11 D mb (F3 j)) := hD0
      have hBw11 : Hid (Below w.heap.size w w11) := bel_kp hBw10.out hK0 hDle.out.1 hDle.out.2
      have hcw11 : Hid (Rw 1 encB w11 (.slice (some ⟨gbw8, 0, none⟩) 1 1) [2]) := rw_kpS hDw10.out hcw10.out hK0
      clear hD0 hK0 hDw10 hBw10 hcw10
      refine sg_run (by kernel_rfl) (.bool true) w11 (by kernel_rfl) ?_
      simp only [Act.put, List.setIfInBounds_toArray, List.set_cons_zero, List.set_cons_succ]
      refine sl_run rfl (.bool true) w11 (by kernel_rfl) ?_
      simp only [Act.put, List.setIfInBounds_toArray, List.set_cons_zero, List.set_cons_succ]
      refine sl_run rfl (.bool true) w11 (by kernel_rfl) ?_
      simp only [Act.put, List.setIfInBounds_toArray, List.set_cons_zero, List.set_cons_succ]
      refine sg_run (by kernel_rfl) (.pointer (some ⟨D, 0, none⟩)) w11 (by kernel_rfl) ?_
      simp only [Act.put, List.setIfInBounds_toArray, List.set_cons_zero, List.set_cons_succ]
      refine sg_call (by kernel_rfl) 16 #[.pointer (some ⟨D, 0, none⟩), .string nG, .string nG] (by kernel_rfl) (R := fun v w' => v = .int .i64 0 ∧ DiskI w' D mb (F5 j) ∧ KpS (TD D mb) w11 w') ?hc ?_
      case hc =>
        have h8 := Rename_calls hDw11.out nG nG
        rw [z5 j hjH.out] at h8
        exact h8.mono fun e w' h => ⟨_, h.1, rfl, h.2⟩
      rintro _ w12 ⟨rfl, hD0, hK0⟩
      simp only [Act.put, List.setIfInBounds_toArray, List.set_cons_zero, List.set_cons_succ]
      have hDw12 : Hid (DiskI w12 D mb (F5 j)) := hD0
      have hBw12 : Hid (Below w.heap.size w w12) := bel_kp hBw11.out hK0 hDle.out.1 hDle.out.2
      have hcw12 : Hid (Rw 1 encB w12 (.slice (some ⟨gbw8, 0, none⟩) 1 1) [2]) := rw_kpS hDw11.out hcw11.out hK0
      clear hD0 hK0 hDw11 hBw11 hcw11
      refine sg_run (by kernel_rfl) (.bool true) w12 (by kernel_rfl) ?_
      simp only [Act.put, List.setIfInBounds_toArray, List.set_cons_zero, List.set_cons_succ]
      refine sl_run rfl (.bool true) w12 (by kernel_rfl) ?_
      simp only [Act.put, List.setIfInBounds_toArray, List.set_cons_zero, List.set_cons_succ]
      refine sl_run rfl (.bool true) w12 (by kernel_rfl) ?_
      simp only [Act.put, List.setIfInBounds_toArray, List.set_cons_zero, List.set_cons_succ]
      refine sg_run (by kernel_rfl) (.pointer (some ⟨D, 0, none⟩)) w12 (by kernel_rfl) ?_
      simp only [Act.put, List.setIfInBounds_toArray, List.set_cons_zero, List.set_cons_succ]
      refine sg_call (by kernel_rfl) 31 #[.pointer (some ⟨D, 0, none⟩)] (by kernel_rfl) (R := fun v w' => (∃ A c, v = .slice A 8 c) ∧ Below w12.heap.size w12 w') ?hc ?_
      case hc =>
        have h7 := Files_calls hDw12.out (z6 j hjH.out).1 (by rw [(z6 j hjH.out).2]; decide)
        rw [(z6 j hjH.out).2] at h7
        refine h7.mono fun e w' h => ?_
        obtain ⟨A, c, h1, h2⟩ := h
        exact ⟨_, h1, ⟨A, c, rfl⟩, h2⟩
      rintro _ w13 ⟨⟨Af, cf, rfl⟩, hb⟩
      simp only [Act.put, List.setIfInBounds_toArray, List.set_cons_zero, List.set_cons_succ]
      have hDw13 : Hid (DiskI w13 D mb (F5 j)) := (hDw12.out).below hb
      have hBw13 : Hid (Below w.heap.size w w13) := (hBw12.out).trans ((hb).mono (hBw12.out).size)
      have hcw13 : Hid (Rw 1 encB w13 (.slice (some ⟨gbw8, 0, none⟩) 1 1) [2]) := (hcw12.out).below hb
      clear hDw12 hBw12 hcw12
      clear hb
      refine sg_run (by kernel_rfl) (.int .i64 8) w13 (by kernel_rfl) ?_
      simp only [Act.put, List.setIfInBounds_toArray, List.set_cons_zero, List.set_cons_succ]
      refine sg_run (by kernel_rfl) (.bool true) w13 (by kernel_rfl) ?_
      simp only [Act.put, List.setIfInBounds_toArray, List.set_cons_zero, List.set_cons_succ]
      refine sl_run rfl (.bool true) w13 (by kernel_rfl) ?_
      simp only [Act.put, List.setIfInBounds_toArray, List.set_cons_zero, List.set_cons_succ]
      refine sl_run rfl (.bool true) w13 (by kernel_rfl) ?_
      simp only [Act.put, List.setIfInBounds_toArray, List.set_cons_zero, List.set_cons_succ]
      refine sg_run (by kernel_rfl) (.pointer (some ⟨D, 0, none⟩)) w13 (by kernel_rfl) ?_
      simp only [Act.put, List.setIfInBounds_toArray, List.set_cons_zero, List.set_cons_succ]
      refine sg_call (by kernel_rfl) 20 #[.pointer (some ⟨D, 0, none⟩), .string nG] (by kernel_rfl) (R := fun v w' => v = .int .i64 0 ∧ DiskI w' D mb (F7 j) ∧ KpS (TD D mb) w13 w') ?hc ?_
      case hc =>
        have h8 := Remove_calls hDw13.out nG
        rw [z7 j hjH.out] at h8
        exact h8.mono fun e w' h => ⟨_, h.1, rfl, h.2⟩
      rintro _ w14 ⟨rfl, hD0, hK0⟩
      simp only [Act.put, List.setIfInBounds_toArray, List.set_cons_zero, List.set_cons_succ]
      have hDw14 : Hid (DiskI w14 D mb (F7 j)) := hD0
      have hBw14 : Hid (Below w.heap.size w w14) := bel_kp hBw13.out hK0 hDle.out.1 hDle.out.2
      have hcw14 : Hid (Rw 1 encB w14 (.slice (some ⟨gbw8, 0, none⟩) 1 1) [2]) := rw_kpS hDw13.out hcw13.out hK0
      clear hD0 hK0 hDw13 hBw13 hcw13
      refine sg_run (by kernel_rfl) (.bool true) w14 (by kernel_rfl) ?_
      simp only [Act.put, List.setIfInBounds_toArray, List.set_cons_zero, List.set_cons_succ]
      refine sl_run rfl (.bool true) w14 (by kernel_rfl) ?_
      simp only [Act.put, List.setIfInBounds_toArray, List.set_cons_zero, List.set_cons_succ]
      refine sl_run rfl (.bool true) w14 (by kernel_rfl) ?_
      simp only [Act.put, List.setIfInBounds_toArray, List.set_cons_zero, List.set_cons_succ]
      refine sg_run (by kernel_rfl) (.pointer (some ⟨D, 0, none⟩)) w14 (by kernel_rfl) ?_
      simp only [Act.put, List.setIfInBounds_toArray, List.set_cons_zero, List.set_cons_succ]
      refine sg_run (by kernel_rfl) (.string (fN j)) w14 (by kernel_rfl) ?_
      simp only [Act.put, List.setIfInBounds_toArray, List.set_cons_zero, List.set_cons_succ]
      refine sg_call (by kernel_rfl) 12 #[.pointer (some ⟨D, 0, none⟩), .string (fN j), .slice none 0 0] (by kernel_rfl) (R := fun v w' => v = .int .i64 0 ∧ DiskI w' D mb (F8 j) ∧ KpS (TD D mb) w14 w') ?hc ?_
      case hc =>
        have h8 := Append_calls hDw14.out (fN j) [] none 0 0 rfl (by decide) (Rw.nil)
        rw [z8 j hjH.out] at h8
        exact h8.mono fun e w' h => ⟨_, h.1, rfl, h.2⟩
      rintro _ w15 ⟨rfl, hD0, hK0⟩
      simp only [Act.put, List.setIfInBounds_toArray, List.set_cons_zero, List.set_cons_succ]
      have hDw15 : Hid (DiskI w15 D mb (F8 j)) := hD0
      have hBw15 : Hid (Below w.heap.size w w15) := bel_kp hBw14.out hK0 hDle.out.1 hDle.out.2
      have hcw15 : Hid (Rw 1 encB w15 (.slice (some ⟨gbw8, 0, none⟩) 1 1) [2]) := rw_kpS hDw14.out hcw14.out hK0
      clear hD0 hK0 hDw14 hBw14 hcw14
      refine sg_run (by kernel_rfl) (.bool true) w15 (by kernel_rfl) ?_
      simp only [Act.put, List.setIfInBounds_toArray, List.set_cons_zero, List.set_cons_succ]
      refine sl_run rfl (.bool true) w15 (by kernel_rfl) ?_
      simp only [Act.put, List.setIfInBounds_toArray, List.set_cons_zero, List.set_cons_succ]
      refine sl_run rfl (.bool true) w15 (by kernel_rfl) ?_
      simp only [Act.put, List.setIfInBounds_toArray, List.set_cons_zero, List.set_cons_succ]
      refine wpList_nil ?_
      have hF := hBw15
      clear hDw15 hcw15
      clear hDle 
      go_wp2_with fail
      go_ret
      exact ⟨rfl, hF.out⟩
end Go.Proofs.Ytmdfgndjphhgnaa
