/-
  The law WalNil holds: for every input it answers true, and what came in reads as it did. No condition.
-/
import Derived.Test.YtdkaaieenbmihaaMgH
import Derived.Test.YtdkaaieenbmihaaRows
import Derived.Test.YtdkaaieenbmihaaMgI
import Derived.WalkKit
import Derived.ProofKit
import Derived.OpenShut
import Derived.ShutString
import Derived.ChangeOld
import Derived.Below
set_option linter.unusedVariables false
set_option linter.unusedSimpArgs false
namespace Go.Proofs.Ytdkaaieenbmihaa
open Go.RowKit
open Sha (vals Bytes Lies bytesC sumB)
open Go.Proofs.Ytdkaaieenbmihaa.Pure (nameB)
set_option maxRecDepth 100000 in
theorem Read_nil (s : ByteArray) (w : World) : Calls Try.prog 20 #[.pointer none, .string s] w fun e w' => e = .returned (.tuple #[.slice none 0 0, .int .i64 20]) ∧ Below w.heap.size w w' := by
  have hBw : Hid (Below w.heap.size w w) := Below.refl _ _
  go_enter Try.func20, Try.ntmps20
  go_upto_region 1 with fail
  refine wp_region_lit ?_
  refine sl_run rfl (.pointer none) w (by kernel_rfl) ?_
  simp only [Act.put, fl1, fl2, fl3]
  refine sl_run rfl (.string s) w (by kernel_rfl) ?_
  simp only [Act.put, fl1, fl2, fl3]
  refine sg_call (by kernel_rfl) 46 #[.pointer none, .string s] (by kernel_rfl) (R := fun v w' => v = .tuple #[.agg #[.slice none 0 0, .int .i64 0], .int .i64 20] ∧ Below w.heap.size w w') ((find_nil s w).mono fun e w' h => ⟨_, h.1, rfl, h.2⟩) ?_
  rintro _ W2 ⟨rfl, hb⟩
  simp only [Act.put, fl1, fl2, fl3]
  have hBW2 : Hid (Below w.heap.size w W2) := (hBw.out).trans ((hb).mono (hBw.out).size)
  clear hBw
  clear hb
  refine sl_run rfl (.tuple #[.agg #[.slice none 0 0, .int .i64 0], .int .i64 20]) W2 (by kernel_rfl) ?_
  simp only [Act.put, fl1, fl2, fl3]
  refine sl_run rfl (.agg #[.slice none 0 0, .int .i64 0]) W2 (by kernel_rfl) ?_
  simp only [Act.put, fl1, fl2, fl3]
  refine sl_run rfl (.int .i64 20) W2 (by kernel_rfl) ?_
  simp only [Act.put, fl1, fl2, fl3]
  refine sg_run (by kernel_rfl) (.pointer (some ⟨W2.heap.size, 0, none⟩)) (W2.alloc (.cells #[.slice none 0 0, .int .i64 0] 77)) (by kernel_rfl) ?_
  simp only [Act.put, fl1, fl2, fl3]
  refine sl_skipped (by kernel_rfl) ((W2.alloc (.cells #[.slice none 0 0, .int .i64 0] 77)).setRow W2.heap.size #[.slice none 0 0, .int .i64 0]) ?he ?_
  case he => exact exec_store_f _ _ rfl W2.heap.size (by kernel_rfl) (.slice none 0 0) 0 rfl (by kernel_rfl) #[.slice none 0 0, .int .i64 0] (heap_alloc_new _ _) rfl
  simp only [Act.put, fl1, fl2, fl3]
  have hb : Below W2.heap.size W2 ((W2.alloc (.cells #[.slice none 0 0, .int .i64 0] 77)).setRow W2.heap.size #[.slice none 0 0, .int .i64 0]) := below_setRow ((Below.refl _ _).alloc (Nat.le_refl _) _) (Nat.le_refl _) _
  generalize ((W2.alloc (.cells #[.slice none 0 0, .int .i64 0] 77)).setRow W2.heap.size #[.slice none 0 0, .int .i64 0]) = W3 at hb ⊢
  generalize W2.heap.size = F
  have hBW3 : Hid (Below w.heap.size w W3) := (hBW2.out).trans ((hb).mono (hBW2.out).size)
  clear hBW2
  clear hb
  refine sl_run rfl (.int .i64 20) W3 (by kernel_rfl) ?_
  simp only [Act.put, fl1, fl2, fl3]
  refine wpList_nil ?_
  have hF := hBW3
  clear hBW3
  go_wp2_with fail
  go_ret2
  exact ⟨rfl, hF.out⟩
set_option maxRecDepth 100000 in
theorem read_nil (s : ByteArray) (w : World) : Calls Try.prog 33 #[.pointer none, .string s] w fun e w' => e = .returned (.tuple #[.slice none 0 0, .bool false, .int .i64 20]) ∧ Below w.heap.size w w' := by
  have hBw : Hid (Below w.heap.size w w) := Below.refl _ _
  go_enter Try.func33, Try.ntmps33
  go_upto_region 1 with fail
  refine wp_region_lit ?_
  refine sl_run rfl (.pointer none) w (by kernel_rfl) ?_
  simp only [Act.put, fl1, fl2, fl3]
  refine sl_run rfl (.string s) w (by kernel_rfl) ?_
  simp only [Act.put, fl1, fl2, fl3]
  refine sg_call (by kernel_rfl) 20 #[.pointer none, .string s] (by kernel_rfl) (R := fun v w' => v = .tuple #[.slice none 0 0, .int .i64 20] ∧ Below w.heap.size w w') ?hlc1 ?_
  case hlc1 =>
    have h8 := Read_nil s w
    exact h8.mono fun e w' h => ⟨_, h.1, rfl, h.2⟩
  rintro _ w1 ⟨rfl, hb⟩
  simp only [Act.put, fl1, fl2, fl3]
  have hBw1 : Hid (Below w.heap.size w w1) := (hBw.out).trans ((hb).mono (hBw.out).size)
  clear hBw
  clear hb
  refine sl_run rfl (.tuple #[.slice none 0 0, .int .i64 20]) w1 (by kernel_rfl) ?_
  simp only [Act.put, fl1, fl2, fl3]
  refine sl_run rfl (.slice none 0 0) w1 (by kernel_rfl) ?_
  simp only [Act.put, fl1, fl2, fl3]
  refine sl_run rfl (.int .i64 20) w1 (by kernel_rfl) ?_
  simp only [Act.put, fl1, fl2, fl3]
  refine sl_run rfl (.slice none 0 0) w1 (by kernel_rfl) ?_
  simp only [Act.put, fl1, fl2, fl3]
  refine sl_run rfl (.int .i64 20) w1 (by kernel_rfl) ?_
  simp only [Act.put, fl1, fl2, fl3]
  refine wpList_nil ?_
  go_upto_region 2 with fail
  refine wp_region_lit ?_
  refine sl_run rfl (.int .i64 20) w1 (by kernel_rfl) ?_
  simp only [Act.put, fl1, fl2, fl3]
  refine sl_run rfl (.bool false) w1 (by kernel_rfl) ?_
  simp only [Act.put, fl1, fl2, fl3]
  refine wpList_nil ?_
  go_upto_region 4 with fail
  refine wp_region_lit ?_
  refine sl_run rfl (.slice none 0 0) w1 (by kernel_rfl) ?_
  simp only [Act.put, fl1, fl2, fl3]
  refine sl_run rfl (.int .i64 20) w1 (by kernel_rfl) ?_
  simp only [Act.put, fl1, fl2, fl3]
  refine sl_run rfl (.bool false) w1 (by kernel_rfl) ?_
  simp only [Act.put, fl1, fl2, fl3]
  refine sl_run rfl (.int .i64 20) w1 (by kernel_rfl) ?_
  simp only [Act.put, fl1, fl2, fl3]
  refine sl_run rfl (.slice none 0 0) w1 (by kernel_rfl) ?_
  simp only [Act.put, fl1, fl2, fl3]
  refine sl_run rfl (.bool false) w1 (by kernel_rfl) ?_
  simp only [Act.put, fl1, fl2, fl3]
  refine sl_run rfl (.int .i64 20) w1 (by kernel_rfl) ?_
  simp only [Act.put, fl1, fl2, fl3]
  refine wpList_nil ?_
  have hF := hBw1
  clear hBw1
  go_wp2_with fail
  go_ret3
  exact ⟨rfl, hF.out⟩
set_option maxRecDepth 100000 in
theorem Open_nil (w : World) : Calls Try.prog 16 #[.pointer none] w fun e w' => e = .returned (.tuple #[.pointer none, .int .i64 20]) ∧ Below w.heap.size w w' := by
  have hBw : Hid (Below w.heap.size w w) := Below.refl _ _
  go_enter Try.func16, Try.ntmps16
  go_upto_region 1 with fail
  refine wp_region_lit ?_
  refine sl_run rfl (.pointer none) w (by kernel_rfl) ?_
  simp only [Act.put, fl1, fl2, fl3]
  refine sg_call (by kernel_rfl) 33 #[.pointer none, .string nNext] (by kernel_rfl) (R := fun v w' => v = .tuple #[.slice none 0 0, .bool false, .int .i64 20] ∧ Below w.heap.size w w') ?hlc2 ?_
  case hlc2 =>
    have h8 := read_nil nNext w
    exact h8.mono fun e w' h => ⟨_, h.1, rfl, h.2⟩
  rintro _ w1 ⟨rfl, hb⟩
  simp only [Act.put, fl1, fl2, fl3]
  have hBw1 : Hid (Below w.heap.size w w1) := (hBw.out).trans ((hb).mono (hBw.out).size)
  clear hBw
  clear hb
  refine sl_run rfl (.tuple #[.slice none 0 0, .bool false, .int .i64 20]) w1 (by kernel_rfl) ?_
  simp only [Act.put, fl1, fl2, fl3]
  refine sl_run rfl (.slice none 0 0) w1 (by kernel_rfl) ?_
  simp only [Act.put, fl1, fl2, fl3]
  refine sl_run rfl (.bool false) w1 (by kernel_rfl) ?_
  simp only [Act.put, fl1, fl2, fl3]
  refine sl_run rfl (.int .i64 20) w1 (by kernel_rfl) ?_
  simp only [Act.put, fl1, fl2, fl3]
  refine sl_run rfl (.slice none 0 0) w1 (by kernel_rfl) ?_
  simp only [Act.put, fl1, fl2, fl3]
  refine sl_run rfl (.bool false) w1 (by kernel_rfl) ?_
  simp only [Act.put, fl1, fl2, fl3]
  refine sl_run rfl (.int .i64 20) w1 (by kernel_rfl) ?_
  simp only [Act.put, fl1, fl2, fl3]
  refine wpList_nil ?_
  go_upto_region 2 with fail
  refine wp_region_lit ?_
  refine sl_run rfl (.int .i64 20) w1 (by kernel_rfl) ?_
  simp only [Act.put, fl1, fl2, fl3]
  refine sl_run rfl (.bool false) w1 (by kernel_rfl) ?_
  simp only [Act.put, fl1, fl2, fl3]
  refine sl_run rfl (.bool false) w1 (by kernel_rfl) ?_
  simp only [Act.put, fl1, fl2, fl3]
  rw [wpList, if_neg (by rw [show Region.wanted _ _ = false by kernel_rfl]; decide)]
  simp only [Act.put, fl1, fl2, fl3]
  refine sl_run rfl (.bool false) w1 (by kernel_rfl) ?_
  simp only [Act.put, fl1, fl2, fl3]
  refine wpList_nil ?_
  go_upto_region 4 with fail
  refine wp_region_lit ?_
  refine sl_run rfl (.int .i64 20) w1 (by kernel_rfl) ?_
  simp only [Act.put, fl1, fl2, fl3]
  refine sl_run rfl (.bool true) w1 (by kernel_rfl) ?_
  simp only [Act.put, fl1, fl2, fl3]
  refine wpList_nil ?_
  have hF := hBw1
  clear hBw1
  go_wp2_with fail
  go_ret2
  exact ⟨rfl, hF.out⟩
set_option maxRecDepth 100000 in
theorem LAppend_nil (v : Value) (w : World) : Calls Try.prog 17 #[.pointer none, v] w fun e w' => e = .returned (.int .i64 20) ∧ Below w.heap.size w w' := by
  have hBw : Hid (Below w.heap.size w w) := Below.refl _ _
  go_enter Try.func17, Try.ntmps17
  go_upto_region 1 with fail
  generalize hX : World.alloc _ _ = w1
  have hb : Below w.heap.size w w1 := by rw [← hX]; exact (Below.refl _ _).alloc (Nat.le_refl _) _
  obtain ⟨Bl, hBe⟩ : ∃ Bl, Bl = w.heap.size := ⟨_, rfl⟩
  have hb9 : bx w1 Bl (.pointer none) 41 := by rw [← hX, hBe]; exact heap_alloc_new _ _
  rw [← hBe]
  clear hX hBe
  have hBw1 : Hid (Below w.heap.size w w1) := (hBw.out).trans ((hb).mono (hBw.out).size)
  clear hBw
  have hlw1 : Hid (bx w1 Bl (.pointer none) 41) := hb9
  clear hb9 hb
  go_upto_region 1 with fail
  refine wp_region_lit ?_
  refine sl_run rfl (.pointer none) w1 (exec_load_cell 41 w1 _ rfl ⟨Bl, 0, none⟩ (by kernel_rfl) _ (hlw1.out.cell) (fun _ => by kernel_rfl)) ?_
  simp only [Act.put, fl1, fl2, fl3]
  refine sl_run rfl (.bool true) w1 (by kernel_rfl) ?_
  simp only [Act.put, fl1, fl2, fl3]
  refine sl_run rfl (.bool true) w1 (by kernel_rfl) ?_
  simp only [Act.put, fl1, fl2, fl3]
  rw [wpList, if_neg (by rw [show Region.wanted _ _ = false by kernel_rfl]; decide)]
  simp only [Act.put, fl1, fl2, fl3]
  rw [wpList, if_neg (by rw [show Region.wanted _ _ = false by kernel_rfl]; decide)]
  simp only [Act.put, fl1, fl2, fl3]
  rw [wpList, if_neg (by rw [show Region.wanted _ _ = false by kernel_rfl]; decide)]
  simp only [Act.put, fl1, fl2, fl3]
  rw [wpList, if_neg (by rw [show Region.wanted _ _ = false by kernel_rfl]; decide)]
  simp only [Act.put, fl1, fl2, fl3]
  refine sl_run rfl (.bool true) w1 (by kernel_rfl) ?_
  simp only [Act.put, fl1, fl2, fl3]
  refine wpList_nil ?_
  have hF := hBw1
  clear hBw1 hlw1
  go_wp2_with fail
  go_ret
  exact ⟨rfl, hF.out⟩
set_option maxRecDepth 100000 in
theorem LCheck_nil (w : World) : Calls Try.prog 18 #[.pointer none] w fun e w' => e = .returned (.int .i64 20) ∧ Below w.heap.size w w' := by
  have hBw : Hid (Below w.heap.size w w) := Below.refl _ _
  go_enter Try.func18, Try.ntmps18
  go_upto_region 1 with fail
  generalize hX : World.alloc _ _ = w1
  have hb : Below w.heap.size w w1 := by rw [← hX]; exact (Below.refl _ _).alloc (Nat.le_refl _) _
  obtain ⟨Bl, hBe⟩ : ∃ Bl, Bl = w.heap.size := ⟨_, rfl⟩
  have hb9 : bx w1 Bl (.pointer none) 41 := by rw [← hX, hBe]; exact heap_alloc_new _ _
  rw [← hBe]
  clear hX hBe
  have hBw1 : Hid (Below w.heap.size w w1) := (hBw.out).trans ((hb).mono (hBw.out).size)
  clear hBw
  have hlw1 : Hid (bx w1 Bl (.pointer none) 41) := hb9
  clear hb9 hb
  go_upto_region 1 with fail
  refine wp_region_lit ?_
  refine sl_run rfl (.pointer none) w1 (exec_load_cell 41 w1 _ rfl ⟨Bl, 0, none⟩ (by kernel_rfl) _ (hlw1.out.cell) (fun _ => by kernel_rfl)) ?_
  simp only [Act.put, fl1, fl2, fl3]
  refine sl_run rfl (.bool true) w1 (by kernel_rfl) ?_
  simp only [Act.put, fl1, fl2, fl3]
  refine sl_run rfl (.bool true) w1 (by kernel_rfl) ?_
  simp only [Act.put, fl1, fl2, fl3]
  rw [wpList, if_neg (by rw [show Region.wanted _ _ = false by kernel_rfl]; decide)]
  simp only [Act.put, fl1, fl2, fl3]
  rw [wpList, if_neg (by rw [show Region.wanted _ _ = false by kernel_rfl]; decide)]
  simp only [Act.put, fl1, fl2, fl3]
  rw [wpList, if_neg (by rw [show Region.wanted _ _ = false by kernel_rfl]; decide)]
  simp only [Act.put, fl1, fl2, fl3]
  rw [wpList, if_neg (by rw [show Region.wanted _ _ = false by kernel_rfl]; decide)]
  simp only [Act.put, fl1, fl2, fl3]
  refine sl_run rfl (.bool true) w1 (by kernel_rfl) ?_
  simp only [Act.put, fl1, fl2, fl3]
  refine wpList_nil ?_
  have hF := hBw1
  clear hBw1 hlw1
  go_wp2_with fail
  go_ret
  exact ⟨rfl, hF.out⟩
set_option maxRecDepth 100000 in
theorem WalNil_calls (v : Value) (w : World) : Calls Try.prog 7 #[v] w fun e w' => e = .returned (.bool true) ∧ Below w.heap.size w w' := by
  have hBw : Hid (Below w.heap.size w w) := Below.refl _ _
  go_enter Try.func7, Try.ntmps7
  go_upto_region 1 with fail
  refine wp_region_lit ?_
  refine sg_call (by kernel_rfl) 9 #[] (by kernel_rfl) (R := fun v w' => v = .bool true ∧ Below w.heap.size w w') ?hlc3 ?_
  case hlc3 =>
    have h8 := fixed_calls w
    exact h8.mono fun e w' h => ⟨_, h.1, rfl, h.2⟩
  rintro _ w1 ⟨rfl, hb⟩
  simp only [Act.put, fl1, fl2, fl3]
  have hBw1 : Hid (Below w.heap.size w w1) := (hBw.out).trans ((hb).mono (hBw.out).size)
  clear hBw
  clear hb
  refine sl_run rfl (.bool false) w1 (by kernel_rfl) ?_
  simp only [Act.put, fl1, fl2, fl3]
  refine wpList_nil ?_
  go_upto_region 3 with fail
  refine wp_region_lit ?_
  refine sl_run rfl (.pointer none) w1 (by kernel_rfl) ?_
  simp only [Act.put, fl1, fl2, fl3]
  refine wpList_nil ?_
  go_upto_region 4 with fail
  refine wp_region_lit ?_
  refine sg_call (by kernel_rfl) 16 #[.pointer none] (by kernel_rfl) (R := fun v w' => v = .tuple #[.pointer none, .int .i64 20] ∧ Below w1.heap.size w1 w') ?hlc4 ?_
  case hlc4 =>
    have h8 := Open_nil w1
    exact h8.mono fun e w' h => ⟨_, h.1, rfl, h.2⟩
  rintro _ w2 ⟨rfl, hb⟩
  simp only [Act.put, fl1, fl2, fl3]
  have hBw2 : Hid (Below w.heap.size w w2) := (hBw1.out).trans ((hb).mono (hBw1.out).size)
  clear hBw1
  clear hb
  refine sl_run rfl (.tuple #[.pointer none, .int .i64 20]) w2 (by kernel_rfl) ?_
  simp only [Act.put, fl1, fl2, fl3]
  refine sl_run rfl (.pointer none) w2 (by kernel_rfl) ?_
  simp only [Act.put, fl1, fl2, fl3]
  refine sl_run rfl (.int .i64 20) w2 (by kernel_rfl) ?_
  simp only [Act.put, fl1, fl2, fl3]
  refine sl_run rfl (.pointer none) w2 (by kernel_rfl) ?_
  simp only [Act.put, fl1, fl2, fl3]
  refine sl_run rfl (.int .i64 20) w2 (by kernel_rfl) ?_
  simp only [Act.put, fl1, fl2, fl3]
  refine wpList_nil ?_
  go_upto_region 5 with fail
  refine wp_region_lit ?_
  refine sl_run rfl (.pointer none) w2 (by kernel_rfl) ?_
  simp only [Act.put, fl1, fl2, fl3]
  refine sl_run rfl (.bool true) w2 (by kernel_rfl) ?_
  simp only [Act.put, fl1, fl2, fl3]
  refine sl_run rfl (.bool true) w2 (by kernel_rfl) ?_
  simp only [Act.put, fl1, fl2, fl3]
  refine sg_run (by kernel_rfl) (.int .i64 20) w2 (by kernel_rfl) ?_
  simp only [Act.put, fl1, fl2, fl3]
  refine sg_run (by kernel_rfl) (.bool true) w2 (by kernel_rfl) ?_
  simp only [Act.put, fl1, fl2, fl3]
  refine sl_run rfl (.bool true) w2 (by kernel_rfl) ?_
  simp only [Act.put, fl1, fl2, fl3]
  refine sl_run rfl (.bool true) w2 (by kernel_rfl) ?_
  simp only [Act.put, fl1, fl2, fl3]
  refine sg_run (by kernel_rfl) (.pointer none) w2 (by kernel_rfl) ?_
  simp only [Act.put, fl1, fl2, fl3]
  refine sg_run (by kernel_rfl) (v) w2 (by kernel_rfl) ?_
  simp only [Act.put, fl1, fl2, fl3]
  refine sg_call (by kernel_rfl) 17 #[.pointer none, v] (by kernel_rfl) (R := fun v w' => v = .int .i64 20 ∧ Below w2.heap.size w2 w') ?hlc5 ?_
  case hlc5 =>
    have h8 := LAppend_nil v w2
    exact h8.mono fun e w' h => ⟨_, h.1, rfl, h.2⟩
  rintro _ w3 ⟨rfl, hb⟩
  simp only [Act.put, fl1, fl2, fl3]
  have hBw3 : Hid (Below w.heap.size w w3) := (hBw2.out).trans ((hb).mono (hBw2.out).size)
  clear hBw2
  clear hb
  refine sg_run (by kernel_rfl) (.bool true) w3 (by kernel_rfl) ?_
  simp only [Act.put, fl1, fl2, fl3]
  refine sl_run rfl (.bool true) w3 (by kernel_rfl) ?_
  simp only [Act.put, fl1, fl2, fl3]
  refine sl_run rfl (.bool true) w3 (by kernel_rfl) ?_
  simp only [Act.put, fl1, fl2, fl3]
  refine sg_run (by kernel_rfl) (.pointer none) w3 (by kernel_rfl) ?_
  simp only [Act.put, fl1, fl2, fl3]
  refine sg_call (by kernel_rfl) 18 #[.pointer none] (by kernel_rfl) (R := fun v w' => v = .int .i64 20 ∧ Below w3.heap.size w3 w') ?hlc6 ?_
  case hlc6 =>
    have h8 := LCheck_nil w3
    exact h8.mono fun e w' h => ⟨_, h.1, rfl, h.2⟩
  rintro _ w4 ⟨rfl, hb⟩
  simp only [Act.put, fl1, fl2, fl3]
  have hBw4 : Hid (Below w.heap.size w w4) := (hBw3.out).trans ((hb).mono (hBw3.out).size)
  clear hBw3
  clear hb
  refine sg_run (by kernel_rfl) (.bool true) w4 (by kernel_rfl) ?_
  simp only [Act.put, fl1, fl2, fl3]
  refine sl_run rfl (.bool true) w4 (by kernel_rfl) ?_
  simp only [Act.put, fl1, fl2, fl3]
  refine sl_run rfl (.bool true) w4 (by kernel_rfl) ?_
  simp only [Act.put, fl1, fl2, fl3]
  refine sg_run (by kernel_rfl) (.pointer none) w4 (by kernel_rfl) ?_
  simp only [Act.put, fl1, fl2, fl3]
  refine sg_call (by kernel_rfl) 22 #[.pointer none] (by kernel_rfl) (R := fun v w' => v = .int .i64 0 ∧ w4 = w') ?hlc7 ?_
  case hlc7 =>
    have h8 := Len_nil w4
    exact h8.mono fun e w' h => ⟨_, h.1, rfl, h.2⟩
  rintro _ _ ⟨rfl, rfl⟩
  simp only [Act.put, fl1, fl2, fl3]
  refine sg_run (by kernel_rfl) (.bool true) w4 (by kernel_rfl) ?_
  simp only [Act.put, fl1, fl2, fl3]
  refine sl_run rfl (.bool true) w4 (by kernel_rfl) ?_
  simp only [Act.put, fl1, fl2, fl3]
  refine sl_run rfl (.bool true) w4 (by kernel_rfl) ?_
  simp only [Act.put, fl1, fl2, fl3]
  refine sg_run (by kernel_rfl) (.pointer none) w4 (by kernel_rfl) ?_
  simp only [Act.put, fl1, fl2, fl3]
  refine sg_call (by kernel_rfl) 19 #[.pointer none] (by kernel_rfl) (R := fun v w' => v = .slice none 0 0 ∧ w4 = w') ?hlc8 ?_
  case hlc8 =>
    have h8 := All_nil w4
    exact h8.mono fun e w' h => ⟨_, h.1, rfl, h.2⟩
  rintro _ _ ⟨rfl, rfl⟩
  simp only [Act.put, fl1, fl2, fl3]
  refine sg_run (by kernel_rfl) (.int .i64 0) w4 (by kernel_rfl) ?_
  simp only [Act.put, fl1, fl2, fl3]
  refine sg_run (by kernel_rfl) (.bool true) w4 (by kernel_rfl) ?_
  simp only [Act.put, fl1, fl2, fl3]
  refine sl_run rfl (.bool true) w4 (by kernel_rfl) ?_
  simp only [Act.put, fl1, fl2, fl3]
  refine sl_run rfl (.bool true) w4 (by kernel_rfl) ?_
  simp only [Act.put, fl1, fl2, fl3]
  refine wpList_nil ?_
  have hF := hBw4
  clear hBw4
  go_wp2_with fail
  go_ret
  exact ⟨rfl, hF.out⟩
end Go.Proofs.Ytdkaaieenbmihaa
namespace Go.Proofs.Ytdkaaieenbmihaa.walNil
open Go.ChangeShapes Go.WideShapes Go.ChangeAt Go.RowKit

theorem own : ownKnob Try.prog.godebug = none := by kernel_rfl
theorem laidOut : laidOutB Try.prog = true := by kernel_rfl
set_option maxRecDepth 100000 in
theorem lifted (os : Os) (started : os.Started) (H : Type) (enc : TypeId × Value → H) :
    ReturnsInHanded {} Try.checked os 7 .any (Rows.walNilSpec.pre6 enc Try.prog Try.f7 Rows.walNilRow.domain false) (Rows.walNilSpec.post enc Try.prog Try.f7 false true false false) := by
  refine returnsInHanded_of_change (C := Try.checked) own started (by kernel_rfl) Try.func7
    (ChangeSpec.witness6 (enc := enc) (C := Try.checked) false ⟨#[], #[.slice none 0 0], []⟩ 8 (by kernel_rfl) (by kernel_rfl) (by kernel_rfl) (by kernel_rfl)) ?_
  intro W base args ds gs before hval0 hW hcnd _
  have hval : ∀ (j : Nat) t v, Try.f7.params[j]? = some t → args[j]? = some v → Value.okWide Try.prog W .any base t v := hval0
  have hW' := hW
  obtain ⟨p, q, hA0, hV, rfl, hfz, hnd⟩ := hW
  have hA : DataW.TrodAll enc Try.prog W 0 (fun _ => true) true Try.f7.params.toList args.toList ds p := hA0
  rw [Try.params7] at hA hval
  obtain ⟨v0, vs0, d0, ds0, p0, q0, hargs, rfl, rfl, h0, r0⟩ := trodAll_cons hA
  obtain ⟨rfl, rfl, rfl⟩ := trodAll_nil r0
  obtain rfl : args = #[v0] := by cases args; simp_all
  obtain ⟨rfl, rfl⟩ := trodVars_none hV
  have k0 := h0
  have lt0 : ∀ x ∈ p0, x.block < W.heap.size := by obtain ⟨m, hm⟩ := k0; exact DataW.trod_lt m _ _ _ hm
  obtain ⟨a0, n0, c0, l0, rfl, e0, y0, g0, z0⟩ := arg_bytes (hval 0 22 v0 rfl rfl) h0
  clear hA0 hval0
  refine (WalNil_calls (.slice a0 n0 c0) W).mono fun e W' ⟨he, bel⟩ => ?_
  subst he
  exact ⟨_, rfl, _, _, _, [], _, [], hW', trodAll_mk1 (shut_bool Try.underlying4 _), (trodAll_cons_mk (Below.trod laidOut (by kernel_rfl) (of_decide_eq_true (by kernel_rfl)) k0 bel lt0) trodAll_mk0), rfl, bel.frame _, fun h => by cases h⟩
theorem over : Rows.walNilRow.holds Try.pinned (OpenSpec.ofChange Rows.walNilSpec) :=
  OpenClaim.holds_of_wide 7 Try.f7 rfl rfl rfl rfl rfl rfl rfl ⟨rfl, rfl, rfl, rfl, rfl⟩ rfl rfl rfl rfl rfl (by kernel_rfl) Try.func7 (by kernel_rfl)
    (of_decide_eq_true (by kernel_rfl)) (by unfold Func.isWrapper; first | (rw [if_pos (by decide +kernel)]; kernel_rfl) | (rw [if_neg (by decide +kernel)]; exact ⟨rfl, rfl⟩))
    (fun os started H enc _ => lifted os started H enc)
end Go.Proofs.Ytdkaaieenbmihaa.walNil
namespace Go.Proofs.Ytdkaaieenbmihaa
/-- The statement. -/
theorem walNil_holds : Rows.WalNilSaid := walNil.over
#print axioms walNil_holds
end Go.Proofs.Ytdkaaieenbmihaa
