/-
  SHA-256: the chapter's example.
-/
import Derived.Test.YtnaknnnobcnnfaaShaParts
import Derived.Lib.SlBytesConst
namespace Go.Proofs.Ytnaknnnobcnnfaa.Sha
open Go.RowKit
set_option linter.unusedVariables false
set_option linter.unusedSimpArgs false
set_option pp.maxSteps 50000
theorem sum_abc : sumB [97, 98, 99] = [186, 120, 22, 191, 143, 1, 207, 234, 65, 65, 64, 222, 93, 174, 34, 35, 176, 3, 97, 163, 150, 23, 122, 156, 180, 16, 255, 97, 242, 0, 21, 173] := by decide +kernel
theorem hex_abc : hexB (sumB [97, 98, 99]) 32 = ⟨#[98, 97, 55, 56, 49, 54, 98, 102, 56, 102, 48, 49, 99, 102, 101, 97, 52, 49, 52, 49, 52, 48, 100, 101, 53, 100, 97, 101, 50, 50, 50, 51, 98, 48, 48, 51, 54, 49, 97, 51, 57, 54, 49, 55, 55, 97, 57, 99, 98, 52, 49, 48, 102, 102, 54, 49, 102, 50, 48, 48, 49, 53, 97, 100]⟩ := by
  rw [sum_abc]; decide +kernel
theorem abc_lt : ∀ j, ([97, 98, 99] : List Nat).getD j 0 < 256 := getD_lt (by decide) (by decide)
/-- '[]byte(..)' of a constant: the row is marked behind its last cell. -/
theorem exec_conv {o : Oper} {a : Act} (x : Operand) (ho : o.op = .convert 22 22 x) (w : World) (l : List Nat) (n c : Nat) (hx : a.eval x = .slice (some ⟨w.heap.size, 0, none⟩) n c) :
    (execOp a.eval o).run Try.prog (w.alloc (.cells (bytesC l) 5)) = .ok (.value (.slice (some ⟨w.heap.size, 0, none⟩) n c)) (w.alloc (.cells (bytesC l) 5 (l.length, l.length + 1))) := by
  unfold execOp
  simp only [ho, hx, Sem.run_bind, Lib.run_convert_bytes_const w 22 5 (bytesC l) n c Try.underlying22 Try.underlying5, Result.andThen_ok, Sem.run_pure, bytesC_size]
theorem bytes_mark (w : World) (l : List Nat) (n : Nat) (hn : n = l.length) (fr : Nat × Nat) : Bytes (w.alloc (.cells (bytesC l) 5 fr)) (.slice (some ⟨w.heap.size, 0, none⟩) n n) l := by
  subst hn
  refine .inr ⟨_, 0, _, rfl, Nat.le_refl _, by simp, fun j hj => ?_⟩
  have hg : (w.alloc (.cells (bytesC l) 5 fr)).heap[w.heap.size]? = some (.cells (bytesC l) 5 fr) := by
    show (w.heap.push _)[w.heap.size]? = _
    simp
  rw [cell_of_row _ _ _ _ _ _ hg, Nat.zero_add, bytesC_get _ _ hj]
theorem exec_eqlS {o : Oper} {a : Act} (x y : Operand) (ho : o.op = .binOp .eql 9 x y 9) (S : ByteArray) (hx : a.eval x = .string S) (hy : a.eval y = .string S) (w : World) : (execOp a.eval o).run Try.prog w = .ok (.value (.bool true)) w := by
  unfold execOp
  simp [ho, hx, hy, eqGuard, binOp, Op.stringOp]
/-- Memory of the call's own, and a hash in it. -/
structure HSt (B : Nat) (w w' : World) (g : Nat) (v : Value) (M : List Nat) : Prop where
  holds : Holds w' B g v M
  below : Below B w w'
  hg : B ≤ g
theorem HSt.next {B g : Nat} {w w1 w2 : World} {v : Value} {M : List Nat} (h : HSt B w w1 g v M) (hb : Below w1.heap.size w1 w2) (hB : B ≤ w1.heap.size) : HSt B w w2 g v M :=
  ⟨h.holds.below hb, h.below.trans (hb.mono hB), h.hg⟩
theorem HSt.wrote {B g : Nat} {w w1 w2 : World} {v v' : Value} {M M' : List Nat} (h : HSt B w w1 g v M) (hB : B ≤ w1.heap.size) (hH : Holds w2 w1.heap.size g v' M') (hK : Kept2 w1 w2 g v.ownBlock) : HSt B w w2 g v' M' :=
  ⟨hH.mono hB, h.below.trans (hK.toBelow h.hg hB fun k hk => (h.holds.2.lt k hk).1), h.hg⟩
theorem lists_three {w : World} (a b c : Value) (x y z : List Nat) (ha : Bytes w a x) (hb : Bytes w b y) (hc : Bytes w c z) : Lists (w.alloc (.cells #[a, b, c] 22)) (.slice (some ⟨w.heap.size, 0, none⟩) 3 3) [x, y, z] := by
  refine .inr ⟨_, 0, _, rfl, Nat.le_refl _, by simp, fun i hi => ?_⟩
  rw [cell_of_row _ _ _ _ _ _ (heap_alloc_new w _), Nat.zero_add]
  match i, hi with
  | 0, _ => exact ⟨a, rfl, ha.alloc _⟩
  | 1, _ => exact ⟨b, rfl, hb.alloc _⟩
  | 2, _ => exact ⟨c, rfl, hc.alloc _⟩
set_option maxRecDepth 100000 in
set_option maxHeartbeats 1000000 in
theorem fixed_calls (w : World) : Calls Try.prog 7 #[] w fun e w' => e = .returned (.bool true) ∧ Below w.heap.size w w' := by
  obtain ⟨X, hX⟩ : ∃ X : List Nat, X = [97, 98, 99] := ⟨_, rfl⟩
  obtain ⟨X2, hX2⟩ : ∃ X : List Nat, X = [97, 98] := ⟨_, rfl⟩
  obtain ⟨X1, hX1⟩ : ∃ X : List Nat, X = [99] := ⟨_, rfl⟩
  have hXl : X.length ≤ 1000000000 := by rw [hX]; decide
  have hX2l : X2.length ≤ 1000000000 := by rw [hX2]; decide
  have hX1l : X1.length ≤ 1000000000 := by rw [hX1]; decide
  have hXb : ∀ j, X.getD j 0 < 256 := by rw [hX]; exact abc_lt
  have hX2b : ∀ j, X2.getD j 0 < 256 := by rw [hX2]; exact getD_lt (by decide) (by decide)
  have hX1b : ∀ j, X1.getD j 0 < 256 := by rw [hX1]; exact getD_lt (by decide) (by decide)
  have hX12 : X2 ++ X1 = X := by rw [hX, hX2, hX1]; rfl
  have hhex : hexB (sumB X) 32 = ⟨#[98, 97, 55, 56, 49, 54, 98, 102, 56, 102, 48, 49, 99, 102, 101, 97, 52, 49, 52, 49, 52, 48, 100, 101, 53, 100, 97, 101, 50, 50, 50, 51, 98, 48, 48, 51, 54, 49, 97, 51, 57, 54, 49, 55, 55, 97, 57, 99, 98, 52, 49, 48, 102, 102, 54, 49, 102, 50, 48, 48, 49, 53, 97, 100]⟩ := by rw [hX]; exact hex_abc
  obtain ⟨D, hD⟩ : ∃ D, D = sumB X := ⟨_, rfl⟩
  have hDl : D.length = 32 := by rw [hD]; exact sumB_length _
  have hDb : ∀ j, D.getD j 0 < 256 := by rw [hD]; exact sumB_lt _
  rw [← hD] at hhex
  go_enter Try.func7, Try.ntmps7
  go_upto_region 1 with fail
  refine wp_region_lit ?_
  refine sl_call rfl 12 #[] (by kernel_rfl) (R := fun v w' => ∃ g, v = .pointer (some ⟨g, 0, none⟩) ∧ HSt w.heap.size w w' g (.slice none 0 0) []) ((new_holds w).mono fun e w' h => by obtain ⟨g, h1, h2, h3, h4⟩ := h; exact ⟨_, h1, g, rfl, h3, h4, h2⟩) ?_
  rintro _ w1 ⟨g, rfl, hH1⟩
  refine sl_run rfl (.pointer (some ⟨g, 0, none⟩)) w1 (by kernel_rfl) ?_
  refine wpList_nil ?_
  have hs1 : w.heap.size ≤ w1.heap.size := hH1.below.size
  go_upto_region 2 with fail
  refine wp_region_lit ?_
  refine sl_run rfl (.pointer (some ⟨g, 0, none⟩)) w1 (by kernel_rfl) ?_
  refine sl_run rfl (.slice (some ⟨w1.heap.size, 0, none⟩) 2 2) (w1.alloc (.cells (bytesC [97, 98]) 5)) (by kernel_rfl) ?_
  refine sl_run rfl (.slice (some ⟨w1.heap.size, 0, none⟩) 2 2) (w1.alloc (.cells (bytesC [97, 98]) 5 (2, 3))) (exec_conv _ rfl w1 [97, 98] 2 2 (by kernel_rfl)) ?_
  have hy2 : Bytes (w1.alloc (.cells (bytesC [97, 98]) 5 (2, 3))) (.slice (some ⟨w1.heap.size, 0, none⟩) 2 2) X2 := by subst hX2; exact bytes_mark w1 [97, 98] 2 rfl _
  have hH2 := hH1.next ((Below.refl _ _).alloc (Nat.le_refl _) (.cells (bytesC [97, 98]) 5 (2, 3))) hs1
  have hs2 : w.heap.size ≤ (w1.alloc (.cells (bytesC [97, 98]) 5 (2, 3))).heap.size := hH2.below.size
  have hg2 : (Value.slice (some ⟨w1.heap.size, 0, none⟩) 2 2).ownBlock ≠ some g := fun e => by
    have := hH1.holds.lt
    simp [Value.ownBlock] at e
    omega
  generalize w1.alloc _ = w2 at hy2 hH2 hs2
  refine sl_call rfl 13 #[.pointer (some ⟨g, 0, none⟩), .slice (some ⟨w1.heap.size, 0, none⟩) 2 2] (by kernel_rfl) (R := fun _ w' => ∃ v, HSt w.heap.size w w' g v X2) ((write_holds [] X2 (by simp) hX2b (by simp) hX2l _ _ g w2 hH2.holds _ hy2 (fun _ => hg2)).mono fun e w' h => by
    obtain ⟨h1, v', h2, h3⟩ := h
    exact ⟨_, h1, v', hH2.wrote hs2 h2 h3⟩) ?_
  rintro _ w3 ⟨v3, hH3⟩
  refine wpList_nil ?_
  have hs3 : w.heap.size ≤ w3.heap.size := hH3.below.size
  go_upto_region 3 with fail
  refine wp_region_lit ?_
  refine sl_run rfl (.pointer (some ⟨g, 0, none⟩)) w3 (by kernel_rfl) ?_
  refine sl_run rfl (.slice (some ⟨w3.heap.size, 0, none⟩) 1 1) (w3.alloc (.cells (bytesC [99]) 5)) (by kernel_rfl) ?_
  refine sl_run rfl (.slice (some ⟨w3.heap.size, 0, none⟩) 1 1) (w3.alloc (.cells (bytesC [99]) 5 (1, 2))) (exec_conv _ rfl w3 [99] 1 1 (by kernel_rfl)) ?_
  have hy4 : Bytes (w3.alloc (.cells (bytesC [99]) 5 (1, 2))) (.slice (some ⟨w3.heap.size, 0, none⟩) 1 1) X1 := by subst hX1; exact bytes_mark w3 [99] 1 rfl _
  have hH4 := hH3.next ((Below.refl _ _).alloc (Nat.le_refl _) (.cells (bytesC [99]) 5 (1, 2))) hs3
  have hs4 : w.heap.size ≤ (w3.alloc (.cells (bytesC [99]) 5 (1, 2))).heap.size := hH4.below.size
  have hg4 : (Value.slice (some ⟨w3.heap.size, 0, none⟩) 1 1).ownBlock ≠ some g := fun e => by
    have := hH3.holds.lt
    simp [Value.ownBlock] at e
    omega
  generalize w3.alloc _ = w4 at hy4 hH4 hs4
  refine sl_call rfl 13 #[.pointer (some ⟨g, 0, none⟩), .slice (some ⟨w3.heap.size, 0, none⟩) 1 1] (by kernel_rfl) (R := fun _ w' => ∃ v, HSt w.heap.size w w' g v X) ((write_holds X2 X1 hX2b hX1b hX2l hX1l _ _ g w4 hH4.holds _ hy4 (fun _ => hg4)).mono fun e w' h => by
    obtain ⟨h1, v', h2, h3⟩ := h
    exact ⟨_, h1, v', hH4.wrote hs4 (by rw [← hX12]; exact h2) h3⟩) ?_
  rintro _ w5 ⟨v5, hH5⟩
  refine wpList_nil ?_
  have hs5 : w.heap.size ≤ w5.heap.size := hH5.below.size
  go_upto_region 5 with fail
  obtain ⟨S, hS⟩ : ∃ S : ByteArray, S = ⟨#[98, 97, 55, 56, 49, 54, 98, 102, 56, 102, 48, 49, 99, 102, 101, 97, 52, 49, 52, 49, 52, 48, 100, 101, 53, 100, 97, 101, 50, 50, 50, 51, 98, 48, 48, 51, 54, 49, 97, 51, 57, 54, 49, 55, 55, 97, 57, 99, 98, 52, 49, 48, 102, 102, 54, 49, 102, 50, 48, 48, 49, 53, 97, 100]⟩ := ⟨_, rfl⟩
  rw [← hS] at hhex ⊢
  clear hS
  refine wp_region_lit ?_
  refine sl_run rfl (.slice (some ⟨w5.heap.size, 0, none⟩) 3 3) (w5.alloc (.cells (bytesC [97, 98, 99]) 5)) (by kernel_rfl) ?_
  simp only [Act.put, List.setIfInBounds_toArray, List.set_cons_zero, List.set_cons_succ]
  refine sl_run rfl (.slice (some ⟨w5.heap.size, 0, none⟩) 3 3) (w5.alloc (.cells (bytesC [97, 98, 99]) 5 (3, 4))) (exec_conv _ rfl w5 [97, 98, 99] 3 3 (by kernel_rfl)) ?_
  simp only [Act.put, List.setIfInBounds_toArray, List.set_cons_zero, List.set_cons_succ]
  have hy6 : Bytes (w5.alloc (.cells (bytesC [97, 98, 99]) 5 (3, 4))) (.slice (some ⟨w5.heap.size, 0, none⟩) 3 3) X := by subst hX; exact bytes_mark w5 [97, 98, 99] 3 rfl _
  have hH6 := hH5.next ((Below.refl _ _).alloc (Nat.le_refl _) (.cells (bytesC [97, 98, 99]) 5 (3, 4))) hs5
  generalize w5.alloc _ = w6 at hy6 hH6
  have hs6 : w.heap.size ≤ w6.heap.size := hH6.below.size
  refine sl_call rfl 9 #[.slice (some ⟨w5.heap.size, 0, none⟩) 3 3] (by kernel_rfl) (R := fun u w' => u = .agg (bytesC D) ∧ Below w6.heap.size w6 w') ((one_calls X hXb hXl _ w6 hy6).mono fun e w' h => ⟨_, h.1, by rw [hD], h.2⟩) ?_
  rintro _ w7 ⟨rfl, hB7⟩
  simp only [Act.put, List.setIfInBounds_toArray, List.set_cons_zero, List.set_cons_succ]
  have hH7 := hH6.next hB7 hs6
  have hs7 : w.heap.size ≤ w7.heap.size := hH7.below.size
  refine sl_call rfl 10 #[.agg (bytesC D)] (by kernel_rfl) (R := fun u w' => u = .string S ∧ Below w7.heap.size w7 w') ((hex_calls D hDl hDb w7).mono fun e w' h => ⟨_, h.1, by rw [hhex], h.2⟩) ?_
  rintro _ w8 ⟨rfl, hB8⟩
  simp only [Act.put, List.setIfInBounds_toArray, List.set_cons_zero, List.set_cons_succ]
  have hH8 := hH7.next hB8 hs7
  have hs8 : w.heap.size ≤ w8.heap.size := hH8.below.size
  refine sl_run rfl (.string S) w8 (by kernel_rfl) ?_
  simp only [Act.put, List.setIfInBounds_toArray, List.set_cons_zero, List.set_cons_succ]
  refine sl_run rfl (.bool true) w8 (exec_eqlS _ _ rfl S (by kernel_rfl) (by kernel_rfl) w8) ?_
  simp only [Act.put, List.setIfInBounds_toArray, List.set_cons_zero, List.set_cons_succ]
  refine sl_run rfl (.bool true) w8 (by kernel_rfl) ?_
  simp only [Act.put, List.setIfInBounds_toArray, List.set_cons_zero, List.set_cons_succ]
  refine sg_run (by kernel_rfl) (.pointer (some ⟨g, 0, none⟩)) w8 (by kernel_rfl) ?_
  simp only [Act.put, List.setIfInBounds_toArray, List.set_cons_zero, List.set_cons_succ]
  refine sg_call (by kernel_rfl) 14 #[.pointer (some ⟨g, 0, none⟩)] (by kernel_rfl) (R := fun u w' => u = .agg (bytesC D) ∧ Below w8.heap.size w8 w') ((sum_holds X hXb hXl _ _ g w8 hH8.holds).mono fun e w' h => ⟨_, h.1, by rw [hD], h.2⟩) ?_
  rintro _ w9 ⟨rfl, hB9⟩
  simp only [Act.put, List.setIfInBounds_toArray, List.set_cons_zero, List.set_cons_succ]
  have hH9 := hH8.next hB9 hs8
  have hs9 : w.heap.size ≤ w9.heap.size := hH9.below.size
  refine sg_call (by kernel_rfl) 10 #[.agg (bytesC D)] (by kernel_rfl) (R := fun u w' => u = .string S ∧ Below w9.heap.size w9 w') ((hex_calls D hDl hDb w9).mono fun e w' h => ⟨_, h.1, by rw [hhex], h.2⟩) ?_
  rintro _ wA ⟨rfl, hBA⟩
  simp only [Act.put, List.setIfInBounds_toArray, List.set_cons_zero, List.set_cons_succ]
  have hHA := hH9.next hBA hs9
  have hsA : w.heap.size ≤ wA.heap.size := hHA.below.size
  refine sg_run (by kernel_rfl) (.string S) wA (by kernel_rfl) ?_
  simp only [Act.put, List.setIfInBounds_toArray, List.set_cons_zero, List.set_cons_succ]
  refine sg_run (by kernel_rfl) (.bool true) wA (exec_eqlS _ _ rfl S (by kernel_rfl) (by kernel_rfl) wA) ?_
  simp only [Act.put, List.setIfInBounds_toArray, List.set_cons_zero, List.set_cons_succ]
  refine sl_run rfl (.bool true) wA (by kernel_rfl) ?_
  simp only [Act.put, List.setIfInBounds_toArray, List.set_cons_zero, List.set_cons_succ]
  refine sl_run rfl (.bool true) wA (by kernel_rfl) ?_
  simp only [Act.put, List.setIfInBounds_toArray, List.set_cons_zero, List.set_cons_succ]
  refine sg_run (by kernel_rfl) (.slice (some ⟨wA.heap.size, 0, none⟩) 1 1) (wA.alloc (.cells (bytesC [97]) 5)) (by kernel_rfl) ?_
  simp only [Act.put, List.setIfInBounds_toArray, List.set_cons_zero, List.set_cons_succ]
  refine sg_run (by kernel_rfl) (.slice (some ⟨wA.heap.size, 0, none⟩) 1 1) (wA.alloc (.cells (bytesC [97]) 5 (1, 2))) (exec_conv _ rfl wA [97] 1 1 (by kernel_rfl)) ?_
  simp only [Act.put, List.setIfInBounds_toArray, List.set_cons_zero, List.set_cons_succ]
  have hyB := bytes_mark wA [97] 1 rfl (1, 2)
  have hHB := hHA.next ((Below.refl _ _).alloc (Nat.le_refl _) (.cells (bytesC [97]) 5 (1, 2))) hsA
  generalize wA.alloc _ = wB at hyB hHB
  have hsB : w.heap.size ≤ wB.heap.size := hHB.below.size
  refine sg_run (by kernel_rfl) (.slice (some ⟨wB.heap.size, 0, none⟩) 2 2) (wB.alloc (.cells (bytesC [98, 99]) 5)) (by kernel_rfl) ?_
  simp only [Act.put, List.setIfInBounds_toArray, List.set_cons_zero, List.set_cons_succ]
  refine sg_run (by kernel_rfl) (.slice (some ⟨wB.heap.size, 0, none⟩) 2 2) (wB.alloc (.cells (bytesC [98, 99]) 5 (2, 3))) (exec_conv _ rfl wB [98, 99] 2 2 (by kernel_rfl)) ?_
  simp only [Act.put, List.setIfInBounds_toArray, List.set_cons_zero, List.set_cons_succ]
  have hyC := bytes_mark wB [98, 99] 2 rfl (2, 3)
  have hyB2 := hyB.alloc (.cells (bytesC [98, 99]) 5 (2, 3))
  have hHC := hHB.next ((Below.refl _ _).alloc (Nat.le_refl _) (.cells (bytesC [98, 99]) 5 (2, 3))) hsB
  generalize wB.alloc _ = wC at hyC hyB2 hHC
  have hsC : w.heap.size ≤ wC.heap.size := hHC.below.size
  refine sg_run (by kernel_rfl) (.slice (some ⟨wC.heap.size, 0, none⟩) 3 3) (wC.alloc (.cells #[.slice (some ⟨wA.heap.size, 0, none⟩) 1 1, .slice none 0 0, .slice (some ⟨wB.heap.size, 0, none⟩) 2 2] 22)) (by kernel_rfl) ?_
  simp only [Act.put, List.setIfInBounds_toArray, List.set_cons_zero, List.set_cons_succ]
  have hlD := lists_three _ _ _ _ _ _ hyB2 (Bytes.nil wC) hyC
  have hHD := hHC.next ((Below.refl _ _).alloc (Nat.le_refl _) (.cells #[.slice (some ⟨wA.heap.size, 0, none⟩) 1 1, .slice none 0 0, .slice (some ⟨wB.heap.size, 0, none⟩) 2 2] 22)) hsC
  generalize wC.alloc _ = wD at hlD hHD
  have hsD : w.heap.size ≤ wD.heap.size := hHD.below.size
  refine sg_call (by kernel_rfl) 16 #[.slice (some ⟨wC.heap.size, 0, none⟩) 3 3] (by kernel_rfl) (R := fun u w' => u = .agg (bytesC D) ∧ Below wD.heap.size wD w') ((parts_calls [[97], [], [98, 99]] (fun x hx => getD_lt (by decide) (by revert x; decide)) (by simp) (by simp) _ _ wD hlD).mono fun e w' h => ⟨_, h.1, by rw [hD, hX]; rfl, h.2⟩) ?_
  rintro _ wE ⟨rfl, hBE⟩
  simp only [Act.put, List.setIfInBounds_toArray, List.set_cons_zero, List.set_cons_succ]
  have hHE := hHD.next hBE hsD
  have hsE : w.heap.size ≤ wE.heap.size := hHE.below.size
  refine sg_run (by kernel_rfl) (.pointer (some ⟨g, 0, none⟩)) wE (by kernel_rfl) ?_
  simp only [Act.put, List.setIfInBounds_toArray, List.set_cons_zero, List.set_cons_succ]
  refine sg_call (by kernel_rfl) 14 #[.pointer (some ⟨g, 0, none⟩)] (by kernel_rfl) (R := fun u w' => u = .agg (bytesC D) ∧ Below wE.heap.size wE w') ((sum_holds X hXb hXl _ _ g wE hHE.holds).mono fun e w' h => ⟨_, h.1, by rw [hD], h.2⟩) ?_
  rintro _ wF ⟨rfl, hBF⟩
  simp only [Act.put, List.setIfInBounds_toArray, List.set_cons_zero, List.set_cons_succ]
  have hHF := hHE.next hBF hsE
  refine sg_run (by kernel_rfl) (.bool true) wF (exec_eql _ _ rfl D hDl (by kernel_rfl) (by kernel_rfl) wF) ?_
  simp only [Act.put, List.setIfInBounds_toArray, List.set_cons_zero, List.set_cons_succ]
  refine sl_run rfl (.bool true) wF (by kernel_rfl) ?_
  simp only [Act.put, List.setIfInBounds_toArray, List.set_cons_zero, List.set_cons_succ]
  refine sl_run rfl (.bool true) wF (by kernel_rfl) ?_
  simp only [Act.put, List.setIfInBounds_toArray, List.set_cons_zero, List.set_cons_succ]
  refine wpList_nil ?_
  rename_i hK
  exact hK _ _ (wp_ret (bodyPost_ret (v := .bool true) (by kernel_rfl) (by kernel_rfl) ⟨rfl, hHF.below⟩))
end Go.Proofs.Ytnaknnnobcnnfaa.Sha
