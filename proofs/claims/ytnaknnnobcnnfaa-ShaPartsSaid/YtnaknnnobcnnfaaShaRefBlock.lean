/-
  SHA-256: what the document's block makes of a state: the same.
-/
import Derived.Test.YtnaknnnobcnnfaaShaBlock
import Derived.Lib.QuietBelow
namespace Go.Proofs.Ytnaknnnobcnnfaa.Sha
open Go.RowKit
open Go.Sort (grow)
set_option linter.unusedVariables false
set_option linter.unusedSimpArgs false
set_option maxRecDepth 100000 in
theorem constant_calls (i : Nat) (hi : i < 64) (w : World) : Calls Try.prog 21 #[.int .i64 (i : Int)] w fun e w' => e = .returned (.int .u32 (KL.getD i 0 : Nat)) ∧ Below w.heap.size w w' := by
  obtain ⟨V, hV⟩ : ∃ V, w.alloc (.cells (words KL) 48) = V := ⟨_, rfl⟩
  have hc : V.cell? ⟨w.heap.size, i, none⟩ = some (.int .u32 (KL.getD i 0 : Nat)) := by
    rw [cell_of_row V w.heap.size i (words KL) 48 (0, 0) (by rw [← hV]; exact heap_alloc_new _ _)]; exact words_get _ _ (by rw [show KL.length = 64 from rfl]; exact hi)
  have hB : Below w.heap.size w V := by rw [← hV]; exact (Below.refl _ _).alloc (Nat.le_refl _) _
  obtain ⟨y, hy⟩ : ∃ y, y = KL.getD i 0 := ⟨_, rfl⟩
  rw [← hy] at hc ⊢
  have ni : (i : Int) < 64 := by omega
  have hB' : Hid (Below w.heap.size w V) := hB
  clear hB hi hy
  go_enter Try.func21, Try.ntmps21
  go_upto_region 1 with fail
  refine wp_region_lit ?_
  refine sl_build rfl 48 _ rfl (words KL) (by kernel_rfl) ?_
  refine sl_run rfl (.pointer (some ⟨w.heap.size, 0, none⟩)) (w.alloc (.cells (words (zeros 64)) 48)) (by kernel_rfl) ?_
  refine wpList_store_row rfl 48 _ _ rfl w.heap.size (words KL) (by kernel_rfl) (by kernel_rfl) 48 (words (zeros 64)) (heap_alloc_new w _) (by kernel_rfl) (by kernel_rfl) (by kernel_rfl) ?_
  rw [World.setRow_alloc_new, hV]
  refine wpList_nil ?_
  clear hV
  rename_i hK
  refine hK _ _ ?_
  clear hK
  simp only [Act.put, List.setIfInBounds_toArray, List.set_cons_zero, List.set_cons_succ]
  go_wp2
  go_ret
  exact ⟨rfl, hB'⟩

/-- The document's one loop over the words is the program's two. -/
def wR (B : Nat → Nat) : Nat → List Nat
  | 0 => zeros 64
  | i + 1 => (wR B i).set i (if i < 16 then word B i else mix (wR B i) i)
theorem wR_length (B : Nat → Nat) (i : Nat) : (wR B i).length = 64 := by
  induction i with
  | zero => rfl
  | succ i ih => simp [wR, ih]
theorem wR_w1 (B : Nat → Nat) : ∀ i, i ≤ 16 → wR B i = w1 B i
  | 0, _ => rfl
  | i + 1, h => by rw [wR, w1, wR_w1 B i (by omega), if_pos (by omega)]
theorem wR_w2 (B : Nat → Nat) : ∀ k, wR B (16 + k) = w2 B k
  | 0 => wR_w1 B 16 (by omega)
  | k + 1 => by rw [show 16 + (k + 1) = (16 + k) + 1 by omega, wR, w2, wR_w2 B k, if_neg (by omega)]
theorem wR_lt (B : Nat → Nat) (hB : ∀ j, j < 64 → B j < 256) (i : Nat) : ∀ j, (wR B i).getD j 0 < 4294967296 := by
  by_cases h : i ≤ 16
  · rw [wR_w1 B i h]; exact w1_lt B hB i h
  · have := wR_w2 B (i - 16)
    rw [show 16 + (i - 16) = i by omega] at this
    rw [this]; exact w2_lt B hB _
/-- A word turned to the right, for the numbers that the document names. -/
def rr (z : Int) (x : Nat) : Nat := rotr z.toNat x
theorem rotr_ref (x : Nat) (hx : x < 4294967296) (z : Int) (hz : z = 2 ∨ z = 6 ∨ z = 7 ∨ z = 11 ∨ z = 13 ∨ z = 17 ∨ z = 18 ∨ z = 19 ∨ z = 22 ∨ z = 25) (w : World) :
    Calls Try.prog 20 #[.int .u32 (x : Int), .int .u64 z] w fun e w' => e = .returned (.int .u32 (rr z x : Int)) ∧ w' = w := by
  rcases hz with rfl | rfl | rfl | rfl | rfl | rfl | rfl | rfl | rfl | rfl
  · exact turn2 x hx w
  · exact turn6 x hx w
  · exact turn7 x hx w
  · exact turn11 x hx w
  · exact turn13 x hx w
  · exact turn17 x hx w
  · exact turn18 x hx w
  · exact turn19 x hx w
  · exact turn22 x hx w
  · exact turn25 x hx w
theorem xnot_ref (t : Nat) (ht : t < 4294967296) : bits BinOp.xor IntKind.u32 4294967295 (t : Int) = ((4294967295 - t : Nat) : Int) := xnot t ht
theorem sig0_ref (x : Nat) (hx : x < 4294967296) : bits BinOp.xor IntKind.u32 (bits BinOp.xor IntKind.u32 (rr 7 x : Int) (rr 18 x : Int)) ((x : Int) / 8) = ((sig0 x : Nat) : Int) := sig0_val x hx
theorem sig1_ref (x : Nat) (hx : x < 4294967296) : bits BinOp.xor IntKind.u32 (bits BinOp.xor IntKind.u32 (rr 17 x : Int) (rr 19 x : Int)) ((x : Int) / 1024) = ((sig1 x : Nat) : Int) := sig1_val x hx
theorem sum0_ref (x : Nat) (hx : x < 4294967296) : bits BinOp.xor IntKind.u32 (bits BinOp.xor IntKind.u32 (rr 2 x : Int) (rr 13 x : Int)) (rr 22 x : Int) = ((sum0 x : Nat) : Int) := sum0_val x hx
theorem sum1_ref (x : Nat) (hx : x < 4294967296) : bits BinOp.xor IntKind.u32 (bits BinOp.xor IntKind.u32 (rr 6 x : Int) (rr 11 x : Int)) (rr 25 x : Int) = ((sum1 x : Nat) : Int) := sum1_val x hx
set_option maxRecDepth 100000 in
set_option maxHeartbeats 1000000 in
theorem rblock_calls (s : List Nat) (hs : s.length = 8) (hsw : ∀ x ∈ s, x < 4294967296) (B : Nat → Nat) (bb oo n c : Nat) (hn : 64 ≤ n) (hnc : n ≤ c) (w : World)
    (hcell : ∀ j, j < 64 → w.cell? ⟨bb, oo + j, none⟩ = some (.int .u8 (B j : Nat))) (hB : ∀ j, j < 64 → B j < 256) :
    Calls Try.prog 17 #[.agg (words s), .slice (some ⟨bb, oo, none⟩) n c] w fun e w' => e = .returned (.agg (words (blk s B))) ∧ Below w.heap.size w w' := by
  obtain ⟨s0, s1, s2, s3, s4, s5, s6, s7, rfl⟩ : ∃ a b c d e f g h, s = [a, b, c, d, e, f, g, h] := by
    match s, hs with
    | [a, b, c, d, e, f, g, h], _ => exact ⟨a, b, c, d, e, f, g, h, rfl⟩
  have hbb : bb < w.heap.size := World.block_lt_of_cell? w _ (hcell 0 (by decide))
  go_enter Try.func17, Try.ntmps17
  go_upto_region 1 with fail
  generalize hW : World.alloc _ _ = W
  have hWs : W.heap.size = w.heap.size + 2 := by rw [← hW]; simp
  have hW0 : W.heap[w.heap.size]? = some (.cells (words [s0, s1, s2, s3, s4, s5, s6, s7]) 40 (0, 0)) := by rw [← hW]; exact heap_alloc2_old w _ _
  have hW1 : W.heap[w.heap.size + 1]? = some (.cells (words (zeros 8)) 40 (0, 0)) := by rw [← hW]; exact heap_alloc2_new w _ _
  have hWB : Below w.heap.size w W := by rw [← hW]; exact ((Below.refl _ _).alloc (by simp) _).alloc (by simp) _
  clear hW
  refine wp_region_lit ?_
  refine sl_run rfl (.pointer (some ⟨w.heap.size + 2, 0, none⟩)) (W.alloc (.cells (words (zeros 64)) 48)) (by rw [← hWs]; kernel_rfl) ?_
  refine wpList_nil ?_
  obtain ⟨U, hU⟩ : ∃ U, W.alloc (.cells (words (zeros 64)) 48) = U := ⟨_, rfl⟩
  rw [hU]
  have hU2 : U.heap[w.heap.size + 2]? = some (.cells (words (wR B 0)) 48 (0, 0)) := by rw [← hU, ← hWs]; exact heap_alloc_new _ _
  have hU1 : U.heap[w.heap.size + 1]? = some (.cells (words (zeros 8)) 40 (0, 0)) := by rw [← hU, heap_alloc_old _ _ (by omega)]; exact hW1
  have hU0 : U.heap[w.heap.size]? = some (.cells (words [s0, s1, s2, s3, s4, s5, s6, s7]) 40 (0, 0)) := by rw [← hU, heap_alloc_old _ _ (by omega)]; exact hW0
  have hUB : Below w.heap.size w U := by rw [← hU]; exact hWB.alloc (by omega) _
  have hUs : U.heap.size = w.heap.size + 3 := by rw [← hU]; simp [hWs]
  clear hU hW0 hW1 hWB hWs
  go_wp2_with fail
  go_loopw [6] (fun v wr => ∃ i : Nat, i ≤ 64 ∧ v = .int .i64 i ∧ wr.heap[w.heap.size + 2]? = some (.cells (words (wR B i)) 48 (0, 0)) ∧ Hid (Below (w.heap.size + 2) U wr) ∧ wr.heap.size = w.heap.size + 3) (fun v _ => 64 - (intOf v).toNat)
  case atStart => exact ⟨0, by omega, rfl, hU2, Below.refl _ _, hUs⟩
  case round =>
    clear hU2
    obtain ⟨i, hi, rfl, hr2, hrB, hrs⟩ := hrel
    by_cases hlt : i < 64
    · have hwl : (wR B i).length = 64 := wR_length B i
      have hwb := wR_lt B hB i
      have ni : (i : Int) < 64 := by omega
      by_cases h16 : i < 16
      · have hcr : ∀ j, j < 64 → wr.cell? ⟨bb, oo + j, none⟩ = some (.int .u8 (B j : Nat)) := fun j hj => by
          rw [Below.cell hrB (show bb < w.heap.size + 2 by omega), hUB.cell hbb]; exact hcell j hj
        have hnext : Hid (wR B (i + 1) = (wR B i).set i (word B i)) := by show _ = _; rw [wR, if_pos h16]
        obtain ⟨q0, hq0⟩ : ∃ q : Nat, q = 4 * i := ⟨_, rfl⟩
        obtain ⟨q1, hq1⟩ : ∃ q : Nat, q = 4 * i + 1 := ⟨_, rfl⟩
        obtain ⟨q2, hq2⟩ : ∃ q : Nat, q = 4 * i + 2 := ⟨_, rfl⟩
        obtain ⟨q3, hq3⟩ : ∃ q : Nat, q = 4 * i + 3 := ⟨_, rfl⟩
        have e0 : IntKind.i64.wrap (4 * (i : Int)) = (q0 : Int) := by rw [IntKind.wrap_i64]; omega
        have e1 : IntKind.i64.wrap ((q0 : Int) + 1) = (q1 : Int) := by rw [IntKind.wrap_i64]; omega
        have e2 : IntKind.i64.wrap ((q0 : Int) + 2) = (q2 : Int) := by rw [IntKind.wrap_i64]; omega
        have e3 : IntKind.i64.wrap ((q0 : Int) + 3) = (q3 : Int) := by rw [IntKind.wrap_i64]; omega
        have h0 := hcr q0 (by omega)
        have h1 := hcr q1 (by omega)
        have h2 := hcr q2 (by omega)
        have h3 := hcr q3 (by omega)
        have b0 := hB q0 (by omega)
        have b1 := hB q1 (by omega)
        have b2 := hB q2 (by omega)
        have b3 := hB q3 (by omega)
        have l0 : q0 < n := by omega
        have l1 : q1 < n := by omega
        have l2 : q2 < n := by omega
        have l3 : q3 < n := by omega
        have hword : word B i = B q0 * 16777216 + B q1 * 65536 + B q2 * 256 + B q3 := by subst hq0 hq1 hq2 hq3; rfl
        obtain ⟨y0, hy0⟩ : ∃ y, y = B q0 := ⟨_, rfl⟩
        obtain ⟨y1, hy1⟩ : ∃ y, y = B q1 := ⟨_, rfl⟩
        obtain ⟨y2, hy2⟩ : ∃ y, y = B q2 := ⟨_, rfl⟩
        obtain ⟨y3, hy3⟩ : ∃ y, y = B q3 := ⟨_, rfl⟩
        rw [← hy0, ← hy1, ← hy2, ← hy3] at hword
        rw [← hy0] at h0 b0
        rw [← hy1] at h1 b1
        rw [← hy2] at h2 b2
        rw [← hy3] at h3 b3
        clear hy0 hy1 hy2 hy3 hq0 hq1 hq2 hq3
        clear hcr hwb
        go_upto_region 6 with fail
        refine wp_region_still_tail 35 (by kernel_rfl) (by kernel_rfl) ?_
        simp only [List.take_succ_cons, List.take_zero, List.drop_succ_cons, List.drop_zero]
        change wpStill _ _ wr.drew (fun a' => wpList _ _ _ _ a' wr.drew) _ _
        have hd2 : wr.drew.heap[w.heap.size + 2]? = some (.cells (words (wR B i)) 48 (0, 0)) := hr2
        have hdB : Hid (Below (w.heap.size + 2) U wr.drew) := Below.drew hrB
        have hds : wr.drew.heap.size = w.heap.size + 3 := hrs
        have h0 : wr.drew.cell? ⟨bb, oo + q0, none⟩ = some (.int .u8 (y0 : Int)) := h0
        have h1 : wr.drew.cell? ⟨bb, oo + q1, none⟩ = some (.int .u8 (y1 : Int)) := h1
        have h2 : wr.drew.cell? ⟨bb, oo + q2, none⟩ = some (.int .u8 (y2 : Int)) := h2
        have h3 : wr.drew.cell? ⟨bb, oo + q3, none⟩ = some (.int .u8 (y3 : Int)) := h3
        generalize hx : wr.drew = wd at hd2 hdB hds h0 h1 h2 h3 ⊢
        clear hx hr2 hrB hrs
        repeat still_step
        refine wpStill_nil ?_
        have hc : wd.cell? ⟨w.heap.size + 2, i, none⟩ = some (.int .u32 ((wR B i).getD i 0 : Nat)) := by rw [cell_of_row _ _ _ _ _ _ hd2]; exact words_get _ _ (by omega)
        have hf : wd.frozen? ⟨w.heap.size + 2, i, none⟩ = false := frozen_of_row _ _ _ _ _ hd2
        go_wp2_with fail
        go_roundw
        case rel =>
          refine ⟨i + 1, by omega, by go_num, ?_, ?_, ?_⟩
          · rw [show (y0 : Int) * 16777216 + (y1 : Int) * 65536 + (y2 : Int) * 256 + (y3 : Int) = ((word B i : Nat) : Int) by rw [hword]; omega, heap_setCell_same _ _ _ _ _ _ hd2, words_set, hnext.out]
          · exact Below.setCell hdB (Nat.le_refl _) _
          · simpa using hds
        case measure => simp [intOf]; omega
      · have h16' : 16 ≤ i := by omega
        have hg : ∀ j, j < 64 → wr.cell? ⟨w.heap.size + 2, j, none⟩ = some (.int .u32 ((wR B i).getD j 0 : Nat)) := fun j hj => by rw [cell_of_row _ _ _ _ _ _ hr2]; exact words_get _ _ (by omega)
        have hnext : Hid (wR B (i + 1) = (wR B i).set i (mix (wR B i) i)) := by show _ = _; rw [wR, if_neg h16]
        obtain ⟨j15, hj15⟩ : ∃ j : Nat, j = i - 15 := ⟨_, rfl⟩
        obtain ⟨j2, hj2⟩ : ∃ j : Nat, j = i - 2 := ⟨_, rfl⟩
        obtain ⟨j16, hj16⟩ : ∃ j : Nat, j = i - 16 := ⟨_, rfl⟩
        obtain ⟨j7, hj7⟩ : ∃ j : Nat, j = i - 7 := ⟨_, rfl⟩
        have e15 : IntKind.i64.wrap ((i : Int) - 15) = (j15 : Int) := by rw [IntKind.wrap_i64]; omega
        have e2 : IntKind.i64.wrap ((i : Int) - 2) = (j2 : Int) := by rw [IntKind.wrap_i64]; omega
        have e16 : IntKind.i64.wrap ((i : Int) - 16) = (j16 : Int) := by rw [IntKind.wrap_i64]; omega
        have e7 : IntKind.i64.wrap ((i : Int) - 7) = (j7 : Int) := by rw [IntKind.wrap_i64]; omega
        have l15 : j15 < 64 := by omega
        have l2 : j2 < 64 := by omega
        have l16 : j16 < 64 := by omega
        have l7 : j7 < 64 := by omega
        have n15 : (j15 : Int) < 64 := by omega
        have n2 : (j2 : Int) < 64 := by omega
        have n16 : (j16 : Int) < 64 := by omega
        have n7 : (j7 : Int) < 64 := by omega
        have ni : (i : Int) < 64 := by omega
        have c15 := hg j15 l15
        have c2 := hg j2 l2
        have c16 := hg j16 l16
        have c7 := hg j7 l7
        obtain ⟨x15, hx15⟩ : ∃ x, x = (wR B i).getD j15 0 := ⟨_, rfl⟩
        obtain ⟨x2, hx2⟩ : ∃ x, x = (wR B i).getD j2 0 := ⟨_, rfl⟩
        obtain ⟨x16, hx16⟩ : ∃ x, x = (wR B i).getD j16 0 := ⟨_, rfl⟩
        obtain ⟨x7, hx7⟩ : ∃ x, x = (wR B i).getD j7 0 := ⟨_, rfl⟩
        have m15 := hwb j15
        have m2 := hwb j2
        have m16 := hwb j16
        have m7 := hwb j7
        rw [← hx15] at c15 m15
        rw [← hx2] at c2 m2
        rw [← hx16] at c16 m16
        rw [← hx7] at c7 m7
        have hmix : Hid (mix (wR B i) i = (x16 + sig0 x15 + x7 + sig1 x2) % 4294967296) := by show _ = _; unfold mix; rw [← hj15, ← hj2, ← hj16, ← hj7, ← hx15, ← hx2, ← hx16, ← hx7]
        clear hg hwb hx15 hx2 hx16 hx7 hj15 hj2 hj16 hj7
        go_upto_region 7 with fail
        go_quiet ((go_at_call 20; refine Calls.quiet_of_same (rotr_ref _ (by assumption) _ (by decide) _)))
        have hr2 : (wr.drewN nq).heap[w.heap.size + 2]? = some (.cells (words (wR B i)) 48 (0, 0)) := hr2
        have hrB : Hid (Below (w.heap.size + 2) U (wr.drewN nq)) := ⟨hrB.out.os, hrB.out.tape, hrB.out.output, hrB.out.size, hrB.out.block⟩
        have hrs : (wr.drewN nq).heap.size = w.heap.size + 3 := hrs
        have c2 : (wr.drewN nq).cell? ⟨w.heap.size + 2, j2, none⟩ = some (.int .u32 (x2 : Int)) := c2
        have c16 : (wr.drewN nq).cell? ⟨w.heap.size + 2, j16, none⟩ = some (.int .u32 (x16 : Int)) := c16
        have c7 : (wr.drewN nq).cell? ⟨w.heap.size + 2, j7, none⟩ = some (.int .u32 (x7 : Int)) := c7
        generalize hw7 : wr.drewN nq = w7 at hr2 hrB hrs c2 c16 c7 ⊢
        clear hw7 c15
        go_upto_region 8 with fail
        go_quiet ((go_at_call 20; refine Calls.quiet_of_same (rotr_ref _ (by assumption) _ (by decide) _)))
        go_upto_region 9 with fail
        generalize hwe : World.drewN w7 _ = we
        have hr4 : we.heap[w.heap.size + 2]? = some (.cells (words (wR B i)) 48 (0, 0)) := by rw [← hwe]; exact hr2
        have hrB4 : Hid (Below (w.heap.size + 2) U we) := by rw [← hwe]; exact ⟨hrB.os, hrB.tape, hrB.output, hrB.size, hrB.block⟩
        have hrs4 : we.heap.size = w.heap.size + 3 := by rw [← hwe]; exact hrs
        have c16 : we.cell? ⟨w.heap.size + 2, j16, none⟩ = some (.int .u32 (x16 : Int)) := by rw [← hwe]; exact c16
        have c7 : we.cell? ⟨w.heap.size + 2, j7, none⟩ = some (.int .u32 (x7 : Int)) := by rw [← hwe]; exact c7
        clear hwe hr2 hrB hrs
        refine wp_region_still_tail 15 (by kernel_rfl) (by kernel_rfl) ?_
        simp only [List.take_succ_cons, List.take_zero, List.drop_succ_cons, List.drop_zero]
        change wpStill _ _ we.drew (fun a' => wpList _ _ _ _ a' we.drew) _ _
        have hd4 : we.drew.heap[w.heap.size + 2]? = some (.cells (words (wR B i)) 48 (0, 0)) := hr4
        have hdB : Hid (Below (w.heap.size + 2) U we.drew) := Below.drew hrB4
        have hds : we.drew.heap.size = w.heap.size + 3 := hrs4
        have c16 : we.drew.cell? ⟨w.heap.size + 2, j16, none⟩ = some (.int .u32 (x16 : Int)) := c16
        have c7 : we.drew.cell? ⟨w.heap.size + 2, j7, none⟩ = some (.int .u32 (x7 : Int)) := c7
        generalize hx : we.drew = wd at hd4 hdB hds c16 c7 ⊢
        clear hx hr4 hrB4 hrs4
        repeat still_step
        refine wpStill_nil ?_
        have hc : wd.cell? ⟨w.heap.size + 2, i, none⟩ = some (.int .u32 ((wR B i).getD i 0 : Nat)) := by rw [cell_of_row _ _ _ _ _ _ hd4]; exact words_get _ _ (by omega)
        have hf : wd.frozen? ⟨w.heap.size + 2, i, none⟩ = false := frozen_of_row _ _ _ _ _ hd4
        go_wp2_with fail
        go_roundw
        case rel =>
          rw [sig0_ref x15 m15, sig1_ref x2 m2, show (((x16 : Int) + (sig0 x15 : Int) + (x7 : Int) + (sig1 x2 : Int)) % 4294967296) = (((x16 + sig0 x15 + x7 + sig1 x2) % 4294967296 : Nat) : Int) by omega, ← hmix.out]
          refine ⟨i + 1, by omega, by go_num, ?_, ?_, ?_⟩
          · rw [heap_setCell_same _ _ _ _ _ _ hd4, words_set, hnext.out]
          · exact Below.setCell hdB (Nat.le_refl _) _
          · simpa using hds
        case measure => simp [intOf]; omega
    · obtain rfl : i = 64 := by omega
      have hlt64 : ¬ ((64 : Nat) : Int) < 64 := by omega
      rw [show wR B 64 = w2 B 48 from wR_w2 B 48] at hr2
      have hw20 : Hid (wr.heap[w.heap.size + 2]? = some (.cells (words (w2 B 48)) 48 (0, 0))) := hr2
      clear hr2
      go_upto_region 10 with fail
      have hS : wr.heap[w.heap.size]? = some (.cells (words [s0, s1, s2, s3, s4, s5, s6, s7]) 40 (0, 0)) := by rw [hrB.block _ (by omega)]; exact hU0
      refine wp_region_lit ?_
      refine wpList_load_row rfl 40 _ rfl w.heap.size (by kernel_rfl) 40 (words [s0, s1, s2, s3, s4, s5, s6, s7]) (0, 0) _ hS Try.underlying40 rfl (by kernel_rfl) ?_
      refine sl_run rfl (.pointer (some ⟨w.heap.size + 3, 0, none⟩)) (wr.alloc (.cells (words (zeros 8)) 40)) (by rw [← hrs]; kernel_rfl) ?_
      rw [← hrs]
      refine wpList_store_row rfl 40 _ _ rfl wr.heap.size (words [s0, s1, s2, s3, s4, s5, s6, s7]) (by kernel_rfl) (by kernel_rfl) 40 (words (zeros 8)) (heap_alloc_new _ _) (by kernel_rfl) (by kernel_rfl) (by kernel_rfl) ?_
      rw [World.setRow_alloc_new]
      refine wpList_nil ?_
      obtain ⟨X, hX⟩ : ∃ X, wr.alloc (.cells (words [s0, s1, s2, s3, s4, s5, s6, s7]) 40) = X := ⟨_, rfl⟩
      rw [hX]
      have hX3 : X.heap[w.heap.size + 3]? = some (.cells (words (t3 [s0, s1, s2, s3, s4, s5, s6, s7] (w2 B 48) 0)) 40 (0, 0)) := by rw [← hX, ← hrs]; exact heap_alloc_new _ _
      have hX2 : X.heap[w.heap.size + 2]? = some (.cells (words (w2 B 48)) 48 (0, 0)) := by rw [← hX, heap_alloc_old _ _ (by omega)]; exact hw20
      have hX1 : X.heap[w.heap.size + 1]? = some (.cells (words (zeros 8)) 40 (0, 0)) := by rw [← hX, heap_alloc_old _ _ (by omega), hrB.block _ (by omega)]; exact hU1
      have hX0 : X.heap[w.heap.size]? = some (.cells (words [s0, s1, s2, s3, s4, s5, s6, s7]) 40 (0, 0)) := by rw [← hX, heap_alloc_old _ _ (by omega)]; exact hS
      have hXB : Below w.heap.size w X := by rw [← hX]; exact (hUB.trans (hrB.out.mono (by omega))).alloc (by omega) _
      have hXs : w.heap.size + 4 ≤ X.heap.size := by rw [← hX]; simp [hrs]
      rw [hrs]
      clear hX hS hw20 hrB hrs hU0 hU1 hUB hUs
      go_wp2_with fail
      go_loopw [10] (fun v wr => ∃ i : Nat, i ≤ 64 ∧ v = .int .i64 i ∧ wr.heap[w.heap.size + 3]? = some (.cells (words (t3 [s0, s1, s2, s3, s4, s5, s6, s7] (w2 B 48) i)) 40 (0, 0)) ∧ Hid (Below (w.heap.size + 3) X wr) ∧ w.heap.size + 4 ≤ wr.heap.size) (fun v _ => 64 - (intOf v).toNat)
      case atStart => exact ⟨0, by omega, rfl, hX3, Below.refl _ _, hXs⟩
      case round =>
        obtain ⟨i, hi, rfl, hr3, hrB, hrs⟩ := hrel
        by_cases hlt : i < 64
        · obtain ⟨kc, hkc⟩ : ∃ x, x = KL.getD i 0 := ⟨_, rfl⟩
          obtain ⟨wc, hwc⟩ : ∃ x, x = (w2 B 48).getD i 0 := ⟨_, rfl⟩
          have hkl : kc < 4294967296 := by rw [hkc]; exact KL_lt i
          have hwl : wc < 4294967296 := by rw [hwc]; exact w2_lt B hB 48 i
          have c4 : wr.cell? ⟨w.heap.size + 2, i, none⟩ = some (.int .u32 (wc : Int)) := by
            rw [Below.cell hrB (show w.heap.size + 2 < w.heap.size + 3 by omega), cell_of_row _ _ _ _ _ _ hX2, hwc]; exact words_get _ _ (by rw [w2_length]; omega)
          have hcK : ∀ v : World, Calls Try.prog 21 #[.int .i64 (i : Int)] v fun e w' => e = .returned (.int .u32 (kc : Int)) ∧ Below v.heap.size v w' := fun v => by rw [hkc]; exact constant_calls i hlt v
          obtain ⟨t0, t1, t2, t3', t4, t5, t6, t7, hT, m0, m1, m2, m3, m4, m5, m6, m7⟩ := t3_eight [s0, s1, s2, s3, s4, s5, s6, s7] (w2 B 48) rfl hsw i
          have hnext : Hid (t3 [s0, s1, s2, s3, s4, s5, s6, s7] (w2 B 48) (i + 1) = round [t0, t1, t2, t3', t4, t5, t6, t7] kc wc) := by show _ = _; rw [← hT, hkc, hwc]; rfl
          rw [hT] at hr3
          have ni : (i : Int) < 64 := by omega
          have hb : Hid (wr.heap[w.heap.size + 3]? = some (.cells (words [t0, t1, t2, t3', t4, t5, t6, t7]) 40 (0, 0))) := hr3
          have d0 : wr.cell? ⟨w.heap.size + 3, 0, none⟩ = some (.int .u32 (t0 : Int)) := cell_of_row _ _ _ _ _ _ hb.out
          have f0 : wr.frozen? ⟨w.heap.size + 3, 0, none⟩ = false := frozen_of_row _ _ _ _ _ hb.out
          have d1 : wr.cell? ⟨w.heap.size + 3, 1, none⟩ = some (.int .u32 (t1 : Int)) := cell_of_row _ _ _ _ _ _ hb.out
          have f1 : wr.frozen? ⟨w.heap.size + 3, 1, none⟩ = false := frozen_of_row _ _ _ _ _ hb.out
          have d2 : wr.cell? ⟨w.heap.size + 3, 2, none⟩ = some (.int .u32 (t2 : Int)) := cell_of_row _ _ _ _ _ _ hb.out
          have f2 : wr.frozen? ⟨w.heap.size + 3, 2, none⟩ = false := frozen_of_row _ _ _ _ _ hb.out
          have d3 : wr.cell? ⟨w.heap.size + 3, 3, none⟩ = some (.int .u32 (t3' : Int)) := cell_of_row _ _ _ _ _ _ hb.out
          have f3 : wr.frozen? ⟨w.heap.size + 3, 3, none⟩ = false := frozen_of_row _ _ _ _ _ hb.out
          have d4 : wr.cell? ⟨w.heap.size + 3, 4, none⟩ = some (.int .u32 (t4 : Int)) := cell_of_row _ _ _ _ _ _ hb.out
          have f4 : wr.frozen? ⟨w.heap.size + 3, 4, none⟩ = false := frozen_of_row _ _ _ _ _ hb.out
          have d5 : wr.cell? ⟨w.heap.size + 3, 5, none⟩ = some (.int .u32 (t5 : Int)) := cell_of_row _ _ _ _ _ _ hb.out
          have f5 : wr.frozen? ⟨w.heap.size + 3, 5, none⟩ = false := frozen_of_row _ _ _ _ _ hb.out
          have d6 : wr.cell? ⟨w.heap.size + 3, 6, none⟩ = some (.int .u32 (t6 : Int)) := cell_of_row _ _ _ _ _ _ hb.out
          have f6 : wr.frozen? ⟨w.heap.size + 3, 6, none⟩ = false := frozen_of_row _ _ _ _ _ hb.out
          have d7 : wr.cell? ⟨w.heap.size + 3, 7, none⟩ = some (.int .u32 (t7 : Int)) := cell_of_row _ _ _ _ _ _ hb.out
          have f7 : wr.frozen? ⟨w.heap.size + 3, 7, none⟩ = false := frozen_of_row _ _ _ _ _ hb.out
          clear hr3 hT hkc hwc
          have hcK' : Hid (∀ v : World, Calls Try.prog 21 #[.int .i64 (i : Int)] v fun e w' => e = .returned (.int .u32 (kc : Int)) ∧ Below v.heap.size v w') := hcK
          clear hcK
          go_upto_region 14 with fail
          go_quiet ((go_at_call 20; refine Calls.quiet_of_same (rotr_ref _ (by assumption) _ (by decide) _)))
          have hb : Hid ((wr.drewN nq).heap[w.heap.size + 3]? = some (.cells (words [t0, t1, t2, t3', t4, t5, t6, t7]) 40 (0, 0))) := hb
          have c4 : (wr.drewN nq).cell? ⟨w.heap.size + 2, i, none⟩ = some (.int .u32 (wc : Int)) := c4
          have hrB : Hid (Below (w.heap.size + 3) X (wr.drewN nq)) := ⟨hrB.out.os, hrB.out.tape, hrB.out.output, hrB.out.size, hrB.out.block⟩
          have hrs : w.heap.size + 4 ≤ (wr.drewN nq).heap.size := hrs
          clear d0 f0 d1 f1 d2 f2 d3 f3 d4 f4 d5 f5 d6 f6 d7 f7
          generalize hgen : wr.drewN nq = wa at hb c4 hrB hrs ⊢
          clear hgen
          have d0 : wa.cell? ⟨w.heap.size + 3, 0, none⟩ = some (.int .u32 (t0 : Int)) := cell_of_row _ _ _ _ _ _ hb.out
          have f0 : wa.frozen? ⟨w.heap.size + 3, 0, none⟩ = false := frozen_of_row _ _ _ _ _ hb.out
          have d1 : wa.cell? ⟨w.heap.size + 3, 1, none⟩ = some (.int .u32 (t1 : Int)) := cell_of_row _ _ _ _ _ _ hb.out
          have f1 : wa.frozen? ⟨w.heap.size + 3, 1, none⟩ = false := frozen_of_row _ _ _ _ _ hb.out
          have d2 : wa.cell? ⟨w.heap.size + 3, 2, none⟩ = some (.int .u32 (t2 : Int)) := cell_of_row _ _ _ _ _ _ hb.out
          have f2 : wa.frozen? ⟨w.heap.size + 3, 2, none⟩ = false := frozen_of_row _ _ _ _ _ hb.out
          have d3 : wa.cell? ⟨w.heap.size + 3, 3, none⟩ = some (.int .u32 (t3' : Int)) := cell_of_row _ _ _ _ _ _ hb.out
          have f3 : wa.frozen? ⟨w.heap.size + 3, 3, none⟩ = false := frozen_of_row _ _ _ _ _ hb.out
          have d4 : wa.cell? ⟨w.heap.size + 3, 4, none⟩ = some (.int .u32 (t4 : Int)) := cell_of_row _ _ _ _ _ _ hb.out
          have f4 : wa.frozen? ⟨w.heap.size + 3, 4, none⟩ = false := frozen_of_row _ _ _ _ _ hb.out
          have d5 : wa.cell? ⟨w.heap.size + 3, 5, none⟩ = some (.int .u32 (t5 : Int)) := cell_of_row _ _ _ _ _ _ hb.out
          have f5 : wa.frozen? ⟨w.heap.size + 3, 5, none⟩ = false := frozen_of_row _ _ _ _ _ hb.out
          have d6 : wa.cell? ⟨w.heap.size + 3, 6, none⟩ = some (.int .u32 (t6 : Int)) := cell_of_row _ _ _ _ _ _ hb.out
          have f6 : wa.frozen? ⟨w.heap.size + 3, 6, none⟩ = false := frozen_of_row _ _ _ _ _ hb.out
          have d7 : wa.cell? ⟨w.heap.size + 3, 7, none⟩ = some (.int .u32 (t7 : Int)) := cell_of_row _ _ _ _ _ _ hb.out
          have f7 : wa.frozen? ⟨w.heap.size + 3, 7, none⟩ = false := frozen_of_row _ _ _ _ _ hb.out
          go_upto_region 16 with fail
          have k7 := cell_regrown d7
          have k4 := cell_regrown c4
          have cK : ∀ d os, Calls Try.prog 21 #[.int .i64 (i : Int)] (grow (redrawn wa d) os) fun e w'' => e = .returned (.int .u32 (kc : Int)) ∧ ∃ p : Regrown, w'' = grow (redrawn wa p.d) p.os := fun d os => Calls.regrown_of (hcK'.out _)
          refine wp_region_quiet_below (by kernel_rfl) (by kernel_rfl) ?_
          repeat (quiet_step (exact cK _ _))
          refine wpQuiet_nil ?_
          intro _ hw'
          obtain ⟨⟨dq, osq⟩, hw''⟩ := hw'
          subst hw''
          clear cK k7 k4
          have hBg := below_regrown wa dq osq
          have hb : Hid ((grow (redrawn wa dq) osq).heap[w.heap.size + 3]? = some (.cells (words [t0, t1, t2, t3', t4, t5, t6, t7]) 40 (0, 0))) := (hBg.block _ (by omega)).trans hb.out
          have c4 : (grow (redrawn wa dq) osq).cell? ⟨w.heap.size + 2, i, none⟩ = some (.int .u32 (wc : Int)) := cell_regrown c4 _ _
          have hrB : Hid (Below (w.heap.size + 3) X (grow (redrawn wa dq) osq)) := hrB.out.trans (hBg.mono (by omega))
          have hrs : w.heap.size + 4 ≤ (grow (redrawn wa dq) osq).heap.size := Nat.le_trans hrs hBg.size
          clear hBg
          clear d0 f0 d1 f1 d2 f2 d3 f3 d4 f4 d5 f5 d6 f6 d7 f7
          generalize hgen : grow (redrawn wa dq) osq = wb at hb c4 hrB hrs ⊢
          clear hgen
          have d0 : wb.cell? ⟨w.heap.size + 3, 0, none⟩ = some (.int .u32 (t0 : Int)) := cell_of_row _ _ _ _ _ _ hb.out
          have f0 : wb.frozen? ⟨w.heap.size + 3, 0, none⟩ = false := frozen_of_row _ _ _ _ _ hb.out
          have d1 : wb.cell? ⟨w.heap.size + 3, 1, none⟩ = some (.int .u32 (t1 : Int)) := cell_of_row _ _ _ _ _ _ hb.out
          have f1 : wb.frozen? ⟨w.heap.size + 3, 1, none⟩ = false := frozen_of_row _ _ _ _ _ hb.out
          have d2 : wb.cell? ⟨w.heap.size + 3, 2, none⟩ = some (.int .u32 (t2 : Int)) := cell_of_row _ _ _ _ _ _ hb.out
          have f2 : wb.frozen? ⟨w.heap.size + 3, 2, none⟩ = false := frozen_of_row _ _ _ _ _ hb.out
          have d3 : wb.cell? ⟨w.heap.size + 3, 3, none⟩ = some (.int .u32 (t3' : Int)) := cell_of_row _ _ _ _ _ _ hb.out
          have f3 : wb.frozen? ⟨w.heap.size + 3, 3, none⟩ = false := frozen_of_row _ _ _ _ _ hb.out
          have d4 : wb.cell? ⟨w.heap.size + 3, 4, none⟩ = some (.int .u32 (t4 : Int)) := cell_of_row _ _ _ _ _ _ hb.out
          have f4 : wb.frozen? ⟨w.heap.size + 3, 4, none⟩ = false := frozen_of_row _ _ _ _ _ hb.out
          have d5 : wb.cell? ⟨w.heap.size + 3, 5, none⟩ = some (.int .u32 (t5 : Int)) := cell_of_row _ _ _ _ _ _ hb.out
          have f5 : wb.frozen? ⟨w.heap.size + 3, 5, none⟩ = false := frozen_of_row _ _ _ _ _ hb.out
          have d6 : wb.cell? ⟨w.heap.size + 3, 6, none⟩ = some (.int .u32 (t6 : Int)) := cell_of_row _ _ _ _ _ _ hb.out
          have f6 : wb.frozen? ⟨w.heap.size + 3, 6, none⟩ = false := frozen_of_row _ _ _ _ _ hb.out
          have d7 : wb.cell? ⟨w.heap.size + 3, 7, none⟩ = some (.int .u32 (t7 : Int)) := cell_of_row _ _ _ _ _ _ hb.out
          have f7 : wb.frozen? ⟨w.heap.size + 3, 7, none⟩ = false := frozen_of_row _ _ _ _ _ hb.out
          go_upto_region 17 with fail
          go_quiet ((go_at_call 20; refine Calls.quiet_of_same (rotr_ref _ (by assumption) _ (by decide) _)))
          have hb : Hid ((wb.drewN nq).heap[w.heap.size + 3]? = some (.cells (words [t0, t1, t2, t3', t4, t5, t6, t7]) 40 (0, 0))) := hb
          have c4 : (wb.drewN nq).cell? ⟨w.heap.size + 2, i, none⟩ = some (.int .u32 (wc : Int)) := c4
          have hrB : Hid (Below (w.heap.size + 3) X (wb.drewN nq)) := ⟨hrB.out.os, hrB.out.tape, hrB.out.output, hrB.out.size, hrB.out.block⟩
          have hrs : w.heap.size + 4 ≤ (wb.drewN nq).heap.size := hrs
          clear d0 f0 d1 f1 d2 f2 d3 f3 d4 f4 d5 f5 d6 f6 d7 f7
          generalize hgen : wb.drewN nq = wz at hb c4 hrB hrs ⊢
          clear hgen
          have d0 : wz.cell? ⟨w.heap.size + 3, 0, none⟩ = some (.int .u32 (t0 : Int)) := cell_of_row _ _ _ _ _ _ hb.out
          have f0 : wz.frozen? ⟨w.heap.size + 3, 0, none⟩ = false := frozen_of_row _ _ _ _ _ hb.out
          have d1 : wz.cell? ⟨w.heap.size + 3, 1, none⟩ = some (.int .u32 (t1 : Int)) := cell_of_row _ _ _ _ _ _ hb.out
          have f1 : wz.frozen? ⟨w.heap.size + 3, 1, none⟩ = false := frozen_of_row _ _ _ _ _ hb.out
          have d2 : wz.cell? ⟨w.heap.size + 3, 2, none⟩ = some (.int .u32 (t2 : Int)) := cell_of_row _ _ _ _ _ _ hb.out
          have f2 : wz.frozen? ⟨w.heap.size + 3, 2, none⟩ = false := frozen_of_row _ _ _ _ _ hb.out
          have d3 : wz.cell? ⟨w.heap.size + 3, 3, none⟩ = some (.int .u32 (t3' : Int)) := cell_of_row _ _ _ _ _ _ hb.out
          have f3 : wz.frozen? ⟨w.heap.size + 3, 3, none⟩ = false := frozen_of_row _ _ _ _ _ hb.out
          have d4 : wz.cell? ⟨w.heap.size + 3, 4, none⟩ = some (.int .u32 (t4 : Int)) := cell_of_row _ _ _ _ _ _ hb.out
          have f4 : wz.frozen? ⟨w.heap.size + 3, 4, none⟩ = false := frozen_of_row _ _ _ _ _ hb.out
          have d5 : wz.cell? ⟨w.heap.size + 3, 5, none⟩ = some (.int .u32 (t5 : Int)) := cell_of_row _ _ _ _ _ _ hb.out
          have f5 : wz.frozen? ⟨w.heap.size + 3, 5, none⟩ = false := frozen_of_row _ _ _ _ _ hb.out
          have d6 : wz.cell? ⟨w.heap.size + 3, 6, none⟩ = some (.int .u32 (t6 : Int)) := cell_of_row _ _ _ _ _ _ hb.out
          have f6 : wz.frozen? ⟨w.heap.size + 3, 6, none⟩ = false := frozen_of_row _ _ _ _ _ hb.out
          have d7 : wz.cell? ⟨w.heap.size + 3, 7, none⟩ = some (.int .u32 (t7 : Int)) := cell_of_row _ _ _ _ _ _ hb.out
          have f7 : wz.frozen? ⟨w.heap.size + 3, 7, none⟩ = false := frozen_of_row _ _ _ _ _ hb.out
          go_wp2_with fail
          go_roundw
          case rel =>
            rw [xnot_ref t4 m4, chs_val t4 t5 t6 m4 m5 m6, sum1_ref t4 m4, sum0_ref t0 m0, maj_val t0 t1 t2 m0 m1 m2,
              show ((t7 : Int) + (sum1 t4 : Int) + (chs t4 t5 t6 : Int) + (kc : Int) + (wc : Int) + (sum0 t0 : Int) + (maj t0 t1 t2 : Int)) % 4294967296 = (((t7 + sum1 t4 + chs t4 t5 t6 + kc + wc + (sum0 t0 + maj t0 t1 t2)) % 4294967296 : Nat) : Int) by omega,
              show ((t3' : Int) + ((t7 : Int) + (sum1 t4 : Int) + (chs t4 t5 t6 : Int) + (kc : Int) + (wc : Int))) % 4294967296 = (((t3' + (t7 + sum1 t4 + chs t4 t5 t6 + kc + wc)) % 4294967296 : Nat) : Int) by omega]
            refine ⟨i + 1, by omega, by go_num, ?_, ?_, ?_⟩
            · rw [set8 _ _ _ _ _ _ _ _ _ _ _ _ _ _ _ _ _ _ _ hb.out, hnext.out]; rfl
            · refine Below.setCell (Below.setCell (Below.setCell (Below.setCell (Below.setCell (Below.setCell (Below.setCell (Below.setCell hrB.out ?_ _) ?_ _) ?_ _) ?_ _) ?_ _) ?_ _) ?_ _) ?_ _
              all_goals exact Nat.le_refl _
            · simpa using hrs
          case measure => simp [intOf]; omega
        · obtain rfl : i = 64 := by omega
          obtain ⟨T, hT⟩ : ∃ T, t3 [s0, s1, s2, s3, s4, s5, s6, s7] (w2 B 48) 64 = T := ⟨_, rfl⟩
          have hTl : T.length = 8 := by rw [← hT]; exact t3_length _ _ rfl 64
          have hTb : ∀ j, T.getD j 0 < 4294967296 := by rw [← hT]; exact t3_lt _ _ rfl hsw 64
          rw [hT] at hr3
          have hq3 : wr.heap[w.heap.size + 3]? = some (.cells (words (t4 T [s0, s1, s2, s3, s4, s5, s6, s7] 0)) 40 (0, 0)) := hr3
          clear hr3
          have hlt64' : ¬ ((64 : Nat) : Int) < 64 := by omega
          go_wp2_with fail
          go_loopw [16] (fun v wr => ∃ i : Nat, i ≤ 8 ∧ v = .int .i64 i ∧ wr.heap[w.heap.size + 3]? = some (.cells (words (t4 T [s0, s1, s2, s3, s4, s5, s6, s7] i)) 40 (0, 0)) ∧ Hid (Below (w.heap.size + 3) X wr) ∧ w.heap.size + 4 ≤ wr.heap.size) (fun v _ => 8 - (intOf v).toNat)
          case atStart => exact ⟨0, by omega, rfl, hq3, hrB, hrs⟩
          case round =>
            clear hq3 hrB hrs
            obtain ⟨i, hi, rfl, hr3, hrB, hrs⟩ := hrel
            by_cases hlt : i < 8
            · have ni : (i : Int) < 8 := by omega
              obtain ⟨x, hx⟩ : ∃ x, x = (t4 T [s0, s1, s2, s3, s4, s5, s6, s7] i).getD i 0 := ⟨_, rfl⟩
              obtain ⟨y, hy⟩ : ∃ y, y = [s0, s1, s2, s3, s4, s5, s6, s7].getD i 0 := ⟨_, rfl⟩
              have hl4 : (t4 T [s0, s1, s2, s3, s4, s5, s6, s7] i).length = 8 := by rw [t4_length]; exact hTl
              go_upto_region 23 with fail
              refine wp_region_still_tail 7 (by kernel_rfl) (by kernel_rfl) ?_
              simp only [List.take_succ_cons, List.take_zero, List.drop_succ_cons, List.drop_zero]
              change wpStill _ _ wr.drew (fun a' => wpList _ _ _ _ a' wr.drew) _ _
              have hd5 : wr.drew.heap[w.heap.size + 3]? = some (.cells (words (t4 T [s0, s1, s2, s3, s4, s5, s6, s7] i)) 40 (0, 0)) := hr3
              have hd0 : wr.drew.heap[w.heap.size]? = some (.cells (words [s0, s1, s2, s3, s4, s5, s6, s7]) 40 (0, 0)) := by rw [Below.block (Below.drew hrB) _ (by omega)]; exact hX0
              have hdB : Hid (Below (w.heap.size + 3) X wr.drew) := Below.drew hrB
              have hds : w.heap.size + 4 ≤ wr.drew.heap.size := hrs
              generalize hx' : wr.drew = wd at hd5 hd0 hdB hds ⊢
              clear hx' hr3 hrB hrs
              have c5 : wd.cell? ⟨w.heap.size + 3, i, none⟩ = some (.int .u32 (x : Int)) := by rw [cell_of_row _ _ _ _ _ _ hd5, hx]; exact words_get _ _ (by omega)
              have c0 : wd.cell? ⟨w.heap.size, i, none⟩ = some (.int .u32 (y : Int)) := by rw [cell_of_row _ _ _ _ _ _ hd0, hy]; exact words_get _ _ (by simpa using hlt)
              have f5 : wd.frozen? ⟨w.heap.size + 3, i, none⟩ = false := frozen_of_row _ _ _ _ _ hd5
              have hxy : Hid (t4 T [s0, s1, s2, s3, s4, s5, s6, s7] (i + 1) = (t4 T [s0, s1, s2, s3, s4, s5, s6, s7] i).set i ((x + y) % 4294967296)) := by show _ = _; rw [hx, hy]; rfl
              have hd5' : Hid (wd.heap[w.heap.size + 3]? = some (.cells (words (t4 T [s0, s1, s2, s3, s4, s5, s6, s7] i)) 40 (0, 0))) := hd5
              clear hx hy hd5 hd0
              repeat still_step
              refine wpStill_nil ?_
              go_wp2_with fail
              go_roundw
              case rel =>
                refine ⟨i + 1, by omega, by go_num, ?_, ?_, ?_⟩
                · rw [show (((x : Int) + (y : Int)) % 4294967296) = (((x + y) % 4294967296 : Nat) : Int) by omega, heap_setCell_same _ _ _ _ _ _ hd5'.out, words_set, hxy.out]
                · exact Below.setCell hdB (Nat.le_refl _) _
                · simpa using hds
              case measure => simp [intOf]; omega
            · obtain rfl : i = 8 := by omega
              have hlt8 : ¬ ((8 : Nat) : Int) < 8 := by omega
              go_upto_region 24 with fail
              have h1 : wr.heap[w.heap.size + 1]? = some (.cells (words (zeros 8)) 40 (0, 0)) := by rw [hrB.block _ (by omega)]; exact hX1
              have hlen : (t4 T [s0, s1, s2, s3, s4, s5, s6, s7] 8).length = 8 := by rw [t4_length]; exact hTl
              have hB' : Below w.heap.size w wr := hXB.trans (hrB.out.mono (by omega))
              refine wp_region_lit ?_
              refine wpList_load_row rfl 40 _ rfl (w.heap.size + 3) (by kernel_rfl) 40 _ (0, 0) _ hr3 Try.underlying40 rfl (by rw [words_size, hlen]; kernel_rfl) ?_
              refine wpList_store_row rfl 40 _ _ rfl (w.heap.size + 1) _ (by kernel_rfl) (by kernel_rfl) 40 (words (zeros 8)) h1 (by rw [words_size, hlen]; kernel_rfl) (by rw [words_size, words_size, hlen]; rfl) (words_one _) ?_
              refine wpList_nil ?_
              rename_i hK
              exact hK _ _ (wp_ret (bodyPost_ret (results_cell_row rfl _ _ (w.heap.size + 1) 40 (words (t4 T [s0, s1, s2, s3, s4, s5, s6, s7] 8)) (0, 0) _ (by kernel_rfl) (setRow_heap _ _ _ _ _ _ h1) Try.underlying40 rfl (by rw [words_size, hlen]; kernel_rfl)) (by kernel_rfl) ⟨by subst hT; rfl, below_setRow hB' (by omega) _⟩))
end Go.Proofs.Ytnaknnnobcnnfaa.Sha
