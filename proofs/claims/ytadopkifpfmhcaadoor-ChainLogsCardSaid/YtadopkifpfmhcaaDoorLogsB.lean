/-
  The law on logs, walked.
-/
import Derived.Test.YtadopkifpfmhcaaDoorLogsA
set_option linter.unusedVariables false
set_option linter.unusedSimpArgs false
namespace Go.Proofs.YtadopkifpfmhcaaDoor
open Go.RowKit
open Sha (vals Bytes Lies bytesC sumB)
open Go.Proofs.YtadopkifpfmhcaaDoorW.PrintWords Go.Proofs.YtadopkifpfmhcaaDoorW.PrintLast Go.Proofs.YtadopkifpfmhcaaDoorW.PrintMore
theorem load_len {o : Oper} {a : Act} (w : World) (x : Operand) (ho : o.op = .load 34 x) (HB k : Nat) (hx : a.eval x = .pointer (some ⟨HB, 0 + k * 1, none⟩)) (v : Value) (hc : w.cell? ⟨HB, k, none⟩ = some v) : (execOp a.eval o).run Tryd.prog w = .ok (.value v) w :=
  exec_load_cell 34 w x ho ⟨HB, 0 + k * 1, none⟩ hx v (by rw [Nat.zero_add, Nat.mul_one]; exact hc) (fun _ => by kernel_rfl)
theorem load_ln {o : Oper} {a : Act} (w : World) (x : Operand) (ho : o.op = .load 55 x) (b k : Nat) (hx : a.eval x = .pointer (some ⟨b, k, none⟩)) (e : L3) (hc : w.rangeAt b k (encL e).toList) : (execOp a.eval o).run Tryd.prog w = .ok (.value (.agg (encL e))) w :=
  (exec_load_mid 55 w x ho b k hx (encL e).toList _ hc Tryd.underlying55 rfl (by rw [Array.length_toList, encL_size]; kernel_rfl)).trans (by rw [Array.toArray_toList])
set_option maxRecDepth 100000 in
set_option maxHeartbeats 64000000 in
theorem llogs_calls (cut labels : Int) (os : List OpT) (hok : ∀ o ∈ os, o.ok) (A : Option Addr) (n c : Nat) (hn : n = os.length) (w : World) (ht : Tab w) (hy : Rw 38 encO w (.slice A n c) os) :
    Calls Tryd.prog 5 #[.int .i64 cut, .int .i64 labels, .slice A n c] w fun z w' => z = .returned (.bool true) ∧ Below w.heap.size w w' := by
  have htw : Hid (Tab w) := ht
  have hyw : Hid (Rw 38 encO w (.slice A n c) os) := hy
  have hokH : Hid (∀ o ∈ os, o.ok) := hok
  have hn' : Hid (n = os.length) := hn
  have hBw : Hid (Below w.heap.size w w) := Below.refl _ _
  have hWl : 0 < w.heap.size := ht.1
  clear hy hok ht hn
  go_enter Tryd.func5, Tryd.ntmps5
  go_upto_region 1 with fail
  refine wp_region_lit ?_
  refine sg_call (by kernel_rfl) 13 #[] (by kernel_rfl) (R := fun v w' => v = .bool true ∧ Below w.heap.size w w') ((fixed_calls w hWl htw.out).mono fun e w' h => ⟨_, h.1, rfl, h.2⟩) ?_
  rintro _ w1 ⟨rfl, hb⟩
  simp only [Act.put, List.setIfInBounds_toArray, List.set_cons_zero, List.set_cons_succ]
  have hyw1 : Hid (Rw 38 encO w1 (.slice A n c) os) := (hyw.out).below hb
  have hBw1 : Hid (Below w.heap.size w w1) := (hBw.out).trans ((hb).mono (hBw.out).size)
  have htw1 : Hid (Tab w1) := (htw.out).below (htw.out).1 hb
  clear hyw hBw htw
  clear hb
  refine sl_run rfl (.bool false) w1 (by kernel_rfl) ?_
  simp only [Act.put, List.setIfInBounds_toArray, List.set_cons_zero, List.set_cons_succ]
  refine wpList_nil ?_
  go_upto_region 3 with fail
  refine wp_region_lit ?_
  by_cases hbad : cut < 1 ∨ 32 < cut ∨ labels < 1 ∨ 64 < labels
  case pos =>
    refine sl_run rfl (.int .i64 cut) w1 (by kernel_rfl) ?_
    simp only [Act.put, List.setIfInBounds_toArray, List.set_cons_zero, List.set_cons_succ]
    refine sl_run rfl (.int .i64 labels) w1 (by kernel_rfl) ?_
    simp only [Act.put, List.setIfInBounds_toArray, List.set_cons_zero, List.set_cons_succ]
    refine sg_call (by kernel_rfl) 20 #[.int .i64 cut, .int .i64 labels] (by kernel_rfl) (R := fun v w' => v = .tuple #[.pointer none, .int .i64 1] ∧ w1 = w') ((New_bad cut labels w1 hbad).mono fun e w' h => ⟨_, h.1, rfl, h.2⟩) ?_
    rintro _ _ ⟨rfl, rfl⟩
    simp only [Act.put, List.setIfInBounds_toArray, List.set_cons_zero, List.set_cons_succ]
    refine sl_run rfl (.tuple #[.pointer none, .int .i64 1]) w1 (by kernel_rfl) ?_
    simp only [Act.put, List.setIfInBounds_toArray, List.set_cons_zero, List.set_cons_succ]
    refine sl_run rfl (.pointer none) w1 (by kernel_rfl) ?_
    simp only [Act.put, List.setIfInBounds_toArray, List.set_cons_zero, List.set_cons_succ]
    refine sl_run rfl (.int .i64 1) w1 (by kernel_rfl) ?_
    simp only [Act.put, List.setIfInBounds_toArray, List.set_cons_zero, List.set_cons_succ]
    refine sl_run rfl (.pointer none) w1 (by kernel_rfl) ?_
    simp only [Act.put, List.setIfInBounds_toArray, List.set_cons_zero, List.set_cons_succ]
    refine sl_run rfl (.int .i64 1) w1 (by kernel_rfl) ?_
    simp only [Act.put, List.setIfInBounds_toArray, List.set_cons_zero, List.set_cons_succ]
    refine wpList_nil ?_
    clear hyw1 htw1
    by_cases k1 : cut < 1
    · go_wp2_with fail
      go_ret
      exact ⟨rfl, hBw1.out⟩
    by_cases k2 : cut > 32
    · go_wp2_with fail
      go_ret
      exact ⟨rfl, hBw1.out⟩
    by_cases k3 : labels < 1
    · go_wp2_with fail
      go_ret
      exact ⟨rfl, hBw1.out⟩
    have k4 : labels > 64 := by omega
    go_wp2_with fail
    go_ret
    exact ⟨rfl, hBw1.out⟩
  case neg =>
  obtain ⟨cN, rfl⟩ : ∃ k : Nat, cut = (k : Int) := ⟨cut.toNat, by omega⟩
  obtain ⟨lN, rfl⟩ : ∃ k : Nat, labels = (k : Int) := ⟨labels.toNat, by omega⟩
  have hc1 : 1 ≤ cN := by omega
  have hc32 : cN ≤ 32 := by omega
  have hl1 : 1 ≤ lN := by omega
  have hl64 : lN ≤ 64 := by omega
  have k1 : ¬ (cN : Int) < 1 := by omega
  have k2 : ¬ (cN : Int) > 32 := by omega
  have k3 : ¬ (lN : Int) < 1 := by omega
  have k4 : ¬ (lN : Int) > 64 := by omega
  clear hbad
  refine sl_run rfl (.int .i64 (cN : Int)) w1 (by kernel_rfl) ?_
  simp only [Act.put, List.setIfInBounds_toArray, List.set_cons_zero, List.set_cons_succ]
  refine sl_run rfl (.int .i64 (lN : Int)) w1 (by kernel_rfl) ?_
  simp only [Act.put, List.setIfInBounds_toArray, List.set_cons_zero, List.set_cons_succ]
  refine sg_call (by kernel_rfl) 20 #[.int .i64 (cN : Int), .int .i64 (lN : Int)] (by kernel_rfl) (R := fun v w' => ∃ L, v = .tuple #[.pointer (some ⟨L, 0, none⟩), .int .i64 0] ∧ NewI w1 L cN lN w') ((New_calls cN lN hc1 hc32 hl1 hl64 w1).mono fun e w' h => by
    obtain ⟨L, h1, h2⟩ := h
    exact ⟨_, h1, L, rfl, h2⟩) ?_
  rintro _ w2 ⟨L, rfl, hnew⟩
  have hnewH : Hid (NewI w1 L cN lN w2) := hnew
  clear hnew
  simp only [Act.put, List.setIfInBounds_toArray, List.set_cons_zero, List.set_cons_succ]
  refine sl_run rfl (.tuple #[.pointer (some ⟨L, 0, none⟩), .int .i64 0]) w2 (by kernel_rfl) ?_
  simp only [Act.put, List.setIfInBounds_toArray, List.set_cons_zero, List.set_cons_succ]
  refine sl_run rfl (.pointer (some ⟨L, 0, none⟩)) w2 (by kernel_rfl) ?_
  simp only [Act.put, List.setIfInBounds_toArray, List.set_cons_zero, List.set_cons_succ]
  refine sl_run rfl (.int .i64 0) w2 (by kernel_rfl) ?_
  simp only [Act.put, List.setIfInBounds_toArray, List.set_cons_zero, List.set_cons_succ]
  refine sl_run rfl (.pointer (some ⟨L, 0, none⟩)) w2 (by kernel_rfl) ?_
  simp only [Act.put, List.setIfInBounds_toArray, List.set_cons_zero, List.set_cons_succ]
  refine sl_run rfl (.int .i64 0) w2 (by kernel_rfl) ?_
  simp only [Act.put, List.setIfInBounds_toArray, List.set_cons_zero, List.set_cons_succ]
  refine wpList_nil ?_
  go_upto_region 8 with fail
  refine wp_region_lit ?_
  refine sl_run rfl (.int .i64 (lN : Int)) w2 (by kernel_rfl) ?_
  simp only [Act.put, List.setIfInBounds_toArray, List.set_cons_zero, List.set_cons_succ]
  obtain ⟨i34, hi34, hz34, hs34, hb34⟩ := inf34p
  refine sg_run (by kernel_rfl) (.slice (some ⟨w2.heap.size, 0, none⟩) lN lN) (w2.alloc (.cells ((List.range lN).map fun _ => nilS).toArray 34)) ?he ?_
  case he => exact (exec_makeN 44 _ _ rfl 34 i34 _ un44' hi34 hz34 lN (by kernel_rfl) (by kernel_rfl) (by rw [hb34]; omega) (by unfold maxLen; omega)).trans (by rw [hs34, made_nil])
  simp only [Act.put, List.setIfInBounds_toArray, List.set_cons_zero, List.set_cons_succ]
  clear hi34 hz34 hs34 hb34
  have hg0 : Hid (Lg w1 cN lN L w2.heap.size 0 (fun _ => []) (fun _ => []) (w2.alloc (.cells ((List.range lN).map fun _ => nilS).toArray 34))) := Lg.start hnewH.out rfl
  generalize (w2.alloc (.cells ((List.range lN).map fun _ => nilS).toArray 34)) = w3 at hg0 ⊢
  obtain ⟨HB, hHB⟩ : ∃ HB, HB = w2.heap.size := ⟨_, rfl⟩
  rw [← hHB] at hg0 ⊢
  clear hnewH hHB
  refine sl_run rfl (.slice (some ⟨HB, 0, none⟩) lN lN) w3 (by kernel_rfl) ?_
  simp only [Act.put, List.setIfInBounds_toArray, List.set_cons_zero, List.set_cons_succ]
  refine wpList_nil ?_
  go_wp2_with fail
  go_loopw [10] (fun p wr => ∃ (i : Nat) (lst : Nat → List En), i ≤ n ∧ i ≤ 60 ∧ p = .int .i64 (i : Int) ∧ Hid (Lg w1 cN lN L HB i lst lst wr)) (fun p _ => n - (intOf p).toNat)
  case atStart => exact ⟨0, fun _ => [], by omega, by omega, rfl, hg0⟩
  case round =>
    obtain ⟨i, lst, hi, hi6, rfl, hgwo⟩ := hrel
    clear hg0
    obtain ⟨wo, rfl⟩ : ∃ v : World, v = wr := ⟨_, rfl⟩
    have hF : Hid (Below w.heap.size w wo) := hBw1.out.trans (hgwo.out.bel.mono hBw1.out.size)
    by_cases h1 : i < n
    case neg =>
      have hI : ¬ (i : Int) < (n : Int) := by omega
      clear hgwo hyw1 htw1 hBw1
      go_wp2_with fail
      go_ret
      exact ⟨rfl, hF.out⟩
    case pos =>
    have hI : (i : Int) < (n : Int) := by omega
    by_cases h2 : i < 60
    case neg =>
      have hI2 : ¬ (i : Int) < 60 := by omega
      clear hgwo hyw1 htw1 hBw1
      go_wp2_with fail
      go_ret
      exact ⟨rfl, hF.out⟩
    case pos =>
    have hI2 : (i : Int) < 60 := by omega
    clear hF
    obtain ⟨ga, oa, rfl, hnc, hga, hel⟩ := hyw1.out.elem i (by rw [← hn'.out]; exact h1)
    obtain ⟨x, hx⟩ : ∃ x, x = os.getD i default := ⟨_, rfl⟩
    rw [← hx] at hel
    have hxo : x.ok := by
      rw [hx]; exact hokH.out _ (by have := hn'.out; simp [show i < os.length by omega])
    obtain ⟨kd, lb, e, m⟩ := x
    have heH : Hid e.ok := hxo.1
    have hmH : m < 18446744073709551616 := hxo.2.1
    have helH : Hid (∀ w', Below w1.heap.size w1 w' → w'.rangeAt ga (oa + i * 38) (encO ⟨kd, lb, e, m⟩).toList) := fun w' h => range_below hel h hga
    obtain ⟨q, hq4, hq, hq0, hq9⟩ := kind_of kd
    have hqH : Hid (Int.tmod (Int.tmod kd 4 + 4) 4 = (q : Int)) := hq
    have hq0H : Hid (0 ≤ Int.tmod kd 4 + 4 ∧ Int.tmod kd 4 + 4 ≤ 9223372036854775807) := ⟨hq0, hq9⟩
    clear hx hel hxo hq hq0 hq9 hga
    go_upto_region 12 with fail
    refine wp_region_lit ?_
    refine sl_run rfl (.slice (some ⟨ga, oa, none⟩) n c) wo (by kernel_rfl) ?_
    simp only [Act.put, List.setIfInBounds_toArray, List.set_cons_zero, List.set_cons_succ]
    refine sl_run rfl (.int .i64 (i : Int)) wo (by kernel_rfl) ?_
    simp only [Act.put, List.setIfInBounds_toArray, List.set_cons_zero, List.set_cons_succ]
    refine sl_run rfl (.pointer (some ⟨ga, oa + i * 38, none⟩)) wo (exec_index un40 sz40 _ _ rfl ga oa n c i (by kernel_rfl) (by kernel_rfl) h1 wo) ?_
    simp only [Act.put, List.setIfInBounds_toArray, List.set_cons_zero, List.set_cons_succ]
    refine sl_run rfl (.agg (encO ⟨kd, lb, e, m⟩)) wo (load_op wo _ rfl ga (oa + i * 38) (by kernel_rfl) ⟨kd, lb, e, m⟩ (helH.out wo hgwo.out.bel)) ?_
    simp only [Act.put, List.setIfInBounds_toArray, List.set_cons_zero, List.set_cons_succ]
    refine sg_run (by kernel_rfl) (.pointer (some ⟨wo.heap.size, 0, none⟩)) (wo.alloc (.cells (encO default) 47)) (by kernel_rfl) ?_
    simp only [Act.put, List.setIfInBounds_toArray, List.set_cons_zero, List.set_cons_succ]
    refine sl_skipped (by kernel_rfl) ((wo.alloc (.cells (encO default) 47)).setRow wo.heap.size (encO ⟨kd, lb, e, m⟩)) ?he ?_
    case he => exact exec_store_op _ _ rfl wo.heap.size (by kernel_rfl) ⟨kd, lb, e, m⟩ (by kernel_rfl) (encO default) (heap_alloc_new _ _) (encO_size _)
    simp only [Act.put, List.setIfInBounds_toArray, List.set_cons_zero, List.set_cons_succ]
    have hb : Below wo.heap.size wo ((wo.alloc (.cells (encO default) 47)).setRow wo.heap.size (encO ⟨kd, lb, e, m⟩)) := below_setRow ((Below.refl _ _).alloc (Nat.le_refl _) _) (Nat.le_refl _) _
    have hOW : ((wo.alloc (.cells (encO default) 47)).setRow wo.heap.size (encO ⟨kd, lb, e, m⟩)).heap[wo.heap.size]? = some (.cells (encO ⟨kd, lb, e, m⟩) 47 (0, 0)) := setRow_heap _ _ (encO default) _ 47 (0, 0) (heap_alloc_new _ _)
    generalize ((wo.alloc (.cells (encO default) 47)).setRow wo.heap.size (encO ⟨kd, lb, e, m⟩)) = W at hb hOW ⊢
    obtain ⟨B, hBe⟩ : ∃ B, B = wo.heap.size := ⟨_, rfl⟩
    have hgW : Hid (Lg w1 cN lN L HB i lst lst W) := hgwo.out.below hb
    rw [← hBe] at hOW ⊢
    have hOW : Hid (W.heap[B]? = some (.cells (encO ⟨kd, lb, e, m⟩) 47 (0, 0))) := hOW
    clear hb hBe hgwo helH
    refine wpList_nil ?_
    go_upto_region 13 with fail
    obtain ⟨th, hth⟩ : ∃ b : Bool, b = decide (0 ≤ lb ∧ lb < (lN : Int)) := ⟨_, rfl⟩
    have hthH : Hid (th = decide (0 ≤ lb ∧ lb < (lN : Int))) := hth
    clear hth
    go_cut [12] from 73 to 81 (fun s12 wc => s12 = .bool th ∧ wc = W)
    case first =>
      have c1 : W.cell? ⟨B, 1, none⟩ = some (.int .i64 lb) := cellO1 hOW.out
      by_cases p1 : lb ≥ 0
      · by_cases p2 : lb < (lN : Int)
        · have d : Hid (decide (0 ≤ lb ∧ lb < (lN : Int)) = true) := decide_eq_true ⟨p1, p2⟩
          go_wp2_with fail
          go_meet
          exact ⟨by rw [hthH.out, d.out], rfl⟩
        · have d : Hid (decide (0 ≤ lb ∧ lb < (lN : Int)) = false) := decide_eq_false (fun h => p2 h.2)
          go_wp2_with fail
          go_meet
          exact ⟨by rw [hthH.out, d.out], rfl⟩
      · have d : Hid (decide (0 ≤ lb ∧ lb < (lN : Int)) = false) := decide_eq_false (fun h => p1 h.1)
        go_wp2_with fail
        go_meet
        exact ⟨by rw [hthH.out, d.out], rfl⟩
    case rest =>
    obtain ⟨rfl, hwc⟩ := hcut
    subst wc
    go_upto_region 14 with fail
    refine wp_region_lit ?_
    refine sl_run rfl (.pointer (some ⟨B, 0, none⟩)) W (by kernel_rfl) ?_
    simp only [Act.put, List.setIfInBounds_toArray, List.set_cons_zero, List.set_cons_succ]
    refine sl_run rfl (.int .i64 kd) W (exec_load_cell 3 W _ rfl ⟨B, 0, none⟩ (by kernel_rfl) _ (cellO0 hOW.out) (fun _ => by kernel_rfl)) ?_
    simp only [Act.put, List.setIfInBounds_toArray, List.set_cons_zero, List.set_cons_succ]
    refine sl_run rfl (.int .i64 (Int.tmod kd 4)) W (exec_remI _ _ rfl kd (by kernel_rfl) (by kernel_rfl) _) ?_
    simp only [Act.put, List.setIfInBounds_toArray, List.set_cons_zero, List.set_cons_succ]
    refine sl_run rfl (.int .i64 (Int.tmod kd 4 + 4)) W (exec_add2 _ _ rfl (Int.tmod kd 4) 4 (by kernel_rfl) (by kernel_rfl) hq0H.out.1 hq0H.out.2 _) ?_
    simp only [Act.put, List.setIfInBounds_toArray, List.set_cons_zero, List.set_cons_succ]
    refine sl_run rfl (.int .i64 (q : Int)) W ((exec_remI _ _ rfl (Int.tmod kd 4 + 4) (by kernel_rfl) (by kernel_rfl) _).trans (by rw [hqH.out])) ?_
    simp only [Act.put, List.setIfInBounds_toArray, List.set_cons_zero, List.set_cons_succ]
    refine wpList_nil ?_
    clear hqH hq0H
    have hqq : q = 0 ∨ q = 1 ∨ q = 2 ∨ q = 3 := by omega
    rcases hqq with rfl | rfl | rfl | rfl
    · cases th with
      | true =>
        obtain ⟨k, rfl⟩ : ∃ k : Nat, lb = (k : Int) := ⟨lb.toNat, by have := of_decide_eq_true hthH.out.symm; omega⟩
        have hk : k < lN := by have := of_decide_eq_true hthH.out.symm; omega
        clear hthH
        obtain ⟨gd, hgd⟩ : ∃ b, b = goodE e := ⟨_, rfl⟩
        have hgdH : Hid (gd = goodE e) := hgd
        clear hgd
        go_upto_region 16 with fail
        refine wp_region_lit ?_
        cases gd with
        | true =>
          refine sl_run rfl (.pointer (some ⟨L, 0, none⟩)) W (by kernel_rfl) ?_
          simp only [Act.put, List.setIfInBounds_toArray, List.set_cons_zero, List.set_cons_succ]
          refine sl_run rfl (.pointer (some ⟨B, 1, none⟩)) W (by kernel_rfl) ?_
          simp only [Act.put, List.setIfInBounds_toArray, List.set_cons_zero, List.set_cons_succ]
          refine sl_run rfl (.int .i64 (k : Int)) W (exec_load_cell 3 W _ rfl ⟨B, 1, none⟩ (by kernel_rfl) _ (cellO1 hOW.out) (fun _ => by kernel_rfl)) ?_
          simp only [Act.put, List.setIfInBounds_toArray, List.set_cons_zero, List.set_cons_succ]
          refine sl_run rfl (.pointer (some ⟨B, 2, none⟩)) W (by kernel_rfl) ?_
          simp only [Act.put, List.setIfInBounds_toArray, List.set_cons_zero, List.set_cons_succ]
          refine sl_run rfl (.agg (encE e)) W (load_en W _ rfl B 2 (by kernel_rfl) e (rangeO hOW.out)) ?_
          simp only [Act.put, List.setIfInBounds_toArray, List.set_cons_zero, List.set_cons_succ]
          refine sg_call (by kernel_rfl) 21 #[.pointer (some ⟨L, 0, none⟩), .int .i64 (k : Int), .agg (encE e)] (by kernel_rfl) (R := fun v w' => v = .int .i64 0 ∧ Lg w1 cN lN L HB i (upd lst k (lst k ++ [e])) lst w' ∧ KK W w') ((hgW.out.put hc1 hc32 k hk e heH.out hgdH.out.symm (by omega)).mono fun e w' h => ⟨_, h.1, rfl, h.2⟩) ?_
          rintro _ W2 ⟨rfl, hg2, hk2⟩
          simp only [Act.put, List.setIfInBounds_toArray, List.set_cons_zero, List.set_cons_succ]
          have hgW2 : Hid (Lg w1 cN lN L HB i (upd lst k (lst k ++ [e])) lst W2) := hg2
          have hOW2 : Hid (W2.heap[B]? = some (.cells (encO ⟨kd, (k : Int), e, m⟩) 47 (0, 0))) := hk2 _ _ _ hOW.out (by decide) (by decide)
          clear hg2 hk2 hgW hOW
          refine sl_run rfl (.int .i64 0) W2 (by kernel_rfl) ?_
          simp only [Act.put, List.setIfInBounds_toArray, List.set_cons_zero, List.set_cons_succ]
          refine wpList_nil ?_
          go_upto_region 17 with fail
          refine wp_region_lit ?_
          refine sl_run rfl (.bool true) W2 (by kernel_rfl) ?_
          simp only [Act.put, List.setIfInBounds_toArray, List.set_cons_zero, List.set_cons_succ]
          refine sl_run rfl (.bool true) W2 (by kernel_rfl) ?_
          simp only [Act.put, List.setIfInBounds_toArray, List.set_cons_zero, List.set_cons_succ]
          refine sg_run (by kernel_rfl) (.pointer (some ⟨B, 2, none⟩)) W2 (by kernel_rfl) ?_
          simp only [Act.put, List.setIfInBounds_toArray, List.set_cons_zero, List.set_cons_succ]
          refine sg_run (by kernel_rfl) (.agg (encE e)) W2 (load_en W2 _ rfl B 2 (by kernel_rfl) e (rangeO hOW2.out)) ?_
          simp only [Act.put, List.setIfInBounds_toArray, List.set_cons_zero, List.set_cons_succ]
          refine sg_call (by kernel_rfl) 15 #[.agg (encE e)] (by kernel_rfl) (R := fun v w' => v = .bool true ∧ Below W2.heap.size W2 w') ((hgdH.out ▸ rgood_calls e W2).mono fun e w' h => ⟨_, h.1, rfl, h.2⟩) ?_
          rintro _ W3 ⟨rfl, hb⟩
          simp only [Act.put, List.setIfInBounds_toArray, List.set_cons_zero, List.set_cons_succ]
          have hgW3 : Hid (Lg w1 cN lN L HB i (upd lst k (lst k ++ [e])) lst W3) := (hgW2.out).below hb
          have hOW3 : Hid (W3.heap[B]? = some (.cells (encO ⟨kd, (k : Int), e, m⟩) 47 (0, 0))) := heap_kept hOW2.out hb
          clear hgW2 hOW2
          clear hb
          refine sl_run rfl (.bool true) W3 (by kernel_rfl) ?_
          simp only [Act.put, List.setIfInBounds_toArray, List.set_cons_zero, List.set_cons_succ]
          refine wpList_nil ?_
          have hgE := hgW3.out
          have hgEH : Hid (goodE e = true) := hgdH.out.symm
          obtain ⟨⟨pv, G, Hh, E, V, g1, g2, g3⟩, g4, g5, g6⟩ := hgE
          have g1H : Hid (LogI W3 w1.heap.size L cN lN pv G Hh E (upd lst k (lst k ++ [e]))) := g1
          have g2H : Hid (HaveI W3 w1.heap.size HB lN V lst) := g2
          have g3H : Hid (∀ j k, j < lN → k < lN → ∀ q, (V j).ownBlock = some q → (E k).ownBlock ≠ some q) := g3
          have g4H : Hid (∀ k, (lst k).length ≤ i) := g4
          have g5H : Hid (∀ k, ∀ x ∈ lst k, x.ok ∧ goodE x = true) := g5
          have g6H : Hid (Below w1.heap.size w1 W3) := g6
          have hoV : Hid (W3.ownsRow w1.heap.size 24 35 (V k) (lst k).length (flat encE (lst k))) := g2.own k hk
          have hcV : Hid (W3.cell? ⟨HB, k, none⟩ = some (V k)) := g2.cell hk
          have hrV : Hid (W3.heap[HB]? = some (.cells ((List.range lN).map V).toArray 34 (0, 0))) := g2.row
          have hVB : Hid (∀ q, (V k).ownBlock = some q → q < W3.heap.size) := fun q hq => ((g2.own k hk).lt q hq).2
          have hnBV : Hid (some B ≠ (V k).ownBlock) := own_kind (g2.own k hk) hOW3.out (by decide)
          have hnHV : Hid (some HB ≠ (V k).ownBlock) := own_kind (g2.own k hk) g2.row (by decide)
          have hnBH : Hid (B ≠ HB) := fun e9 => by have h8 := hOW3.out; rw [e9, g2.row] at h8; simp at h8
          have h16 : (lst k).length ≤ 60 := Nat.le_trans (g4 k) hi6
          obtain ⟨VV, hVV⟩ : ∃ v, v = V k := ⟨_, rfl⟩
          clear g1 g2 g3 g4 g5 g6
          rw [← hVV] at hoV hcV hVB hnBV hnHV
          have hVVH : Hid (VV = V k) := hVV
          obtain ⟨i24, z24, hi24, hz24, hs24, hb24, hc24⟩ := inf24p
          have hi24H : Hid (Tryd.prog.info? 24 = some i24) := hi24
          have hz24H : Hid (i24.zero = some z24) := hz24
          have hs24H : Hid (i24.size = 35) := hs24
          have hb24H : Hid (i24.bytes = 72) := hb24
          have hc24H : Hid (z24.cells.size = 35) := hc24
          clear hVV hi24 hz24 hs24 hb24 hc24 hgdH
          go_upto_region 18 with fail
          refine wp_normalG ?_
          refine wp_leaves (α := Value × Value) (fun d a => (((((((((((((a.put (some 101) (.slice (some ⟨HB, 0, none⟩) lN lN)).put (some 102) (.pointer (some ⟨B, 1, none⟩))).put (some 103) (.int .i64 (k : Int))).put (some 104) (.slice (some ⟨HB, 0, none⟩) lN lN)).put (some 105) (.pointer (some ⟨B, 1, none⟩))).put (some 106) (.int .i64 (k : Int))).put (some 107) (.pointer (some ⟨HB, 0 + k * 1, none⟩))).put (some 108) (VV)).put (some 109) (.pointer (some ⟨B, 2, none⟩))).put (some 110) (.agg (encE e))).put (some 111) (d.1)).put (some 112) (d.2)).put (some 113) (.pointer (some ⟨HB, 0 + k * 1, none⟩)))) (fun d w' => Lg w1 cN lN L HB (i + 1) (upd lst k (lst k ++ [e])) (upd lst k (lst k ++ [e])) w') ?_ ?_
          · refine wp_region_held_drew (S := fun w' => KpS (fun q => q = HB ∨ (V k).ownBlock = some q) W3 w') (by kernel_rfl) (KpS.of (Below.refl _ _).drew) (fun hS => ?_)
            change wpAnyH _ _ _ _ _ 14 (Array.replicate 14 false) _ _
            have hB0 : Below W3.heap.size W3 W3.drew := (Below.refl _ _).drew
            generalize hx : W3.drew = y at hS hB0
            clear hx
            have hOS : Hid (∀ w', KpS (fun q => q = HB ∨ (V k).ownBlock = some q) W3 w' → w'.heap[B]? = some (.cells (encO ⟨kd, (k : Int), e, m⟩) 47 (0, 0))) := fun w' h => h.heap hOW3.out (fun h9 => by
              rcases h9 with h9 | h9
              · exact hnBH.out h9
              · exact hnBV.out (by rw [hVVH.out, h9]))
            refine held_take 0 rfl (by kernel_rfl) (by kernel_rfl) (by kernel_rfl) (.slice (some ⟨HB, 0, none⟩) lN lN) (fun _ _ _ h => nomatch h.1) (by kernel_rfl) (fun w' h => by kernel_rfl) hS ?_
            simp only [Act.put, List.setIfInBounds_toArray, List.set_cons_zero, List.set_cons_succ, List.getElem_toArray, List.getElem_cons_succ, List.getElem_cons_zero]
            refine held_take 1 rfl (by kernel_rfl) (by kernel_rfl) (by kernel_rfl) (.pointer (some ⟨B, 1, none⟩)) (fun _ _ _ h => nomatch h.1) (by kernel_rfl) (fun w' h => by kernel_rfl) hS ?_
            simp only [Act.put, List.setIfInBounds_toArray, List.set_cons_zero, List.set_cons_succ, List.getElem_toArray, List.getElem_cons_succ, List.getElem_cons_zero]
            refine held_take 2 rfl (by kernel_rfl) (by kernel_rfl) (by kernel_rfl) (.int .i64 (k : Int)) (fun _ _ _ h => nomatch h.1) (by kernel_rfl) (fun w' h => exec_load_cell 3 w' _ rfl ⟨B, 1, none⟩ (by kernel_rfl) _ (cellO1 (hOS.out w' h)) (fun _ => by kernel_rfl)) hS ?_
            simp only [Act.put, List.setIfInBounds_toArray, List.set_cons_zero, List.set_cons_succ, List.getElem_toArray, List.getElem_cons_succ, List.getElem_cons_zero]
            refine held_take 3 rfl (by kernel_rfl) (by kernel_rfl) (by kernel_rfl) (.slice (some ⟨HB, 0, none⟩) lN lN) (fun _ _ _ h => nomatch h.1) (by kernel_rfl) (fun w' h => by kernel_rfl) hS ?_
            simp only [Act.put, List.setIfInBounds_toArray, List.set_cons_zero, List.set_cons_succ, List.getElem_toArray, List.getElem_cons_succ, List.getElem_cons_zero]
            refine held_take 4 rfl (by kernel_rfl) (by kernel_rfl) (by kernel_rfl) (.pointer (some ⟨B, 1, none⟩)) (fun _ _ _ h => nomatch h.1) (by kernel_rfl) (fun w' h => by kernel_rfl) hS ?_
            simp only [Act.put, List.setIfInBounds_toArray, List.set_cons_zero, List.set_cons_succ, List.getElem_toArray, List.getElem_cons_succ, List.getElem_cons_zero]
            refine held_take 5 rfl (by kernel_rfl) (by kernel_rfl) (by kernel_rfl) (.int .i64 (k : Int)) (fun _ _ _ h => nomatch h.1) (by kernel_rfl) (fun w' h => exec_load_cell 3 w' _ rfl ⟨B, 1, none⟩ (by kernel_rfl) _ (cellO1 (hOS.out w' h)) (fun _ => by kernel_rfl)) hS ?_
            simp only [Act.put, List.setIfInBounds_toArray, List.set_cons_zero, List.set_cons_succ, List.getElem_toArray, List.getElem_cons_succ, List.getElem_cons_zero]
            refine held_take 6 rfl (by kernel_rfl) (by kernel_rfl) (by kernel_rfl) (.pointer (some ⟨HB, 0 + k * 1, none⟩)) (fun _ _ _ h => nomatch h.1) (by kernel_rfl) (fun w' h => exec_index un44 sz44 _ _ rfl HB 0 lN lN k (by kernel_rfl) (by kernel_rfl) hk _) hS ?_
            simp only [Act.put, List.setIfInBounds_toArray, List.set_cons_zero, List.set_cons_succ, List.getElem_toArray, List.getElem_cons_succ, List.getElem_cons_zero]
            refine held_take 8 rfl (by kernel_rfl) (by kernel_rfl) (by kernel_rfl) (.pointer (some ⟨B, 2, none⟩)) (fun _ _ _ h => nomatch h.1) (by kernel_rfl) (fun w' h => by kernel_rfl) hS ?_
            simp only [Act.put, List.setIfInBounds_toArray, List.set_cons_zero, List.set_cons_succ, List.getElem_toArray, List.getElem_cons_succ, List.getElem_cons_zero]
            refine held_take 9 rfl (by kernel_rfl) (by kernel_rfl) (by kernel_rfl) (.agg (encE e)) (fun _ _ _ h => nomatch h.1) (by kernel_rfl) (fun w' h => load_en w' _ rfl B 2 (by kernel_rfl) e (rangeO (hOS.out w' h))) hS ?_
            simp only [Act.put, List.setIfInBounds_toArray, List.set_cons_zero, List.set_cons_succ, List.getElem_toArray, List.getElem_cons_succ, List.getElem_cons_zero]
            have hoy0 : y.ownsRow w1.heap.size 24 35 VV (lst k).length (flat encE (lst k)) := own_keep hoV.out (fun q hq => hB0.block q (hVB.out q hq))
            have hcy0 : y.cell? ⟨HB, k, none⟩ = some VV := by rw [hB0.cell (by exact (Array.getElem?_eq_some_iff.1 hrV.out).1)]; exact hcV.out
            have hry0 : y.heap[HB]? = some (.cells ((List.range lN).map V).toArray 34 (0, 0)) := heap_kept hrV.out hB0
            have hSz : W3.heap.size ≤ y.heap.size := hB0.size
            have hSy : KpS (fun q => q = HB ∨ (V k).ownBlock = some q) W3 (y.alloc (.cells (encE e) 24)) := KpS.of (hB0.alloc hB0.size _)
            refine held_both 7 10 rfl rfl (by kernel_rfl) (by kernel_rfl) (by kernel_rfl) (fun K hK => ?_) (fun K hK => ?_)
            · refine wp_ran VV y ?he ?_
              case he => exact load_len y _ rfl HB k (by kernel_rfl) VV hcy0
              refine hK _ _ hS ?_
              simp only [Act.put, List.setIfInBounds_toArray, List.set_cons_zero, List.set_cons_succ, List.getElem_toArray, List.getElem_cons_succ, List.getElem_cons_zero]
              clear hK
              have hdy : (y.alloc (.cells (encE e) 24)).heap[y.heap.size]? = some (.cells (encE e) 24 (0, 0)) := heap_alloc_new _ _
              refine held_new 10 rfl (by kernel_rfl) (by kernel_rfl) (.slice (some ⟨y.heap.size, 0, none⟩) 1 1) (y.alloc (.cells (encE e) 24)) ?he (fun w' => w' = y.alloc (.cells (encE e) 24)) rfl ?_
              case he => exact exec_bs24 _ rfl e (by kernel_rfl) _
              rintro y5 hy5
              have hoy : y5.ownsRow w1.heap.size 24 35 VV (lst k).length (flat encE (lst k)) := by rw [hy5]; exact own_keep hoy0 (fun q hq => heap_alloc_old _ _ (hoy0.lt q hq).2)
              have hry : y5.heap[HB]? = some (.cells ((List.range lN).map V).toArray 34 (0, 0)) := by rw [hy5]; exact (heap_alloc_old _ _ (Array.getElem?_eq_some_iff.1 hry0).1).trans hry0
              have hby : ∀ j, j < [e].length → y5.rangeAt y.heap.size (0 + j * 35) (encE ([e].getD j default)).toList := run_elem (rw_one24 (by rw [hy5]; exact hdy))
              have hS5 : KpS (fun q => q = HB ∨ (V k).ownBlock = some q) W3 y5 := by rw [hy5]; exact hSy
              have hbase : W3.heap.size ≤ y5.heap.size := hS5.size
              refine ⟨hS5, ?_⟩
              simp only [Act.put, List.setIfInBounds_toArray, List.set_cons_zero, List.set_cons_succ, List.getElem_toArray, List.getElem_cons_succ, List.getElem_cons_zero]
              clear hdy hy5
              generalize y.heap.size = gb at hby ⊢
              have hcy : True := trivial
              refine held_got 11 rfl (by kernel_rfl) (by kernel_rfl) (R := fun v w' => w'.ownsRow w1.heap.size 24 35 v (lst k ++ [e]).length (flat encE (lst k ++ [e])) ∧ y5.grownBy w' VV.ownBlock ∧ (v.ownBlock = VV.ownBlock ∨ ∀ q, v.ownBlock = some q → y5.heap.size ≤ q)) ?he ?_
              case he => exact exec_appendW 34 24 72 i24 z24 un34 hi24H.out hz24H.out hs24H.out hb24H.out hc24H.out (by decide) encE_size' encE_one _ _ rfl w1.heap.size VV (lst k) [e] (by kernel_rfl) hoy gb 0 1 (by kernel_rfl) hby (by simp; omega) (by simp; omega) (Nat.le_trans g6H.out.size hS5.size)
              rintro v9 y9 ⟨hown9, hgr9, hwh9⟩
              have hS9 : KpS (fun q => q = HB ∨ (V k).ownBlock = some q) W3 y9 := hS5.grown hgr9 (fun q hq => .inl (.inr (by rw [← hVVH.out, hq])))
              refine ⟨hS9, ?_⟩
              simp only [Act.put, List.setIfInBounds_toArray, List.set_cons_zero, List.set_cons_succ, List.getElem_toArray, List.getElem_cons_succ, List.getElem_cons_zero]
              have hr9 : y9.heap[HB]? = some (.cells ((List.range lN).map V).toArray 34 (0, 0)) := (hgr9.block _ (Array.getElem?_eq_some_iff.1 hry).1 hnHV.out).trans hry
              have hne9 : some HB ≠ v9.ownBlock := own_kind hown9 hr9 (by decide)
              clear hgr9 hoy hby hcy hS5
              refine held_take 12 rfl (by kernel_rfl) (by kernel_rfl) (by kernel_rfl) (.pointer (some ⟨HB, 0 + k * 1, none⟩)) (fun _ _ _ h => nomatch h.1) (by kernel_rfl) (fun w' h => exec_index un44 sz44 _ _ rfl HB 0 lN lN k (by kernel_rfl) (by kernel_rfl) hk _) hS9 ?_
              simp only [Act.put, List.setIfInBounds_toArray, List.set_cons_zero, List.set_cons_succ, List.getElem_toArray, List.getElem_cons_succ, List.getElem_cons_zero]
              have hlenV : k < ((List.range lN).map V).toArray.size := by simp; exact hk
              have hcell9 : y9.cell? ⟨HB, k, none⟩ = some (V k) := by rw [cell_of_row _ _ _ _ _ _ hr9]; simp [hk]
              have hfr9 : y9.frozen? ⟨HB, k, none⟩ = false := frozen_of_row _ _ _ _ _ hr9
              have hone9 : v9.cells = #[v9] ∧ v9.oneCell' = true := by
                obtain ⟨A9, c9, rfl⟩ := own_form hown9
                exact ⟨rfl, rfl⟩
              have hSa := hS9.set HB k v9 (.inl (.inl rfl))
              have hra : (y9.setCell ⟨HB, k, none⟩ v9).heap[HB]? = some (.cells (((List.range lN).map V).toArray.setIfInBounds k v9) 34 (0, 0)) := heap_setCell_same _ _ _ _ _ _ hr9
              have howna : (y9.setCell ⟨HB, k, none⟩ v9).ownsRow w1.heap.size 24 35 v9 (lst k ++ [e]).length (flat encE (lst k ++ [e])) := own_keep hown9 (fun q hq => Below.heap_setCell y9 ⟨HB, k, none⟩ v9 q (fun e9 => hne9 (by rw [hq]; exact congrArg some e9.symm)))
              refine held_did 13 rfl (by kernel_rfl) (by kernel_rfl) (y9.setCell ⟨HB, k, none⟩ v9) ?he ?hSS ?_
              case he => exact exec_store_cell 34 _ _ rfl HB k (by rw [show (⟨HB, k, none⟩ : Addr) = ⟨HB, 0 + k * 1, none⟩ by simp]; kernel_rfl) v9 (by kernel_rfl) (V k) hcell9 hfr9 (fun w => by kernel_rfl) hone9.1 hone9.2
              case hSS => exact hSa
              simp only [Act.put, List.setIfInBounds_toArray, List.set_cons_zero, List.set_cons_succ, List.getElem_toArray, List.getElem_cons_succ, List.getElem_cons_zero]
              refine wpAnyH_done (by kernel_rfl) ?_ _
              exact ⟨rfl, (.slice (some ⟨gb, 0, none⟩) 1 1, v9), by kernel_rfl, Lg.had g1H.out g2H.out g3H.out g4H.out g5H.out g6H.out hk heH.out hgEH.out hSa howna hra (by
                rw [← hVVH.out]
                rcases hwh9 with h9 | h9
                · exact .inl h9
                · exact .inr (fun q hq => Nat.le_trans hbase (h9 q hq)))⟩
            · have hdy : (y.alloc (.cells (encE e) 24)).heap[y.heap.size]? = some (.cells (encE e) 24 (0, 0)) := heap_alloc_new _ _
              refine wp_ran (.slice (some ⟨y.heap.size, 0, none⟩) 1 1) (y.alloc (.cells (encE e) 24)) ?he ?_
              case he => exact exec_bs24 _ rfl e (by kernel_rfl) _
              refine hK _ _ hSy ?_
              simp only [Act.put, List.setIfInBounds_toArray, List.set_cons_zero, List.set_cons_succ, List.getElem_toArray, List.getElem_cons_succ, List.getElem_cons_zero]
              clear hK
              have hoy : (y.alloc (.cells (encE e) 24)).ownsRow w1.heap.size 24 35 VV (lst k).length (flat encE (lst k)) := own_keep hoy0 (fun q hq => heap_alloc_old _ _ (hoy0.lt q hq).2)
              have hry : (y.alloc (.cells (encE e) 24)).heap[HB]? = some (.cells ((List.range lN).map V).toArray 34 (0, 0)) := (heap_alloc_old _ _ (Array.getElem?_eq_some_iff.1 hry0).1).trans hry0
              have hcy : (y.alloc (.cells (encE e) 24)).cell? ⟨HB, k, none⟩ = some VV := by rw [cell_of_row _ _ _ _ _ _ hry]; rw [cell_of_row _ _ _ _ _ _ hry0] at hcy0; exact hcy0
              have hS5 := hSy
              clear hSy hoy0 hry0 hcy0
              generalize (y.alloc (.cells (encE e) 24)) = y5 at hdy hoy hry hcy hS5 ⊢
              generalize y.heap.size = gb at hdy hSz ⊢
              have hby : ∀ j, j < [e].length → y5.rangeAt gb (0 + j * 35) (encE ([e].getD j default)).toList := run_elem (rw_one24 hdy)
              have hbase : W3.heap.size ≤ y5.heap.size := hS5.size
              refine held_run 7 rfl (by kernel_rfl) (by kernel_rfl) VV y5 ?he hS5 ?_
              case he => exact load_len y5 _ rfl HB k (by kernel_rfl) VV hcy
              simp only [Act.put, List.setIfInBounds_toArray, List.set_cons_zero, List.set_cons_succ, List.getElem_toArray, List.getElem_cons_succ, List.getElem_cons_zero]
              refine held_got 11 rfl (by kernel_rfl) (by kernel_rfl) (R := fun v w' => w'.ownsRow w1.heap.size 24 35 v (lst k ++ [e]).length (flat encE (lst k ++ [e])) ∧ y5.grownBy w' VV.ownBlock ∧ (v.ownBlock = VV.ownBlock ∨ ∀ q, v.ownBlock = some q → y5.heap.size ≤ q)) ?he ?_
              case he => exact exec_appendW 34 24 72 i24 z24 un34 hi24H.out hz24H.out hs24H.out hb24H.out hc24H.out (by decide) encE_size' encE_one _ _ rfl w1.heap.size VV (lst k) [e] (by kernel_rfl) hoy gb 0 1 (by kernel_rfl) hby (by simp; omega) (by simp; omega) (Nat.le_trans g6H.out.size hS5.size)
              rintro v9 y9 ⟨hown9, hgr9, hwh9⟩
              have hS9 : KpS (fun q => q = HB ∨ (V k).ownBlock = some q) W3 y9 := hS5.grown hgr9 (fun q hq => .inl (.inr (by rw [← hVVH.out, hq])))
              refine ⟨hS9, ?_⟩
              simp only [Act.put, List.setIfInBounds_toArray, List.set_cons_zero, List.set_cons_succ, List.getElem_toArray, List.getElem_cons_succ, List.getElem_cons_zero]
              have hr9 : y9.heap[HB]? = some (.cells ((List.range lN).map V).toArray 34 (0, 0)) := (hgr9.block _ (Array.getElem?_eq_some_iff.1 hry).1 hnHV.out).trans hry
              have hne9 : some HB ≠ v9.ownBlock := own_kind hown9 hr9 (by decide)
              clear hgr9 hoy hby hcy hS5
              refine held_take 12 rfl (by kernel_rfl) (by kernel_rfl) (by kernel_rfl) (.pointer (some ⟨HB, 0 + k * 1, none⟩)) (fun _ _ _ h => nomatch h.1) (by kernel_rfl) (fun w' h => exec_index un44 sz44 _ _ rfl HB 0 lN lN k (by kernel_rfl) (by kernel_rfl) hk _) hS9 ?_
              simp only [Act.put, List.setIfInBounds_toArray, List.set_cons_zero, List.set_cons_succ, List.getElem_toArray, List.getElem_cons_succ, List.getElem_cons_zero]
              have hlenV : k < ((List.range lN).map V).toArray.size := by simp; exact hk
              have hcell9 : y9.cell? ⟨HB, k, none⟩ = some (V k) := by rw [cell_of_row _ _ _ _ _ _ hr9]; simp [hk]
              have hfr9 : y9.frozen? ⟨HB, k, none⟩ = false := frozen_of_row _ _ _ _ _ hr9
              have hone9 : v9.cells = #[v9] ∧ v9.oneCell' = true := by
                obtain ⟨A9, c9, rfl⟩ := own_form hown9
                exact ⟨rfl, rfl⟩
              have hSa := hS9.set HB k v9 (.inl (.inl rfl))
              have hra : (y9.setCell ⟨HB, k, none⟩ v9).heap[HB]? = some (.cells (((List.range lN).map V).toArray.setIfInBounds k v9) 34 (0, 0)) := heap_setCell_same _ _ _ _ _ _ hr9
              have howna : (y9.setCell ⟨HB, k, none⟩ v9).ownsRow w1.heap.size 24 35 v9 (lst k ++ [e]).length (flat encE (lst k ++ [e])) := own_keep hown9 (fun q hq => Below.heap_setCell y9 ⟨HB, k, none⟩ v9 q (fun e9 => hne9 (by rw [hq]; exact congrArg some e9.symm)))
              refine held_did 13 rfl (by kernel_rfl) (by kernel_rfl) (y9.setCell ⟨HB, k, none⟩ v9) ?he ?hSS ?_
              case he => exact exec_store_cell 34 _ _ rfl HB k (by rw [show (⟨HB, k, none⟩ : Addr) = ⟨HB, 0 + k * 1, none⟩ by simp]; kernel_rfl) v9 (by kernel_rfl) (V k) hcell9 hfr9 (fun w => by kernel_rfl) hone9.1 hone9.2
              case hSS => exact hSa
              simp only [Act.put, List.setIfInBounds_toArray, List.set_cons_zero, List.set_cons_succ, List.getElem_toArray, List.getElem_cons_succ, List.getElem_cons_zero]
              refine wpAnyH_done (by kernel_rfl) ?_ _
              exact ⟨rfl, (.slice (some ⟨gb, 0, none⟩) 1 1, v9), by kernel_rfl, Lg.had g1H.out g2H.out g3H.out g4H.out g5H.out g6H.out hk heH.out hgEH.out hSa howna hra (by
                rw [← hVVH.out]
                rcases hwh9 with h9 | h9
                · exact .inl h9
                · exact .inr (fun q hq => Nat.le_trans hbase (h9 q hq)))⟩
          rintro ⟨d1, d2⟩ W4 hgW4
          refine ⟨rfl, ?_⟩
          rename_i hK
          refine hK _ _ ?_
          clear hK
          simp only [Act.put, List.setIfInBounds_toArray, List.set_cons_zero, List.set_cons_succ]
          have hR : Hid (Lg w1 cN lN L HB (i + 1) (upd lst k (lst k ++ [e])) (upd lst k (lst k ++ [e])) W4) := hgW4
          clear hgW4 hgW3 hOW3 g1H g2H g3H g4H g5H g6H hoV hcV hrV hVB hnBV hnHV hnBH hVVH hi24H hz24H hs24H hb24H hc24H
          clear hyw1 htw1 hBw1 hokH hn'
          go_wp2_with fail
          go_roundw
          case rel => exact ⟨i + 1, upd lst k (lst k ++ [e]), by omega, by omega, by go_num, hR⟩
          case measure => simp [intOf]; omega
        | false =>
          refine sl_run rfl (.pointer (some ⟨L, 0, none⟩)) W (by kernel_rfl) ?_
          simp only [Act.put, List.setIfInBounds_toArray, List.set_cons_zero, List.set_cons_succ]
          refine sl_run rfl (.pointer (some ⟨B, 1, none⟩)) W (by kernel_rfl) ?_
          simp only [Act.put, List.setIfInBounds_toArray, List.set_cons_zero, List.set_cons_succ]
          refine sl_run rfl (.int .i64 (k : Int)) W (exec_load_cell 3 W _ rfl ⟨B, 1, none⟩ (by kernel_rfl) _ (cellO1 hOW.out) (fun _ => by kernel_rfl)) ?_
          simp only [Act.put, List.setIfInBounds_toArray, List.set_cons_zero, List.set_cons_succ]
          refine sl_run rfl (.pointer (some ⟨B, 2, none⟩)) W (by kernel_rfl) ?_
          simp only [Act.put, List.setIfInBounds_toArray, List.set_cons_zero, List.set_cons_succ]
          refine sl_run rfl (.agg (encE e)) W (load_en W _ rfl B 2 (by kernel_rfl) e (rangeO hOW.out)) ?_
          simp only [Act.put, List.setIfInBounds_toArray, List.set_cons_zero, List.set_cons_succ]
          refine sg_call (by kernel_rfl) 21 #[.pointer (some ⟨L, 0, none⟩), .int .i64 (k : Int), .agg (encE e)] (by kernel_rfl) (R := fun v w' => v = .int .i64 1 ∧ Below W.heap.size W w') ((hgW.out.bad k hk e hgdH.out.symm).mono fun e w' h => ⟨_, h.1, rfl, h.2⟩) ?_
          rintro _ W2 ⟨rfl, hb⟩
          simp only [Act.put, List.setIfInBounds_toArray, List.set_cons_zero, List.set_cons_succ]
          have hgW2 : Hid (Lg w1 cN lN L HB i lst lst W2) := (hgW.out).below hb
          have hOW2 : Hid (W2.heap[B]? = some (.cells (encO ⟨kd, (k : Int), e, m⟩) 47 (0, 0))) := heap_kept hOW.out hb
          clear hgW hOW
          clear hb
          refine sl_run rfl (.int .i64 1) W2 (by kernel_rfl) ?_
          simp only [Act.put, List.setIfInBounds_toArray, List.set_cons_zero, List.set_cons_succ]
          refine wpList_nil ?_
          go_upto_region 17 with fail
          refine wp_region_lit ?_
          refine sl_run rfl (.bool true) W2 (by kernel_rfl) ?_
          simp only [Act.put, List.setIfInBounds_toArray, List.set_cons_zero, List.set_cons_succ]
          refine sl_run rfl (.bool true) W2 (by kernel_rfl) ?_
          simp only [Act.put, List.setIfInBounds_toArray, List.set_cons_zero, List.set_cons_succ]
          refine sg_run (by kernel_rfl) (.pointer (some ⟨B, 2, none⟩)) W2 (by kernel_rfl) ?_
          simp only [Act.put, List.setIfInBounds_toArray, List.set_cons_zero, List.set_cons_succ]
          refine sg_run (by kernel_rfl) (.agg (encE e)) W2 (load_en W2 _ rfl B 2 (by kernel_rfl) e (rangeO hOW2.out)) ?_
          simp only [Act.put, List.setIfInBounds_toArray, List.set_cons_zero, List.set_cons_succ]
          refine sg_call (by kernel_rfl) 15 #[.agg (encE e)] (by kernel_rfl) (R := fun v w' => v = .bool false ∧ Below W2.heap.size W2 w') ((hgdH.out ▸ rgood_calls e W2).mono fun e w' h => ⟨_, h.1, rfl, h.2⟩) ?_
          rintro _ W3 ⟨rfl, hb⟩
          simp only [Act.put, List.setIfInBounds_toArray, List.set_cons_zero, List.set_cons_succ]
          have hgW3 : Hid (Lg w1 cN lN L HB i lst lst W3) := (hgW2.out).below hb
          have hOW3 : Hid (W3.heap[B]? = some (.cells (encO ⟨kd, (k : Int), e, m⟩) 47 (0, 0))) := heap_kept hOW2.out hb
          clear hgW2 hOW2
          clear hb
          refine sl_run rfl (.bool false) W3 (by kernel_rfl) ?_
          simp only [Act.put, List.setIfInBounds_toArray, List.set_cons_zero, List.set_cons_succ]
          refine wpList_nil ?_
          have hR : Hid (Lg w1 cN lN L HB (i + 1) lst lst W3) := hgW3.out.more (Nat.le_succ i)
          clear hgW3 hOW3
          clear hyw1 htw1 hBw1 hokH hn'
          go_wp2_with fail
          go_roundw
          case rel => exact ⟨i + 1, lst, by omega, by omega, by go_num, hR⟩
          case measure => simp [intOf]; omega
      | false =>
        have hnoH : Hid (lb < 0 ∨ (lN : Int) ≤ lb) := by
          have := of_decide_eq_false hthH.out.symm
          show _ ∨ _
          omega
        clear hthH
        go_upto_region 16 with fail
        refine wp_region_lit ?_
        refine sl_run rfl (.pointer (some ⟨L, 0, none⟩)) W (by kernel_rfl) ?_
        simp only [Act.put, List.setIfInBounds_toArray, List.set_cons_zero, List.set_cons_succ]
        refine sl_run rfl (.pointer (some ⟨B, 1, none⟩)) W (by kernel_rfl) ?_
        simp only [Act.put, List.setIfInBounds_toArray, List.set_cons_zero, List.set_cons_succ]
        refine sl_run rfl (.int .i64 lb) W (exec_load_cell 3 W _ rfl ⟨B, 1, none⟩ (by kernel_rfl) _ (cellO1 hOW.out) (fun _ => by kernel_rfl)) ?_
        simp only [Act.put, List.setIfInBounds_toArray, List.set_cons_zero, List.set_cons_succ]
        refine sl_run rfl (.pointer (some ⟨B, 2, none⟩)) W (by kernel_rfl) ?_
        simp only [Act.put, List.setIfInBounds_toArray, List.set_cons_zero, List.set_cons_succ]
        refine sl_run rfl (.agg (encE e)) W (load_en W _ rfl B 2 (by kernel_rfl) e (rangeO hOW.out)) ?_
        simp only [Act.put, List.setIfInBounds_toArray, List.set_cons_zero, List.set_cons_succ]
        refine sg_call (by kernel_rfl) 21 #[.pointer (some ⟨L, 0, none⟩), .int .i64 lb, .agg (encE e)] (by kernel_rfl) (R := fun v w' => v = .int .i64 1 ∧ Below W.heap.size W w') ((Put_no (hgW.out.no lb hnoH.out) e (.inr ⟨L, rfl⟩)).mono fun e w' h => ⟨_, h.1, rfl, h.2⟩) ?_
        rintro _ W2 ⟨rfl, hb⟩
        simp only [Act.put, List.setIfInBounds_toArray, List.set_cons_zero, List.set_cons_succ]
        have hgW2 : Hid (Lg w1 cN lN L HB i lst lst W2) := (hgW.out).below hb
        have hOW2 : Hid (W2.heap[B]? = some (.cells (encO ⟨kd, lb, e, m⟩) 47 (0, 0))) := heap_kept hOW.out hb
        clear hgW hOW
        clear hb
        refine sl_run rfl (.int .i64 1) W2 (by kernel_rfl) ?_
        simp only [Act.put, List.setIfInBounds_toArray, List.set_cons_zero, List.set_cons_succ]
        refine wpList_nil ?_
        clear hnoH
        have hR : Hid (Lg w1 cN lN L HB (i + 1) lst lst W2) := hgW2.out.more (Nat.le_succ i)
        clear hgW2 hOW2
        clear hyw1 htw1 hBw1 hokH hn'
        go_wp2_with fail
        go_roundw
        case rel => exact ⟨i + 1, lst, by omega, by omega, by go_num, hR⟩
        case measure => simp [intOf]; omega
    · cases th with
      | true =>
        obtain ⟨k, rfl⟩ : ∃ k : Nat, lb = (k : Int) := ⟨lb.toNat, by have := of_decide_eq_true hthH.out.symm; omega⟩
        have hk : k < lN := by have := of_decide_eq_true hthH.out.symm; omega
        clear hthH
        go_upto_region 24 with fail
        refine wp_region_lit ?_
        refine sl_run rfl (.pointer (some ⟨L, 0, none⟩)) W (by kernel_rfl) ?_
        simp only [Act.put, List.setIfInBounds_toArray, List.set_cons_zero, List.set_cons_succ]
        refine sl_run rfl (.pointer (some ⟨B, 1, none⟩)) W (by kernel_rfl) ?_
        simp only [Act.put, List.setIfInBounds_toArray, List.set_cons_zero, List.set_cons_succ]
        refine sl_run rfl (.int .i64 (k : Int)) W (exec_load_cell 3 W _ rfl ⟨B, 1, none⟩ (by kernel_rfl) _ (cellO1 hOW.out) (fun _ => by kernel_rfl)) ?_
        simp only [Act.put, List.setIfInBounds_toArray, List.set_cons_zero, List.set_cons_succ]
        refine sg_call (by kernel_rfl) 22 #[.pointer (some ⟨L, 0, none⟩), .int .i64 (k : Int)] (by kernel_rfl) (R := fun v w' => ∃ u, v = .tuple #[u, .int .i64 0] ∧ Bytes w' u (headP cN (lst k) (lst k).length) ∧ Below W.heap.size W w') ((hgW.out.hd hc32 k hk).mono fun e w' h => by
          obtain ⟨v, h1, h2, h3⟩ := h
          exact ⟨_, h1, v, rfl, h2, h3⟩) ?_
        rintro _ W2 ⟨u1, rfl, hby, hb⟩
        simp only [Act.put, List.setIfInBounds_toArray, List.set_cons_zero, List.set_cons_succ]
        have hgW2 : Hid (Lg w1 cN lN L HB i lst lst W2) := (hgW.out).below hb
        have hOW2 : Hid (W2.heap[B]? = some (.cells (encO ⟨kd, (k : Int), e, m⟩) 47 (0, 0))) := heap_kept hOW.out hb
        clear hgW hOW
        have hu1W2 : Hid (Bytes W2 u1 (headP cN (lst k) (lst k).length)) := hby
        clear hb hby
        refine sl_run rfl (.tuple #[u1, .int .i64 0]) W2 (by kernel_rfl) ?_
        simp only [Act.put, List.setIfInBounds_toArray, List.set_cons_zero, List.set_cons_succ]
        refine sl_run rfl (u1) W2 (by kernel_rfl) ?_
        simp only [Act.put, List.setIfInBounds_toArray, List.set_cons_zero, List.set_cons_succ]
        refine sl_run rfl (.int .i64 0) W2 (by kernel_rfl) ?_
        simp only [Act.put, List.setIfInBounds_toArray, List.set_cons_zero, List.set_cons_succ]
        refine sl_run rfl (u1) W2 (by kernel_rfl) ?_
        simp only [Act.put, List.setIfInBounds_toArray, List.set_cons_zero, List.set_cons_succ]
        refine sl_run rfl (.int .i64 0) W2 (by kernel_rfl) ?_
        simp only [Act.put, List.setIfInBounds_toArray, List.set_cons_zero, List.set_cons_succ]
        refine wpList_nil ?_
        go_upto_region 28 with fail
        obtain ⟨A1, c1, hcell, hrw⟩ := hgW2.out.at hk
        have hrwH : Hid (Rw 35 encE W2 (.slice A1 (lst k).length c1) (lst k)) := hrw
        have hcellH : Hid (W2.cell? ⟨HB, k, none⟩ = some (.slice A1 (lst k).length c1)) := hcell
        have h16 : (lst k).length ≤ 60 := Nat.le_trans (hgW2.out.len k) hi6
        clear hrw hcell
        refine wp_region_lit ?_
        refine sl_run rfl (.int .i64 (cN : Int)) W2 (by kernel_rfl) ?_
        simp only [Act.put, List.setIfInBounds_toArray, List.set_cons_zero, List.set_cons_succ]
        refine sl_run rfl (.slice (some ⟨HB, 0, none⟩) lN lN) W2 (by kernel_rfl) ?_
        simp only [Act.put, List.setIfInBounds_toArray, List.set_cons_zero, List.set_cons_succ]
        refine sl_run rfl (.pointer (some ⟨B, 1, none⟩)) W2 (by kernel_rfl) ?_
        simp only [Act.put, List.setIfInBounds_toArray, List.set_cons_zero, List.set_cons_succ]
        refine sl_run rfl (.int .i64 (k : Int)) W2 (exec_load_cell 3 W2 _ rfl ⟨B, 1, none⟩ (by kernel_rfl) _ (cellO1 hOW2.out) (fun _ => by kernel_rfl)) ?_
        simp only [Act.put, List.setIfInBounds_toArray, List.set_cons_zero, List.set_cons_succ]
        refine sl_run rfl (.pointer (some ⟨HB, 0 + k * 1, none⟩)) W2 (exec_index un44 sz44 _ _ rfl HB 0 lN lN k (by kernel_rfl) (by kernel_rfl) hk _) ?_
        simp only [Act.put, List.setIfInBounds_toArray, List.set_cons_zero, List.set_cons_succ]
        refine sl_run rfl (.slice A1 (lst k).length c1) W2 (load_len W2 _ rfl HB k (by kernel_rfl) _ hcellH.out) ?_
        simp only [Act.put, List.setIfInBounds_toArray, List.set_cons_zero, List.set_cons_succ]
        refine sg_call (by kernel_rfl) 17 #[.int .i64 (cN : Int), .slice A1 (lst k).length c1] (by kernel_rfl) (R := fun v w' => ∃ u, v = .tuple #[u, .int .i64 0] ∧ Bytes w' u (headP cN (lst k) (lst k).length) ∧ Below W2.heap.size W2 w') ((rHead_calls (cN : Int) (lst k) (fun x hx => (hgW2.out.fine k x hx).1) A1 (lst k).length c1 rfl (by omega) W2 hrwH.out).mono fun e w' h => by
          obtain ⟨v, h1, h2, h3⟩ := h
          rw [head_all hc1 hc32 (fun x hx => (hgW2.out.fine k x hx).2)] at h1 h2
          exact ⟨_, h1, v, rfl, h2, h3⟩) ?_
        rintro _ W3 ⟨u2, rfl, hby, hb⟩
        simp only [Act.put, List.setIfInBounds_toArray, List.set_cons_zero, List.set_cons_succ]
        clear hrwH hcellH
        have hgW3 : Hid (Lg w1 cN lN L HB i lst lst W3) := (hgW2.out).below hb
        have hOW3 : Hid (W3.heap[B]? = some (.cells (encO ⟨kd, (k : Int), e, m⟩) 47 (0, 0))) := heap_kept hOW2.out hb
        have hu1W3 : Hid (Bytes W3 u1 (headP cN (lst k) (lst k).length)) := (hu1W2.out).below hb
        clear hgW2 hOW2 hu1W2
        have hu2W3 : Hid (Bytes W3 u2 (headP cN (lst k) (lst k).length)) := hby
        clear hb hby
        refine sl_run rfl (.tuple #[u2, .int .i64 0]) W3 (by kernel_rfl) ?_
        simp only [Act.put, List.setIfInBounds_toArray, List.set_cons_zero, List.set_cons_succ]
        refine sl_run rfl (u2) W3 (by kernel_rfl) ?_
        simp only [Act.put, List.setIfInBounds_toArray, List.set_cons_zero, List.set_cons_succ]
        refine sl_run rfl (.int .i64 0) W3 (by kernel_rfl) ?_
        simp only [Act.put, List.setIfInBounds_toArray, List.set_cons_zero, List.set_cons_succ]
        refine sl_run rfl (u2) W3 (by kernel_rfl) ?_
        simp only [Act.put, List.setIfInBounds_toArray, List.set_cons_zero, List.set_cons_succ]
        refine sl_run rfl (.int .i64 0) W3 (by kernel_rfl) ?_
        simp only [Act.put, List.setIfInBounds_toArray, List.set_cons_zero, List.set_cons_succ]
        refine wpList_nil ?_
        go_upto_region 29 with fail
        refine wp_region_lit ?_
        obtain ⟨hl, hhl⟩ : ∃ l, l = headP cN (lst k) (lst k).length := ⟨_, rfl⟩
        rw [← hhl] at hu1W3 hu2W3
        clear hhl
        refine sl_run rfl (.int .i64 0) W3 (by kernel_rfl) ?_
        simp only [Act.put, List.setIfInBounds_toArray, List.set_cons_zero, List.set_cons_succ]
        refine sl_run rfl (.bool false) W3 (exec_neI 26 _ _ rfl 0 0 (by kernel_rfl) (by kernel_rfl) false (by simp)) ?_
        simp only [Act.put, List.setIfInBounds_toArray, List.set_cons_zero, List.set_cons_succ]
        refine sl_run rfl (.bool false) W3 (by kernel_rfl) ?_
        simp only [Act.put, List.setIfInBounds_toArray, List.set_cons_zero, List.set_cons_succ]
        refine sg_run (by kernel_rfl) (u1) W3 (by kernel_rfl) ?_
        simp only [Act.put, List.setIfInBounds_toArray, List.set_cons_zero, List.set_cons_succ]
        refine sg_run (by kernel_rfl) (.string (strB hl)) W3 (exec_convB _ rfl u1 hl (by kernel_rfl) hu1W3.out) ?_
        simp only [Act.put, List.setIfInBounds_toArray, List.set_cons_zero, List.set_cons_succ]
        refine sg_run (by kernel_rfl) (u2) W3 (by kernel_rfl) ?_
        simp only [Act.put, List.setIfInBounds_toArray, List.set_cons_zero, List.set_cons_succ]
        refine sg_run (by kernel_rfl) (.string (strB hl)) W3 (exec_convB _ rfl u2 hl (by kernel_rfl) hu2W3.out) ?_
        simp only [Act.put, List.setIfInBounds_toArray, List.set_cons_zero, List.set_cons_succ]
        refine sg_run (by kernel_rfl) (.bool false) W3 (exec_neS 9 _ _ rfl (strB hl) (strB hl) (by kernel_rfl) (by kernel_rfl) false (by simp)) ?_
        simp only [Act.put, List.setIfInBounds_toArray, List.set_cons_zero, List.set_cons_succ]
        refine sl_run rfl (.bool false) W3 (by kernel_rfl) ?_
        simp only [Act.put, List.setIfInBounds_toArray, List.set_cons_zero, List.set_cons_succ]
        refine wpList_nil ?_
        clear hu1W3 hu2W3
        have hR : Hid (Lg w1 cN lN L HB (i + 1) lst lst W3) := hgW3.out.more (Nat.le_succ i)
        clear hgW3 hOW3
        clear hyw1 htw1 hBw1 hokH hn'
        go_wp2_with fail
        go_roundw
        case rel => exact ⟨i + 1, lst, by omega, by omega, by go_num, hR⟩
        case measure => simp [intOf]; omega
      | false =>
        have hnoH : Hid (lb < 0 ∨ (lN : Int) ≤ lb) := by
          have := of_decide_eq_false hthH.out.symm
          show _ ∨ _
          omega
        clear hthH
        go_upto_region 24 with fail
        refine wp_region_lit ?_
        refine sl_run rfl (.pointer (some ⟨L, 0, none⟩)) W (by kernel_rfl) ?_
        simp only [Act.put, List.setIfInBounds_toArray, List.set_cons_zero, List.set_cons_succ]
        refine sl_run rfl (.pointer (some ⟨B, 1, none⟩)) W (by kernel_rfl) ?_
        simp only [Act.put, List.setIfInBounds_toArray, List.set_cons_zero, List.set_cons_succ]
        refine sl_run rfl (.int .i64 lb) W (exec_load_cell 3 W _ rfl ⟨B, 1, none⟩ (by kernel_rfl) _ (cellO1 hOW.out) (fun _ => by kernel_rfl)) ?_
        simp only [Act.put, List.setIfInBounds_toArray, List.set_cons_zero, List.set_cons_succ]
        refine sg_call (by kernel_rfl) 22 #[.pointer (some ⟨L, 0, none⟩), .int .i64 lb] (by kernel_rfl) (R := fun v w' => v = .tuple #[.slice none 0 0, .int .i64 1] ∧ W = w') ((LHead_no (hgW.out.no lb hnoH.out) (.inr ⟨L, rfl⟩)).mono fun e w' h => ⟨_, h.1, rfl, h.2⟩) ?_
        rintro _ _ ⟨rfl, rfl⟩
        simp only [Act.put, List.setIfInBounds_toArray, List.set_cons_zero, List.set_cons_succ]
        refine sl_run rfl (.tuple #[.slice none 0 0, .int .i64 1]) W (by kernel_rfl) ?_
        simp only [Act.put, List.setIfInBounds_toArray, List.set_cons_zero, List.set_cons_succ]
        refine sl_run rfl (.slice none 0 0) W (by kernel_rfl) ?_
        simp only [Act.put, List.setIfInBounds_toArray, List.set_cons_zero, List.set_cons_succ]
        refine sl_run rfl (.int .i64 1) W (by kernel_rfl) ?_
        simp only [Act.put, List.setIfInBounds_toArray, List.set_cons_zero, List.set_cons_succ]
        refine sl_run rfl (.slice none 0 0) W (by kernel_rfl) ?_
        simp only [Act.put, List.setIfInBounds_toArray, List.set_cons_zero, List.set_cons_succ]
        refine sl_run rfl (.int .i64 1) W (by kernel_rfl) ?_
        simp only [Act.put, List.setIfInBounds_toArray, List.set_cons_zero, List.set_cons_succ]
        refine wpList_nil ?_
        clear hnoH
        have hR : Hid (Lg w1 cN lN L HB (i + 1) lst lst W) := hgW.out.more (Nat.le_succ i)
        clear hgW hOW
        clear hyw1 htw1 hBw1 hokH hn'
        go_wp2_with fail
        go_roundw
        case rel => exact ⟨i + 1, lst, by omega, by omega, by go_num, hR⟩
        case measure => simp [intOf]; omega
    · cases th with
      | true =>
        obtain ⟨k, rfl⟩ : ∃ k : Nat, lb = (k : Int) := ⟨lb.toNat, by have := of_decide_eq_true hthH.out.symm; omega⟩
        have hk : k < lN := by have := of_decide_eq_true hthH.out.symm; omega
        clear hthH
        go_upto_region 34 with fail
        obtain ⟨A1, c1, hcell, hrw⟩ := hgW.out.at hk
        have hcellH : Hid (W.cell? ⟨HB, k, none⟩ = some (.slice A1 (lst k).length c1)) := hcell
        clear hrw hcell
        refine wp_region_lit ?_
        refine sl_run rfl (.slice (some ⟨HB, 0, none⟩) lN lN) W (by kernel_rfl) ?_
        simp only [Act.put, List.setIfInBounds_toArray, List.set_cons_zero, List.set_cons_succ]
        refine sl_run rfl (.pointer (some ⟨B, 1, none⟩)) W (by kernel_rfl) ?_
        simp only [Act.put, List.setIfInBounds_toArray, List.set_cons_zero, List.set_cons_succ]
        refine sl_run rfl (.int .i64 (k : Int)) W (exec_load_cell 3 W _ rfl ⟨B, 1, none⟩ (by kernel_rfl) _ (cellO1 hOW.out) (fun _ => by kernel_rfl)) ?_
        simp only [Act.put, List.setIfInBounds_toArray, List.set_cons_zero, List.set_cons_succ]
        refine sl_run rfl (.pointer (some ⟨HB, 0 + k * 1, none⟩)) W (exec_index un44 sz44 _ _ rfl HB 0 lN lN k (by kernel_rfl) (by kernel_rfl) hk _) ?_
        simp only [Act.put, List.setIfInBounds_toArray, List.set_cons_zero, List.set_cons_succ]
        refine sl_run rfl (.slice A1 (lst k).length c1) W (load_len W _ rfl HB k (by kernel_rfl) _ hcellH.out) ?_
        simp only [Act.put, List.setIfInBounds_toArray, List.set_cons_zero, List.set_cons_succ]
        refine sl_run rfl (.int .i64 ((lst k).length : Int)) W (by kernel_rfl) ?_
        simp only [Act.put, List.setIfInBounds_toArray, List.set_cons_zero, List.set_cons_succ]
        refine sl_run rfl (.int .i64 ((lst k).length : Int)) W (by kernel_rfl) ?_
        simp only [Act.put, List.setIfInBounds_toArray, List.set_cons_zero, List.set_cons_succ]
        refine wpList_nil ?_
        clear hcellH
        go_upto_region 35 with fail
        refine wp_region_lit ?_
        refine sl_run rfl (.pointer (some ⟨L, 0, none⟩)) W (by kernel_rfl) ?_
        simp only [Act.put, List.setIfInBounds_toArray, List.set_cons_zero, List.set_cons_succ]
        refine sl_run rfl (.pointer (some ⟨B, 1, none⟩)) W (by kernel_rfl) ?_
        simp only [Act.put, List.setIfInBounds_toArray, List.set_cons_zero, List.set_cons_succ]
        refine sl_run rfl (.int .i64 (k : Int)) W (exec_load_cell 3 W _ rfl ⟨B, 1, none⟩ (by kernel_rfl) _ (cellO1 hOW.out) (fun _ => by kernel_rfl)) ?_
        simp only [Act.put, List.setIfInBounds_toArray, List.set_cons_zero, List.set_cons_succ]
        refine sg_call (by kernel_rfl) 23 #[.pointer (some ⟨L, 0, none⟩), .int .i64 (k : Int)] (by kernel_rfl) (R := fun v w' => v = .int .i64 ((lst k).length : Int) ∧ W = w') ((hgW.out.ln k hk).mono fun e w' h => ⟨_, h.1, rfl, h.2⟩) ?_
        rintro _ _ ⟨rfl, rfl⟩
        simp only [Act.put, List.setIfInBounds_toArray, List.set_cons_zero, List.set_cons_succ]
        refine sl_run rfl (.int .i64 ((lst k).length : Int)) W (by kernel_rfl) ?_
        simp only [Act.put, List.setIfInBounds_toArray, List.set_cons_zero, List.set_cons_succ]
        refine sl_run rfl (.bool false) W (exec_neI 3 _ _ rfl ((lst k).length : Int) ((lst k).length : Int) (by kernel_rfl) (by kernel_rfl) false (by simp)) ?_
        simp only [Act.put, List.setIfInBounds_toArray, List.set_cons_zero, List.set_cons_succ]
        refine wpList_nil ?_
        have hR : Hid (Lg w1 cN lN L HB (i + 1) lst lst W) := hgW.out.more (Nat.le_succ i)
        clear hgW hOW
        clear hyw1 htw1 hBw1 hokH hn'
        go_wp2_with fail
        go_roundw
        case rel => exact ⟨i + 1, lst, by omega, by omega, by go_num, hR⟩
        case measure => simp [intOf]; omega
      | false =>
        have hnoH : Hid (lb < 0 ∨ (lN : Int) ≤ lb) := by
          have := of_decide_eq_false hthH.out.symm
          show _ ∨ _
          omega
        clear hthH
        go_upto_region 35 with fail
        refine wp_region_lit ?_
        refine sl_run rfl (.pointer (some ⟨L, 0, none⟩)) W (by kernel_rfl) ?_
        simp only [Act.put, List.setIfInBounds_toArray, List.set_cons_zero, List.set_cons_succ]
        refine sl_run rfl (.pointer (some ⟨B, 1, none⟩)) W (by kernel_rfl) ?_
        simp only [Act.put, List.setIfInBounds_toArray, List.set_cons_zero, List.set_cons_succ]
        refine sl_run rfl (.int .i64 lb) W (exec_load_cell 3 W _ rfl ⟨B, 1, none⟩ (by kernel_rfl) _ (cellO1 hOW.out) (fun _ => by kernel_rfl)) ?_
        simp only [Act.put, List.setIfInBounds_toArray, List.set_cons_zero, List.set_cons_succ]
        refine sg_call (by kernel_rfl) 23 #[.pointer (some ⟨L, 0, none⟩), .int .i64 lb] (by kernel_rfl) (R := fun v w' => v = .int .i64 0 ∧ W = w') ((LLen_no (hgW.out.no lb hnoH.out) (.inr ⟨L, rfl⟩)).mono fun e w' h => ⟨_, h.1, rfl, h.2⟩) ?_
        rintro _ _ ⟨rfl, rfl⟩
        simp only [Act.put, List.setIfInBounds_toArray, List.set_cons_zero, List.set_cons_succ]
        refine sl_run rfl (.int .i64 0) W (by kernel_rfl) ?_
        simp only [Act.put, List.setIfInBounds_toArray, List.set_cons_zero, List.set_cons_succ]
        refine sl_run rfl (.bool false) W (exec_neI 3 _ _ rfl 0 0 (by kernel_rfl) (by kernel_rfl) false (by simp)) ?_
        simp only [Act.put, List.setIfInBounds_toArray, List.set_cons_zero, List.set_cons_succ]
        refine wpList_nil ?_
        clear hnoH
        have hR : Hid (Lg w1 cN lN L HB (i + 1) lst lst W) := hgW.out.more (Nat.le_succ i)
        clear hgW hOW
        clear hyw1 htw1 hBw1 hokH hn'
        go_wp2_with fail
        go_roundw
        case rel => exact ⟨i + 1, lst, by omega, by omega, by go_num, hR⟩
        case measure => simp [intOf]; omega
    · go_upto_region 38 with fail
      refine wp_region_lit ?_
      refine sl_run rfl (.pointer (some ⟨L, 0, none⟩)) W (by kernel_rfl) ?_
      simp only [Act.put, List.setIfInBounds_toArray, List.set_cons_zero, List.set_cons_succ]
      refine sl_run rfl (.pointer (some ⟨B, 37, none⟩)) W (by kernel_rfl) ?_
      simp only [Act.put, List.setIfInBounds_toArray, List.set_cons_zero, List.set_cons_succ]
      refine sl_run rfl (.int .u64 (m : Int)) W (exec_load_cell 45 W _ rfl ⟨B, 37, none⟩ (by kernel_rfl) _ (cellO37 hOW.out) (fun _ => by kernel_rfl)) ?_
      simp only [Act.put, List.setIfInBounds_toArray, List.set_cons_zero, List.set_cons_succ]
      refine sg_call (by kernel_rfl) 24 #[.pointer (some ⟨L, 0, none⟩), .int .u64 (m : Int)] (by kernel_rfl) (R := fun v w' => Rw 37 encL w' v (linesTo lst m lN) ∧ Below W.heap.size W w') ((hgW.out.lines (by omega) hl64 m hmH (htw1.out.below htw1.out.1 hgW.out.bel) (Nat.lt_of_lt_of_le htw1.out.1 hgW.out.bel.size)).mono fun e w' h => by
        obtain ⟨v, h1, h2, h3⟩ := h
        exact ⟨_, h1, h2, h3⟩) ?_
      rintro v3 W2 ⟨hrl, hb⟩
      obtain ⟨N3, hN3⟩ : ∃ N, N = (linesTo lst m lN).length := ⟨_, rfl⟩
      obtain ⟨A3, c3, rfl⟩ : ∃ A c, v3 = .slice A N3 c := by rw [hN3]; exact hrl.form
      simp only [Act.put, List.setIfInBounds_toArray, List.set_cons_zero, List.set_cons_succ]
      have hgW2 : Hid (Lg w1 cN lN L HB i lst lst W2) := (hgW.out).below hb
      have hOW2 : Hid (W2.heap[B]? = some (.cells (encO ⟨kd, lb, e, m⟩) 47 (0, 0))) := heap_kept hOW.out hb
      clear hgW hOW
      have hrlW2 : Hid (Rw 37 encL W2 (.slice A3 N3 c3) (linesTo lst m lN)) := hrl
      have hN3H : Hid (N3 = (linesTo lst m lN).length) := hN3
      clear hb hrl hN3
      refine sl_run rfl (.slice A3 N3 c3) W2 (by kernel_rfl) ?_
      simp only [Act.put, List.setIfInBounds_toArray, List.set_cons_zero, List.set_cons_succ]
      refine wpList_nil ?_
      have hlen60 : Hid (∀ k, (lst k).length ≤ 60) := fun k => Nat.le_trans (hgW2.out.len k) hi6
      have hN3b : N3 ≤ 3840 := by rw [hN3H.out]; have h9 := linesTo_len lst m hlen60.out lN; omega
      clear hnc hthH heH
      go_wp2_with fail
      go_loopw [20, 21] (fun p q wr => ∃ (kk a2 : Nat), kk ≤ lN ∧ Hid (a2 = (linesTo lst m kk).length) ∧ p = .int .i64 (a2 : Int) ∧ q = .int .i64 (kk : Int) ∧ Hid (Below W2.heap.size W2 wr)) (fun p q _ => lN - (intOf q).toNat)
      case atStart => exact ⟨0, 0, by omega, by show _ = _; simp [linesTo, outL], rfl, rfl, Below.refl _ _⟩
      case round =>
        obtain ⟨kk, a2, hkk, hat, rfl, rfl, hbo⟩ := hrel
        obtain ⟨wo2, rfl⟩ : ∃ v : World, v = wr := ⟨_, rfl⟩
        by_cases hlt : kk < lN
        case neg =>
          have hI3 : ¬ (kk : Int) < (lN : Int) := by omega
          have hR : Hid (Lg w1 cN lN L HB (i + 1) lst lst wo2) := (hgW2.out.below hbo.out).more (Nat.le_succ i)
          obtain rfl : a2 = N3 := by
            have e9 := hat.out
            rw [show kk = lN by omega] at e9
            exact e9.trans hN3H.out.symm
          clear hat hbo hgW2 hOW2 hrlW2 hN3H hlen60
          clear hyw1 htw1 hBw1 hokH hn'
          go_wp2_with fail
          go_roundw
          case rel => exact ⟨i + 1, lst, by omega, by omega, by go_num, hR⟩
          case measure => simp [intOf]; omega
        case pos =>
        have hI3 : (kk : Int) < (lN : Int) := by omega
        have hkk64 : kk < 64 := by omega
        obtain ⟨tb, htb⟩ : ∃ b, b = m.testBit kk := ⟨_, rfl⟩
        have htbH : Hid (tb = m.testBit kk) := htb
        clear htb
        go_wp2_with fail
        go_loopw [20, 22] (fun p q wr => ∃ (j a3 : Nat), j ≤ (lst kk).length ∧ Hid (j = 0 ∨ tb = true) ∧ a3 = a2 + j ∧ p = .int .i64 (a3 : Int) ∧ q = .int .i64 (j : Int) ∧ Hid (Below W2.heap.size W2 wr)) (fun p q _ => (lst kk).length - (intOf q).toNat)
        case atStart => exact ⟨0, a2, by omega, .inl rfl, rfl, rfl, rfl, hbo⟩
        case round =>
          obtain ⟨j, a3, hj, hjt, ha3, rfl, rfl, hbo3⟩ := hrel
          clear hbo
          obtain ⟨wo3, rfl⟩ : ∃ v : World, v = wr := ⟨_, rfl⟩
          obtain ⟨A1, c1, hcell, hrw⟩ := (hgW2.out.below hbo3.out).at hlt
          have hrwH : Hid (Rw 35 encE wo3 (.slice A1 (lst kk).length c1) (lst kk)) := hrw
          have hcellH : Hid (wo3.cell? ⟨HB, kk, none⟩ = some (.slice A1 (lst kk).length c1)) := hcell
          have hOwo3 : Hid (wo3.heap[B]? = some (.cells (encO ⟨kd, lb, e, m⟩) 47 (0, 0))) := heap_kept hOW2.out hbo3.out
          have h16 := hlen60.out kk
          clear hrw hcell
          have hnext : (j = (lst kk).length ∨ tb = false) → Hid (a3 = (linesTo lst m (kk + 1)).length) := fun hc => by
            show a3 = _
            rw [linesTo_succ, List.length_append, ← hat.out, ha3, ← htbH.out]
            have hL : (linesK kk (lst kk)).length = (lst kk).length := by simp [linesK, numT_len]
            cases tb with
            | true =>
              rw [if_pos rfl, hL]
              rcases hc with hc | hc
              · omega
              · cases hc
            | false =>
              rw [if_neg (by decide), List.length_nil]
              rcases hjt.out with h9 | h9
              · omega
              · cases h9
          go_upto_region 44 with fail
          refine wp_region_lit ?_
          by_cases hjl : j < (lst kk).length
          case neg =>
            refine sl_run rfl (.int .i64 (j : Int)) wo3 (by kernel_rfl) ?_
            simp only [Act.put, List.setIfInBounds_toArray, List.set_cons_zero, List.set_cons_succ]
            refine sl_run rfl (.slice (some ⟨HB, 0, none⟩) lN lN) wo3 (by kernel_rfl) ?_
            simp only [Act.put, List.setIfInBounds_toArray, List.set_cons_zero, List.set_cons_succ]
            refine sl_run rfl (.int .i64 (kk : Int)) wo3 (by kernel_rfl) ?_
            simp only [Act.put, List.setIfInBounds_toArray, List.set_cons_zero, List.set_cons_succ]
            refine sl_run rfl (.pointer (some ⟨HB, 0 + kk * 1, none⟩)) wo3 (exec_index un44 sz44 _ _ rfl HB 0 lN lN kk (by kernel_rfl) (by kernel_rfl) hlt _) ?_
            simp only [Act.put, List.setIfInBounds_toArray, List.set_cons_zero, List.set_cons_succ]
            refine sl_run rfl (.slice A1 (lst kk).length c1) wo3 (load_len wo3 _ rfl HB kk (by kernel_rfl) _ hcellH.out) ?_
            simp only [Act.put, List.setIfInBounds_toArray, List.set_cons_zero, List.set_cons_succ]
            refine sl_run rfl (.int .i64 ((lst kk).length : Int)) wo3 (by kernel_rfl) ?_
            simp only [Act.put, List.setIfInBounds_toArray, List.set_cons_zero, List.set_cons_succ]
            refine sl_run rfl (.bool false) wo3 (exec_lss 3 _ _ rfl (j : Int) ((lst kk).length : Int) (by kernel_rfl) (by kernel_rfl) false (decide_eq_false (by omega))) ?_
            simp only [Act.put, List.setIfInBounds_toArray, List.set_cons_zero, List.set_cons_succ]
            refine sl_run rfl (.bool false) wo3 (by kernel_rfl) ?_
            simp only [Act.put, List.setIfInBounds_toArray, List.set_cons_zero, List.set_cons_succ]
            refine wpList_skip ?hw ?_
            case hw => kernel_rfl
            simp only [Act.put, List.setIfInBounds_toArray, List.set_cons_zero, List.set_cons_succ]
            refine wpList_skip ?hw ?_
            case hw => kernel_rfl
            simp only [Act.put, List.setIfInBounds_toArray, List.set_cons_zero, List.set_cons_succ]
            refine wpList_skip ?hw ?_
            case hw => kernel_rfl
            simp only [Act.put, List.setIfInBounds_toArray, List.set_cons_zero, List.set_cons_succ]
            refine wpList_skip ?hw ?_
            case hw => kernel_rfl
            simp only [Act.put, List.setIfInBounds_toArray, List.set_cons_zero, List.set_cons_succ]
            refine sl_run rfl (.bool false) wo3 (by kernel_rfl) ?_
            simp only [Act.put, List.setIfInBounds_toArray, List.set_cons_zero, List.set_cons_succ]
            refine wpList_nil ?_
            have hnx := hnext (.inl (by omega))
            clear hnext hat hjt htbH hgW2 hOW2 hrlW2 hN3H hlen60 hrwH hcellH hOwo3
            clear hyw1 htw1 hBw1 hokH hn'
            go_wp2_with fail
            go_roundw
            case rel => exact ⟨kk + 1, a3, by omega, hnx, rfl, by go_num, hbo3⟩
            case measure => simp [intOf]; omega
          case pos =>
          refine sl_run rfl (.int .i64 (j : Int)) wo3 (by kernel_rfl) ?_
          simp only [Act.put, List.setIfInBounds_toArray, List.set_cons_zero, List.set_cons_succ]
          refine sl_run rfl (.slice (some ⟨HB, 0, none⟩) lN lN) wo3 (by kernel_rfl) ?_
          simp only [Act.put, List.setIfInBounds_toArray, List.set_cons_zero, List.set_cons_succ]
          refine sl_run rfl (.int .i64 (kk : Int)) wo3 (by kernel_rfl) ?_
          simp only [Act.put, List.setIfInBounds_toArray, List.set_cons_zero, List.set_cons_succ]
          refine sl_run rfl (.pointer (some ⟨HB, 0 + kk * 1, none⟩)) wo3 (exec_index un44 sz44 _ _ rfl HB 0 lN lN kk (by kernel_rfl) (by kernel_rfl) hlt _) ?_
          simp only [Act.put, List.setIfInBounds_toArray, List.set_cons_zero, List.set_cons_succ]
          refine sl_run rfl (.slice A1 (lst kk).length c1) wo3 (load_len wo3 _ rfl HB kk (by kernel_rfl) _ hcellH.out) ?_
          simp only [Act.put, List.setIfInBounds_toArray, List.set_cons_zero, List.set_cons_succ]
          refine sl_run rfl (.int .i64 ((lst kk).length : Int)) wo3 (by kernel_rfl) ?_
          simp only [Act.put, List.setIfInBounds_toArray, List.set_cons_zero, List.set_cons_succ]
          refine sl_run rfl (.bool true) wo3 (exec_lss 3 _ _ rfl (j : Int) ((lst kk).length : Int) (by kernel_rfl) (by kernel_rfl) true (decide_eq_true (by omega))) ?_
          simp only [Act.put, List.setIfInBounds_toArray, List.set_cons_zero, List.set_cons_succ]
          refine sl_run rfl (.bool true) wo3 (by kernel_rfl) ?_
          simp only [Act.put, List.setIfInBounds_toArray, List.set_cons_zero, List.set_cons_succ]
          refine sg_run (by kernel_rfl) (.pointer (some ⟨B, 37, none⟩)) wo3 (by kernel_rfl) ?_
          simp only [Act.put, List.setIfInBounds_toArray, List.set_cons_zero, List.set_cons_succ]
          refine sg_run (by kernel_rfl) (.int .u64 (m : Int)) wo3 (exec_load_cell 45 wo3 _ rfl ⟨B, 37, none⟩ (by kernel_rfl) _ (cellO37 hOwo3.out) (fun _ => by kernel_rfl)) ?_
          simp only [Act.put, List.setIfInBounds_toArray, List.set_cons_zero, List.set_cons_succ]
          refine sg_run (by kernel_rfl) (.int .i64 (kk : Int)) wo3 (by kernel_rfl) ?_
          simp only [Act.put, List.setIfInBounds_toArray, List.set_cons_zero, List.set_cons_succ]
          refine sg_call (by kernel_rfl) 25 #[.int .u64 (m : Int), .int .i64 (kk : Int)] (by kernel_rfl) (R := fun v w' => v = .bool tb ∧ w' = wo3) ((bit_calls m (kk : Int) hmH wo3).mono fun e w' h => ⟨_, h.1, by rw [bitI_nat hkk64, htbH.out], h.2⟩) ?_
          rintro _ wq ⟨rfl, hwq⟩
          subst wq
          simp only [Act.put, List.setIfInBounds_toArray, List.set_cons_zero, List.set_cons_succ]
          refine sl_run rfl (.bool tb) wo3 (by kernel_rfl) ?_
          simp only [Act.put, List.setIfInBounds_toArray, List.set_cons_zero, List.set_cons_succ]
          refine wpList_nil ?_
          cases tb with
          | false =>
            have hnx := hnext (.inr rfl)
            clear hnext hat hjt htbH hgW2 hOW2 hrlW2 hN3H hlen60 hrwH hcellH hOwo3
            clear hyw1 htw1 hBw1 hokH hn'
            go_wp2_with fail
            go_roundw
            case rel => exact ⟨kk + 1, a3, by omega, hnx, rfl, by go_num, hbo3⟩
            case measure => simp [intOf]; omega
          | true =>
            clear hnext
            obtain ⟨hlt3, hU⟩ := linesTo_get (l := lst) hlt htbH.out.symm hjl
            rw [← hat.out, ← ha3] at hlt3 hU
            rw [← hN3H.out] at hlt3
            obtain ⟨g3, o3, rfl, hnc3, hg3, hel3⟩ := hrlW2.out.elem a3 (by rw [← hN3H.out]; exact hlt3)
            obtain ⟨g1, o1, rfl, hnc1, hg1, hel1⟩ := hrwH.out.elem j hjl
            rw [hU] at hel3
            have hel3H : Hid (∀ w', Below wo3.heap.size wo3 w' → w'.rangeAt g3 (o3 + a3 * 37) (encL ((kk : Int), (j : Int) + 1, (lst kk).getD j default)).toList) := fun w' h => range_below hel3 (hbo3.out.trans (h.mono hbo3.out.size)) hg3
            have hel1H : Hid (∀ w', Below wo3.heap.size wo3 w' → w'.rangeAt g1 (o1 + j * 35) (encE ((lst kk).getD j default)).toList) := fun w' h => range_below hel1 h hg1
            have hcell2H : Hid (∀ w', Below wo3.heap.size wo3 w' → w'.cell? ⟨HB, kk, none⟩ = some (.slice (some ⟨g1, o1, none⟩) (lst kk).length c1)) := fun w' h => by
              have hHB : HB < wo3.heap.size := by
                have h9 := hcellH.out
                by_cases h8 : HB < wo3.heap.size
                · exact h8
                · simp [World.cell?, Array.getElem?_eq_none (Nat.le_of_not_lt h8)] at h9
              rw [h.cell (by exact hHB)]; exact hcellH.out
            clear hU hel3 hel1 hg3 hg1
            go_upto_region 46 with fail
            refine wp_normalG ?_
            refine wp_region_held_drew (S := fun w' => Below wo3.heap.size wo3 w') (by kernel_rfl) (Below.refl _ _).drew (fun hS => ?_)
            change wpAnyH _ _ _ _ _ 22 (Array.replicate 22 false) _ _
            generalize hx : wo3.drew = y at hS ⊢
            clear hx
            refine held_take 0 rfl (by kernel_rfl) (by kernel_rfl) (by kernel_rfl) (.int .i64 (a3 : Int)) (fun _ _ _ h => nomatch h.1) (by kernel_rfl) (fun w' h => (by kernel_rfl)) hS ?_
            simp only [Act.put, List.setIfInBounds_toArray, List.set_cons_zero, List.set_cons_succ, List.getElem_toArray, List.getElem_cons_succ, List.getElem_cons_zero]
            refine held_take 1 rfl (by kernel_rfl) (by kernel_rfl) (by kernel_rfl) (.slice (some ⟨g3, o3, none⟩) N3 c3) (fun _ _ _ h => nomatch h.1) (by kernel_rfl) (fun w' h => (by kernel_rfl)) hS ?_
            simp only [Act.put, List.setIfInBounds_toArray, List.set_cons_zero, List.set_cons_succ, List.getElem_toArray, List.getElem_cons_succ, List.getElem_cons_zero]
            refine held_take 2 rfl (by kernel_rfl) (by kernel_rfl) (by kernel_rfl) (.int .i64 (N3 : Int)) (fun _ _ _ h => nomatch h.1) (by kernel_rfl) (fun w' h => (by kernel_rfl)) hS ?_
            simp only [Act.put, List.setIfInBounds_toArray, List.set_cons_zero, List.set_cons_succ, List.getElem_toArray, List.getElem_cons_succ, List.getElem_cons_zero]
            refine held_take 3 rfl (by kernel_rfl) (by kernel_rfl) (by kernel_rfl) (.bool false) (fun _ _ _ h => nomatch h.1) (by kernel_rfl) (fun w' h => exec_geq 3 _ _ rfl (a3 : Int) (N3 : Int) (by kernel_rfl) (by kernel_rfl) false (decide_eq_false (by omega))) hS ?_
            simp only [Act.put, List.setIfInBounds_toArray, List.set_cons_zero, List.set_cons_succ, List.getElem_toArray, List.getElem_cons_succ, List.getElem_cons_zero]
            refine held_take 4 rfl (by kernel_rfl) (by kernel_rfl) (by kernel_rfl) (.bool false) (fun _ _ _ h => nomatch h.1) (by kernel_rfl) (fun w' h => (by kernel_rfl)) hS ?_
            simp only [Act.put, List.setIfInBounds_toArray, List.set_cons_zero, List.set_cons_succ, List.getElem_toArray, List.getElem_cons_succ, List.getElem_cons_zero]
            refine held_take 5 rfl (by kernel_rfl) (by kernel_rfl) (by kernel_rfl) (.slice (some ⟨g3, o3, none⟩) N3 c3) (fun _ _ _ h => nomatch h.1) (by kernel_rfl) (fun w' h => (by kernel_rfl)) hS ?_
            simp only [Act.put, List.setIfInBounds_toArray, List.set_cons_zero, List.set_cons_succ, List.getElem_toArray, List.getElem_cons_succ, List.getElem_cons_zero]
            refine held_take 6 rfl (by kernel_rfl) (by kernel_rfl) (by kernel_rfl) (.int .i64 (a3 : Int)) (fun _ _ _ h => nomatch h.1) (by kernel_rfl) (fun w' h => (by kernel_rfl)) hS ?_
            simp only [Act.put, List.setIfInBounds_toArray, List.set_cons_zero, List.set_cons_succ, List.getElem_toArray, List.getElem_cons_succ, List.getElem_cons_zero]
            refine held_take 7 rfl (by kernel_rfl) (by kernel_rfl) (by kernel_rfl) (.pointer (some ⟨g3, o3 + a3 * 37, none⟩)) (fun _ _ _ h => nomatch h.1) (by kernel_rfl) (fun w' h => exec_index un51 sz51 _ _ rfl g3 o3 N3 c3 a3 (by kernel_rfl) (by kernel_rfl) hlt3 w') hS ?_
            simp only [Act.put, List.setIfInBounds_toArray, List.set_cons_zero, List.set_cons_succ, List.getElem_toArray, List.getElem_cons_succ, List.getElem_cons_zero]
            refine held_take 8 rfl (by kernel_rfl) (by kernel_rfl) (by kernel_rfl) (.agg (encL ((kk : Int), (j : Int) + 1, (lst kk).getD j default))) (fun _ _ _ h => nomatch h.1) (by kernel_rfl) (fun w' h => load_ln w' _ rfl g3 (o3 + a3 * 37) (by kernel_rfl) _ (hel3H.out w' h)) hS ?_
            simp only [Act.put, List.setIfInBounds_toArray, List.set_cons_zero, List.set_cons_succ, List.getElem_toArray, List.getElem_cons_succ, List.getElem_cons_zero]
            refine held_take 9 rfl (by kernel_rfl) (by kernel_rfl) (by kernel_rfl) (.int .i64 (kk : Int)) (fun _ _ _ h => nomatch h.1) (by kernel_rfl) (fun w' h => (by kernel_rfl)) hS ?_
            simp only [Act.put, List.setIfInBounds_toArray, List.set_cons_zero, List.set_cons_succ, List.getElem_toArray, List.getElem_cons_succ, List.getElem_cons_zero]
            refine held_take 10 rfl (by kernel_rfl) (by kernel_rfl) (by kernel_rfl) (.int .i64 (j : Int)) (fun _ _ _ h => nomatch h.1) (by kernel_rfl) (fun w' h => (by kernel_rfl)) hS ?_
            simp only [Act.put, List.setIfInBounds_toArray, List.set_cons_zero, List.set_cons_succ, List.getElem_toArray, List.getElem_cons_succ, List.getElem_cons_zero]
            refine held_take 11 rfl (by kernel_rfl) (by kernel_rfl) (by kernel_rfl) (.int .i64 ((j : Int) + 1)) (fun _ _ _ h => nomatch h.1) (by kernel_rfl) (fun w' h => exec_add2 _ _ rfl (j : Int) 1 (by kernel_rfl) (by kernel_rfl) (by omega) (by omega) w') hS ?_
            simp only [Act.put, List.setIfInBounds_toArray, List.set_cons_zero, List.set_cons_succ, List.getElem_toArray, List.getElem_cons_succ, List.getElem_cons_zero]
            refine held_take 12 rfl (by kernel_rfl) (by kernel_rfl) (by kernel_rfl) (.slice (some ⟨HB, 0, none⟩) lN lN) (fun _ _ _ h => nomatch h.1) (by kernel_rfl) (fun w' h => (by kernel_rfl)) hS ?_
            simp only [Act.put, List.setIfInBounds_toArray, List.set_cons_zero, List.set_cons_succ, List.getElem_toArray, List.getElem_cons_succ, List.getElem_cons_zero]
            refine held_take 13 rfl (by kernel_rfl) (by kernel_rfl) (by kernel_rfl) (.int .i64 (kk : Int)) (fun _ _ _ h => nomatch h.1) (by kernel_rfl) (fun w' h => (by kernel_rfl)) hS ?_
            simp only [Act.put, List.setIfInBounds_toArray, List.set_cons_zero, List.set_cons_succ, List.getElem_toArray, List.getElem_cons_succ, List.getElem_cons_zero]
            refine held_take 14 rfl (by kernel_rfl) (by kernel_rfl) (by kernel_rfl) (.pointer (some ⟨HB, 0 + kk * 1, none⟩)) (fun _ _ _ h => nomatch h.1) (by kernel_rfl) (fun w' h => exec_index un44 sz44 _ _ rfl HB 0 lN lN kk (by kernel_rfl) (by kernel_rfl) hlt w') hS ?_
            simp only [Act.put, List.setIfInBounds_toArray, List.set_cons_zero, List.set_cons_succ, List.getElem_toArray, List.getElem_cons_succ, List.getElem_cons_zero]
            refine held_take 15 rfl (by kernel_rfl) (by kernel_rfl) (by kernel_rfl) (.slice (some ⟨g1, o1, none⟩) (lst kk).length c1) (fun _ _ _ h => nomatch h.1) (by kernel_rfl) (fun w' h => load_len w' _ rfl HB kk (by kernel_rfl) _ (hcell2H.out w' h)) hS ?_
            simp only [Act.put, List.setIfInBounds_toArray, List.set_cons_zero, List.set_cons_succ, List.getElem_toArray, List.getElem_cons_succ, List.getElem_cons_zero]
            refine held_take 16 rfl (by kernel_rfl) (by kernel_rfl) (by kernel_rfl) (.int .i64 (j : Int)) (fun _ _ _ h => nomatch h.1) (by kernel_rfl) (fun w' h => (by kernel_rfl)) hS ?_
            simp only [Act.put, List.setIfInBounds_toArray, List.set_cons_zero, List.set_cons_succ, List.getElem_toArray, List.getElem_cons_succ, List.getElem_cons_zero]
            refine held_take 17 rfl (by kernel_rfl) (by kernel_rfl) (by kernel_rfl) (.pointer (some ⟨g1, o1 + j * 35, none⟩)) (fun _ _ _ h => nomatch h.1) (by kernel_rfl) (fun w' h => exec_index un34 sz34 _ _ rfl g1 o1 (lst kk).length c1 j (by kernel_rfl) (by kernel_rfl) hjl w') hS ?_
            simp only [Act.put, List.setIfInBounds_toArray, List.set_cons_zero, List.set_cons_succ, List.getElem_toArray, List.getElem_cons_succ, List.getElem_cons_zero]
            refine held_take 18 rfl (by kernel_rfl) (by kernel_rfl) (by kernel_rfl) (.agg (encE ((lst kk).getD j default))) (fun _ _ _ h => nomatch h.1) (by kernel_rfl) (fun w' h => load_en w' _ rfl g1 (o1 + j * 35) (by kernel_rfl) _ (hel1H.out w' h)) hS ?_
            simp only [Act.put, List.setIfInBounds_toArray, List.set_cons_zero, List.set_cons_succ, List.getElem_toArray, List.getElem_cons_succ, List.getElem_cons_zero]
            refine held_take 19 rfl (by kernel_rfl) (by kernel_rfl) (by kernel_rfl) (.agg (encL ((kk : Int), (j : Int) + 1, (lst kk).getD j default))) (fun _ _ _ h => nomatch h.1) (by kernel_rfl) (fun w' h => exec_bl55 _ _ _ rfl ((kk : Int), (j : Int) + 1, (lst kk).getD j default) (by kernel_rfl) (by kernel_rfl) (by kernel_rfl) w') hS ?_
            simp only [Act.put, List.setIfInBounds_toArray, List.set_cons_zero, List.set_cons_succ, List.getElem_toArray, List.getElem_cons_succ, List.getElem_cons_zero]
            refine held_take 20 rfl (by kernel_rfl) (by kernel_rfl) (by kernel_rfl) (.bool false) (fun _ _ _ h => nomatch h.1) (by kernel_rfl) (fun w' h => (exec_neL _ _ rfl ((kk : Int), (j : Int) + 1, (lst kk).getD j default) ((kk : Int), (j : Int) + 1, (lst kk).getD j default) (by kernel_rfl) (by kernel_rfl) w').trans (by rw [decide_eq_true rfl]; rfl)) hS ?_
            simp only [Act.put, List.setIfInBounds_toArray, List.set_cons_zero, List.set_cons_succ, List.getElem_toArray, List.getElem_cons_succ, List.getElem_cons_zero]
            refine held_take 21 rfl (by kernel_rfl) (by kernel_rfl) (by kernel_rfl) (.bool false) (fun _ _ _ h => nomatch h.1) (by kernel_rfl) (fun w' h => (by kernel_rfl)) hS ?_
            simp only [Act.put, List.setIfInBounds_toArray, List.set_cons_zero, List.set_cons_succ, List.getElem_toArray, List.getElem_cons_succ, List.getElem_cons_zero]
            have hby4 : Hid (Below W2.heap.size W2 y) := hbo3.out.trans (hS.mono hbo3.out.size)
            have ha3H : Hid (a3 = a2 + j) := ha3
            clear ha3 hS hbo3 hel3H hel1H hcell2H hrwH hcellH hOwo3 hjt
            refine wpAnyH_done (by kernel_rfl) ?_ _
            refine ⟨rfl, ?_⟩
            rename_i hK
            refine hK _ _ ?_
            clear hK
            go_wp2_with fail
            go_roundw
            case rel => exact ⟨j + 1, a3 + 1, by omega, .inr (by simp), by have := ha3H.out; omega, by go_num, by go_num, hby4⟩
            case measure => simp [intOf]; omega
end Go.Proofs.YtadopkifpfmhcaaDoor
