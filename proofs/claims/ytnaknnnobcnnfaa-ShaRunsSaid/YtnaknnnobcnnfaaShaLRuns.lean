/-
  ShaRuns: the walk.
-/
import Derived.Test.YtnaknnnobcnnfaaShaHeld
import Derived.Maps.AppendAt
namespace Go.Proofs.Ytnaknnnobcnnfaa.Sha
open Go.RowKit
set_option linter.unusedVariables false
set_option linter.unusedSimpArgs false
set_option pp.maxSteps 50000
theorem rep_lt (i c : Nat) (hc : c < 256) : ∀ j, (List.replicate i c).getD j 0 < 256 := getD_lt (by decide) (fun x hx => by rw [(List.mem_replicate.1 hx).2]; exact hc)
theorem rep_vals (i c : Nat) : vals (List.replicate (i + 1) c) = vals (List.replicate i c) ++ [.int .u8 (c : Int)] := by
  rw [List.replicate_succ']; simp [vals]
theorem vals_getone (c : Nat) (w : World) : ∀ (j : Nat) (u : Value), [Value.int .u8 (c : Int)][j]? = some u → (w.alloc (.cells (bytesC [c]) 5)).cell? ((⟨w.heap.size, 0, none⟩ : Addr).add j) = some u := by
  intro j u h
  rw [Addr.add_mid, cell_of_row _ _ _ _ _ _ (heap_alloc_new w _)]
  simpa [bytesC] using h
set_option maxRecDepth 100000 in
set_option maxHeartbeats 1000000 in
theorem runs_calls (n c : Nat) (hn : n < 256) (hc : c < 256) (w : World) :
    Calls Try.prog 6 #[.int .u8 (n : Int), .int .u8 (c : Int)] w fun e w' => e = .returned (.bool true) ∧ Below w.heap.size w w' := by
  obtain ⟨i5, hi5, hz0, hz1, hz2⟩ := info5'
  obtain ⟨k, hk⟩ : ∃ k, k = n % 200 := ⟨_, rfl⟩
  have hk1 : (n : Int) % 200 = (k : Int) := by omega
  have hk2 : k < 200 := by omega
  clear hk
  go_enter Try.func6, Try.ntmps6
  go_upto_region 1 with fail
  refine wp_region_lit ?_
  refine sl_call rfl 7 #[] (by kernel_rfl) (R := fun v w' => v = .bool true ∧ Below w.heap.size w w') ((fixed_calls w).mono fun e w' h => ⟨_, h.1, rfl, h.2⟩) ?_
  rintro _ w1 ⟨rfl, hB1⟩
  have hs1 := hB1.size
  refine sl_run rfl (.bool false) w1 (by kernel_rfl) ?_
  refine wpList_nil ?_
  simp only [Act.put, List.setIfInBounds_toArray, List.set_cons_zero, List.set_cons_succ]
  go_upto_region 5 with fail
  refine wp_region_lit ?_
  refine sl_call rfl 12 #[] (by kernel_rfl) (R := fun v w' => ∃ g, v = .pointer (some ⟨g, 0, none⟩) ∧ HSt w1.heap.size w1 w' g (.slice none 0 0) []) ((new_holds w1).mono fun e w' h => by obtain ⟨g, h1, h2, h3, h4⟩ := h; exact ⟨_, h1, g, rfl, h3, h4, h2⟩) ?_
  rintro _ w2 ⟨g, rfl, hH2⟩
  refine sl_run rfl (.pointer (some ⟨g, 0, none⟩)) w2 (by kernel_rfl) ?_
  refine wpList_nil ?_
  simp only [Act.put, List.setIfInBounds_toArray, List.set_cons_zero, List.set_cons_succ]
  have hs2 := hH2.below.size
  go_upto_region 6 with fail
  go_wp2_with fail
  go_loopw [6, 8] (fun va u wr => ∃ (i : Nat) (v : Value), i ≤ k ∧ u = .int .i64 i ∧ wr.ownsRow w1.heap.size 5 1 va (List.replicate i c).length (vals (List.replicate i c)) ∧ Hid (HSt w1.heap.size w1 wr g v (List.replicate i c)) ∧ (∀ q, va.ownBlock = some q → v.ownBlock ≠ some q)) (fun _ u _ => k - (intOf u).toNat)
  case atStart => exact ⟨0, .slice none 0 0, by omega, rfl, World.ownsRow_nil _ _ _ _, hH2, fun q h => by simp [Value.ownBlock] at h⟩
  case round =>
    clear hH2
    obtain ⟨i, v, hi, rfl, hown, hH, hne⟩ := hrel
    have hs := hH.out.below.size
    by_cases hlt : i < k
    · have hiI : (i : Int) < (k : Int) := by omega
      go_upto_region 9 with fail
      refine wp_region_lit ?_
      refine sl_run rfl u6 wr (by kernel_rfl) ?_
      refine sl_run rfl (.int .u8 (c : Int)) wr (by kernel_rfl) ?_
      refine sl_run rfl (.slice (some ⟨wr.heap.size, 0, none⟩) 1 1) (wr.alloc (.cells (bytesC [c]) 5)) (by kernel_rfl) ?_
      have hlen : (List.replicate i c).length = i := List.length_replicate
      have hvag : u6.ownBlock ≠ some g := own_ne_hash hown hH.out.holds.1
      refine wpList_append_own_at _ rfl _ _ 22 rfl w1.heap.size 5 i5 (.int .u8 0) 1 1 Try.underlying22 hi5 hz0 hz1 hz2 rfl (by decide) u6 _ _ (by kernel_rfl) (hown.alloc _) ⟨wr.heap.size, 0, none⟩ 1 1 [.int .u8 (c : Int)] (by kernel_rfl) rfl (vals_getone c wr) (fun u hu => by simp at hu; subst hu; rfl) (by unfold maxLen; omega) (by omega) (by simp; omega) ?_
      intro va5 w5 hown5 hgr5 hnil5 hat5
      clear hnil5
      have hown5 : w5.ownsRow w1.heap.size 5 1 va5 (List.replicate (i + 1) c).length (vals (List.replicate (i + 1) c)) := by
        rw [rep_vals, List.length_replicate]; rw [hlen] at hown5; exact hown5
      refine sl_run rfl va5 w5 (by kernel_rfl) ?_
      refine wpList_nil ?_
      simp only [Act.put, List.setIfInBounds_toArray, List.set_cons_zero, List.set_cons_succ]
      have hHa := hH.out.next ((Below.refl _ _).alloc (Nat.le_refl _) (.cells (bytesC [c]) 5)) hs
      have hH5 : HSt w1.heap.size w1 w5 g v (List.replicate i c) := by
        refine ⟨hHa.holds.kept (fun q hq => ?_), Below.grown hHa.below hgr5 (by simp; omega) (fun q hq => (hown.lt q hq).1), hHa.hg⟩
        rcases hq with rfl | hq
        · exact hgr5.block q hHa.holds.lt (fun e => hvag e.symm)
        · exact hgr5.block q (hHa.holds.2.lt q hq).2 (fun e => hne q e.symm hq)
      have hne5 : ∀ q, va5.ownBlock = some q → v.ownBlock ≠ some q := fun q hq e => by
        rcases hat5 with h | h
        · exact hne q (by rw [← h]; exact hq) e
        · rw [h] at hq
          have h1 := (hH.out.holds.2.lt q e).2
          simp at hq
          omega
      have hs5 := hH5.below.size
      clear hown hH hHa hgr5 hat5 hne
      go_upto_region 10 with fail
      refine wp_region_lit ?_
      refine sl_run rfl (.pointer (some ⟨g, 0, none⟩)) w5 (by kernel_rfl) ?_
      refine sl_run rfl (.int .u8 (c : Int)) w5 (by kernel_rfl) ?_
      refine sl_run rfl (.slice (some ⟨w5.heap.size, 0, none⟩) 1 1) (w5.alloc (.cells (bytesC [c]) 5)) (by kernel_rfl) ?_
      simp only [Act.put, List.setIfInBounds_toArray, List.set_cons_zero, List.set_cons_succ]
      have hy6 := bytes_lit w5 [c] 1 rfl
      have hH6 := hH5.next ((Below.refl _ _).alloc (Nat.le_refl _) (.cells (bytesC [c]) 5)) hs5
      have hown6 := hown5.alloc (.cells (bytesC [c]) 5)
      have hyg : (Value.slice (some ⟨w5.heap.size, 0, none⟩) 1 1).ownBlock ≠ some g := fun e => by
        have := hH5.holds.lt
        simp [Value.ownBlock] at e
        omega
      generalize w5.alloc _ = w6 at hy6 hH6 hown6
      have hs6 := hH6.below.size
      refine sl_call rfl 13 #[.pointer (some ⟨g, 0, none⟩), .slice (some ⟨w5.heap.size, 0, none⟩) 1 1] (by kernel_rfl) (R := fun _ w' => ∃ v', HSt w1.heap.size w1 w' g v' (List.replicate (i + 1) c) ∧ w'.ownsRow w1.heap.size 5 1 va5 (List.replicate (i + 1) c).length (vals (List.replicate (i + 1) c)) ∧ (∀ q, va5.ownBlock = some q → v'.ownBlock ≠ some q)) ((write_holds (List.replicate i c) [c] (rep_lt i c hc) (getD_lt (by decide) (by simpa using hc)) (by rw [hlen]; omega) (by simp) _ _ g w6 hH6.holds _ hy6 (fun _ => hyg)).mono fun e w' h => by
        obtain ⟨h1, v', h2, h3⟩ := h
        rw [← List.replicate_succ'] at h2
        refine ⟨_, h1, v', hH6.wrote hs6 h2 h3, own_keep hown6 (fun q hq => h3.block q (hown6.lt q hq).2 (fun e => own_ne_hash hown6 hH6.holds.1 (by rw [hq, e])) (fun e => hne5 q hq e.symm)), fun q hq e => ?_⟩
        have h4 := (h2.2.lt q e).1
        have h5 := (hown6.lt q hq).2
        omega) ?_
      rintro _ w7 ⟨v7, hH7, hown7, hne7⟩
      refine wpList_nil ?_
      simp only [Act.put, List.setIfInBounds_toArray, List.set_cons_zero, List.set_cons_succ]
      have hH7' : Hid (HSt w1.heap.size w1 w7 g v7 (List.replicate (i + 1) c)) := hH7
      clear hown5 hH5 hne5 hy6 hH6 hown6 hH7
      go_wp2_with fail
      go_roundw
      case rel => exact ⟨i + 1, v7, by omega, by go_num, hown7, hH7', hne7⟩
      case measure => simp [intOf]; omega
    · have hni : ¬ (i : Int) < (k : Int) := by omega
      obtain ⟨L, hL⟩ : ∃ L, L = List.replicate i c := ⟨_, rfl⟩
      have hLb : ∀ j, L.getD j 0 < 256 := by rw [hL]; exact rep_lt i c hc
      have hLl : L.length ≤ 1000000000 := by rw [hL, List.length_replicate]; omega
      rw [← hL] at hown hH
      obtain ⟨D, hD⟩ : ∃ D, D = sumB L := ⟨_, rfl⟩
      have hDl : D.length = 32 := by rw [hD]; exact sumB_length _
      have hy0 : Bytes wr u6 L := Bytes.own hown
      obtain ⟨A6, c6, rfl⟩ := hy0.form
      go_upto_region 11 with fail
      refine wp_region_lit ?_
      refine sl_run rfl (.pointer (some ⟨g, 0, none⟩)) wr (by kernel_rfl) ?_
      simp only [Act.put, List.setIfInBounds_toArray, List.set_cons_zero, List.set_cons_succ]
      refine sl_call rfl 14 #[.pointer (some ⟨g, 0, none⟩)] (by kernel_rfl) (R := fun u w' => u = .agg (bytesC D) ∧ Below wr.heap.size wr w') ((sum_holds L hLb hLl _ _ g wr hH.out.holds).mono fun e w' h => ⟨_, h.1, by rw [hD], h.2⟩) ?_
      rintro _ w3 ⟨rfl, hB3⟩
      simp only [Act.put, List.setIfInBounds_toArray, List.set_cons_zero, List.set_cons_succ]
      have hy3 := hy0.below hB3
      refine sl_run rfl (.slice A6 L.length c6) w3 (by kernel_rfl) ?_
      simp only [Act.put, List.setIfInBounds_toArray, List.set_cons_zero, List.set_cons_succ]
      refine sl_call rfl 9 #[.slice A6 L.length c6] (by kernel_rfl) (R := fun u w' => u = .agg (bytesC D) ∧ Below w3.heap.size w3 w') ((one_calls L hLb hLl _ w3 hy3).mono fun e w' h => ⟨_, h.1, by rw [hD], h.2⟩) ?_
      rintro _ w4 ⟨rfl, hB4⟩
      simp only [Act.put, List.setIfInBounds_toArray, List.set_cons_zero, List.set_cons_succ]
      have hB4' : Below wr.heap.size wr w4 := hB3.trans (hB4.mono hB3.size)
      refine sl_run rfl (.bool true) w4 (exec_eql _ _ rfl D hDl (by kernel_rfl) (by kernel_rfl) w4) ?_
      simp only [Act.put, List.setIfInBounds_toArray, List.set_cons_zero, List.set_cons_succ]
      refine sl_run rfl (.bool true) w4 (by kernel_rfl) ?_
      simp only [Act.put, List.setIfInBounds_toArray, List.set_cons_zero, List.set_cons_succ]
      refine sg_run (by kernel_rfl) (.slice A6 L.length c6) w4 (by kernel_rfl) ?_
      simp only [Act.put, List.setIfInBounds_toArray, List.set_cons_zero, List.set_cons_succ]
      refine sg_run (by kernel_rfl) (.slice (some ⟨w4.heap.size, 0, none⟩) 1 1) (w4.alloc (.cells #[.slice A6 L.length c6] 22)) (by kernel_rfl) ?_
      simp only [Act.put, List.setIfInBounds_toArray, List.set_cons_zero, List.set_cons_succ]
      have hl5 := lists_one (hy0.below hB4')
      have hB5 : Below wr.heap.size wr (w4.alloc (.cells #[.slice A6 L.length c6] 22)) := hB4'.alloc hB4'.size _
      generalize w4.alloc _ = w5 at hl5 hB5
      refine sg_call (by kernel_rfl) 16 #[.slice (some ⟨w4.heap.size, 0, none⟩) 1 1] (by kernel_rfl) (R := fun u w' => u = .agg (bytesC D) ∧ Below w5.heap.size w5 w') ((parts_calls [L] (fun x hx => List.mem_singleton.1 hx ▸ hLb) (by simpa using hLl) (by simp) _ _ w5 hl5).mono fun e w' h => ⟨_, h.1, by rw [hD]; simp, h.2⟩) ?_
      rintro _ w6 ⟨rfl, hB6⟩
      simp only [Act.put, List.setIfInBounds_toArray, List.set_cons_zero, List.set_cons_succ]
      have hB6' : Below wr.heap.size wr w6 := hB5.trans (hB6.mono hB5.size)
      refine sg_run (by kernel_rfl) (.pointer (some ⟨g, 0, none⟩)) w6 (by kernel_rfl) ?_
      simp only [Act.put, List.setIfInBounds_toArray, List.set_cons_zero, List.set_cons_succ]
      refine sg_call (by kernel_rfl) 14 #[.pointer (some ⟨g, 0, none⟩)] (by kernel_rfl) (R := fun u w' => u = .agg (bytesC D) ∧ Below w6.heap.size w6 w') ((sum_holds L hLb hLl _ _ g w6 (hH.out.holds.below hB6')).mono fun e w' h => ⟨_, h.1, by rw [hD], h.2⟩) ?_
      rintro _ w7 ⟨rfl, hB7⟩
      simp only [Act.put, List.setIfInBounds_toArray, List.set_cons_zero, List.set_cons_succ]
      have hB7' : Below wr.heap.size wr w7 := hB6'.trans (hB7.mono hB6'.size)
      refine sg_run (by kernel_rfl) (.bool true) w7 (exec_eql _ _ rfl D hDl (by kernel_rfl) (by kernel_rfl) w7) ?_
      simp only [Act.put, List.setIfInBounds_toArray, List.set_cons_zero, List.set_cons_succ]
      refine sl_run rfl (.bool true) w7 (by kernel_rfl) ?_
      simp only [Act.put, List.setIfInBounds_toArray, List.set_cons_zero, List.set_cons_succ]
      refine sl_run rfl (.bool true) w7 (by kernel_rfl) ?_
      simp only [Act.put, List.setIfInBounds_toArray, List.set_cons_zero, List.set_cons_succ]
      refine wpList_nil ?_
      rename_i hK
      exact hK _ _ (wp_ret (bodyPost_ret (v := .bool true) (by kernel_rfl) (by kernel_rfl) ⟨rfl, hB1.trans ((hH.out.below.trans (hB7'.mono hs)).mono hs1)⟩))
end Go.Proofs.Ytnaknnnobcnnfaa.Sha
