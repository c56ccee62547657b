/-
  SHA-256: the document's sum.
-/
import Derived.Test.YtnaknnnobcnnfaaShaMem
import Derived.StillTail
import Derived.Test.YtnaknnnobcnnfaaShaRefBlock
namespace Go.Proofs.Ytnaknnnobcnnfaa.Sha
open Go.RowKit
set_option linter.unusedVariables false
set_option linter.unusedSimpArgs false
set_option pp.maxSteps 50000
/-- A slice's length. -/
def lenOf : Value → Nat | .slice _ n _ => n | _ => 0
theorem cells_one (w : World) (x : Value) : ∀ (j : Nat) (u : Value), [x][j]? = some u → (w.alloc (.cells #[x] 5)).cell? ((⟨w.heap.size, 0, none⟩ : Addr).add j) = some u := by
  intro j u h
  rw [Addr.add_mid, cell_of_row _ _ _ _ _ _ (heap_alloc_new w _)]
  simpa using h
set_option maxRecDepth 100000 in
set_option maxHeartbeats 1000000 in
theorem rsum_calls (l : List Nat) (hb : ∀ j, l.getD j 0 < 256) (hlen : l.length ≤ 1000000000) (A0 : Option Addr) (c : Nat) (w : World) (hy : Bytes w (.slice A0 l.length c) l) :
    Calls Try.prog 8 #[.slice A0 l.length c] w fun e w' => e = .returned (.agg (bytesC (sumB l))) ∧ Below w.heap.size w w' := by
  obtain ⟨i5, hi5, hz0, hz1, hz2⟩ := info_parts info5
  go_enter Try.func8, Try.ntmps8
  go_upto_region 2 with fail
  generalize hW : World.alloc _ _ = W
  have hWs : W.heap.size = w.heap.size + 2 := by rw [← hW]; simp
  have hW0 : W.heap[w.heap.size]? = some (.cells (bytesC (zeros 32)) 24 (0, 0)) := by rw [← hW]; exact heap_alloc2_old w _ _
  have hW1 : W.heap[w.heap.size + 1]? = some (.cells (words IV) 40 (0, 0)) := by rw [← hW]; exact heap_alloc2_new w _ _
  have hWB : Below w.heap.size w W := by rw [← hW]; exact ((Below.refl _ _).alloc (by simp) _).alloc (by simp) _
  clear hW
  refine wp_region_lit ?_
  refine sl_run rfl (.slice (some ⟨w.heap.size + 2, 0, none⟩) 0 0) (W.alloc (.cells #[] 5)) (by rw [← hWs]; kernel_rfl) ?_
  refine sl_run rfl (.slice A0 l.length c) (W.alloc (.cells #[] 5)) (by kernel_rfl) ?_
  have hown0 : (W.alloc (.cells #[] 5)).ownsRow (w.heap.size + 2) 5 1 (.slice (some ⟨w.heap.size + 2, 0, none⟩) 0 0) 0 [] := by
    rw [← hWs]; exact World.ownsRow_made _ _ 0 (Nat.le_refl _) (by decide) rfl
  refine append22 rfl _ _ rfl (w.heap.size + 2) (.slice (some ⟨w.heap.size + 2, 0, none⟩) 0 0) [] l (by kernel_rfl) hown0 _ (by kernel_rfl) ((hy.below (hWB.mono (Nat.le_refl _))).alloc _) (by simp; omega) (by simp; omega) ?_
  intro v4 w3 hown1 hgrow1 _
  refine sl_run rfl v4 w3 (by kernel_rfl) ?_
  refine wpList_nil ?_
  have hB3 : Below (w.heap.size + 2) W w3 := Below.grown ((Below.refl _ _).alloc (by omega) _) hgrow1 (by simp; omega) (fun k hk => by injection hk with hk; subst hk; exact Nat.le_refl _)
  have hown1 : w3.ownsRow (w.heap.size + 2) 5 1 v4 l.length (vals l) := by simpa using hown1
  clear hown0 hgrow1
  go_upto_region 3 with fail
  refine wp_region_lit ?_
  refine sl_run rfl v4 w3 (by kernel_rfl) ?_
  refine sl_run rfl (.slice (some ⟨w3.heap.size, 0, none⟩) 1 1) (w3.alloc (.cells #[.int .u8 128] 5)) (by kernel_rfl) ?_
  have hs3 : w.heap.size + 2 ≤ w3.heap.size := by have := hB3.size; omega
  refine wpList_append_own _ rfl _ _ 22 rfl (w.heap.size + 2) 5 i5 (.int .u8 0) 1 1 Try.underlying22 hi5 hz0 hz1 hz2 rfl (by decide) v4 l.length (vals l) (by kernel_rfl) (hown1.alloc _) ⟨w3.heap.size, 0, none⟩ 1 1 [.int .u8 128] (by kernel_rfl) rfl (cells_one _ _) (fun u hu => by simp at hu; subst hu; rfl) (by unfold maxLen; omega) (by omega) (by simp; omega) ?_
  intro v5 w4 hown2 hgrow2 _
  refine sl_run rfl v5 w4 (by kernel_rfl) ?_
  refine wpList_nil ?_
  have hB4 : Below (w.heap.size + 2) W w4 := Below.grown (hB3.alloc hs3 _) hgrow2 (by simp; omega) (fun k hk => (hown1.lt k hk).1)
  have hown2 : w4.ownsRow (w.heap.size + 2) 5 1 v5 (l ++ 128 :: List.replicate 0 0).length (vals (l ++ 128 :: List.replicate 0 0)) := by
    have e : vals (l ++ 128 :: List.replicate 0 0) = vals l ++ [.int .u8 128] := by simp [vals]
    rw [e]; simpa using hown2
  clear hgrow2 hown1 hB3 hs3
  simp only [Act.put, List.setIfInBounds_toArray, List.set_cons_zero, List.set_cons_succ]
  go_wp2_with fail
  obtain ⟨Z, hZ⟩ : ∃ Z, Z = (119 - l.length % 64) % 64 := ⟨_, rfl⟩
  go_loopw [4] (fun v wr => ∃ z n : Nat, z ≤ Z ∧ n = (l ++ 128 :: List.replicate z 0).length ∧ (∃ A cp, v = .slice A n cp) ∧ wr.ownsRow (w.heap.size + 2) 5 1 v n (vals (l ++ 128 :: List.replicate z 0)) ∧ Hid (Below (w.heap.size + 2) W wr)) (fun v _ => l.length + 1 + Z - lenOf v)
  case atStart =>
    refine ⟨0, _, by omega, rfl, ?_, hown2, hB4⟩
    rcases hown2.2 with ⟨h, h2⟩ | ⟨g, cap, cur, h, _⟩
    · simp at h2
    · exact ⟨_, _, h⟩
  case round =>
    obtain ⟨z, n, hz, hn, ⟨A, cp, rfl⟩, hown, hrB⟩ := hrel
    have hs : w.heap.size + 2 ≤ wr.heap.size := by have := Below.size hrB.out; omega
    have hnl : n = l.length + 1 + z := by rw [hn]; simp; omega
    have hn6 : n < 2000000000 := by omega
    by_cases hlt : z < Z
    · obtain ⟨r, hr⟩ : ∃ r : Nat, r = n % 64 := ⟨_, rfl⟩
      have er : (n : Int) % 64 = (r : Int) := by omega
      have hr56 : ¬ r = 56 := by omega
      have hrb : ((r : Int) == 56) = false := by simp; omega
      have hrc : ((r : Int) != 56) = true := by simp; omega
      have hn' : Hid (n = (l ++ 128 :: List.replicate z 0).length ∧ n = l.length + 1 + z ∧ Z = (119 - l.length % 64) % 64) := ⟨hn, hnl, hZ⟩
      clear hn hnl hZ hr
      go_wp2_with (at_builtin; refine wpList_append_own _ rfl _ _ 22 rfl (w.heap.size + 2) 5 i5 (.int .u8 0) 1 1 Try.underlying22 hi5 hz0 hz1 hz2 rfl (by decide) _ n _ rfl (hown.alloc _) ⟨wr.heap.size, 0, none⟩ 1 1 [.int .u8 0] rfl rfl (cells_one _ _) (fun u hu => by simp at hu; subst hu; rfl) (by unfold maxLen; omega) (by omega) (by simp; omega) ?_; intro v' w5 hown5 hgrow5 hnil5)
      have hgB : Below (w.heap.size + 2) W w5 := Below.grown (Below.alloc hrB.out hs _) hgrow5 (by simp; omega) (fun k hk => (hown.lt k hk).1)
      obtain ⟨A5, cp5, rfl⟩ : ∃ A cp, v' = .slice A (n + 1) cp := by
        rcases hown5.2 with ⟨_, h⟩ | ⟨g, cap, cur, h, _⟩
        · omega
        · exact ⟨_, _, h⟩
      clear hnil5 hgrow5
      go_roundw
      case rel =>
        obtain ⟨hn1, hn2, hZ⟩ := hn'.out
        have e : vals (l ++ 128 :: List.replicate (z + 1) 0) = vals (l ++ 128 :: List.replicate z 0) ++ [.int .u8 0] := by rw [List.replicate_succ']; simp [vals]
        exact ⟨z + 1, n + 1, by omega, by simp; omega, ⟨_, _, rfl⟩, by rw [e]; exact hown5, hgB⟩
      case measure => simp [lenOf]; have := hn'.out.2.1; omega
    · obtain rfl : z = Z := by omega
      have h56 : n % 64 = 56 := by omega
      have er : (n : Int) % 64 = 56 := by omega
      have hn' : Hid (n = (l ++ 128 :: List.replicate z 0).length ∧ n = l.length + 1 + z ∧ z = (119 - l.length % 64) % 64) := ⟨hn, hnl, hZ⟩
      clear hn hnl hZ h56
      go_wp2_with fail
      obtain ⟨M, hM⟩ : ∃ M, l ++ 128 :: List.replicate z 0 = M := ⟨_, rfl⟩
      have hnM : n = M.length := by rw [← hM]; exact hn'.out.1
      rw [hM] at hown
      clear er
      go_loopw [4, 6] (fun v v6 wr => ∃ i m : Nat, i ≤ 8 ∧ v6 = .int .i64 i ∧ m = M.length + i ∧ (∃ A cp, v = .slice A m cp) ∧ wr.ownsRow (w.heap.size + 2) 5 1 v m (vals (M ++ (lenB l.length).take i)) ∧ Hid (Below (w.heap.size + 2) W wr)) (fun _ v _ => 8 - (intOf v).toNat)
      case atStart => exact ⟨0, n, by omega, rfl, hnM, ⟨_, _, rfl⟩, by simpa using hown, hrB⟩
      case round =>
        clear hown hrB hs
        obtain ⟨i, m, hi, rfl, hm, ⟨A2, cp2, rfl⟩, hown, hrB⟩ := hrel
        have hs : w.heap.size + 2 ≤ wr.heap.size := by have := Below.size hrB.out; omega
        have hm6 : m < 3000000000 := by omega
        by_cases hlt : i < 8
        · have hm' : Hid (m = M.length + i) := hm
          obtain ⟨k, hk⟩ : ∃ k, Hid (k = i + 1) := ⟨_, rfl⟩
          clear hm hnM
          rcases (show i = 0 ∨ i = 1 ∨ i = 2 ∨ i = 3 ∨ i = 4 ∨ i = 5 ∨ i = 6 ∨ i = 7 by omega) with rfl | rfl | rfl | rfl | rfl | rfl | rfl | rfl
          all_goals
            go_wp2_with (at_builtin; refine wpList_append_own _ rfl _ _ 22 rfl (w.heap.size + 2) 5 i5 (.int .u8 0) 1 1 Try.underlying22 hi5 hz0 hz1 hz2 rfl (by decide) _ m _ rfl (hown.alloc _) ⟨wr.heap.size, 0, none⟩ 1 1 [_] rfl rfl (cells_one _ _) (fun u hu => by simp at hu; subst hu; rfl) (by unfold maxLen; omega) (by omega) (by simp; omega) ?_; intro v' w5 hown5 hgrow5 hnil5)
            have hgB : Below (w.heap.size + 2) W w5 := Below.grown (Below.alloc hrB.out hs _) hgrow5 (by simp; omega) (fun k hk => (hown.lt k hk).1)
            obtain ⟨A5, cp5, rfl⟩ : ∃ A cp, v' = .slice A (m + 1) cp := by
              rcases hown5.2 with ⟨_, h⟩ | ⟨g, cap, cur, h, _⟩
              · omega
              · exact ⟨_, _, h⟩
            clear hnil5 hgrow5
            go_roundw
            case rel =>
              have hk0 := hk.out
              refine ⟨k, m + 1, by omega, by rw [hk0]; rfl, by have := hm'.out; omega, ⟨_, _, rfl⟩, Eq.mp (congrArg (fun xs => w5.ownsRow _ _ _ _ _ xs) ?_) hown5, hgB⟩
              rw [hk0]
              simp [vals, lenB, List.range_succ]
              try omega
            case measure => simp [intOf]
        · obtain rfl : i = 8 := by omega
          have hP : M ++ List.take 8 (lenB l.length) = pad l l.length := by
            rw [← hM, hn'.out.2.2, List.take_of_length_le (by simp [lenB])]; simp [pad, tailB]
          rw [hP] at hown
          have hmP : m = (pad l l.length).length := by rw [← hP, List.length_append, List.take_of_length_le (by simp [lenB]), hm]; simp [lenB]
          clear hm hnM
          go_wp2_with fail
          obtain ⟨P, hPd⟩ : ∃ P, P = pad l l.length := ⟨_, rfl⟩
          have hPb : ∀ j, P.getD j 0 < 256 := by rw [hPd]; exact pad_lt _ _ hb
          have hP0 : 0 < P.length := by rw [hPd]; unfold pad; rw [List.length_append, tailB_len]; omega
          have hPm : P.length % 64 = 0 := by rw [hPd]; exact pad_len _ _
          rw [← hPd] at hown hmP
          have hmP' : Hid (m = P.length) := hmP
          have hm0 : 0 < m := by omega
          have hPd' : Hid (P = pad l l.length) := hPd
          clear hPd
          obtain ⟨g, cap, hv⟩ : ∃ g cap, Value.slice A2 m cp2 = .slice (some ⟨g, 0, none⟩) m cap := by
            rcases hown.2 with ⟨h, _⟩ | ⟨g, cap, cur, h, _⟩
            · simp at h; omega
            · exact ⟨g, cap, h⟩
          injection hv with hA _ hcp
          subst hA hcp
          have hgB : w.heap.size + 2 ≤ g := (hown.lt g rfl).1
          have hmc : m ≤ cp2 := by
            rcases hown.2 with ⟨h, _⟩ | ⟨g2, cap2, cur, h, _, _, h2, _⟩
            · simp at h
            · injection h with _ _ h3; omega
          have hlie : Lies wr g 0 P := lies_own hown
          have hr1 : wr.heap[w.heap.size + 1]? = some (.cells (words (st IV P 0)) 40 (0, 0)) := by rw [hrB.out.block _ (by omega)]; exact hW1
          have hmn : m < 3000000000 := hm6
          have hrB1 : Hid (Below (w.heap.size + 1) W wr) := hrB.out.mono (by omega)
          clear hown hrB hlt hmP hP hi hm6 hn6
          go_loopw [7] (fun v wr => ∃ j a : Nat, a = 64 * j ∧ a ≤ m ∧ v = .int .i64 a ∧ wr.heap[w.heap.size + 1]? = some (.cells (words (st IV P j)) 40 (0, 0)) ∧ Lies wr g 0 P ∧ Hid (Below (w.heap.size + 1) W wr)) (fun v _ => m - (intOf v).toNat)
          case atStart => exact ⟨0, 0, rfl, by omega, rfl, hr1, hlie, hrB1⟩
          case round =>
            clear hlie hr1 hrB1
            obtain ⟨j, a, ha, hae, rfl, hr1, hlie, hrB⟩ := hrel
            have hs : w.heap.size + 2 ≤ wr.heap.size := by have := Below.size hrB.out; omega
            have hgs : g < wr.heap.size := hlie.lt hP0
            by_cases hlt : a < m
            · have ha64 : a + 64 ≤ m := by have := hmP'.out; omega
              have hwr : IntKind.i64.wrap ((a : Int) + 64) = (a : Int) + 64 := by rw [IntKind.wrap_i64]; omega
              have hin1 : (a : Int) ≤ (a : Int) + 64 := by omega
              have hin2 : (a : Int) + 64 ≤ (cp2 : Int) := by omega
              have haj : Hid (a = 64 * j) := ha
              clear ha
              go_upto_region 14 with fail
              refine wp_region_still_tail 6 (by kernel_rfl) (by kernel_rfl) ?_
              change wpStill _ _ wr.drew (fun a' => wpList _ _ _ _ a' wr.drew) _ _
              generalize hx : wr.drew = wd
              have hr1 : wd.heap[w.heap.size + 1]? = some (.cells (words (st IV P j)) 40 (0, 0)) := by rw [← hx]; exact hr1
              have hlie : Lies wd g 0 P := by rw [← hx]; exact hlie
              have hrB : Hid (Below (w.heap.size + 1) W wd) := by rw [← hx]; exact Below.drew hrB.out
              have hds : w.heap.size + 2 ≤ wd.heap.size := by rw [← hx]; exact hs
              clear hx hs hgs
              have hlS : (st IV P j).length = 8 := st_length _ _ IV_length j
              simp only [List.take_succ_cons, List.take_zero, List.drop_succ_cons, List.drop_zero]
              refine still_run rfl (.agg (words (st IV P j))) (exec_load_row 40 _ _ rfl _ rfl _ _ _ _ hr1 Try.underlying40 rfl (by rw [words_size, hlS]; kernel_rfl)) ?_
              simp only [Act.put, List.setIfInBounds_toArray, List.set_cons_zero, List.set_cons_succ]
              still_step
              still_step
              still_step
              still_step
              refine still_run rfl (.slice (some ⟨g, 0 + a, none⟩) (a + 64 - a) (cp2 - a)) (exec_slice_lh (.tmp 49) (.tmp 50) (.tmp 52) rfl g 0 m cp2 a (a + 64) rfl rfl rfl (by omega) (by omega) wd) ?_
              refine wpStill_nil ?_
              rw [show a + 64 - a = 64 by omega, Nat.zero_add]
              refine sl_call rfl 17 _ (by kernel_rfl) (R := fun v w' => v = .agg (words (st IV P (j + 1))) ∧ Below wd.heap.size wd w') ((rblock_calls (st IV P j) hlS (st_lt _ _ IV_length IV_lt j) (fun t => P.getD (64 * j + t) 0) g a 64 (cp2 - a) (Nat.le_refl _) (by omega) wd (fun t ht => by
                have := hlie (a + t) (by have := hmP'.out; omega)
                rw [Nat.zero_add] at this; rw [this, haj.out]) (fun t ht => hPb _)).mono fun e w' h => ⟨_, h.1, rfl, h.2⟩) ?_
              rintro v w5 ⟨rfl, hB5⟩
              have h51 : w5.heap[w.heap.size + 1]? = some (.cells (words (st IV P j)) 40 (0, 0)) := by rw [hB5.block _ (by omega)]; exact hr1
              refine wpList_store_row rfl 40 _ _ rfl (w.heap.size + 1) (words (st IV P (j + 1))) (by kernel_rfl) (by kernel_rfl) 40 _ h51 (by rw [words_size, st_length _ _ IV_length]; kernel_rfl) (by rw [words_size, words_size, st_length _ _ IV_length, st_length _ _ IV_length]) (words_one _) ?_
              refine wpList_nil ?_
              have h61 : (w5.setRow (w.heap.size + 1) (words (st IV P (j + 1)))).heap[w.heap.size + 1]? = some (.cells (words (st IV P (j + 1))) 40 (0, 0)) := setRow_heap _ _ _ _ _ _ h51
              have h6l : Lies (w5.setRow (w.heap.size + 1) (words (st IV P (j + 1)))) g 0 P := (hlie.below hB5 (hlie.lt hP0)).setRow (by omega) _
              have h6B : Hid (Below (w.heap.size + 1) W (w5.setRow (w.heap.size + 1) (words (st IV P (j + 1))))) := below_setRow (hrB.out.trans (hB5.mono (by omega))) (by omega) _
              generalize World.setRow _ _ _ = w6 at h61 h6l h6B
              simp only [Act.put, List.setIfInBounds_toArray, List.set_cons_zero, List.set_cons_succ]
              clear hr1 hlie hrB h51 hB5
              go_wp2_with fail
              go_roundw
              case rel => exact ⟨j + 1, by have := haj.out; omega, by have := haj.out; omega, rfl⟩
              case measure => simp [intOf]; omega
            · have hjm : a = m := by have := hmP'.out; omega
              have hS : st IV P j = st IV (pad l l.length) ((pad l l.length).length / 64) := by
                have h1 := hmP'.out
                rw [← hPd'.out]; congr 1; omega
              have hlt' : ¬ (a : Int) < (m : Int) := by omega
              obtain ⟨S, hSd⟩ : ∃ S, S = st IV P j := ⟨_, rfl⟩
              have hSl : S.length = 8 := by rw [hSd]; exact st_length _ _ IV_length j
              have hSw : ∀ i, S.getD i 0 < 4294967296 := getD_lt (by decide) (by rw [hSd]; exact st_lt _ _ IV_length IV_lt j)
              rw [hS] at hSd
              have hR : Hid (sumB l = outB S) := by show _ = _; rw [hSd]; rfl
              rw [hS, ← hSd] at hr1
              clear hS hSd hlie ha hjm hae
              go_upto_region 15 with fail
              refine wp_region_lit ?_
              refine sl_run rfl (.pointer (some ⟨wr.heap.size, 0, none⟩)) (wr.alloc (.cells (bytesC (zeros 32)) 24)) (by kernel_rfl) ?_
              refine wpList_nil ?_
              simp only [Act.put, List.setIfInBounds_toArray, List.set_cons_zero, List.set_cons_succ]
              obtain ⟨h, hh⟩ : ∃ h, h = wr.heap.size := ⟨_, rfl⟩
              have hx1 : (wr.alloc (.cells (bytesC (zeros 32)) 24)).heap[w.heap.size + 1]? = some (.cells (words S) 40 (0, 0)) := by rw [heap_alloc_old _ _ (by omega)]; exact hr1
              have hx2 : (wr.alloc (.cells (bytesC (zeros 32)) 24)).heap[h]? = some (.cells (bytesC (outT S 0)) 24 (0, 0)) := by rw [hh]; exact heap_alloc_new _ _
              have hxB : Hid (Below (w.heap.size + 1) W (wr.alloc (.cells (bytesC (zeros 32)) 24))) := Below.alloc hrB.out (by omega) _
              rw [← hh]
              have hh2 : w.heap.size + 2 ≤ h := by omega
              generalize World.alloc _ _ = X at hx1 hx2 hxB
              clear hr1 hrB hh
              go_wp2_with fail
              go_loopw [9] (fun v wr => ∃ i : Nat, i ≤ 32 ∧ v = .int .i64 i ∧ wr.heap[w.heap.size + 1]? = some (.cells (words S) 40 (0, 0)) ∧ wr.heap[h]? = some (.cells (bytesC (outT S i)) 24 (0, 0)) ∧ Hid (Below (w.heap.size + 1) W wr)) (fun v _ => 32 - (intOf v).toNat)
              case atStart => exact ⟨0, by omega, rfl, hx1, hx2, hxB⟩
              case round =>
                clear hx1 hx2 hxB
                obtain ⟨i, hi, rfl, hx1, hx2, hxB⟩ := hrel
                by_cases hlt2 : i < 32
                · obtain ⟨q, hq⟩ : ∃ q : Nat, q = i / 4 := ⟨_, rfl⟩
                  have hq8 : (q : Int) < 8 := by omega
                  have eq4 : (i : Int) / 4 = (q : Int) := by omega
                  have hi32 : (i : Int) < 32 := by omega
                  obtain ⟨x, hx⟩ : ∃ x, x = S.getD q 0 := ⟨_, rfl⟩
                  have hx32 : x < 4294967296 := by rw [hx]; exact hSw q
                  have hc : wr.cell? ⟨w.heap.size + 1, q, none⟩ = some (.int .u32 (x : Int)) := by rw [cell_of_row _ _ _ _ _ _ hx1, hx]; exact words_get _ _ (by omega)
                  have hf : wr.frozen? ⟨h, i, none⟩ = false := frozen_of_row _ _ _ _ _ hx2
                  obtain ⟨z0, hz0'⟩ : ∃ z0, z0 = (outT S i).getD i 0 := ⟨_, rfl⟩
                  have hc2 : wr.cell? ⟨h, i, none⟩ = some (.int .u8 (z0 : Int)) := by rw [cell_of_row _ _ _ _ _ _ hx2, bytesC_get _ _ (by rw [outT_len _ _ hi]; exact hlt2), hz0']
                  clear hz0'
                  have hst := outT_set S i hlt2
                  rw [← hq, ← hx] at hst
                  obtain ⟨Y, hY⟩ : ∃ Y, Y = x / 2 ^ (24 - 8 * (i % 4)) % 256 := ⟨_, rfl⟩
                  rw [← hY] at hst
                  have hst' : Hid ((outT S i).set i Y = outT S (i + 1)) := hst
                  have hq' : Hid (q = i / 4) := hq
                  clear hst hq hx
                  rcases (show i % 4 = 0 ∨ i % 4 = 1 ∨ i % 4 = 2 ∨ i % 4 = 3 by omega) with hr | hr | hr | hr
                  all_goals
                    rw [hr] at hY
                    simp at hY
                    have hY' : Hid (Y = _) := hY
                    have er : (i : Int) % 4 = ((i % 4 : Nat) : Int) := by omega
                    rw [hr] at er
                    have er' := er
                    clear hr hY
                    go_wp2_with fail
                    go_roundw
                    case rel =>
                      refine ⟨i + 1, by omega, by go_num, ?_, ?_, Below.setCell hxB.out (by show _ ≤ h; omega) _⟩
                      · rw [Below.heap_setCell _ _ _ _ (by show _ ≠ h; omega)]; exact hx1
                      · have e2 := heap_setCell_same wr h i _ 24 (.int .u8 (Y : Int)) hx2
                        rw [bytesC_setv, hst'.out] at e2
                        refine Eq.trans (congrArg (fun v => (wr.setCell ⟨h, i, none⟩ (.int .u8 v)).heap[h]?) ?_) e2
                        have := hY'.out
                        omega
                    case measure => simp [intOf]; omega
                · obtain rfl : i = 32 := by omega
                  have hlt32 : ¬ ((32 : Nat) : Int) < 32 := by omega
                  rw [outT_full] at hx2
                  have hx0 : wr.heap[w.heap.size]? = some (.cells (bytesC (zeros 32)) 24 (0, 0)) := by rw [hxB.out.block _ (by omega)]; exact hW0
                  go_upto_region 20 with fail
                  refine wp_region_lit ?_
                  refine wpList_load_row rfl 24 _ rfl h (by kernel_rfl) 24 (bytesC (outB S)) (0, 0) _ hx2 Try.underlying24 rfl (by rw [bytesC_size, outB_length]; kernel_rfl) ?_
                  refine wpList_store_row rfl 24 _ _ rfl w.heap.size (bytesC (outB S)) (by kernel_rfl) (by kernel_rfl) 24 _ hx0 (by rw [bytesC_size, outB_length]; kernel_rfl) (by rw [bytesC_size, bytesC_size, outB_length]; rfl) (bytesC_one _) ?_
                  refine wpList_nil ?_
                  have hz := setRow_heap _ _ _ (bytesC (outB S)) _ _ hx0
                  have hzB : Below w.heap.size w (wr.setRow w.heap.size (bytesC (outB S))) := below_setRow (hWB.trans (hxB.out.mono (by omega))) (Nat.le_refl _) _
                  rename_i hK
                  exact hK _ _ (wp_ret (bodyPost_ret (results_cell_row rfl _ _ w.heap.size 24 (bytesC (outB S)) (0, 0) _ (by kernel_rfl) hz Try.underlying24 rfl (by rw [bytesC_size, outB_length]; kernel_rfl)) (by kernel_rfl) ⟨by rw [hR.out], hzB⟩))
end Go.Proofs.Ytnaknnnobcnnfaa.Sha
