/-
  SHA-256: a hash's sum.
-/
import Derived.Test.YtnaknnnobcnnfaaShaMem
import Derived.StillTail
namespace Go.Proofs.Ytnaknnnobcnnfaa.Sha
open Go.RowKit
set_option linter.unusedVariables false
set_option linter.unusedSimpArgs false
set_option pp.maxSteps 50000
/-- A slice's length. -/
def lenQ : Value → Nat | .slice _ n _ => n | _ => 0
theorem cells_uno (w : World) (x : Value) : ∀ (j : Nat) (u : Value), [x][j]? = some u → (w.alloc (.cells #[x] 5)).cell? ((⟨w.heap.size, 0, none⟩ : Addr).add j) = some u := by
  intro j u h
  rw [Addr.add_mid, cell_of_row _ _ _ _ _ _ (heap_alloc_new w _)]
  simpa using h
theorem agg22 (w : World) : (isAgg 22).run Try.prog w = .ok false w := by kernel_rfl
theorem agg36 (w : World) : (isAgg 36).run Try.prog w = .ok false w := by kernel_rfl
/-- What a hash tells: the state behind the rest and its padding. -/
def sumH (s r : List Nat) (n : Nat) : List Nat := outB (st s (pad r n) ((pad r n).length / 64))
set_option maxRecDepth 100000 in
set_option maxHeartbeats 1000000 in
theorem hsum_calls (s r : List Nat) (n : Nat) (hs8 : s.length = 8) (hsw : ∀ x ∈ s, x < 4294967296) (hrb : ∀ j, r.getD j 0 < 256) (hr64 : r.length ≤ 1000000000) (hn0 : n ≤ 1000000000000) (v : Value) (base g : Nat) (w : World)
    (hg : w.heap[g]? = some (.cells (hashC s v n) 46 (0, 0))) (hown0 : w.ownsRow base 5 1 v r.length (vals r)) :
    Calls Try.prog 14 #[.pointer (some ⟨g, 0, none⟩)] w fun e w' => e = .returned (.agg (bytesC (sumH s r n))) ∧ Below w.heap.size w w' := by
  obtain ⟨i5, hi5, hz0, hz1, hz2⟩ := info5'
  have hgl : g < w.heap.size := (Array.getElem?_eq_some_iff.1 hg).1
  go_enter Try.func14, Try.ntmps14
  go_upto_region 3 with fail
  generalize hW : World.alloc _ _ = W
  have hWs : W.heap.size = w.heap.size + 1 := by rw [← hW]; simp
  have hW0 : W.heap[w.heap.size]? = some (.cells (bytesC (zeros 32)) 24 (0, 0)) := by rw [← hW]; exact heap_alloc_new w _
  have hWB : Below w.heap.size w W := by rw [← hW]; exact (Below.refl _ _).alloc (Nat.le_refl _) _
  clear hW
  have hgW : W.heap[g]? = some (.cells (hashC s v n) 46 (0, 0)) := by rw [hWB.block g hgl]; exact hg
  refine wp_region_lit ?_
  refine sl_run rfl (.pointer (some ⟨g, 0, none⟩)) W (by kernel_rfl) ?_
  refine sl_run rfl (.pointer (some ⟨g, 0, none⟩)) W (by kernel_rfl) ?_
  refine sl_run rfl (.pointer (some ⟨g, 0, none⟩)) W (by kernel_rfl) ?_
  refine wpList_load_mid rfl 43 _ rfl g 0 (by kernel_rfl) (words s).toList _ (range_hash hs8 hgW) Try.underlying43 rfl (by rw [Array.length_toList, words_size, hs8]; kernel_rfl) ?_
  refine sl_run rfl (.pointer (some ⟨w.heap.size + 1, 0, none⟩)) (W.alloc (.cells (words (zeros 8)) 43)) (by rw [← hWs]; kernel_rfl) ?_
  refine wpList_store_row rfl 43 _ _ rfl (w.heap.size + 1) (words s) (by kernel_rfl) (by kernel_rfl) 43 (words (zeros 8)) (by rw [← hWs]; exact heap_alloc_new _ _) (by rw [words_size, hs8]; kernel_rfl) (by rw [words_size, words_size, hs8]; rfl) (words_one _) ?_
  rw [← hWs, World.setRow_alloc_new, hWs]
  refine wpList_nil ?_
  obtain ⟨V, hV⟩ : ∃ V, W.alloc (.cells (words s) 43) = V := ⟨_, rfl⟩
  have hVs : V.heap.size = w.heap.size + 2 := by rw [← hV]; simp [hWs]
  have hV0 : V.heap[w.heap.size]? = some (.cells (bytesC (zeros 32)) 24 (0, 0)) := by rw [← hV, heap_alloc_old _ _ (by omega)]; exact hW0
  have hV1 : V.heap[w.heap.size + 1]? = some (.cells (words s) 43 (0, 0)) := by rw [← hV, ← hWs]; exact heap_alloc_new _ _
  have hVB : Below w.heap.size w V := by rw [← hV]; exact hWB.alloc (by omega) _
  rw [hV]
  clear hV hW0 hWs hWB hgW
  have hgV : V.heap[g]? = some (.cells (hashC s v n) 46 (0, 0)) := by rw [hVB.block g hgl]; exact hg
  have hc8 : V.cell? ⟨g, 8, none⟩ = some v := by rw [cell_of_row _ _ _ _ _ _ hgV]; exact hashC_8 s hs8 v n
  have hyV : Bytes V v r := (Bytes.own hown0).below hVB
  go_upto_region 4 with fail
  refine wp_region_lit ?_
  refine sl_run rfl (.pointer (some ⟨g, 0, none⟩)) V (by kernel_rfl) ?_
  refine sl_run rfl (.pointer (some ⟨g, 0, none⟩)) V (by kernel_rfl) ?_
  refine sl_run rfl (.pointer (some ⟨g, 8, none⟩)) V (by kernel_rfl) ?_
  refine sl_run rfl v V (exec_load_cell 22 V _ rfl ⟨g, 8, none⟩ (by kernel_rfl) v hc8 agg22) ?_
  refine append22 rfl _ _ rfl (w.heap.size + 2) (.slice none 0 0) [] r (by kernel_rfl) (World.ownsRow_nil _ _ _ _) v (by kernel_rfl) hyV (by simp; omega) (by omega) ?_
  intro v4 w3 hown1 hgrow1 _
  have hB3 : Below (w.heap.size + 2) V w3 := Below.grown (Below.refl _ _) hgrow1 (by omega) (fun k hk => by simp [Value.ownBlock] at hk)
  have hs3 : w.heap.size + 2 ≤ w3.heap.size := by have := hB3.size; omega
  have hown1 : w3.ownsRow (w.heap.size + 2) 5 1 v4 r.length (vals r) := by simpa using hown1
  clear hgrow1 hc8 hyV
  refine sl_run rfl (.slice (some ⟨w3.heap.size, 0, none⟩) 1 1) (w3.alloc (.cells #[.int .u8 128] 5)) (by kernel_rfl) ?_
  refine wpList_append_own _ rfl _ _ 22 rfl (w.heap.size + 2) 5 i5 (.int .u8 0) 1 1 Try.underlying22 hi5 hz0 hz1 hz2 rfl (by decide) v4 r.length (vals r) (by kernel_rfl) (hown1.alloc _) ⟨w3.heap.size, 0, none⟩ 1 1 [.int .u8 128] (by kernel_rfl) rfl (cells_uno _ _) (fun u hu => by simp at hu; subst hu; rfl) (by unfold maxLen; omega) (by omega) (by simp; omega) ?_
  intro v5 w4 hown2 hgrow2 _
  refine sl_run rfl v5 w4 (by kernel_rfl) ?_
  refine wpList_nil ?_
  have hB4 : Below (w.heap.size + 2) V w4 := Below.grown (hB3.alloc hs3 _) hgrow2 (by simp; omega) (fun k hk => (hown1.lt k hk).1)
  have hown2 : w4.ownsRow (w.heap.size + 2) 5 1 v5 (r ++ 128 :: List.replicate 0 0).length (vals (r ++ 128 :: List.replicate 0 0)) := by
    have e : vals (r ++ 128 :: List.replicate 0 0) = vals r ++ [.int .u8 128] := by simp [vals]
    rw [e]; simpa using hown2
  clear hgrow2 hown1 hB3
  simp only [Act.put, List.setIfInBounds_toArray, List.set_cons_zero, List.set_cons_succ]
  go_wp2_with fail
  obtain ⟨Z, hZ⟩ : ∃ Z, Z = (119 - r.length % 64) % 64 := ⟨_, rfl⟩
  clear hs3 hown0
  go_loopw [4] (fun v wr => ∃ z n : Nat, z ≤ Z ∧ n = (r ++ 128 :: List.replicate z 0).length ∧ (∃ A cp, v = .slice A n cp) ∧ wr.ownsRow (w.heap.size + 2) 5 1 v n (vals (r ++ 128 :: List.replicate z 0)) ∧ Hid (Below (w.heap.size + 2) V wr)) (fun v _ => r.length + 1 + Z - lenQ v)
  case atStart =>
    refine ⟨0, _, by omega, rfl, ?_, hown2, hB4⟩
    rcases hown2.2 with ⟨h, h2⟩ | ⟨g, cap, cur, h, _⟩
    · simp at h2
    · exact ⟨_, _, h⟩
  case round =>
    clear hown2 hB4
    obtain ⟨z, m, hz, hn, ⟨A, cp, rfl⟩, hown, hrB⟩ := hrel
    have hs : w.heap.size + 2 ≤ wr.heap.size := by have := Below.size hrB.out; omega
    have hnl : m = r.length + 1 + z := by rw [hn]; simp; omega
    have hn6 : m < 2000000000 := by omega
    by_cases hlt : z < Z
    · obtain ⟨q, hq⟩ : ∃ q : Nat, q = m % 64 := ⟨_, rfl⟩
      have er : (m : Int) % 64 = (q : Int) := by omega
      have hq56 : ¬ q = 56 := by omega
      have hqb : ((q : Int) == 56) = false := by simp; omega
      have hqc : ((q : Int) != 56) = true := by simp; omega
      have hn' : Hid (m = (r ++ 128 :: List.replicate z 0).length ∧ m = r.length + 1 + z ∧ Z = (119 - r.length % 64) % 64) := ⟨hn, hnl, hZ⟩
      clear hn hnl hZ hq
      go_wp2_with (at_builtin; refine wpList_append_own _ rfl _ _ 22 rfl (w.heap.size + 2) 5 i5 (.int .u8 0) 1 1 Try.underlying22 hi5 hz0 hz1 hz2 rfl (by decide) _ m _ rfl (hown.alloc _) ⟨wr.heap.size, 0, none⟩ 1 1 [.int .u8 0] rfl rfl (cells_uno _ _) (fun u hu => by simp at hu; subst hu; rfl) (by unfold maxLen; omega) (by omega) (by simp; omega) ?_; intro v' w5 hown5 hgrow5 hnil5)
      have hgB : Below (w.heap.size + 2) V w5 := Below.grown (Below.alloc hrB.out hs _) hgrow5 (by simp; omega) (fun k hk => (hown.lt k hk).1)
      obtain ⟨A5, cp5, rfl⟩ : ∃ A cp, v' = .slice A (m + 1) cp := by
        rcases hown5.2 with ⟨_, h⟩ | ⟨g, cap, cur, h, _⟩
        · omega
        · exact ⟨_, _, h⟩
      clear hnil5 hgrow5
      go_roundw
      case rel =>
        obtain ⟨hn1, hn2, hZ⟩ := hn'.out
        have e : vals (r ++ 128 :: List.replicate (z + 1) 0) = vals (r ++ 128 :: List.replicate z 0) ++ [.int .u8 0] := by rw [List.replicate_succ']; simp [vals]
        exact ⟨z + 1, m + 1, by omega, by simp; omega, ⟨_, _, rfl⟩, by rw [e]; exact hown5, hgB⟩
      case measure => simp [lenQ]; have := hn'.out.2.1; omega
    · obtain rfl : z = Z := by omega
      have h56 : m % 64 = 56 := by omega
      have er : (m : Int) % 64 = 56 := by omega
      have hn' : Hid (m = (r ++ 128 :: List.replicate z 0).length ∧ m = r.length + 1 + z ∧ z = (119 - r.length % 64) % 64) := ⟨hn, hnl, hZ⟩
      clear hn hnl hZ h56
      go_wp2_with fail
      obtain ⟨M, hM⟩ : ∃ M, r ++ 128 :: List.replicate z 0 = M := ⟨_, rfl⟩
      have hnM : m = M.length := by rw [← hM]; exact hn'.out.1
      rw [hM] at hown
      clear er
      go_loopw [4, 29] (fun v v6 wr => ∃ i k : Nat, i ≤ 8 ∧ v6 = .int .i64 i ∧ k = M.length + i ∧ (∃ A cp, v = .slice A k cp) ∧ wr.ownsRow (w.heap.size + 2) 5 1 v k (vals (M ++ (lenB n).take i)) ∧ Hid (Below (w.heap.size + 2) V wr)) (fun _ v _ => 8 - (intOf v).toNat)
      case atStart => exact ⟨0, m, by omega, rfl, hnM, ⟨_, _, rfl⟩, by simpa using hown, hrB⟩
      case round =>
        clear hown hrB hs
        obtain ⟨i, k, hi, rfl, hk, ⟨A2, cp2, rfl⟩, hown, hrB⟩ := hrel
        have hs : w.heap.size + 2 ≤ wr.heap.size := by have := Below.size hrB.out; omega
        have hk6 : k < 3000000000 := by omega
        by_cases hlt : i < 8
        · have hk' : Hid (k = M.length + i) := hk
          obtain ⟨j, hj⟩ : ∃ j, Hid (j = i + 1) := ⟨_, rfl⟩
          have hgr : wr.heap[g]? = some (.cells (hashC s v n) 46 (0, 0)) := by rw [hrB.out.block g (by omega)]; exact hgV
          have hc9 : wr.cell? ⟨g, 9, none⟩ = some (.int .u64 (n : Int)) := by rw [cell_of_row _ _ _ _ _ _ hgr]; exact hashC_9 s hs8 v n
          clear hk hnM
          rcases (show i = 0 ∨ i = 1 ∨ i = 2 ∨ i = 3 ∨ i = 4 ∨ i = 5 ∨ i = 6 ∨ i = 7 by omega) with rfl | rfl | rfl | rfl | rfl | rfl | rfl | rfl
          all_goals
            go_wp2_with (at_builtin; refine wpList_append_own _ rfl _ _ 22 rfl (w.heap.size + 2) 5 i5 (.int .u8 0) 1 1 Try.underlying22 hi5 hz0 hz1 hz2 rfl (by decide) _ k _ rfl (hown.alloc _) ⟨wr.heap.size, 0, none⟩ 1 1 [_] rfl rfl (cells_uno _ _) (fun u hu => by simp at hu; subst hu; rfl) (by unfold maxLen; omega) (by omega) (by simp; omega) ?_; intro v' w5 hown5 hgrow5 hnil5)
            have hgB : Below (w.heap.size + 2) V w5 := Below.grown (Below.alloc hrB.out hs _) hgrow5 (by simp; omega) (fun k hk => (hown.lt k hk).1)
            obtain ⟨A5, cp5, rfl⟩ : ∃ A cp, v' = .slice A (k + 1) cp := by
              rcases hown5.2 with ⟨_, h⟩ | ⟨g, cap, cur, h, _⟩
              · omega
              · exact ⟨_, _, h⟩
            clear hnil5 hgrow5
            go_roundw
            case rel =>
              have hj0 := hj.out
              refine ⟨j, k + 1, by omega, by rw [hj0]; rfl, by have := hk'.out; omega, ⟨_, _, rfl⟩, Eq.mp (congrArg (fun xs => w5.ownsRow _ _ _ _ _ xs) ?_) hown5, hgB⟩
              rw [hj0]
              simp [vals, lenB, List.range_succ]
              try omega
            case measure => simp [intOf]
        · obtain rfl : i = 8 := by omega
          have hP : M ++ List.take 8 (lenB n) = pad r n := by
            rw [← hM, hn'.out.2.2, List.take_of_length_le (by simp [lenB])]; simp [pad, tailB]
          rw [hP] at hown
          have hmP : k = (pad r n).length := by rw [← hP, List.length_append, List.take_of_length_le (by simp [lenB]), hk]; simp [lenB]
          clear hk hnM
          go_wp2_with fail
          obtain ⟨P, hPd⟩ : ∃ P, P = pad r n := ⟨_, rfl⟩
          have hPb : ∀ j, P.getD j 0 < 256 := by rw [hPd]; exact pad_lt _ _ hrb
          have hP0 : 0 < P.length := by rw [hPd]; unfold pad; rw [List.length_append, tailB_len]; omega
          have hPm : P.length % 64 = 0 := by rw [hPd]; exact pad_len _ _
          rw [← hPd] at hown hmP
          have hmP' : Hid (k = P.length) := hmP
          have hPd' : Hid (P = pad r n) := hPd
          clear hPd
          obtain ⟨q, cap, hv⟩ : ∃ q cap, Value.slice A2 k cp2 = .slice (some ⟨q, 0, none⟩) k cap := by
            rcases hown.2 with ⟨h, _⟩ | ⟨g, cap, cur, h, _⟩
            · simp at h; omega
            · exact ⟨g, cap, h⟩
          injection hv with hA _ hcp
          subst hA hcp
          have hqB : w.heap.size + 2 ≤ q := (hown.lt q rfl).1
          have hmc : k ≤ cp2 := by
            rcases hown.2 with ⟨h, _⟩ | ⟨g2, cap2, cur, h, _, _, h2, _⟩
            · simp at h
            · injection h with _ _ h3; omega
          have hlie : Lies wr q 0 P := lies_own hown
          have hr1 : wr.heap[w.heap.size + 1]? = some (.cells (words (st s P 0)) 43 (0, 0)) := by rw [hrB.out.block _ (by omega)]; exact hV1
          have hmn : k < 3000000000 := hk6
          have hrB1 : Hid (Below (w.heap.size + 1) V wr) := hrB.out.mono (by omega)
          clear hown hrB hlt hmP hP hi hk6 hn6
          go_loopw [4] (fun v wr => ∃ j n' c' o' : Nat, 64 * j + n' = P.length ∧ n' ≤ c' ∧ v = .slice (some ⟨q, o', none⟩) n' c' ∧ wr.heap[w.heap.size + 1]? = some (.cells (words (st s P j)) 43 (0, 0)) ∧ Lies wr q o' (P.drop (64 * j)) ∧ Hid (Lies wr q 0 P) ∧ Hid (Below (w.heap.size + 1) V wr)) (fun v _ => lenQ v)
          case atStart => exact ⟨0, k, cp2, 0, by have := hmP'.out; omega, hmc, rfl, hr1, hlie, hlie, hrB1⟩
          case round =>
            clear hlie hr1 hrB1
            obtain ⟨j, n', c', o', hjn, hnc, rfl, hr1, hlie, hlq, hrB⟩ := hrel
            have hs : w.heap.size + 2 ≤ wr.heap.size := by have := Below.size hrB.out; omega
            have hgs : q < wr.heap.size := hlq.out.lt hP0
            by_cases hlt : 0 < n'
            · have hn64 : 64 ≤ n' := by omega
              have hjn' : Hid (64 * j + n' = P.length) := hjn
              clear hjn
              have hlS : (st s P j).length = 8 := st_length _ _ hs8 j
              go_upto_region 14 with fail
              refine wp_region_lit ?_
              refine wpList_load_row rfl 43 _ rfl (w.heap.size + 1) (by kernel_rfl) 43 _ (0, 0) _ hr1 Try.underlying43 rfl (by rw [words_size, hlS]; kernel_rfl) ?_
              refine sl_run rfl (.slice (some ⟨q, o', none⟩) n' c') wr (by kernel_rfl) ?_
              refine sl_call rfl 19 #[.agg (words (st s P j)), .slice (some ⟨q, o', none⟩) n' c'] (by kernel_rfl) (R := fun v w' => v = .agg (words (st s P (j + 1))) ∧ Below wr.heap.size wr w') ((block_calls (st s P j) hlS (st_lt _ _ hs8 hsw j) (fun t => P.getD (64 * j + t) 0) q o' n' c' hn64 hnc wr (fun t ht => by
                have := hlie t (by rw [List.length_drop]; have := hjn'.out; omega)
                rw [getD_drop] at this; exact this) (fun t ht => hPb _)).mono fun e w' h => ⟨_, h.1, rfl, h.2⟩) ?_
              rintro v w5 ⟨rfl, hB5⟩
              have h51 : w5.heap[w.heap.size + 1]? = some (.cells (words (st s P j)) 43 (0, 0)) := by rw [hB5.block _ (by omega)]; exact hr1
              refine wpList_store_row rfl 43 _ _ rfl (w.heap.size + 1) (words (st s P (j + 1))) (by kernel_rfl) (by kernel_rfl) 43 _ h51 (by rw [words_size, st_length _ _ hs8]; kernel_rfl) (by rw [words_size, words_size, st_length _ _ hs8, st_length _ _ hs8]) (words_one _) ?_
              refine wpList_nil ?_
              have h61 : (w5.setRow (w.heap.size + 1) (words (st s P (j + 1)))).heap[w.heap.size + 1]? = some (.cells (words (st s P (j + 1))) 43 (0, 0)) := setRow_heap _ _ _ _ _ _ h51
              have h6l : Lies (w5.setRow (w.heap.size + 1) (words (st s P (j + 1)))) q 0 P := (hlq.out.below hB5 hgs).setRow (by omega) _
              have h6m : Lies (w5.setRow (w.heap.size + 1) (words (st s P (j + 1)))) q o' (P.drop (64 * j)) := (hlie.below hB5 hgs).setRow (by omega) _
              have h6B : Hid (Below (w.heap.size + 1) V (w5.setRow (w.heap.size + 1) (words (st s P (j + 1))))) := below_setRow (hrB.out.trans (hB5.mono (by omega))) (by omega) _
              generalize World.setRow _ _ _ = w6 at h61 h6l h6B h6m
              simp only [Act.put, List.setIfInBounds_toArray, List.set_cons_zero, List.set_cons_succ]
              clear hr1 hlie hrB h51 hB5
              go_upto_region 13 with fail
              refine wp_region_lit ?_
              refine sl_run rfl (.slice (some ⟨q, o', none⟩) n' c') w6 (by kernel_rfl) ?_
              refine sl_run rfl (.slice (some ⟨q, if c' = 64 then o' else o' + 64, none⟩) (n' - 64) (c' - 64)) w6 (exec_slice_l _ _ rfl q o' n' c' 64 (by kernel_rfl) (by kernel_rfl) hn64 w6) ?_
              refine sl_run rfl (.slice (some ⟨q, if c' = 64 then o' else o' + 64, none⟩) (n' - 64) (c' - 64)) w6 (by kernel_rfl) ?_
              refine wpList_nil ?_
              simp only [Act.put, List.setIfInBounds_toArray, List.set_cons_zero, List.set_cons_succ]
              obtain ⟨o2, ho2⟩ : ∃ o2, o2 = if c' = 64 then o' else o' + 64 := ⟨_, rfl⟩
              obtain ⟨n2, hn2⟩ : ∃ n2, n2 = n' - 64 := ⟨_, rfl⟩
              obtain ⟨c2, hc2⟩ : ∃ c2, c2 = c' - 64 := ⟨_, rfl⟩
              have hl2 : Lies w6 q o2 (P.drop (64 * (j + 1))) := by
                intro t ht
                rw [List.length_drop] at ht
                have hne : ¬ c' = 64 := by have := hjn'.out; omega
                rw [ho2, if_neg hne, getD_drop, show o' + 64 + t = o' + (64 + t) by omega, h6m (64 + t) (by rw [List.length_drop]; have := hjn'.out; omega), getD_drop, show 64 * j + (64 + t) = 64 * (j + 1) + t by omega]
              rw [← ho2, ← hn2, ← hc2]
              have hn2' : Hid (n2 = n' - 64) := hn2
              have hc2' : Hid (c2 = c' - 64) := hc2
              clear ho2 hn2 hc2 h6m
              go_wp2_with fail
              go_roundw
              case rel => exact ⟨j + 1, n2, c2, o2, by have := hjn'.out; have := hn2'.out; omega, by have := hn2'.out; have := hc2'.out; omega, rfl, h61, hl2, h6l, h6B⟩
              case measure => simp [lenQ]; have := hn2'.out; omega
            · have hS : st s P j = st s (pad r n) ((pad r n).length / 64) := by
                rw [← hPd'.out]; congr 1; omega
              have hlt' : ¬ (0 : Int) < (n' : Int) := by omega
              obtain ⟨S, hSd⟩ : ∃ S, S = st s P j := ⟨_, rfl⟩
              have hSl : S.length = 8 := by rw [hSd]; exact st_length _ _ hs8 j
              have hSw : ∀ i, S.getD i 0 < 4294967296 := getD_lt (by decide) (by rw [hSd]; exact st_lt _ _ hs8 hsw j)
              rw [hS] at hSd
              have hR : Hid (sumH s r n = outB S) := by show _ = _; rw [hSd]; rfl
              rw [hS, ← hSd] at hr1
              clear hS hSd hlie hlq hnc
              go_upto_region 15 with fail
              refine wp_region_lit ?_
              refine sl_run rfl (.pointer (some ⟨wr.heap.size, 0, none⟩)) (wr.alloc (.cells (bytesC (zeros 32)) 24)) (by kernel_rfl) ?_
              refine wpList_nil ?_
              simp only [Act.put, List.setIfInBounds_toArray, List.set_cons_zero, List.set_cons_succ]
              obtain ⟨h, hh⟩ : ∃ h, h = wr.heap.size := ⟨_, rfl⟩
              have hx1 : (wr.alloc (.cells (bytesC (zeros 32)) 24)).heap[w.heap.size + 1]? = some (.cells (words S) 43 (0, 0)) := by rw [heap_alloc_old _ _ (by omega)]; exact hr1
              have hx2 : (wr.alloc (.cells (bytesC (zeros 32)) 24)).heap[h]? = some (.cells (bytesC (outT S 0)) 24 (0, 0)) := by rw [hh]; exact heap_alloc_new _ _
              have hxB : Hid (Below (w.heap.size + 1) V (wr.alloc (.cells (bytesC (zeros 32)) 24))) := Below.alloc hrB.out (by omega) _
              rw [← hh]
              have hh2 : w.heap.size + 2 ≤ h := by omega
              generalize World.alloc _ _ = X at hx1 hx2 hxB
              clear hr1 hrB hh
              go_wp2_with fail
              go_loopw [54] (fun v wr => ∃ i : Nat, i ≤ 32 ∧ v = .int .i64 i ∧ wr.heap[w.heap.size + 1]? = some (.cells (words S) 43 (0, 0)) ∧ wr.heap[h]? = some (.cells (bytesC (outT S i)) 24 (0, 0)) ∧ Hid (Below (w.heap.size + 1) V wr)) (fun v _ => 32 - (intOf v).toNat)
              case atStart => exact ⟨0, by omega, rfl, hx1, hx2, hxB⟩
              case round =>
                clear hx1 hx2 hxB
                obtain ⟨i, hi, rfl, hx1, hx2, hxB⟩ := hrel
                by_cases hlt2 : i < 32
                · obtain ⟨q, hq⟩ : ∃ q : Nat, q = i / 4 := ⟨_, rfl⟩
                  have hq8 : (q : Int) < 8 := by omega
                  have eq4 : (i : Int) / 4 = (q : Int) := by omega
                  have hi32 : (i : Int) < 32 := by omega
                  obtain ⟨x, hx⟩ : ∃ x, x = S.getD q 0 := ⟨_, rfl⟩
                  have hx32 : x < 4294967296 := by rw [hx]; exact hSw q
                  have hc : wr.cell? ⟨w.heap.size + 1, q, none⟩ = some (.int .u32 (x : Int)) := by rw [cell_of_row _ _ _ _ _ _ hx1, hx]; exact words_get _ _ (by omega)
                  have hf : wr.frozen? ⟨h, i, none⟩ = false := frozen_of_row _ _ _ _ _ hx2
                  obtain ⟨z0, hz0'⟩ : ∃ z0, z0 = (outT S i).getD i 0 := ⟨_, rfl⟩
                  have hc2 : wr.cell? ⟨h, i, none⟩ = some (.int .u8 (z0 : Int)) := by rw [cell_of_row _ _ _ _ _ _ hx2, bytesC_get _ _ (by rw [outT_len _ _ hi]; exact hlt2), hz0']
                  clear hz0'
                  have hst := outT_set S i hlt2
                  rw [← hq, ← hx] at hst
                  obtain ⟨Y, hY⟩ : ∃ Y, Y = x / 2 ^ (24 - 8 * (i % 4)) % 256 := ⟨_, rfl⟩
                  rw [← hY] at hst
                  have hst' : Hid ((outT S i).set i Y = outT S (i + 1)) := hst
                  have hq' : Hid (q = i / 4) := hq
                  clear hst hq hx
                  rcases (show i % 4 = 0 ∨ i % 4 = 1 ∨ i % 4 = 2 ∨ i % 4 = 3 by omega) with hr | hr | hr | hr
                  all_goals
                    rw [hr] at hY
                    simp at hY
                    have hY' : Hid (Y = _) := hY
                    have er : (i : Int) % 4 = ((i % 4 : Nat) : Int) := by omega
                    rw [hr] at er
                    have er' := er
                    clear hr hY
                    go_wp2_with fail
                    go_roundw
                    case rel =>
                      refine ⟨i + 1, by omega, by go_num, ?_, ?_, Below.setCell hxB.out (by show _ ≤ h; omega) _⟩
                      · rw [Below.heap_setCell _ _ _ _ (by show _ ≠ h; omega)]; exact hx1
                      · have e2 := heap_setCell_same wr h i _ 24 (.int .u8 (Y : Int)) hx2
                        rw [bytesC_setv, hst'.out] at e2
                        refine Eq.trans (congrArg (fun v => (wr.setCell ⟨h, i, none⟩ (.int .u8 v)).heap[h]?) ?_) e2
                        have := hY'.out
                        omega
                    case measure => simp [intOf]; omega
                · obtain rfl : i = 32 := by omega
                  have hlt32 : ¬ ((32 : Nat) : Int) < 32 := by omega
                  rw [outT_full] at hx2
                  have hx0 : wr.heap[w.heap.size]? = some (.cells (bytesC (zeros 32)) 24 (0, 0)) := by rw [hxB.out.block _ (by omega)]; exact hV0
                  go_upto_region 21 with fail
                  refine wp_region_lit ?_
                  refine wpList_load_row rfl 24 _ rfl h (by kernel_rfl) 24 (bytesC (outB S)) (0, 0) _ hx2 Try.underlying24 rfl (by rw [bytesC_size, outB_length]; kernel_rfl) ?_
                  refine wpList_store_row rfl 24 _ _ rfl w.heap.size (bytesC (outB S)) (by kernel_rfl) (by kernel_rfl) 24 _ hx0 (by rw [bytesC_size, outB_length]; kernel_rfl) (by rw [bytesC_size, bytesC_size, outB_length]; rfl) (bytesC_one _) ?_
                  refine wpList_nil ?_
                  have hz := setRow_heap _ _ _ (bytesC (outB S)) _ _ hx0
                  have hzB : Below w.heap.size w (wr.setRow w.heap.size (bytesC (outB S))) := below_setRow (hVB.trans (hxB.out.mono (by omega))) (Nat.le_refl _) _
                  rename_i hK
                  exact hK _ _ (wp_ret (bodyPost_ret (results_cell_row rfl _ _ w.heap.size 24 (bytesC (outB S)) (0, 0) _ (by kernel_rfl) hz Try.underlying24 rfl (by rw [bytesC_size, outB_length]; kernel_rfl)) (by kernel_rfl) ⟨by rw [hR.out], hzB⟩))
end Go.Proofs.Ytnaknnnobcnnfaa.Sha
