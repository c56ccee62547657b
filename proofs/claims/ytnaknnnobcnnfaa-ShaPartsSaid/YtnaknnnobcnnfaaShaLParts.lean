/-
  ShaParts: the walk.
-/
import Derived.Test.YtnaknnnobcnnfaaShaHeld
import Derived.Test.YtnaknnnobcnnfaaShaRSum
namespace Go.Proofs.Ytnaknnnobcnnfaa.Sha
open Go.RowKit
set_option linter.unusedVariables false
set_option linter.unusedSimpArgs false
set_option pp.maxSteps 50000
theorem elem28 : Try.prog.elem 28 = 22 := by kernel_rfl
theorem under28 : Try.prog.underlying 28 = some (.slice (Try.prog.elem 28)) := by rw [elem28]; exact Try.underlying28
theorem size22e (w : World) : (sizeOf (Try.prog.elem 28)).run Try.prog w = .ok 1 w := by rw [elem28]; kernel_rfl
theorem exec_index28 {o : Oper} {a : Act} (x ix : Operand) (ho : o.op = .indexAddr 28 x ix) (g off n c i : Nat) (hx : a.eval x = .slice (some ⟨g, off, none⟩) n c)
    (hi : a.eval ix = .int .i64 (i : Int)) (h : i < n) (w : World) : (execOp a.eval o).run Try.prog w = .ok (.value (.pointer (some ⟨g, off + i, none⟩))) w := by
  unfold execOp
  simp only [ho, hx, hi, Sem.run_bind, run_indexAt_slice w 28 _ n c .i64 (i : Int) under28, size22e, Result.andThen_ok, Sem.run_pure]
  rw [if_pos (by omega)]
  simp [Addr.add_mid]
theorem exec_slice28 {o : Oper} {a : Act} (x hi : Operand) (ho : o.op = .slice 28 x none (some hi) none) (g off n cap h : Nat) (hx : a.eval x = .slice (some ⟨g, off, none⟩) n cap)
    (hh : a.eval hi = .int .i64 (h : Int)) (h1 : 0 < h) (h2 : h ≤ cap) (w : World) : (execOp a.eval o).run Try.prog w = .ok (.value (.slice (some ⟨g, off, none⟩) h cap)) w := by
  unfold execOp
  simp only [ho, Option.map_some, Option.map_none, hx, hh, Sem.run_bind, run_sliceAt_slice w 28 _ _ _ _ under28, run_slice_h w 28 _ n cap under28 .i64 (h : Int) (by omega) (by omega), size22e, Result.andThen_ok, Sem.run_pure, sliced, Int.toNat_natCast, Nat.zero_mul, Nat.sub_zero, if_neg (show ¬ cap = 0 by omega), Option.map_some, Addr.add_mid, Nat.add_zero]
theorem lists_take {w : World} {g o n c : Nat} {ls : List (List Nat)} (h : Lists w (.slice (some ⟨g, o, none⟩) n c) ls) (k : Nat) (hk : k ≤ n) : Lists w (.slice (some ⟨g, o, none⟩) k c) (ls.take k) := by
  rcases h with ⟨h0, _⟩ | ⟨g', o', c', h0, h1, h2, h3⟩
  · simp at h0
  · injection h0 with h4 h5 h6
    injection h4 with h4
    injection h4 with h7 h8
    subst h7 h8 h6
    have hl : (ls.take k).length = k := by rw [List.length_take]; omega
    refine .inr ⟨g, o, c, by rw [hl], by omega, h2, fun i hi => ?_⟩
    rw [hl] at hi
    obtain ⟨y, h9, hA⟩ := h3 i (by omega)
    refine ⟨y, h9, ?_⟩
    rw [List.getD_eq_getElem?_getD, List.getElem?_take_of_lt hi, ← List.getD_eq_getElem?_getD]
    exact hA
theorem flat_len (ls : List (List Nat)) (h : ∀ x ∈ ls, x.length ≤ 2000) : ls.flatten.length ≤ 2000 * ls.length := by
  induction ls with
  | nil => simp
  | cons x xs ih =>
    have h1 := h x (by simp)
    have h2 := ih (fun y hy => h y (by simp [hy]))
    rw [List.flatten_cons, List.length_append, List.length_cons]
    omega
set_option maxRecDepth 100000 in
set_option maxHeartbeats 1000000 in
theorem lparts_calls (ls : List (List Nat)) (hls : ∀ x ∈ ls, ∀ j, x.getD j 0 < 256) (A : Option Addr) (c : Nat) (w : World) (hy : Lists w (.slice A ls.length c) ls) :
    Calls Try.prog 4 #[.slice A ls.length c] w fun e w' => e = .returned (.bool true) ∧ Below w.heap.size w w' := by
  obtain ⟨n, hn⟩ : ∃ n, n = ls.length := ⟨_, rfl⟩
  have hn' : Hid (n = ls.length) := hn
  rw [← hn] at hy ⊢
  clear hn
  have hyH : Hid (Lists w (.slice A n c) ls) := hy
  clear hy
  by_cases h2 : n ≤ 40
  · have hle : ¬ (40 : Int) < (n : Int) := by omega
    go_enter Try.func4, Try.ntmps4
    go_upto_region 1 with fail
    refine wp_region_lit ?_
    refine sl_call rfl 7 #[] (by kernel_rfl) (R := fun v w' => v = .bool true ∧ Below w.heap.size w w') ((fixed_calls w).mono fun e w' h => ⟨_, h.1, rfl, h.2⟩) ?_
    rintro _ w1 ⟨rfl, hB1⟩
    have hs1 := hB1.size
    refine sl_run rfl (.bool false) w1 (by kernel_rfl) ?_
    refine wpList_nil ?_
    simp only [Act.put, List.setIfInBounds_toArray, List.set_cons_zero, List.set_cons_succ, List.getElem_toArray, List.getElem_cons_succ, List.getElem_cons_zero]
    go_upto_region 5 with fail
    refine wp_region_lit ?_
    refine sl_call rfl 12 #[] (by kernel_rfl) (R := fun v w' => ∃ g, v = .pointer (some ⟨g, 0, none⟩) ∧ HSt w1.heap.size w1 w' g (.slice none 0 0) []) ((new_holds w1).mono fun e w' h => by obtain ⟨g, h1, h2, h3, h4⟩ := h; exact ⟨_, h1, g, rfl, h3, h4, h2⟩) ?_
    rintro _ w2 ⟨g, rfl, hH2⟩
    refine sl_run rfl (.pointer (some ⟨g, 0, none⟩)) w2 (by kernel_rfl) ?_
    refine wpList_nil ?_
    simp only [Act.put, List.setIfInBounds_toArray, List.set_cons_zero, List.set_cons_succ, List.getElem_toArray, List.getElem_cons_succ, List.getElem_cons_zero]
    have hs2 := hH2.below.size
    have hB2 : Hid (Below w.heap.size w w2) := hB1.trans (hH2.below.mono hs1)
    have hH2' : Hid (HSt w1.heap.size w1 w2 g (.slice none 0 0) []) := hH2
    have hgw : Hid (∀ {y : Value} {m : List Nat}, Bytes w y m → (m ≠ [] → y.ownBlock ≠ some g)) := fun hb hm e => by have := hb.lt hm g e; have := hH2'.out.hg; omega
    clear hH2
    go_wp2_with fail
    go_loopw [4] (fun u wr => ∃ i : Nat, i ≤ n ∧ u = .int .i64 i ∧ Hid (wr = w2 ∧ ∀ j, j < i → (ls.getD j []).length ≤ 2000)) (fun u _ => n - (intOf u).toNat)
    case atStart => exact ⟨0, by omega, rfl, rfl, fun j hj => by omega⟩
    case round =>
      obtain ⟨i, hi, rfl, hrr⟩ := hrel
      by_cases hlt : i < n
      · have hil : i < ls.length := by rw [← hn'.out]; exact hlt
        obtain ⟨q, o, y, rfl, hnc, hqs, hcy, hyy⟩ := hyH.out.elem i hil
        have hc1 : wr.cell? ⟨q, o + i, none⟩ = some y := by rw [hrr.out.1, hB2.out.cell (by exact hqs)]; exact hcy
        obtain ⟨Ay, cy, rfl⟩ := hyy.form
        obtain ⟨m, hm⟩ : ∃ m, m = (ls.getD i []).length := ⟨_, rfl⟩
        rw [← hm] at hc1
        have hm' : Hid (m = (ls.getD i []).length) := hm
        have hiI : (i : Int) < (n : Int) := by omega
        clear hm hcy hyy
        by_cases hbig : m ≤ 2000
        · have hmI : ¬ (2000 : Int) < (m : Int) := by omega
          go_wp2_with fail
          go_roundw
          case rel => exact ⟨i + 1, by omega, by go_num, hrr.out.1, fun j hj => by
            by_cases h : j < i
            · exact hrr.out.2 j h
            · have : j = i := by omega
              subst this
              rw [← hm'.out]; exact hbig⟩
          case measure => simp [intOf]; omega
        · have hmI : (2000 : Int) < (m : Int) := by omega
          go_wp2_with fail
          go_ret
          exact ⟨rfl, by rw [hrr.out.1]; exact hB2.out⟩
      · have hni : ¬ (i : Int) < (n : Int) := by omega
        obtain ⟨rfl, hsm⟩ := hrr.out
        have hall : ∀ x ∈ ls, x.length ≤ 2000 := fun x hx => by
          obtain ⟨j, hj, rfl⟩ := List.getElem_of_mem hx
          have := hsm j (by have := hn'.out; omega)
          simpa [hj] using this
        have hfl : ls.flatten.length ≤ 1000000000 := by have := flat_len ls hall; have := hn'.out; omega
        clear hsm hrr
        go_wp2_with fail
        go_loopw [5] (fun u wr' => ∃ (i : Nat) (v : Value), i ≤ n ∧ u = .int .i64 i ∧ Hid (HSt w1.heap.size w1 wr' g v (ls.take i).flatten)) (fun u _ => n - (intOf u).toNat)
        case atStart => exact ⟨0, .slice none 0 0, by omega, rfl, hH2'⟩
        case round =>
          obtain ⟨i2, v, hi2, rfl, hH⟩ := hrel
          have hs := hH.out.below.size
          have hBw : Below w.heap.size w wr := hB1.trans (hH.out.below.mono hs1)
          have hflb := flat_lt hls
          by_cases hlt2 : i2 < n
          · have hil : i2 < ls.length := by rw [← hn'.out]; exact hlt2
            obtain ⟨q, o, y, rfl, hnc, hqs, hcy, hyy⟩ := hyH.out.elem i2 hil
            have hiI : (i2 : Int) < (n : Int) := by omega
            have hmem := listD_mem i2 hil
            obtain ⟨L0, hL0⟩ : ∃ L, L = (ls.take i2).flatten := ⟨_, rfl⟩
            obtain ⟨L1, hL1⟩ : ∃ L, L = ls.getD i2 [] := ⟨_, rfl⟩
            obtain ⟨L2, hL2⟩ : ∃ L, L = (ls.take (i2 + 1)).flatten := ⟨_, rfl⟩
            have hL01 : L0 ++ L1 = L2 := by rw [hL0, hL1, hL2, flat_take ls i2 hil]
            have hL0b : ∀ j, L0.getD j 0 < 256 := by rw [hL0]; exact flat_lt (take_lt hls i2)
            have hL1b : ∀ j, L1.getD j 0 < 256 := by rw [hL1]; exact hls _ hmem
            have hL2b : ∀ j, L2.getD j 0 < 256 := by rw [hL2]; exact flat_lt (take_lt hls (i2 + 1))
            have hL0l : L0.length ≤ 1000000000 := by rw [hL0]; exact Nat.le_trans (flat_take_len ls i2) hfl
            have hL1l : L1.length ≤ 1000000000 := by rw [hL1]; exact Nat.le_trans (elem_len ls i2 hil) hfl
            have hL2l : L2.length ≤ 1000000000 := by rw [hL2]; exact Nat.le_trans (flat_take_len ls (i2 + 1)) hfl
            have hyy1 : Bytes w y L1 := by rw [hL1]; exact hyy
            obtain ⟨Ay, cy, rfl⟩ := hyy1.form
            rw [← hL0] at hH
            have hL2' : Hid (L2 = (ls.take (i2 + 1)).flatten) := hL2
            clear hL0 hL1 hL2 hyy
            obtain ⟨D, hD⟩ : ∃ D, D = sumB L2 := ⟨_, rfl⟩
            have hDl : D.length = 32 := by rw [hD]; exact sumB_length _
            go_upto_region 14 with fail
            refine wp_region_lit ?_
            refine sl_run rfl (.pointer (some ⟨g, 0, none⟩)) wr (by kernel_rfl) ?_
            refine sl_run rfl (.slice (some ⟨wr.heap.size, 0, none⟩) 0 0) (wr.alloc (.cells #[] 5)) (by kernel_rfl) ?_
            have hown3 : (wr.alloc (.cells #[] 5)).ownsRow wr.heap.size 5 1 (.slice (some ⟨wr.heap.size, 0, none⟩) 0 0) ([] : List Nat).length (vals []) := World.ownsRow_made _ _ 0 (Nat.le_refl _) (by decide) rfl
            have hB3 : Below wr.heap.size wr (wr.alloc (.cells #[] 5)) := (Below.refl _ _).alloc (Nat.le_refl _) _
            obtain ⟨h0, hh0⟩ : ∃ h0, h0 = wr.heap.size := ⟨_, rfl⟩
            rw [← hh0] at hown3 hB3 ⊢
            generalize wr.alloc _ = w3 at hown3 hB3
            have hc3 : w3.cell? ⟨q, o + i2, none⟩ = some (.slice Ay L1.length cy) := by rw [hB3.cell (by have := hBw.size; show q < h0; omega), hBw.cell (by exact hqs)]; exact hcy
            have hy3 : Bytes w3 (.slice Ay L1.length cy) L1 := (hyy1.below hBw).below (by rw [← hh0]; exact hB3)
            have hs3 : h0 ≤ w3.heap.size := by rw [hh0]; exact hB3.size
            simp only [Act.put, List.setIfInBounds_toArray, List.set_cons_zero, List.set_cons_succ, List.getElem_toArray, List.getElem_cons_succ, List.getElem_cons_zero]
            refine sl_run rfl (.slice (some ⟨q, o, none⟩) n c) w3 (by kernel_rfl) ?_
            refine sl_run rfl (.int .i64 i2) w3 (by kernel_rfl) ?_
            refine sl_run rfl (.pointer (some ⟨q, o + i2, none⟩)) w3 (exec_index28 _ _ rfl q o n c i2 (by kernel_rfl) (by kernel_rfl) hlt2 w3) ?_
            refine sl_run rfl (.slice Ay L1.length cy) w3 (exec_load_cell 22 w3 _ rfl ⟨q, o + i2, none⟩ (by kernel_rfl) _ hc3 agg22') ?_
            simp only [Act.put, List.setIfInBounds_toArray, List.set_cons_zero, List.set_cons_succ, List.getElem_toArray, List.getElem_cons_succ, List.getElem_cons_zero]
            refine append22 rfl _ _ rfl h0 _ [] L1 (by kernel_rfl) hown3 _ (by kernel_rfl) hy3 (by simp; omega) hs3 ?_
            intro v4 w4 hown4 hgr4 hnil4
            clear hnil4
            rw [List.nil_append] at hown4
            have hB4 : Below h0 wr w4 := Below.grown hB3 hgr4 hs3 (fun k hk => (hown3.lt k hk).1)
            have hH4 := hH.out.next (by rw [← hh0]; exact hB4) hs
            have hs4 := hH4.below.size
            have hyg : v4.ownBlock ≠ some g := fun e => by have := (hown4.lt g e).1; have := hH.out.holds.lt; omega
            simp only [Act.put, List.setIfInBounds_toArray, List.set_cons_zero, List.set_cons_succ, List.getElem_toArray, List.getElem_cons_succ, List.getElem_cons_zero]
            refine sl_call rfl 13 #[.pointer (some ⟨g, 0, none⟩), v4] (by kernel_rfl) (R := fun _ w' => ∃ v', HSt w1.heap.size w1 w' g v' L2) ((write_holds L0 L1 hL0b hL1b hL0l hL1l _ _ g w4 hH4.holds _ (Bytes.own hown4) (fun _ => hyg)).mono fun e w' h => by
              obtain ⟨h1, v', h2, h3⟩ := h
              rw [hL01] at h2
              exact ⟨_, h1, v', hH4.wrote hs4 h2 h3⟩) ?_
            rintro _ w5 ⟨v5, hH5⟩
            refine wpList_nil ?_
            simp only [Act.put, List.setIfInBounds_toArray, List.set_cons_zero, List.set_cons_succ, List.getElem_toArray, List.getElem_cons_succ, List.getElem_cons_zero]
            have hs5 := hH5.below.size
            have hB5 : Below w.heap.size w w5 := hB1.trans (hH5.below.mono hs1)
            have hH5' : Hid (HSt w1.heap.size w1 w5 g v5 L2) := hH5
            clear hH hown3 hB3 hc3 hy3 hown4 hgr4 hB4 hH4 hH5 hh0 hs3 hs4 hyg hcy
            have hw64 : IntKind.i64.wrap ((i2 : Int) + 1) = ((i2 + 1 : Nat) : Int) := by rw [IntKind.wrap_i64]; omega
            go_upto_region 15 with fail
            refine wp_region_held_drew (S := fun w' => Below w5.heap.size w5 w') (by kernel_rfl) (Below.refl _ _).drew (fun hS => ?_)
            change wpAnyH _ _ _ _ _ 9 (Array.replicate 9 false) _ _
            generalize hx : w5.drew = w6 at hS
            clear hx
            have hl6 : ∀ w', Below w5.heap.size w5 w' → Lists w' (.slice (some ⟨q, o, none⟩) (i2 + 1) c) (ls.take (i2 + 1)) := fun w' h => lists_take ((hyH.out.below hB5).below h) (i2 + 1) (by omega)
            have htl : (ls.take (i2 + 1)).length = i2 + 1 := by rw [List.length_take]; omega
            refine held_take 0 rfl (by kernel_rfl) (by kernel_rfl) (by kernel_rfl) (.pointer (some ⟨g, 0, none⟩)) (fun _ _ _ h => h) (by kernel_rfl) (fun _ _ => by kernel_rfl) hS ?_
            simp only [Act.put, List.setIfInBounds_toArray, List.set_cons_zero, List.set_cons_succ, List.getElem_toArray, List.getElem_cons_succ, List.getElem_cons_zero]
            refine held_take 2 rfl (by kernel_rfl) (by kernel_rfl) (by kernel_rfl) (.slice (some ⟨q, o, none⟩) n c) (fun _ _ _ h => h) (by kernel_rfl) (fun _ _ => by kernel_rfl) hS ?_
            simp only [Act.put, List.setIfInBounds_toArray, List.set_cons_zero, List.set_cons_succ, List.getElem_toArray, List.getElem_cons_succ, List.getElem_cons_zero]
            refine held_take 3 rfl (by kernel_rfl) (by kernel_rfl) (by kernel_rfl) (.int .i64 i2) (fun _ _ _ h => h) (by kernel_rfl) (fun _ _ => by kernel_rfl) hS ?_
            simp only [Act.put, List.setIfInBounds_toArray, List.set_cons_zero, List.set_cons_succ, List.getElem_toArray, List.getElem_cons_succ, List.getElem_cons_zero]
            refine held_take 4 rfl (by kernel_rfl) (by kernel_rfl) (by kernel_rfl) (.int .i64 ((i2 + 1 : Nat) : Int)) (fun _ _ _ h => h) (by kernel_rfl) (fun _ _ => by rw [← hw64]; kernel_rfl) hS ?_
            simp only [Act.put, List.setIfInBounds_toArray, List.set_cons_zero, List.set_cons_succ, List.getElem_toArray, List.getElem_cons_succ, List.getElem_cons_zero]
            refine held_take 5 rfl (by kernel_rfl) (by kernel_rfl) (by kernel_rfl) (.slice (some ⟨q, o, none⟩) (i2 + 1) c) (fun _ _ _ h => h) (by kernel_rfl) (fun w' _ => exec_slice28 _ _ rfl q o n c (i2 + 1) (by kernel_rfl) (by kernel_rfl) (by omega) (by omega) w') hS ?_
            simp only [Act.put, List.setIfInBounds_toArray, List.set_cons_zero, List.set_cons_succ, List.getElem_toArray, List.getElem_cons_succ, List.getElem_cons_zero]
            refine held_call 1 rfl (by kernel_rfl) (by kernel_rfl) 14 #[.pointer (some ⟨g, 0, none⟩)] (by kernel_rfl) (R := fun v w' => v = .agg (bytesC D) ∧ Below w6.heap.size w6 w') ((sum_holds L2 hL2b hL2l _ _ g w6 (hH5'.out.holds.below hS)).mono fun e w' h => ⟨_, h.1, by rw [hD], h.2⟩) ?_
            rintro _ w7 ⟨rfl, hB7⟩
            have hS7 : Below w5.heap.size w5 w7 := hS.trans (hB7.mono hS.size)
            refine ⟨hS7, ?_⟩
            simp only [Act.put, List.setIfInBounds_toArray, List.set_cons_zero, List.set_cons_succ, List.getElem_toArray, List.getElem_cons_succ, List.getElem_cons_zero]
            refine held_call 6 rfl (by kernel_rfl) (by kernel_rfl) 15 #[.slice (some ⟨q, o, none⟩) (i2 + 1) c] (by kernel_rfl) (R := fun v w' => ∃ A c, v = .slice A L2.length c ∧ Bytes w' (.slice A L2.length c) L2 ∧ Below w7.heap.size w7 w') ((by
              have h := joined_calls (ls.take (i2 + 1)) (by rw [← hL2'.out]; exact hL2l) (by rw [htl]; omega) (some ⟨q, o, none⟩) c w7 (by rw [htl]; exact hl6 w7 hS7)
              rw [htl] at h
              exact h.mono fun e w' h => by
                obtain ⟨v, h1, h2, h3⟩ := h
                rw [← hL2'.out] at h2
                obtain ⟨A, c, rfl⟩ := h2.form
                exact ⟨_, h1, A, c, rfl, h2, h3⟩)) ?_
            rintro _ w8 ⟨A8, c8, rfl, hy8, hB8⟩
            have hS8 : Below w5.heap.size w5 w8 := hS7.trans (hB8.mono hS7.size)
            refine ⟨hS8, ?_⟩
            simp only [Act.put, List.setIfInBounds_toArray, List.set_cons_zero, List.set_cons_succ, List.getElem_toArray, List.getElem_cons_succ, List.getElem_cons_zero]
            refine held_call 7 rfl (by kernel_rfl) (by kernel_rfl) 8 #[.slice A8 L2.length c8] (by kernel_rfl) (R := fun v w' => v = .agg (bytesC D) ∧ Below w8.heap.size w8 w') ((rsum_calls L2 hL2b hL2l A8 c8 w8 hy8).mono fun e w' h => ⟨_, h.1, by rw [hD], h.2⟩) ?_
            rintro _ w9 ⟨rfl, hB9⟩
            have hS9 : Below w5.heap.size w5 w9 := hS8.trans (hB9.mono hS8.size)
            refine ⟨hS9, ?_⟩
            simp only [Act.put, List.setIfInBounds_toArray, List.set_cons_zero, List.set_cons_succ, List.getElem_toArray, List.getElem_cons_succ, List.getElem_cons_zero]
            refine held_take 8 rfl (by kernel_rfl) (by kernel_rfl) (by kernel_rfl) (.bool false) (fun _ _ _ h => h) (by kernel_rfl) (fun w' _ => exec_neq _ _ rfl D hDl (by kernel_rfl) (by kernel_rfl) w') hS9 ?_
            simp only [Act.put, List.setIfInBounds_toArray, List.set_cons_zero, List.set_cons_succ, List.getElem_toArray, List.getElem_cons_succ, List.getElem_cons_zero]
            refine wpAnyH_done (by kernel_rfl) ?_ _
            have hH9 : Hid (HSt w1.heap.size w1 w9 g v5 L2) := hH5'.out.next hS9 hs5
            rename_i hK
            refine hK _ _ ?_
            clear hH5' hS hB7 hS7 hy8 hB8 hS8 hB9 hS9 hl6 hB5
            go_wp2_with fail
            go_roundw
            case rel => exact ⟨i2 + 1, v5, by omega, by go_num, by rw [← hL2'.out]; exact hH9⟩
            case measure => simp [intOf]; omega
          · have hni2 : ¬ (i2 : Int) < (n : Int) := by omega
            have hfull : ls.take i2 = ls := List.take_of_length_le (by have := hn'.out; omega)
            rw [hfull] at hH
            obtain ⟨L, hL⟩ : ∃ L, L = ls.flatten := ⟨_, rfl⟩
            have hLb : ∀ j, L.getD j 0 < 256 := by rw [hL]; exact hflb
            have hLl : L.length ≤ 1000000000 := by rw [hL]; exact hfl
            have hn9 : ls.length ≤ 1000000 := by have := hn'.out; omega
            rw [← hL] at hH
            obtain ⟨D, hD⟩ : ∃ D, D = sumB L := ⟨_, rfl⟩
            have hDl : D.length = 32 := by rw [hD]; exact sumB_length _
            have hyl : ∀ w', Below wr.heap.size wr w' → Lists w' (.slice A ls.length c) ls := fun w' h => by rw [← hn'.out]; exact (hyH.out.below hBw).below h
            have hcp : ∀ w', Below wr.heap.size wr w' → Calls Try.prog 16 #[.slice A n c] w' fun e w2 => ∃ v, e = .returned v ∧ (v = .agg (bytesC D) ∧ Below wr.heap.size wr w2) := fun w' h => by
              rw [hn'.out]
              exact (parts_calls ls hls hfl hn9 A c w' (hyl w' h)).mono fun e w2 h2 => ⟨_, h2.1, by rw [hD, hL], h.trans (h2.2.mono h.size)⟩
            have hcj : ∀ w', Below wr.heap.size wr w' → Calls Try.prog 15 #[.slice A n c] w' fun e w2 => ∃ v, e = .returned v ∧ (∃ A c, v = .slice A L.length c ∧ Bytes w2 (.slice A L.length c) L ∧ Below wr.heap.size wr w2) := fun w' h => by
              rw [hn'.out]
              exact (joined_calls ls hfl hn9 A c w' (hyl w' h)).mono fun e w2 h2 => by
                obtain ⟨v, h3, h4, h5⟩ := h2
                rw [← hL] at h4
                obtain ⟨A, c, rfl⟩ := h4.form
                exact ⟨_, h3, A, c, rfl, h4, h.trans (h5.mono h.size)⟩
            clear hL
            go_upto_region 17 with fail
            refine wp_region_lit ?_
            refine sl_run rfl (.slice A n c) wr (by kernel_rfl) ?_
            simp only [Act.put, List.setIfInBounds_toArray, List.set_cons_zero, List.set_cons_succ]
            refine sl_call rfl 16 #[.slice A n c] (by kernel_rfl) (hcp wr (Below.refl _ _)) ?_
            rintro _ w3 ⟨rfl, hB3⟩
            simp only [Act.put, List.setIfInBounds_toArray, List.set_cons_zero, List.set_cons_succ]
            refine sl_run rfl (.slice A n c) w3 (by kernel_rfl) ?_
            simp only [Act.put, List.setIfInBounds_toArray, List.set_cons_zero, List.set_cons_succ]
            refine sl_call rfl 15 #[.slice A n c] (by kernel_rfl) (hcj w3 hB3) ?_
            rintro _ w4 ⟨A4, c4, rfl, hy4, hB4⟩
            refine sl_call rfl 8 #[.slice A4 L.length c4] (by kernel_rfl) (R := fun v w' => v = .agg (bytesC D) ∧ Below w4.heap.size w4 w') ((rsum_calls L hLb hLl A4 c4 w4 hy4).mono fun e w' h => ⟨_, h.1, by rw [hD], h.2⟩) ?_
            rintro _ w5 ⟨rfl, hB5'⟩
            simp only [Act.put, List.setIfInBounds_toArray, List.set_cons_zero, List.set_cons_succ]
            have hB5 : Below wr.heap.size wr w5 := hB4.trans (hB5'.mono hB4.size)
            refine sl_run rfl (.bool true) w5 (exec_eql _ _ rfl D hDl (by kernel_rfl) (by kernel_rfl) w5) ?_
            simp only [Act.put, List.setIfInBounds_toArray, List.set_cons_zero, List.set_cons_succ]
            refine sl_run rfl (.bool true) w5 (by kernel_rfl) ?_
            simp only [Act.put, List.setIfInBounds_toArray, List.set_cons_zero, List.set_cons_succ]
            refine sg_run (by kernel_rfl) (.pointer (some ⟨g, 0, none⟩)) w5 (by kernel_rfl) ?_
            simp only [Act.put, List.setIfInBounds_toArray, List.set_cons_zero, List.set_cons_succ]
            refine sg_call (by kernel_rfl) 14 #[.pointer (some ⟨g, 0, none⟩)] (by kernel_rfl) (R := fun u w' => u = .agg (bytesC D) ∧ Below w5.heap.size w5 w') ((sum_holds L hLb hLl _ _ g w5 (hH.out.holds.below hB5)).mono fun e w' h => ⟨_, h.1, by rw [hD], h.2⟩) ?_
            rintro _ w6 ⟨rfl, hB6'⟩
            simp only [Act.put, List.setIfInBounds_toArray, List.set_cons_zero, List.set_cons_succ]
            have hB6 : Below wr.heap.size wr w6 := hB5.trans (hB6'.mono hB5.size)
            refine sg_run (by kernel_rfl) (.slice A n c) w6 (by kernel_rfl) ?_
            simp only [Act.put, List.setIfInBounds_toArray, List.set_cons_zero, List.set_cons_succ]
            refine sg_call (by kernel_rfl) 16 #[.slice A n c] (by kernel_rfl) (hcp w6 hB6) ?_
            rintro _ w7 ⟨rfl, hB7⟩
            simp only [Act.put, List.setIfInBounds_toArray, List.set_cons_zero, List.set_cons_succ]
            refine sg_run (by kernel_rfl) (.bool true) w7 (exec_eql _ _ rfl D hDl (by kernel_rfl) (by kernel_rfl) w7) ?_
            simp only [Act.put, List.setIfInBounds_toArray, List.set_cons_zero, List.set_cons_succ]
            refine sl_run rfl (.bool true) w7 (by kernel_rfl) ?_
            simp only [Act.put, List.setIfInBounds_toArray, List.set_cons_zero, List.set_cons_succ]
            refine sl_run rfl (.bool true) w7 (by kernel_rfl) ?_
            simp only [Act.put, List.setIfInBounds_toArray, List.set_cons_zero, List.set_cons_succ]
            refine wpList_nil ?_
            rename_i hK
            exact hK _ _ (wp_ret (bodyPost_ret (v := .bool true) (by kernel_rfl) (by kernel_rfl) ⟨rfl, hBw.trans (hB7.mono hBw.size)⟩))
  · have hlt : (40 : Int) < (n : Int) := by omega
    go_enter Try.func4, Try.ntmps4
    go_upto_region 1 with fail
    refine wp_region_lit ?_
    refine sl_call rfl 7 #[] (by kernel_rfl) (R := fun v w' => v = .bool true ∧ Below w.heap.size w w') ((fixed_calls w).mono fun e w' h => ⟨_, h.1, rfl, h.2⟩) ?_
    rintro _ w1 ⟨rfl, hB1⟩
    refine sl_run rfl (.bool false) w1 (by kernel_rfl) ?_
    refine wpList_nil ?_
    simp only [Act.put, List.setIfInBounds_toArray, List.set_cons_zero, List.set_cons_succ, List.getElem_toArray, List.getElem_cons_succ, List.getElem_cons_zero]
    go_wp2_with fail
    go_ret
    exact ⟨rfl, hB1⟩
end Go.Proofs.Ytnaknnnobcnnfaa.Sha
