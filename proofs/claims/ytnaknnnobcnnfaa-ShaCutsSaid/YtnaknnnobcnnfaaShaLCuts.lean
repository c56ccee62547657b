/-
  ShaCuts: the walk.
-/
import Derived.Test.YtnaknnnobcnnfaaShaHeld
namespace Go.Proofs.Ytnaknnnobcnnfaa.Sha
open Go.RowKit
set_option linter.unusedVariables false
set_option linter.unusedSimpArgs false
set_option pp.maxSteps 50000
/-- A list of bytes, cut ahead of a place. -/
theorem cut_h {w : World} {A : Option Addr} {n c : Nat} {l : List Nat} (hy : Bytes w (.slice A n c) l) (hn : n = l.length) (k : Nat) (hk : k ≤ n) :
    ∃ A1 c1, (∀ {o : Oper} {a : Act} (x hi : Operand), o.op = .slice 22 x none (some hi) none → a.eval x = .slice A n c → a.eval hi = .int .i64 (k : Int) → ∀ w', (execOp a.eval o).run Try.prog w' = .ok (.value (.slice A1 k c1)) w') ∧ Bytes w (.slice A1 k c1) (l.take k) := by
  have hnc : n ≤ c := by
    rcases hy with ⟨A', c', h, rfl, _⟩ | ⟨g, o, c', h, h2, _⟩
    · injection h with _ h; omega
    · injection h with _ h3 h4; omega
  refine ⟨if c = 0 then A else A.map (·.add 0), c, fun x hi ho hx hh w' => ?_, ?_⟩
  · unfold execOp
    simp only [ho, Option.map_some, Option.map_none, hx, hh, Sem.run_bind, run_sliceAt_slice w' 22 _ _ _ _ under22, run_slice_h w' 22 _ n c under22 .i64 (k : Int) (by omega) (by omega), size5, Result.andThen_ok, Sem.run_pure, sliced, Int.toNat_natCast, Nat.zero_mul, Nat.sub_zero]
  · rcases hy with ⟨A', c', h, rfl, h2⟩ | ⟨g, o, c', h, h2, h3, h4⟩
    · injection h with h5 h6 h7
      subst h5 h7
      have hk0 : k = 0 := by omega
      subst hk0
      refine .inl ⟨_, _, rfl, by simp, fun h => ?_⟩
      by_cases hc : c = 0
      · exact hc
      · rw [if_neg hc] at h
        cases A with
        | none => exact h2 rfl
        | some a => cases h
    · injection h with h5 h6 h7
      subst h5 h7
      have e : (if c = 0 then some (⟨g, o, none⟩ : Addr) else (some (⟨g, o, none⟩ : Addr)).map (·.add 0)) = some ⟨g, o, none⟩ := by
        split
        · rfl
        · rw [Option.map_some, Addr.add_mid, Nat.add_zero]
      rw [e]
      have hl : (l.take k).length = k := by rw [List.length_take]; omega
      exact .inr ⟨g, o, c, by rw [hl], by omega, h3, h4.take k⟩
/-- .. and behind it. -/
theorem cut_l {w : World} {A : Option Addr} {n c : Nat} {l : List Nat} (hy : Bytes w (.slice A n c) l) (hn : n = l.length) (k : Nat) (hk : k ≤ n) :
    ∃ A1 c1 n1, (∀ {o : Oper} {a : Act} (x lo : Operand), o.op = .slice 22 x (some lo) none none → a.eval x = .slice A n c → a.eval lo = .int .i64 (k : Int) → ∀ w', (execOp a.eval o).run Try.prog w' = .ok (.value (.slice A1 n1 c1)) w') ∧ Bytes w (.slice A1 n1 c1) (l.drop k) := by
  refine ⟨if c = k then A else A.map (·.add k), c - k, n - k, fun x lo ho hx hh w' => ?_, ?_⟩
  · unfold execOp
    simp only [ho, Option.map_some, Option.map_none, hx, hh, Sem.run_bind, run_sliceAt_slice w' 22 _ _ _ _ under22, run_slice_l w' 22 _ n c under22 .i64 (k : Int) (by omega) (by omega), size5, Result.andThen_ok, Sem.run_pure, sliced, Int.toNat_natCast, Nat.mul_one]
  · rcases hy with ⟨A', c', h, rfl, h2⟩ | ⟨g, o, c', h, h2, h3, h4⟩
    · injection h with h5 h6 h7
      subst h5 h7
      have hk0 : k = 0 := by omega
      subst hk0 h6
      refine .inl ⟨_, _, rfl, by simp, fun h => ?_⟩
      by_cases hc : c = 0
      · omega
      · rw [if_neg hc] at h
        cases A with
        | none => have := h2 rfl; omega
        | some a => cases h
    · injection h with h5 h6 h7
      subst h5 h7
      have hl : (l.drop k).length = n - k := by rw [List.length_drop]; omega
      by_cases hc : c = k
      · have hd : l.drop k = [] := List.eq_nil_of_length_eq_zero (by omega)
        rw [hd] at hl ⊢
        rw [if_pos hc, ← hl]
        exact .inl ⟨_, _, rfl, rfl, fun h => by cases h⟩
      · rw [if_neg hc, Option.map_some, Addr.add_mid]
        exact .inr ⟨g, o + k, c - k, by rw [hl], by omega, h3, h4.drop k⟩
theorem lists_two {w : World} (a b : Value) (x y : List Nat) (ha : Bytes w a x) (hb : Bytes w b y) : Lists (w.alloc (.cells #[a, b] 22)) (.slice (some ⟨w.heap.size, 0, none⟩) 2 2) [x, y] := by
  refine .inr ⟨_, 0, _, rfl, Nat.le_refl _, by simp, fun i hi => ?_⟩
  rw [cell_of_row _ _ _ _ _ _ (heap_alloc_new w _), Nat.zero_add]
  match i, hi with
  | 0, _ => exact ⟨a, rfl, ha.alloc _⟩
  | 1, _ => exact ⟨b, rfl, hb.alloc _⟩
set_option maxRecDepth 100000 in
set_option maxHeartbeats 1000000 in
theorem cuts_calls (l : List Nat) (hl : ∀ j, l.getD j 0 < 256) (A : Option Addr) (c : Nat) (x : Int) (w : World) (hy : Bytes w (.slice A l.length c) l) :
    Calls Try.prog 5 #[.slice A l.length c, .int .i64 x] w fun e w' => e = .returned (.bool true) ∧ Below w.heap.size w w' := by
  obtain ⟨n, hn⟩ : ∃ n, n = l.length := ⟨_, rfl⟩
  have hn' : Hid (n = l.length) := hn
  rw [← hn] at hy ⊢
  clear hn
  by_cases h2 : n ≤ 20000
  · have hle : ¬ (20000 : Int) < (n : Int) := by omega
    obtain ⟨u, hu⟩ : ∃ u : Nat, IntKind.u64.wrap x = (u : Int) := ⟨(IntKind.u64.wrap x).toNat, by rw [IntKind.wrap_u64]; omega⟩
    obtain ⟨k, hk⟩ : ∃ k : Nat, k = u % (n + 1) := ⟨_, rfl⟩
    have hkn : k ≤ n := by rw [hk]; have := Nat.mod_lt u (show 0 < n + 1 by omega); omega
    have hk1 : (u : Int) % ((n : Int) + 1) = (k : Int) := by rw [hk]; simp
    have hn1 : ¬ ((n : Int) + 1 = 0) := by omega
    clear hk
    go_enter Try.func5, Try.ntmps5
    go_upto_region 1 with fail
    refine wp_region_lit ?_
    refine sl_call rfl 7 #[] (by kernel_rfl) (R := fun v w' => v = .bool true ∧ Below w.heap.size w w') ((fixed_calls w).mono fun e w' h => ⟨_, h.1, rfl, h.2⟩) ?_
    rintro _ w1 ⟨rfl, hB1⟩
    have hs1 := hB1.size
    refine sl_run rfl (.bool false) w1 (by kernel_rfl) ?_
    refine wpList_nil ?_
    simp only [Act.put, List.setIfInBounds_toArray, List.set_cons_zero, List.set_cons_succ]
    have hy1 : Bytes w1 (.slice A n c) l := hy.below hB1
    go_upto_region 6 with fail
    obtain ⟨A1, c1, hcut1, hyA⟩ := cut_h hy hn'.out k hkn
    obtain ⟨A2, c2, n2, hcut2, hyB⟩ := cut_l hy hn'.out k hkn
    obtain ⟨L1, hL1⟩ : ∃ L, L = l.take k := ⟨_, rfl⟩
    obtain ⟨L2, hL2⟩ : ∃ L, L = l.drop k := ⟨_, rfl⟩
    have hL12 : L1 ++ L2 = l := by rw [hL1, hL2]; exact List.take_append_drop k l
    have hL1b : ∀ j, L1.getD j 0 < 256 := by
      rw [hL1]; exact getD_lt (by decide) (fun y hy => mem_lt_of_getD hl y (List.mem_of_mem_take hy))
    have hL2b : ∀ j, L2.getD j 0 < 256 := by rw [hL2]; exact drop_lt hl k
    have hL1l : L1.length ≤ 1000000000 := by rw [hL1, List.length_take]; have := hn'.out; omega
    have hL2l : L2.length ≤ 1000000000 := by rw [hL2, List.length_drop]; have := hn'.out; omega
    have hll : l.length ≤ 1000000000 := by have := hn'.out; omega
    rw [← hL1] at hyA
    rw [← hL2] at hyB
    clear hL1 hL2
    obtain ⟨D, hD⟩ : ∃ D, D = sumB l := ⟨_, rfl⟩
    have hDl : D.length = 32 := by rw [hD]; exact sumB_length _
    obtain ⟨D1, hD1⟩ : ∃ D, D = sumB L1 := ⟨_, rfl⟩
    have hD1l : D1.length = 32 := by rw [hD1]; exact sumB_length _
    obtain ⟨D0, hD0⟩ : ∃ D, D = sumB [] := ⟨_, rfl⟩
    have hD0l : D0.length = 32 := by rw [hD0]; exact sumB_length _
    refine wp_region_lit ?_
    refine sl_call rfl 12 #[] (by kernel_rfl) (R := fun v w' => ∃ g, v = .pointer (some ⟨g, 0, none⟩) ∧ HSt w1.heap.size w1 w' g (.slice none 0 0) []) ((new_holds w1).mono fun e w' h => by obtain ⟨g, h1, h2, h3, h4⟩ := h; exact ⟨_, h1, g, rfl, h3, h4, h2⟩) ?_
    rintro _ w2 ⟨g, rfl, hH2⟩
    refine sl_run rfl (.pointer (some ⟨g, 0, none⟩)) w2 (by kernel_rfl) ?_
    refine wpList_nil ?_
    simp only [Act.put, List.setIfInBounds_toArray, List.set_cons_zero, List.set_cons_succ]
    have hs2 := hH2.below.size
    have hgw : ∀ {y : Value} {m : List Nat}, Bytes w y m → (m ≠ [] → y.ownBlock ≠ some g) := fun hb hm e => by have := hb.lt hm g e; have := hH2.hg; omega
    have hyA2 : Bytes w2 (.slice A1 k c1) L1 := (hyA.below hB1).below hH2.below
    go_upto_region 7 with fail
    refine wp_region_lit ?_
    refine sl_run rfl (.pointer (some ⟨g, 0, none⟩)) w2 (by kernel_rfl) ?_
    refine sl_run rfl (.slice A n c) w2 (by kernel_rfl) ?_
    refine sl_run rfl (.int .i64 k) w2 (by kernel_rfl) ?_
    refine sl_run rfl (.slice A1 k c1) w2 (hcut1 _ _ rfl (by kernel_rfl) (by kernel_rfl) w2) ?_
    simp only [Act.put, List.setIfInBounds_toArray, List.set_cons_zero, List.set_cons_succ]
    refine sl_call rfl 13 #[.pointer (some ⟨g, 0, none⟩), .slice A1 k c1] (by kernel_rfl) (R := fun _ w' => ∃ v, HSt w1.heap.size w1 w' g v L1) ((write_holds [] L1 (by simp) hL1b (by simp) hL1l _ _ g w2 hH2.holds _ hyA2 (hgw hyA)).mono fun e w' h => by
      obtain ⟨h1, v', h2, h3⟩ := h
      exact ⟨_, h1, v', hH2.wrote hs2 h2 h3⟩) ?_
    rintro _ w3 ⟨v3, hH3⟩
    refine wpList_nil ?_
    simp only [Act.put, List.setIfInBounds_toArray, List.set_cons_zero, List.set_cons_succ]
    have hs3 := hH3.below.size
    go_upto_region 8 with fail
    refine wp_region_lit ?_
    refine sl_run rfl (.pointer (some ⟨g, 0, none⟩)) w3 (by kernel_rfl) ?_
    refine sl_call rfl 14 #[.pointer (some ⟨g, 0, none⟩)] (by kernel_rfl) (R := fun u w' => u = .agg (bytesC D1) ∧ Below w3.heap.size w3 w') ((sum_holds L1 hL1b hL1l _ _ g w3 hH3.holds).mono fun e w' h => ⟨_, h.1, by rw [hD1], h.2⟩) ?_
    rintro _ w4 ⟨rfl, hB4⟩
    have hH4 := hH3.next hB4 hs3
    have hs4 := hH4.below.size
    refine sl_run rfl (.pointer (some ⟨w4.heap.size, 0, none⟩)) (w4.alloc (.cells (bytesC (zeros 32)) 24)) (by kernel_rfl) ?_
    refine wpList_store_row rfl 24 _ _ rfl w4.heap.size (bytesC D1) (by kernel_rfl) (by kernel_rfl) 24 _ (heap_alloc_new _ _) (by rw [bytesC_size, hD1l]; kernel_rfl) (by rw [bytesC_size, bytesC_size, hD1l]; rfl) (bytesC_one _) ?_
    rw [World.setRow_alloc_new]
    refine wpList_nil ?_
    have hg5 : (w4.alloc (.cells (bytesC D1) 24)).heap[w4.heap.size]? = some (.cells (bytesC D1) 24 (0, 0)) := heap_alloc_new _ _
    have hH5 := hH4.next ((Below.refl _ _).alloc (Nat.le_refl _) (.cells (bytesC D1) 24)) hs4
    have hdg : w4.heap.size ≠ g := by have := hH4.holds.lt; omega
    have hdv : v3.ownBlock ≠ some w4.heap.size := fun e => by have := (hH4.holds.2.lt _ e).2; omega
    have hd1 : w1.heap.size ≤ w4.heap.size := hs4
    have hd5 : w4.heap.size < (w4.alloc (.cells (bytesC D1) 24)).heap.size := by simp
    generalize w4.alloc _ = w5 at hg5 hH5 hd5
    generalize w4.heap.size = d at hg5 hdg hdv hd1 hd5 ⊢
    have hs5 := hH5.below.size
    simp only [Act.put, List.setIfInBounds_toArray, List.set_cons_zero, List.set_cons_succ]
    have hyB5 : Bytes w5 (.slice A2 n2 c2) L2 := (hyB.below hB1).below hH5.below
    go_upto_region 9 with fail
    refine wp_region_lit ?_
    refine sl_run rfl (.pointer (some ⟨g, 0, none⟩)) w5 (by kernel_rfl) ?_
    refine sl_run rfl (.slice A n c) w5 (by kernel_rfl) ?_
    refine sl_run rfl (.int .i64 k) w5 (by kernel_rfl) ?_
    refine sl_run rfl (.slice A2 n2 c2) w5 (hcut2 _ _ rfl (by kernel_rfl) (by kernel_rfl) w5) ?_
    simp only [Act.put, List.setIfInBounds_toArray, List.set_cons_zero, List.set_cons_succ]
    refine sl_call rfl 13 #[.pointer (some ⟨g, 0, none⟩), .slice A2 n2 c2] (by kernel_rfl) (R := fun _ w' => ∃ v, HSt w1.heap.size w1 w' g v l ∧ w'.heap[d]? = some (.cells (bytesC D1) 24 (0, 0)) ∧ d < w'.heap.size) ((write_holds L1 L2 hL1b hL2b hL1l hL2l _ _ g w5 hH5.holds _ hyB5 (hgw hyB)).mono fun e w' h => by
      obtain ⟨h1, v', h2, h3⟩ := h
      rw [hL12] at h2
      exact ⟨_, h1, v', hH5.wrote hs5 h2 h3, by rw [h3.block d hd5 hdg (fun e => hdv e.symm)]; exact hg5, by have := h3.size; omega⟩) ?_
    rintro _ w6 ⟨v6, hH6, hg6, hd6⟩
    refine wpList_nil ?_
    simp only [Act.put, List.setIfInBounds_toArray, List.set_cons_zero, List.set_cons_succ]
    have hs6 := hH6.below.size
    have hy6 : Bytes w6 (.slice A n c) l := (hy.below hB1).below hH6.below
    go_upto_region 11 with fail
    refine wp_region_lit ?_
    refine sl_run rfl (.pointer none) w6 (by kernel_rfl) ?_
    refine sl_run rfl (.slice A n c) w6 (by kernel_rfl) ?_
    refine sl_call rfl 13 #[.pointer none, .slice A n c] (by kernel_rfl) (R := fun _ w' => w6 = w') ((wnil_calls _ l w6 hy6).mono fun e w' h => ⟨_, h.1, h.2.symm⟩) ?_
    rintro _ _ rfl
    refine wpList_nil ?_
    simp only [Act.put, List.setIfInBounds_toArray, List.set_cons_zero, List.set_cons_succ]
    go_upto_region 12 with fail
    refine wp_region_held_drew (S := fun w' => Below w6.heap.size w6 w') (by kernel_rfl) (Below.refl _ _).drew (fun hS => ?_)
    change wpAnyH _ _ _ _ _ 33 (Array.replicate 33 false) _ _
    generalize hx : w6.drew = w7 at hS
    clear hx
    have ld : ∀ w', Below w6.heap.size w6 w' → w'.heap[d]? = some (.cells (bytesC D1) 24 (0, 0)) := fun w' h => by rw [h.block d hd6]; exact hg6
    have i24 : (Try.prog.info? 24).map (·.size) = some (bytesC D1).size := by rw [bytesC_size, hD1l]; kernel_rfl
    have byt : ∀ {y : Value} {m : List Nat} {w' : World}, Bytes w y m → Below w6.heap.size w6 w' → Bytes w' y m := fun hb h => ((hb.below hB1).below hH6.below).below h
    have hld : ∀ {w' : World}, Below w6.heap.size w6 w' → Holds w' w1.heap.size g v6 l := fun h => hH6.holds.below h
    have hs7 := hS.size
    refine held_take 0 rfl (by kernel_rfl) (by kernel_rfl) (by kernel_rfl) (.agg (bytesC D1)) (fun _ _ _ h => h) (by kernel_rfl) (fun w' h => exec_load_row 24 w' _ rfl d (by kernel_rfl) 24 (bytesC D1) (0, 0) _ (ld w' h) Try.underlying24 rfl i24) hS ?_
    simp only [Act.put, List.setIfInBounds_toArray, List.set_cons_zero, List.set_cons_succ]
    refine held_take 1 rfl (by kernel_rfl) (by kernel_rfl) (by kernel_rfl) (.slice A n c) (fun _ _ _ h => h) (by kernel_rfl) (fun _ _ => by kernel_rfl) hS ?_
    simp only [Act.put, List.setIfInBounds_toArray, List.set_cons_zero, List.set_cons_succ]
    refine held_take 2 rfl (by kernel_rfl) (by kernel_rfl) (by kernel_rfl) (.int .i64 k) (fun _ _ _ h => h) (by kernel_rfl) (fun _ _ => by kernel_rfl) hS ?_
    simp only [Act.put, List.setIfInBounds_toArray, List.set_cons_zero, List.set_cons_succ]
    refine held_take 3 rfl (by kernel_rfl) (by kernel_rfl) (by kernel_rfl) (.slice A1 k c1) (fun _ _ _ h => h) (by kernel_rfl) (fun w' _ => hcut1 _ _ rfl (by kernel_rfl) (by kernel_rfl) w') hS ?_
    simp only [Act.put, List.setIfInBounds_toArray, List.set_cons_zero, List.set_cons_succ]
    have hSw7 := hS
    refine held_call 4 rfl (by kernel_rfl) (by kernel_rfl) 9 #[.slice A1 k c1] (by kernel_rfl) (R := fun v w' => v = .agg (bytesC D1) ∧ Below w7.heap.size w7 w') ((one_calls L1 hL1b hL1l _ w7 (byt hyA hSw7)).mono fun e w' h => ⟨_, h.1, by rw [hD1], h.2⟩) ?_
    rintro _ w8 ⟨rfl, hBw8⟩
    have hSw8 : Below w6.heap.size w6 w8 := hSw7.trans (hBw8.mono hSw7.size)
    refine ⟨hSw8, ?_⟩
    simp only [Act.put, List.setIfInBounds_toArray, List.set_cons_zero, List.set_cons_succ]
    refine held_take 5 rfl (by kernel_rfl) (by kernel_rfl) (by kernel_rfl) (.bool true) (fun _ _ _ h => h) (by kernel_rfl) (fun w' _ => exec_eql _ _ rfl D1 hD1l (by kernel_rfl) (by kernel_rfl) w') hSw8 ?_
    simp only [Act.put, List.setIfInBounds_toArray, List.set_cons_zero, List.set_cons_succ]
    refine held_take 6 rfl (by kernel_rfl) (by kernel_rfl) (by kernel_rfl) (.bool true) (fun _ _ _ h => h) (by kernel_rfl) (fun _ _ => by kernel_rfl) hSw8 ?_
    simp only [Act.put, List.setIfInBounds_toArray, List.set_cons_zero, List.set_cons_succ]
    refine held_take 7 rfl (by kernel_rfl) (by kernel_rfl) (by kernel_rfl) (.pointer (some ⟨g, 0, none⟩)) (fun _ _ _ h => h) (by kernel_rfl) (fun _ _ => by kernel_rfl) hSw8 ?_
    simp only [Act.put, List.setIfInBounds_toArray, List.set_cons_zero, List.set_cons_succ]
    refine held_take 9 rfl (by kernel_rfl) (by kernel_rfl) (by kernel_rfl) (.slice A n c) (fun _ _ _ h => h) (by kernel_rfl) (fun _ _ => by kernel_rfl) hSw8 ?_
    simp only [Act.put, List.setIfInBounds_toArray, List.set_cons_zero, List.set_cons_succ]
    refine held_call 8 rfl (by kernel_rfl) (by kernel_rfl) 14 #[.pointer (some ⟨g, 0, none⟩)] (by kernel_rfl) (R := fun v w' => v = .agg (bytesC D) ∧ Below w8.heap.size w8 w') ((sum_holds l hl hll _ _ g w8 (hld hSw8)).mono fun e w' h => ⟨_, h.1, by rw [hD], h.2⟩) ?_
    rintro _ w9 ⟨rfl, hBw9⟩
    have hSw9 : Below w6.heap.size w6 w9 := hSw8.trans (hBw9.mono hSw8.size)
    refine ⟨hSw9, ?_⟩
    simp only [Act.put, List.setIfInBounds_toArray, List.set_cons_zero, List.set_cons_succ]
    refine held_call 10 rfl (by kernel_rfl) (by kernel_rfl) 9 #[.slice A n c] (by kernel_rfl) (R := fun v w' => v = .agg (bytesC D) ∧ Below w9.heap.size w9 w') ((one_calls l hl hll _ w9 (byt hy hSw9)).mono fun e w' h => ⟨_, h.1, by rw [hD], h.2⟩) ?_
    rintro _ wA ⟨rfl, hBwA⟩
    have hSwA : Below w6.heap.size w6 wA := hSw9.trans (hBwA.mono hSw9.size)
    refine ⟨hSwA, ?_⟩
    simp only [Act.put, List.setIfInBounds_toArray, List.set_cons_zero, List.set_cons_succ]
    refine held_take 11 rfl (by kernel_rfl) (by kernel_rfl) (by kernel_rfl) (.bool true) (fun _ _ _ h => h) (by kernel_rfl) (fun w' _ => exec_eql _ _ rfl D hDl (by kernel_rfl) (by kernel_rfl) w') hSwA ?_
    simp only [Act.put, List.setIfInBounds_toArray, List.set_cons_zero, List.set_cons_succ]
    refine held_take 12 rfl (by kernel_rfl) (by kernel_rfl) (by kernel_rfl) (.bool true) (fun _ _ _ h => h) (by kernel_rfl) (fun _ _ => by kernel_rfl) hSwA ?_
    simp only [Act.put, List.setIfInBounds_toArray, List.set_cons_zero, List.set_cons_succ]
    refine held_take 13 rfl (by kernel_rfl) (by kernel_rfl) (by kernel_rfl) (.bool true) (fun _ _ _ h => h) (by kernel_rfl) (fun _ _ => by kernel_rfl) hSwA ?_
    simp only [Act.put, List.setIfInBounds_toArray, List.set_cons_zero, List.set_cons_succ]
    refine held_take 14 rfl (by kernel_rfl) (by kernel_rfl) (by kernel_rfl) (.slice A n c) (fun _ _ _ h => h) (by kernel_rfl) (fun _ _ => by kernel_rfl) hSwA ?_
    simp only [Act.put, List.setIfInBounds_toArray, List.set_cons_zero, List.set_cons_succ]
    refine held_take 15 rfl (by kernel_rfl) (by kernel_rfl) (by kernel_rfl) (.int .i64 k) (fun _ _ _ h => h) (by kernel_rfl) (fun _ _ => by kernel_rfl) hSwA ?_
    simp only [Act.put, List.setIfInBounds_toArray, List.set_cons_zero, List.set_cons_succ]
    refine held_take 16 rfl (by kernel_rfl) (by kernel_rfl) (by kernel_rfl) (.slice A1 k c1) (fun _ _ _ h => h) (by kernel_rfl) (fun w' _ => hcut1 _ _ rfl (by kernel_rfl) (by kernel_rfl) w') hSwA ?_
    simp only [Act.put, List.setIfInBounds_toArray, List.set_cons_zero, List.set_cons_succ]
    refine held_take 17 rfl (by kernel_rfl) (by kernel_rfl) (by kernel_rfl) (.slice A n c) (fun _ _ _ h => h) (by kernel_rfl) (fun _ _ => by kernel_rfl) hSwA ?_
    simp only [Act.put, List.setIfInBounds_toArray, List.set_cons_zero, List.set_cons_succ]
    refine held_take 18 rfl (by kernel_rfl) (by kernel_rfl) (by kernel_rfl) (.int .i64 k) (fun _ _ _ h => h) (by kernel_rfl) (fun _ _ => by kernel_rfl) hSwA ?_
    simp only [Act.put, List.setIfInBounds_toArray, List.set_cons_zero, List.set_cons_succ]
    refine held_take 19 rfl (by kernel_rfl) (by kernel_rfl) (by kernel_rfl) (.slice A2 n2 c2) (fun _ _ _ h => h) (by kernel_rfl) (fun w' _ => hcut2 _ _ rfl (by kernel_rfl) (by kernel_rfl) w') hSwA ?_
    simp only [Act.put, List.setIfInBounds_toArray, List.set_cons_zero, List.set_cons_succ]
    refine held_take 22 rfl (by kernel_rfl) (by kernel_rfl) (by kernel_rfl) (.slice A n c) (fun _ _ _ h => h) (by kernel_rfl) (fun _ _ => by kernel_rfl) hSwA ?_
    simp only [Act.put, List.setIfInBounds_toArray, List.set_cons_zero, List.set_cons_succ]
    refine held_new 20 rfl (by kernel_rfl) (by kernel_rfl) (.slice (some ⟨wA.heap.size, 0, none⟩) 2 2) (wA.alloc (.cells #[.slice A1 k c1, .slice A2 n2 c2] 22)) (by kernel_rfl) (fun w' => Lists w' (.slice (some ⟨wA.heap.size, 0, none⟩) 2 2) [L1, L2] ∧ Below w6.heap.size w6 w') ⟨lists_two _ _ _ _ (byt hyA hSwA) (byt hyB hSwA), hSwA.alloc hSwA.size _⟩ ?_
    rintro wB ⟨hlB, hSwB⟩
    refine ⟨hSwB, ?_⟩
    simp only [Act.put, List.setIfInBounds_toArray, List.set_cons_zero, List.set_cons_succ]
    refine held_call 21 rfl (by kernel_rfl) (by kernel_rfl) 16 #[.slice (some ⟨wA.heap.size, 0, none⟩) 2 2] (by kernel_rfl) (R := fun v w' => v = .agg (bytesC D) ∧ Below wB.heap.size wB w') ((parts_calls [L1, L2] (fun y hy => by rcases (by simpa using hy : y = L1 ∨ y = L2) with rfl | rfl <;> assumption) (by simp; have := hn'.out; have := congrArg List.length hL12; rw [List.length_append] at this; omega) (by simp) _ _ wB hlB).mono fun e w' h => ⟨_, h.1, by rw [hD]; simp [hL12], h.2⟩) ?_
    rintro _ wC ⟨rfl, hBwC⟩
    have hSwC : Below w6.heap.size w6 wC := hSwB.trans (hBwC.mono hSwB.size)
    refine ⟨hSwC, ?_⟩
    simp only [Act.put, List.setIfInBounds_toArray, List.set_cons_zero, List.set_cons_succ]
    refine held_call 23 rfl (by kernel_rfl) (by kernel_rfl) 9 #[.slice A n c] (by kernel_rfl) (R := fun v w' => v = .agg (bytesC D) ∧ Below wC.heap.size wC w') ((one_calls l hl hll _ wC (byt hy hSwC)).mono fun e w' h => ⟨_, h.1, by rw [hD], h.2⟩) ?_
    rintro _ wD ⟨rfl, hBwD⟩
    have hSwD : Below w6.heap.size w6 wD := hSwC.trans (hBwD.mono hSwC.size)
    refine ⟨hSwD, ?_⟩
    simp only [Act.put, List.setIfInBounds_toArray, List.set_cons_zero, List.set_cons_succ]
    refine held_take 24 rfl (by kernel_rfl) (by kernel_rfl) (by kernel_rfl) (.bool true) (fun _ _ _ h => h) (by kernel_rfl) (fun w' _ => exec_eql _ _ rfl D hDl (by kernel_rfl) (by kernel_rfl) w') hSwD ?_
    simp only [Act.put, List.setIfInBounds_toArray, List.set_cons_zero, List.set_cons_succ]
    refine held_take 25 rfl (by kernel_rfl) (by kernel_rfl) (by kernel_rfl) (.bool true) (fun _ _ _ h => h) (by kernel_rfl) (fun _ _ => by kernel_rfl) hSwD ?_
    simp only [Act.put, List.setIfInBounds_toArray, List.set_cons_zero, List.set_cons_succ]
    refine held_take 26 rfl (by kernel_rfl) (by kernel_rfl) (by kernel_rfl) (.bool true) (fun _ _ _ h => h) (by kernel_rfl) (fun _ _ => by kernel_rfl) hSwD ?_
    simp only [Act.put, List.setIfInBounds_toArray, List.set_cons_zero, List.set_cons_succ]
    refine held_take 27 rfl (by kernel_rfl) (by kernel_rfl) (by kernel_rfl) (.pointer none) (fun _ _ _ h => h) (by kernel_rfl) (fun _ _ => by kernel_rfl) hSwD ?_
    simp only [Act.put, List.setIfInBounds_toArray, List.set_cons_zero, List.set_cons_succ]
    refine held_call 28 rfl (by kernel_rfl) (by kernel_rfl) 14 #[.pointer none] (by kernel_rfl) (R := fun v w' => v = .agg (bytesC D0) ∧ Below wD.heap.size wD w') ((hnil_calls wD).mono fun e w' h => ⟨_, h.1, by rw [hD0], h.2⟩) ?_
    rintro _ wE ⟨rfl, hBwE⟩
    have hSwE : Below w6.heap.size w6 wE := hSwD.trans (hBwE.mono hSwD.size)
    refine ⟨hSwE, ?_⟩
    simp only [Act.put, List.setIfInBounds_toArray, List.set_cons_zero, List.set_cons_succ]
    refine held_call 29 rfl (by kernel_rfl) (by kernel_rfl) 9 #[.slice none 0 0] (by kernel_rfl) (R := fun v w' => v = .agg (bytesC D0) ∧ Below wE.heap.size wE w') ((one_calls [] (by simp) (by simp) _ wE (Bytes.nil wE)).mono fun e w' h => ⟨_, h.1, by rw [hD0], h.2⟩) ?_
    rintro _ wF ⟨rfl, hBwF⟩
    have hSwF : Below w6.heap.size w6 wF := hSwE.trans (hBwF.mono hSwE.size)
    refine ⟨hSwF, ?_⟩
    simp only [Act.put, List.setIfInBounds_toArray, List.set_cons_zero, List.set_cons_succ]
    refine held_take 30 rfl (by kernel_rfl) (by kernel_rfl) (by kernel_rfl) (.bool true) (fun _ _ _ h => h) (by kernel_rfl) (fun w' _ => exec_eql _ _ rfl D0 hD0l (by kernel_rfl) (by kernel_rfl) w') hSwF ?_
    simp only [Act.put, List.setIfInBounds_toArray, List.set_cons_zero, List.set_cons_succ]
    refine held_take 31 rfl (by kernel_rfl) (by kernel_rfl) (by kernel_rfl) (.bool true) (fun _ _ _ h => h) (by kernel_rfl) (fun _ _ => by kernel_rfl) hSwF ?_
    simp only [Act.put, List.setIfInBounds_toArray, List.set_cons_zero, List.set_cons_succ]
    refine held_take 32 rfl (by kernel_rfl) (by kernel_rfl) (by kernel_rfl) (.bool true) (fun _ _ _ h => h) (by kernel_rfl) (fun _ _ => by kernel_rfl) hSwF ?_
    simp only [Act.put, List.setIfInBounds_toArray, List.set_cons_zero, List.set_cons_succ]
    refine wpAnyH_done (by kernel_rfl) ?_ _
    rename_i hK
    exact hK _ _ (wp_ret (bodyPost_ret (v := .bool true) (by kernel_rfl) (by kernel_rfl) ⟨rfl, hB1.trans ((hH6.below.trans (hSwF.mono hs6)).mono hs1)⟩))
  · have hlt : (20000 : Int) < (n : Int) := by omega
    go_enter Try.func5, Try.ntmps5
    go_upto_region 1 with fail
    refine wp_region_lit ?_
    refine sl_call rfl 7 #[] (by kernel_rfl) (R := fun v w' => v = .bool true ∧ Below w.heap.size w w') ((fixed_calls w).mono fun e w' h => ⟨_, h.1, rfl, h.2⟩) ?_
    rintro _ w1 ⟨rfl, hB1⟩
    refine sl_run rfl (.bool false) w1 (by kernel_rfl) ?_
    refine wpList_nil ?_
    simp only [Act.put, List.setIfInBounds_toArray, List.set_cons_zero, List.set_cons_succ]
    go_wp2_with fail
    go_ret
    exact ⟨rfl, hB1⟩
end Go.Proofs.Ytnaknnnobcnnfaa.Sha
