/-
  Bindings: the document's Fill.
-/
import Derived.Test.YtehgblnhhlgikaaBiTuple2
import Derived.Test.YtehgblnhhlgikaaBiRMatch
namespace Go.Proofs.Ytehgblnhhlgikaa.Bi
open Go.RowKit
set_option linter.unusedVariables false
set_option linter.unusedSimpArgs false
set_option pp.maxSteps 50000
/-- A literal's terms filled, one by one. -/
def fillOn (b : List T3) : List T3 → List V2 → Option (List V2)
  | [], out => some out
  | x :: xs, out => if (look b x).2 then fillOn b xs (out ++ [(look b x).1]) else none
/-- A literal filled: its tuple's values. -/
def fillS (k : Nat) (args b : List T3) : Option (List V2) := if k = 1 ∨ k = 2 then fillOn b args [] else none
theorem fillOn_step (b args : List T3) (out : List V2) (i : Nat) (h : i < args.length) :
    fillOn b (args.drop i) out = if (look b (args.getD i default)).2 then fillOn b (args.drop (i + 1)) (out ++ [(look b (args.getD i default)).1]) else none := by
  rw [drop_cons args i h, fillOn]
theorem fillOn_end (b args : List T3) (out : List V2) (i : Nat) (h : args.length ≤ i) : fillOn b (args.drop i) out = some out := by
  rw [List.drop_eq_nil_iff.2 h, fillOn]
theorem own_keep {w w' : World} {base n k : Nat} {e : TypeId} {v : Value} {xs : List Value} (h : w.ownsRow base e k v n xs) (hb : ∀ k, v.ownBlock = some k → w'.heap[k]? = w.heap[k]?) : w'.ownsRow base e k v n xs := by
  refine ⟨h.1, ?_⟩
  rcases h.2 with h2 | ⟨g', cap, cur, rfl, h1, h2, h3⟩
  · exact .inl h2
  · exact .inr ⟨g', cap, cur, rfl, h1, by rw [hb g' rfl]; exact h2, h3⟩
theorem own_form {w : World} {base n k : Nat} {e : TypeId} {v : Value} {xs : List Value} (h : w.ownsRow base e k v n xs) : ∃ A c, v = .slice A n c := by
  rcases h.2 with ⟨rfl, h0⟩ | ⟨g9, cap, cur, rfl, _⟩
  · exact ⟨none, 0, by rw [h0]⟩
  · exact ⟨_, cap, rfl⟩
/-- A new row of one struct. -/
theorem rw_one {α : Type} [Inhabited α] {k : Nat} {enc : α → Array Value} {w : World} {g : Nat} {t : TypeId} {fr : Nat × Nat} (x : α) (h : w.heap[g]? = some (.cells (enc x) t fr)) : Rw k enc w (.slice (some ⟨g, 0, none⟩) 1 1) [x] :=
  .inr ⟨g, 0, 1, rfl, Nat.le_refl _, (Array.getElem?_eq_some_iff.1 h).1, fun i hi j u hu => by
    have : i = 0 := by simp at hi; omega
    subst this
    rw [Nat.zero_mul, Nat.add_zero, Nat.zero_add, cell_of_row _ _ _ _ _ _ h]
    simpa using hu⟩
def tup (p : ByteArray) (v : Value) : Array Value := #[.string p, v]
theorem tup_one (p : ByteArray) (A : Option Addr) (n c : Nat) : (tup p (.slice A n c)).all (·.oneCell') = true := by simp [tup, Value.oneCell']
set_option maxRecDepth 100000 in
set_option maxHeartbeats 2000000 in
theorem rfill_calls (k : Nat) (p : ByteArray) (args b : List T3) (A1 A2 : Option Addr) (n q c1 c2 : Nat) (hn : n = args.length) (hq : q = b.length) (hn9 : n ≤ 1000000) (hq9 : q ≤ 1000000) (hxs : ∀ t ∈ args, t.x.size ≤ 9223372036854775807) (w : World)
    (hy1 : Rw 3 T3.c w (.slice A1 n c1) args) (hy2 : Rw 3 T3.c w (.slice A2 q c2) b) :
    Calls Try.prog 14 #[.agg #[.int .u8 (k : Int), .string p, .slice A1 n c1], .slice A2 q c2] w fun e w' => ∃ v, e = .returned (.tuple #[.agg #[.string (if (fillS k args b).isSome then p else ByteArray.empty), v], .bool (fillS k args b).isSome]) ∧ Rw 2 V2.c w' v ((fillS k args b).getD []) ∧ Below w.heap.size w w' := by
  obtain ⟨r, hr0⟩ : ∃ r, r = fillS k args b := ⟨_, rfl⟩
  rw [← hr0]
  have hr : Hid (r = fillS k args b) := hr0
  have hna' : Hid (n = args.length) := hn
  have hqb' : Hid (q = b.length) := hq
  have hy1' : Hid (Rw 3 T3.c w (.slice A1 n c1) args) := hy1
  have hy2' : Hid (Rw 3 T3.c w (.slice A2 q c2) b) := hy2
  have hxsH : Hid (∀ t ∈ args, t.x.size ≤ 9223372036854775807) := hxs
  clear hr0 hn hq hy1 hy2 hxs
  obtain ⟨i46, hi46, hz0, hz1, hz2⟩ := info_parts inf46
  go_enter Try.func14, Try.ntmps14
  go_upto_region 1 with fail
  generalize hW : World.alloc _ _ = W
  have hW0 : W.heap[w.heap.size]? = some (.cells #[.int .u8 (k : Int), .string p, .slice A1 n c1] 24 (0, 0)) := by rw [← hW]; exact heap_alloc2_old w _ _
  have hW1 : W.heap[w.heap.size + 1]? = some (.cells (tup ByteArray.empty (.slice none 0 0)) 27 (0, 0)) := by rw [← hW]; exact heap_alloc2_new w _ _
  have hWB : Below w.heap.size w W := by rw [← hW]; exact ((Below.refl _ _).alloc (Nat.le_refl _) _).alloc (by simp) _
  have hWs : W.heap.size = w.heap.size + 2 := by rw [← hW]; simp
  clear hW
  have c00 : W.cell? ⟨w.heap.size, 0, none⟩ = some (.int .u8 (k : Int)) := by rw [cell_of_row _ _ _ _ _ _ hW0]; rfl
  have hW0' : Hid (W.heap[w.heap.size]? = some (.cells #[.int .u8 (k : Int), .string p, .slice A1 n c1] 24 (0, 0))) := hW0
  have hW1' : Hid (W.heap[w.heap.size + 1]? = some (.cells (tup ByteArray.empty (.slice none 0 0)) 27 (0, 0))) := hW1
  have hWB' : Hid (Below w.heap.size w W) := hWB
  clear hW0 hW1 hWB
  by_cases hk : k = 1 ∨ k = 2
  · have hk' : (k = 1) ∨ (¬ k = 1 ∧ k = 2) := by omega
    have hrr : Hid (r = fillOn b args []) := by
      show _ = _
      rw [hr.out]; unfold fillS; rw [if_pos hk]
    have hI0 : ∀ q : Nat, ((q : Int) == (q : Int)) = true := fun q => by simp
    rcases hk' with rfl | ⟨hk1, rfl⟩
    all_goals
      clear hk
      go_upto_region 3 with fail
      clear c00 hI0
      refine wp_region_lit ?_
      refine sl_run rfl (.pointer (some ⟨w.heap.size, 1, none⟩)) W (by kernel_rfl) ?_
      refine sl_run rfl (.string p) W (exec_load_cell 9 W _ rfl ⟨w.heap.size, 1, none⟩ (by kernel_rfl) _ (by rw [cell_of_row _ _ _ _ _ _ hW0'.out]; rfl) (fun _ => by kernel_rfl)) ?_
      simp only [Act.put, List.setIfInBounds_toArray, List.set_cons_zero, List.set_cons_succ]
      refine sl_run rfl (.agg (tup p (.slice none 0 0))) W (by kernel_rfl) ?_
      refine sl_run rfl (.pointer (some ⟨W.heap.size, 0, none⟩)) (W.alloc (.cells (tup ByteArray.empty (.slice none 0 0)) 27)) (by kernel_rfl) ?_
      simp only [Act.put, List.setIfInBounds_toArray, List.set_cons_zero, List.set_cons_succ]
      refine wpList_store_row rfl 27 _ _ rfl W.heap.size (tup p (.slice none 0 0)) (by kernel_rfl) (by kernel_rfl) 27 _ (heap_alloc_new _ _) (by kernel_rfl) (by kernel_rfl) (tup_one _ _ _ _) ?_
      rw [World.setRow_alloc_new]
      refine wpList_nil ?_
      simp only [Act.put, List.setIfInBounds_toArray, List.set_cons_zero, List.set_cons_succ]
      have h12 : (W.alloc (.cells (tup p (.slice none 0 0)) 27)).heap[W.heap.size]? = some (.cells (tup p (.slice none 0 0)) 27 (0, 0)) := heap_alloc_new _ _
      have h10 := (heap_alloc_old W (.cells (tup p (.slice none 0 0)) 27) (by omega)).trans hW0'.out
      have h11 := (heap_alloc_old W (.cells (tup p (.slice none 0 0)) 27) (by omega)).trans hW1'.out
      have h1B : Hid (Below w.heap.size w (W.alloc (.cells (tup p (.slice none 0 0)) 27))) := hWB'.out.alloc (by omega) _
      have h1s : (W.alloc (.cells (tup p (.slice none 0 0)) 27)).heap.size = w.heap.size + 3 := by simp [hWs]
      rw [hWs] at h12 ⊢
      generalize World.alloc W _ = W1 at h10 h11 h12 h1B h1s ⊢
      have hown1 : W1.ownsRow (w.heap.size + 3) 46 2 (.slice none 0 0) ([] : List V2).length (flat V2.c []) := World.ownsRow_nil _ _ _ _
      have h10' : Hid (∃ kk : Nat, W1.heap[w.heap.size]? = some (.cells #[.int .u8 (kk : Int), .string p, .slice A1 n c1] 24 (0, 0))) := ⟨_, h10⟩
      have h11' : Hid (W1.heap[w.heap.size + 1]? = some (.cells (tup ByteArray.empty (.slice none 0 0)) 27 (0, 0))) := h11
      have h12' : Hid (W1.heap[w.heap.size + 2]? = some (.cells (tup p (.slice none 0 0)) 27 (0, 0))) := h12
      clear hW0' hW1' hWB' hWs h10 h11 h12
      go_wp2_with fail
      go_loopw [7] (fun u wr => ∃ (i : Nat) (out : List V2) (vo : Value), i ≤ n ∧ u = .int .i64 i ∧ out.length = i ∧ Hid (wr.ownsRow (w.heap.size + 3) 46 2 vo out.length (flat V2.c out)) ∧ Hid (fillOn b args [] = fillOn b (args.drop i) out) ∧ Hid (∃ kk : Nat, wr.heap[w.heap.size]? = some (.cells #[.int .u8 (kk : Int), .string p, .slice A1 n c1] 24 (0, 0))) ∧ Hid (wr.heap[w.heap.size + 1]? = some (.cells (tup ByteArray.empty (.slice none 0 0)) 27 (0, 0))) ∧ Hid (wr.heap[w.heap.size + 2]? = some (.cells (tup p vo) 27 (0, 0))) ∧ w.heap.size + 3 ≤ wr.heap.size ∧ Hid (Below w.heap.size w wr)) (fun u _ => n - (intOf u).toNat)
      case atStart => exact ⟨0, [], _, by omega, rfl, rfl, hown1, rfl, h10', h11', h12', by omega, h1B⟩
      case round =>
        clear hown1 h10' h11' h12' h1B h1s
        obtain ⟨i, out, vo, hi, rfl, hol, hown, hgo, h0, h1, h2, hHs, hB⟩ := hrel
        obtain ⟨kk, h0⟩ := h0.out
        have h0' : Hid (wr.heap[w.heap.size]? = some (.cells #[.int .u8 (kk : Int), .string p, .slice A1 n c1] 24 (0, 0))) := h0
        have c02 : wr.cell? ⟨w.heap.size, 2, none⟩ = some (.slice A1 n c1) := by rw [cell_of_row _ _ _ _ _ _ h0]; rfl
        clear h0
        by_cases hlt : i < n
        · have hil : i < args.length := by rw [← hna'.out]; exact hlt
          have hI : (i : Int) < (n : Int) := by omega
          obtain ⟨g, o, rfl, hnc, hg, hra⟩ := hy1'.out.elem i hil
          obtain ⟨e, hee⟩ : ∃ e, e = args.getD i default := ⟨_, rfl⟩
          have hstep := fillOn_step b args out i hil
          have hex : e.x.size ≤ 9223372036854775807 := by rw [hee]; exact hxsH.out _ (t3_in i hil)
          rw [← hee] at hstep hra
          have hstep' : Hid (fillOn b (args.drop i) out = if (look b e).2 then fillOn b (args.drop (i + 1)) (out ++ [(look b e).1]) else none) := hstep
          clear hstep hee hil
          have hraw := range_below hra hB.out hg
          have hBs := Below.size hB.out
          have hy2w := hy2'.out.below hB.out
          have hyw : Hid (Rw 3 T3.c wr (.slice A2 q c2) b) := hy2w
          clear hy2w
          go_upto_region 7 with fail
          refine wp_region_lit ?_
          refine sl_run rfl (.slice A2 q c2) wr (by kernel_rfl) ?_
          refine sl_run rfl (.pointer (some ⟨w.heap.size, 2, none⟩)) wr (by kernel_rfl) ?_
          refine sl_run rfl (.slice (some ⟨g, o, none⟩) n c1) wr (exec_load_cell 22 wr _ rfl ⟨w.heap.size, 2, none⟩ (by kernel_rfl) _ c02 (fun _ => by kernel_rfl)) ?_
          refine sl_run rfl (.int .i64 i) wr (by kernel_rfl) ?_
          simp only [Act.put, List.setIfInBounds_toArray, List.set_cons_zero, List.set_cons_succ]
          refine sl_run rfl (.pointer (some ⟨g, o + i * 3, none⟩)) wr (exec_index un22 sz22 _ _ rfl g o n c1 i (by kernel_rfl) (by kernel_rfl) hlt wr) ?_
          simp only [Act.put, List.setIfInBounds_toArray, List.set_cons_zero, List.set_cons_succ]
          refine sl_run rfl (.agg e.c) wr (exec_load_mid 48 wr _ rfl g (o + i * 3) (by kernel_rfl) e.c.toList _ hraw Try.underlying48 rfl (by kernel_rfl)) ?_
          obtain ⟨lv, hlv⟩ : ∃ lv, lv = (look b e).1 := ⟨_, rfl⟩
          obtain ⟨lb, hlb⟩ : ∃ lb, lb = (look b e).2 := ⟨_, rfl⟩
          refine sl_call rfl 24 #[.slice A2 q c2, .agg e.c] (by kernel_rfl) (R := fun v w' => v = .tuple #[.agg lv.c, .bool lb] ∧ Below wr.heap.size wr w') ((rvalue_calls b e A2 q c2 wr hqb'.out (by omega) hex hyw.out).mono fun e w' h => ⟨_, h.1, by rw [hlv, hlb], h.2⟩) ?_
          rintro _ w4 ⟨rfl, hB4⟩
          simp only [Act.put, List.setIfInBounds_toArray, List.set_cons_zero, List.set_cons_succ]
          refine sl_run rfl (.tuple #[.agg lv.c, .bool lb]) w4 (by kernel_rfl) ?_
          refine sl_run rfl (.agg lv.c) w4 (by kernel_rfl) ?_
          refine sl_run rfl (.bool lb) w4 (by kernel_rfl) ?_
          simp only [Act.put, List.setIfInBounds_toArray, List.set_cons_zero, List.set_cons_succ]
          refine sl_run rfl (.pointer (some ⟨w4.heap.size, 0, none⟩)) (w4.alloc (.cells (default : V2).c 46)) (by kernel_rfl) ?_
          refine wpList_store_row rfl 46 _ _ rfl w4.heap.size lv.c (by kernel_rfl) (by kernel_rfl) 46 _ (heap_alloc_new _ _) (by kernel_rfl) (by kernel_rfl) (v2_one _) ?_
          rw [World.setRow_alloc_new]
          refine sl_run rfl (.bool lb) (w4.alloc (.cells lv.c 46)) (by kernel_rfl) ?_
          refine wpList_nil ?_
          simp only [Act.put, List.setIfInBounds_toArray, List.set_cons_zero, List.set_cons_succ]
          obtain ⟨f, hf⟩ : ∃ f, f = w4.heap.size := ⟨_, rfl⟩
          have hs4 := hB4.size
          have hf5 : (w4.alloc (.cells lv.c 46)).heap[w4.heap.size]? = some (.cells lv.c 46 (0, 0)) := heap_alloc_new _ _
          have hB5 : Below wr.heap.size wr (w4.alloc (.cells lv.c 46)) := hB4.alloc hs4 _
          have hs5 : (w4.alloc (.cells lv.c 46)).heap.size = w4.heap.size + 1 := by simp
          rw [← hf] at hf5 hs5 hs4 ⊢
          generalize w4.alloc _ = w5 at hf5 hB5 hs5
          have hown5 : Hid (w5.ownsRow (w.heap.size + 3) 46 2 vo out.length (flat V2.c out)) := own_keep hown.out (fun q hq => hB5.block q (hown.out.lt q hq).2)
          have h05 : Hid (w5.heap[w.heap.size]? = some (.cells #[.int .u8 (kk : Int), .string p, .slice (some ⟨g, o, none⟩) n c1] 24 (0, 0))) := (hB5.block _ (by omega)).trans h0'.out
          have h15 : Hid (w5.heap[w.heap.size + 1]? = some (.cells (tup ByteArray.empty (.slice none 0 0)) 27 (0, 0))) := (hB5.block _ (by omega)).trans h1.out
          have h25 : Hid (w5.heap[w.heap.size + 2]? = some (.cells (tup p vo) 27 (0, 0))) := (hB5.block _ (by omega)).trans h2.out
          have hB05 : Hid (Below w.heap.size w w5) := hB.out.trans (hB5.mono (by omega))
          have hf5' : Hid (w5.heap[f]? = some (.cells lv.c 46 (0, 0))) := hf5
          have hlvb : Hid (fillOn b (args.drop i) out = if lb then fillOn b (args.drop (i + 1)) (out ++ [lv]) else none) := by rw [hlv, hlb]; exact hstep'
          clear hown h0' h1 h2 hB hB4 hB5 c02 hraw hf hf5 hyw hstep' hlv hlb
          cases lb with
          | true =>
            have hgo2 : Hid (fillOn b args [] = fillOn b (args.drop (i + 1)) (out ++ [lv])) := by show _ = _; rw [hgo.out, hlvb.out]; rfl
            clear hgo hlvb
            go_upto_region 10 with fail
            obtain ⟨Ao, co, rfl⟩ := own_form hown5.out
            refine wp_region_lit ?_
            refine sl_run rfl (.pointer (some ⟨w.heap.size + 2, 1, none⟩)) w5 (by kernel_rfl) ?_
            refine sl_run rfl (.slice Ao out.length co) w5 (exec_load_cell 25 w5 _ rfl ⟨w.heap.size + 2, 1, none⟩ (by kernel_rfl) _ (by rw [cell_of_row _ _ _ _ _ _ h25.out]; rfl) (fun _ => by kernel_rfl)) ?_
            refine sl_run rfl (.agg lv.c) w5 (exec_load_row 46 w5 _ rfl f (by kernel_rfl) 46 _ (0, 0) _ hf5'.out Try.underlying46 rfl (by kernel_rfl)) ?_
            simp only [Act.put, List.setIfInBounds_toArray, List.set_cons_zero, List.set_cons_succ]
            refine sl_run rfl (.slice (some ⟨w5.heap.size, 0, none⟩) 1 1) (w5.alloc (.cells lv.c 46)) (by kernel_rfl) ?_
            simp only [Act.put, List.setIfInBounds_toArray, List.set_cons_zero, List.set_cons_succ]
            have hown6 := hown5.out.alloc (.cells lv.c 46)
            have hB6 : Below w5.heap.size w5 (w5.alloc (.cells lv.c 46)) := (Below.refl _ _).alloc (Nat.le_refl _) _
            have hrw6 : Rw 2 V2.c (w5.alloc (.cells lv.c 46)) (.slice (some ⟨w5.heap.size, 0, none⟩) 1 1) [lv] := rw_one lv (heap_alloc_new _ _)
            generalize w5.alloc _ = w6 at hown6 hB6 hrw6
            have hs6 := hB6.size
            refine appendRw 25 46 24 i46 z2 Try.underlying25 hi46 hz0 hz1 hz2 rfl (by decide) v2_size v2_ones rfl _ _ rfl (w.heap.size + 3) (.slice Ao out.length co) out [lv] (by kernel_rfl) hown6 (.slice (some ⟨w5.heap.size, 0, none⟩) 1 1) (by kernel_rfl) hrw6 (by simp; omega) (by simp; omega) (by omega) ?_
            intro v7 w7 hown7 hgr7
            have hB7 : Below (w.heap.size + 3) w5 w7 := Below.grown (hB6.mono (by omega)) hgr7 (by omega) (fun q hq => (hown6.lt q hq).1)
            simp only [Act.put, List.setIfInBounds_toArray, List.set_cons_zero, List.set_cons_succ]
            obtain ⟨A7, c7, rfl⟩ := own_form hown7
            have h07 : w7.heap[w.heap.size]? = some (.cells #[.int .u8 (kk : Int), .string p, .slice (some ⟨g, o, none⟩) n c1] 24 (0, 0)) := (hB7.block _ (by omega)).trans h05.out
            have h17 : w7.heap[w.heap.size + 1]? = some (.cells (tup ByteArray.empty (.slice none 0 0)) 27 (0, 0)) := (hB7.block _ (by omega)).trans h15.out
            have h27 : w7.heap[w.heap.size + 2]? = some (.cells (tup p (.slice Ao out.length co)) 27 (0, 0)) := (hB7.block _ (by omega)).trans h25.out
            have hs7 := hB7.size
            refine sl_run rfl (.pointer (some ⟨w.heap.size + 2, 1, none⟩)) w7 (by kernel_rfl) ?_
            simp only [Act.put, List.setIfInBounds_toArray, List.set_cons_zero, List.set_cons_succ]
            refine wpList_store_cell rfl 25 _ _ rfl (w.heap.size + 2) 1 (by kernel_rfl) (.slice A7 (out ++ [lv]).length c7) (by kernel_rfl) (.slice Ao out.length co) (by rw [cell_of_row _ _ _ _ _ _ h27]; rfl) (frozen_of_row _ _ _ _ _ h27) (fun _ => by kernel_rfl) rfl rfl ?_
            refine wpList_nil ?_
            simp only [Act.put, List.setIfInBounds_toArray, List.set_cons_zero, List.set_cons_succ]
            have hown8 : Hid ((w7.setCell ⟨w.heap.size + 2, 1, none⟩ (.slice A7 (out ++ [lv]).length c7)).ownsRow (w.heap.size + 3) 46 2 (.slice A7 (out ++ [lv]).length c7) (out ++ [lv]).length (flat V2.c (out ++ [lv]))) := ownsRow_setCell_below hown7 (by show w.heap.size + 2 < _; omega) _
            have h08 : Hid (∃ kk : Nat, (w7.setCell ⟨w.heap.size + 2, 1, none⟩ (.slice A7 (out ++ [lv]).length c7)).heap[w.heap.size]? = some (.cells #[.int .u8 (kk : Int), .string p, .slice (some ⟨g, o, none⟩) n c1] 24 (0, 0))) := ⟨kk, (heap_setCell_other _ _ _ _ (by show _ ≠ w.heap.size + 2; omega)).trans h07⟩
            have h18 : Hid ((w7.setCell ⟨w.heap.size + 2, 1, none⟩ (.slice A7 (out ++ [lv]).length c7)).heap[w.heap.size + 1]? = some (.cells (tup ByteArray.empty (.slice none 0 0)) 27 (0, 0))) := (heap_setCell_other _ _ _ _ (by show _ ≠ w.heap.size + 2; omega)).trans h17
            have h28 : Hid ((w7.setCell ⟨w.heap.size + 2, 1, none⟩ (.slice A7 (out ++ [lv]).length c7)).heap[w.heap.size + 2]? = some (.cells (tup p (.slice A7 (out ++ [lv]).length c7)) 27 (0, 0))) := heap_setCell_same _ _ _ _ _ _ h27
            have hB8 : Hid (Below w.heap.size w (w7.setCell ⟨w.heap.size + 2, 1, none⟩ (.slice A7 (out ++ [lv]).length c7))) := (hB05.out.trans (hB7.mono (by omega))).setCell (by show _ ≤ w.heap.size + 2; omega) _
            have hs8 : w.heap.size + 3 ≤ (w7.setCell ⟨w.heap.size + 2, 1, none⟩ (.slice A7 (out ++ [lv]).length c7)).heap.size := by simp [World.setCell]; omega
            generalize World.setCell _ _ _ = w8 at hown8 h08 h18 h28 hB8 hs8
            have hol8 : (out ++ [lv]).length = i + 1 := by simp [hol]
            generalize out ++ [lv] = out8 at hown8 h28 hgo2 hol8 ⊢
            clear hown5 h05 h15 h25 hB05 hf5' hown6 hB6 hrw6 hown7 hgr7 hB7 h07 h17 h27
            rename_i hK
            refine hK _ _ ?_
            go_wp2_with fail
            go_roundw
            case rel => exact ⟨i + 1, out8, _, by omega, by go_num, hol8, hown8, hgo2, h08, h18, h28, hs8, hB8⟩
            case measure => simp [intOf]; omega
          | false =>
            have hgo2 : Hid (r = none) := by show _ = _; rw [hrr.out, hgo.out, hlvb.out]; rfl
            clear hgo hlvb
            go_upto_region 9 with fail
            refine wp_region_lit ?_
            refine sl_run rfl (.agg (tup ByteArray.empty (.slice none 0 0))) w5 (by kernel_rfl) ?_
            refine wpList_store_row rfl 27 _ _ rfl (w.heap.size + 1) (tup ByteArray.empty (.slice none 0 0)) (by kernel_rfl) (by kernel_rfl) 27 _ h15.out (by kernel_rfl) (by kernel_rfl) (tup_one _ _ _ _) ?_
            refine sl_run rfl (.bool false) (w5.setRow (w.heap.size + 1) (tup ByteArray.empty (.slice none 0 0))) (by kernel_rfl) ?_
            refine wpList_nil ?_
            simp only [Act.put, List.setIfInBounds_toArray, List.set_cons_zero, List.set_cons_succ]
            have hz := setRow_heap _ _ _ (tup ByteArray.empty (.slice none 0 0)) _ _ h15.out
            have hzB : Below w.heap.size w (w5.setRow (w.heap.size + 1) (tup ByteArray.empty (.slice none 0 0))) := below_setRow hB05.out (by omega) _
            generalize World.setRow _ _ _ = V at hz hzB
            rename_i hK
            refine hK _ _ (wp_ret ?_)
            change bodyPost Try.prog Try.f14 (fun e w' => ∃ v, e = .returned (.tuple #[.agg #[.string (if r.isSome then p else ByteArray.empty), v], .bool r.isSome]) ∧ Rw 2 V2.c w' v (r.getD []) ∧ Below w.heap.size w w') .ret _ _
            refine bodyPost_ret (results_cell_tmp (fn := Try.f14) rfl _ _ (w.heap.size + 1) 27 (tup ByteArray.empty (.slice none 0 0)) (0, 0) _ (.bool false) (by kernel_rfl) (by kernel_rfl) hz Try.underlying27 rfl (by kernel_rfl)) (by kernel_rfl) ?_
            exact ⟨_, by rw [hgo2.out]; rfl, by rw [hgo2.out]; exact Rw.nil, hzB⟩
        · have hI : ¬ (i : Int) < (n : Int) := by omega
          have hgo2 : Hid (r = some out) := by show _ = _; rw [hrr.out, hgo.out, fillOn_end b args out i (by have := hna'.out; omega)]
          have hrw : Hid (Rw 2 V2.c wr vo out) := Rw.own v2_size (by decide) hown.out
          obtain ⟨Ao, co, rfl⟩ := own_form hown.out
          go_upto_region 11 with fail
          refine wp_region_lit ?_
          refine sl_run rfl (.agg (tup p (.slice Ao out.length co))) wr (exec_load_row 27 wr _ rfl (w.heap.size + 2) (by kernel_rfl) 27 _ (0, 0) _ h2.out Try.underlying27 rfl (by kernel_rfl)) ?_
          refine wpList_store_row rfl 27 _ _ rfl (w.heap.size + 1) (tup p (.slice Ao out.length co)) (by kernel_rfl) (by kernel_rfl) 27 _ h1.out (by kernel_rfl) (by kernel_rfl) (tup_one _ _ _ _) ?_
          refine sl_run rfl (.bool true) (wr.setRow (w.heap.size + 1) (tup p (.slice Ao out.length co))) (by kernel_rfl) ?_
          refine wpList_nil ?_
          simp only [Act.put, List.setIfInBounds_toArray, List.set_cons_zero, List.set_cons_succ]
          have hz := setRow_heap _ _ _ (tup p (.slice Ao out.length co)) _ _ h1.out
          have hzB : Below w.heap.size w (wr.setRow (w.heap.size + 1) (tup p (.slice Ao out.length co))) := below_setRow hB.out (by omega) _
          have hrz : Rw 2 V2.c (wr.setRow (w.heap.size + 1) (tup p (.slice Ao out.length co))) (.slice Ao out.length co) out := hrw.out.kept (by simp) (fun _ q hq => by
            have := (hown.out.lt q hq).1
            simp only [World.setRow, Array.getElem?_modify]; rw [if_neg (by omega)])
          generalize World.setRow _ _ _ = V at hz hzB hrz
          rename_i hK
          refine hK _ _ (wp_ret ?_)
          change bodyPost Try.prog Try.f14 (fun e w' => ∃ v, e = .returned (.tuple #[.agg #[.string (if r.isSome then p else ByteArray.empty), v], .bool r.isSome]) ∧ Rw 2 V2.c w' v (r.getD []) ∧ Below w.heap.size w w') .ret _ _
          refine bodyPost_ret (results_cell_tmp (fn := Try.f14) rfl _ _ (w.heap.size + 1) 27 (tup p (.slice Ao out.length co)) (0, 0) _ (.bool true) (by kernel_rfl) (by kernel_rfl) hz Try.underlying27 rfl (by kernel_rfl)) (by kernel_rfl) ?_
          exact ⟨_, by rw [hgo2.out]; rfl, by rw [hgo2.out]; exact hrz, hzB⟩
  · have e1 : ((k : Int) == 1) = false := by rw [beq_eq_false_iff_ne]; omega
    have e2 : ((k : Int) == 2) = false := by rw [beq_eq_false_iff_ne]; omega
    have e3 : ((k : Int) != 1) = true := by simp only [bne, e1]; rfl
    have e4 : ((k : Int) != 2) = true := by simp only [bne, e2]; rfl
    have e5 : ¬ (k : Int) = 1 := by omega
    have e6 : ¬ (k : Int) = 2 := by omega
    have hrr : Hid (r = none) := by
      show _ = _
      rw [hr.out]; unfold fillS; rw [if_neg (fun h => hk h)]
    go_upto_region 2 with fail
    refine wp_region_lit ?_
    refine sl_run rfl (.agg (tup ByteArray.empty (.slice none 0 0))) W (by kernel_rfl) ?_
    refine wpList_store_row rfl 27 _ _ rfl (w.heap.size + 1) (tup ByteArray.empty (.slice none 0 0)) (by kernel_rfl) (by kernel_rfl) 27 _ hW1'.out (by kernel_rfl) (by kernel_rfl) (tup_one _ _ _ _) ?_
    refine sl_run rfl (.bool false) (W.setRow (w.heap.size + 1) (tup ByteArray.empty (.slice none 0 0))) (by kernel_rfl) ?_
    refine wpList_nil ?_
    simp only [Act.put, List.setIfInBounds_toArray, List.set_cons_zero, List.set_cons_succ]
    have hz := setRow_heap _ _ _ (tup ByteArray.empty (.slice none 0 0)) _ _ hW1'.out
    have hzB : Below w.heap.size w (W.setRow (w.heap.size + 1) (tup ByteArray.empty (.slice none 0 0))) := below_setRow hWB'.out (by omega) _
    generalize World.setRow _ _ _ = V at hz hzB
    rename_i hK
    refine hK _ _ (wp_ret ?_)
    change bodyPost Try.prog Try.f14 (fun e w' => ∃ v, e = .returned (.tuple #[.agg #[.string (if r.isSome then p else ByteArray.empty), v], .bool r.isSome]) ∧ Rw 2 V2.c w' v (r.getD []) ∧ Below w.heap.size w w') .ret _ _
    refine bodyPost_ret (results_cell_tmp (fn := Try.f14) rfl _ _ (w.heap.size + 1) 27 (tup ByteArray.empty (.slice none 0 0)) (0, 0) _ (.bool false) (by kernel_rfl) (by kernel_rfl) hz Try.underlying27 rfl (by kernel_rfl)) (by kernel_rfl) ?_
    exact ⟨_, by rw [hrr.out]; rfl, by rw [hrr.out]; exact Rw.nil, hzB⟩
end Go.Proofs.Ytehgblnhhlgikaa.Bi
