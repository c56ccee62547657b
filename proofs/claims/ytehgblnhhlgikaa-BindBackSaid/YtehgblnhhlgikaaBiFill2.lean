/-
  Bindings: the program's Fill.
-/
import Derived.Test.YtehgblnhhlgikaaBiFill
import Derived.Laws.MakeOwn
namespace Go.Proofs.Ytehgblnhhlgikaa.Bi
open Go.RowKit
set_option linter.unusedVariables false
set_option linter.unusedSimpArgs false
set_option pp.maxSteps 50000
section
variable {P : Program} {ops : Array Oper} {Q : Exit → Act → World → Prop} {md : Region.Mode} {S : World → Prop} {fuel : Nat} {listed : Array Bool} {a : Act} {w : World}
/-- Either of two may come up. -/
theorem held_two (i j : Nat) {oi oj : Oper} (hi : ops[i]? = some oi) (hj : ops[j]? = some oj) (hr : Region.ready md ops listed = [i, j]) (hwi : Region.wanted oi (yielded ops a.tmps) = true) (hwj : Region.wanted oj (yielded ops a.tmps) = true)
    (vi : Value) (wi : World) (hei : (execOp a.eval oi).run P w = .ok (.value vi) wi) (hSi : S wi) (vj : Value) (wj : World) (hej : (execOp a.eval oj).run P w = .ok (.value vj) wj) (hSj : S wj)
    (h1 : wpAnyH P md ops Q S fuel (listed.setIfInBounds i true) (a.put oi.dst vi) wi) (h2 : wpAnyH P md ops Q S fuel (listed.setIfInBounds j true) (a.put oj.dst vj) wj) : wpAnyH P md ops Q S (fuel + 1) listed a w :=
  wpAnyH_all hr (by simp) fun k hk => by
    rcases List.mem_cons.1 hk with rfl | hk
    · exact wpOp_step hi fun K' hK => by
        rw [if_pos hwi]
        unfold Oper.wp; rw [hei]; exact hK _ _ ⟨hSi, h1⟩
    · rw [List.mem_singleton.1 hk]
      exact wpOp_step hj fun K' hK => by
        rw [if_pos hwj]
        unfold Oper.wp; rw [hej]; exact hK _ _ ⟨hSj, h2⟩
/-- What a region leaves, whatever its order. -/
theorem wp_leaves {c : Code} {α : Type} (F : α → Act → Act) (R : α → World → Prop) (h1 : c.wp P (fun ex a' w' => ex = .normal ∧ ∃ d, a' = F d a ∧ R d w') a w) (h2 : ∀ d w', R d w' → Q .normal (F d a) w') : c.wp P Q a w :=
  Code.wp_mono (fun e a' w' h => by obtain ⟨rfl, d, rfl, hR⟩ := h; exact h2 d w' hR) h1
theorem exec_make {o : Oper} (t : TypeId) (x y : Operand) (ho : o.op = .makeSlice t x y) (e : TypeId) (i : TypeInfo) (z : Value) (ht : P.underlying t = some (.slice e)) (hi : P.info? e = some i) (hz : i.zero = some z) (n : Nat)
    (hx : a.eval x = .int .i64 0) (hy : a.eval y = .int .i64 (n : Int)) (hb : i.bytes * n ≤ 281474976710656) (h63 : n ≤ maxLen) : (execOp a.eval o).run P w = .ok (.value (.slice (some ⟨w.heap.size, 0, none⟩) 0 n)) (w.alloc (.cells (madeCells z.cells (n * i.size)) e)) := by
  have h1 : (n : Int) ≤ 9223372036854775807 := by unfold maxLen at h63; omega
  have h2 : (i.bytes : Int) * (n : Int) ≤ 281474976710656 := by
    have h : ((i.bytes * n : Nat) : Int) ≤ 281474976710656 := by omega
    rwa [Int.natCast_mul] at h
  have hr := run_make (P := P) w t e i z ht hi hz .i64 .i64 0 n (Int.le_refl _) (by omega) h2 h1
  unfold execOp
  simp only [ho, hx, hy, Sem.run_bind, hr, Result.andThen_ok, Sem.run_pure, Int.toNat_natCast]
  rfl
end
theorem own_kind {w : World} {base n k d : Nat} {e t : TypeId} {v : Value} {xs : List Value} {cs : Array Value} {fr : Nat × Nat} (h : w.ownsRow base e k v n xs) (hd : w.heap[d]? = some (.cells cs t fr)) (hne : e ≠ t) : some d ≠ v.ownBlock := by
  rcases h.2 with ⟨rfl, _⟩ | ⟨g', cap, cur, rfl, _, h2, _⟩
  · simp [Value.ownBlock]
  · intro q
    simp [Value.ownBlock] at q
    subst q
    rw [h2] at hd
    simp at hd
    exact hne hd.2.1
set_option maxRecDepth 100000 in
set_option maxHeartbeats 2000000 in
theorem fill_calls (k : Nat) (p : ByteArray) (args b : List T3) (A1 A2 : Option Addr) (n q c1 c2 : Nat) (hn : n = args.length) (hq : q = b.length) (hn9 : n ≤ 1000000) (hq9 : q ≤ 1000000) (w : World)
    (hy1 : Rw 3 T3.c w (.slice A1 n c1) args) (hy2 : Rw 3 T3.c w (.slice A2 q c2) b) :
    Calls Try.prog 13 #[.agg #[.int .u8 (k : Int), .string p, .slice A1 n c1], .slice A2 q c2] w fun e w' => ∃ v, e = .returned (.tuple #[.agg #[.string (if (fillS k args b).isSome then p else ByteArray.empty), v], .bool (fillS k args b).isSome]) ∧ Rw 2 V2.c w' v ((fillS k args b).getD []) ∧ Below w.heap.size w w' := by
  obtain ⟨r, hr0⟩ : ∃ r, r = fillS k args b := ⟨_, rfl⟩
  rw [← hr0]
  have hr : Hid (r = fillS k args b) := hr0
  have hna' : Hid (n = args.length) := hn
  have hqb' : Hid (q = b.length) := hq
  have hy1' : Hid (Rw 3 T3.c w (.slice A1 n c1) args) := hy1
  have hy2' : Hid (Rw 3 T3.c w (.slice A2 q c2) b) := hy2
  clear hr0 hn hq hy1 hy2
  obtain ⟨i46, hi46, hz0, hz1, hz2⟩ := info_parts inf46
  go_enter Try.func13, Try.ntmps13
  go_upto_region 1 with fail
  generalize hW : World.alloc _ _ = W
  have hW0 : W.heap[w.heap.size]? = some (.cells #[.int .u8 (k : Int), .string p, .slice A1 n c1] 24 (0, 0)) := by rw [← hW]; exact heap_alloc2_old w _ _
  have hW1 : W.heap[w.heap.size + 1]? = some (.cells (tup ByteArray.empty (.slice none 0 0)) 27 (0, 0)) := by rw [← hW]; exact heap_alloc2_new w _ _
  have hWB : Below w.heap.size w W := by rw [← hW]; exact ((Below.refl _ _).alloc (Nat.le_refl _) _).alloc (by simp) _
  have hWs : W.heap.size = w.heap.size + 2 := by rw [← hW]; simp
  clear hW
  refine wp_region_lit ?_
  refine sl_run rfl (.agg #[.int .u8 (k : Int), .string p, .slice A1 n c1]) W (exec_load_row 24 W _ rfl w.heap.size (by kernel_rfl) 24 _ (0, 0) _ hW0 Try.underlying24 rfl (by kernel_rfl)) ?_
  refine sl_call rfl 20 #[.agg #[.int .u8 (k : Int), .string p, .slice A1 n c1]] (by kernel_rfl) (R := fun v w' => v = .bool (decide (k = 1 ∨ k = 2)) ∧ Below W.heap.size W w') ((said_calls k p A1 n c1 W).mono fun e w' h => ⟨_, h.1, rfl, h.2⟩) ?_
  rintro _ w5 ⟨rfl, hB5⟩
  simp only [Act.put, List.setIfInBounds_toArray, List.set_cons_zero, List.set_cons_succ]
  have h50 : Hid (w5.heap[w.heap.size]? = some (.cells #[.int .u8 (k : Int), .string p, .slice A1 n c1] 24 (0, 0))) := (hB5.block _ (by omega)).trans hW0
  have h51 : Hid (w5.heap[w.heap.size + 1]? = some (.cells (tup ByteArray.empty (.slice none 0 0)) 27 (0, 0))) := (hB5.block _ (by omega)).trans hW1
  have hB6 : Hid (Below w.heap.size w w5) := hWB.trans (hB5.mono (by omega))
  have h5s : w.heap.size + 2 ≤ w5.heap.size := by have := hB5.size; omega
  clear hW0 hW1 hWB hWs hB5
  by_cases hk : k = 1 ∨ k = 2
  · have hkd : decide (k = 1 ∨ k = 2) = true := decide_eq_true hk
    rw [hkd]
    have hrr : Hid (r = fillOn b args []) := by
      show _ = _
      rw [hr.out]; unfold fillS; rw [if_pos hk]
    clear hk hkd
    obtain ⟨H, hHd⟩ : ∃ H, H = w5.heap.size := ⟨_, rfl⟩
    go_upto_region 3 with fail
    refine wp_leaves (α := Nat × Nat) (fun d a => (((((((a.put (some 15) (.pointer (some ⟨w.heap.size, 1, none⟩))).put (some 16) (.string p)).put (some 17) (.pointer (some ⟨w.heap.size, 2, none⟩))).put (some 18) (.slice A1 n c1)).put (some 19) (.int .i64 n)).put (some 20) (.slice (some ⟨d.1, 0, none⟩) 0 n)).put (some 21) (.agg (tup p (.slice (some ⟨d.1, 0, none⟩) 0 n)))).put (some 6) (.pointer (some ⟨d.2, 0, none⟩)))
      (fun d w' => w'.ownsRow H 46 2 (.slice (some ⟨d.1, 0, none⟩) 0 n) ([] : List V2).length (flat V2.c []) ∧ w'.heap[d.2]? = some (.cells (tup p (.slice (some ⟨d.1, 0, none⟩) 0 n)) 27 (0, 0)) ∧ H ≤ d.2 ∧ Below H w5 w') ?_ ?_
    · refine wp_region_held_drew (S := fun w' => Below H w5 w') (by kernel_rfl) (Below.refl _ _).drew (fun hS => ?_)
      change wpAnyH _ _ _ _ _ 9 (Array.replicate 9 false) _ _
      generalize hx : w5.drew = w7 at hS
      clear hx
      refine held_take 0 rfl (by kernel_rfl) (by kernel_rfl) (by kernel_rfl) (.pointer (some ⟨w.heap.size, 1, none⟩)) (fun _ _ _ h => nomatch h.1) (by kernel_rfl) (fun _ _ => by kernel_rfl) hS ?_
      simp only [Act.put, List.setIfInBounds_toArray, List.set_cons_zero, List.set_cons_succ, List.getElem_toArray, List.getElem_cons_succ, List.getElem_cons_zero]
      refine held_take 1 rfl (by kernel_rfl) (by kernel_rfl) (by kernel_rfl) (.string p) (fun _ _ _ h => nomatch h.1) (by kernel_rfl) (fun w' h => exec_load_cell 9 w' _ rfl ⟨w.heap.size, 1, none⟩ (by kernel_rfl) _ (by rw [h.cell (by show w.heap.size < _; omega), cell_of_row _ _ _ _ _ _ h50.out]; rfl) (fun _ => by kernel_rfl)) hS ?_
      simp only [Act.put, List.setIfInBounds_toArray, List.set_cons_zero, List.set_cons_succ, List.getElem_toArray, List.getElem_cons_succ, List.getElem_cons_zero]
      refine held_take 2 rfl (by kernel_rfl) (by kernel_rfl) (by kernel_rfl) (.pointer (some ⟨w.heap.size, 2, none⟩)) (fun _ _ _ h => nomatch h.1) (by kernel_rfl) (fun _ _ => by kernel_rfl) hS ?_
      simp only [Act.put, List.setIfInBounds_toArray, List.set_cons_zero, List.set_cons_succ, List.getElem_toArray, List.getElem_cons_succ, List.getElem_cons_zero]
      refine held_take 3 rfl (by kernel_rfl) (by kernel_rfl) (by kernel_rfl) (.slice A1 n c1) (fun _ _ _ h => nomatch h.1) (by kernel_rfl) (fun w' h => exec_load_cell 22 w' _ rfl ⟨w.heap.size, 2, none⟩ (by kernel_rfl) _ (by rw [h.cell (by show w.heap.size < _; omega), cell_of_row _ _ _ _ _ _ h50.out]; rfl) (fun _ => by kernel_rfl)) hS ?_
      simp only [Act.put, List.setIfInBounds_toArray, List.set_cons_zero, List.set_cons_succ, List.getElem_toArray, List.getElem_cons_succ, List.getElem_cons_zero]
      refine held_take 4 rfl (by kernel_rfl) (by kernel_rfl) (by kernel_rfl) (.int .i64 n) (fun _ _ _ h => nomatch h.1) (by kernel_rfl) (fun _ _ => by kernel_rfl) hS ?_
      simp only [Act.put, List.setIfInBounds_toArray, List.set_cons_zero, List.set_cons_succ, List.getElem_toArray, List.getElem_cons_succ, List.getElem_cons_zero]
      have hs7 : w5.heap.size ≤ w7.heap.size := hS.size
      have hmx : i46.bytes * n ≤ 281474976710656 := by rw [hz2]; omega
      have hcs : (madeCells z2.cells (n * i46.size)).size = n * 2 := by rw [size_madeCells, hz1]
      refine held_two 5 7 rfl rfl (by kernel_rfl) (by kernel_rfl) (by kernel_rfl) _ _ (exec_make 25 _ _ rfl 46 i46 z2 Try.underlying25 hi46 hz0 n (by kernel_rfl) (by kernel_rfl) hmx (by unfold maxLen; omega)) (hS.alloc (by omega) _) (.pointer (some ⟨w7.heap.size, 0, none⟩)) (w7.alloc (.cells (tup ByteArray.empty (.slice none 0 0)) 27)) (by kernel_rfl) (hS.alloc (by omega) _) ?_ ?_
      · simp only [Act.put, List.setIfInBounds_toArray, List.set_cons_zero, List.set_cons_succ, List.getElem_toArray, List.getElem_cons_succ, List.getElem_cons_zero]
        have hown8 : (w7.alloc (.cells (madeCells z2.cells (n * i46.size)) 46)).ownsRow H 46 2 (.slice (some ⟨w7.heap.size, 0, none⟩) 0 n) ([] : List V2).length (flat V2.c []) := World.ownsRow_made _ _ n (by omega) (by unfold maxLen; omega) hcs
        have hS8 : Below H w5 (w7.alloc (.cells (madeCells z2.cells (n * i46.size)) 46)) := hS.alloc (by omega) _
        generalize w7.alloc _ = w8 at hown8 hS8
        generalize w7.heap.size = g at hown8
        have hs8 := hS8.size
        refine held_take 6 rfl (by kernel_rfl) (by kernel_rfl) (by kernel_rfl) (.agg (tup p (.slice (some ⟨g, 0, none⟩) 0 n))) (fun _ _ _ h => nomatch h.1) (by kernel_rfl) (fun _ _ => by kernel_rfl) hS8 ?_
        simp only [Act.put, List.setIfInBounds_toArray, List.set_cons_zero, List.set_cons_succ, List.getElem_toArray, List.getElem_cons_succ, List.getElem_cons_zero]
        refine held_new 7 rfl (by kernel_rfl) (by kernel_rfl) (.pointer (some ⟨w8.heap.size, 0, none⟩)) (w8.alloc (.cells (tup ByteArray.empty (.slice none 0 0)) 27)) (by kernel_rfl) (fun w' => Below H w5 w' ∧ w'.ownsRow H 46 2 (.slice (some ⟨g, 0, none⟩) 0 n) ([] : List V2).length (flat V2.c []) ∧ w'.heap[w8.heap.size]? = some (.cells (tup ByteArray.empty (.slice none 0 0)) 27 (0, 0))) ⟨hS8.alloc (by omega) _, hown8.alloc _, heap_alloc_new _ _⟩ ?_
        rintro w9 ⟨hS9, hown9, hd9⟩
        refine ⟨hS9, ?_⟩
        simp only [Act.put, List.setIfInBounds_toArray, List.set_cons_zero, List.set_cons_succ, List.getElem_toArray, List.getElem_cons_succ, List.getElem_cons_zero]
        have hd8 : H ≤ w8.heap.size := by omega
        generalize w8.heap.size = d at hd9 hd8 ⊢
        refine held_one 8 rfl (by kernel_rfl) (by kernel_rfl) (fun K hK => ?_)
        refine wp_store_row 27 _ _ rfl d (tup p (.slice (some ⟨g, 0, none⟩) 0 n)) (by kernel_rfl) (by kernel_rfl) 27 _ hd9 (by kernel_rfl) (by kernel_rfl) (tup_one _ _ _ _) ?_
        refine hK _ _ (below_setRow hS9 hd8 _) ?_
        simp only [Act.put, List.setIfInBounds_toArray, List.set_cons_zero, List.set_cons_succ, List.getElem_toArray, List.getElem_cons_succ, List.getElem_cons_zero]
        refine wpAnyH_done (by kernel_rfl) ?_ _
        refine ⟨rfl, (g, d), by kernel_rfl, own_keep hown9 (fun q hq => ?_), setRow_heap _ _ _ _ _ _ hd9, hd8, below_setRow hS9 hd8 _⟩
        have hne := own_kind hown9 hd9 (by decide)
        simp only [World.setRow, Array.getElem?_modify]; rw [if_neg (fun h => hne (by rw [h, hq]))]
      · simp only [Act.put, List.setIfInBounds_toArray, List.set_cons_zero, List.set_cons_succ, List.getElem_toArray, List.getElem_cons_succ, List.getElem_cons_zero]
        have hd8 : (w7.alloc (.cells (tup ByteArray.empty (.slice none 0 0)) 27)).heap[w7.heap.size]? = some (.cells (tup ByteArray.empty (.slice none 0 0)) 27 (0, 0)) := heap_alloc_new _ _
        have hS8 : Below H w5 (w7.alloc (.cells (tup ByteArray.empty (.slice none 0 0)) 27)) := hS.alloc (by omega) _
        have hHd7 : H ≤ w7.heap.size := by omega
        generalize w7.alloc _ = w8 at hd8 hS8
        generalize w7.heap.size = d at hd8 hHd7
        have hs8 := hS8.size
        have hdl : d < w8.heap.size := (Array.getElem?_eq_some_iff.1 hd8).1
        refine held_new 5 rfl (by kernel_rfl) (by kernel_rfl) (.slice (some ⟨w8.heap.size, 0, none⟩) 0 n) _ (exec_make 25 _ _ rfl 46 i46 z2 Try.underlying25 hi46 hz0 n (by kernel_rfl) (by kernel_rfl) hmx (by unfold maxLen; omega)) (fun w' => Below H w5 w' ∧ w'.ownsRow H 46 2 (.slice (some ⟨w8.heap.size, 0, none⟩) 0 n) ([] : List V2).length (flat V2.c []) ∧ w'.heap[d]? = some (.cells (tup ByteArray.empty (.slice none 0 0)) 27 (0, 0))) ⟨hS8.alloc (by omega) _, World.ownsRow_made _ _ n (by omega) (by unfold maxLen; omega) hcs, (heap_alloc_old _ _ hdl).trans hd8⟩ ?_
        rintro w9 ⟨hS9, hown9, hd9⟩
        refine ⟨hS9, ?_⟩
        simp only [Act.put, List.setIfInBounds_toArray, List.set_cons_zero, List.set_cons_succ, List.getElem_toArray, List.getElem_cons_succ, List.getElem_cons_zero]
        generalize w8.heap.size = g at hown9 ⊢
        refine held_take 6 rfl (by kernel_rfl) (by kernel_rfl) (by kernel_rfl) (.agg (tup p (.slice (some ⟨g, 0, none⟩) 0 n))) (fun _ _ _ h => nomatch h.1) (by kernel_rfl) (fun _ _ => by kernel_rfl) hS9 ?_
        simp only [Act.put, List.setIfInBounds_toArray, List.set_cons_zero, List.set_cons_succ, List.getElem_toArray, List.getElem_cons_succ, List.getElem_cons_zero]
        refine held_one 8 rfl (by kernel_rfl) (by kernel_rfl) (fun K hK => ?_)
        refine wp_store_row 27 _ _ rfl d (tup p (.slice (some ⟨g, 0, none⟩) 0 n)) (by kernel_rfl) (by kernel_rfl) 27 _ hd9 (by kernel_rfl) (by kernel_rfl) (tup_one _ _ _ _) ?_
        refine hK _ _ (below_setRow hS9 hHd7 _) ?_
        simp only [Act.put, List.setIfInBounds_toArray, List.set_cons_zero, List.set_cons_succ, List.getElem_toArray, List.getElem_cons_succ, List.getElem_cons_zero]
        refine wpAnyH_done (by kernel_rfl) ?_ _
        refine ⟨rfl, (g, d), by kernel_rfl, own_keep hown9 (fun q hq => ?_), setRow_heap _ _ _ _ _ _ hd9, hHd7, below_setRow hS9 hHd7 _⟩
        have hne := own_kind hown9 hd9 (by decide)
        simp only [World.setRow, Array.getElem?_modify]; rw [if_neg (fun h => hne (by rw [h, hq]))]
    · rintro ⟨g0, d⟩ W1 ⟨hown1, hd1, hHd1, hB1⟩
      rename_i hK
      refine hK _ _ ?_
      simp only [Act.put, List.setIfInBounds_toArray, List.set_cons_zero, List.set_cons_succ]
      have c02 : W1.cell? ⟨w.heap.size, 2, none⟩ = some (.slice A1 n c1) := by rw [hB1.cell (by show w.heap.size < _; omega), cell_of_row _ _ _ _ _ _ h50.out]; rfl
      have h11' : Hid (W1.heap[w.heap.size + 1]? = some (.cells (tup ByteArray.empty (.slice none 0 0)) 27 (0, 0))) := (hB1.block _ (by omega)).trans h51.out
      have hown1' : Hid (W1.ownsRow H 46 2 (.slice (some ⟨g0, 0, none⟩) 0 n) ([] : List V2).length (flat V2.c [])) := hown1
      have hd1' : Hid (W1.heap[d]? = some (.cells (tup p (.slice (some ⟨g0, 0, none⟩) 0 n)) 27 (0, 0))) := hd1
      have h1B : Hid (Below w.heap.size w W1) := hB6.out.trans (hB1.mono (by omega))
      have hHw : w.heap.size + 2 ≤ H := by omega
      have h1s : H ≤ W1.heap.size := by have := hB1.size; omega
      have hHd1' : Hid (H ≤ d) := hHd1
      clear h50 h51 hB6 h5s hHd hown1 hd1 hB1 hHd1
      go_wp2_with fail
      go_loopw [25] (fun u wr => ∃ (i : Nat) (out : List V2) (vo : Value), i ≤ n ∧ u = .int .i64 i ∧ out.length = i ∧ Hid (wr.ownsRow H 46 2 vo out.length (flat V2.c out)) ∧ Hid (fillOn b args [] = fillOn b (args.drop i) out) ∧ Hid (wr.heap[w.heap.size + 1]? = some (.cells (tup ByteArray.empty (.slice none 0 0)) 27 (0, 0))) ∧ Hid (wr.heap[d]? = some (.cells (tup p vo) 27 (0, 0))) ∧ H ≤ wr.heap.size ∧ Hid (Below w.heap.size w wr)) (fun u _ => n - (intOf u).toNat)
      case atStart => exact ⟨0, [], _, by omega, rfl, rfl, hown1', rfl, h11', hd1', h1s, h1B⟩
      case round =>
        clear hown1' h11' hd1' h1B h1s c02
        obtain ⟨i, out, vo, hi, rfl, hol, hown, hgo, h1, h2, hHs, hB⟩ := hrel
        by_cases hlt : i < n
        · have hil : i < args.length := by rw [← hna'.out]; exact hlt
          have hI : (i : Int) < (n : Int) := by omega
          obtain ⟨g, o, rfl, hnc, hg, hra⟩ := hy1'.out.elem i hil
          obtain ⟨e, hee⟩ : ∃ e, e = args.getD i default := ⟨_, rfl⟩
          have hstep := fillOn_step b args out i hil
          rw [← hee] at hstep hra
          have hstep' : Hid (fillOn b (args.drop i) out = if (look b e).2 then fillOn b (args.drop (i + 1)) (out ++ [(look b e).1]) else none) := hstep
          clear hstep hee hil
          have hraw := range_below hra hB.out hg
          have hBs := Below.size hB.out
          go_upto_region 6 with fail
          refine wp_region_lit ?_
          refine sl_run rfl (.pointer (some ⟨g, o + i * 3, none⟩)) wr (exec_index un22 sz22 _ _ rfl g o n c1 i (by kernel_rfl) (by kernel_rfl) hlt wr) ?_
          simp only [Act.put, List.setIfInBounds_toArray, List.set_cons_zero, List.set_cons_succ]
          refine sl_run rfl (.agg e.c) wr (exec_load_mid 48 wr _ rfl g (o + i * 3) (by kernel_rfl) e.c.toList _ hraw Try.underlying48 rfl (by kernel_rfl)) ?_
          refine sl_run rfl (.pointer (some ⟨wr.heap.size, 0, none⟩)) (wr.alloc (.cells (default : T3).c 48)) (by kernel_rfl) ?_
          simp only [Act.put, List.setIfInBounds_toArray, List.set_cons_zero, List.set_cons_succ]
          refine wpList_store_row rfl 48 _ _ rfl wr.heap.size e.c (by kernel_rfl) (by kernel_rfl) 48 _ (heap_alloc_new _ _) (by kernel_rfl) (by kernel_rfl) (all_oneCell_toArray (t3_ones e)) ?_
          rw [World.setRow_alloc_new]
          refine wpList_nil ?_
          simp only [Act.put, List.setIfInBounds_toArray, List.set_cons_zero, List.set_cons_succ]
          have hd3 : (wr.alloc (.cells e.c 48)).heap[wr.heap.size]? = some (.cells e.c 48 (0, 0)) := heap_alloc_new _ _
          have hB3 : Below wr.heap.size wr (wr.alloc (.cells e.c 48)) := (Below.refl _ _).alloc (Nat.le_refl _) _
          have hs3 : (wr.alloc (.cells e.c 48)).heap.size = wr.heap.size + 1 := by simp
          obtain ⟨d3, hd3d⟩ : ∃ d, d = wr.heap.size := ⟨_, rfl⟩
          rw [← hd3d] at hd3 ⊢
          generalize wr.alloc _ = w3 at hd3 hB3 hs3
          have hyw : Hid (Rw 3 T3.c w3 (.slice A2 q c2) b) := hy2'.out.below (hB.out.trans (hB3.mono (by omega)))
          have hd3' : Hid (w3.heap[d3]? = some (.cells e.c 48 (0, 0))) := hd3
          clear hd3 hraw
          go_upto_region 7 with fail
          refine wp_region_lit ?_
          refine sl_run rfl (.slice A2 q c2) w3 (by kernel_rfl) ?_
          refine sl_run rfl (.agg e.c) w3 (exec_load_row 48 w3 _ rfl d3 (by kernel_rfl) 48 _ (0, 0) _ hd3'.out Try.underlying48 rfl (by kernel_rfl)) ?_
          simp only [Act.put, List.setIfInBounds_toArray, List.set_cons_zero, List.set_cons_succ]
          obtain ⟨lv, hlv⟩ : ∃ lv, lv = (look b e).1 := ⟨_, rfl⟩
          obtain ⟨lb, hlb⟩ : ∃ lb, lb = (look b e).2 := ⟨_, rfl⟩
          refine sl_call rfl 22 #[.slice A2 q c2, .agg e.c] (by kernel_rfl) (R := fun v w' => v = .tuple #[.agg lv.c, .bool lb] ∧ Below w3.heap.size w3 w') ((look_calls b e A2 q c2 w3 hqb'.out (by omega) hyw.out).mono fun e w' h => ⟨_, h.1, by rw [hlv, hlb], h.2⟩) ?_
          rintro _ w4 ⟨rfl, hB4⟩
          simp only [Act.put, List.setIfInBounds_toArray, List.set_cons_zero, List.set_cons_succ]
          refine sl_run rfl (.tuple #[.agg lv.c, .bool lb]) w4 (by kernel_rfl) ?_
          refine sl_run rfl (.agg lv.c) w4 (by kernel_rfl) ?_
          refine sl_run rfl (.bool lb) w4 (by kernel_rfl) ?_
          simp only [Act.put, List.setIfInBounds_toArray, List.set_cons_zero, List.set_cons_succ]
          refine sl_run rfl (.pointer (some ⟨w4.heap.size, 0, none⟩)) (w4.alloc (.cells (default : V2).c 46)) (by kernel_rfl) ?_
          refine wpList_store_row rfl 46 _ _ rfl w4.heap.size lv.c (by kernel_rfl) (by kernel_rfl) 46 _ (heap_alloc_new _ _) (by kernel_rfl) (by kernel_rfl) (v2_one _) ?_
          rw [World.setRow_alloc_new]
          refine sl_run rfl (.bool lb) (w4.alloc (.cells lv.c 46)) (by kernel_rfl) ?_
          refine wpList_nil ?_
          simp only [Act.put, List.setIfInBounds_toArray, List.set_cons_zero, List.set_cons_succ]
          obtain ⟨f, hf⟩ : ∃ f, f = w4.heap.size := ⟨_, rfl⟩
          have hs4 := hB4.size
          have hf5 : (w4.alloc (.cells lv.c 46)).heap[w4.heap.size]? = some (.cells lv.c 46 (0, 0)) := heap_alloc_new _ _
          have hB5 : Below wr.heap.size wr (w4.alloc (.cells lv.c 46)) := (hB3.trans (hB4.mono (by omega))).alloc (by omega) _
          have hs5 : (w4.alloc (.cells lv.c 46)).heap.size = w4.heap.size + 1 := by simp
          rw [← hf] at hf5 hs5 hs4 ⊢
          generalize w4.alloc _ = w5 at hf5 hB5 hs5
          have hdl : d < wr.heap.size := (Array.getElem?_eq_some_iff.1 h2.out).1
          have hown5 : Hid (w5.ownsRow H 46 2 vo out.length (flat V2.c out)) := own_keep hown.out (fun q hq => hB5.block q (hown.out.lt q hq).2)
          have h15 : Hid (w5.heap[w.heap.size + 1]? = some (.cells (tup ByteArray.empty (.slice none 0 0)) 27 (0, 0))) := (hB5.block _ (by omega)).trans h1.out
          have h25 : Hid (w5.heap[d]? = some (.cells (tup p vo) 27 (0, 0))) := (hB5.block _ (by omega)).trans h2.out
          have hB05 : Hid (Below w.heap.size w w5) := hB.out.trans (hB5.mono (by omega))
          have hf5' : Hid (w5.heap[f]? = some (.cells lv.c 46 (0, 0))) := hf5
          have hlvb : Hid (fillOn b (args.drop i) out = if lb then fillOn b (args.drop (i + 1)) (out ++ [lv]) else none) := by rw [hlv, hlb]; exact hstep'
          have hHs5 : H ≤ w5.heap.size := by omega
          have hd5 : d < w5.heap.size := by omega
          clear hown h1 h2 hB hB4 hB5 hB3 hd3' hf hf5 hyw hstep' hlv hlb hd3d hs3 hs4 hs5 hBs hdl hHs
          cases lb with
          | true =>
            have hgo2 : Hid (fillOn b args [] = fillOn b (args.drop (i + 1)) (out ++ [lv])) := by show _ = _; rw [hgo.out, hlvb.out]; rfl
            clear hgo hlvb
            go_upto_region 10 with fail
            obtain ⟨Ao, co, rfl⟩ := own_form hown5.out
            refine wp_region_lit ?_
            refine sl_run rfl (.pointer (some ⟨d, 1, none⟩)) w5 (by kernel_rfl) ?_
            refine sl_run rfl (.slice Ao out.length co) w5 (exec_load_cell 25 w5 _ rfl ⟨d, 1, none⟩ (by kernel_rfl) _ (by rw [cell_of_row _ _ _ _ _ _ h25.out]; rfl) (fun _ => by kernel_rfl)) ?_
            refine sl_run rfl (.agg lv.c) w5 (exec_load_row 46 w5 _ rfl f (by kernel_rfl) 46 _ (0, 0) _ hf5'.out Try.underlying46 rfl (by kernel_rfl)) ?_
            simp only [Act.put, List.setIfInBounds_toArray, List.set_cons_zero, List.set_cons_succ]
            refine sl_run rfl (.slice (some ⟨w5.heap.size, 0, none⟩) 1 1) (w5.alloc (.cells lv.c 46)) (by kernel_rfl) ?_
            simp only [Act.put, List.setIfInBounds_toArray, List.set_cons_zero, List.set_cons_succ]
            have hown6 := hown5.out.alloc (.cells lv.c 46)
            have hB6 : Below w5.heap.size w5 (w5.alloc (.cells lv.c 46)) := (Below.refl _ _).alloc (Nat.le_refl _) _
            have hrw6 : Rw 2 V2.c (w5.alloc (.cells lv.c 46)) (.slice (some ⟨w5.heap.size, 0, none⟩) 1 1) [lv] := rw_one lv (heap_alloc_new _ _)
            have h26 : (w5.alloc (.cells lv.c 46)).heap[d]? = some (.cells (tup p (.slice Ao out.length co)) 27 (0, 0)) := (heap_alloc_old _ _ hd5).trans h25.out
            generalize w5.alloc _ = w6 at hown6 hB6 hrw6 h26
            have hs6 := hB6.size
            refine appendRw 25 46 24 i46 z2 Try.underlying25 hi46 hz0 hz1 hz2 rfl (by decide) v2_size v2_ones rfl _ _ rfl H (.slice Ao out.length co) out [lv] (by kernel_rfl) hown6 (.slice (some ⟨w5.heap.size, 0, none⟩) 1 1) (by kernel_rfl) hrw6 (by simp; omega) (by simp; omega) (by omega) ?_
            intro v7 w7 hown7 hgr7
            have hB7 : Below H w5 w7 := Below.grown (hB6.mono (by omega)) hgr7 (by omega) (fun q hq => (hown6.lt q hq).1)
            have h27 : w7.heap[d]? = some (.cells (tup p (.slice Ao out.length co)) 27 (0, 0)) := (hgr7.block d (by omega) (own_kind hown6 h26 (by decide))).trans h26
            simp only [Act.put, List.setIfInBounds_toArray, List.set_cons_zero, List.set_cons_succ]
            obtain ⟨A7, c7, rfl⟩ := own_form hown7
            have h17 : w7.heap[w.heap.size + 1]? = some (.cells (tup ByteArray.empty (.slice none 0 0)) 27 (0, 0)) := (hB7.block _ (by omega)).trans h15.out
            have hs7 := hB7.size
            refine sl_run rfl (.pointer (some ⟨d, 1, none⟩)) w7 (by kernel_rfl) ?_
            simp only [Act.put, List.setIfInBounds_toArray, List.set_cons_zero, List.set_cons_succ]
            refine wpList_store_cell rfl 25 _ _ rfl d 1 (by kernel_rfl) (.slice A7 (out ++ [lv]).length c7) (by kernel_rfl) (.slice Ao out.length co) (by rw [cell_of_row _ _ _ _ _ _ h27]; rfl) (frozen_of_row _ _ _ _ _ h27) (fun _ => by kernel_rfl) rfl rfl ?_
            refine wpList_nil ?_
            simp only [Act.put, List.setIfInBounds_toArray, List.set_cons_zero, List.set_cons_succ]
            have hne7 := own_kind hown7 h27 (by decide)
            have hown8 : Hid ((w7.setCell ⟨d, 1, none⟩ (.slice A7 (out ++ [lv]).length c7)).ownsRow H 46 2 (.slice A7 (out ++ [lv]).length c7) (out ++ [lv]).length (flat V2.c (out ++ [lv]))) := own_keep hown7 (fun q hq => heap_setCell_other _ _ _ _ (fun h => hne7 (by rw [hq]; exact congrArg some h.symm)))
            have h18 : Hid ((w7.setCell ⟨d, 1, none⟩ (.slice A7 (out ++ [lv]).length c7)).heap[w.heap.size + 1]? = some (.cells (tup ByteArray.empty (.slice none 0 0)) 27 (0, 0))) := (heap_setCell_other _ _ _ _ (by show _ ≠ d; have := hHd1'.out; omega)).trans h17
            have h28 : Hid ((w7.setCell ⟨d, 1, none⟩ (.slice A7 (out ++ [lv]).length c7)).heap[d]? = some (.cells (tup p (.slice A7 (out ++ [lv]).length c7)) 27 (0, 0))) := heap_setCell_same _ _ _ _ _ _ h27
            have hB8 : Hid (Below w.heap.size w (w7.setCell ⟨d, 1, none⟩ (.slice A7 (out ++ [lv]).length c7))) := (hB05.out.trans (hB7.mono (by omega))).setCell (by show _ ≤ d; have := hHd1'.out; omega) _
            have hs8 : H ≤ (w7.setCell ⟨d, 1, none⟩ (.slice A7 (out ++ [lv]).length c7)).heap.size := by simp [World.setCell]; omega
            generalize World.setCell _ _ _ = w8 at hown8 h18 h28 hB8 hs8
            have hol8 : (out ++ [lv]).length = i + 1 := by simp [hol]
            generalize out ++ [lv] = out8 at hown8 h28 hgo2 hol8 ⊢
            clear hown5 h15 h25 hB05 hf5' hown6 hB6 hrw6 hown7 hgr7 hB7 h17 h27 h26 hne7
            rename_i hK
            refine hK _ _ ?_
            go_wp2_with fail
            go_roundw
            case rel => exact ⟨i + 1, out8, _, by omega, by go_num, hol8, hown8, hgo2, h18, h28, hs8, hB8⟩
            case measure => simp [intOf]; omega
          | false =>
            have hgo2 : Hid (r = none) := by show _ = _; rw [hrr.out, hgo.out, hlvb.out]; rfl
            clear hgo hlvb
            go_upto_region 9 with fail
            refine wp_region_lit ?_
            refine sl_run rfl (.agg (tup ByteArray.empty (.slice none 0 0))) w5 (by kernel_rfl) ?_
            refine wpList_store_row rfl 27 _ _ rfl (w.heap.size + 1) (tup ByteArray.empty (.slice none 0 0)) (by kernel_rfl) (by kernel_rfl) 27 _ h15.out (by kernel_rfl) (by kernel_rfl) (tup_one _ _ _ _) ?_
            refine sl_run rfl (.bool false) (w5.setRow (w.heap.size + 1) (tup ByteArray.empty (.slice none 0 0))) (by kernel_rfl) ?_
            refine wpList_nil ?_
            simp only [Act.put, List.setIfInBounds_toArray, List.set_cons_zero, List.set_cons_succ]
            have hz := setRow_heap _ _ _ (tup ByteArray.empty (.slice none 0 0)) _ _ h15.out
            have hzB : Below w.heap.size w (w5.setRow (w.heap.size + 1) (tup ByteArray.empty (.slice none 0 0))) := below_setRow hB05.out (by omega) _
            generalize World.setRow _ _ _ = V at hz hzB
            rename_i hK
            refine hK _ _ (wp_ret ?_)
            change bodyPost Try.prog Try.f13 (fun e w' => ∃ v, e = .returned (.tuple #[.agg #[.string (if r.isSome then p else ByteArray.empty), v], .bool r.isSome]) ∧ Rw 2 V2.c w' v (r.getD []) ∧ Below w.heap.size w w') .ret _ _
            refine bodyPost_ret (results_cell_tmp (fn := Try.f13) rfl _ _ (w.heap.size + 1) 27 (tup ByteArray.empty (.slice none 0 0)) (0, 0) _ (.bool false) (by kernel_rfl) (by kernel_rfl) hz Try.underlying27 rfl (by kernel_rfl)) (by kernel_rfl) ?_
            exact ⟨_, by rw [hgo2.out]; rfl, by rw [hgo2.out]; exact Rw.nil, hzB⟩
        · have hI : ¬ (i : Int) < (n : Int) := by omega
          have hgo2 : Hid (r = some out) := by show _ = _; rw [hrr.out, hgo.out, fillOn_end b args out i (by have := hna'.out; omega)]
          have hrw : Hid (Rw 2 V2.c wr vo out) := Rw.own v2_size (by decide) hown.out
          obtain ⟨Ao, co, rfl⟩ := own_form hown.out
          go_upto_region 12 with fail
          refine wp_region_lit ?_
          refine sl_run rfl (.agg (tup p (.slice Ao out.length co))) wr (exec_load_row 27 wr _ rfl d (by kernel_rfl) 27 _ (0, 0) _ h2.out Try.underlying27 rfl (by kernel_rfl)) ?_
          refine wpList_store_row rfl 27 _ _ rfl (w.heap.size + 1) (tup p (.slice Ao out.length co)) (by kernel_rfl) (by kernel_rfl) 27 _ h1.out (by kernel_rfl) (by kernel_rfl) (tup_one _ _ _ _) ?_
          refine sl_run rfl (.bool true) (wr.setRow (w.heap.size + 1) (tup p (.slice Ao out.length co))) (by kernel_rfl) ?_
          refine wpList_nil ?_
          simp only [Act.put, List.setIfInBounds_toArray, List.set_cons_zero, List.set_cons_succ]
          have hz := setRow_heap _ _ _ (tup p (.slice Ao out.length co)) _ _ h1.out
          have hzB : Below w.heap.size w (wr.setRow (w.heap.size + 1) (tup p (.slice Ao out.length co))) := below_setRow hB.out (by omega) _
          have hrz : Rw 2 V2.c (wr.setRow (w.heap.size + 1) (tup p (.slice Ao out.length co))) (.slice Ao out.length co) out := hrw.out.kept (by simp) (fun _ q hq => by
            have := (hown.out.lt q hq).1
            simp only [World.setRow, Array.getElem?_modify]; rw [if_neg (by omega)])
          generalize World.setRow _ _ _ = V at hz hzB hrz
          rename_i hK
          refine hK _ _ (wp_ret ?_)
          change bodyPost Try.prog Try.f13 (fun e w' => ∃ v, e = .returned (.tuple #[.agg #[.string (if r.isSome then p else ByteArray.empty), v], .bool r.isSome]) ∧ Rw 2 V2.c w' v (r.getD []) ∧ Below w.heap.size w w') .ret _ _
          refine bodyPost_ret (results_cell_tmp (fn := Try.f13) rfl _ _ (w.heap.size + 1) 27 (tup p (.slice Ao out.length co)) (0, 0) _ (.bool true) (by kernel_rfl) (by kernel_rfl) hz Try.underlying27 rfl (by kernel_rfl)) (by kernel_rfl) ?_
          exact ⟨_, by rw [hgo2.out]; rfl, by rw [hgo2.out]; exact hrz, hzB⟩
  · have hkd : decide (k = 1 ∨ k = 2) = false := decide_eq_false hk
    rw [hkd]
    have hrr : Hid (r = none) := by
      show _ = _
      rw [hr.out]; unfold fillS; rw [if_neg (fun h => hk h)]
    go_upto_region 2 with fail
    refine wp_region_lit ?_
    refine sl_run rfl (.agg (tup ByteArray.empty (.slice none 0 0))) w5 (by kernel_rfl) ?_
    refine wpList_store_row rfl 27 _ _ rfl (w.heap.size + 1) (tup ByteArray.empty (.slice none 0 0)) (by kernel_rfl) (by kernel_rfl) 27 _ h51.out (by kernel_rfl) (by kernel_rfl) (tup_one _ _ _ _) ?_
    refine sl_run rfl (.bool false) (w5.setRow (w.heap.size + 1) (tup ByteArray.empty (.slice none 0 0))) (by kernel_rfl) ?_
    refine wpList_nil ?_
    simp only [Act.put, List.setIfInBounds_toArray, List.set_cons_zero, List.set_cons_succ]
    have hz := setRow_heap _ _ _ (tup ByteArray.empty (.slice none 0 0)) _ _ h51.out
    have hzB : Below w.heap.size w (w5.setRow (w.heap.size + 1) (tup ByteArray.empty (.slice none 0 0))) := below_setRow hB6.out (by omega) _
    generalize World.setRow _ _ _ = V at hz hzB
    rename_i hK
    refine hK _ _ (wp_ret ?_)
    change bodyPost Try.prog Try.f13 (fun e w' => ∃ v, e = .returned (.tuple #[.agg #[.string (if r.isSome then p else ByteArray.empty), v], .bool r.isSome]) ∧ Rw 2 V2.c w' v (r.getD []) ∧ Below w.heap.size w w') .ret _ _
    refine bodyPost_ret (results_cell_tmp (fn := Try.f13) rfl _ _ (w.heap.size + 1) 27 (tup ByteArray.empty (.slice none 0 0)) (0, 0) _ (.bool false) (by kernel_rfl) (by kernel_rfl) hz Try.underlying27 rfl (by kernel_rfl)) (by kernel_rfl) ?_
    exact ⟨_, by rw [hrr.out]; rfl, by rw [hrr.out]; exact Rw.nil, hzB⟩
end Go.Proofs.Ytehgblnhhlgikaa.Bi
