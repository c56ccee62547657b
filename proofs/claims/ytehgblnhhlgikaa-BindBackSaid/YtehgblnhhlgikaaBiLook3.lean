/-
  Bindings: a term's value, the document's.
-/
import Derived.Test.YtehgblnhhlgikaaBiLook2
namespace Go.Proofs.Ytehgblnhhlgikaa.Bi
open Go.RowKit
set_option linter.unusedVariables false
set_option linter.unusedSimpArgs false
set_option pp.maxSteps 50000
theorem exec_eqs {o : Oper} {a : Act} (x y : Operand) (ho : o.op = .binOp .eql 9 x y 9) (s u : ByteArray) (hx : a.eval x = .string s) (hy : a.eval y = .string u) (w : World) : (execOp a.eval o).run Try.prog w = .ok (.value (.bool (s.toList == u.toList))) w := by
  unfold execOp
  simp [ho, hx, hy, eqGuard, binOp_string_eql]
set_option maxRecDepth 100000 in
set_option maxHeartbeats 1000000 in
theorem rvalue_calls (l : List T3) (t : T3) (A : Option Addr) (n c : Nat) (w : World) (hn : n = l.length) (hn9 : n ≤ 4611686018427387904) (hts : t.x.size ≤ 9223372036854775807) (hy : Rw 3 T3.c w (.slice A n c) l) :
    Calls Try.prog 24 #[.slice A n c, .agg t.c] w fun e w' => e = .returned (.tuple #[.agg (look l t).1.c, .bool (look l t).2]) ∧ Below w.heap.size w w' := by
  have hn' : Hid (n = l.length) := hn
  have hyH : Hid (Rw 3 T3.c w (.slice A n c) l) := hy
  clear hy hn
  have hbox : (Value.agg t.c) = .agg #[.string t.x, .string t.v.s, .int .i64 t.v.n] := rfl
  rw [hbox]
  obtain ⟨r, hr0⟩ : ∃ r, r = look l t := ⟨_, rfl⟩
  rw [← hr0]
  have hr : Hid (r = look l t) := hr0
  clear hr0
  go_enter Try.func24, Try.ntmps24
  go_upto_region 1 with fail
  generalize hW : World.alloc _ _ = W
  have hW0 : W.heap[w.heap.size]? = some (.cells t.c 48 (0, 0)) := by rw [← hW]; exact heap_alloc2_old w _ _
  have hW1 : W.heap[w.heap.size + 1]? = some (.cells (default : V2).c 46 (0, 0)) := by rw [← hW]; exact heap_alloc2_new w _ _
  have hWB : Below w.heap.size w W := by rw [← hW]; exact ((Below.refl _ _).alloc (Nat.le_refl _) _).alloc (by simp) _
  have hWs : W.heap.size = w.heap.size + 2 := by rw [← hW]; simp
  clear hW
  have c0 : W.cell? ⟨w.heap.size, 0, none⟩ = some (.string t.x) := by rw [cell_of_row _ _ _ _ _ _ hW0]; rfl
  by_cases he : t.x.toList = []
  · have hlk : Hid (r = (t.v, true)) := by show _ = _; rw [hr.out]; unfold look; rw [if_pos he]
    have hsz : t.x.size = 0 := by rw [← byteList, he]; rfl
    have hszI : ((t.x.size : Int) == 0) = true := by rw [hsz]; rfl
    clear hsz
    go_upto_region 2 with fail
    refine wp_region_lit ?_
    refine sl_run rfl (.pointer (some ⟨w.heap.size, 1, none⟩)) W (by kernel_rfl) ?_
    refine sl_run rfl (.agg t.v.c) W (exec_load_mid 46 W _ rfl w.heap.size 1 (by kernel_rfl) t.v.c.toList _ (v2_range hW0) Try.underlying46 rfl (by kernel_rfl)) ?_
    refine wpList_store_row rfl 46 _ _ rfl (w.heap.size + 1) t.v.c (by kernel_rfl) (by kernel_rfl) 46 _ hW1 (by kernel_rfl) (by kernel_rfl) (v2_one _) ?_
    refine sl_run rfl (.bool true) (W.setRow (w.heap.size + 1) t.v.c) (by kernel_rfl) ?_
    refine wpList_nil ?_
    simp only [Act.put, List.setIfInBounds_toArray, List.set_cons_zero, List.set_cons_succ]
    have hz := setRow_heap _ _ _ t.v.c _ _ hW1
    have hzB : Below w.heap.size w (W.setRow (w.heap.size + 1) t.v.c) := below_setRow hWB (by omega) _
    generalize World.setRow _ _ _ = V at hz hzB
    rename_i hK
    refine hK _ _ (wp_ret ?_)
    change bodyPost Try.prog Try.f24 (fun e w' => e = .returned (.tuple #[.agg r.1.c, .bool r.2]) ∧ Below w.heap.size w w') .ret _ _
    exact bodyPost_ret (results_cell_tmp rfl _ _ (w.heap.size + 1) 46 t.v.c (0, 0) _ (.bool true) (by kernel_rfl) (by kernel_rfl) hz Try.underlying46 rfl (by kernel_rfl)) (by kernel_rfl) ⟨by rw [hlk.out], hzB⟩
  · have hsz : ¬ t.x.size = 0 := fun h => he (nil_size h)
    have hszI : ((t.x.size : Int) == 0) = false := by rw [beq_eq_false_iff_ne]; omega
    go_wp2_with fail
    go_loopw [6] (fun u wr => ∃ i : Nat, i ≤ n ∧ u = .int .i64 i ∧ Hid (∀ j, j < i → hit t.x (l.getD j default) = false) ∧ Hid (Below W.heap.size W wr)) (fun u _ => n - (intOf u).toNat)
    case atStart => exact ⟨0, by omega, rfl, fun j hj => by omega, Below.refl _ _⟩
    case round =>
      obtain ⟨i, hi, rfl, hno, hB⟩ := hrel
      have hBw : Below w.heap.size w wr := hWB.trans (hB.out.mono (by omega))
      have h1 : wr.heap[w.heap.size + 1]? = some (.cells (default : V2).c 46 (0, 0)) := by rw [hB.out.block _ (by omega)]; exact hW1
      have h0 : wr.heap[w.heap.size]? = some (.cells t.c 48 (0, 0)) := by rw [hB.out.block _ (by omega)]; exact hW0
      have hws : w.heap.size + 2 ≤ wr.heap.size := by have := Below.size hB.out; omega
      by_cases hlt : i < n
      · have hil : i < l.length := by rw [← hn'.out]; exact hlt
        have hI : (i : Int) < (n : Int) := by omega
        obtain ⟨g, o, rfl, hnc, hg, hra⟩ := (hyH.out.below hBw).elem i hil
        obtain ⟨e, hee⟩ : ∃ e, e = l.getD i default := ⟨_, rfl⟩
        rw [← hee] at hra
        have h1' : Hid (wr.heap[w.heap.size + 1]? = some (.cells (default : V2).c 46 (0, 0))) := h1
        have hBw' : Hid (Below w.heap.size w wr) := hBw
        clear h1 hBw
        go_upto_region 6 with fail
        refine wp_region_quiet (C := Below wr.heap.size wr) (by kernel_rfl) (by kernel_rfl) (Below.refl _ _).drew ?_
        refine quiet_run rfl (.slice (some ⟨g, o, none⟩) n c) (fun _ _ => by kernel_rfl) ?_
        refine quiet_run rfl (.int .i64 i) (fun _ _ => by kernel_rfl) ?_
        refine quiet_run rfl (.pointer (some ⟨g, o + i * 3, none⟩)) (fun w' _ => exec_index un28 sz28 _ _ rfl g o n c i (by kernel_rfl) (by kernel_rfl) hlt w') ?_
        refine quiet_run rfl (.pointer (some ⟨g, o + i * 3, none⟩)) (fun _ _ => by kernel_rfl) ?_
        refine quiet_run rfl (.string e.x) (fun w' hw => exec_load_cell 9 w' _ rfl ⟨g, o + i * 3, none⟩ (by kernel_rfl) _ (by rw [hw.cell (by exact hg)]; exact hra 0 _ rfl) (fun _ => by kernel_rfl)) ?_
        refine quiet_run rfl (.pointer (some ⟨w.heap.size, 0, none⟩)) (fun _ _ => by kernel_rfl) ?_
        refine quiet_run rfl (.string t.x) (fun w' hw => exec_load_cell 9 w' _ rfl ⟨w.heap.size, 0, none⟩ (by kernel_rfl) _ (by rw [hw.cell (by show w.heap.size < _; omega), cell_of_row _ _ _ _ _ _ h0]; rfl) (fun _ => by kernel_rfl)) ?_
        refine quiet_run rfl (.bool (hit t.x e)) (fun w' _ => exec_eqs _ _ rfl e.x t.x (by kernel_rfl) (by kernel_rfl) w') ?_
        refine wpQuiet_nil ?_
        intro w5 hB5
        simp only [Act.put, List.setIfInBounds_toArray, List.set_cons_zero, List.set_cons_succ]
        have hB6 : Hid (Below W.heap.size W w5) := hB.out.trans (hB5.mono (Below.size hB.out))
        have hra5 := range_below hra hB5 hg
        have h15 : Hid (w5.heap[w.heap.size + 1]? = some (.cells (default : V2).c 46 (0, 0))) := by show _ = _; rw [hB5.block _ (by omega)]; exact h1'.out
        have hBw5 : Hid (Below w.heap.size w w5) := hBw'.out.trans (hB5.mono (by omega))
        clear hra h0 hB hB5 h1'
        cases hh : hit t.x e with
        | true =>
          have hlk : Hid (r = (e.v, true)) := by show _ = _; rw [hr.out]; unfold look; rw [if_neg he, find_at hil hno.out (by rw [← hee]; exact hh), ← hee]
          clear hh hee
          go_upto_region 7 with fail
          refine wp_region_lit ?_
          refine sl_run rfl (.slice (some ⟨g, o, none⟩) n c) w5 (by kernel_rfl) ?_
          refine sl_run rfl (.int .i64 i) w5 (by kernel_rfl) ?_
          refine sl_run rfl (.pointer (some ⟨g, o + i * 3, none⟩)) w5 (exec_index un28 sz28 _ _ rfl g o n c i (by kernel_rfl) (by kernel_rfl) hlt w5) ?_
          refine sl_run rfl (.pointer (some ⟨g, o + i * 3 + 1, none⟩)) w5 (by kernel_rfl) ?_
          refine sl_run rfl (.agg e.v.c) w5 (exec_load_mid 46 w5 _ rfl g (o + i * 3 + 1) (by kernel_rfl) e.v.c.toList _ (v2_range3 hra5) Try.underlying46 rfl (by kernel_rfl)) ?_
          refine wpList_store_row rfl 46 _ _ rfl (w.heap.size + 1) e.v.c (by kernel_rfl) (by kernel_rfl) 46 _ h15.out (by kernel_rfl) (by kernel_rfl) (v2_one _) ?_
          refine sl_run rfl (.bool true) (w5.setRow (w.heap.size + 1) e.v.c) (by kernel_rfl) ?_
          refine wpList_nil ?_
          simp only [Act.put, List.setIfInBounds_toArray, List.set_cons_zero, List.set_cons_succ]
          have hz := setRow_heap _ _ _ e.v.c _ _ h15.out
          have hzB : Below w.heap.size w (w5.setRow (w.heap.size + 1) e.v.c) := below_setRow hBw5.out (by omega) _
          generalize World.setRow _ _ _ = V at hz hzB
          rename_i hK
          refine hK _ _ (wp_ret ?_)
          change bodyPost Try.prog Try.f24 (fun e w' => e = .returned (.tuple #[.agg r.1.c, .bool r.2]) ∧ Below w.heap.size w w') .ret _ _
          exact bodyPost_ret (results_cell_tmp rfl _ _ (w.heap.size + 1) 46 e.v.c (0, 0) _ (.bool true) (by kernel_rfl) (by kernel_rfl) hz Try.underlying46 rfl (by kernel_rfl)) (by kernel_rfl) ⟨by rw [hlk.out], hzB⟩
        | false =>
          have hno2 : Hid (∀ j, j < i + 1 → hit t.x (l.getD j default) = false) := fun j hj => by
            by_cases h : j < i
            · exact hno.out j h
            · have : j = i := by omega
              subst this; rw [← hee]; exact hh
          clear hh hee hno hra5
          go_wp2_with fail
          go_roundw
          case rel => exact ⟨i + 1, by omega, by go_num, hno2, hB6⟩
          case measure => simp [intOf]; omega
      · have hI : ¬ (i : Int) < (n : Int) := by omega
        have hin : i = l.length := by have := hn'.out; omega
        have hlk : Hid (r = (default, false)) := by show _ = _; rw [hr.out]; unfold look; rw [if_neg he, find_no (by rw [← hin]; exact hno.out)]
        go_upto_region 8 with fail
        refine wp_region_lit ?_
        refine sl_run rfl (.agg (default : V2).c) wr (by kernel_rfl) ?_
        refine wpList_store_row rfl 46 _ _ rfl (w.heap.size + 1) (default : V2).c (by kernel_rfl) (by kernel_rfl) 46 _ h1 (by kernel_rfl) (by kernel_rfl) (v2_one _) ?_
        refine sl_run rfl (.bool false) (wr.setRow (w.heap.size + 1) (default : V2).c) (by kernel_rfl) ?_
        refine wpList_nil ?_
        simp only [Act.put, List.setIfInBounds_toArray, List.set_cons_zero, List.set_cons_succ]
        have hz := setRow_heap _ _ _ (default : V2).c _ _ h1
        have hzB : Below w.heap.size w (wr.setRow (w.heap.size + 1) (default : V2).c) := below_setRow hBw (by omega) _
        generalize World.setRow _ _ _ = V at hz hzB
        rename_i hK
        refine hK _ _ (wp_ret ?_)
        change bodyPost Try.prog Try.f24 (fun e w' => e = .returned (.tuple #[.agg r.1.c, .bool r.2]) ∧ Below w.heap.size w w') .ret _ _
        exact bodyPost_ret (results_cell_tmp rfl _ _ (w.heap.size + 1) 46 (default : V2).c (0, 0) _ (.bool false) (by kernel_rfl) (by kernel_rfl) hz Try.underlying46 rfl (by kernel_rfl)) (by kernel_rfl) ⟨by rw [hlk.out], hzB⟩
end Go.Proofs.Ytehgblnhhlgikaa.Bi
