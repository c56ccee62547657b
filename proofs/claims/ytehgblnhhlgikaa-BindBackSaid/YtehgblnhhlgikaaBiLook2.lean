/-
  Bindings: a term's value, the program's and the document's.
-/
import Derived.Test.YtehgblnhhlgikaaBiLook
namespace Go.Proofs.Ytehgblnhhlgikaa.Bi
open Go.RowKit
set_option linter.unusedVariables false
set_option linter.unusedSimpArgs false
set_option pp.maxSteps 50000
theorem results_cell_tmp {P : Program} {fn : Func} {p q : Tmp} {ty : TypeId} (h : fn.results = #[.cell p ty, .tmp q]) (tmps : Array Value) (w : World) (g : Nat) (t : TypeId) (cs : Array Value) (fr : Nat × Nat) (d : TypeDesc) (u : Value)
    (hp : tmps.getD p undef = .pointer (some ⟨g, 0, none⟩)) (hq : tmps.getD q undef = u) (hg : w.heap[g]? = some (.cells cs t fr))
    (hu : P.underlying ty = some d) (hd : (match d with | .struct _ | .array _ _ => true | _ => false) = true) (hi : (P.info? ty).map (·.size) = some cs.size) :
    (results fn tmps).run P w = .ok (.tuple #[.agg cs, u]) w := by
  have hp' : tmps[p]?.getD undef = .pointer (some ⟨g, 0, none⟩) := by simpa using hp
  have hq' : tmps[q]?.getD undef = u := by simpa using hq
  simp [results, h, hp', hq', asAddr, run_loadVar_row w g t ty cs fr d hg hu hd hi]
theorem v2_range {w : World} {g : Nat} {t : T3} {ty : TypeId} {fr : Nat × Nat} (h : w.heap[g]? = some (.cells t.c ty fr)) : w.rangeAt g 1 t.v.c.toList := fun j u hu => by
  rw [cell_of_row _ _ _ _ _ _ h]
  match j with
  | 0 => exact hu
  | 1 => exact hu
  | j + 2 => simp [V2.c] at hu
theorem v2_range3 {w : World} {g o : Nat} {t : T3} (h : w.rangeAt g o t.c.toList) : w.rangeAt g (o + 1) t.v.c.toList := fun j u hu => by
  match j with
  | 0 => exact h 1 u hu
  | 1 => exact h 2 u hu
  | j + 2 => simp [V2.c] at hu
theorem v2_one (v : V2) : v.c.all (·.oneCell') = true := by simp [V2.c, Value.oneCell']
set_option maxRecDepth 100000 in
set_option maxHeartbeats 1000000 in
theorem look_calls (l : List T3) (t : T3) (A : Option Addr) (n c : Nat) (w : World) (hn : n = l.length) (hn9 : n ≤ 4611686018427387904) (hy : Rw 3 T3.c w (.slice A n c) l) :
    Calls Try.prog 22 #[.slice A n c, .agg t.c] w fun e w' => e = .returned (.tuple #[.agg (look l t).1.c, .bool (look l t).2]) ∧ Below w.heap.size w w' := by
  have hn' : Hid (n = l.length) := hn
  have hyH : Hid (Rw 3 T3.c w (.slice A n c) l) := hy
  clear hy hn
  have hbox : (Value.agg t.c) = .agg #[.string t.x, .string t.v.s, .int .i64 t.v.n] := rfl
  rw [hbox]
  obtain ⟨r, hr⟩ : ∃ r, r = look l t := ⟨_, rfl⟩
  rw [← hr]
  have hr : Hid (r = look l t) := hr
  go_enter Try.func22, Try.ntmps22
  go_upto_region 1 with fail
  generalize hW : World.alloc _ _ = W
  have hW0 : W.heap[w.heap.size]? = some (.cells t.c 48 (0, 0)) := by rw [← hW]; exact heap_alloc2_old w _ _
  have hW1 : W.heap[w.heap.size + 1]? = some (.cells (default : V2).c 46 (0, 0)) := by rw [← hW]; exact heap_alloc2_new w _ _
  have hWB : Below w.heap.size w W := by rw [← hW]; exact ((Below.refl _ _).alloc (Nat.le_refl _) _).alloc (by simp) _
  have hWs : W.heap.size = w.heap.size + 2 := by rw [← hW]; simp
  clear hW
  have c0 : W.cell? ⟨w.heap.size, 0, none⟩ = some (.string t.x) := by rw [cell_of_row _ _ _ _ _ _ hW0]; rfl
  by_cases he : t.x.toList = []
  · have hlk : Hid (r = (t.v, true)) := by show _ = _; rw [hr.out]; unfold look; rw [if_pos he]
    go_upto_region 2 with fail
    refine wp_region_lit ?_
    refine sl_run rfl (.pointer (some ⟨w.heap.size, 1, none⟩)) W (by kernel_rfl) ?_
    refine sl_run rfl (.agg t.v.c) W (exec_load_mid 46 W _ rfl w.heap.size 1 (by kernel_rfl) t.v.c.toList _ (v2_range hW0) Try.underlying46 rfl (by kernel_rfl)) ?_
    refine wpList_store_row rfl 46 _ _ rfl (w.heap.size + 1) t.v.c (by kernel_rfl) (by kernel_rfl) 46 _ hW1 (by kernel_rfl) (by kernel_rfl) (v2_one _) ?_
    refine sl_run rfl (.bool true) (W.setRow (w.heap.size + 1) t.v.c) (by kernel_rfl) ?_
    refine wpList_nil ?_
    simp only [Act.put, List.setIfInBounds_toArray, List.set_cons_zero, List.set_cons_succ]
    have hz := setRow_heap _ _ _ t.v.c _ _ hW1
    have hzB : Below w.heap.size w (W.setRow (w.heap.size + 1) t.v.c) := below_setRow hWB (by omega) _
    generalize World.setRow _ _ _ = V at hz hzB
    rename_i hK
    refine hK _ _ (wp_ret ?_)
    change bodyPost Try.prog Try.f22 (fun e w' => e = .returned (.tuple #[.agg r.1.c, .bool r.2]) ∧ Below w.heap.size w w') .ret _ _
    exact bodyPost_ret (results_cell_tmp rfl _ _ (w.heap.size + 1) 46 t.v.c (0, 0) _ (.bool true) (by kernel_rfl) (by kernel_rfl) hz Try.underlying46 rfl (by kernel_rfl)) (by kernel_rfl) ⟨by rw [hlk.out], hzB⟩
  · have hne : (t.x.toList == []) = false := by simpa using he
    have hye : Hid (Rw 3 T3.c W (.slice A n c) l) := hyH.out.below hWB
    go_upto_region 3 with fail
    refine wp_region_lit ?_
    refine sl_run rfl (.slice A n c) W (by kernel_rfl) ?_
    refine sl_run rfl (.func (.func 32) #[] #[.pointer (some ⟨w.heap.size, 0, none⟩)]) W (by kernel_rfl) ?_
    refine sl_call rfl 31 #[.slice A n c, .func (.func 32) #[] #[.pointer (some ⟨w.heap.size, 0, none⟩)]] (by kernel_rfl) (R := fun v w' => ∃ r : Int, v = .int .i64 r ∧ ((∃ i : Nat, r = i ∧ i < l.length ∧ hit t.x (l.getD i default) = true ∧ ∀ j, j < i → hit t.x (l.getD j default) = false) ∨ (r = -1 ∧ ∀ j, j < l.length → hit t.x (l.getD j default) = false)) ∧ Below W.heap.size W w') ((index_calls l w.heap.size t.x A n c W hn'.out hn9 hye.out c0).mono fun e w' h => by obtain ⟨r, h1, h2⟩ := h; exact ⟨_, h1, r, rfl, h2⟩) ?_
    rintro _ w5 ⟨q, rfl, hq, hB5⟩
    refine sl_run rfl (.int .i64 q) w5 (by kernel_rfl) ?_
    refine wpList_nil ?_
    simp only [Act.put, List.setIfInBounds_toArray, List.set_cons_zero, List.set_cons_succ]
    have hw51 : w5.heap[w.heap.size + 1]? = some (.cells (default : V2).c 46 (0, 0)) := by rw [hB5.block _ (by omega)]; exact hW1
    have hB6 : Below w.heap.size w w5 := hWB.trans (hB5.mono (by omega))
    have hy5 : Hid (Rw 3 T3.c w5 (.slice A n c) l) := hyH.out.below hB6
    have hB6 : Hid (Below w.heap.size w w5) := hB6
    have hw51' : Hid (w5.heap[w.heap.size + 1]? = some (.cells (default : V2).c 46 (0, 0))) := hw51
    clear hW0 hW1 hWB hWs c0 hye hB5 hw51
    rcases hq with ⟨i, rfl, hil, hh, hno⟩ | ⟨rfl, hno⟩
    · have hlk : Hid (r = ((l.getD i default).v, true)) := by show _ = _; rw [hr.out]; unfold look; rw [if_neg he, find_at hil hno hh]
      obtain ⟨g, o, rfl, hnc, hg, hra⟩ := hy5.out.elem i hil
      obtain ⟨e, hee⟩ : ∃ e, e = l.getD i default := ⟨_, rfl⟩
      rw [← hee] at hra hlk
      clear hno hh hee
      have hI : ¬ (i : Int) < 0 := by omega
      go_upto_region 6 with fail
      refine wp_region_lit ?_
      refine sl_run rfl (.slice (some ⟨g, o, none⟩) n c) w5 (by kernel_rfl) ?_
      refine sl_run rfl (.int .i64 i) w5 (by kernel_rfl) ?_
      refine sl_run rfl (.pointer (some ⟨g, o + i * 3, none⟩)) w5 (exec_index un28 sz28 _ _ rfl g o n c i (by kernel_rfl) (by kernel_rfl) (by have := hn'.out; omega) w5) ?_
      refine sl_run rfl (.pointer (some ⟨g, o + i * 3 + 1, none⟩)) w5 (by kernel_rfl) ?_
      refine sl_run rfl (.agg e.v.c) w5 (exec_load_mid 46 w5 _ rfl g (o + i * 3 + 1) (by kernel_rfl) e.v.c.toList _ (v2_range3 hra) Try.underlying46 rfl (by kernel_rfl)) ?_
      refine wpList_store_row rfl 46 _ _ rfl (w.heap.size + 1) e.v.c (by kernel_rfl) (by kernel_rfl) 46 _ hw51'.out (by kernel_rfl) (by kernel_rfl) (v2_one _) ?_
      refine sl_run rfl (.bool true) (w5.setRow (w.heap.size + 1) e.v.c) (by kernel_rfl) ?_
      refine wpList_nil ?_
      simp only [Act.put, List.setIfInBounds_toArray, List.set_cons_zero, List.set_cons_succ]
      have hz := setRow_heap _ _ _ e.v.c _ _ hw51'.out
      have hzB : Below w.heap.size w (w5.setRow (w.heap.size + 1) e.v.c) := below_setRow hB6.out (by omega) _
      generalize World.setRow _ _ _ = V at hz hzB
      rename_i hK
      refine hK _ _ (wp_ret ?_)
      change bodyPost Try.prog Try.f22 (fun e w' => e = .returned (.tuple #[.agg r.1.c, .bool r.2]) ∧ Below w.heap.size w w') .ret _ _
      exact bodyPost_ret (results_cell_tmp rfl _ _ (w.heap.size + 1) 46 e.v.c (0, 0) _ (.bool true) (by kernel_rfl) (by kernel_rfl) hz Try.underlying46 rfl (by kernel_rfl)) (by kernel_rfl) ⟨by rw [hlk.out], hzB⟩
    · have hlk : Hid (r = (default, false)) := by show _ = _; rw [hr.out]; unfold look; rw [if_neg he, find_no hno]
      clear hno
      go_upto_region 5 with fail
      refine wp_region_lit ?_
      refine sl_run rfl (.agg (default : V2).c) w5 (by kernel_rfl) ?_
      refine wpList_store_row rfl 46 _ _ rfl (w.heap.size + 1) (default : V2).c (by kernel_rfl) (by kernel_rfl) 46 _ hw51'.out (by kernel_rfl) (by kernel_rfl) (v2_one _) ?_
      refine sl_run rfl (.bool false) (w5.setRow (w.heap.size + 1) (default : V2).c) (by kernel_rfl) ?_
      refine wpList_nil ?_
      simp only [Act.put, List.setIfInBounds_toArray, List.set_cons_zero, List.set_cons_succ]
      have hz := setRow_heap _ _ _ (default : V2).c _ _ hw51'.out
      have hzB : Below w.heap.size w (w5.setRow (w.heap.size + 1) (default : V2).c) := below_setRow hB6.out (by omega) _
      generalize World.setRow _ _ _ = V at hz hzB
      rename_i hK
      refine hK _ _ (wp_ret ?_)
      change bodyPost Try.prog Try.f22 (fun e w' => e = .returned (.tuple #[.agg r.1.c, .bool r.2]) ∧ Below w.heap.size w w') .ret _ _
      exact bodyPost_ret (results_cell_tmp rfl _ _ (w.heap.size + 1) 46 (default : V2).c (0, 0) _ (.bool false) (by kernel_rfl) (by kernel_rfl) hz Try.underlying46 rfl (by kernel_rfl)) (by kernel_rfl) ⟨by rw [hlk.out], hzB⟩
end Go.Proofs.Ytehgblnhhlgikaa.Bi
