/-
  Bindings: whether a comparison holds, the program's.
-/
import Derived.Test.YtehgblnhhlgikaaBiHolds
namespace Go.Proofs.Ytehgblnhhlgikaa.Bi
open Go.RowKit
set_option linter.unusedVariables false
set_option linter.unusedSimpArgs false
set_option pp.maxSteps 50000
theorem exec_lookup {o : Oper} {a : Act} (m x : Operand) (ho : o.op = .lookup 57 m x true) (g : Nat) (k : Int) (v : Value) (hm : a.eval m = .map (some g)) (hx : a.eval x = .int .u8 k) (w : World)
    (hl : (Instr.lookup 57 (.map (some g)) (.int .u8 k) true).run Try.prog w = .ok v w) : (execOp a.eval o).run Try.prog w = .ok (.value v) w := by
  unfold execOp
  simp only [ho, hm, hx, Sem.run_bind, hl, Result.andThen_ok, Sem.run_pure]
set_option maxRecDepth 100000 in
set_option maxHeartbeats 2000000 in
theorem holds_none (k : Nat) (p : ByteArray) (A A3 : Option Addr) (n q c c3 : Nat) (fv : Value) (w : World) (hfv : fv.cells = #[fv]) (h1v : fv.oneCell' = true) 
    (hl : ∀ (W : World) (g : Nat), W.heap[g]? = some (.map asks 2) → (Instr.lookup 57 (.map (some g)) (.int .u8 k) true).run Try.prog W = .ok (.tuple #[fv, .bool false]) W) :
    Calls Try.prog 15 #[.agg #[.int .u8 (k : Int), .string p, .slice A n c], .slice A3 q c3] w fun e w' => e = .returned (.tuple #[.bool false, .bool false]) ∧ Below w.heap.size w w' := by
  go_enter Try.func15, Try.ntmps15
  go_upto_region 1 with fail
  generalize hW : World.alloc _ _ = W
  have hW0 : W.heap[w.heap.size]? = some (.cells #[.int .u8 (k : Int), .string p, .slice A n c] 24 (0, 0)) := by rw [← hW]; exact heap_alloc_new w _
  have hWB : Below w.heap.size w W := by rw [← hW]; exact (Below.refl _ _).alloc (Nat.le_refl _) _
  have hWs : W.heap.size = w.heap.size + 1 := by rw [← hW]; simp
  have e00 : ∀ w', Below W.heap.size W w' → w'.cell? ⟨w.heap.size, 0, none⟩ = some (.int .u8 (k : Int)) := fun w' h => by rw [h.cell (by show w.heap.size < _; omega), cell_of_row _ _ _ _ _ _ hW0]; rfl
  clear hW
  refine wp_region_held_drew (S := fun w' => Below W.heap.size W w') (by kernel_rfl) (Below.refl _ _).drew (fun hS => ?_)
  change wpAnyH _ _ _ _ _ 9 (Array.replicate 9 false) _ _
  generalize hx : W.drew = w1 at hS
  clear hx
  refine held_take 1 rfl (by kernel_rfl) (by kernel_rfl) (by kernel_rfl) (.pointer (some ⟨w.heap.size, 0, none⟩)) (fun _ _ _ h => h) (by kernel_rfl) (fun _ _ => by kernel_rfl) hS ?_
  simp only [Act.put, List.setIfInBounds_toArray, List.set_cons_zero, List.set_cons_succ, List.getElem_toArray, List.getElem_cons_succ, List.getElem_cons_zero]
  refine held_take 2 rfl (by kernel_rfl) (by kernel_rfl) (by kernel_rfl) (.int .u8 (k : Int)) (fun _ _ _ h => h) (by kernel_rfl) (fun w' h => exec_load_cell 5 w' _ rfl ⟨w.heap.size, 0, none⟩ (by kernel_rfl) _ (e00 w' h) (fun _ => by kernel_rfl)) hS ?_
  simp only [Act.put, List.setIfInBounds_toArray, List.set_cons_zero, List.set_cons_succ, List.getElem_toArray, List.getElem_cons_succ, List.getElem_cons_zero]
  have hs1 : W.heap.size ≤ w1.heap.size := hS.size
  refine held_call 0 rfl (by kernel_rfl) (by kernel_rfl) 25 #[] (by kernel_rfl) (R := fun v w' => ∃ g, v = .map (some g) ∧ w'.heap[g]? = some (.map asks 2) ∧ Below W.heap.size W w') ((compares_calls w1).mono fun e w' h => by obtain ⟨g, h1, h2, h3⟩ := h; exact ⟨_, h1, g, rfl, h2, hS.trans (h3.mono hs1)⟩) ?_
  rintro _ w2 ⟨g, rfl, hg, hS2⟩
  refine ⟨hS2, ?_⟩
  simp only [Act.put, List.setIfInBounds_toArray, List.set_cons_zero, List.set_cons_succ, List.getElem_toArray, List.getElem_cons_succ, List.getElem_cons_zero]
  refine held_run 3 rfl (by kernel_rfl) (by kernel_rfl) (.tuple #[fv, .bool false]) w2 (exec_lookup _ _ rfl g (k : Int) _ (by kernel_rfl) (by kernel_rfl) w2 (hl w2 g hg)) hS2 ?_
  simp only [Act.put, List.setIfInBounds_toArray, List.set_cons_zero, List.set_cons_succ, List.getElem_toArray, List.getElem_cons_succ, List.getElem_cons_zero]
  refine held_run 4 rfl (by kernel_rfl) (by kernel_rfl) (.tuple #[fv, .bool false]) w2 (by kernel_rfl) hS2 ?_
  simp only [Act.put, List.setIfInBounds_toArray, List.set_cons_zero, List.set_cons_succ, List.getElem_toArray, List.getElem_cons_succ, List.getElem_cons_zero]
  refine held_take 5 rfl (by kernel_rfl) (by kernel_rfl) (by kernel_rfl) fv (fun _ _ _ h => h) (by kernel_rfl) (fun _ _ => by kernel_rfl) hS2 ?_
  simp only [Act.put, List.setIfInBounds_toArray, List.set_cons_zero, List.set_cons_succ, List.getElem_toArray, List.getElem_cons_succ, List.getElem_cons_zero]
  refine held_take 6 rfl (by kernel_rfl) (by kernel_rfl) (by kernel_rfl) (.bool false) (fun _ _ _ h => h) (by kernel_rfl) (fun _ _ => by kernel_rfl) hS2 ?_
  simp only [Act.put, List.setIfInBounds_toArray, List.set_cons_zero, List.set_cons_succ, List.getElem_toArray, List.getElem_cons_succ, List.getElem_cons_zero]
  refine held_take 7 rfl (by kernel_rfl) (by kernel_rfl) (by kernel_rfl) fv (fun _ _ _ h => h) (by kernel_rfl) (fun _ _ => by kernel_rfl) hS2 ?_
  simp only [Act.put, List.setIfInBounds_toArray, List.set_cons_zero, List.set_cons_succ, List.getElem_toArray, List.getElem_cons_succ, List.getElem_cons_zero]
  refine held_take 8 rfl (by kernel_rfl) (by kernel_rfl) (by kernel_rfl) (.bool false) (fun _ _ _ h => h) (by kernel_rfl) (fun _ _ => by kernel_rfl) hS2 ?_
  simp only [Act.put, List.setIfInBounds_toArray, List.set_cons_zero, List.set_cons_succ, List.getElem_toArray, List.getElem_cons_succ, List.getElem_cons_zero]
  refine wpAnyH_done (by kernel_rfl) ?_ 0
  rename_i hK
  refine hK _ _ ?_
  have hB2 : Below w.heap.size w w2 := hWB.trans (hS2.mono (by omega))
  have e22 : w2.cell? ⟨w.heap.size, 2, none⟩ = some (.slice A n c) := by rw [hS2.cell (by show w.heap.size < _; omega), cell_of_row _ _ _ _ _ _ hW0]; rfl
  have hs2 := hS2.size
  clear hs1 hS hS2 hW0 e00 hK hl hg
  go_wp2_with fail
  refine bodyPost_ret (v := .tuple #[.bool false, .bool false]) (by kernel_rfl) (by kernel_rfl) ?_
  exact ⟨rfl, hB2⟩
set_option maxRecDepth 100000 in
set_option maxHeartbeats 2000000 in
theorem holds_ne (k : Nat) (p : ByteArray) (A A3 : Option Addr) (n q c c3 : Nat) (fv : Value) (w : World) (hfv : fv.cells = #[fv]) (h1v : fv.oneCell' = true) (hn2 : ¬ ((n : Int) = 2))
    (hl : ∀ (W : World) (g : Nat), W.heap[g]? = some (.map asks 2) → (Instr.lookup 57 (.map (some g)) (.int .u8 k) true).run Try.prog W = .ok (.tuple #[fv, .bool true]) W) :
    Calls Try.prog 15 #[.agg #[.int .u8 (k : Int), .string p, .slice A n c], .slice A3 q c3] w fun e w' => e = .returned (.tuple #[.bool false, .bool false]) ∧ Below w.heap.size w w' := by
  go_enter Try.func15, Try.ntmps15
  go_upto_region 1 with fail
  generalize hW : World.alloc _ _ = W
  have hW0 : W.heap[w.heap.size]? = some (.cells #[.int .u8 (k : Int), .string p, .slice A n c] 24 (0, 0)) := by rw [← hW]; exact heap_alloc_new w _
  have hWB : Below w.heap.size w W := by rw [← hW]; exact (Below.refl _ _).alloc (Nat.le_refl _) _
  have hWs : W.heap.size = w.heap.size + 1 := by rw [← hW]; simp
  have e00 : ∀ w', Below W.heap.size W w' → w'.cell? ⟨w.heap.size, 0, none⟩ = some (.int .u8 (k : Int)) := fun w' h => by rw [h.cell (by show w.heap.size < _; omega), cell_of_row _ _ _ _ _ _ hW0]; rfl
  clear hW
  refine wp_region_held_drew (S := fun w' => Below W.heap.size W w') (by kernel_rfl) (Below.refl _ _).drew (fun hS => ?_)
  change wpAnyH _ _ _ _ _ 9 (Array.replicate 9 false) _ _
  generalize hx : W.drew = w1 at hS
  clear hx
  refine held_take 1 rfl (by kernel_rfl) (by kernel_rfl) (by kernel_rfl) (.pointer (some ⟨w.heap.size, 0, none⟩)) (fun _ _ _ h => h) (by kernel_rfl) (fun _ _ => by kernel_rfl) hS ?_
  simp only [Act.put, List.setIfInBounds_toArray, List.set_cons_zero, List.set_cons_succ, List.getElem_toArray, List.getElem_cons_succ, List.getElem_cons_zero]
  refine held_take 2 rfl (by kernel_rfl) (by kernel_rfl) (by kernel_rfl) (.int .u8 (k : Int)) (fun _ _ _ h => h) (by kernel_rfl) (fun w' h => exec_load_cell 5 w' _ rfl ⟨w.heap.size, 0, none⟩ (by kernel_rfl) _ (e00 w' h) (fun _ => by kernel_rfl)) hS ?_
  simp only [Act.put, List.setIfInBounds_toArray, List.set_cons_zero, List.set_cons_succ, List.getElem_toArray, List.getElem_cons_succ, List.getElem_cons_zero]
  have hs1 : W.heap.size ≤ w1.heap.size := hS.size
  refine held_call 0 rfl (by kernel_rfl) (by kernel_rfl) 25 #[] (by kernel_rfl) (R := fun v w' => ∃ g, v = .map (some g) ∧ w'.heap[g]? = some (.map asks 2) ∧ Below W.heap.size W w') ((compares_calls w1).mono fun e w' h => by obtain ⟨g, h1, h2, h3⟩ := h; exact ⟨_, h1, g, rfl, h2, hS.trans (h3.mono hs1)⟩) ?_
  rintro _ w2 ⟨g, rfl, hg, hS2⟩
  refine ⟨hS2, ?_⟩
  simp only [Act.put, List.setIfInBounds_toArray, List.set_cons_zero, List.set_cons_succ, List.getElem_toArray, List.getElem_cons_succ, List.getElem_cons_zero]
  refine held_run 3 rfl (by kernel_rfl) (by kernel_rfl) (.tuple #[fv, .bool true]) w2 (exec_lookup _ _ rfl g (k : Int) _ (by kernel_rfl) (by kernel_rfl) w2 (hl w2 g hg)) hS2 ?_
  simp only [Act.put, List.setIfInBounds_toArray, List.set_cons_zero, List.set_cons_succ, List.getElem_toArray, List.getElem_cons_succ, List.getElem_cons_zero]
  refine held_run 4 rfl (by kernel_rfl) (by kernel_rfl) (.tuple #[fv, .bool true]) w2 (by kernel_rfl) hS2 ?_
  simp only [Act.put, List.setIfInBounds_toArray, List.set_cons_zero, List.set_cons_succ, List.getElem_toArray, List.getElem_cons_succ, List.getElem_cons_zero]
  refine held_take 5 rfl (by kernel_rfl) (by kernel_rfl) (by kernel_rfl) fv (fun _ _ _ h => h) (by kernel_rfl) (fun _ _ => by kernel_rfl) hS2 ?_
  simp only [Act.put, List.setIfInBounds_toArray, List.set_cons_zero, List.set_cons_succ, List.getElem_toArray, List.getElem_cons_succ, List.getElem_cons_zero]
  refine held_take 6 rfl (by kernel_rfl) (by kernel_rfl) (by kernel_rfl) (.bool true) (fun _ _ _ h => h) (by kernel_rfl) (fun _ _ => by kernel_rfl) hS2 ?_
  simp only [Act.put, List.setIfInBounds_toArray, List.set_cons_zero, List.set_cons_succ, List.getElem_toArray, List.getElem_cons_succ, List.getElem_cons_zero]
  refine held_take 7 rfl (by kernel_rfl) (by kernel_rfl) (by kernel_rfl) fv (fun _ _ _ h => h) (by kernel_rfl) (fun _ _ => by kernel_rfl) hS2 ?_
  simp only [Act.put, List.setIfInBounds_toArray, List.set_cons_zero, List.set_cons_succ, List.getElem_toArray, List.getElem_cons_succ, List.getElem_cons_zero]
  refine held_take 8 rfl (by kernel_rfl) (by kernel_rfl) (by kernel_rfl) (.bool true) (fun _ _ _ h => h) (by kernel_rfl) (fun _ _ => by kernel_rfl) hS2 ?_
  simp only [Act.put, List.setIfInBounds_toArray, List.set_cons_zero, List.set_cons_succ, List.getElem_toArray, List.getElem_cons_succ, List.getElem_cons_zero]
  refine wpAnyH_done (by kernel_rfl) ?_ 0
  rename_i hK
  refine hK _ _ ?_
  have hB2 : Below w.heap.size w w2 := hWB.trans (hS2.mono (by omega))
  have e22 : w2.cell? ⟨w.heap.size, 2, none⟩ = some (.slice A n c) := by rw [hS2.cell (by show w.heap.size < _; omega), cell_of_row _ _ _ _ _ _ hW0]; rfl
  have hs2 := hS2.size
  clear hs1 hS hS2 hW0 e00 hK hl hg
  go_wp2_with fail
  refine bodyPost_ret (v := .tuple #[.bool false, .bool false]) (by kernel_rfl) (by kernel_rfl) ?_
  exact ⟨rfl, hB2⟩
set_option maxRecDepth 100000 in
set_option maxHeartbeats 2000000 in
theorem holds_two (k : Nat) (p : ByteArray) (A3 : Option Addr) (g0 o q c c3 ff : Nat) (fv : Value) (w : World) (hfv : fv.cells = #[fv]) (h1v : fv.oneCell' = true) (hff : fv = .func (.func ff) #[] #[]) (h34 : ff = 33 ∨ ff = 34) (ask : Int → Bool) (hcf : ∀ z w, Calls Try.prog ff #[.int .i64 z] w fun e w' => e = .returned (.bool (ask z)) ∧ w' = w)
    (t0 t1 : T3) (l0 l1 : V2 × Bool) (hc2 : 2 ≤ c) (hg0 : g0 < w.heap.size) (hra0 : Hid (w.rangeAt g0 o t0.c.toList)) (hra1 : Hid (w.rangeAt g0 (o + 3) t1.c.toList))
    (c0 : ∀ (v : World), Below w.heap.size w v → Calls Try.prog 22 #[.slice A3 q c3, .agg t0.c] v fun e w' => e = .returned (.tuple #[.agg l0.1.c, .bool l0.2]) ∧ Below v.heap.size v w')
    (c1 : ∀ (v : World), Below w.heap.size w v → Calls Try.prog 22 #[.slice A3 q c3, .agg t1.c] v fun e w' => e = .returned (.tuple #[.agg l1.1.c, .bool l1.2]) ∧ Below v.heap.size v w')
    (hl : ∀ (W : World) (g : Nat), W.heap[g]? = some (.map asks 2) → (Instr.lookup 57 (.map (some g)) (.int .u8 k) true).run Try.prog W = .ok (.tuple #[fv, .bool true]) W) :
    Calls Try.prog 15 #[.agg #[.int .u8 (k : Int), .string p, .slice (some ⟨g0, o, none⟩) 2 c], .slice A3 q c3] w fun e w' => e = .returned (.tuple #[.bool (if l0.2 && l1.2 then ask (cmpV l0.1 l1.1) else false), .bool (l0.2 && l1.2)]) ∧ Below w.heap.size w w' := by
  obtain ⟨r1, hr1⟩ : ∃ r, r = if l0.2 && l1.2 then ask (cmpV l0.1 l1.1) else false := ⟨_, rfl⟩
  obtain ⟨r2, hr2⟩ : ∃ r, r = (l0.2 && l1.2) := ⟨_, rfl⟩
  rw [← hr1, ← hr2]
  have hrr : Hid ((r1 = if l0.2 && l1.2 then ask (cmpV l0.1 l1.1) else false) ∧ r2 = (l0.2 && l1.2)) := ⟨hr1, hr2⟩
  clear hr1 hr2
  have hffH : Hid (fv = .func (.func ff) #[] #[]) := hff
  clear hff
  go_enter Try.func15, Try.ntmps15
  go_upto_region 1 with fail
  generalize hW : World.alloc _ _ = W
  have hW0 : W.heap[w.heap.size]? = some (.cells #[.int .u8 (k : Int), .string p, .slice (some ⟨g0, o, none⟩) 2 c] 24 (0, 0)) := by rw [← hW]; exact heap_alloc_new w _
  have hWB : Below w.heap.size w W := by rw [← hW]; exact (Below.refl _ _).alloc (Nat.le_refl _) _
  have hWs : W.heap.size = w.heap.size + 1 := by rw [← hW]; simp
  have e00 : ∀ w', Below W.heap.size W w' → w'.cell? ⟨w.heap.size, 0, none⟩ = some (.int .u8 (k : Int)) := fun w' h => by rw [h.cell (by show w.heap.size < _; omega), cell_of_row _ _ _ _ _ _ hW0]; rfl
  clear hW
  refine wp_region_held_drew (S := fun w' => Below W.heap.size W w') (by kernel_rfl) (Below.refl _ _).drew (fun hS => ?_)
  change wpAnyH _ _ _ _ _ 9 (Array.replicate 9 false) _ _
  generalize hx : W.drew = w1 at hS
  clear hx
  refine held_take 1 rfl (by kernel_rfl) (by kernel_rfl) (by kernel_rfl) (.pointer (some ⟨w.heap.size, 0, none⟩)) (fun _ _ _ h => h) (by kernel_rfl) (fun _ _ => by kernel_rfl) hS ?_
  simp only [Act.put, List.setIfInBounds_toArray, List.set_cons_zero, List.set_cons_succ, List.getElem_toArray, List.getElem_cons_succ, List.getElem_cons_zero]
  refine held_take 2 rfl (by kernel_rfl) (by kernel_rfl) (by kernel_rfl) (.int .u8 (k : Int)) (fun _ _ _ h => h) (by kernel_rfl) (fun w' h => exec_load_cell 5 w' _ rfl ⟨w.heap.size, 0, none⟩ (by kernel_rfl) _ (e00 w' h) (fun _ => by kernel_rfl)) hS ?_
  simp only [Act.put, List.setIfInBounds_toArray, List.set_cons_zero, List.set_cons_succ, List.getElem_toArray, List.getElem_cons_succ, List.getElem_cons_zero]
  have hs1 : W.heap.size ≤ w1.heap.size := hS.size
  refine held_call 0 rfl (by kernel_rfl) (by kernel_rfl) 25 #[] (by kernel_rfl) (R := fun v w' => ∃ g, v = .map (some g) ∧ w'.heap[g]? = some (.map asks 2) ∧ Below W.heap.size W w') ((compares_calls w1).mono fun e w' h => by obtain ⟨g, h1, h2, h3⟩ := h; exact ⟨_, h1, g, rfl, h2, hS.trans (h3.mono hs1)⟩) ?_
  rintro _ w2 ⟨g, rfl, hg, hS2⟩
  refine ⟨hS2, ?_⟩
  simp only [Act.put, List.setIfInBounds_toArray, List.set_cons_zero, List.set_cons_succ, List.getElem_toArray, List.getElem_cons_succ, List.getElem_cons_zero]
  refine held_run 3 rfl (by kernel_rfl) (by kernel_rfl) (.tuple #[fv, .bool true]) w2 (exec_lookup _ _ rfl g (k : Int) _ (by kernel_rfl) (by kernel_rfl) w2 (hl w2 g hg)) hS2 ?_
  simp only [Act.put, List.setIfInBounds_toArray, List.set_cons_zero, List.set_cons_succ, List.getElem_toArray, List.getElem_cons_succ, List.getElem_cons_zero]
  refine held_run 4 rfl (by kernel_rfl) (by kernel_rfl) (.tuple #[fv, .bool true]) w2 (by kernel_rfl) hS2 ?_
  simp only [Act.put, List.setIfInBounds_toArray, List.set_cons_zero, List.set_cons_succ, List.getElem_toArray, List.getElem_cons_succ, List.getElem_cons_zero]
  refine held_take 5 rfl (by kernel_rfl) (by kernel_rfl) (by kernel_rfl) fv (fun _ _ _ h => h) (by kernel_rfl) (fun _ _ => by kernel_rfl) hS2 ?_
  simp only [Act.put, List.setIfInBounds_toArray, List.set_cons_zero, List.set_cons_succ, List.getElem_toArray, List.getElem_cons_succ, List.getElem_cons_zero]
  refine held_take 6 rfl (by kernel_rfl) (by kernel_rfl) (by kernel_rfl) (.bool true) (fun _ _ _ h => h) (by kernel_rfl) (fun _ _ => by kernel_rfl) hS2 ?_
  simp only [Act.put, List.setIfInBounds_toArray, List.set_cons_zero, List.set_cons_succ, List.getElem_toArray, List.getElem_cons_succ, List.getElem_cons_zero]
  refine held_take 7 rfl (by kernel_rfl) (by kernel_rfl) (by kernel_rfl) fv (fun _ _ _ h => h) (by kernel_rfl) (fun _ _ => by kernel_rfl) hS2 ?_
  simp only [Act.put, List.setIfInBounds_toArray, List.set_cons_zero, List.set_cons_succ, List.getElem_toArray, List.getElem_cons_succ, List.getElem_cons_zero]
  refine held_take 8 rfl (by kernel_rfl) (by kernel_rfl) (by kernel_rfl) (.bool true) (fun _ _ _ h => h) (by kernel_rfl) (fun _ _ => by kernel_rfl) hS2 ?_
  simp only [Act.put, List.setIfInBounds_toArray, List.set_cons_zero, List.set_cons_succ, List.getElem_toArray, List.getElem_cons_succ, List.getElem_cons_zero]
  refine wpAnyH_done (by kernel_rfl) ?_ 0
  rename_i hK
  refine hK _ _ ?_
  have hBw2 : Below w.heap.size w w2 := hWB.trans (hS2.mono (by omega))
  have ew2 : w2.cell? ⟨w.heap.size, 2, none⟩ = some (.slice (some ⟨g0, o, none⟩) 2 c) := by rw [hS2.cell (by show w.heap.size < _; omega), cell_of_row _ _ _ _ _ _ hW0]; rfl
  have hs2 := hS2.size
  clear hs1 hS hS2 hW0 e00 hK hl hg
  go_upto_region 4 with fail
  refine wp_region_lit ?_
  refine sl_run rfl (.slice A3 q c3) w2 (by kernel_rfl) ?_
  refine sl_run rfl (.pointer (some ⟨w.heap.size, 2, none⟩)) w2 (by kernel_rfl) ?_
  refine sl_run rfl (.slice (some ⟨g0, o, none⟩) 2 c) w2 (exec_load_cell 22 w2 _ rfl ⟨w.heap.size, 2, none⟩ (by kernel_rfl) _ ew2 (fun _ => by kernel_rfl)) ?_
  simp only [Act.put, List.setIfInBounds_toArray, List.set_cons_zero, List.set_cons_succ]
  refine sl_run rfl (.pointer (some ⟨g0, o + 0 * 3, none⟩)) w2 (exec_index un22 sz22 _ _ rfl g0 o 2 c 0 (by kernel_rfl) (by kernel_rfl) (by decide) w2) ?_
  rw [Nat.zero_mul, Nat.add_zero]
  refine sl_run rfl (.agg t0.c) w2 (exec_load_mid 48 w2 _ rfl g0 o (by kernel_rfl) t0.c.toList _ (range_below hra0.out hBw2 hg0) Try.underlying48 rfl (by kernel_rfl)) ?_
  simp only [Act.put, List.setIfInBounds_toArray, List.set_cons_zero, List.set_cons_succ]
  refine sl_call rfl 22 #[.slice A3 q c3, .agg t0.c] (by kernel_rfl) (R := fun v w' => v = .tuple #[.agg l0.1.c, .bool l0.2] ∧ Below w2.heap.size w2 w') ((c0 w2 hBw2).mono fun e w' h => ⟨_, h.1, rfl, h.2⟩) ?_
  rintro _ w4 ⟨rfl, hBw4⟩
  simp only [Act.put, List.setIfInBounds_toArray, List.set_cons_zero, List.set_cons_succ]
  refine sl_run rfl (.tuple #[.agg l0.1.c, .bool l0.2]) w4 (by kernel_rfl) ?_
  refine sl_run rfl (.agg l0.1.c) w4 (by kernel_rfl) ?_
  refine sl_run rfl (.bool l0.2) w4 (by kernel_rfl) ?_
  simp only [Act.put, List.setIfInBounds_toArray, List.set_cons_zero, List.set_cons_succ]
  refine sl_run rfl (.pointer (some ⟨w4.heap.size, 0, none⟩)) (w4.alloc (.cells (default : V2).c 46)) (by kernel_rfl) ?_
  refine wpList_store_row rfl 46 _ _ rfl w4.heap.size l0.1.c (by kernel_rfl) (by kernel_rfl) 46 _ (heap_alloc_new _ _) (by kernel_rfl) (by kernel_rfl) (v2_one _) ?_
  rw [World.setRow_alloc_new]
  refine sl_run rfl (.bool l0.2) (w4.alloc (.cells l0.1.c 46)) (by kernel_rfl) ?_
  refine wpList_nil ?_
  simp only [Act.put, List.setIfInBounds_toArray, List.set_cons_zero, List.set_cons_succ]
  have hsw4 := hBw4.size
  have hB5w4 : Below w2.heap.size w2 (w4.alloc (.cells l0.1.c 46)) := hBw4.alloc hsw4 _
  have hfw5 : (w4.alloc (.cells l0.1.c 46)).heap[w4.heap.size]? = some (.cells l0.1.c 46 (0, 0)) := heap_alloc_new _ _
  have hssw5 : (w4.alloc (.cells l0.1.c 46)).heap.size = w4.heap.size + 1 := by simp
  generalize w4.alloc _ = w5 at hB5w4 hfw5 hssw5
  generalize w4.heap.size = f at hfw5 hsw4 hssw5 ⊢
  have ew5 : w5.cell? ⟨w.heap.size, 2, none⟩ = some (.slice (some ⟨g0, o, none⟩) 2 c) := by rw [hB5w4.cell (by show w.heap.size < _; omega)]; exact ew2
  have hBw5 : Below w.heap.size w w5 := hBw2.trans (hB5w4.mono (by omega))
  clear ew2 hBw4 hBw2 c0
  go_upto_region 5 with fail
  refine wp_region_lit ?_
  refine sl_run rfl (.slice A3 q c3) w5 (by kernel_rfl) ?_
  refine sl_run rfl (.pointer (some ⟨w.heap.size, 2, none⟩)) w5 (by kernel_rfl) ?_
  refine sl_run rfl (.slice (some ⟨g0, o, none⟩) 2 c) w5 (exec_load_cell 22 w5 _ rfl ⟨w.heap.size, 2, none⟩ (by kernel_rfl) _ ew5 (fun _ => by kernel_rfl)) ?_
  simp only [Act.put, List.setIfInBounds_toArray, List.set_cons_zero, List.set_cons_succ]
  refine sl_run rfl (.pointer (some ⟨g0, o + 1 * 3, none⟩)) w5 (exec_index un22 sz22 _ _ rfl g0 o 2 c 1 (by kernel_rfl) (by kernel_rfl) (by decide) w5) ?_
  rw [Nat.one_mul]
  refine sl_run rfl (.agg t1.c) w5 (exec_load_mid 48 w5 _ rfl g0 (o + 3) (by kernel_rfl) t1.c.toList _ (range_below hra1.out hBw5 hg0) Try.underlying48 rfl (by kernel_rfl)) ?_
  simp only [Act.put, List.setIfInBounds_toArray, List.set_cons_zero, List.set_cons_succ]
  refine sl_call rfl 22 #[.slice A3 q c3, .agg t1.c] (by kernel_rfl) (R := fun v w' => v = .tuple #[.agg l1.1.c, .bool l1.2] ∧ Below w5.heap.size w5 w') ((c1 w5 hBw5).mono fun e w' h => ⟨_, h.1, rfl, h.2⟩) ?_
  rintro _ w6 ⟨rfl, hBw6⟩
  simp only [Act.put, List.setIfInBounds_toArray, List.set_cons_zero, List.set_cons_succ]
  refine sl_run rfl (.tuple #[.agg l1.1.c, .bool l1.2]) w6 (by kernel_rfl) ?_
  refine sl_run rfl (.agg l1.1.c) w6 (by kernel_rfl) ?_
  refine sl_run rfl (.bool l1.2) w6 (by kernel_rfl) ?_
  simp only [Act.put, List.setIfInBounds_toArray, List.set_cons_zero, List.set_cons_succ]
  refine sl_run rfl (.pointer (some ⟨w6.heap.size, 0, none⟩)) (w6.alloc (.cells (default : V2).c 46)) (by kernel_rfl) ?_
  refine wpList_store_row rfl 46 _ _ rfl w6.heap.size l1.1.c (by kernel_rfl) (by kernel_rfl) 46 _ (heap_alloc_new _ _) (by kernel_rfl) (by kernel_rfl) (v2_one _) ?_
  rw [World.setRow_alloc_new]
  refine sl_run rfl (.bool l1.2) (w6.alloc (.cells l1.1.c 46)) (by kernel_rfl) ?_
  refine wpList_nil ?_
  simp only [Act.put, List.setIfInBounds_toArray, List.set_cons_zero, List.set_cons_succ]
  have hsw6 := hBw6.size
  have hB5w6 : Below w5.heap.size w5 (w6.alloc (.cells l1.1.c 46)) := hBw6.alloc hsw6 _
  have hfw7 : (w6.alloc (.cells l1.1.c 46)).heap[w6.heap.size]? = some (.cells l1.1.c 46 (0, 0)) := heap_alloc_new _ _
  have hssw7 : (w6.alloc (.cells l1.1.c 46)).heap.size = w6.heap.size + 1 := by simp
  generalize w6.alloc _ = w7 at hB5w6 hfw7 hssw7
  generalize w6.heap.size = fa at hfw7 hsw6 hssw7 ⊢
  have ew7 : w7.cell? ⟨w.heap.size, 2, none⟩ = some (.slice (some ⟨g0, o, none⟩) 2 c) := by rw [hB5w6.cell (by show w.heap.size < _; omega)]; exact ew5
  have hBw7 : Below w.heap.size w w7 := hBw5.trans (hB5w6.mono (by omega))
  have hf7 : w7.heap[f]? = some (.cells l0.1.c 46 (0, 0)) := by rw [hB5w6.block f (by omega)]; exact hfw5
  clear ew5 hBw6 hBw5 c1 hfw5 hB5w6 hB5w4 ew7 hra0 hra1
  go_upto_region 6 with fail
  obtain ⟨⟨x0, z0⟩, y0⟩ := l0
  obtain ⟨⟨x1, z1⟩, y1⟩ := l1
  obtain ⟨hr1, hr2⟩ := hrr.out
  cases y0
  · have hr1 : r1 = false := hr1
    have hr2 : r2 = false := hr2
    subst hr1 hr2
    clear hrr
    refine wp_region_lit ?_
    refine sg_run (by kernel_rfl) (.bool false) w7 (by kernel_rfl) ?_
    simp only [Act.put, List.setIfInBounds_toArray, List.set_cons_zero, List.set_cons_succ]
    refine sg_run (by kernel_rfl) (.bool false) w7 (by kernel_rfl) ?_
    simp only [Act.put, List.setIfInBounds_toArray, List.set_cons_zero, List.set_cons_succ]
    refine wpList_skip (by kernel_rfl) ?_
    simp only [Act.put, List.setIfInBounds_toArray, List.set_cons_zero, List.set_cons_succ]
    refine sg_run (by kernel_rfl) (.bool false) w7 (by kernel_rfl) ?_
    simp only [Act.put, List.setIfInBounds_toArray, List.set_cons_zero, List.set_cons_succ]
    refine sg_run (by kernel_rfl) (.bool false) w7 (by kernel_rfl) ?_
    simp only [Act.put, List.setIfInBounds_toArray, List.set_cons_zero, List.set_cons_succ]
    refine wpList_skip (by kernel_rfl) ?_
    simp only [Act.put, List.setIfInBounds_toArray, List.set_cons_zero, List.set_cons_succ]
    refine wpList_skip (by kernel_rfl) ?_
    simp only [Act.put, List.setIfInBounds_toArray, List.set_cons_zero, List.set_cons_succ]
    refine wpList_skip (by kernel_rfl) ?_
    simp only [Act.put, List.setIfInBounds_toArray, List.set_cons_zero, List.set_cons_succ]
    refine wpList_skip (by kernel_rfl) ?_
    simp only [Act.put, List.setIfInBounds_toArray, List.set_cons_zero, List.set_cons_succ]
    refine wpList_skip (by kernel_rfl) ?_
    simp only [Act.put, List.setIfInBounds_toArray, List.set_cons_zero, List.set_cons_succ]
    refine sg_run (by kernel_rfl) (.bool false) w7 (by kernel_rfl) ?_
    simp only [Act.put, List.setIfInBounds_toArray, List.set_cons_zero, List.set_cons_succ]
    refine sg_run (by kernel_rfl) (.bool false) w7 (by kernel_rfl) ?_
    simp only [Act.put, List.setIfInBounds_toArray, List.set_cons_zero, List.set_cons_succ]
    refine sg_run (by kernel_rfl) (.bool false) w7 (by kernel_rfl) ?_
    simp only [Act.put, List.setIfInBounds_toArray, List.set_cons_zero, List.set_cons_succ]
    refine wpList_skip (by kernel_rfl) ?_
    simp only [Act.put, List.setIfInBounds_toArray, List.set_cons_zero, List.set_cons_succ]
    refine sg_run (by kernel_rfl) (.bool false) w7 (by kernel_rfl) ?_
    simp only [Act.put, List.setIfInBounds_toArray, List.set_cons_zero, List.set_cons_succ]
    refine sg_run (by kernel_rfl) (.bool false) w7 (by kernel_rfl) ?_
    simp only [Act.put, List.setIfInBounds_toArray, List.set_cons_zero, List.set_cons_succ]
    refine sg_run (by kernel_rfl) (.bool false) w7 (by kernel_rfl) ?_
    simp only [Act.put, List.setIfInBounds_toArray, List.set_cons_zero, List.set_cons_succ]
    refine wpList_nil ?_
    rename_i hK
    refine hK _ _ (wp_ret ?_)
    refine bodyPost_ret (v := .tuple #[.bool false, .bool false]) (by kernel_rfl) (by kernel_rfl) ?_
    exact ⟨rfl, hBw7⟩
  · cases y1
    · have hr1 : r1 = false := hr1
      have hr2 : r2 = false := hr2
      subst hr1 hr2
      clear hrr
      refine wp_region_lit ?_
      refine sg_run (by kernel_rfl) (.bool true) w7 (by kernel_rfl) ?_
      simp only [Act.put, List.setIfInBounds_toArray, List.set_cons_zero, List.set_cons_succ]
      refine sg_run (by kernel_rfl) (.bool true) w7 (by kernel_rfl) ?_
      simp only [Act.put, List.setIfInBounds_toArray, List.set_cons_zero, List.set_cons_succ]
      refine sg_run (by kernel_rfl) (.bool false) w7 (by kernel_rfl) ?_
      simp only [Act.put, List.setIfInBounds_toArray, List.set_cons_zero, List.set_cons_succ]
      refine sg_run (by kernel_rfl) (.bool false) w7 (by kernel_rfl) ?_
      simp only [Act.put, List.setIfInBounds_toArray, List.set_cons_zero, List.set_cons_succ]
      refine sg_run (by kernel_rfl) (.bool false) w7 (by kernel_rfl) ?_
      simp only [Act.put, List.setIfInBounds_toArray, List.set_cons_zero, List.set_cons_succ]
      refine wpList_skip (by kernel_rfl) ?_
      simp only [Act.put, List.setIfInBounds_toArray, List.set_cons_zero, List.set_cons_succ]
      refine wpList_skip (by kernel_rfl) ?_
      simp only [Act.put, List.setIfInBounds_toArray, List.set_cons_zero, List.set_cons_succ]
      refine wpList_skip (by kernel_rfl) ?_
      simp only [Act.put, List.setIfInBounds_toArray, List.set_cons_zero, List.set_cons_succ]
      refine wpList_skip (by kernel_rfl) ?_
      simp only [Act.put, List.setIfInBounds_toArray, List.set_cons_zero, List.set_cons_succ]
      refine wpList_skip (by kernel_rfl) ?_
      simp only [Act.put, List.setIfInBounds_toArray, List.set_cons_zero, List.set_cons_succ]
      refine sg_run (by kernel_rfl) (.bool false) w7 (by kernel_rfl) ?_
      simp only [Act.put, List.setIfInBounds_toArray, List.set_cons_zero, List.set_cons_succ]
      refine sg_run (by kernel_rfl) (.bool true) w7 (by kernel_rfl) ?_
      simp only [Act.put, List.setIfInBounds_toArray, List.set_cons_zero, List.set_cons_succ]
      refine sg_run (by kernel_rfl) (.bool true) w7 (by kernel_rfl) ?_
      simp only [Act.put, List.setIfInBounds_toArray, List.set_cons_zero, List.set_cons_succ]
      refine sg_run (by kernel_rfl) (.bool false) w7 (by kernel_rfl) ?_
      simp only [Act.put, List.setIfInBounds_toArray, List.set_cons_zero, List.set_cons_succ]
      refine sg_run (by kernel_rfl) (.bool false) w7 (by kernel_rfl) ?_
      simp only [Act.put, List.setIfInBounds_toArray, List.set_cons_zero, List.set_cons_succ]
      refine sg_run (by kernel_rfl) (.bool false) w7 (by kernel_rfl) ?_
      simp only [Act.put, List.setIfInBounds_toArray, List.set_cons_zero, List.set_cons_succ]
      refine sg_run (by kernel_rfl) (.bool false) w7 (by kernel_rfl) ?_
      simp only [Act.put, List.setIfInBounds_toArray, List.set_cons_zero, List.set_cons_succ]
      refine wpList_nil ?_
      rename_i hK
      refine hK _ _ (wp_ret ?_)
      refine bodyPost_ret (v := .tuple #[.bool false, .bool false]) (by kernel_rfl) (by kernel_rfl) ?_
      exact ⟨rfl, hBw7⟩
    · have hr1 : r1 = ask (cmpV ⟨x0, z0⟩ ⟨x1, z1⟩) := hr1
      have hr2 : r2 = true := hr2
      subst hr2
      clear hrr
      obtain ⟨z, hz⟩ : ∃ z, z = cmpV ⟨x0, z0⟩ ⟨x1, z1⟩ := ⟨_, rfl⟩
      rw [← hz] at hr1
      have hcc : Calls Try.prog 26 #[.agg (V2.c ⟨x0, z0⟩), .agg (V2.c ⟨x1, z1⟩)] w7 fun e w' => e = .returned (.int .i64 z) ∧ Below w7.heap.size w7 w' := by rw [hz]; exact compare_calls _ _ w7
      clear hz
      have hfv := hffH.out
      subst hfv
      refine wp_region_lit ?_
      refine sg_run (by kernel_rfl) (.bool true) w7 (by kernel_rfl) ?_
      refine sg_run (by kernel_rfl) (.bool true) w7 (by kernel_rfl) ?_
      simp only [Act.put, List.setIfInBounds_toArray, List.set_cons_zero, List.set_cons_succ]
      refine sg_run (by kernel_rfl) (.bool true) w7 (by kernel_rfl) ?_
      simp only [Act.put, List.setIfInBounds_toArray, List.set_cons_zero, List.set_cons_succ]
      refine sg_run (by kernel_rfl) (.bool true) w7 (by kernel_rfl) ?_
      simp only [Act.put, List.setIfInBounds_toArray, List.set_cons_zero, List.set_cons_succ]
      refine sg_run (by kernel_rfl) (.bool true) w7 (by kernel_rfl) ?_
      simp only [Act.put, List.setIfInBounds_toArray, List.set_cons_zero, List.set_cons_succ]
      refine sg_run (by kernel_rfl) (.func (.func ff) #[] #[]) w7 (by kernel_rfl) ?_
      simp only [Act.put, List.setIfInBounds_toArray, List.set_cons_zero, List.set_cons_succ]
      refine sg_run (by kernel_rfl) (.agg (V2.c ⟨x0, z0⟩)) w7 (exec_load_row 46 w7 _ rfl f (by kernel_rfl) 46 (V2.c ⟨x0, z0⟩) (0, 0) _ hf7 Try.underlying46 rfl (by kernel_rfl)) ?_
      simp only [Act.put, List.setIfInBounds_toArray, List.set_cons_zero, List.set_cons_succ]
      refine sg_run (by kernel_rfl) (.agg (V2.c ⟨x1, z1⟩)) w7 (exec_load_row 46 w7 _ rfl fa (by kernel_rfl) 46 (V2.c ⟨x1, z1⟩) (0, 0) _ hfw7 Try.underlying46 rfl (by kernel_rfl)) ?_
      simp only [Act.put, List.setIfInBounds_toArray, List.set_cons_zero, List.set_cons_succ]
      refine sg_call (by kernel_rfl) 26 #[.agg (V2.c ⟨x0, z0⟩), .agg (V2.c ⟨x1, z1⟩)] (by kernel_rfl) (R := fun v w' => v = .int .i64 z ∧ Below w7.heap.size w7 w') (hcc.mono fun e w' h => ⟨_, h.1, rfl, h.2⟩) ?_
      rintro _ w8 ⟨rfl, hB8⟩
      simp only [Act.put, List.setIfInBounds_toArray, List.set_cons_zero, List.set_cons_succ]
      refine sg_call (by kernel_rfl) ff #[.int .i64 z] (by clear hcf; rcases h34 with rfl | rfl <;> kernel_rfl) (R := fun v w' => v = .bool (ask z) ∧ w' = w8) ((hcf z w8).mono fun e w' h => ⟨_, h.1, rfl, h.2⟩) ?_
      rintro _ w9 ⟨rfl, h9⟩
      rw [h9]
      clear h9
      simp only [Act.put, List.setIfInBounds_toArray, List.set_cons_zero, List.set_cons_succ]
      rw [← hr1]
      refine sg_run (by kernel_rfl) (.bool r1) w8 (by kernel_rfl) ?_
      simp only [Act.put, List.setIfInBounds_toArray, List.set_cons_zero, List.set_cons_succ]
      refine sg_run (by kernel_rfl) (.bool true) w8 (by kernel_rfl) ?_
      simp only [Act.put, List.setIfInBounds_toArray, List.set_cons_zero, List.set_cons_succ]
      refine sg_run (by kernel_rfl) (.bool true) w8 (by kernel_rfl) ?_
      simp only [Act.put, List.setIfInBounds_toArray, List.set_cons_zero, List.set_cons_succ]
      refine sg_run (by kernel_rfl) (.bool true) w8 (by kernel_rfl) ?_
      simp only [Act.put, List.setIfInBounds_toArray, List.set_cons_zero, List.set_cons_succ]
      refine sg_run (by kernel_rfl) (.bool true) w8 (by kernel_rfl) ?_
      simp only [Act.put, List.setIfInBounds_toArray, List.set_cons_zero, List.set_cons_succ]
      refine sg_run (by kernel_rfl) (.bool r1) w8 (by kernel_rfl) ?_
      simp only [Act.put, List.setIfInBounds_toArray, List.set_cons_zero, List.set_cons_succ]
      refine sg_run (by kernel_rfl) (.bool true) w8 (by kernel_rfl) ?_
      refine wpList_nil ?_
      rename_i hK
      refine hK _ _ (wp_ret ?_)
      refine bodyPost_ret (v := .tuple #[.bool r1, .bool true]) (by kernel_rfl) (by kernel_rfl) ?_
      exact ⟨rfl, hBw7.trans (hB8.mono (by omega))⟩
theorem holds_calls (k : Nat) (p : ByteArray) (args b : List T3) (A A3 : Option Addr) (n q c c3 : Nat) (hn : n = args.length) (hq : q = b.length) (hn9 : n ≤ 1000000) (hq9 : q ≤ 1000000) (w : World)
    (hy : Rw 3 T3.c w (.slice A n c) args) (hz : Rw 3 T3.c w (.slice A3 q c3) b) :
    Calls Try.prog 15 #[.agg #[.int .u8 (k : Int), .string p, .slice A n c], .slice A3 q c3] w fun e w' => e = .returned (.tuple #[.bool (holdsS k args b).1, .bool (holdsS k args b).2]) ∧ Below w.heap.size w w' := by
  by_cases hk : k = 3 ∨ k = 4
  · by_cases hn2 : n = 2
    · subst hn2
      obtain ⟨g, o, rfl, hnc, hg, hra0⟩ := hy.elem 0 (by omega)
      obtain ⟨g', o', hgg, _, _, hra1⟩ := hy.elem 1 (by omega)
      injection hgg with hgg
      injection hgg with e1 e2
      subst e1 e2
      rw [Nat.zero_mul, Nat.add_zero] at hra0
      rw [Nat.one_mul] at hra1
      have c0 : ∀ (t : T3) (v : World), Below w.heap.size w v → Calls Try.prog 22 #[.slice A3 q c3, .agg t.c] v fun e w' => e = .returned (.tuple #[.agg (look b t).1.c, .bool (look b t).2]) ∧ Below v.heap.size v w' := fun t v h => look_calls b t A3 q c3 v hq (by omega) (hz.below h)
      have hS : ∀ (ask : Int → Bool), (∀ x y, (if k = 3 then decide (cmpV x y < 0) else (cmpV x y != 0)) = ask (cmpV x y)) → holdsS k args b = (if (look b (args.getD 0 default)).2 && (look b (args.getD 1 default)).2 then ask (cmpV (look b (args.getD 0 default)).1 (look b (args.getD 1 default)).1) else false, (look b (args.getD 0 default)).2 && (look b (args.getD 1 default)).2) := fun ask h => by
        unfold holdsS
        rw [if_pos ⟨hk, hn.symm⟩, h]
        generalize (look b (args.getD 0 default)).2 = u
        generalize (look b (args.getD 1 default)).2 = v
        cases u <;> cases v <;> rfl
      rcases hk with rfl | rfl
      · rw [hS (fun z => decide (z < 0)) (fun x y => by simp)]
        exact holds_two 3 p A3 g o q c c3 33 _ w rfl rfl rfl (.inl rfl) _ (fun z w => less_calls z w) _ _ _ _ hnc hg hra0 hra1 (c0 _) (c0 _) (fun W g h => run_look3 W g h)
      · rw [hS (fun z => z != 0) (fun x y => by simp)]
        exact holds_two 4 p A3 g o q c c3 34 _ w rfl rfl rfl (.inr rfl) _ (fun z w => unlike_calls z w) _ _ _ _ hnc hg hra0 hra1 (c0 _) (c0 _) (fun W g h => run_look4 W g h)
    · have hS : holdsS k args b = (false, false) := by unfold holdsS; rw [if_neg (fun h => hn2 (by omega))]
      rw [hS]
      rcases hk with rfl | rfl
      · exact holds_ne 3 p A A3 n q c c3 _ w rfl rfl (by omega) (fun W g h => run_look3 W g h)
      · exact holds_ne 4 p A A3 n q c c3 _ w rfl rfl (by omega) (fun W g h => run_look4 W g h)
  · have hS : holdsS k args b = (false, false) := by unfold holdsS; rw [if_neg (fun h => hk h.1)]
    rw [hS]
    exact holds_none k p A A3 n q c c3 .nilFunc w rfl rfl (fun W g h => run_missed W g k h (fun h => hk (.inl (by omega))) (fun h => hk (.inr (by omega))))

end Go.Proofs.Ytehgblnhhlgikaa.Bi
