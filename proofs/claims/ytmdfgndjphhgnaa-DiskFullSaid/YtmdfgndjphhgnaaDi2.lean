/-
  use, find of a disk.
-/
import Derived.Test.YtmdfgndjphhgnaaDi1
namespace Go.Proofs.Ytmdfgndjphhgnaa
open Go.RowKit
set_option linter.unusedVariables false
set_option linter.unusedSimpArgs false
theorem exec_minI {o : Oper} {a : Act} (x y : Operand) (ho : o.op = .call { callee := .builtin .min, args := #[x, y], argTypes := #[3, 3] }) (u v : Int) (hx : a.eval x = .int .i64 u) (hy : a.eval y = .int .i64 v) (w : World) : (execOp a.eval o).run Try.prog w = .ok (.value (.int .i64 (min u v))) w := by
  unfold execOp
  simp [ho, hx, hy, resolve, invoke, builtin, Builtin.min_, Builtin.min2, Result.andThen]
  try omega
theorem exec_subI {o : Oper} {a : Act} (x y : Operand) (ho : o.op = .binOp .sub 3 x y 3) (u v : Int) (hx : a.eval x = .int .i64 u) (hy : a.eval y = .int .i64 v) (h0 : -9223372036854775808 ≤ u - v) (h1 : u - v ≤ 9223372036854775807) (w : World) : (execOp a.eval o).run Try.prog w = .ok (.value (.int .i64 (u - v))) w := by
  unfold execOp
  have hw : IntKind.i64.wrap (u - v) = u - v := by rw [IntKind.wrap_i64]; omega
  simp [ho, hx, hy, eqGuard, binOp_sub, Op.intArith, hw]
set_option maxRecDepth 100000 in
theorem use_calls {w : World} {D mb : Nat} {d : DS} (h : DiskI w D mb d) (n : Nat) (hn : n ≤ 1000000000) : Calls Try.prog 34 #[.pointer (some ⟨D, 0, none⟩), .int .i64 (n : Int)] w fun e w' => e = .returned (.tuple #[.int .i64 (d.useN n : Int), .bool (d.useOk n)]) ∧ DiskI w' D mb (d.used n) ∧ KpS (TD D mb) w w' := by
  have c1 := h.c1
  have hDw : Hid (DiskI w D mb d) := h
  obtain ⟨N2, hN⟩ : ∃ N2, N2 = d.useN n := ⟨_, rfl⟩
  obtain ⟨B2, hB⟩ : ∃ B2, B2 = d.useOk n := ⟨_, rfl⟩
  obtain ⟨d2, hd⟩ : ∃ d2, d2 = d.used n := ⟨_, rfl⟩
  rw [← hN, ← hB, ← hd]
  by_cases hl : d.left < 0
  case pos =>
    obtain rfl : N2 = n := by rw [hN]; unfold DS.useN; rw [if_pos hl]
    obtain rfl : B2 = true := by rw [hB]; unfold DS.useOk; exact decide_eq_true (.inl hl)
    obtain rfl : d2 = d := by rw [hd]; unfold DS.used; rw [if_pos hl]
    clear hN hB hd h
    go_enter Try.func34, Try.ntmps34
    go_wp2_with fail
    go_ret2
    exact ⟨rfl, hDw.out, KpS.of (Below.refl _ _)⟩
  case neg =>
  obtain ⟨lf, hlf⟩ : ∃ lf : Nat, d.left = (lf : Int) := ⟨d.left.toNat, by omega⟩
  have hlt : lf < 9223372036854775808 := by have := h.left2; omega
  have e1 : d.left.toNat = lf := by omega
  obtain ⟨got, hgot⟩ : ∃ g, g = min n lf := ⟨_, rfl⟩
  have hN' : N2 = got := by rw [hN]; unfold DS.useN; rw [if_neg hl, e1, hgot]
  subst hN'
  obtain ⟨b, hb⟩ : ∃ b : Bool, b = decide (N2 < n) := ⟨_, rfl⟩
  have hBb : B2 = !b := by
    rw [hB, hb]; unfold DS.useOk
    rw [e1, Bool.eq_iff_iff]; simp; omega
  subst hBb
  have hd2 : d2 = ⟨d.L, (lf : Int) - (N2 : Int), b⟩ := by
    rw [hd]; unfold DS.used
    rw [if_neg hl, e1, hlf, ← hgot]
    have e2 : decide (lf < n) = b := by rw [hb, Bool.eq_iff_iff]; simp; omega
    rw [e2]
  have hdH : Hid (d2 = ⟨d.L, (lf : Int) - (N2 : Int), b⟩) := hd2
  have hgH : Hid (N2 = min n lf) := hgot
  have hbH : Hid (b = decide (N2 < n)) := hb
  have hI : ¬ (lf : Int) < 0 := by omega
  rw [hlf] at c1
  have hc1 : Hid (w.cell? ⟨D, 1, none⟩ = some (.int .i64 (lf : Int))) := c1
  clear hN hB hd h hl hd2 hgot hb c1
  go_enter Try.func34, Try.ntmps34
  have c1 := hc1.out
  go_upto_region 3 with fail
  clear c1
  refine wp_region_lit ?_
  refine sl_run rfl (.int .i64 (n : Int)) w (by kernel_rfl) ?_
  simp only [Act.put, List.setIfInBounds_toArray, List.set_cons_zero, List.set_cons_succ]
  refine sl_run rfl (.pointer (some ⟨D, 0, none⟩)) w (by kernel_rfl) ?_
  simp only [Act.put, List.setIfInBounds_toArray, List.set_cons_zero, List.set_cons_succ]
  refine sl_run rfl (.pointer (some ⟨D, 0, none⟩)) w (by kernel_rfl) ?_
  simp only [Act.put, List.setIfInBounds_toArray, List.set_cons_zero, List.set_cons_succ]
  refine sl_run rfl (.pointer (some ⟨D, 1, none⟩)) w (by kernel_rfl) ?_
  simp only [Act.put, List.setIfInBounds_toArray, List.set_cons_zero, List.set_cons_succ]
  refine sl_run rfl (.int .i64 (lf : Int)) w (exec_load_cell 3 w _ rfl ⟨D, 1, none⟩ (by kernel_rfl) _ hc1.out (fun _ => by kernel_rfl)) ?_
  simp only [Act.put, List.setIfInBounds_toArray, List.set_cons_zero, List.set_cons_succ]
  refine sl_run rfl (.int .i64 (N2 : Int)) w ((exec_minI _ _ rfl (n : Int) (lf : Int) (by kernel_rfl) (by kernel_rfl) w).trans (by rw [show min (n : Int) (lf : Int) = (N2 : Int) by have := hgH.out; omega])) ?_
  simp only [Act.put, List.setIfInBounds_toArray, List.set_cons_zero, List.set_cons_succ]
  refine sl_run rfl (.int .i64 (N2 : Int)) w (by kernel_rfl) ?_
  simp only [Act.put, List.setIfInBounds_toArray, List.set_cons_zero, List.set_cons_succ]
  refine wpList_nil ?_
  have hNl : N2 ≤ lf := by have := hgH.out; omega
  go_upto_region 4 with fail
  refine wp_region_lit ?_
  refine sl_run rfl (.pointer (some ⟨D, 0, none⟩)) w (by kernel_rfl) ?_
  simp only [Act.put, List.setIfInBounds_toArray, List.set_cons_zero, List.set_cons_succ]
  refine sl_run rfl (.pointer (some ⟨D, 0, none⟩)) w (by kernel_rfl) ?_
  simp only [Act.put, List.setIfInBounds_toArray, List.set_cons_zero, List.set_cons_succ]
  refine sl_run rfl (.pointer (some ⟨D, 1, none⟩)) w (by kernel_rfl) ?_
  simp only [Act.put, List.setIfInBounds_toArray, List.set_cons_zero, List.set_cons_succ]
  refine sl_run rfl (.int .i64 (lf : Int)) w (exec_load_cell 3 w _ rfl ⟨D, 1, none⟩ (by kernel_rfl) _ hc1.out (fun _ => by kernel_rfl)) ?_
  simp only [Act.put, List.setIfInBounds_toArray, List.set_cons_zero, List.set_cons_succ]
  refine sl_run rfl (.int .i64 (N2 : Int)) w (by kernel_rfl) ?_
  simp only [Act.put, List.setIfInBounds_toArray, List.set_cons_zero, List.set_cons_succ]
  refine sl_run rfl (.int .i64 ((lf : Int) - (N2 : Int))) w (exec_subI _ _ rfl (lf : Int) (N2 : Int) (by kernel_rfl) (by kernel_rfl) (by omega) (by omega) w) ?_
  simp only [Act.put, List.setIfInBounds_toArray, List.set_cons_zero, List.set_cons_succ]
  refine sl_run rfl (.pointer (some ⟨D, 0, none⟩)) w (by kernel_rfl) ?_
  simp only [Act.put, List.setIfInBounds_toArray, List.set_cons_zero, List.set_cons_succ]
  refine sl_run rfl (.pointer (some ⟨D, 1, none⟩)) w (by kernel_rfl) ?_
  simp only [Act.put, List.setIfInBounds_toArray, List.set_cons_zero, List.set_cons_succ]
  refine sl_skipped (by kernel_rfl) (w.setCell ⟨D, 1, none⟩ (.int .i64 ((lf : Int) - (N2 : Int)))) ?he ?_
  case he => exact exec_store_cell 3 _ _ rfl D 1 (by kernel_rfl) (.int .i64 ((lf : Int) - (N2 : Int))) (by kernel_rfl) _ hDw.out.c1 (hDw.out.fr 1) (fun w => by kernel_rfl) rfl rfl
  simp only [Act.put, List.setIfInBounds_toArray, List.set_cons_zero, List.set_cons_succ]
  have hDw2 : Hid (DiskI (w.setCell ⟨D, 1, none⟩ (.int .i64 ((lf : Int) - (N2 : Int)))) D mb ⟨d.L, (lf : Int) - (N2 : Int), d.off⟩) := hDw.out.set1 _ (by omega) (by omega)
  have hkw2 : Hid (KpS (TD D mb) w (w.setCell ⟨D, 1, none⟩ (.int .i64 ((lf : Int) - (N2 : Int))))) := kpD _ _ _ _ _
  generalize (w.setCell ⟨D, 1, none⟩ (.int .i64 ((lf : Int) - (N2 : Int)))) = w2 at hDw2 hkw2 ⊢
  clear hDw
  refine wpList_nil ?_
  go_upto_region 5 with fail
  refine wp_region_lit ?_
  refine sl_run rfl (.pointer (some ⟨D, 0, none⟩)) w2 (by kernel_rfl) ?_
  simp only [Act.put, List.setIfInBounds_toArray, List.set_cons_zero, List.set_cons_succ]
  refine sl_run rfl (.int .i64 (N2 : Int)) w2 (by kernel_rfl) ?_
  simp only [Act.put, List.setIfInBounds_toArray, List.set_cons_zero, List.set_cons_succ]
  refine sl_run rfl (.int .i64 (n : Int)) w2 (by kernel_rfl) ?_
  simp only [Act.put, List.setIfInBounds_toArray, List.set_cons_zero, List.set_cons_succ]
  refine sl_run rfl (.bool b) w2 (exec_lss 3 _ _ rfl (N2 : Int) (n : Int) (by kernel_rfl) (by kernel_rfl) b (by rw [hbH.out, Bool.eq_iff_iff]; simp)) ?_
  simp only [Act.put, List.setIfInBounds_toArray, List.set_cons_zero, List.set_cons_succ]
  refine sl_run rfl (.pointer (some ⟨D, 0, none⟩)) w2 (by kernel_rfl) ?_
  simp only [Act.put, List.setIfInBounds_toArray, List.set_cons_zero, List.set_cons_succ]
  refine sl_run rfl (.pointer (some ⟨D, 2, none⟩)) w2 (by kernel_rfl) ?_
  simp only [Act.put, List.setIfInBounds_toArray, List.set_cons_zero, List.set_cons_succ]
  refine sl_skipped (by kernel_rfl) (w2.setCell ⟨D, 2, none⟩ (.bool b)) ?he ?_
  case he => exact exec_store_cell 4 _ _ rfl D 2 (by kernel_rfl) (.bool b) (by kernel_rfl) _ hDw2.out.c2 (hDw2.out.fr 2) (fun w => by kernel_rfl) rfl rfl
  simp only [Act.put, List.setIfInBounds_toArray, List.set_cons_zero, List.set_cons_succ]
  have hDw3 : Hid (DiskI (w2.setCell ⟨D, 2, none⟩ (.bool b)) D mb ⟨d.L, (lf : Int) - (N2 : Int), b⟩) := hDw2.out.set2 b
  have hkw3 : Hid (KpS (TD D mb) w (w2.setCell ⟨D, 2, none⟩ (.bool b))) := hkw2.out.trans (kpD _ _ _ _ _)
  generalize (w2.setCell ⟨D, 2, none⟩ (.bool b)) = w3 at hDw3 hkw3 ⊢
  clear hDw2 hkw2
  refine wpList_nil ?_
  go_upto_region 6 with fail
  refine wp_normalG ?_
  refine wp_region_held_drew (S := fun w' => Below w3.heap.size w3 w') (by kernel_rfl) (Below.refl _ _).drew (fun hS => ?_)
  change wpAnyH _ _ _ _ _ 8 (Array.replicate 8 false) _ _
  generalize hx : w3.drew = y at hS ⊢
  clear hx
  refine held_take 0 rfl (by kernel_rfl) (by kernel_rfl) (by kernel_rfl) (.int .i64 (N2 : Int)) (fun _ _ _ h => nomatch h.1) (by kernel_rfl) (fun w' h => (by kernel_rfl)) hS ?_
  simp only [Act.put, List.setIfInBounds_toArray, List.set_cons_zero, List.set_cons_succ, List.getElem_toArray, List.getElem_cons_succ, List.getElem_cons_zero]
  refine held_take 1 rfl (by kernel_rfl) (by kernel_rfl) (by kernel_rfl) (.pointer (some ⟨D, 0, none⟩)) (fun _ _ _ h => nomatch h.1) (by kernel_rfl) (fun w' h => (by kernel_rfl)) hS ?_
  simp only [Act.put, List.setIfInBounds_toArray, List.set_cons_zero, List.set_cons_succ, List.getElem_toArray, List.getElem_cons_succ, List.getElem_cons_zero]
  refine held_take 2 rfl (by kernel_rfl) (by kernel_rfl) (by kernel_rfl) (.pointer (some ⟨D, 0, none⟩)) (fun _ _ _ h => nomatch h.1) (by kernel_rfl) (fun w' h => (by kernel_rfl)) hS ?_
  simp only [Act.put, List.setIfInBounds_toArray, List.set_cons_zero, List.set_cons_succ, List.getElem_toArray, List.getElem_cons_succ, List.getElem_cons_zero]
  refine held_take 3 rfl (by kernel_rfl) (by kernel_rfl) (by kernel_rfl) (.pointer (some ⟨D, 2, none⟩)) (fun _ _ _ h => nomatch h.1) (by kernel_rfl) (fun w' h => (by kernel_rfl)) hS ?_
  simp only [Act.put, List.setIfInBounds_toArray, List.set_cons_zero, List.set_cons_succ, List.getElem_toArray, List.getElem_cons_succ, List.getElem_cons_zero]
  refine held_take 4 rfl (by kernel_rfl) (by kernel_rfl) (by kernel_rfl) (.bool b) (fun _ _ _ h => nomatch h.1) (by kernel_rfl) (fun w' h => (exec_load_cell 4 w' _ rfl ⟨D, 2, none⟩ (by kernel_rfl) _ ((hDw3.out.below h).c2) (fun _ => by kernel_rfl))) hS ?_
  simp only [Act.put, List.setIfInBounds_toArray, List.set_cons_zero, List.set_cons_succ, List.getElem_toArray, List.getElem_cons_succ, List.getElem_cons_zero]
  refine held_take 5 rfl (by kernel_rfl) (by kernel_rfl) (by kernel_rfl) (.bool (!b)) (fun _ _ _ h => nomatch h.1) (by kernel_rfl) (fun w' h => by kernel_rfl) hS ?_
  simp only [Act.put, List.setIfInBounds_toArray, List.set_cons_zero, List.set_cons_succ, List.getElem_toArray, List.getElem_cons_succ, List.getElem_cons_zero]
  refine held_take 6 rfl (by kernel_rfl) (by kernel_rfl) (by kernel_rfl) (.int .i64 (N2 : Int)) (fun _ _ _ h => nomatch h.1) (by kernel_rfl) (fun w' h => (by kernel_rfl)) hS ?_
  simp only [Act.put, List.setIfInBounds_toArray, List.set_cons_zero, List.set_cons_succ, List.getElem_toArray, List.getElem_cons_succ, List.getElem_cons_zero]
  refine held_take 7 rfl (by kernel_rfl) (by kernel_rfl) (by kernel_rfl) (.bool (!b)) (fun _ _ _ h => nomatch h.1) (by kernel_rfl) (fun w' h => (by kernel_rfl)) hS ?_
  simp only [Act.put, List.setIfInBounds_toArray, List.set_cons_zero, List.set_cons_succ, List.getElem_toArray, List.getElem_cons_succ, List.getElem_cons_zero]
  have hF : Hid (DiskI y D mb d2 ∧ KpS (TD D mb) w y) := And.intro (by rw [hdH.out]; exact hDw3.out.below hS) (hkw3.out.trans (KpS.of hS))
  clear hS hDw3 hkw3 hdH hgH hbH hc1
  refine wpAnyH_done (by kernel_rfl) ?_ _
  refine ⟨rfl, ?_⟩
  rename_i hK
  refine hK _ _ ?_
  clear hK
  go_wp2_with fail
  go_ret2
  exact ⟨rfl, hF.out.1, hF.out.2⟩
end Go.Proofs.Ytmdfgndjphhgnaa
