/-
  one, and the acts that it is handed.
-/
import Derived.Test.YtmdfgndjphhgnaaDi3
namespace Go.Proofs.Ytmdfgndjphhgnaa
open Go.RowKit
set_option linter.unusedVariables false
set_option linter.unusedSimpArgs false
theorem exec_callfn {o : Oper} {a : Act} {w : World} (x : Operand) (ho : o.op = .call { callee := .value x, args := #[], argTypes := #[] }) (cl : FuncId) (caps : Array Value) (hx : a.eval x = .func (.func cl) #[] caps) (hcf : (callFunc cl caps).run Try.prog w = .ok (.enter cl caps) w) : (execOp a.eval o).run Try.prog w = .ok (.enter cl caps) w := by
  unfold execOp
  simp [ho, hx, resolve, invoke, Deferred.ofValue, Result.andThen, hcf]
theorem used_L (d : DS) (n : Nat) : (d.used n).L = d.L := by unfold DS.used; split <;> rfl
set_option maxRecDepth 100000 in
theorem one_calls {w : World} {D mb : Nat} {d : DS} (h : DiskI w D mb d) (cl : FuncId) (caps : Array Value) (hcf : ∀ w, (callFunc cl caps).run Try.prog w = .ok (.enter cl caps) w) (act : List FE → List FE)
    (hcl : ∀ w', KpS (TD D mb) w w' → DiskI w' D mb (d.used 1) → Calls Try.prog cl caps w' fun e w2 => e = .returned (.tuple #[]) ∧ DiskI w2 D mb { d.used 1 with L := act (d.used 1).L } ∧ KpS (TD D mb) w' w2) :
    Calls Try.prog 41 #[.pointer (some ⟨D, 0, none⟩), .func (.func cl) #[] caps] w fun e w' => e = .returned (.int .i64 ((d.one act).2 : Int)) ∧ DiskI w' D mb (d.one act).1 ∧ KpS (TD D mb) w w' := by
  have hDw : Hid (DiskI w D mb d) := h
  have hcH : Hid (∀ w', KpS (TD D mb) w w' → DiskI w' D mb (d.used 1) → Calls Try.prog cl caps w' fun e w2 => e = .returned (.tuple #[]) ∧ DiskI w2 D mb { d.used 1 with L := act (d.used 1).L } ∧ KpS (TD D mb) w' w2) := hcl
  obtain ⟨d1, er, hd1⟩ : ∃ p q, d.one act = (p, q) := ⟨_, _, rfl⟩
  rw [hd1]
  have hd1H : Hid (d.one act = (d1, er)) := hd1
  clear h hcl hd1
  go_enter Try.func41, Try.ntmps41
  go_upto_region 1 with fail
  refine wp_region_lit ?_
  refine sl_run rfl (.pointer (some ⟨D, 0, none⟩)) w (by kernel_rfl) ?_
  simp only [Act.put, List.setIfInBounds_toArray, List.set_cons_zero, List.set_cons_succ]
  refine sg_call (by kernel_rfl) 34 #[.pointer (some ⟨D, 0, none⟩), .int .i64 1] (by kernel_rfl) (R := fun v w' => v = .tuple #[.int .i64 (d.useN 1 : Int), .bool (d.useOk 1)] ∧ DiskI w' D mb (d.used 1) ∧ KpS (TD D mb) w w') ((use_calls hDw.out 1 (by decide)).mono fun e w' h => ⟨_, h.1, rfl, h.2⟩) ?_
  rintro _ w2 ⟨rfl, hD2, hK2⟩
  simp only [Act.put, List.setIfInBounds_toArray, List.set_cons_zero, List.set_cons_succ]
  have hDw2 : Hid (DiskI w2 D mb (d.used 1)) := hD2
  have hKw2 : Hid (KpS (TD D mb) w w2) := hK2
  clear hD2 hK2 hDw
  refine sl_run rfl (.tuple #[.int .i64 (d.useN 1 : Int), .bool (d.useOk 1)]) w2 (by kernel_rfl) ?_
  simp only [Act.put, List.setIfInBounds_toArray, List.set_cons_zero, List.set_cons_succ]
  refine sl_run rfl (.int .i64 (d.useN 1 : Int)) w2 (by kernel_rfl) ?_
  simp only [Act.put, List.setIfInBounds_toArray, List.set_cons_zero, List.set_cons_succ]
  refine sl_run rfl (.bool (d.useOk 1)) w2 (by kernel_rfl) ?_
  simp only [Act.put, List.setIfInBounds_toArray, List.set_cons_zero, List.set_cons_succ]
  refine sl_run rfl (.int .i64 (d.useN 1 : Int)) w2 (by kernel_rfl) ?_
  simp only [Act.put, List.setIfInBounds_toArray, List.set_cons_zero, List.set_cons_succ]
  refine sl_run rfl (.bool (d.useOk 1)) w2 (by kernel_rfl) ?_
  simp only [Act.put, List.setIfInBounds_toArray, List.set_cons_zero, List.set_cons_succ]
  refine wpList_nil ?_
  generalize (d.useN 1 : Int) = un
  obtain ⟨b, hb⟩ : ∃ b, b = d.useOk 1 := ⟨_, rfl⟩
  rw [← hb]
  have hbH : Hid (b = d.useOk 1) := hb
  clear hb
  cases b with
  | false =>
    have hF : Hid (d1 = d.used 1 ∧ er = 20) := by
      have h8 := hd1H.out
      unfold DS.one at h8
      rw [if_neg (by rw [← hbH.out]; decide)] at h8
      injection h8 with h8 h9
      exact And.intro h8.symm h9.symm
    obtain ⟨rfl, rfl⟩ := hF.out
    clear hF hbH hd1H hcH
    go_wp2_with fail
    go_ret
    exact ⟨rfl, hDw2.out, hKw2.out⟩
  | true =>
    have hF : Hid (d1 = { d.used 1 with L := act d.L } ∧ er = 0) := by
      have h8 := hd1H.out
      unfold DS.one at h8
      rw [if_pos hbH.out.symm] at h8
      injection h8 with h8 h9
      exact And.intro h8.symm h9.symm
    obtain ⟨rfl, rfl⟩ := hF.out
    clear hF hbH hd1H
    go_upto_region 4 with fail
    refine wp_region_lit ?_
    refine sl_run rfl (.func (.func cl) #[] caps) w2 (by kernel_rfl) ?_
    simp only [Act.put, List.setIfInBounds_toArray, List.set_cons_zero, List.set_cons_succ]
    refine sg_call (by kernel_rfl) cl caps ?he (R := fun v w' => v = .tuple #[] ∧ DiskI w' D mb { d.used 1 with L := act (d.used 1).L } ∧ KpS (TD D mb) w2 w') ?hc ?_
    case he => exact exec_callfn _ rfl cl caps (by kernel_rfl) (hcf w2)
    case hc => exact (hcH.out w2 hKw2.out hDw2.out).mono fun e w' h => ⟨_, h.1, rfl, h.2⟩
    rintro _ w3 ⟨rfl, hD3, hK3⟩
    simp only [Act.put, List.setIfInBounds_toArray, List.set_cons_zero, List.set_cons_succ]
    rw [used_L] at hD3
    have hDw3 : Hid (DiskI w3 D mb { d.used 1 with L := act d.L }) := hD3
    have hKw3 : Hid (KpS (TD D mb) w w3) := hKw2.out.trans hK3
    clear hD3 hK3 hDw2 hKw2 hcH
    refine wpList_nil ?_
    go_wp2_with fail
    go_ret
    exact ⟨rfl, hDw3.out, hKw3.out⟩
section
variable {P : Program} {ops : Array Oper} {Q : Exit → Act → World → Prop} {md : Region.Mode} {S : World → Prop} {fuel : Nat} {listed : Array Bool} {a : Act} {w : World}
theorem held_act (i : Nat) {oi : Oper} (hi : ops[i]? = some oi) (hr : Region.ready md ops listed = [i]) (hw : Region.wanted oi (yielded ops a.tmps) = true) {R : World → Prop}
    (he : ∃ w', (execOp a.eval oi).run P w = .ok .skip w' ∧ R w') (h : ∀ w', R w' → S w' ∧ wpAnyH P md ops Q S fuel (listed.setIfInBounds i true) (a.put oi.dst undef) w') : wpAnyH P md ops Q S (fuel + 1) listed a w := by
  obtain ⟨w', he, hR⟩ := he
  exact held_did i hi hr hw w' he (h w' hR).1 (h w' hR).2
end
theorem exec_mapset {o : Oper} {a : Act} {w : World} (x y z : Operand) (ho : o.op = .mapUpdate 61 x y z) {D mb : Nat} {d : DS} (h : DiskI w D mb d) (f : FE) (v : Value) (hv : Rw 1 encB w v f.bs) (hf : f.sure ≤ f.bs.length ∧ f.bs.length ≤ 1048576) (hx : a.eval x = .map (some mb)) (hy : a.eval y = .string f.nm) (hz : a.eval z = .agg #[v, .int .i64 (f.sure : Int)]) :
    ∃ w', (execOp a.eval o).run Try.prog w = .ok .skip w' ∧ DiskI w' D mb { d with L := DS.putL d.L f } ∧ KpS (TD D mb) w w' := by
  obtain ⟨w', hr, h2, h3⟩ := h.put un61 un9 f v hv hf
  refine ⟨w', ?_, h2, h3⟩
  unfold execOp
  simp [ho, hx, hy, hz, hr, Result.andThen]
theorem exec_mapdel {o : Oper} {a : Act} {w : World} (x y : Operand) (ho : o.op = .call { callee := .builtin .delete, args := #[x, y], argTypes := #[61, 9] }) {D mb : Nat} {d : DS} (h : DiskI w D mb d) (s : ByteArray) (hx : a.eval x = .map (some mb)) (hy : a.eval y = .string s) :
    ∃ v w', (execOp a.eval o).run Try.prog w = .ok (.value v) w' ∧ DiskI w' D mb { d with L := DS.del d.L s } ∧ KpS (TD D mb) w w' := by
  obtain ⟨w', hr, h2, h3⟩ := h.del un61 un9 s o.type 9
  refine ⟨.tuple #[], w', ?_, h2, h3⟩
  unfold execOp
  simp [ho, hx, hy, resolve, invoke, builtin, hr, Result.andThen]
/-- A box of another kind stays. -/
theorem KpS.box {w w' : World} {D mb g : Nat} {d : DS} {cs : Array Value} {t : TypeId} (h : KpS (TD D mb) w w') (hD : DiskI w D mb d) (hg : w.heap[g]? = some (.cells cs t (0, 0))) (ht : t ≠ 63) : w'.heap[g]? = some (.cells cs t (0, 0)) :=
  h.heap hg (fun hs => by
    rcases hs with rfl | rfl
    · rw [hD.row] at hg; simp at hg; exact ht hg.2.symm
    · obtain ⟨L, ⟨es, clock, hm⟩, _⟩ := hD.ex
      rw [hm.heap] at hg; cases hg)
set_option maxRecDepth 100000 in
theorem sync1_calls {w : World} {D mb : Nat} {d : DS} (h : DiskI w D mb d) (F Bd Bn : Nat) (f : FE) (v : Value) (hv : Rw 1 encB w v f.bs) (hfs : f.sure ≤ f.bs.length ∧ f.bs.length ≤ 1048576) (hf : w.heap[F]? = some (.cells #[v, .int .i64 (f.sure : Int)] 65 (0, 0))) (hd : w.heap[Bd]? = some (.cells #[.pointer (some ⟨D, 0, none⟩)] 23 (0, 0))) (hn : w.heap[Bn]? = some (.cells #[.string f.nm] 9 (0, 0))) :
    Calls Try.prog 42 #[.pointer (some ⟨F, 0, none⟩), .pointer (some ⟨Bd, 0, none⟩), .pointer (some ⟨Bn, 0, none⟩)] w fun e w2 => e = .returned (.tuple #[]) ∧ DiskI w2 D mb { d with L := DS.putL d.L f } ∧ KpS (TD D mb) w w2 := by
  have hDw : Hid (DiskI w D mb d) := h
  have hvH : Hid (Rw 1 encB w v f.bs) := hv
  have hfsH : Hid (f.sure ≤ f.bs.length ∧ f.bs.length ≤ 1048576) := hfs
  have hfH : Hid (w.heap[F]? = some (.cells #[v, .int .i64 (f.sure : Int)] 65 (0, 0))) := hf
  have hdH : Hid (w.heap[Bd]? = some (.cells #[.pointer (some ⟨D, 0, none⟩)] 23 (0, 0))) := hd
  have hnH : Hid (w.heap[Bn]? = some (.cells #[.string f.nm] 9 (0, 0))) := hn
  clear h hv hfs hf hd hn
  go_enter Try.func42, Try.ntmps42
  go_upto_region 0 with fail
  refine wp_normalG ?_
  refine wp_region_held_drew (S := fun w' => KpS (TD D mb) w w' ∧ w'.cell? ⟨D, 0, none⟩ = some (.map (some mb))) (by kernel_rfl) ⟨KpS.of (Below.refl _ _).drew, by rw [(Below.refl w.heap.size w).drew.cell (by exact (Array.getElem?_eq_some_iff.1 hDw.out.row).1)]; exact hDw.out.c0⟩ (fun hS => ?_)
  change wpAnyH _ _ _ _ _ 7 (Array.replicate 7 false) _ _
  have hDy : DiskI w.drew D mb d := hDw.out.below (Below.refl _ _).drew
  have hvy : Rw 1 encB w.drew v f.bs := hvH.out.below (Below.refl _ _).drew
  generalize hx : w.drew = y at hS hDy hvy
  clear hx
  refine held_take 0 rfl (by kernel_rfl) (by kernel_rfl) (by kernel_rfl) (.pointer (some ⟨D, 0, none⟩)) (fun _ _ _ h => nomatch h.1) (by kernel_rfl) (fun w' h => (exec_load_cell 23 w' _ rfl ⟨Bd, 0, none⟩ (by kernel_rfl) _ (by rw [cell_of_row _ _ _ _ _ _ (h.1.box hDw.out hdH.out (by decide))]; rfl) (fun _ => by kernel_rfl))) hS ?_
  simp only [Act.put, List.setIfInBounds_toArray, List.set_cons_zero, List.set_cons_succ, List.getElem_toArray, List.getElem_cons_succ, List.getElem_cons_zero]
  refine held_take 1 rfl (by kernel_rfl) (by kernel_rfl) (by kernel_rfl) (.pointer (some ⟨D, 0, none⟩)) (fun _ _ _ h => nomatch h.1) (by kernel_rfl) (fun w' h => (by kernel_rfl)) hS ?_
  simp only [Act.put, List.setIfInBounds_toArray, List.set_cons_zero, List.set_cons_succ, List.getElem_toArray, List.getElem_cons_succ, List.getElem_cons_zero]
  refine held_take 2 rfl (by kernel_rfl) (by kernel_rfl) (by kernel_rfl) (.pointer (some ⟨D, 0, none⟩)) (fun _ _ _ h => nomatch h.1) (by kernel_rfl) (fun w' h => (by kernel_rfl)) hS ?_
  simp only [Act.put, List.setIfInBounds_toArray, List.set_cons_zero, List.set_cons_succ, List.getElem_toArray, List.getElem_cons_succ, List.getElem_cons_zero]
  refine held_take 3 rfl (by kernel_rfl) (by kernel_rfl) (by kernel_rfl) (.map (some mb)) (fun _ _ _ h => nomatch h.1) (by kernel_rfl) (fun w' h => (exec_load_cell 61 w' _ rfl ⟨D, 0, none⟩ (by kernel_rfl) _ h.2 (fun _ => by kernel_rfl))) hS ?_
  simp only [Act.put, List.setIfInBounds_toArray, List.set_cons_zero, List.set_cons_succ, List.getElem_toArray, List.getElem_cons_succ, List.getElem_cons_zero]
  refine held_take 4 rfl (by kernel_rfl) (by kernel_rfl) (by kernel_rfl) (.string f.nm) (fun _ _ _ h => nomatch h.1) (by kernel_rfl) (fun w' h => (exec_load_cell 9 w' _ rfl ⟨Bn, 0, none⟩ (by kernel_rfl) _ (by rw [cell_of_row _ _ _ _ _ _ (h.1.box hDw.out hnH.out (by decide))]; rfl) (fun _ => by kernel_rfl))) hS ?_
  simp only [Act.put, List.setIfInBounds_toArray, List.set_cons_zero, List.set_cons_succ, List.getElem_toArray, List.getElem_cons_succ, List.getElem_cons_zero]
  refine held_take 5 rfl (by kernel_rfl) (by kernel_rfl) (by kernel_rfl) (.agg (#[v, .int .i64 (f.sure : Int)])) (fun _ _ _ h => nomatch h.1) (by kernel_rfl) (fun w' h => (exec_load_row 65 w' _ rfl F (by kernel_rfl) 65 (#[v, .int .i64 (f.sure : Int)]) (0, 0) _ (h.1.box hDw.out hfH.out (by decide)) Try.underlying65 rfl (by kernel_rfl))) hS ?_
  simp only [Act.put, List.setIfInBounds_toArray, List.set_cons_zero, List.set_cons_succ, List.getElem_toArray, List.getElem_cons_succ, List.getElem_cons_zero]
  refine held_act 6 rfl (by kernel_rfl) (by kernel_rfl) (R := fun w' => DiskI w' D mb { d with L := DS.putL d.L f } ∧ KpS (TD D mb) y w') ?he ?_
  case he => exact exec_mapset _ _ _ rfl hDy f v hvy hfsH.out (by kernel_rfl) (by kernel_rfl) (by kernel_rfl)
  rintro y2 ⟨hD2, hK2⟩
  have hF : Hid (DiskI y2 D mb { d with L := DS.putL d.L f } ∧ KpS (TD D mb) w y2) := And.intro hD2 (hS.1.trans hK2)
  refine ⟨⟨hS.1.trans hK2, hD2.c0⟩, ?_⟩
  simp only [Act.put, List.setIfInBounds_toArray, List.set_cons_zero, List.set_cons_succ, List.getElem_toArray, List.getElem_cons_succ, List.getElem_cons_zero]
  clear hS hDy hvy hD2 hK2 hDw hvH hfsH hfH hdH hnH
  refine wpAnyH_done (by kernel_rfl) ?_ _
  refine ⟨rfl, ?_⟩
  go_wp2_with fail
  refine bodyPost_fall (v := .tuple #[]) (by kernel_rfl) (by kernel_rfl) ?_
  exact ⟨rfl, hF.out.1, hF.out.2⟩
set_option maxRecDepth 100000 in
theorem cut1_calls {w : World} {D mb : Nat} {d : DS} (h : DiskI w D mb d) (F Bd Bn : Nat) (f : FE) (v : Value) (hv : Rw 1 encB w v f.bs) (hfs : f.sure ≤ f.bs.length ∧ f.bs.length ≤ 1048576) (hf : w.heap[F]? = some (.cells #[v, .int .i64 (f.sure : Int)] 65 (0, 0))) (hd : w.heap[Bd]? = some (.cells #[.pointer (some ⟨D, 0, none⟩)] 23 (0, 0))) (hn : w.heap[Bn]? = some (.cells #[.string f.nm] 9 (0, 0))) :
    Calls Try.prog 47 #[.pointer (some ⟨F, 0, none⟩), .pointer (some ⟨Bd, 0, none⟩), .pointer (some ⟨Bn, 0, none⟩)] w fun e w2 => e = .returned (.tuple #[]) ∧ DiskI w2 D mb { d with L := DS.putL d.L f } ∧ KpS (TD D mb) w w2 := by
  have hDw : Hid (DiskI w D mb d) := h
  have hvH : Hid (Rw 1 encB w v f.bs) := hv
  have hfsH : Hid (f.sure ≤ f.bs.length ∧ f.bs.length ≤ 1048576) := hfs
  have hfH : Hid (w.heap[F]? = some (.cells #[v, .int .i64 (f.sure : Int)] 65 (0, 0))) := hf
  have hdH : Hid (w.heap[Bd]? = some (.cells #[.pointer (some ⟨D, 0, none⟩)] 23 (0, 0))) := hd
  have hnH : Hid (w.heap[Bn]? = some (.cells #[.string f.nm] 9 (0, 0))) := hn
  clear h hv hfs hf hd hn
  go_enter Try.func47, Try.ntmps47
  go_upto_region 0 with fail
  refine wp_normalG ?_
  refine wp_region_held_drew (S := fun w' => KpS (TD D mb) w w' ∧ w'.cell? ⟨D, 0, none⟩ = some (.map (some mb))) (by kernel_rfl) ⟨KpS.of (Below.refl _ _).drew, by rw [(Below.refl w.heap.size w).drew.cell (by exact (Array.getElem?_eq_some_iff.1 hDw.out.row).1)]; exact hDw.out.c0⟩ (fun hS => ?_)
  change wpAnyH _ _ _ _ _ 7 (Array.replicate 7 false) _ _
  have hDy : DiskI w.drew D mb d := hDw.out.below (Below.refl _ _).drew
  have hvy : Rw 1 encB w.drew v f.bs := hvH.out.below (Below.refl _ _).drew
  generalize hx : w.drew = y at hS hDy hvy
  clear hx
  refine held_take 0 rfl (by kernel_rfl) (by kernel_rfl) (by kernel_rfl) (.pointer (some ⟨D, 0, none⟩)) (fun _ _ _ h => nomatch h.1) (by kernel_rfl) (fun w' h => (exec_load_cell 23 w' _ rfl ⟨Bd, 0, none⟩ (by kernel_rfl) _ (by rw [cell_of_row _ _ _ _ _ _ (h.1.box hDw.out hdH.out (by decide))]; rfl) (fun _ => by kernel_rfl))) hS ?_
  simp only [Act.put, List.setIfInBounds_toArray, List.set_cons_zero, List.set_cons_succ, List.getElem_toArray, List.getElem_cons_succ, List.getElem_cons_zero]
  refine held_take 1 rfl (by kernel_rfl) (by kernel_rfl) (by kernel_rfl) (.pointer (some ⟨D, 0, none⟩)) (fun _ _ _ h => nomatch h.1) (by kernel_rfl) (fun w' h => (by kernel_rfl)) hS ?_
  simp only [Act.put, List.setIfInBounds_toArray, List.set_cons_zero, List.set_cons_succ, List.getElem_toArray, List.getElem_cons_succ, List.getElem_cons_zero]
  refine held_take 2 rfl (by kernel_rfl) (by kernel_rfl) (by kernel_rfl) (.pointer (some ⟨D, 0, none⟩)) (fun _ _ _ h => nomatch h.1) (by kernel_rfl) (fun w' h => (by kernel_rfl)) hS ?_
  simp only [Act.put, List.setIfInBounds_toArray, List.set_cons_zero, List.set_cons_succ, List.getElem_toArray, List.getElem_cons_succ, List.getElem_cons_zero]
  refine held_take 3 rfl (by kernel_rfl) (by kernel_rfl) (by kernel_rfl) (.map (some mb)) (fun _ _ _ h => nomatch h.1) (by kernel_rfl) (fun w' h => (exec_load_cell 61 w' _ rfl ⟨D, 0, none⟩ (by kernel_rfl) _ h.2 (fun _ => by kernel_rfl))) hS ?_
  simp only [Act.put, List.setIfInBounds_toArray, List.set_cons_zero, List.set_cons_succ, List.getElem_toArray, List.getElem_cons_succ, List.getElem_cons_zero]
  refine held_take 4 rfl (by kernel_rfl) (by kernel_rfl) (by kernel_rfl) (.string f.nm) (fun _ _ _ h => nomatch h.1) (by kernel_rfl) (fun w' h => (exec_load_cell 9 w' _ rfl ⟨Bn, 0, none⟩ (by kernel_rfl) _ (by rw [cell_of_row _ _ _ _ _ _ (h.1.box hDw.out hnH.out (by decide))]; rfl) (fun _ => by kernel_rfl))) hS ?_
  simp only [Act.put, List.setIfInBounds_toArray, List.set_cons_zero, List.set_cons_succ, List.getElem_toArray, List.getElem_cons_succ, List.getElem_cons_zero]
  refine held_take 5 rfl (by kernel_rfl) (by kernel_rfl) (by kernel_rfl) (.agg (#[v, .int .i64 (f.sure : Int)])) (fun _ _ _ h => nomatch h.1) (by kernel_rfl) (fun w' h => (exec_load_row 65 w' _ rfl F (by kernel_rfl) 65 (#[v, .int .i64 (f.sure : Int)]) (0, 0) _ (h.1.box hDw.out hfH.out (by decide)) Try.underlying65 rfl (by kernel_rfl))) hS ?_
  simp only [Act.put, List.setIfInBounds_toArray, List.set_cons_zero, List.set_cons_succ, List.getElem_toArray, List.getElem_cons_succ, List.getElem_cons_zero]
  refine held_act 6 rfl (by kernel_rfl) (by kernel_rfl) (R := fun w' => DiskI w' D mb { d with L := DS.putL d.L f } ∧ KpS (TD D mb) y w') ?he ?_
  case he => exact exec_mapset _ _ _ rfl hDy f v hvy hfsH.out (by kernel_rfl) (by kernel_rfl) (by kernel_rfl)
  rintro y2 ⟨hD2, hK2⟩
  have hF : Hid (DiskI y2 D mb { d with L := DS.putL d.L f } ∧ KpS (TD D mb) w y2) := And.intro hD2 (hS.1.trans hK2)
  refine ⟨⟨hS.1.trans hK2, hD2.c0⟩, ?_⟩
  simp only [Act.put, List.setIfInBounds_toArray, List.set_cons_zero, List.set_cons_succ, List.getElem_toArray, List.getElem_cons_succ, List.getElem_cons_zero]
  clear hS hDy hvy hD2 hK2 hDw hvH hfsH hfH hdH hnH
  refine wpAnyH_done (by kernel_rfl) ?_ _
  refine ⟨rfl, ?_⟩
  go_wp2_with fail
  refine bodyPost_fall (v := .tuple #[]) (by kernel_rfl) (by kernel_rfl) ?_
  exact ⟨rfl, hF.out.1, hF.out.2⟩
set_option maxRecDepth 100000 in
theorem rem1_calls {w : World} {D mb : Nat} {d : DS} (h : DiskI w D mb d) (Bd Bn : Nat) (s : ByteArray) (hd : w.heap[Bd]? = some (.cells #[.pointer (some ⟨D, 0, none⟩)] 23 (0, 0))) (hn : w.heap[Bn]? = some (.cells #[.string s] 9 (0, 0))) :
    Calls Try.prog 48 #[.pointer (some ⟨Bd, 0, none⟩), .pointer (some ⟨Bn, 0, none⟩)] w fun e w2 => e = .returned (.tuple #[]) ∧ DiskI w2 D mb { d with L := DS.del d.L s } ∧ KpS (TD D mb) w w2 := by
  have hDw : Hid (DiskI w D mb d) := h
  have hdH : Hid (w.heap[Bd]? = some (.cells #[.pointer (some ⟨D, 0, none⟩)] 23 (0, 0))) := hd
  have hnH : Hid (w.heap[Bn]? = some (.cells #[.string s] 9 (0, 0))) := hn
  clear h hd hn
  go_enter Try.func48, Try.ntmps48
  go_upto_region 0 with fail
  refine wp_normalG ?_
  refine wp_region_held_drew (S := fun w' => KpS (TD D mb) w w' ∧ w'.cell? ⟨D, 0, none⟩ = some (.map (some mb))) (by kernel_rfl) ⟨KpS.of (Below.refl _ _).drew, by rw [(Below.refl w.heap.size w).drew.cell (by exact (Array.getElem?_eq_some_iff.1 hDw.out.row).1)]; exact hDw.out.c0⟩ (fun hS => ?_)
  change wpAnyH _ _ _ _ _ 6 (Array.replicate 6 false) _ _
  have hDy : DiskI w.drew D mb d := hDw.out.below (Below.refl _ _).drew
  generalize hx : w.drew = y at hS hDy
  clear hx
  refine held_take 0 rfl (by kernel_rfl) (by kernel_rfl) (by kernel_rfl) (.pointer (some ⟨D, 0, none⟩)) (fun _ _ _ h => nomatch h.1) (by kernel_rfl) (fun w' h => (exec_load_cell 23 w' _ rfl ⟨Bd, 0, none⟩ (by kernel_rfl) _ (by rw [cell_of_row _ _ _ _ _ _ (h.1.box hDw.out hdH.out (by decide))]; rfl) (fun _ => by kernel_rfl))) hS ?_
  simp only [Act.put, List.setIfInBounds_toArray, List.set_cons_zero, List.set_cons_succ, List.getElem_toArray, List.getElem_cons_succ, List.getElem_cons_zero]
  refine held_take 1 rfl (by kernel_rfl) (by kernel_rfl) (by kernel_rfl) (.pointer (some ⟨D, 0, none⟩)) (fun _ _ _ h => nomatch h.1) (by kernel_rfl) (fun w' h => (by kernel_rfl)) hS ?_
  simp only [Act.put, List.setIfInBounds_toArray, List.set_cons_zero, List.set_cons_succ, List.getElem_toArray, List.getElem_cons_succ, List.getElem_cons_zero]
  refine held_take 2 rfl (by kernel_rfl) (by kernel_rfl) (by kernel_rfl) (.pointer (some ⟨D, 0, none⟩)) (fun _ _ _ h => nomatch h.1) (by kernel_rfl) (fun w' h => (by kernel_rfl)) hS ?_
  simp only [Act.put, List.setIfInBounds_toArray, List.set_cons_zero, List.set_cons_succ, List.getElem_toArray, List.getElem_cons_succ, List.getElem_cons_zero]
  refine held_take 3 rfl (by kernel_rfl) (by kernel_rfl) (by kernel_rfl) (.map (some mb)) (fun _ _ _ h => nomatch h.1) (by kernel_rfl) (fun w' h => (exec_load_cell 61 w' _ rfl ⟨D, 0, none⟩ (by kernel_rfl) _ h.2 (fun _ => by kernel_rfl))) hS ?_
  simp only [Act.put, List.setIfInBounds_toArray, List.set_cons_zero, List.set_cons_succ, List.getElem_toArray, List.getElem_cons_succ, List.getElem_cons_zero]
  refine held_take 4 rfl (by kernel_rfl) (by kernel_rfl) (by kernel_rfl) (.string s) (fun _ _ _ h => nomatch h.1) (by kernel_rfl) (fun w' h => (exec_load_cell 9 w' _ rfl ⟨Bn, 0, none⟩ (by kernel_rfl) _ (by rw [cell_of_row _ _ _ _ _ _ (h.1.box hDw.out hnH.out (by decide))]; rfl) (fun _ => by kernel_rfl))) hS ?_
  simp only [Act.put, List.setIfInBounds_toArray, List.set_cons_zero, List.set_cons_succ, List.getElem_toArray, List.getElem_cons_succ, List.getElem_cons_zero]
  refine held_got 5 rfl (by kernel_rfl) (by kernel_rfl) (R := fun v w' => DiskI w' D mb { d with L := DS.del d.L s } ∧ KpS (TD D mb) y w') ?he ?_
  case he => exact exec_mapdel _ _ rfl hDy s (by kernel_rfl) (by kernel_rfl)
  rintro v9 y2 ⟨hD2, hK2⟩
  have hDy2 : Hid (DiskI y2 D mb { d with L := DS.del d.L s }) := hD2
  have hKy2 : Hid (KpS (TD D mb) w y2) := hS.1.trans hK2
  refine ⟨⟨hS.1.trans hK2, hD2.c0⟩, ?_⟩
  simp only [Act.put, List.setIfInBounds_toArray, List.set_cons_zero, List.set_cons_succ, List.getElem_toArray, List.getElem_cons_succ, List.getElem_cons_zero]
  clear hS hDy hD2 hK2
  refine wpAnyH_done (by kernel_rfl) ?_ _
  refine ⟨rfl, ?_⟩
  clear hDw hdH hnH
  go_wp2_with fail
  refine bodyPost_fall (v := .tuple #[]) (by kernel_rfl) (by kernel_rfl) ?_
  exact ⟨rfl, hDy2.out, hKy2.out⟩
set_option maxRecDepth 100000 in
theorem ren1_calls {w : World} {D mb : Nat} {d : DS} (h : DiskI w D mb d) (Bd Bn F Bt : Nat) (s : ByteArray) (f : FE) (v : Value) (hv : Rw 1 encB w v f.bs) (hfs : f.sure ≤ f.bs.length ∧ f.bs.length ≤ 1048576) (hf : w.heap[F]? = some (.cells #[v, .int .i64 (f.sure : Int)] 65 (0, 0))) (hd : w.heap[Bd]? = some (.cells #[.pointer (some ⟨D, 0, none⟩)] 23 (0, 0))) (hn : w.heap[Bn]? = some (.cells #[.string s] 9 (0, 0))) (ht : w.heap[Bt]? = some (.cells #[.string f.nm] 9 (0, 0))) :
    Calls Try.prog 45 #[.pointer (some ⟨Bd, 0, none⟩), .pointer (some ⟨Bn, 0, none⟩), .pointer (some ⟨F, 0, none⟩), .pointer (some ⟨Bt, 0, none⟩)] w fun e w2 => e = .returned (.tuple #[]) ∧ DiskI w2 D mb { d with L := DS.putL (DS.del d.L s) f } ∧ KpS (TD D mb) w w2 := by
  have hDw : Hid (DiskI w D mb d) := h
  have hvH : Hid (Rw 1 encB w v f.bs) := hv
  have hfsH : Hid (f.sure ≤ f.bs.length ∧ f.bs.length ≤ 1048576) := hfs
  have hfH : Hid (w.heap[F]? = some (.cells #[v, .int .i64 (f.sure : Int)] 65 (0, 0))) := hf
  have hdH : Hid (w.heap[Bd]? = some (.cells #[.pointer (some ⟨D, 0, none⟩)] 23 (0, 0))) := hd
  have hnH : Hid (w.heap[Bn]? = some (.cells #[.string s] 9 (0, 0))) := hn
  have htH : Hid (w.heap[Bt]? = some (.cells #[.string f.nm] 9 (0, 0))) := ht
  clear h hv hfs hf hd hn ht
  go_enter Try.func45, Try.ntmps45
  go_upto_region 0 with fail
  refine wp_normalG ?_
  refine wp_region_held_drew (S := fun w' => KpS (TD D mb) w w' ∧ w'.cell? ⟨D, 0, none⟩ = some (.map (some mb))) (by kernel_rfl) ⟨KpS.of (Below.refl _ _).drew, by rw [(Below.refl w.heap.size w).drew.cell (by exact (Array.getElem?_eq_some_iff.1 hDw.out.row).1)]; exact hDw.out.c0⟩ (fun hS => ?_)
  change wpAnyH _ _ _ _ _ 6 (Array.replicate 6 false) _ _
  have hDy : DiskI w.drew D mb d := hDw.out.below (Below.refl _ _).drew
  generalize hx : w.drew = y at hS hDy
  clear hx
  refine held_take 0 rfl (by kernel_rfl) (by kernel_rfl) (by kernel_rfl) (.pointer (some ⟨D, 0, none⟩)) (fun _ _ _ h => nomatch h.1) (by kernel_rfl) (fun w' h => (exec_load_cell 23 w' _ rfl ⟨Bd, 0, none⟩ (by kernel_rfl) _ (by rw [cell_of_row _ _ _ _ _ _ (h.1.box hDw.out hdH.out (by decide))]; rfl) (fun _ => by kernel_rfl))) hS ?_
  simp only [Act.put, List.setIfInBounds_toArray, List.set_cons_zero, List.set_cons_succ, List.getElem_toArray, List.getElem_cons_succ, List.getElem_cons_zero]
  refine held_take 1 rfl (by kernel_rfl) (by kernel_rfl) (by kernel_rfl) (.pointer (some ⟨D, 0, none⟩)) (fun _ _ _ h => nomatch h.1) (by kernel_rfl) (fun w' h => (by kernel_rfl)) hS ?_
  simp only [Act.put, List.setIfInBounds_toArray, List.set_cons_zero, List.set_cons_succ, List.getElem_toArray, List.getElem_cons_succ, List.getElem_cons_zero]
  refine held_take 2 rfl (by kernel_rfl) (by kernel_rfl) (by kernel_rfl) (.pointer (some ⟨D, 0, none⟩)) (fun _ _ _ h => nomatch h.1) (by kernel_rfl) (fun w' h => (by kernel_rfl)) hS ?_
  simp only [Act.put, List.setIfInBounds_toArray, List.set_cons_zero, List.set_cons_succ, List.getElem_toArray, List.getElem_cons_succ, List.getElem_cons_zero]
  refine held_take 3 rfl (by kernel_rfl) (by kernel_rfl) (by kernel_rfl) (.map (some mb)) (fun _ _ _ h => nomatch h.1) (by kernel_rfl) (fun w' h => (exec_load_cell 61 w' _ rfl ⟨D, 0, none⟩ (by kernel_rfl) _ h.2 (fun _ => by kernel_rfl))) hS ?_
  simp only [Act.put, List.setIfInBounds_toArray, List.set_cons_zero, List.set_cons_succ, List.getElem_toArray, List.getElem_cons_succ, List.getElem_cons_zero]
  refine held_take 4 rfl (by kernel_rfl) (by kernel_rfl) (by kernel_rfl) (.string s) (fun _ _ _ h => nomatch h.1) (by kernel_rfl) (fun w' h => (exec_load_cell 9 w' _ rfl ⟨Bn, 0, none⟩ (by kernel_rfl) _ (by rw [cell_of_row _ _ _ _ _ _ (h.1.box hDw.out hnH.out (by decide))]; rfl) (fun _ => by kernel_rfl))) hS ?_
  simp only [Act.put, List.setIfInBounds_toArray, List.set_cons_zero, List.set_cons_succ, List.getElem_toArray, List.getElem_cons_succ, List.getElem_cons_zero]
  refine held_got 5 rfl (by kernel_rfl) (by kernel_rfl) (R := fun v w' => DiskI w' D mb { d with L := DS.del d.L s } ∧ KpS (TD D mb) y w') ?he ?_
  case he => exact exec_mapdel _ _ rfl hDy s (by kernel_rfl) (by kernel_rfl)
  rintro v9 y2 ⟨hD2, hK2⟩
  have hDy2 : Hid (DiskI y2 D mb { d with L := DS.del d.L s }) := hD2
  have hKy2 : Hid (KpS (TD D mb) w y2) := hS.1.trans hK2
  refine ⟨⟨hS.1.trans hK2, hD2.c0⟩, ?_⟩
  simp only [Act.put, List.setIfInBounds_toArray, List.set_cons_zero, List.set_cons_succ, List.getElem_toArray, List.getElem_cons_succ, List.getElem_cons_zero]
  clear hS hDy hD2 hK2
  refine wpAnyH_done (by kernel_rfl) ?_ _
  refine ⟨rfl, ?_⟩
  rename_i hK
  refine hK _ _ ?_
  clear hK
  have hd2 : Hid (y2.heap[Bd]? = some (.cells #[.pointer (some ⟨D, 0, none⟩)] 23 (0, 0))) := hKy2.out.box hDw.out hdH.out (by decide)
  have hf2 : Hid (y2.heap[F]? = some (.cells #[v, .int .i64 (f.sure : Int)] 65 (0, 0))) := hKy2.out.box hDw.out hfH.out (by decide)
  have ht2 : Hid (y2.heap[Bt]? = some (.cells #[.string f.nm] 9 (0, 0))) := hKy2.out.box hDw.out htH.out (by decide)
  have hv2 : Hid (Rw 1 encB y2 v f.bs) := rw_kpS hDw.out hvH.out hKy2.out
  clear hDw hvH hfH hdH hnH htH
  go_upto_region 1 with fail
  refine wp_normalG ?_
  refine wp_region_held_drew (S := fun w' => KpS (TD D mb) y2 w' ∧ w'.cell? ⟨D, 0, none⟩ = some (.map (some mb))) (by kernel_rfl) ⟨KpS.of (Below.refl _ _).drew, by rw [(Below.refl y2.heap.size y2).drew.cell (by exact (Array.getElem?_eq_some_iff.1 hDy2.out.row).1)]; exact hDy2.out.c0⟩ (fun hS => ?_)
  change wpAnyH _ _ _ _ _ 7 (Array.replicate 7 false) _ _
  have hDy : DiskI y2.drew D mb { d with L := DS.del d.L s } := hDy2.out.below (Below.refl _ _).drew
  have hvy : Rw 1 encB y2.drew v f.bs := hv2.out.below (Below.refl _ _).drew
  generalize hx : y2.drew = y at hS hDy hvy
  clear hx
  refine held_take 0 rfl (by kernel_rfl) (by kernel_rfl) (by kernel_rfl) (.pointer (some ⟨D, 0, none⟩)) (fun _ _ _ h => nomatch h.1) (by kernel_rfl) (fun w' h => (exec_load_cell 23 w' _ rfl ⟨Bd, 0, none⟩ (by kernel_rfl) _ (by rw [cell_of_row _ _ _ _ _ _ (h.1.box hDy2.out hd2.out (by decide))]; rfl) (fun _ => by kernel_rfl))) hS ?_
  simp only [Act.put, List.setIfInBounds_toArray, List.set_cons_zero, List.set_cons_succ, List.getElem_toArray, List.getElem_cons_succ, List.getElem_cons_zero]
  refine held_take 1 rfl (by kernel_rfl) (by kernel_rfl) (by kernel_rfl) (.pointer (some ⟨D, 0, none⟩)) (fun _ _ _ h => nomatch h.1) (by kernel_rfl) (fun w' h => (by kernel_rfl)) hS ?_
  simp only [Act.put, List.setIfInBounds_toArray, List.set_cons_zero, List.set_cons_succ, List.getElem_toArray, List.getElem_cons_succ, List.getElem_cons_zero]
  refine held_take 2 rfl (by kernel_rfl) (by kernel_rfl) (by kernel_rfl) (.pointer (some ⟨D, 0, none⟩)) (fun _ _ _ h => nomatch h.1) (by kernel_rfl) (fun w' h => (by kernel_rfl)) hS ?_
  simp only [Act.put, List.setIfInBounds_toArray, List.set_cons_zero, List.set_cons_succ, List.getElem_toArray, List.getElem_cons_succ, List.getElem_cons_zero]
  refine held_take 3 rfl (by kernel_rfl) (by kernel_rfl) (by kernel_rfl) (.map (some mb)) (fun _ _ _ h => nomatch h.1) (by kernel_rfl) (fun w' h => (exec_load_cell 61 w' _ rfl ⟨D, 0, none⟩ (by kernel_rfl) _ h.2 (fun _ => by kernel_rfl))) hS ?_
  simp only [Act.put, List.setIfInBounds_toArray, List.set_cons_zero, List.set_cons_succ, List.getElem_toArray, List.getElem_cons_succ, List.getElem_cons_zero]
  refine held_take 4 rfl (by kernel_rfl) (by kernel_rfl) (by kernel_rfl) (.string f.nm) (fun _ _ _ h => nomatch h.1) (by kernel_rfl) (fun w' h => (exec_load_cell 9 w' _ rfl ⟨Bt, 0, none⟩ (by kernel_rfl) _ (by rw [cell_of_row _ _ _ _ _ _ (h.1.box hDy2.out ht2.out (by decide))]; rfl) (fun _ => by kernel_rfl))) hS ?_
  simp only [Act.put, List.setIfInBounds_toArray, List.set_cons_zero, List.set_cons_succ, List.getElem_toArray, List.getElem_cons_succ, List.getElem_cons_zero]
  refine held_take 5 rfl (by kernel_rfl) (by kernel_rfl) (by kernel_rfl) (.agg (#[v, .int .i64 (f.sure : Int)])) (fun _ _ _ h => nomatch h.1) (by kernel_rfl) (fun w' h => (exec_load_row 65 w' _ rfl F (by kernel_rfl) 65 (#[v, .int .i64 (f.sure : Int)]) (0, 0) _ (h.1.box hDy2.out hf2.out (by decide)) Try.underlying65 rfl (by kernel_rfl))) hS ?_
  simp only [Act.put, List.setIfInBounds_toArray, List.set_cons_zero, List.set_cons_succ, List.getElem_toArray, List.getElem_cons_succ, List.getElem_cons_zero]
  refine held_act 6 rfl (by kernel_rfl) (by kernel_rfl) (R := fun w' => DiskI w' D mb { d with L := DS.putL (DS.del d.L s) f } ∧ KpS (TD D mb) y w') ?he ?_
  case he => exact exec_mapset _ _ _ rfl hDy f v hvy hfsH.out (by kernel_rfl) (by kernel_rfl) (by kernel_rfl)
  rintro y3 ⟨hD2, hK2⟩
  have hF : Hid (DiskI y3 D mb { d with L := DS.putL (DS.del d.L s) f } ∧ KpS (TD D mb) w y3) := And.intro hD2 (hKy2.out.trans (hS.1.trans hK2))
  refine ⟨⟨hS.1.trans hK2, hD2.c0⟩, ?_⟩
  simp only [Act.put, List.setIfInBounds_toArray, List.set_cons_zero, List.set_cons_succ, List.getElem_toArray, List.getElem_cons_succ, List.getElem_cons_zero]
  clear hS hDy hvy hD2 hK2 hDy2 hKy2 hv2 hfsH hf2 hd2 ht2
  refine wpAnyH_done (by kernel_rfl) ?_ _
  refine ⟨rfl, ?_⟩
  go_wp2_with fail
  refine bodyPost_fall (v := .tuple #[]) (by kernel_rfl) (by kernel_rfl) ?_
  exact ⟨rfl, hF.out.1, hF.out.2⟩
end Go.Proofs.Ytmdfgndjphhgnaa
