/-
  Orders: two lists of masks alike; two lists of pairs alike.
-/
import Derived.Test.YtfbbpodlemllcaaDoorPoBuild
import Derived.ChangeKeysEq
namespace Go.Proofs.YtfbbpodlemllcaaDoor
open Go.RowKit Go.Shelf
set_option linter.unusedVariables false
set_option linter.unusedSimpArgs false
set_option pp.maxSteps 50000
theorem inf3 : (Tryd.prog.info? 3).map (fun i => (i.zero, i.size, i.bytes)) = some (some (.int .i64 0), 1, 8) := by kernel_rfl
theorem exec_neP {o : Oper} {a : Act} {w : World} (x y : Operand) (ho : o.op = .binOp .neq 44 x y 44) (p q : P2) (hx : a.eval x = .agg (encP p)) (hy : a.eval y = .agg (encP q)) : (execOp a.eval o).run Tryd.prog w = .ok (.value (.bool (decide (p ≠ q)))) w := by
  obtain ⟨p1, p2⟩ := p
  obtain ⟨q1, q2⟩ := q
  unfold execOp
  have hr : (binOp .neq 44 (.agg (encP (p1, p2))) (.agg (encP (q1, q2)))).run Tryd.prog w = .ok (.bool (decide ((p1, p2) ≠ (q1, q2)))) w := by
    obtain ⟨i, hi, _, _, _⟩ := info_parts inf3
    rw [run_neq_struct, run_equalIn_array w 9999 (e := 3) (n := 2) (i := i) _ _ Tryd.underlying44 hi]
    have a0 : (part 3 (encP (p1, p2)) 0).run Tryd.prog w = .ok (.int .i64 p1) w := by kernel_rfl
    have a1 : (part 3 (encP (p1, p2)) (Tryd.prog.cellsOf 3)).run Tryd.prog w = .ok (.int .i64 p2) w := by kernel_rfl
    have b0 : (part 3 (encP (q1, q2)) 0).run Tryd.prog w = .ok (.int .i64 q1) w := by kernel_rfl
    have b1 : (part 3 (encP (q1, q2)) (Tryd.prog.cellsOf 3)).run Tryd.prog w = .ok (.int .i64 q2) w := by kernel_rfl
    have e0 : (Op.equalIn 9999 3 (.int .i64 p1) (.int .i64 q1)).run Tryd.prog w = .ok (p1 == q1) w := run_equalIn_int (P := Tryd.prog) w 9998 3 .i64 .i64 p1 q1 Tryd.underlying3
    have e1 : (Op.equalIn 9999 3 (.int .i64 p2) (.int .i64 q2)).run Tryd.prog w = .ok (p2 == q2) w := run_equalIn_int (P := Tryd.prog) w 9998 3 .i64 .i64 p2 q2 Tryd.underlying3
    rw [show List.range 2 = [0, 1] from rfl]
    simp only [Op.eqItems, Nat.zero_mul, Nat.one_mul, Sem.run_bind, a0, a1, b0, b1, e0, e1, Result.andThen_ok]
    by_cases h1 : p1 = q1
    · subst h1
      simp only [beq_self_eq_true, Bool.not_true, Bool.false_eq_true, if_false, Sem.run_bind, a1, b1, e1, Result.andThen_ok]
      by_cases h2 : p2 = q2
      · subst h2; simp
      · simp [h2]
    · simp [h1]
  have hg : ∀ x y, (eqGuard .neq 44 x y (.agg (encP (p1, p2))) (.agg (encP (q1, q2)))).run Tryd.prog w = .ok () w := fun x y => run_eqGuard_agg w _ _ _ _ _ _ (by kernel_rfl)
  simp only [ho, hx, hy, Sem.run_bind, hg, hr, Result.andThen_ok]
  rfl
theorem ne_int (x y : Nat) : ((x : Int) != (y : Int)) = decide (x ≠ y) := by
  rw [Bool.eq_iff_iff]; simp; omega
theorem list_ne {α : Type} [Inhabited α] {a b : List α} (h : a.length = b.length) {i : Nat} (hne : a.getD i default ≠ b.getD i default) : a ≠ b := fun e => hne (by rw [e])
theorem list_eq {α : Type} [Inhabited α] {a b : List α} (h : a.length = b.length) (hall : ∀ i, i < a.length → a.getD i default = b.getD i default) : a = b := by
  refine List.ext_getElem h fun i h1 h2 => ?_
  have := hall i h1
  simpa [h1, h2] using this
set_option maxRecDepth 100000 in
set_option maxHeartbeats 4000000 in
theorem masks_calls (a b : List Nat) (A A2 : Option Addr) (n c n2 c2 : Nat) (hn : n = a.length) (hn2 : n2 = b.length) (hnb : n ≤ 1000000) (w : World) (hy : Rw 1 encM w (.slice A n c) a) (hz : Rw 1 encM w (.slice A2 n2 c2) b) :
    Calls Tryd.prog 14 #[.slice A n c, .slice A2 n2 c2] w fun e w' => e = .returned (.bool (decide (a = b))) ∧ Below w.heap.size w w' := by
  obtain ⟨r, hr⟩ : ∃ r, r = decide (a = b) := ⟨_, rfl⟩
  rw [← hr]
  have hrH : Hid (r = decide (a = b)) := hr
  have hn' : Hid (n = a.length) := hn
  have hm' : Hid (n2 = b.length) := hn2
  have hyH : Hid (Rw 1 encM w (.slice A n c) a) := hy
  have hzH : Hid (Rw 1 encM w (.slice A2 n2 c2) b) := hz
  clear hr hn hn2 hy hz
  go_enter Tryd.func14, Tryd.ntmps14
  by_cases hne : n = n2
  · subst hne
    go_wp2_with fail
    go_loopw [5] (fun u wr => ∃ i : Nat, i ≤ n ∧ u = .int .i64 (i : Int) ∧ Hid (∀ j, j < i → a.getD j default = b.getD j default) ∧ Hid (Below w.heap.size w wr)) (fun u _ => n - (intOf u).toNat)
    case atStart => exact ⟨0, by omega, rfl, fun j h => by omega, Below.refl _ _⟩
    case round =>
      obtain ⟨i, hi, rfl, hall, hbw⟩ := hrel
      by_cases hlt : i < n
      · have hI : (i : Int) < (n : Int) := by omega
        obtain ⟨g, o, rfl, hnc, hg, hel⟩ := hyH.out.elem i (by rw [← hn'.out]; exact hlt)
        obtain ⟨g2, o2, rfl, hnc2, hg2, hel2⟩ := hzH.out.elem i (by rw [← hm'.out]; exact hlt)
        obtain ⟨x, hx⟩ : ∃ x, x = a.getD i default := ⟨_, rfl⟩
        obtain ⟨y, hy⟩ : ∃ y, y = b.getD i default := ⟨_, rfl⟩
        have hxH : Hid (x = a.getD i default) := hx
        have hyH2 : Hid (y = b.getD i default) := hy
        rw [← hx] at hel
        rw [← hy] at hel2
        have hel1 : Hid (∀ w', Below wr.heap.size wr w' → w'.rangeAt g (o + i * 1) (encM x).toList) := fun w' h => range_below hel (hbw.out.trans (h.mono hbw.out.size)) hg
        have hel3 : Hid (∀ w', Below wr.heap.size wr w' → w'.rangeAt g2 (o2 + i * 1) (encM y).toList) := fun w' h => range_below hel2 (hbw.out.trans (h.mono hbw.out.size)) hg2
        clear hx hy hel hel2
        go_upto_region 6 with fail
        refine wp_region_quiet (C := Below wr.heap.size wr) (by kernel_rfl) (by kernel_rfl) (Below.refl _ _).drew ?_
        refine quiet_run rfl (.slice (some ⟨g, o, none⟩) n c) (fun w' h => (by kernel_rfl)) ?_
        simp only [Act.put, List.setIfInBounds_toArray, List.set_cons_zero, List.set_cons_succ]
        refine quiet_run rfl (.int .i64 (i : Int)) (fun w' h => (by kernel_rfl)) ?_
        simp only [Act.put, List.setIfInBounds_toArray, List.set_cons_zero, List.set_cons_succ]
        refine quiet_run rfl (.pointer (some ⟨g, o + i * 1, none⟩)) (fun w' h => exec_index un24 sz24 _ _ rfl g o n c i (by kernel_rfl) (by kernel_rfl) hlt w') ?_
        simp only [Act.put, List.setIfInBounds_toArray, List.set_cons_zero, List.set_cons_succ]
        refine quiet_run rfl (.int .u64 (x : Int)) (fun w' h => exec_load_cell 36 w' _ rfl ⟨g, o + i * 1, none⟩ (by kernel_rfl) _ (ms_cell (hel1.out w' h)) (fun _ => by kernel_rfl)) ?_
        simp only [Act.put, List.setIfInBounds_toArray, List.set_cons_zero, List.set_cons_succ]
        refine quiet_run rfl (.slice (some ⟨g2, o2, none⟩) n c2) (fun w' h => (by kernel_rfl)) ?_
        simp only [Act.put, List.setIfInBounds_toArray, List.set_cons_zero, List.set_cons_succ]
        refine quiet_run rfl (.int .i64 (i : Int)) (fun w' h => (by kernel_rfl)) ?_
        simp only [Act.put, List.setIfInBounds_toArray, List.set_cons_zero, List.set_cons_succ]
        refine quiet_run rfl (.pointer (some ⟨g2, o2 + i * 1, none⟩)) (fun w' h => exec_index un24 sz24 _ _ rfl g2 o2 n c2 i (by kernel_rfl) (by kernel_rfl) hlt w') ?_
        simp only [Act.put, List.setIfInBounds_toArray, List.set_cons_zero, List.set_cons_succ]
        refine quiet_run rfl (.int .u64 (y : Int)) (fun w' h => exec_load_cell 36 w' _ rfl ⟨g2, o2 + i * 1, none⟩ (by kernel_rfl) _ (ms_cell (hel3.out w' h)) (fun _ => by kernel_rfl)) ?_
        simp only [Act.put, List.setIfInBounds_toArray, List.set_cons_zero, List.set_cons_succ]
        refine quiet_run rfl (.bool (decide (x ≠ y))) (fun w' h => (exec_neM _ _ rfl (x : Int) (y : Int) (by kernel_rfl) (by kernel_rfl)).trans (by rw [ne_int])) ?_
        simp only [Act.put, List.setIfInBounds_toArray, List.set_cons_zero, List.set_cons_succ]
        refine wpQuiet_nil ?_
        intro w3 hb3
        have hb4 : Hid (Below w.heap.size w w3) := hbw.out.trans (hb3.mono hbw.out.size)
        clear hb3 hbw hel1 hel3
        rename_i hK
        refine hK _ _ ?_
        clear hK
        by_cases hxy : x = y
        · have hd : decide (x ≠ y) = false := decide_eq_false (fun h => h hxy)
          have hall2 : Hid (∀ j, j < i + 1 → a.getD j default = b.getD j default) := fun j hj => by
            by_cases hji : j < i
            · exact hall.out j hji
            · have : j = i := by omega
              subst this; rw [← hxH.out, ← hyH2.out]; exact hxy
          rw [hd]
          clear hd hxy hall
          go_wp2_with fail
          go_roundw
          case rel => exact ⟨i + 1, by omega, by go_num, hall2, hb4⟩
          case measure => simp [intOf]; omega
        · have hd : decide (x ≠ y) = true := decide_eq_true hxy
          have hrf : Hid (r = false) := by
            show _ = _
            rw [hrH.out]
            refine decide_eq_false (list_ne (by rw [← hn'.out, ← hm'.out]) (i := i) ?_)
            rw [← hxH.out, ← hyH2.out]; exact hxy
          rw [hd]
          clear hd hxy hall
          go_wp2_with fail
          go_ret
          refine ⟨?_, hb4.out⟩; rw [hrf.out]; rfl
      · have hI : ¬ (i : Int) < (n : Int) := by omega
        have hin : Hid (i = n) := by show _ = _; omega
        have hrt : Hid (r = true) := by
          show _ = _
          rw [hrH.out]
          exact decide_eq_true (list_eq (by rw [← hn'.out, ← hm'.out]) fun j hj => hall.out j (by rw [hin.out, hn'.out]; exact hj))
        go_wp2_with fail
        go_ret
        refine ⟨?_, hbw.out⟩; rw [hrt.out]; rfl
  · have hI : ¬ (n : Int) = (n2 : Int) := by omega
    have hrf : Hid (r = false) := by
      show _ = _
      rw [hrH.out]
      exact decide_eq_false fun h => hne (by rw [hn'.out, hm'.out, h])
    go_wp2_with fail
    go_ret
    refine ⟨?_, Below.refl _ _⟩; rw [hrf.out]; rfl
set_option maxRecDepth 100000 in
set_option maxHeartbeats 4000000 in
theorem same_calls (a b : List P2) (A A2 : Option Addr) (n c n2 c2 : Nat) (hn : n = a.length) (hn2 : n2 = b.length) (hnb : n ≤ 1000000) (w : World) (hy : Rw 2 encP w (.slice A n c) a) (hz : Rw 2 encP w (.slice A2 n2 c2) b) :
    Calls Tryd.prog 25 #[.slice A n c, .slice A2 n2 c2] w fun e w' => e = .returned (.bool (decide (a = b))) ∧ Below w.heap.size w w' := by
  obtain ⟨r, hr⟩ : ∃ r, r = decide (a = b) := ⟨_, rfl⟩
  rw [← hr]
  have hrH : Hid (r = decide (a = b)) := hr
  have hn' : Hid (n = a.length) := hn
  have hm' : Hid (n2 = b.length) := hn2
  have hyH : Hid (Rw 2 encP w (.slice A n c) a) := hy
  have hzH : Hid (Rw 2 encP w (.slice A2 n2 c2) b) := hz
  clear hr hn hn2 hy hz
  go_enter Tryd.func25, Tryd.ntmps25
  by_cases hne : n = n2
  · subst hne
    go_wp2_with fail
    go_loopw [5] (fun u wr => ∃ i : Nat, i ≤ n ∧ u = .int .i64 (i : Int) ∧ Hid (∀ j, j < i → a.getD j default = b.getD j default) ∧ Hid (Below w.heap.size w wr)) (fun u _ => n - (intOf u).toNat)
    case atStart => exact ⟨0, by omega, rfl, fun j h => by omega, Below.refl _ _⟩
    case round =>
      obtain ⟨i, hi, rfl, hall, hbw⟩ := hrel
      by_cases hlt : i < n
      · have hI : (i : Int) < (n : Int) := by omega
        obtain ⟨g, o, rfl, hnc, hg, hel⟩ := hyH.out.elem i (by rw [← hn'.out]; exact hlt)
        obtain ⟨g2, o2, rfl, hnc2, hg2, hel2⟩ := hzH.out.elem i (by rw [← hm'.out]; exact hlt)
        obtain ⟨x, hx⟩ : ∃ x, x = a.getD i default := ⟨_, rfl⟩
        obtain ⟨y, hy⟩ : ∃ y, y = b.getD i default := ⟨_, rfl⟩
        have hxH : Hid (x = a.getD i default) := hx
        have hyH2 : Hid (y = b.getD i default) := hy
        rw [← hx] at hel
        rw [← hy] at hel2
        have hel1 : Hid (∀ w', Below wr.heap.size wr w' → w'.rangeAt g (o + i * 2) (encP x).toList) := fun w' h => range_below hel (hbw.out.trans (h.mono hbw.out.size)) hg
        have hel3 : Hid (∀ w', Below wr.heap.size wr w' → w'.rangeAt g2 (o2 + i * 2) (encP y).toList) := fun w' h => range_below hel2 (hbw.out.trans (h.mono hbw.out.size)) hg2
        clear hx hy hel hel2
        go_upto_region 6 with fail
        refine wp_region_quiet (C := Below wr.heap.size wr) (by kernel_rfl) (by kernel_rfl) (Below.refl _ _).drew ?_
        refine quiet_run rfl (.slice (some ⟨g, o, none⟩) n c) (fun w' h => (by kernel_rfl)) ?_
        simp only [Act.put, List.setIfInBounds_toArray, List.set_cons_zero, List.set_cons_succ]
        refine quiet_run rfl (.int .i64 (i : Int)) (fun w' h => (by kernel_rfl)) ?_
        simp only [Act.put, List.setIfInBounds_toArray, List.set_cons_zero, List.set_cons_succ]
        refine quiet_run rfl (.pointer (some ⟨g, o + i * 2, none⟩)) (fun w' h => exec_index un22 sz22 _ _ rfl g o n c i (by kernel_rfl) (by kernel_rfl) hlt w') ?_
        simp only [Act.put, List.setIfInBounds_toArray, List.set_cons_zero, List.set_cons_succ]
        refine quiet_run rfl (.agg (encP x)) (fun w' h => (exec_load_mid 44 w' _ rfl g (o + i * 2) (by kernel_rfl) _ _ (hel1.out w' h) Tryd.underlying44 rfl (by kernel_rfl)).trans (by simp only [Array.toArray_toList])) ?_
        simp only [Act.put, List.setIfInBounds_toArray, List.set_cons_zero, List.set_cons_succ]
        refine quiet_run rfl (.slice (some ⟨g2, o2, none⟩) n c2) (fun w' h => (by kernel_rfl)) ?_
        simp only [Act.put, List.setIfInBounds_toArray, List.set_cons_zero, List.set_cons_succ]
        refine quiet_run rfl (.int .i64 (i : Int)) (fun w' h => (by kernel_rfl)) ?_
        simp only [Act.put, List.setIfInBounds_toArray, List.set_cons_zero, List.set_cons_succ]
        refine quiet_run rfl (.pointer (some ⟨g2, o2 + i * 2, none⟩)) (fun w' h => exec_index un22 sz22 _ _ rfl g2 o2 n c2 i (by kernel_rfl) (by kernel_rfl) hlt w') ?_
        simp only [Act.put, List.setIfInBounds_toArray, List.set_cons_zero, List.set_cons_succ]
        refine quiet_run rfl (.agg (encP y)) (fun w' h => (exec_load_mid 44 w' _ rfl g2 (o2 + i * 2) (by kernel_rfl) _ _ (hel3.out w' h) Tryd.underlying44 rfl (by kernel_rfl)).trans (by simp only [Array.toArray_toList])) ?_
        simp only [Act.put, List.setIfInBounds_toArray, List.set_cons_zero, List.set_cons_succ]
        refine quiet_run rfl (.bool (decide (x ≠ y))) (fun w' h => exec_neP _ _ rfl x y (by kernel_rfl) (by kernel_rfl)) ?_
        simp only [Act.put, List.setIfInBounds_toArray, List.set_cons_zero, List.set_cons_succ]
        refine wpQuiet_nil ?_
        intro w3 hb3
        have hb4 : Hid (Below w.heap.size w w3) := hbw.out.trans (hb3.mono hbw.out.size)
        clear hb3 hbw hel1 hel3
        rename_i hK
        refine hK _ _ ?_
        clear hK
        by_cases hxy : x = y
        · have hd : decide (x ≠ y) = false := decide_eq_false (fun h => h hxy)
          have hall2 : Hid (∀ j, j < i + 1 → a.getD j default = b.getD j default) := fun j hj => by
            by_cases hji : j < i
            · exact hall.out j hji
            · have : j = i := by omega
              subst this; rw [← hxH.out, ← hyH2.out]; exact hxy
          rw [hd]
          clear hd hxy hall
          go_wp2_with fail
          go_roundw
          case rel => exact ⟨i + 1, by omega, by go_num, hall2, hb4⟩
          case measure => simp [intOf]; omega
        · have hd : decide (x ≠ y) = true := decide_eq_true hxy
          have hrf : Hid (r = false) := by
            show _ = _
            rw [hrH.out]
            refine decide_eq_false (list_ne (by rw [← hn'.out, ← hm'.out]) (i := i) ?_)
            rw [← hxH.out, ← hyH2.out]; exact hxy
          rw [hd]
          clear hd hxy hall
          go_wp2_with fail
          go_ret
          refine ⟨?_, hb4.out⟩; rw [hrf.out]; rfl
      · have hI : ¬ (i : Int) < (n : Int) := by omega
        have hin : Hid (i = n) := by show _ = _; omega
        have hrt : Hid (r = true) := by
          show _ = _
          rw [hrH.out]
          exact decide_eq_true (list_eq (by rw [← hn'.out, ← hm'.out]) fun j hj => hall.out j (by rw [hin.out, hn'.out]; exact hj))
        go_wp2_with fail
        go_ret
        refine ⟨?_, hbw.out⟩; rw [hrt.out]; rfl
  · have hI : ¬ (n : Int) = (n2 : Int) := by omega
    have hrf : Hid (r = false) := by
      show _ = _
      rw [hrH.out]
      exact decide_eq_false fun h => hne (by rw [hn'.out, hm'.out, h])
    go_wp2_with fail
    go_ret
    refine ⟨?_, Below.refl _ _⟩; rw [hrf.out]; rfl
end Go.Proofs.YtfbbpodlemllcaaDoor
