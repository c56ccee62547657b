/-
  find of a disk.
-/
import Derived.Test.YtmdfgndjphhgnaaDi2
namespace Go.Proofs.Ytmdfgndjphhgnaa
open Go.RowKit
set_option linter.unusedVariables false
set_option linter.unusedSimpArgs false
/-- What find answers: the bytes, how many are sure, the error. -/
def _root_.Go.DS.findS (d : DS) (s : ByteArray) : List Nat × Nat × Nat := if d.off then ([], 0, 20) else match d.get s with | none => ([], 0, 4) | some f => (f.bs, f.sure, 0)
theorem one2 {v : Value} {n : Int} (hv : v.oneCell' = true) : (#[v, .int .i64 n] : Array Value).all (·.oneCell') = true := by
  rw [← Array.all_toList]
  show (v.oneCell' && ((Value.int .i64 n).oneCell' && true)) = true
  rw [hv]; rfl
theorem exec_store_f {o : Oper} {a : Act} {w : World} (x y : Operand) (ho : o.op = .store 65 x y) (g : Nat) (hx : a.eval x = .pointer (some ⟨g, 0, none⟩)) (v : Value) (n : Int) (hv : v.oneCell' = true) (hy : a.eval y = .agg #[v, .int .i64 n]) (cs : Array Value) (hg : w.heap[g]? = some (.cells cs 65 (0, 0))) (hs : cs.size = 2) :
    (execOp a.eval o).run Try.prog w = .ok .skip (w.setRow g #[v, .int .i64 n]) := by
  unfold execOp
  simp only [ho, hx, hy, Instr.storeAt, Instr.sureAddr, Sem.run_bind, Sem.run_pure, Result.andThen_ok, run_storeVar_row (P := Try.prog) w g 65 65 cs #[v, .int .i64 n] hg (by kernel_rfl) (by rw [hs]; rfl) (one2 hv)]
theorem exec_lookup {o : Oper} {a : Act} {w : World} (x y : Operand) (ho : o.op = .lookup 61 x y true) (mb : Nat) (s : ByteArray) (hx : a.eval x = .map (some mb)) (hy : a.eval y = .string s) {L : List (ByteArray × Value)} (h : DM w mb L) (u : Value) (hu : (lk L s).getD (.agg #[.slice none 0 0, .int .i64 0]) = u) (b : Bool) (hb : (lk L s).isSome = b) :
    (execOp a.eval o).run Try.prog w = .ok (.value (.tuple #[u, .bool b])) w := by
  subst hu hb
  unfold execOp
  simp [ho, hx, hy, run_look h un61 un9 (zero65 w) s, Result.andThen]
theorem find_nil (s : ByteArray) (w : World) : Calls Try.prog 32 #[.pointer none, .string s] w fun e w' => e = .returned (.tuple #[.agg #[.slice none 0 0, .int .i64 0], .int .i64 20]) ∧ Below w.heap.size w w' := by
  go_enter Try.func32, Try.ntmps32
  go_upto_region 1 with fail
  generalize hW : World.alloc _ _ = W
  have hR0 : W.heap[w.heap.size]? = some (.cells (#[.slice none 0 0, .int .i64 0]) 65 (0, 0)) := by rw [← hW]; exact heap_alloc_new _ _
  have hB0 : Below w.heap.size w W := by rw [← hW]; exact (Below.refl _ _).alloc (Nat.le_refl _) _
  clear hW
  obtain ⟨R, hR⟩ : ∃ R, R = w.heap.size := ⟨_, rfl⟩
  rw [← hR] at hR0 ⊢
  have hRW : Hid (W.heap[R]? = some (.cells (#[.slice none 0 0, .int .i64 0]) 65 (0, 0))) := hR0
  have hBW : Hid (Below w.heap.size w W) := hB0
  have hRle : Hid (w.heap.size ≤ R) := Nat.le_of_eq hR.symm
  clear hR0 hB0 hR
  refine wp_region_lit ?_
  refine sl_run rfl (.pointer none) W (by kernel_rfl) ?_
  simp only [Act.put, List.setIfInBounds_toArray, List.set_cons_zero, List.set_cons_succ]
  refine sg_call (by kernel_rfl) 29 #[.pointer none] (by kernel_rfl) (R := fun v w' => v = .bool false ∧ W = w') ((On_nil W).mono fun e w' h => ⟨_, h.1, rfl, h.2⟩) ?_
  rintro _ _ ⟨rfl, rfl⟩
  simp only [Act.put, List.setIfInBounds_toArray, List.set_cons_zero, List.set_cons_succ]
  refine sl_run rfl (.bool true) W (by kernel_rfl) ?_
  simp only [Act.put, List.setIfInBounds_toArray, List.set_cons_zero, List.set_cons_succ]
  refine wpList_nil ?_
  go_upto_region 2 with fail
  refine wp_region_lit ?_
  refine sl_run rfl (.agg #[.slice none 0 0, .int .i64 0]) W (by kernel_rfl) ?_
  simp only [Act.put, List.setIfInBounds_toArray, List.set_cons_zero, List.set_cons_succ]
  refine sl_skipped (by kernel_rfl) (W.setRow R #[.slice none 0 0, .int .i64 0]) ?he ?_
  case he => exact exec_store_f _ _ rfl R (by kernel_rfl) (.slice none 0 0) 0 rfl (by kernel_rfl) _ hRW.out rfl
  simp only [Act.put, List.setIfInBounds_toArray, List.set_cons_zero, List.set_cons_succ]
  have hRV : Hid ((W.setRow R #[.slice none 0 0, .int .i64 0]).heap[R]? = some (.cells #[.slice none 0 0, .int .i64 0] 65 (0, 0))) := setRow_heap _ _ _ _ _ _ hRW.out
  have hBV : Hid (Below w.heap.size w (W.setRow R #[.slice none 0 0, .int .i64 0])) := below_setRow hBW.out hRle.out _
  generalize (W.setRow R #[.slice none 0 0, .int .i64 0]) = V at hRV hBV ⊢
  clear hRW hBW
  refine sl_run rfl (.int .i64 20) V (by kernel_rfl) ?_
  simp only [Act.put, List.setIfInBounds_toArray, List.set_cons_zero, List.set_cons_succ]
  refine wpList_nil ?_
  go_wp2_with fail
  exact bodyPost_ret (results_cell_tmp rfl _ _ R 65 (#[.slice none 0 0, .int .i64 0]) (0, 0) _ (.int .i64 20) (by kernel_rfl) (by kernel_rfl) hRV.out Try.underlying65 rfl (by kernel_rfl)) (by kernel_rfl) ⟨rfl, hBV.out⟩
set_option maxRecDepth 100000 in
theorem find_calls {w : World} {D mb : Nat} {d : DS} (h : DiskI w D mb d) (s : ByteArray) : Calls Try.prog 32 #[.pointer (some ⟨D, 0, none⟩), .string s] w fun e w' => ∃ v, e = .returned (.tuple #[.agg #[v, .int .i64 ((d.findS s).2.1 : Int)], .int .i64 ((d.findS s).2.2 : Int)]) ∧ Rw 1 encB w' v (d.findS s).1 ∧ Below w.heap.size w w' := by
  have hDw : Hid (DiskI w D mb d) := h
  obtain ⟨bs, hbs⟩ : ∃ b, b = (d.findS s).1 := ⟨_, rfl⟩
  obtain ⟨su, hsu⟩ : ∃ b, b = (d.findS s).2.1 := ⟨_, rfl⟩
  obtain ⟨er, her⟩ : ∃ b, b = (d.findS s).2.2 := ⟨_, rfl⟩
  rw [← hbs, ← hsu, ← her]
  have hS : Hid (d.findS s = (bs, su, er)) := by show d.findS s = _; rw [hbs, hsu, her]
  clear h hbs hsu her
  go_enter Try.func32, Try.ntmps32
  go_upto_region 1 with fail
  generalize hW : World.alloc _ _ = W
  have hR0 : W.heap[w.heap.size]? = some (.cells (#[.slice none 0 0, .int .i64 0]) 65 (0, 0)) := by rw [← hW]; exact heap_alloc_new _ _
  have hB0 : Below w.heap.size w W := by rw [← hW]; exact (Below.refl _ _).alloc (Nat.le_refl _) _
  clear hW
  obtain ⟨R, hR⟩ : ∃ R, R = w.heap.size := ⟨_, rfl⟩
  rw [← hR] at hR0 ⊢
  have hRW : Hid (W.heap[R]? = some (.cells (#[.slice none 0 0, .int .i64 0]) 65 (0, 0))) := hR0
  have hBW : Hid (Below w.heap.size w W) := hB0
  have hRle : Hid (w.heap.size ≤ R) := Nat.le_of_eq hR.symm
  clear hR0 hB0 hR
  have hDW : Hid (DiskI W D mb d) := hDw.out.below hBW.out
  refine wp_region_lit ?_
  cases ho : d.off with
  | true =>
    refine sl_run rfl (.pointer (some ⟨D, 0, none⟩)) W (by kernel_rfl) ?_
    simp only [Act.put, List.setIfInBounds_toArray, List.set_cons_zero, List.set_cons_succ]
    refine sg_call (by kernel_rfl) 29 #[.pointer (some ⟨D, 0, none⟩)] (by kernel_rfl) (R := fun v w' => v = .bool false ∧ W = w') (((by have h8 := On_calls hDW.out; rw [ho] at h8; exact h8 : Calls Try.prog 29 #[.pointer (some ⟨D, 0, none⟩)] W fun e w' => e = .returned (.bool false) ∧ W = w')).mono fun e w' h => ⟨_, h.1, rfl, h.2⟩) ?_
    rintro _ _ ⟨rfl, rfl⟩
    simp only [Act.put, List.setIfInBounds_toArray, List.set_cons_zero, List.set_cons_succ]
    refine sl_run rfl (.bool true) W (by kernel_rfl) ?_
    simp only [Act.put, List.setIfInBounds_toArray, List.set_cons_zero, List.set_cons_succ]
    refine wpList_nil ?_
    go_upto_region 2 with fail
    refine wp_region_lit ?_
    refine sl_run rfl (.agg #[.slice none 0 0, .int .i64 0]) W (by kernel_rfl) ?_
    simp only [Act.put, List.setIfInBounds_toArray, List.set_cons_zero, List.set_cons_succ]
    refine sl_skipped (by kernel_rfl) (W.setRow R #[.slice none 0 0, .int .i64 0]) ?he ?_
    case he => exact exec_store_f _ _ rfl R (by kernel_rfl) (.slice none 0 0) 0 rfl (by kernel_rfl) _ hRW.out rfl
    simp only [Act.put, List.setIfInBounds_toArray, List.set_cons_zero, List.set_cons_succ]
    have hRV : Hid ((W.setRow R #[.slice none 0 0, .int .i64 0]).heap[R]? = some (.cells #[.slice none 0 0, .int .i64 0] 65 (0, 0))) := setRow_heap _ _ _ _ _ _ hRW.out
    have hBV : Hid (Below w.heap.size w (W.setRow R #[.slice none 0 0, .int .i64 0])) := below_setRow hBW.out hRle.out _
    generalize (W.setRow R #[.slice none 0 0, .int .i64 0]) = V at hRV hBV ⊢
    clear hRW hBW
    refine sl_run rfl (.int .i64 20) V (by kernel_rfl) ?_
    simp only [Act.put, List.setIfInBounds_toArray, List.set_cons_zero, List.set_cons_succ]
    refine wpList_nil ?_
    have hS2 := hS.out
    unfold DS.findS at hS2
    rw [if_pos ho] at hS2
    injection hS2 with e1 e2
    injection e2 with e2 e3
    subst e1 e2 e3
    clear ho hS hDW hDw
    go_wp2_with fail
    exact bodyPost_ret (results_cell_tmp rfl _ _ R 65 (#[.slice none 0 0, .int .i64 0]) (0, 0) _ (.int .i64 20) (by kernel_rfl) (by kernel_rfl) hRV.out Try.underlying65 rfl (by kernel_rfl)) (by kernel_rfl) ⟨_, rfl, Rw.nil, hBV.out⟩
  | false =>
    refine sl_run rfl (.pointer (some ⟨D, 0, none⟩)) W (by kernel_rfl) ?_
    simp only [Act.put, List.setIfInBounds_toArray, List.set_cons_zero, List.set_cons_succ]
    refine sg_call (by kernel_rfl) 29 #[.pointer (some ⟨D, 0, none⟩)] (by kernel_rfl) (R := fun v w' => v = .bool true ∧ W = w') (((by have h8 := On_calls hDW.out; rw [ho] at h8; exact h8 : Calls Try.prog 29 #[.pointer (some ⟨D, 0, none⟩)] W fun e w' => e = .returned (.bool true) ∧ W = w')).mono fun e w' h => ⟨_, h.1, rfl, h.2⟩) ?_
    rintro _ _ ⟨rfl, rfl⟩
    simp only [Act.put, List.setIfInBounds_toArray, List.set_cons_zero, List.set_cons_succ]
    refine sl_run rfl (.bool false) W (by kernel_rfl) ?_
    simp only [Act.put, List.setIfInBounds_toArray, List.set_cons_zero, List.set_cons_succ]
    refine wpList_nil ?_
    go_upto_region 3 with fail
    refine wp_region_lit ?_
    have hS2 := hS.out
    unfold DS.findS at hS2
    rw [if_neg (by rw [ho]; decide)] at hS2
    clear ho hS
    rcases hDw.out.look s with ⟨hg, L, hm0, hl⟩ | ⟨f, v, hg, hnm, hmem, hr, L, hm0, hl⟩
    case inl =>
      refine sl_run rfl (.pointer (some ⟨D, 0, none⟩)) W (by kernel_rfl) ?_
      simp only [Act.put, List.setIfInBounds_toArray, List.set_cons_zero, List.set_cons_succ]
      refine sl_run rfl (.pointer (some ⟨D, 0, none⟩)) W (by kernel_rfl) ?_
      simp only [Act.put, List.setIfInBounds_toArray, List.set_cons_zero, List.set_cons_succ]
      refine sl_run rfl (.pointer (some ⟨D, 0, none⟩)) W (by kernel_rfl) ?_
      simp only [Act.put, List.setIfInBounds_toArray, List.set_cons_zero, List.set_cons_succ]
      refine sl_run rfl (.map (some mb)) W (exec_load_cell 61 W _ rfl ⟨D, 0, none⟩ (by kernel_rfl) _ hDW.out.c0 (fun _ => by kernel_rfl)) ?_
      simp only [Act.put, List.setIfInBounds_toArray, List.set_cons_zero, List.set_cons_succ]
      refine sl_run rfl (.string s) W (by kernel_rfl) ?_
      simp only [Act.put, List.setIfInBounds_toArray, List.set_cons_zero, List.set_cons_succ]
      refine sl_run rfl (.tuple #[.agg #[.slice none 0 0, .int .i64 0], .bool false]) W (exec_lookup _ _ rfl mb s (by kernel_rfl) (by kernel_rfl) (hm0.kept (hBW.out.block mb hm0.lt)) _ (by rw [hl]; rfl) false (by rw [hl]; rfl)) ?_
      simp only [Act.put, List.setIfInBounds_toArray, List.set_cons_zero, List.set_cons_succ]
      refine sl_run rfl (.tuple #[.agg #[.slice none 0 0, .int .i64 0], .bool false]) W (by kernel_rfl) ?_
      simp only [Act.put, List.setIfInBounds_toArray, List.set_cons_zero, List.set_cons_succ]
      refine sl_run rfl (.agg #[.slice none 0 0, .int .i64 0]) W (by kernel_rfl) ?_
      simp only [Act.put, List.setIfInBounds_toArray, List.set_cons_zero, List.set_cons_succ]
      refine sl_run rfl (.bool false) W (by kernel_rfl) ?_
      simp only [Act.put, List.setIfInBounds_toArray, List.set_cons_zero, List.set_cons_succ]
      refine sg_run (by kernel_rfl) (.pointer (some ⟨W.heap.size, 0, none⟩)) (W.alloc (.cells #[.slice none 0 0, .int .i64 0] 65)) (by kernel_rfl) ?_
      simp only [Act.put, List.setIfInBounds_toArray, List.set_cons_zero, List.set_cons_succ]
      have hFW2 : Hid ((W.alloc (.cells #[.slice none 0 0, .int .i64 0] 65)).heap[W.heap.size]? = some (.cells #[.slice none 0 0, .int .i64 0] 65 (0, 0))) := heap_alloc_new _ _
      have hRW2 : Hid ((W.alloc (.cells #[.slice none 0 0, .int .i64 0] 65)).heap[R]? = some (.cells #[.slice none 0 0, .int .i64 0] 65 (0, 0))) := heap_kept hRW.out ((Below.refl _ _).alloc (Nat.le_refl _) _)
      have hBW2 : Hid (Below w.heap.size w (W.alloc (.cells #[.slice none 0 0, .int .i64 0] 65))) := hBW.out.alloc hBW.out.size _
      have hFle : Hid (w.heap.size ≤ W.heap.size) := hBW.out.size
      have hRF : Hid (R ≠ W.heap.size) := by
        have h8 := (Array.getElem?_eq_some_iff.1 hRW.out).1
        show ¬ _
        omega
      generalize (W.alloc (.cells #[.slice none 0 0, .int .i64 0] 65)) = W2 at hFW2 hRW2 hBW2 ⊢
      generalize W.heap.size = F at hFW2 hFle hRF ⊢
      clear hRW hBW
      refine sl_skipped (by kernel_rfl) (W2.setRow F #[.slice none 0 0, .int .i64 0]) ?he ?_
      case he => exact exec_store_f _ _ rfl F (by kernel_rfl) (.slice none 0 0) 0 rfl (by kernel_rfl) _ hFW2.out rfl
      simp only [Act.put, List.setIfInBounds_toArray, List.set_cons_zero, List.set_cons_succ]
      have hFW3 : Hid ((W2.setRow F #[.slice none 0 0, .int .i64 0]).heap[F]? = some (.cells #[.slice none 0 0, .int .i64 0] 65 (0, 0))) := setRow_heap _ _ _ _ _ _ hFW2.out
      have hRW3 : Hid ((W2.setRow F #[.slice none 0 0, .int .i64 0]).heap[R]? = some (.cells #[.slice none 0 0, .int .i64 0] 65 (0, 0))) := by
        show _ = _
        rw [← hRW2.out]; simp only [World.setRow, Array.getElem?_modify]; rw [if_neg (fun e9 => hRF.out e9.symm)]
      have hBW3 : Hid (Below w.heap.size w (W2.setRow F #[.slice none 0 0, .int .i64 0])) := below_setRow hBW2.out hFle.out _
      generalize (W2.setRow F #[.slice none 0 0, .int .i64 0]) = W3 at hFW3 hRW3 hBW3 ⊢
      clear hFW2 hRW2 hBW2
      refine sl_run rfl (.bool false) W3 (by kernel_rfl) ?_
      simp only [Act.put, List.setIfInBounds_toArray, List.set_cons_zero, List.set_cons_succ]
      refine wpList_nil ?_
      rw [hg] at hS2
      injection hS2 with e1 e2
      injection e2 with e2 e3
      subst e1 e2 e3
      clear hg hm0 hl hDW hDw
      go_upto_region 5 with fail
      refine wp_region_lit ?_
      refine sl_run rfl (.agg #[.slice none 0 0, .int .i64 0]) W3 (by kernel_rfl) ?_
      simp only [Act.put, List.setIfInBounds_toArray, List.set_cons_zero, List.set_cons_succ]
      refine sl_skipped (by kernel_rfl) (W3.setRow R #[.slice none 0 0, .int .i64 0]) ?he ?_
      case he => exact exec_store_f _ _ rfl R (by kernel_rfl) (.slice none 0 0) 0 rfl (by kernel_rfl) _ hRW3.out rfl
      simp only [Act.put, List.setIfInBounds_toArray, List.set_cons_zero, List.set_cons_succ]
      have hRV : Hid ((W3.setRow R #[.slice none 0 0, .int .i64 0]).heap[R]? = some (.cells #[.slice none 0 0, .int .i64 0] 65 (0, 0))) := setRow_heap _ _ _ _ _ _ hRW3.out
      have hBV : Hid (Below w.heap.size w (W3.setRow R #[.slice none 0 0, .int .i64 0])) := below_setRow hBW3.out hRle.out _
      generalize (W3.setRow R #[.slice none 0 0, .int .i64 0]) = V at hRV hBV ⊢
      clear hRW3 hBW3
      refine sl_run rfl (.int .i64 4) V (by kernel_rfl) ?_
      simp only [Act.put, List.setIfInBounds_toArray, List.set_cons_zero, List.set_cons_succ]
      refine wpList_nil ?_
      go_wp2_with fail
      exact bodyPost_ret (results_cell_tmp rfl _ _ R 65 (#[.slice none 0 0, .int .i64 0]) (0, 0) _ (.int .i64 4) (by kernel_rfl) (by kernel_rfl) hRV.out Try.underlying65 rfl (by kernel_rfl)) (by kernel_rfl) ⟨_, rfl, Rw.nil, hBV.out⟩
    case inr =>
      rw [hg] at hS2
      injection hS2 with e1 e2
      injection e2 with e2 e3
      subst e1 e2 e3
      obtain ⟨A, c, rfl⟩ := hr.form
      have hrw : Hid (Rw 1 encB w (.slice A f.bs.length c) f.bs) := hr
      clear hr hnm hmem hg
      refine sl_run rfl (.pointer (some ⟨D, 0, none⟩)) W (by kernel_rfl) ?_
      simp only [Act.put, List.setIfInBounds_toArray, List.set_cons_zero, List.set_cons_succ]
      refine sl_run rfl (.pointer (some ⟨D, 0, none⟩)) W (by kernel_rfl) ?_
      simp only [Act.put, List.setIfInBounds_toArray, List.set_cons_zero, List.set_cons_succ]
      refine sl_run rfl (.pointer (some ⟨D, 0, none⟩)) W (by kernel_rfl) ?_
      simp only [Act.put, List.setIfInBounds_toArray, List.set_cons_zero, List.set_cons_succ]
      refine sl_run rfl (.map (some mb)) W (exec_load_cell 61 W _ rfl ⟨D, 0, none⟩ (by kernel_rfl) _ hDW.out.c0 (fun _ => by kernel_rfl)) ?_
      simp only [Act.put, List.setIfInBounds_toArray, List.set_cons_zero, List.set_cons_succ]
      refine sl_run rfl (.string s) W (by kernel_rfl) ?_
      simp only [Act.put, List.setIfInBounds_toArray, List.set_cons_zero, List.set_cons_succ]
      refine sl_run rfl (.tuple #[.agg #[.slice A f.bs.length c, .int .i64 (f.sure : Int)], .bool true]) W (exec_lookup _ _ rfl mb s (by kernel_rfl) (by kernel_rfl) (hm0.kept (hBW.out.block mb hm0.lt)) _ (by rw [hl]; rfl) true (by rw [hl]; rfl)) ?_
      simp only [Act.put, List.setIfInBounds_toArray, List.set_cons_zero, List.set_cons_succ]
      refine sl_run rfl (.tuple #[.agg #[.slice A f.bs.length c, .int .i64 (f.sure : Int)], .bool true]) W (by kernel_rfl) ?_
      simp only [Act.put, List.setIfInBounds_toArray, List.set_cons_zero, List.set_cons_succ]
      refine sl_run rfl (.agg #[.slice A f.bs.length c, .int .i64 (f.sure : Int)]) W (by kernel_rfl) ?_
      simp only [Act.put, List.setIfInBounds_toArray, List.set_cons_zero, List.set_cons_succ]
      refine sl_run rfl (.bool true) W (by kernel_rfl) ?_
      simp only [Act.put, List.setIfInBounds_toArray, List.set_cons_zero, List.set_cons_succ]
      refine sg_run (by kernel_rfl) (.pointer (some ⟨W.heap.size, 0, none⟩)) (W.alloc (.cells #[.slice none 0 0, .int .i64 0] 65)) (by kernel_rfl) ?_
      simp only [Act.put, List.setIfInBounds_toArray, List.set_cons_zero, List.set_cons_succ]
      have hFW2 : Hid ((W.alloc (.cells #[.slice none 0 0, .int .i64 0] 65)).heap[W.heap.size]? = some (.cells #[.slice none 0 0, .int .i64 0] 65 (0, 0))) := heap_alloc_new _ _
      have hRW2 : Hid ((W.alloc (.cells #[.slice none 0 0, .int .i64 0] 65)).heap[R]? = some (.cells #[.slice none 0 0, .int .i64 0] 65 (0, 0))) := heap_kept hRW.out ((Below.refl _ _).alloc (Nat.le_refl _) _)
      have hBW2 : Hid (Below w.heap.size w (W.alloc (.cells #[.slice none 0 0, .int .i64 0] 65))) := hBW.out.alloc hBW.out.size _
      have hFle : Hid (w.heap.size ≤ W.heap.size) := hBW.out.size
      have hRF : Hid (R ≠ W.heap.size) := by
        have h8 := (Array.getElem?_eq_some_iff.1 hRW.out).1
        show ¬ _
        omega
      generalize (W.alloc (.cells #[.slice none 0 0, .int .i64 0] 65)) = W2 at hFW2 hRW2 hBW2 ⊢
      generalize W.heap.size = F at hFW2 hFle hRF ⊢
      clear hRW hBW
      refine sl_skipped (by kernel_rfl) (W2.setRow F #[.slice A f.bs.length c, .int .i64 (f.sure : Int)]) ?he ?_
      case he => exact exec_store_f _ _ rfl F (by kernel_rfl) (.slice A f.bs.length c) (f.sure : Int) rfl (by kernel_rfl) _ hFW2.out rfl
      simp only [Act.put, List.setIfInBounds_toArray, List.set_cons_zero, List.set_cons_succ]
      have hFW3 : Hid ((W2.setRow F #[.slice A f.bs.length c, .int .i64 (f.sure : Int)]).heap[F]? = some (.cells #[.slice A f.bs.length c, .int .i64 (f.sure : Int)] 65 (0, 0))) := setRow_heap _ _ _ _ _ _ hFW2.out
      have hRW3 : Hid ((W2.setRow F #[.slice A f.bs.length c, .int .i64 (f.sure : Int)]).heap[R]? = some (.cells #[.slice none 0 0, .int .i64 0] 65 (0, 0))) := by
        show _ = _
        rw [← hRW2.out]; simp only [World.setRow, Array.getElem?_modify]; rw [if_neg (fun e9 => hRF.out e9.symm)]
      have hBW3 : Hid (Below w.heap.size w (W2.setRow F #[.slice A f.bs.length c, .int .i64 (f.sure : Int)])) := below_setRow hBW2.out hFle.out _
      generalize (W2.setRow F #[.slice A f.bs.length c, .int .i64 (f.sure : Int)]) = W3 at hFW3 hRW3 hBW3 ⊢
      clear hFW2 hRW2 hBW2
      refine sl_run rfl (.bool true) W3 (by kernel_rfl) ?_
      simp only [Act.put, List.setIfInBounds_toArray, List.set_cons_zero, List.set_cons_succ]
      refine wpList_nil ?_
      clear hm0 hl hDW hDw
      go_upto_region 6 with fail
      refine wp_region_lit ?_
      refine sg_run (by kernel_rfl) (.agg (#[.slice A f.bs.length c, .int .i64 (f.sure : Int)])) W3 (exec_load_row 65 W3 _ rfl F (by kernel_rfl) 65 (#[.slice A f.bs.length c, .int .i64 (f.sure : Int)]) (0, 0) _ hFW3.out Try.underlying65 rfl (by kernel_rfl)) ?_
      simp only [Act.put, List.setIfInBounds_toArray, List.set_cons_zero, List.set_cons_succ]
      refine sl_skipped (by kernel_rfl) (W3.setRow R #[.slice A f.bs.length c, .int .i64 (f.sure : Int)]) ?he ?_
      case he => exact exec_store_f _ _ rfl R (by kernel_rfl) (.slice A f.bs.length c) (f.sure : Int) rfl (by kernel_rfl) _ hRW3.out rfl
      simp only [Act.put, List.setIfInBounds_toArray, List.set_cons_zero, List.set_cons_succ]
      have hRV : Hid ((W3.setRow R #[.slice A f.bs.length c, .int .i64 (f.sure : Int)]).heap[R]? = some (.cells #[.slice A f.bs.length c, .int .i64 (f.sure : Int)] 65 (0, 0))) := setRow_heap _ _ _ _ _ _ hRW3.out
      have hBV : Hid (Below w.heap.size w (W3.setRow R #[.slice A f.bs.length c, .int .i64 (f.sure : Int)])) := below_setRow hBW3.out hRle.out _
      generalize (W3.setRow R #[.slice A f.bs.length c, .int .i64 (f.sure : Int)]) = V at hRV hBV ⊢
      clear hRW3 hBW3
      refine sl_run rfl (.int .i64 0) V (by kernel_rfl) ?_
      simp only [Act.put, List.setIfInBounds_toArray, List.set_cons_zero, List.set_cons_succ]
      refine wpList_nil ?_
      go_wp2_with fail
      exact bodyPost_ret (results_cell_tmp rfl _ _ R 65 (#[.slice A f.bs.length c, .int .i64 (f.sure : Int)]) (0, 0) _ (.int .i64 0) (by kernel_rfl) (by kernel_rfl) hRV.out Try.underlying65 rfl (by kernel_rfl)) (by kernel_rfl) ⟨_, rfl, hrw.out.below hBV.out, hBV.out⟩
end Go.Proofs.Ytmdfgndjphhgnaa
