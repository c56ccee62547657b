/-
  The chapter's examples.
-/
import Derived.Test.YtmdfgndjphhgnaaDi10
import Derived.Lib.SlBytesConst
namespace Go.Proofs.Ytmdfgndjphhgnaa
open Go.RowKit
set_option linter.unusedVariables false
set_option linter.unusedSimpArgs false
open Go.Proofs.Ytmdfgndjphhgnaa.Pure (nameB)
def strB (l : List Nat) : ByteArray := (l.map fun (n : Nat) => (n : Int)).foldl (fun r n => r.push (UInt8.ofNat n.toNat)) ByteArray.empty
theorem exec_convB {o : Oper} {a : Act} {w : World} (x : Operand) (ho : o.op = .convert 30 9 x) (v : Value) (l : List Nat) (hx : a.eval x = v) (hy : Rw 1 encB w v l) :
    (execOp a.eval o).run Try.prog w = .ok (.value (.string (strB l))) w := by
  have hr : (convert 30 9 v).run Try.prog w = .ok (.string (strB l)) w := by
    rcases hy with ⟨A, c, rfl, rfl, hA⟩ | ⟨g, o, c, rfl, h1, h2, h3⟩
    · rw [run_convert_bytes_string w 30 9 5 A 0 c Try.underlying30 Try.underlying5 Try.underlying9]
      cases A with
      | none => simp [Conv.bytesToString, strB]
      | some ad =>
        refine run_bytesToString w ad 0 c [] ?_
        simpa using run_loadCells_list (P := Try.prog) (w := w) ad [] (by simp)
    · rw [run_convert_bytes_string w 30 9 5 _ _ c Try.underlying30 Try.underlying5 Try.underlying9]
      refine run_bytesToString w ⟨g, o, none⟩ l.length c (l.map fun (n : Nat) => (n : Int)) ?_
      have := run_loadCells_list (P := Try.prog) (w := w) ⟨g, o, none⟩ ((l.map fun (n : Nat) => (n : Int)).map (Value.int .u8)) (fun j u hu => by
        have hj : j < l.length := by have := (List.getElem?_eq_some_iff.1 hu).1; simpa using this
        have h9 := h3 j hj 0 (.int .u8 ((l.getD j default : Nat) : Int)) rfl
        rw [Nat.mul_one, Nat.add_zero] at h9
        rw [Addr.add_mid, h9]
        simp only [List.getElem?_map, List.getElem?_eq_getElem hj, Option.map_some, Option.some.injEq] at hu
        rw [← hu]
        simp [List.getD_eq_getElem?_getD, hj])
      simpa using this
  unfold execOp
  simp [ho, hx, hr, Result.andThen]
theorem exec_convC {o : Oper} {a : Act} (x : Operand) (ho : o.op = .convert 30 30 x) (w : World) (cs : Array Value) (n c : Nat) (hx : a.eval x = .slice (some ⟨w.heap.size, 0, none⟩) n c) :
    (execOp a.eval o).run Try.prog (w.alloc (.cells cs 5)) = .ok (.value (.slice (some ⟨w.heap.size, 0, none⟩) n c)) (w.alloc (.cells cs 5 (cs.size, cs.size + 1))) := by
  unfold execOp
  simp only [ho, hx, Sem.run_bind, Lib.run_convert_bytes_const w 30 5 cs n c Try.underlying30 Try.underlying5, Result.andThen_ok, Sem.run_pure]
theorem bel_kp {a w w' : World} {D mb : Nat} (h : Below a.heap.size a w) (hk : KpS (TD D mb) w w') (hD : a.heap.size ≤ D) (hm : a.heap.size ≤ mb) : Below a.heap.size a w' :=
  h.trans (hk.bel (fun q hq => by rcases hq with rfl | rfl <;> assumption) h.size)
def nA : ByteArray := ⟨#[97]⟩
def nB : ByteArray := ⟨#[98]⟩
def fS (n : ByteArray) (b : List Nat) (k : Nat) (left : Int) (off : Bool) : DS := ⟨[⟨n, b, k⟩], left, off⟩
theorem x1 : DS.new.app nameB nA [120, 121] = (fS nA [120, 121] 0 (-1) false, 0) := by decide +kernel
theorem x2 : (fS nA [120, 121] 0 (-1) false).sync nA = (fS nA [120, 121] 2 (-1) false, 0) := by decide +kernel
theorem x3 : (fS nA [120, 121] 2 (-1) false).app nameB nA [122, 119] = (fS nA [120, 121, 122, 119] 2 (-1) false, 0) := by decide +kernel
theorem x4 : (fS nA [120, 121, 122, 119] 2 (-1) false).crash 1 = fS nA [120, 121, 122] 3 (-1) false := by decide +kernel
theorem r4 : (fS nA [120, 121, 122] 3 (-1) false).read nA = ([120, 121, 122], 0) := by decide +kernel
theorem x5 : (fS nA [120, 121, 122] 3 (-1) false).fuse 1 = fS nA [120, 121, 122] 3 1 false := by decide +kernel
theorem x6 : (fS nA [120, 121, 122] 3 1 false).app nameB nA [112, 113] = (fS nA [120, 121, 122, 112] 3 0 true, 20) := by decide +kernel
theorem x7 : (fS nA [120, 121, 122, 112] 3 0 true).crash 9 = fS nA [120, 121, 122, 112] 4 (-1) false := by decide +kernel
theorem r7 : (fS nA [120, 121, 122, 112] 4 (-1) false).read nA = ([120, 121, 122, 112], 0) := by decide +kernel
theorem l7 : (fS nA [120, 121, 122, 112] 4 (-1) false).leftS = -1 := by decide +kernel
theorem x8 : (fS nA [120, 121, 122, 112] 4 (-1) false).ren nameB nA nB = (fS nB [120, 121, 122, 112] 4 (-1) false, 0) := by decide +kernel
theorem x9 : (fS nB [120, 121, 122, 112] 4 (-1) false).cut nB 1 = (fS nB [120] 1 (-1) false, 0) := by decide +kernel
theorem xa : (fS nB [120] 1 (-1) false).rem nB = (⟨[], -1, false⟩, 0) := by decide +kernel
set_option maxRecDepth 100000 in
set_option maxHeartbeats 2000000 in
theorem fixed_calls (w : World) : Calls Try.prog 10 #[] w fun e w' => e = .returned (.bool true) ∧ Below w.heap.size w w' := by
  go_enter Try.func10, Try.ntmps10
  go_upto_region 1 with fail
  refine wp_region_lit ?_
  refine sg_call (by kernel_rfl) 9 #[] (by kernel_rfl) (R := fun v w' => ∃ D mb, v = .pointer (some ⟨D, 0, none⟩) ∧ DiskI w' D mb DS.new ∧ Below w.heap.size w w' ∧ w.heap.size ≤ D ∧ w.heap.size ≤ mb) ((New_calls w).mono fun e w' h => by
    obtain ⟨D, mb, h1, h2⟩ := h
    exact ⟨_, h1, D, mb, rfl, h2⟩) ?_
  rintro _ w1 ⟨D, mb, rfl, hD0, hB0, hDl, hml⟩
  have hDw1 : Hid (DiskI w1 D mb DS.new) := hD0
  have hBw1 : Hid (Below w.heap.size w w1) := hB0
  have hDle : Hid (w.heap.size ≤ D ∧ w.heap.size ≤ mb) := And.intro hDl hml
  clear hD0 hB0 hDl hml
  simp only [Act.put, List.setIfInBounds_toArray, List.set_cons_zero, List.set_cons_succ]
  refine sl_run rfl (.pointer (some ⟨D, 0, none⟩)) w1 (by kernel_rfl) ?_
  simp only [Act.put, List.setIfInBounds_toArray, List.set_cons_zero, List.set_cons_succ]
  refine wpList_nil ?_
  go_upto_region 2 with fail
  refine wp_region_lit ?_
  refine sl_run rfl (.pointer (some ⟨D, 0, none⟩)) w1 (by kernel_rfl) ?_
  simp only [Act.put, List.setIfInBounds_toArray, List.set_cons_zero, List.set_cons_succ]
  refine sg_run (by kernel_rfl) (.slice (some ⟨w1.heap.size, 0, none⟩) 2 2) (w1.alloc (.cells #[.int .u8 120, .int .u8 121] 5)) (by kernel_rfl) ?_
  simp only [Act.put, List.setIfInBounds_toArray, List.set_cons_zero, List.set_cons_succ]
  refine sg_run (by kernel_rfl) (.slice (some ⟨w1.heap.size, 0, none⟩) 2 2) (w1.alloc (.cells #[.int .u8 120, .int .u8 121] 5 (2, 3))) ?he ?_
  case he => exact exec_convC _ rfl w1 #[.int .u8 120, .int .u8 121] 2 2 (by kernel_rfl)
  simp only [Act.put, List.setIfInBounds_toArray, List.set_cons_zero, List.set_cons_succ]
  have hb : Below w1.heap.size w1 (w1.alloc (.cells #[.int .u8 120, .int .u8 121] 5 (2, 3))) := (Below.refl _ _).alloc (Nat.le_refl _) _
  have hy0 : Rw 1 encB (w1.alloc (.cells #[.int .u8 120, .int .u8 121] 5 (2, 3))) (.slice (some ⟨w1.heap.size, 0, none⟩) 2 2) [120, 121] := rw_new encB_size (t := 5) (fr := (2, 3)) [120, 121] (heap_alloc_new _ _)
  obtain ⟨gbw2, hgb⟩ : ∃ g, g = w1.heap.size := ⟨_, rfl⟩
  generalize (w1.alloc (.cells #[.int .u8 120, .int .u8 121] 5 (2, 3))) = w2 at hb hy0 ⊢
  have hDw2 : Hid (DiskI w2 D mb DS.new) := (hDw1.out).below hb
  have hBw2 : Hid (Below w.heap.size w w2) := (hBw1.out).trans ((hb).mono (hBw1.out).size)
  clear hDw1 hBw1
  rw [← hgb] at hy0 ⊢
  have hyw2 : Hid (Rw 1 encB w2 (.slice (some ⟨gbw2, 0, none⟩) 2 2) [120, 121]) := hy0
  clear hb hy0 hgb
  refine sg_call (by kernel_rfl) 12 #[.pointer (some ⟨D, 0, none⟩), .string nA, .slice (some ⟨gbw2, 0, none⟩) 2 2] (by kernel_rfl) (R := fun v w' => v = .int .i64 0 ∧ DiskI w' D mb (fS nA [120, 121] 0 (-1) false) ∧ KpS (TD D mb) w2 w') ?hc ?_
  case hc =>
    have h8 := Append_calls hDw2.out nA [120, 121] (some ⟨gbw2, 0, none⟩) 2 2 rfl (by decide) hyw2.out
    rw [x1] at h8
    exact h8.mono fun e w' h => ⟨_, h.1, rfl, h.2⟩
  rintro _ w3 ⟨rfl, hD0, hK0⟩
  simp only [Act.put, List.setIfInBounds_toArray, List.set_cons_zero, List.set_cons_succ]
  have hDw3 : Hid (DiskI w3 D mb (fS nA [120, 121] 0 (-1) false)) := hD0
  have hBw3 : Hid (Below w.heap.size w w3) := bel_kp hBw2.out hK0 hDle.out.1 hDle.out.2
  clear hD0 hK0 hDw2 hBw2
  refine sl_run rfl (.bool false) w3 (by kernel_rfl) ?_
  simp only [Act.put, List.setIfInBounds_toArray, List.set_cons_zero, List.set_cons_succ]
  refine sl_run rfl (.bool false) w3 (by kernel_rfl) ?_
  simp only [Act.put, List.setIfInBounds_toArray, List.set_cons_zero, List.set_cons_succ]
  refine sg_run (by kernel_rfl) (.pointer (some ⟨D, 0, none⟩)) w3 (by kernel_rfl) ?_
  simp only [Act.put, List.setIfInBounds_toArray, List.set_cons_zero, List.set_cons_succ]
  refine sg_call (by kernel_rfl) 14 #[.pointer (some ⟨D, 0, none⟩), .string nA] (by kernel_rfl) (R := fun v w' => v = .int .i64 0 ∧ DiskI w' D mb (fS nA [120, 121] 2 (-1) false) ∧ KpS (TD D mb) w3 w') ?hc ?_
  case hc =>
    have h8 := Sync_calls hDw3.out nA
    rw [x2] at h8
    exact h8.mono fun e w' h => ⟨_, h.1, rfl, h.2⟩
  rintro _ w4 ⟨rfl, hD0, hK0⟩
  simp only [Act.put, List.setIfInBounds_toArray, List.set_cons_zero, List.set_cons_succ]
  have hDw4 : Hid (DiskI w4 D mb (fS nA [120, 121] 2 (-1) false)) := hD0
  have hBw4 : Hid (Below w.heap.size w w4) := bel_kp hBw3.out hK0 hDle.out.1 hDle.out.2
  clear hD0 hK0 hDw3 hBw3
  refine sg_run (by kernel_rfl) (.bool false) w4 (by kernel_rfl) ?_
  simp only [Act.put, List.setIfInBounds_toArray, List.set_cons_zero, List.set_cons_succ]
  refine sl_run rfl (.bool false) w4 (by kernel_rfl) ?_
  simp only [Act.put, List.setIfInBounds_toArray, List.set_cons_zero, List.set_cons_succ]
  refine sl_run rfl (.bool false) w4 (by kernel_rfl) ?_
  simp only [Act.put, List.setIfInBounds_toArray, List.set_cons_zero, List.set_cons_succ]
  refine sg_run (by kernel_rfl) (.pointer (some ⟨D, 0, none⟩)) w4 (by kernel_rfl) ?_
  simp only [Act.put, List.setIfInBounds_toArray, List.set_cons_zero, List.set_cons_succ]
  refine sg_run (by kernel_rfl) (.slice (some ⟨w4.heap.size, 0, none⟩) 2 2) (w4.alloc (.cells #[.int .u8 122, .int .u8 119] 5)) (by kernel_rfl) ?_
  simp only [Act.put, List.setIfInBounds_toArray, List.set_cons_zero, List.set_cons_succ]
  refine sg_run (by kernel_rfl) (.slice (some ⟨w4.heap.size, 0, none⟩) 2 2) (w4.alloc (.cells #[.int .u8 122, .int .u8 119] 5 (2, 3))) ?he ?_
  case he => exact exec_convC _ rfl w4 #[.int .u8 122, .int .u8 119] 2 2 (by kernel_rfl)
  simp only [Act.put, List.setIfInBounds_toArray, List.set_cons_zero, List.set_cons_succ]
  have hb : Below w4.heap.size w4 (w4.alloc (.cells #[.int .u8 122, .int .u8 119] 5 (2, 3))) := (Below.refl _ _).alloc (Nat.le_refl _) _
  have hy0 : Rw 1 encB (w4.alloc (.cells #[.int .u8 122, .int .u8 119] 5 (2, 3))) (.slice (some ⟨w4.heap.size, 0, none⟩) 2 2) [122, 119] := rw_new encB_size (t := 5) (fr := (2, 3)) [122, 119] (heap_alloc_new _ _)
  obtain ⟨gbw5, hgb⟩ : ∃ g, g = w4.heap.size := ⟨_, rfl⟩
  generalize (w4.alloc (.cells #[.int .u8 122, .int .u8 119] 5 (2, 3))) = w5 at hb hy0 ⊢
  have hDw5 : Hid (DiskI w5 D mb (fS nA [120, 121] 2 (-1) false)) := (hDw4.out).below hb
  have hBw5 : Hid (Below w.heap.size w w5) := (hBw4.out).trans ((hb).mono (hBw4.out).size)
  clear hDw4 hBw4
  rw [← hgb] at hy0 ⊢
  have hyw5 : Hid (Rw 1 encB w5 (.slice (some ⟨gbw5, 0, none⟩) 2 2) [122, 119]) := hy0
  clear hb hy0 hgb
  refine sg_call (by kernel_rfl) 12 #[.pointer (some ⟨D, 0, none⟩), .string nA, .slice (some ⟨gbw5, 0, none⟩) 2 2] (by kernel_rfl) (R := fun v w' => v = .int .i64 0 ∧ DiskI w' D mb (fS nA [120, 121, 122, 119] 2 (-1) false) ∧ KpS (TD D mb) w5 w') ?hc ?_
  case hc =>
    have h8 := Append_calls hDw5.out nA [122, 119] (some ⟨gbw5, 0, none⟩) 2 2 rfl (by decide) hyw5.out
    rw [x3] at h8
    exact h8.mono fun e w' h => ⟨_, h.1, rfl, h.2⟩
  rintro _ w6 ⟨rfl, hD0, hK0⟩
  simp only [Act.put, List.setIfInBounds_toArray, List.set_cons_zero, List.set_cons_succ]
  have hDw6 : Hid (DiskI w6 D mb (fS nA [120, 121, 122, 119] 2 (-1) false)) := hD0
  have hBw6 : Hid (Below w.heap.size w w6) := bel_kp hBw5.out hK0 hDle.out.1 hDle.out.2
  clear hD0 hK0 hDw5 hBw5
  refine sg_run (by kernel_rfl) (.bool false) w6 (by kernel_rfl) ?_
  simp only [Act.put, List.setIfInBounds_toArray, List.set_cons_zero, List.set_cons_succ]
  refine sl_run rfl (.bool false) w6 (by kernel_rfl) ?_
  simp only [Act.put, List.setIfInBounds_toArray, List.set_cons_zero, List.set_cons_succ]
  refine wpList_nil ?_
  go_upto_region 4 with fail
  refine wp_region_lit ?_
  refine sl_run rfl (.pointer (some ⟨D, 0, none⟩)) w6 (by kernel_rfl) ?_
  simp only [Act.put, List.setIfInBounds_toArray, List.set_cons_zero, List.set_cons_succ]
  refine sg_call (by kernel_rfl) 26 #[.pointer (some ⟨D, 0, none⟩), .int .i64 1] (by kernel_rfl) (R := fun v w' => v = .tuple #[] ∧ DiskI w' D mb (fS nA [120, 121, 122] 3 (-1) false) ∧ KpS (TD D mb) w6 w') ?hc ?_
  case hc =>
    have h8 := Crash_calls hDw6.out 1 (by decide)
    rw [x4] at h8
    exact h8.mono fun e w' h => ⟨_, h.1, rfl, h.2⟩
  rintro _ w7 ⟨rfl, hD0, hK0⟩
  simp only [Act.put, List.setIfInBounds_toArray, List.set_cons_zero, List.set_cons_succ]
  have hDw7 : Hid (DiskI w7 D mb (fS nA [120, 121, 122] 3 (-1) false)) := hD0
  have hBw7 : Hid (Below w.heap.size w w7) := bel_kp hBw6.out hK0 hDle.out.1 hDle.out.2
  clear hD0 hK0 hDw6 hBw6
  refine wpList_nil ?_
  go_upto_region 5 with fail
  refine wp_region_lit ?_
  refine sl_run rfl (.pointer (some ⟨D, 0, none⟩)) w7 (by kernel_rfl) ?_
  simp only [Act.put, List.setIfInBounds_toArray, List.set_cons_zero, List.set_cons_succ]
  refine sg_call (by kernel_rfl) 22 #[.pointer (some ⟨D, 0, none⟩), .string nA] (by kernel_rfl) (R := fun v w' => ∃ u, v = .tuple #[u, .int .i64 0] ∧ Rw 1 encB w' u [120, 121, 122] ∧ Below w7.heap.size w7 w') ?hc ?_
  case hc =>
    have h8 := Read_calls hDw7.out nA
    rw [r4] at h8
    refine h8.mono fun e w' h => ?_
    obtain ⟨v, h1, h2, h3⟩ := h
    exact ⟨_, h1, v, rfl, h2, h3⟩
  rintro _ w8 ⟨ub, rfl, hr0, hb⟩
  simp only [Act.put, List.setIfInBounds_toArray, List.set_cons_zero, List.set_cons_succ]
  have hDw8 : Hid (DiskI w8 D mb (fS nA [120, 121, 122] 3 (-1) false)) := (hDw7.out).below hb
  have hBw8 : Hid (Below w.heap.size w w8) := (hBw7.out).trans ((hb).mono (hBw7.out).size)
  clear hDw7 hBw7
  have hrbw8 : Hid (Rw 1 encB w8 ub [120, 121, 122]) := hr0
  clear hb hr0
  refine sl_run rfl (.tuple #[ub, .int .i64 0]) w8 (by kernel_rfl) ?_
  simp only [Act.put, List.setIfInBounds_toArray, List.set_cons_zero, List.set_cons_succ]
  refine sl_run rfl (ub) w8 (by kernel_rfl) ?_
  simp only [Act.put, List.setIfInBounds_toArray, List.set_cons_zero, List.set_cons_succ]
  refine sl_run rfl (.int .i64 0) w8 (by kernel_rfl) ?_
  simp only [Act.put, List.setIfInBounds_toArray, List.set_cons_zero, List.set_cons_succ]
  refine sl_run rfl (ub) w8 (by kernel_rfl) ?_
  simp only [Act.put, List.setIfInBounds_toArray, List.set_cons_zero, List.set_cons_succ]
  refine sl_run rfl (.int .i64 0) w8 (by kernel_rfl) ?_
  simp only [Act.put, List.setIfInBounds_toArray, List.set_cons_zero, List.set_cons_succ]
  refine wpList_nil ?_
  go_upto_region 6 with fail
  refine wp_region_lit ?_
  refine sl_run rfl (.pointer (some ⟨D, 0, none⟩)) w8 (by kernel_rfl) ?_
  simp only [Act.put, List.setIfInBounds_toArray, List.set_cons_zero, List.set_cons_succ]
  refine sg_call (by kernel_rfl) 24 #[.pointer (some ⟨D, 0, none⟩), .int .i64 1] (by kernel_rfl) (R := fun v w' => v = .tuple #[] ∧ DiskI w' D mb (fS nA [120, 121, 122] 3 1 false) ∧ KpS (TD D mb) w8 w') ?hc ?_
  case hc =>
    have h8 := Fuse_calls hDw8.out 1 (by decide)
    rw [x5] at h8
    exact h8.mono fun e w' h => ⟨_, h.1, rfl, h.2⟩
  rintro _ w9 ⟨rfl, hD0, hK0⟩
  simp only [Act.put, List.setIfInBounds_toArray, List.set_cons_zero, List.set_cons_succ]
  have hDw9 : Hid (DiskI w9 D mb (fS nA [120, 121, 122] 3 1 false)) := hD0
  have hBw9 : Hid (Below w.heap.size w w9) := bel_kp hBw8.out hK0 hDle.out.1 hDle.out.2
  have hrbw9 : Hid (Rw 1 encB w9 ub [120, 121, 122]) := rw_kpS hDw8.out hrbw8.out hK0
  clear hD0 hK0 hDw8 hBw8 hrbw8
  refine wpList_nil ?_
  go_upto_region 7 with fail
  refine wp_region_lit ?_
  refine sl_run rfl (.pointer (some ⟨D, 0, none⟩)) w9 (by kernel_rfl) ?_
  simp only [Act.put, List.setIfInBounds_toArray, List.set_cons_zero, List.set_cons_succ]
  refine sg_run (by kernel_rfl) (.slice (some ⟨w9.heap.size, 0, none⟩) 2 2) (w9.alloc (.cells #[.int .u8 112, .int .u8 113] 5)) (by kernel_rfl) ?_
  simp only [Act.put, List.setIfInBounds_toArray, List.set_cons_zero, List.set_cons_succ]
  refine sg_run (by kernel_rfl) (.slice (some ⟨w9.heap.size, 0, none⟩) 2 2) (w9.alloc (.cells #[.int .u8 112, .int .u8 113] 5 (2, 3))) ?he ?_
  case he => exact exec_convC _ rfl w9 #[.int .u8 112, .int .u8 113] 2 2 (by kernel_rfl)
  simp only [Act.put, List.setIfInBounds_toArray, List.set_cons_zero, List.set_cons_succ]
  have hb : Below w9.heap.size w9 (w9.alloc (.cells #[.int .u8 112, .int .u8 113] 5 (2, 3))) := (Below.refl _ _).alloc (Nat.le_refl _) _
  have hy0 : Rw 1 encB (w9.alloc (.cells #[.int .u8 112, .int .u8 113] 5 (2, 3))) (.slice (some ⟨w9.heap.size, 0, none⟩) 2 2) [112, 113] := rw_new encB_size (t := 5) (fr := (2, 3)) [112, 113] (heap_alloc_new _ _)
  obtain ⟨gbw10, hgb⟩ : ∃ g, g = w9.heap.size := ⟨_, rfl⟩
  generalize (w9.alloc (.cells #[.int .u8 112, .int .u8 113] 5 (2, 3))) = w10 at hb hy0 ⊢
  have hDw10 : Hid (DiskI w10 D mb (fS nA [120, 121, 122] 3 1 false)) := (hDw9.out).below hb
  have hBw10 : Hid (Below w.heap.size w w10) := (hBw9.out).trans ((hb).mono (hBw9.out).size)
  have hrbw10 : Hid (Rw 1 encB w10 ub [120, 121, 122]) := (hrbw9.out).below hb
  clear hDw9 hBw9 hrbw9
  rw [← hgb] at hy0 ⊢
  have hyw10 : Hid (Rw 1 encB w10 (.slice (some ⟨gbw10, 0, none⟩) 2 2) [112, 113]) := hy0
  clear hb hy0 hgb
  refine sg_call (by kernel_rfl) 12 #[.pointer (some ⟨D, 0, none⟩), .string nA, .slice (some ⟨gbw10, 0, none⟩) 2 2] (by kernel_rfl) (R := fun v w' => v = .int .i64 20 ∧ DiskI w' D mb (fS nA [120, 121, 122, 112] 3 0 true) ∧ KpS (TD D mb) w10 w') ?hc ?_
  case hc =>
    have h8 := Append_calls hDw10.out nA [112, 113] (some ⟨gbw10, 0, none⟩) 2 2 rfl (by decide) hyw10.out
    rw [x6] at h8
    exact h8.mono fun e w' h => ⟨_, h.1, rfl, h.2⟩
  rintro _ w11 ⟨rfl, hD0, hK0⟩
  simp only [Act.put, List.setIfInBounds_toArray, List.set_cons_zero, List.set_cons_succ]
  have hDw11 : Hid (DiskI w11 D mb (fS nA [120, 121, 122, 112] 3 0 true)) := hD0
  have hBw11 : Hid (Below w.heap.size w w11) := bel_kp hBw10.out hK0 hDle.out.1 hDle.out.2
  have hrbw11 : Hid (Rw 1 encB w11 ub [120, 121, 122]) := rw_kpS hDw10.out hrbw10.out hK0
  clear hD0 hK0 hDw10 hBw10 hrbw10
  refine sl_run rfl (.int .i64 20) w11 (by kernel_rfl) ?_
  simp only [Act.put, List.setIfInBounds_toArray, List.set_cons_zero, List.set_cons_succ]
  refine wpList_nil ?_
  go_upto_region 8 with fail
  refine wp_region_lit ?_
  refine sl_run rfl (.pointer (some ⟨D, 0, none⟩)) w11 (by kernel_rfl) ?_
  simp only [Act.put, List.setIfInBounds_toArray, List.set_cons_zero, List.set_cons_succ]
  refine sg_call (by kernel_rfl) 29 #[.pointer (some ⟨D, 0, none⟩)] (by kernel_rfl) (R := fun v w' => v = .bool false ∧ w11 = w') ((On_calls hDw11.out).mono fun e w' h => ⟨_, h.1, rfl, h.2⟩) ?_
  rintro _ _ ⟨rfl, rfl⟩
  simp only [Act.put, List.setIfInBounds_toArray, List.set_cons_zero, List.set_cons_succ]
  refine sl_run rfl (.bool false) w11 (by kernel_rfl) ?_
  simp only [Act.put, List.setIfInBounds_toArray, List.set_cons_zero, List.set_cons_succ]
  refine wpList_nil ?_
  go_upto_region 9 with fail
  refine wp_region_lit ?_
  refine sl_run rfl (.pointer (some ⟨D, 0, none⟩)) w11 (by kernel_rfl) ?_
  simp only [Act.put, List.setIfInBounds_toArray, List.set_cons_zero, List.set_cons_succ]
  refine sg_call (by kernel_rfl) 26 #[.pointer (some ⟨D, 0, none⟩), .int .i64 9] (by kernel_rfl) (R := fun v w' => v = .tuple #[] ∧ DiskI w' D mb (fS nA [120, 121, 122, 112] 4 (-1) false) ∧ KpS (TD D mb) w11 w') ?hc ?_
  case hc =>
    have h8 := Crash_calls hDw11.out 9 (by decide)
    rw [x7] at h8
    exact h8.mono fun e w' h => ⟨_, h.1, rfl, h.2⟩
  rintro _ w12 ⟨rfl, hD0, hK0⟩
  simp only [Act.put, List.setIfInBounds_toArray, List.set_cons_zero, List.set_cons_succ]
  have hDw12 : Hid (DiskI w12 D mb (fS nA [120, 121, 122, 112] 4 (-1) false)) := hD0
  have hBw12 : Hid (Below w.heap.size w w12) := bel_kp hBw11.out hK0 hDle.out.1 hDle.out.2
  have hrbw12 : Hid (Rw 1 encB w12 ub [120, 121, 122]) := rw_kpS hDw11.out hrbw11.out hK0
  clear hD0 hK0 hDw11 hBw11 hrbw11
  refine wpList_nil ?_
  go_upto_region 10 with fail
  refine wp_region_lit ?_
  refine sl_run rfl (.pointer (some ⟨D, 0, none⟩)) w12 (by kernel_rfl) ?_
  simp only [Act.put, List.setIfInBounds_toArray, List.set_cons_zero, List.set_cons_succ]
  refine sg_call (by kernel_rfl) 22 #[.pointer (some ⟨D, 0, none⟩), .string nA] (by kernel_rfl) (R := fun v w' => ∃ u, v = .tuple #[u, .int .i64 0] ∧ Rw 1 encB w' u [120, 121, 122, 112] ∧ Below w12.heap.size w12 w') ?hc ?_
  case hc =>
    have h8 := Read_calls hDw12.out nA
    rw [r7] at h8
    refine h8.mono fun e w' h => ?_
    obtain ⟨v, h1, h2, h3⟩ := h
    exact ⟨_, h1, v, rfl, h2, h3⟩
  rintro _ w13 ⟨uc, rfl, hr0, hb⟩
  simp only [Act.put, List.setIfInBounds_toArray, List.set_cons_zero, List.set_cons_succ]
  have hDw13 : Hid (DiskI w13 D mb (fS nA [120, 121, 122, 112] 4 (-1) false)) := (hDw12.out).below hb
  have hBw13 : Hid (Below w.heap.size w w13) := (hBw12.out).trans ((hb).mono (hBw12.out).size)
  have hrbw13 : Hid (Rw 1 encB w13 ub [120, 121, 122]) := (hrbw12.out).below hb
  clear hDw12 hBw12 hrbw12
  have hrcw13 : Hid (Rw 1 encB w13 uc [120, 121, 122, 112]) := hr0
  clear hb hr0
  refine sl_run rfl (.tuple #[uc, .int .i64 0]) w13 (by kernel_rfl) ?_
  simp only [Act.put, List.setIfInBounds_toArray, List.set_cons_zero, List.set_cons_succ]
  refine sl_run rfl (uc) w13 (by kernel_rfl) ?_
  simp only [Act.put, List.setIfInBounds_toArray, List.set_cons_zero, List.set_cons_succ]
  refine sl_run rfl (.int .i64 0) w13 (by kernel_rfl) ?_
  simp only [Act.put, List.setIfInBounds_toArray, List.set_cons_zero, List.set_cons_succ]
  refine sl_run rfl (uc) w13 (by kernel_rfl) ?_
  simp only [Act.put, List.setIfInBounds_toArray, List.set_cons_zero, List.set_cons_succ]
  refine sl_run rfl (.int .i64 0) w13 (by kernel_rfl) ?_
  simp only [Act.put, List.setIfInBounds_toArray, List.set_cons_zero, List.set_cons_succ]
  refine wpList_nil ?_
  go_upto_region 11 with fail
  refine wp_region_lit ?_
  refine sl_run rfl (.int .i64 0) w13 (by kernel_rfl) ?_
  simp only [Act.put, List.setIfInBounds_toArray, List.set_cons_zero, List.set_cons_succ]
  refine sl_run rfl (.bool true) w13 (by kernel_rfl) ?_
  simp only [Act.put, List.setIfInBounds_toArray, List.set_cons_zero, List.set_cons_succ]
  refine sl_run rfl (.bool true) w13 (by kernel_rfl) ?_
  simp only [Act.put, List.setIfInBounds_toArray, List.set_cons_zero, List.set_cons_succ]
  refine sg_run (by kernel_rfl) (ub) w13 (by kernel_rfl) ?_
  simp only [Act.put, List.setIfInBounds_toArray, List.set_cons_zero, List.set_cons_succ]
  refine sg_run (by kernel_rfl) (.string (strB [120, 121, 122])) w13 (exec_convB _ rfl ub [120, 121, 122] (by kernel_rfl) hrbw13.out) ?_
  simp only [Act.put, List.setIfInBounds_toArray, List.set_cons_zero, List.set_cons_succ]
  refine sg_run (by kernel_rfl) (.bool true) w13 (by kernel_rfl) ?_
  simp only [Act.put, List.setIfInBounds_toArray, List.set_cons_zero, List.set_cons_succ]
  refine sl_run rfl (.bool true) w13 (by kernel_rfl) ?_
  simp only [Act.put, List.setIfInBounds_toArray, List.set_cons_zero, List.set_cons_succ]
  refine sl_run rfl (.bool true) w13 (by kernel_rfl) ?_
  simp only [Act.put, List.setIfInBounds_toArray, List.set_cons_zero, List.set_cons_succ]
  refine sg_run (by kernel_rfl) (.int .i64 20) w13 (by kernel_rfl) ?_
  simp only [Act.put, List.setIfInBounds_toArray, List.set_cons_zero, List.set_cons_succ]
  refine sg_run (by kernel_rfl) (.bool true) w13 (by kernel_rfl) ?_
  simp only [Act.put, List.setIfInBounds_toArray, List.set_cons_zero, List.set_cons_succ]
  refine sl_run rfl (.bool true) w13 (by kernel_rfl) ?_
  simp only [Act.put, List.setIfInBounds_toArray, List.set_cons_zero, List.set_cons_succ]
  refine sl_run rfl (.bool true) w13 (by kernel_rfl) ?_
  simp only [Act.put, List.setIfInBounds_toArray, List.set_cons_zero, List.set_cons_succ]
  refine sg_run (by kernel_rfl) (.bool false) w13 (by kernel_rfl) ?_
  simp only [Act.put, List.setIfInBounds_toArray, List.set_cons_zero, List.set_cons_succ]
  refine sg_run (by kernel_rfl) (.bool true) w13 (by kernel_rfl) ?_
  simp only [Act.put, List.setIfInBounds_toArray, List.set_cons_zero, List.set_cons_succ]
  refine sl_run rfl (.bool true) w13 (by kernel_rfl) ?_
  simp only [Act.put, List.setIfInBounds_toArray, List.set_cons_zero, List.set_cons_succ]
  refine sl_run rfl (.bool true) w13 (by kernel_rfl) ?_
  simp only [Act.put, List.setIfInBounds_toArray, List.set_cons_zero, List.set_cons_succ]
  refine sg_run (by kernel_rfl) (.int .i64 0) w13 (by kernel_rfl) ?_
  simp only [Act.put, List.setIfInBounds_toArray, List.set_cons_zero, List.set_cons_succ]
  refine sg_run (by kernel_rfl) (.bool true) w13 (by kernel_rfl) ?_
  simp only [Act.put, List.setIfInBounds_toArray, List.set_cons_zero, List.set_cons_succ]
  refine sl_run rfl (.bool true) w13 (by kernel_rfl) ?_
  simp only [Act.put, List.setIfInBounds_toArray, List.set_cons_zero, List.set_cons_succ]
  refine sl_run rfl (.bool true) w13 (by kernel_rfl) ?_
  simp only [Act.put, List.setIfInBounds_toArray, List.set_cons_zero, List.set_cons_succ]
  refine sg_run (by kernel_rfl) (uc) w13 (by kernel_rfl) ?_
  simp only [Act.put, List.setIfInBounds_toArray, List.set_cons_zero, List.set_cons_succ]
  refine sg_run (by kernel_rfl) (.string (strB [120, 121, 122, 112])) w13 (exec_convB _ rfl uc [120, 121, 122, 112] (by kernel_rfl) hrcw13.out) ?_
  simp only [Act.put, List.setIfInBounds_toArray, List.set_cons_zero, List.set_cons_succ]
  refine sg_run (by kernel_rfl) (.bool true) w13 (by kernel_rfl) ?_
  simp only [Act.put, List.setIfInBounds_toArray, List.set_cons_zero, List.set_cons_succ]
  refine sl_run rfl (.bool true) w13 (by kernel_rfl) ?_
  simp only [Act.put, List.setIfInBounds_toArray, List.set_cons_zero, List.set_cons_succ]
  refine sl_run rfl (.bool true) w13 (by kernel_rfl) ?_
  simp only [Act.put, List.setIfInBounds_toArray, List.set_cons_zero, List.set_cons_succ]
  refine sg_run (by kernel_rfl) (.pointer (some ⟨D, 0, none⟩)) w13 (by kernel_rfl) ?_
  simp only [Act.put, List.setIfInBounds_toArray, List.set_cons_zero, List.set_cons_succ]
  refine sg_call (by kernel_rfl) 30 #[.pointer (some ⟨D, 0, none⟩)] (by kernel_rfl) (R := fun v w' => v = .int .i64 (-1) ∧ w13 = w') ?hc ?_
  case hc =>
    have h8 := Left_calls hDw13.out
    rw [l7] at h8
    exact h8.mono fun e w' h => ⟨_, h.1, rfl, h.2⟩
  rintro _ _ ⟨rfl, rfl⟩
  simp only [Act.put, List.setIfInBounds_toArray, List.set_cons_zero, List.set_cons_succ]
  refine sg_run (by kernel_rfl) (.bool true) w13 (by kernel_rfl) ?_
  simp only [Act.put, List.setIfInBounds_toArray, List.set_cons_zero, List.set_cons_succ]
  refine sl_run rfl (.bool true) w13 (by kernel_rfl) ?_
  simp only [Act.put, List.setIfInBounds_toArray, List.set_cons_zero, List.set_cons_succ]
  refine sl_run rfl (.bool true) w13 (by kernel_rfl) ?_
  simp only [Act.put, List.setIfInBounds_toArray, List.set_cons_zero, List.set_cons_succ]
  refine sg_run (by kernel_rfl) (.pointer (some ⟨D, 0, none⟩)) w13 (by kernel_rfl) ?_
  simp only [Act.put, List.setIfInBounds_toArray, List.set_cons_zero, List.set_cons_succ]
  refine sg_call (by kernel_rfl) 31 #[.pointer (some ⟨D, 0, none⟩)] (by kernel_rfl) (R := fun v w' => (∃ A c, v = .slice A 1 c) ∧ Below w13.heap.size w13 w') ?hc ?_
  case hc =>
    refine (Files_calls hDw13.out rfl (by decide)).mono fun e w' h => ?_
    obtain ⟨A, c, h1, h2⟩ := h
    exact ⟨_, h1, ⟨A, c, rfl⟩, h2⟩
  rintro _ w14 ⟨⟨Af, cf, rfl⟩, hb⟩
  simp only [Act.put, List.setIfInBounds_toArray, List.set_cons_zero, List.set_cons_succ]
  have hDw14 : Hid (DiskI w14 D mb (fS nA [120, 121, 122, 112] 4 (-1) false)) := (hDw13.out).below hb
  have hBw14 : Hid (Below w.heap.size w w14) := (hBw13.out).trans ((hb).mono (hBw13.out).size)
  have hrbw14 : Hid (Rw 1 encB w14 ub [120, 121, 122]) := (hrbw13.out).below hb
  have hrcw14 : Hid (Rw 1 encB w14 uc [120, 121, 122, 112]) := (hrcw13.out).below hb
  clear hDw13 hBw13 hrbw13 hrcw13
  clear hb
  refine sg_run (by kernel_rfl) (.int .i64 1) w14 (by kernel_rfl) ?_
  simp only [Act.put, List.setIfInBounds_toArray, List.set_cons_zero, List.set_cons_succ]
  refine sg_run (by kernel_rfl) (.bool true) w14 (by kernel_rfl) ?_
  simp only [Act.put, List.setIfInBounds_toArray, List.set_cons_zero, List.set_cons_succ]
  refine sl_run rfl (.bool true) w14 (by kernel_rfl) ?_
  simp only [Act.put, List.setIfInBounds_toArray, List.set_cons_zero, List.set_cons_succ]
  refine sl_run rfl (.bool true) w14 (by kernel_rfl) ?_
  simp only [Act.put, List.setIfInBounds_toArray, List.set_cons_zero, List.set_cons_succ]
  refine sg_run (by kernel_rfl) (.pointer (some ⟨D, 0, none⟩)) w14 (by kernel_rfl) ?_
  simp only [Act.put, List.setIfInBounds_toArray, List.set_cons_zero, List.set_cons_succ]
  refine sg_call (by kernel_rfl) 16 #[.pointer (some ⟨D, 0, none⟩), .string nA, .string nB] (by kernel_rfl) (R := fun v w' => v = .int .i64 0 ∧ DiskI w' D mb (fS nB [120, 121, 122, 112] 4 (-1) false) ∧ KpS (TD D mb) w14 w') ?hc ?_
  case hc =>
    have h8 := Rename_calls hDw14.out nA nB
    rw [x8] at h8
    exact h8.mono fun e w' h => ⟨_, h.1, rfl, h.2⟩
  rintro _ w15 ⟨rfl, hD0, hK0⟩
  simp only [Act.put, List.setIfInBounds_toArray, List.set_cons_zero, List.set_cons_succ]
  have hDw15 : Hid (DiskI w15 D mb (fS nB [120, 121, 122, 112] 4 (-1) false)) := hD0
  have hBw15 : Hid (Below w.heap.size w w15) := bel_kp hBw14.out hK0 hDle.out.1 hDle.out.2
  have hrbw15 : Hid (Rw 1 encB w15 ub [120, 121, 122]) := rw_kpS hDw14.out hrbw14.out hK0
  have hrcw15 : Hid (Rw 1 encB w15 uc [120, 121, 122, 112]) := rw_kpS hDw14.out hrcw14.out hK0
  clear hD0 hK0 hDw14 hBw14 hrbw14 hrcw14
  refine sg_run (by kernel_rfl) (.bool true) w15 (by kernel_rfl) ?_
  simp only [Act.put, List.setIfInBounds_toArray, List.set_cons_zero, List.set_cons_succ]
  refine sl_run rfl (.bool true) w15 (by kernel_rfl) ?_
  simp only [Act.put, List.setIfInBounds_toArray, List.set_cons_zero, List.set_cons_succ]
  refine sl_run rfl (.bool true) w15 (by kernel_rfl) ?_
  simp only [Act.put, List.setIfInBounds_toArray, List.set_cons_zero, List.set_cons_succ]
  refine sg_run (by kernel_rfl) (.pointer (some ⟨D, 0, none⟩)) w15 (by kernel_rfl) ?_
  simp only [Act.put, List.setIfInBounds_toArray, List.set_cons_zero, List.set_cons_succ]
  refine sg_call (by kernel_rfl) 18 #[.pointer (some ⟨D, 0, none⟩), .string nB, .int .i64 1] (by kernel_rfl) (R := fun v w' => v = .int .i64 0 ∧ DiskI w' D mb (fS nB [120] 1 (-1) false) ∧ KpS (TD D mb) w15 w') ?hc ?_
  case hc =>
    have h8 := Cut_calls hDw15.out nB 1
    rw [x9] at h8
    exact h8.mono fun e w' h => ⟨_, h.1, rfl, h.2⟩
  rintro _ w16 ⟨rfl, hD0, hK0⟩
  simp only [Act.put, List.setIfInBounds_toArray, List.set_cons_zero, List.set_cons_succ]
  have hDw16 : Hid (DiskI w16 D mb (fS nB [120] 1 (-1) false)) := hD0
  have hBw16 : Hid (Below w.heap.size w w16) := bel_kp hBw15.out hK0 hDle.out.1 hDle.out.2
  have hrbw16 : Hid (Rw 1 encB w16 ub [120, 121, 122]) := rw_kpS hDw15.out hrbw15.out hK0
  have hrcw16 : Hid (Rw 1 encB w16 uc [120, 121, 122, 112]) := rw_kpS hDw15.out hrcw15.out hK0
  clear hD0 hK0 hDw15 hBw15 hrbw15 hrcw15
  refine sg_run (by kernel_rfl) (.bool true) w16 (by kernel_rfl) ?_
  simp only [Act.put, List.setIfInBounds_toArray, List.set_cons_zero, List.set_cons_succ]
  refine sl_run rfl (.bool true) w16 (by kernel_rfl) ?_
  simp only [Act.put, List.setIfInBounds_toArray, List.set_cons_zero, List.set_cons_succ]
  refine sl_run rfl (.bool true) w16 (by kernel_rfl) ?_
  simp only [Act.put, List.setIfInBounds_toArray, List.set_cons_zero, List.set_cons_succ]
  refine sg_run (by kernel_rfl) (.pointer (some ⟨D, 0, none⟩)) w16 (by kernel_rfl) ?_
  simp only [Act.put, List.setIfInBounds_toArray, List.set_cons_zero, List.set_cons_succ]
  refine sg_call (by kernel_rfl) 20 #[.pointer (some ⟨D, 0, none⟩), .string nB] (by kernel_rfl) (R := fun v w' => v = .int .i64 0 ∧ DiskI w' D mb (⟨[], -1, false⟩) ∧ KpS (TD D mb) w16 w') ?hc ?_
  case hc =>
    have h8 := Remove_calls hDw16.out nB
    rw [xa] at h8
    exact h8.mono fun e w' h => ⟨_, h.1, rfl, h.2⟩
  rintro _ w17 ⟨rfl, hD0, hK0⟩
  simp only [Act.put, List.setIfInBounds_toArray, List.set_cons_zero, List.set_cons_succ]
  have hDw17 : Hid (DiskI w17 D mb (⟨[], -1, false⟩)) := hD0
  have hBw17 : Hid (Below w.heap.size w w17) := bel_kp hBw16.out hK0 hDle.out.1 hDle.out.2
  have hrbw17 : Hid (Rw 1 encB w17 ub [120, 121, 122]) := rw_kpS hDw16.out hrbw16.out hK0
  have hrcw17 : Hid (Rw 1 encB w17 uc [120, 121, 122, 112]) := rw_kpS hDw16.out hrcw16.out hK0
  clear hD0 hK0 hDw16 hBw16 hrbw16 hrcw16
  refine sg_run (by kernel_rfl) (.bool true) w17 (by kernel_rfl) ?_
  simp only [Act.put, List.setIfInBounds_toArray, List.set_cons_zero, List.set_cons_succ]
  refine sl_run rfl (.bool true) w17 (by kernel_rfl) ?_
  simp only [Act.put, List.setIfInBounds_toArray, List.set_cons_zero, List.set_cons_succ]
  refine sl_run rfl (.bool true) w17 (by kernel_rfl) ?_
  simp only [Act.put, List.setIfInBounds_toArray, List.set_cons_zero, List.set_cons_succ]
  refine wpList_nil ?_
  have hF := hBw17
  clear hDw17 hrbw17 hrcw17
  clear hDle
  go_wp2_with fail
  go_ret
  exact ⟨rfl, hF.out⟩
end Go.Proofs.Ytmdfgndjphhgnaa
