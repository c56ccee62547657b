/-
  Contracts of functions that the laws of this chapter reach, joined.
-/
import Derived.Test.YtadopkifpfmhcaaDoorMgA
import Derived.Lib.QuietBelow
import Derived.StillTail
import Derived.OrdersHeld
import Derived.Laws.BytesString
import Derived.WalkKit
import Derived.WalkLawsBesides
import Derived.Below
import Derived.BigCall
import Derived.BigQuiet
import Derived.Laws.StructEq
import Derived.Laws.Cover1
import Derived.Laws.BitsAllLaws
import Derived.KernelRfl
import Derived.Outline
import Derived.Deep.DeepCutAuto
import Derived.RangeFuncNested
import Derived.RangeFuncBound
import Derived.RangeFuncCalls
import Derived.RangeFuncLeaves
import Derived.RangeFuncFrom
import Derived.Shelf.Abstract
import Derived.Shelf.RegionOpen
import Derived.OwnWalkIn
import Derived.TacticsInMore
import Derived.LoopNIn
import Derived.LoopIn
set_option linter.unusedVariables false
set_option linter.unusedSimpArgs false
namespace Go.Proofs.YtadopkifpfmhcaaDoor
open Go.RowKit
open Sha (vals Bytes Lies bytesC sumB)
open Go.Proofs.YtadopkifpfmhcaaDoorW.PrintWords Go.Proofs.YtadopkifpfmhcaaDoorW.PrintLast Go.Proofs.YtadopkifpfmhcaaDoorW.PrintMore
theorem exec_convS {o : Oper} {a : Act} {w : World} (x : Operand) (ho : o.op = .convert 9 25 x) (s : ByteArray) (hx : a.eval x = .string s) :
    (execOp a.eval o).run Tryd.prog w = .ok (.value (.slice (some ⟨w.heap.size, 0, none⟩) s.size (grownCap w s.size 0 5))) (Lib.bytesWorld w 5 s) := by
  unfold execOp
  simp [ho, hx, print_bytes (P := Tryd.prog) 9 25 5 Tryd.underlying9 Tryd.underlying25 Tryd.underlying5 s w]
theorem bytes_conv (w : World) (s : ByteArray) : Bytes (Lib.bytesWorld w 5 s) (.slice (some ⟨w.heap.size, 0, none⟩) s.size (grownCap w s.size 0 5)) (bytesN s) := by
  refine .inr ⟨w.heap.size, 0, grownCap w s.size 0 5, by rw [bytesN_len], by rw [bytesN_len]; exact grownCap_ge w s.size 0 5, by rw [Lib.bytesWorld_size]; omega, fun j hj => ?_⟩
  rw [bytesN_len] at hj
  rw [Nat.zero_add, Lib.bytesWorld_cell w 5 s j hj]
  have h' : j < s.data.toList.length := by rw [← bytesN_len] at hj; simpa [bytesN] using hj
  simp [bytesN, List.getD_eq_getElem?_getD, List.getElem?_eq_getElem h']
theorem exec_field22 {o : Oper} {a : Act} (w : World) (x ix : Operand) (ho : o.op = .indexAddr 22 x ix) (g off j : Nat) (hx : a.eval x = .pointer (some ⟨g, off, none⟩)) (hi : a.eval ix = .int .i64 (j : Int)) (h : j < 32) :
    (execOp a.eval o).run Tryd.prog w = .ok (.value (.pointer (some ⟨g, off + j, none⟩))) w := by
  have un : Tryd.prog.underlying 22 = some (.array (Tryd.prog.arrayLen 22) (Tryd.prog.elem 22)) := by kernel_rfl
  have sz : ∀ w, (sizeOf (Tryd.prog.elem 22)).run Tryd.prog w = .ok 1 w := fun w => by kernel_rfl
  have al : Tryd.prog.arrayLen 22 = 32 := by kernel_rfl
  unfold execOp
  simp only [ho, hx, hi, Sem.run_bind, run_indexAt_array w 22 _ .i64 (j : Int) un, sz, al, Result.andThen_ok, Sem.run_pure]
  rw [if_pos (by omega)]
  simp [Addr.add_mid]
theorem BS.dcell {w0 w : World} {B : Nat} {e : En} (h : BS w0 B e w) (j : Nat) (hj : j < e.d.length) : w.cell? ⟨B, 3 + j, none⟩ = some (.int .u8 ((e.d.getD j 0 : Nat) : Int)) := by
  rw [cell_of_row _ _ _ _ _ _ h.box]
  simp [encE, Nat.add_comm 3 j, hj]
set_option maxRecDepth 100000 in
set_option maxHeartbeats 8000000 in
theorem rbytes_calls (i : Int) (hi : i < 9223372036854775808) (e : En) (he : e.ok) (w : World) :
    Calls Tryd.prog 12 #[.int .i64 i, .agg (encE e)] w fun z w' => ∃ v, z = .returned (.tuple #[v, .int .i64 ((bytesS i e).2 : Int)]) ∧ Bytes w' v (bytesS i e).1 ∧ Below w.heap.size w w' := by
  have heH : Hid e.ok := he
  clear he
  obtain ⟨R, hR⟩ : ∃ R, R = bytesS i e := ⟨_, rfl⟩
  rw [← hR]
  obtain ⟨lr, er⟩ := R
  have hRH : Hid ((lr, er) = bytesS i e) := hR
  clear hR
  go_enter Tryd.func12, Tryd.ntmps12
  go_upto_region 1 with fail
  generalize hW : World.alloc _ _ = W
  have hW0 : W.heap[w.heap.size]? = some (.cells (encE e) 24 (0, 0)) := by rw [← hW]; exact heap_alloc_new _ _
  have hWB : Below w.heap.size w W := by rw [← hW]; exact (Below.refl _ _).alloc (Nat.le_refl _) _
  clear hW
  obtain ⟨B, hB⟩ : ∃ B, B = w.heap.size := ⟨_, rfl⟩
  rw [← hB] at hW0 ⊢
  have hSW : Hid (BS w B e W) := ⟨hW0, hWB⟩
  clear hW0 hWB hB
  refine wp_region_lit ?_
  by_cases h0 : i < 0
  · have hs : bytesS i e = ([], 1) := by unfold bytesS; rw [if_pos (.inl h0)]
    have hq := hRH.out
    rw [hs] at hq
    injection hq with q1 q2
    subst q1 q2
    clear hRH hs
    refine sl_run rfl (.int .i64 i) W (by kernel_rfl) ?_
    simp only [Act.put, fl1, fl2, fl3]
    refine sl_run rfl (.bool true) W (exec_lss 3 _ _ rfl i 0 (by kernel_rfl) (by kernel_rfl) true (decide_eq_true h0)) ?_
    simp only [Act.put, fl1, fl2, fl3]
    refine sl_run rfl (.bool true) W (by kernel_rfl) ?_
    simp only [Act.put, fl1, fl2, fl3]
    refine wpList_skip ?hw ?_
    case hw => kernel_rfl
    simp only [Act.put, fl1, fl2, fl3]
    refine wpList_skip ?hw ?_
    case hw => kernel_rfl
    simp only [Act.put, fl1, fl2, fl3]
    refine wpList_skip ?hw ?_
    case hw => kernel_rfl
    simp only [Act.put, fl1, fl2, fl3]
    refine sl_run rfl (.bool true) W (by kernel_rfl) ?_
    simp only [Act.put, fl1, fl2, fl3]
    refine wpList_nil ?_
    have hF := hSW
    clear hSW
    go_wp2_with fail
    go_ret2
    exact ⟨_, rfl, .inl ⟨none, 0, rfl, rfl, fun _ => rfl⟩, hF.out.bel⟩
  have hi0 : 0 ≤ i := by omega
  obtain ⟨gd, hgd⟩ : ∃ b, b = goodE e := ⟨_, rfl⟩
  refine sl_run rfl (.int .i64 i) W (by kernel_rfl) ?_
  simp only [Act.put, fl1, fl2, fl3]
  refine sl_run rfl (.bool false) W (exec_lss 3 _ _ rfl i 0 (by kernel_rfl) (by kernel_rfl) false (decide_eq_false (by omega))) ?_
  simp only [Act.put, fl1, fl2, fl3]
  refine sl_run rfl (.bool false) W (by kernel_rfl) ?_
  simp only [Act.put, fl1, fl2, fl3]
  refine sg_run (by kernel_rfl) (.agg (encE e)) W (exec_load_row 24 W _ rfl B (by kernel_rfl) 24 (encE e) (0, 0) _ hSW.out.box Tryd.underlying24 rfl (by rw [encE_size heH.out.1]; kernel_rfl)) ?_
  simp only [Act.put, fl1, fl2, fl3]
  refine sg_call (by kernel_rfl) 15 #[.agg (encE e)] (by kernel_rfl) (R := fun v w' => v = .bool gd ∧ Below W.heap.size W w') ((hgd ▸ rgood_calls e W).mono fun e w' h => ⟨_, h.1, rfl, h.2⟩) ?_
  rintro _ w1 ⟨rfl, hb⟩
  simp only [Act.put, fl1, fl2, fl3]
  have hSw1 : Hid (BS w B e w1) := (hSW.out).below hb
  clear hSW
  clear hb
  cases gd with
  | false =>
    refine sg_run (by kernel_rfl) (.bool true) w1 (by kernel_rfl) ?_
    simp only [Act.put, fl1, fl2, fl3]
    refine sl_run rfl (.bool true) w1 (by kernel_rfl) ?_
    simp only [Act.put, fl1, fl2, fl3]
    refine wpList_nil ?_
    have hs : bytesS i e = ([], 1) := by unfold bytesS; rw [if_pos (.inr hgd.symm)]
    have hq := hRH.out
    rw [hs] at hq
    injection hq with q1 q2
    subst q1 q2
    clear hRH hs
    have hF := hSw1
    clear hSw1
    go_wp2_with fail
    go_ret2
    exact ⟨_, rfl, .inl ⟨none, 0, rfl, rfl, fun _ => rfl⟩, hF.out.bel⟩
  | true =>
    refine sg_run (by kernel_rfl) (.bool false) w1 (by kernel_rfl) ?_
    simp only [Act.put, fl1, fl2, fl3]
    refine sl_run rfl (.bool false) w1 (by kernel_rfl) ?_
    simp only [Act.put, fl1, fl2, fl3]
    refine wpList_nil ?_
    obtain ⟨j, hj⟩ : ∃ j : Nat, j = i.toNat := ⟨_, rfl⟩
    have hjj : i = (j : Int) := by omega
    have hs : bytesS i e = (entB j e, 0) := by unfold bytesS; rw [if_neg (by rw [← hgd]; simp; omega), ← hj]
    have hgg : e.u.size ≤ 16 ∧ 0 ≤ e.t ∧ e.t ≤ 1099511627776 ∧ e.x.size ≤ 4096 := by
      have h := hgd.symm
      simp only [goodE, Pure.nameB, Bool.and_eq_true, decide_eq_true_eq] at h
      exact ⟨h.1.2.2.2.1, h.2⟩
    obtain ⟨hu16, ht0, htm, hx4⟩ := hgg
    have hq := hRH.out
    rw [hs] at hq
    injection hq with q1 q2
    subst q1 q2
    obtain ⟨T, hT⟩ : ∃ T : Nat, e.t = (T : Int) := ⟨e.t.toNat, by omega⟩
    clear hs hgd hRH
    go_upto_region 3 with fail
    refine wp_region_lit ?_
    refine sl_run rfl (.int .i64 i) w1 (by kernel_rfl) ?_
    simp only [Act.put, fl1, fl2, fl3]
    refine sl_run rfl (.int .u64 (j : Int)) w1 (exec_convI 3 45 _ rfl i .u64 (j : Int) (by kernel_rfl) (by rw [hjj]; exact conv_u64 3 _ (by omega) (by omega) _ (.inl rfl))) ?_
    simp only [Act.put, fl1, fl2, fl3]
    refine sg_call (by kernel_rfl) 34 #[.int .u64 (j : Int), .int .i64 (8 : Int)] (by kernel_rfl) (R := fun z w' => w'.ownsRow w1.heap.size 5 1 z (numB 8 j).length (vals (numB 8 j)) ∧ Below w1.heap.size w1 w') ((rnumber_calls 8 j (by decide) w1).mono fun z w' h => by
      obtain ⟨v', h1, h2, h3⟩ := h
      exact ⟨v', h1, h2, h3⟩) ?_
    rintro uw2 w2 ⟨hownw2, hbel⟩
    simp only [Act.put, fl1, fl2, fl3]
    have hSw2 : Hid (BS w B e w2) := hSw1.out.below hbel
    have how2 : Hid (w2.ownsRow w.heap.size 5 1 uw2 (numB 8 j).length (vals (numB 8 j))) := own_mono hownw2 hSw1.out.bel.size
    clear hbel hownw2 hSw1
    refine sl_run rfl (uw2) w2 (by kernel_rfl) ?_
    simp only [Act.put, fl1, fl2, fl3]
    refine wpList_nil ?_
    go_upto_region 4 with fail
    refine wp_region_lit ?_
    refine sl_run rfl (uw2) w2 (by kernel_rfl) ?_
    simp only [Act.put, fl1, fl2, fl3]
    refine sl_run rfl (.pointer (some ⟨B, 0, none⟩)) w2 (by kernel_rfl) ?_
    simp only [Act.put, fl1, fl2, fl3]
    refine sl_run rfl (.string e.u) w2 (exec_load_cell 9 w2 _ rfl ⟨B, 0, none⟩ (by kernel_rfl) _ (by rw [cell_of_row _ _ _ _ _ _ hSw2.out.box]; rfl) (fun _ => by kernel_rfl)) ?_
    simp only [Act.put, fl1, fl2, fl3]
    refine sl_run rfl (.int .i64 ((e.u).size : Int)) w2 (by kernel_rfl) ?_
    simp only [Act.put, fl1, fl2, fl3]
    refine sl_run rfl (.int .u8 ((e.u.size % 256 : Nat) : Int)) w2 (exec_convI 3 5 _ rfl (e.u.size : Int) .u8 _ (by kernel_rfl) (conv_u8 _ _)) ?_
    simp only [Act.put, fl1, fl2, fl3]
    refine sg_run (by kernel_rfl) (.slice (some ⟨w2.heap.size, 0, none⟩) 1 1) (w2.alloc (.cells (bytesC [e.u.size % 256]) 5)) (by kernel_rfl) ?_
    simp only [Act.put, fl1, fl2, fl3]
    have hbn : Below w2.heap.size w2 (w2.alloc (.cells (bytesC [e.u.size % 256]) 5)) := (Below.refl _ _).alloc (Nat.le_refl _) _
    have hyw3 : Bytes (w2.alloc (.cells (bytesC [e.u.size % 256]) 5)) (.slice (some ⟨w2.heap.size, 0, none⟩) 1 1) [e.u.size % 256] := Sha.bytes_mark w2 [e.u.size % 256] 1 rfl (0, 0)
    obtain ⟨ggw3, hggw3⟩ : ∃ q, q = w2.heap.size := ⟨_, rfl⟩
    rw [← hggw3] at hyw3 ⊢
    have hSw3 : Hid (BS w B e (w2.alloc (.cells (bytesC [e.u.size % 256]) 5))) := hSw2.out.below hbn
    have how3 : Hid ((w2.alloc (.cells (bytesC [e.u.size % 256]) 5)).ownsRow w.heap.size 5 1 uw2 _ _) := own_keep how2.out (fun q hq => hbn.block q ((how2.out).lt q hq).2)
    clear hbn hSw2 how2 hggw3
    generalize World.alloc _ _ = w3 at hyw3 hSw3 how3 ⊢
    refine Sha.append22 rfl _ _ rfl w.heap.size uw2 (numB 8 j) ([e.u.size % 256]) (by kernel_rfl) how3.out (.slice (some ⟨ggw3, 0, none⟩) 1 1) (by kernel_rfl) hyw3 (by simp [numB_len, bytesN_len] <;> omega) hSw3.out.bel.size ?_
    intro vw4 w4 hown hgr _
    simp only [Act.put, fl1, fl2, fl3]
    have hSw4 : Hid (BS w B e w4) := hSw3.out.grown how3.out (Nat.le_refl _) hgr
    have how4 : Hid (w4.ownsRow w.heap.size 5 1 vw4 (numB 8 j ++ [e.u.size % 256]).length (vals (numB 8 j ++ [e.u.size % 256]))) := hown
    clear hown hgr hSw3 how3 hyw3
    refine sl_run rfl (vw4) w4 (by kernel_rfl) ?_
    simp only [Act.put, fl1, fl2, fl3]
    refine wpList_nil ?_
    go_upto_region 5 with fail
    refine wp_region_lit ?_
    refine sl_run rfl (vw4) w4 (by kernel_rfl) ?_
    simp only [Act.put, fl1, fl2, fl3]
    refine sl_run rfl (.pointer (some ⟨B, 0, none⟩)) w4 (by kernel_rfl) ?_
    simp only [Act.put, fl1, fl2, fl3]
    refine sl_run rfl (.string e.u) w4 (exec_load_cell 9 w4 _ rfl ⟨B, 0, none⟩ (by kernel_rfl) _ (by rw [cell_of_row _ _ _ _ _ _ hSw4.out.box]; rfl) (fun _ => by kernel_rfl)) ?_
    simp only [Act.put, fl1, fl2, fl3]
    refine sg_run (by kernel_rfl) (.slice (some ⟨w4.heap.size, 0, none⟩) (e.u).size (grownCap w4 (e.u).size 0 5)) (Lib.bytesWorld w4 5 (e.u)) (exec_convS _ rfl (e.u) (by kernel_rfl)) ?_
    simp only [Act.put, fl1, fl2, fl3]
    have hbn : Below w4.heap.size w4 (Lib.bytesWorld w4 5 (e.u)) := bytes_below (Below.refl _ _) (Nat.le_refl _) _ _
    have hyw5 : Bytes (Lib.bytesWorld w4 5 (e.u)) (.slice (some ⟨w4.heap.size, 0, none⟩) (e.u).size (grownCap w4 (e.u).size 0 5)) (bytesN (e.u)) := bytes_conv _ _
    have hSw5 : Hid (BS w B e (Lib.bytesWorld w4 5 (e.u))) := hSw4.out.below hbn
    have how5 : Hid ((Lib.bytesWorld w4 5 (e.u)).ownsRow w.heap.size 5 1 vw4 _ _) := own_keep how4.out (fun q hq => hbn.block q ((how4.out).lt q hq).2)
    obtain ⟨yw5, hyy⟩ : ∃ y, y = Value.slice (some ⟨w4.heap.size, 0, none⟩) (e.u).size (grownCap w4 (e.u).size 0 5) := ⟨_, rfl⟩
    rw [← hyy] at hyw5 ⊢
    clear hbn hSw4 how4 hyy
    generalize Lib.bytesWorld _ _ _ = w5 at hyw5 hSw5 how5 ⊢
    refine Sha.append22 rfl _ _ rfl w.heap.size vw4 (numB 8 j ++ [e.u.size % 256]) (bytesN e.u) (by kernel_rfl) how5.out (yw5) (by kernel_rfl) hyw5 (by simp [numB_len, bytesN_len] <;> omega) hSw5.out.bel.size ?_
    intro vw6 w6 hown hgr _
    simp only [Act.put, fl1, fl2, fl3]
    have hSw6 : Hid (BS w B e w6) := hSw5.out.grown how5.out (Nat.le_refl _) hgr
    have how6 : Hid (w6.ownsRow w.heap.size 5 1 vw6 (numB 8 j ++ [e.u.size % 256] ++ bytesN e.u).length (vals (numB 8 j ++ [e.u.size % 256] ++ bytesN e.u))) := hown
    clear hown hgr hSw5 how5 hyw5
    refine sl_run rfl (vw6) w6 (by kernel_rfl) ?_
    simp only [Act.put, fl1, fl2, fl3]
    refine wpList_nil ?_
    go_upto_region 6 with fail
    refine wp_region_lit ?_
    refine sl_run rfl (vw6) w6 (by kernel_rfl) ?_
    simp only [Act.put, fl1, fl2, fl3]
    refine sl_run rfl (.pointer (some ⟨B, 1, none⟩)) w6 (by kernel_rfl) ?_
    simp only [Act.put, fl1, fl2, fl3]
    refine sl_run rfl (.int .i64 e.t) w6 (exec_load_cell 2 w6 _ rfl ⟨B, 1, none⟩ (by kernel_rfl) _ (by rw [cell_of_row _ _ _ _ _ _ hSw6.out.box]; rfl) (fun _ => by kernel_rfl)) ?_
    simp only [Act.put, fl1, fl2, fl3]
    refine sl_run rfl (.int .u64 (T : Int)) w6 (exec_convI 2 45 _ rfl e.t .u64 (T : Int) (by kernel_rfl) (by rw [hT]; exact conv_u64 2 _ (by omega) (by omega) _ (.inr rfl))) ?_
    simp only [Act.put, fl1, fl2, fl3]
    refine sg_call (by kernel_rfl) 34 #[.int .u64 (T : Int), .int .i64 (8 : Int)] (by kernel_rfl) (R := fun z w' => w'.ownsRow w6.heap.size 5 1 z (numB 8 T).length (vals (numB 8 T)) ∧ Below w6.heap.size w6 w') ((rnumber_calls 8 T (by decide) w6).mono fun z w' h => by
      obtain ⟨v', h1, h2, h3⟩ := h
      exact ⟨v', h1, h2, h3⟩) ?_
    rintro uw7 w7 ⟨hownw7, hbel⟩
    simp only [Act.put, fl1, fl2, fl3]
    have hSw7 : Hid (BS w B e w7) := hSw6.out.below hbel
    have how7 : Hid (w7.ownsRow w.heap.size 5 1 vw6 _ _) := own_keep how6.out (fun q hq => hbel.block q ((how6.out).lt q hq).2)
    have hyw7 : Bytes w7 uw7 (numB 8 T) := own_bytes hownw7
    clear hbel hownw7 hSw6 how6
    refine Sha.append22 rfl _ _ rfl w.heap.size vw6 (numB 8 j ++ [e.u.size % 256] ++ bytesN e.u) (numB 8 T) (by kernel_rfl) how7.out (uw7) (by kernel_rfl) hyw7 (by simp [numB_len, bytesN_len] <;> omega) hSw7.out.bel.size ?_
    intro vw8 w8 hown hgr _
    simp only [Act.put, fl1, fl2, fl3]
    have hSw8 : Hid (BS w B e w8) := hSw7.out.grown how7.out (Nat.le_refl _) hgr
    have how8 : Hid (w8.ownsRow w.heap.size 5 1 vw8 (numB 8 j ++ [e.u.size % 256] ++ bytesN e.u ++ numB 8 T).length (vals (numB 8 j ++ [e.u.size % 256] ++ bytesN e.u ++ numB 8 T))) := hown
    clear hown hgr hSw7 how7 hyw7
    refine sl_run rfl (vw8) w8 (by kernel_rfl) ?_
    simp only [Act.put, fl1, fl2, fl3]
    refine wpList_nil ?_
    go_upto_region 7 with fail
    refine wp_region_lit ?_
    refine sl_run rfl (vw8) w8 (by kernel_rfl) ?_
    simp only [Act.put, fl1, fl2, fl3]
    refine sl_run rfl (.pointer (some ⟨B, 2, none⟩)) w8 (by kernel_rfl) ?_
    simp only [Act.put, fl1, fl2, fl3]
    refine sl_run rfl (.string e.x) w8 (exec_load_cell 9 w8 _ rfl ⟨B, 2, none⟩ (by kernel_rfl) _ (by rw [cell_of_row _ _ _ _ _ _ hSw8.out.box]; rfl) (fun _ => by kernel_rfl)) ?_
    simp only [Act.put, fl1, fl2, fl3]
    refine sl_run rfl (.int .i64 ((e.x).size : Int)) w8 (by kernel_rfl) ?_
    simp only [Act.put, fl1, fl2, fl3]
    refine sl_run rfl (.int .u64 (e.x.size : Int)) w8 (exec_convI 3 45 _ rfl (e.x.size : Int) .u64 (e.x.size : Int) (by kernel_rfl) (conv_u64 3 _ (by omega) (by omega) _ (.inl rfl))) ?_
    simp only [Act.put, fl1, fl2, fl3]
    refine sg_call (by kernel_rfl) 34 #[.int .u64 (e.x.size : Int), .int .i64 (4 : Int)] (by kernel_rfl) (R := fun z w' => w'.ownsRow w8.heap.size 5 1 z (numB 4 e.x.size).length (vals (numB 4 e.x.size)) ∧ Below w8.heap.size w8 w') ((rnumber_calls 4 e.x.size (by decide) w8).mono fun z w' h => by
      obtain ⟨v', h1, h2, h3⟩ := h
      exact ⟨v', h1, h2, h3⟩) ?_
    rintro uw9 w9 ⟨hownw9, hbel⟩
    simp only [Act.put, fl1, fl2, fl3]
    have hSw9 : Hid (BS w B e w9) := hSw8.out.below hbel
    have how9 : Hid (w9.ownsRow w.heap.size 5 1 vw8 _ _) := own_keep how8.out (fun q hq => hbel.block q ((how8.out).lt q hq).2)
    have hyw9 : Bytes w9 uw9 (numB 4 e.x.size) := own_bytes hownw9
    clear hbel hownw9 hSw8 how8
    refine Sha.append22 rfl _ _ rfl w.heap.size vw8 (numB 8 j ++ [e.u.size % 256] ++ bytesN e.u ++ numB 8 T) (numB 4 e.x.size) (by kernel_rfl) how9.out (uw9) (by kernel_rfl) hyw9 (by simp [numB_len, bytesN_len] <;> omega) hSw9.out.bel.size ?_
    intro vwa wa hown hgr _
    simp only [Act.put, fl1, fl2, fl3]
    have hSwa : Hid (BS w B e wa) := hSw9.out.grown how9.out (Nat.le_refl _) hgr
    have howa : Hid (wa.ownsRow w.heap.size 5 1 vwa (numB 8 j ++ [e.u.size % 256] ++ bytesN e.u ++ numB 8 T ++ numB 4 e.x.size).length (vals (numB 8 j ++ [e.u.size % 256] ++ bytesN e.u ++ numB 8 T ++ numB 4 e.x.size))) := hown
    clear hown hgr hSw9 how9 hyw9
    refine sl_run rfl (vwa) wa (by kernel_rfl) ?_
    simp only [Act.put, fl1, fl2, fl3]
    refine wpList_nil ?_
    go_upto_region 8 with fail
    refine wp_region_lit ?_
    refine sl_run rfl (vwa) wa (by kernel_rfl) ?_
    simp only [Act.put, fl1, fl2, fl3]
    refine sl_run rfl (.pointer (some ⟨B, 2, none⟩)) wa (by kernel_rfl) ?_
    simp only [Act.put, fl1, fl2, fl3]
    refine sl_run rfl (.string e.x) wa (exec_load_cell 9 wa _ rfl ⟨B, 2, none⟩ (by kernel_rfl) _ (by rw [cell_of_row _ _ _ _ _ _ hSwa.out.box]; rfl) (fun _ => by kernel_rfl)) ?_
    simp only [Act.put, fl1, fl2, fl3]
    refine sg_run (by kernel_rfl) (.slice (some ⟨wa.heap.size, 0, none⟩) (e.x).size (grownCap wa (e.x).size 0 5)) (Lib.bytesWorld wa 5 (e.x)) (exec_convS _ rfl (e.x) (by kernel_rfl)) ?_
    simp only [Act.put, fl1, fl2, fl3]
    have hbn : Below wa.heap.size wa (Lib.bytesWorld wa 5 (e.x)) := bytes_below (Below.refl _ _) (Nat.le_refl _) _ _
    have hywb : Bytes (Lib.bytesWorld wa 5 (e.x)) (.slice (some ⟨wa.heap.size, 0, none⟩) (e.x).size (grownCap wa (e.x).size 0 5)) (bytesN (e.x)) := bytes_conv _ _
    have hSwb : Hid (BS w B e (Lib.bytesWorld wa 5 (e.x))) := hSwa.out.below hbn
    have howb : Hid ((Lib.bytesWorld wa 5 (e.x)).ownsRow w.heap.size 5 1 vwa _ _) := own_keep howa.out (fun q hq => hbn.block q ((howa.out).lt q hq).2)
    obtain ⟨ywb, hyy⟩ : ∃ y, y = Value.slice (some ⟨wa.heap.size, 0, none⟩) (e.x).size (grownCap wa (e.x).size 0 5) := ⟨_, rfl⟩
    rw [← hyy] at hywb ⊢
    clear hbn hSwa howa hyy
    generalize Lib.bytesWorld _ _ _ = wb at hywb hSwb howb ⊢
    refine Sha.append22 rfl _ _ rfl w.heap.size vwa (numB 8 j ++ [e.u.size % 256] ++ bytesN e.u ++ numB 8 T ++ numB 4 e.x.size) (bytesN e.x) (by kernel_rfl) howb.out (ywb) (by kernel_rfl) hywb (by simp [numB_len, bytesN_len] <;> omega) hSwb.out.bel.size ?_
    intro vwc wc hown hgr _
    simp only [Act.put, fl1, fl2, fl3]
    have hSwc : Hid (BS w B e wc) := hSwb.out.grown howb.out (Nat.le_refl _) hgr
    have howc : Hid (wc.ownsRow w.heap.size 5 1 vwc (numB 8 j ++ [e.u.size % 256] ++ bytesN e.u ++ numB 8 T ++ numB 4 e.x.size ++ bytesN e.x).length (vals (numB 8 j ++ [e.u.size % 256] ++ bytesN e.u ++ numB 8 T ++ numB 4 e.x.size ++ bytesN e.x))) := hown
    clear hown hgr hSwb howb hywb
    refine sl_run rfl (vwc) wc (by kernel_rfl) ?_
    simp only [Act.put, fl1, fl2, fl3]
    refine wpList_nil ?_
    obtain ⟨L, hL⟩ : ∃ L, L = numB 8 j ++ [e.u.size % 256] ++ bytesN e.u ++ numB 8 T ++ numB 4 e.x.size ++ bytesN e.x := ⟨_, rfl⟩
    rw [← hL] at howc
    have hent : Hid (L ++ e.d = entB j e) := by
      show _ = _
      rw [hL]; unfold entB
      rw [hT, Int.toNat_natCast]
    have hLl : L.length ≤ 100000 := by rw [hL]; simp [numB_len, bytesN_len]; omega
    have hd32 : e.d.length = 32 := heH.out.1
    clear hj hjj hT hL
    go_wp2_with fail
    go_loopw [6, 7] (fun v u wr => ∃ k : Nat, k ≤ 32 ∧ u = .int .i64 (k : Int) ∧ Hid (BS w B e wr) ∧ Hid (wr.ownsRow w.heap.size 5 1 v (L ++ e.d.take k).length (vals (L ++ e.d.take k)))) (fun _ u _ => 32 - (intOf u).toNat)
    case atStart => exact ⟨0, by omega, rfl, hSwc, by simpa using howc⟩
    case round =>
      obtain ⟨k, hk32, rfl, hSr, hor⟩ := hrel
      obtain ⟨wo, rfl⟩ : ∃ v : World, v = wr := ⟨_, rfl⟩
      clear hSwc howc
      by_cases hk : k < 32
      · have hI : (k : Int) < 32 := by omega
        have hSwo : Hid (BS w B e wo) := hSr
        obtain ⟨vk, rfl⟩ : ∃ v : Value, v = u6 := ⟨_, rfl⟩
        have howo : Hid (wo.ownsRow w.heap.size 5 1 vk (L ++ e.d.take k).length (vals (L ++ e.d.take k))) := hor
        clear hSr hor
        go_upto_region 12 with fail
        refine wp_region_lit ?_
        refine sl_run rfl (vk) wo (by kernel_rfl) ?_
        simp only [Act.put, fl1, fl2, fl3]
        refine sl_run rfl (.int .i64 (k : Int)) wo (by kernel_rfl) ?_
        simp only [Act.put, fl1, fl2, fl3]
        refine sl_run rfl (.pointer (some ⟨B, 3, none⟩)) wo (by kernel_rfl) ?_
        simp only [Act.put, fl1, fl2, fl3]
        refine sl_run rfl (.pointer (some ⟨B, 3 + k, none⟩)) wo (exec_field22 _ _ _ rfl B 3 k (by kernel_rfl) (by kernel_rfl) hk) ?_
        simp only [Act.put, fl1, fl2, fl3]
        refine sl_run rfl (.int .u8 ((e.d.getD k 0 : Nat) : Int)) wo (exec_load_cell 5 _ _ rfl ⟨B, 3 + k, none⟩ (by kernel_rfl) _ (hSwo.out.dcell k (by omega)) (fun _ => by kernel_rfl)) ?_
        simp only [Act.put, fl1, fl2, fl3]
        refine sg_run (by kernel_rfl) (.slice (some ⟨wo.heap.size, 0, none⟩) 1 1) (wo.alloc (.cells (bytesC [e.d.getD k 0]) 5)) (by kernel_rfl) ?_
        simp only [Act.put, fl1, fl2, fl3]
        have hbn : Below wo.heap.size wo (wo.alloc (.cells (bytesC [e.d.getD k 0]) 5)) := (Below.refl _ _).alloc (Nat.le_refl _) _
        have hywp : Bytes (wo.alloc (.cells (bytesC [e.d.getD k 0]) 5)) (.slice (some ⟨wo.heap.size, 0, none⟩) 1 1) [e.d.getD k 0] := Sha.bytes_mark wo [e.d.getD k 0] 1 rfl (0, 0)
        obtain ⟨ggwp, hggwp⟩ : ∃ q, q = wo.heap.size := ⟨_, rfl⟩
        rw [← hggwp] at hywp ⊢
        have hSwp : Hid (BS w B e (wo.alloc (.cells (bytesC [e.d.getD k 0]) 5))) := hSwo.out.below hbn
        have howp : Hid ((wo.alloc (.cells (bytesC [e.d.getD k 0]) 5)).ownsRow w.heap.size 5 1 vk _ _) := own_keep howo.out (fun q hq => hbn.block q ((howo.out).lt q hq).2)
        clear hbn hSwo howo hggwp
        generalize World.alloc _ _ = wp at hywp hSwp howp ⊢
        refine Sha.append22 rfl _ _ rfl w.heap.size vk (L ++ e.d.take k) ([e.d.getD k 0]) (by kernel_rfl) howp.out (.slice (some ⟨ggwp, 0, none⟩) 1 1) (by kernel_rfl) hywp (by simp [numB_len, bytesN_len, heH.out.1] <;> omega) hSwp.out.bel.size ?_
        intro vwq wq hown hgr _
        simp only [Act.put, fl1, fl2, fl3]
        have hSwq : Hid (BS w B e wq) := hSwp.out.grown howp.out (Nat.le_refl _) hgr
        have howq : Hid (wq.ownsRow w.heap.size 5 1 vwq (L ++ e.d.take k ++ [e.d.getD k 0]).length (vals (L ++ e.d.take k ++ [e.d.getD k 0]))) := hown
        clear hown hgr hSwp howp hywp
        refine sl_run rfl (vwq) wq (by kernel_rfl) ?_
        simp only [Act.put, fl1, fl2, fl3]
        refine wpList_nil ?_
        have htk : L ++ e.d.take k ++ [e.d.getD k 0] = L ++ e.d.take (k + 1) := by
          rw [List.append_assoc, List.take_add_one]
          simp [List.getD_eq_getElem?_getD, show k < e.d.length by omega]
        have hN : Hid (wq.ownsRow w.heap.size 5 1 vwq (L ++ e.d.take (k + 1)).length (vals (L ++ e.d.take (k + 1)))) := by rw [← htk]; exact howq.out
        clear howq htk
        go_wp2_with fail
        go_roundw
        case rel => exact ⟨k + 1, by omega, by go_num, hSwq, hN⟩
        case measure => simp [intOf]; omega
      · have hI : ¬ (k : Int) < 32 := by omega
        obtain rfl : k = 32 := by omega
        have hF : Hid (BS w B e wo) := hSr
        obtain ⟨vk, rfl⟩ : ∃ v : Value, v = u6 := ⟨_, rfl⟩
        have hG : Hid (Bytes wo vk (entB j e)) := by
          have h := hor.out
          rw [List.take_of_length_le (by omega), hent.out] at h
          exact own_bytes h
        clear hSr hor
        go_wp2_with fail
        go_ret2
        exact ⟨_, rfl, hG.out, hF.out.bel⟩
end Go.Proofs.YtadopkifpfmhcaaDoor
namespace Go.Proofs.YtadopkifpfmhcaaDoor
open Go.RowKit
open Sha (vals Bytes Lies bytesC sumB)
open Go.Proofs.YtadopkifpfmhcaaDoorW.PrintWords Go.Proofs.YtadopkifpfmhcaaDoorW.PrintLast Go.Proofs.YtadopkifpfmhcaaDoorW.PrintMore
theorem un34 : Tryd.prog.underlying 34 = some (.slice (Tryd.prog.elem 34)) := by kernel_rfl
theorem sz34 (w : World) : (sizeOf (Tryd.prog.elem 34)).run Tryd.prog w = .ok 35 w := by kernel_rfl
theorem load_en {o : Oper} {a : Act} (w : World) (x : Operand) (ho : o.op = .load 24 x) (b k : Nat) (hx : a.eval x = .pointer (some ⟨b, k, none⟩)) (e : En) (hc : w.rangeAt b k (encE e).toList) : (execOp a.eval o).run Tryd.prog w = .ok (.value (.agg (encE e))) w :=
  (exec_load_mid 24 w x ho b k hx (encE e).toList _ hc Tryd.underlying24 rfl (by rw [Array.length_toList, encE_size']; kernel_rfl)).trans (by rw [Array.toArray_toList])
def badsB (l : List En) : Bool := l.any fun x => !goodE x
set_option maxRecDepth 100000 in
set_option maxHeartbeats 4000000 in
theorem clos_calls (e : En) (w : World) : Calls Tryd.prog 54 #[.agg (encE e)] w fun z w' => z = .returned (.bool (!goodE e)) ∧ Below w.heap.size w w' := by
  go_enter Tryd.func54, Tryd.ntmps54
  go_upto_region 1 with fail
  generalize hW : World.alloc _ _ = W
  have hW0 : W.heap[w.heap.size]? = some (.cells (encE e) 24 (0, 0)) := by rw [← hW]; exact heap_alloc_new _ _
  have hWB : Below w.heap.size w W := by rw [← hW]; exact (Below.refl _ _).alloc (Nat.le_refl _) _
  clear hW
  obtain ⟨B, hB⟩ : ∃ B, B = w.heap.size := ⟨_, rfl⟩
  rw [← hB] at hW0 ⊢
  have hSW : Hid (BS w B e W) := ⟨hW0, hWB⟩
  clear hW0 hWB hB
  refine wp_region_lit ?_
  refine sg_run (by kernel_rfl) (.agg (encE e)) W (exec_load_row 24 W _ rfl B (by kernel_rfl) 24 (encE e) (0, 0) _ hSW.out.box Tryd.underlying24 rfl (by rw [encE_size']; kernel_rfl)) ?_
  simp only [Act.put, fl1, fl2, fl3]
  refine sg_call (by kernel_rfl) 14 #[.agg (encE e)] (by kernel_rfl) (R := fun v w' => v = .bool (goodE e) ∧ Below W.heap.size W w') ((good_calls e W).mono fun e w' h => ⟨_, h.1, rfl, h.2⟩) ?_
  rintro _ w1 ⟨rfl, hb⟩
  simp only [Act.put, fl1, fl2, fl3]
  have hSw1 : Hid (BS w B e w1) := (hSW.out).below hb
  clear hSW
  clear hb
  refine sl_run rfl (.bool (!(goodE e))) w1 (by kernel_rfl) ?_
  simp only [Act.put, fl1, fl2, fl3]
  refine sl_run rfl (.bool (!(goodE e))) w1 (by kernel_rfl) ?_
  simp only [Act.put, fl1, fl2, fl3]
  refine wpList_nil ?_
  have hF := hSw1
  clear hSw1
  go_wp2_with fail
  go_ret
  exact ⟨rfl, hF.out.bel⟩
set_option maxRecDepth 100000 in
set_option maxHeartbeats 4000000 in
theorem index_calls (l : List En) (A : Option Addr) (n c : Nat) (hn : n = l.length) (hn9 : n ≤ 1000000000) (w : World) (hy : Rw 35 encE w (.slice A n c) l) :
    Calls Tryd.prog 62 #[.slice A n c, .func (.func 54) #[] #[]] w fun e w' => ∃ r : Int, e = .returned (.int .i64 r) ∧ decide (0 ≤ r) = badsB l ∧ Below w.heap.size w w' := by
  have hn' : Hid (n = l.length) := hn
  have hyH : Hid (Rw 35 encE w (.slice A n c) l) := hy
  clear hn hy
  go_enter Tryd.func62, Tryd.ntmps62
  go_wp2_with fail
  go_loopw [8] (fun u wr => ∃ i : Nat, i ≤ n ∧ u = .int .i64 (i : Int) ∧ Hid (∀ j, j < i → goodE (l.getD j default) = true) ∧ Hid (Below w.heap.size w wr)) (fun u _ => n - (intOf u).toNat)
  case atStart => exact ⟨0, by omega, rfl, (fun j h => absurd h (by omega)), Below.refl _ _⟩
  case round =>
    obtain ⟨i, hin, rfl, hall, hb⟩ := hrel
    obtain ⟨wo, rfl⟩ : ∃ v : World, v = wr := ⟨_, rfl⟩
    by_cases hi : i < n
    · have hI : (i : Int) < (n : Int) := by omega
      obtain ⟨g, o, rfl, hnc, hg, hel⟩ := (hyH.out.below hb.out).elem i (by rw [← hn'.out]; exact hi)
      obtain ⟨x, hx⟩ : ∃ x, x = l.getD i default := ⟨_, rfl⟩
      rw [← hx] at hel
      have hxH : Hid (x = l.getD i default) := hx
      have helH : Hid (wo.rangeAt g (o + i * 35) (encE x).toList) := hel
      have hBwo : Hid (Below w.heap.size w wo) := hb
      clear hx hel hg hb
      go_upto_region 4 with fail
      refine wp_region_lit ?_
      refine sl_run rfl (.func (.func 54) #[] #[]) wo (by kernel_rfl) ?_
      simp only [Act.put, fl1, fl2, fl3]
      refine sl_run rfl (.slice (some ⟨g, o, none⟩) n c) wo (by kernel_rfl) ?_
      simp only [Act.put, fl1, fl2, fl3]
      refine sl_run rfl (.int .i64 (i : Int)) wo (by kernel_rfl) ?_
      simp only [Act.put, fl1, fl2, fl3]
      refine sl_run rfl (.pointer (some ⟨g, o + i * 35, none⟩)) wo (exec_index un34 sz34 _ _ rfl g o n c i (by kernel_rfl) (by kernel_rfl) hi _) ?_
      simp only [Act.put, fl1, fl2, fl3]
      refine sl_run rfl (.agg (encE x)) wo (load_en _ _ rfl g (o + i * 35) (by kernel_rfl) x helH.out) ?_
      simp only [Act.put, fl1, fl2, fl3]
      obtain ⟨gd, hgd⟩ : ∃ b, b = goodE x := ⟨_, rfl⟩
      refine sg_call (by kernel_rfl) 54 #[.agg (encE x)] (by kernel_rfl) (R := fun v w' => v = .bool (!gd) ∧ Below wo.heap.size wo w') ((hgd ▸ clos_calls x wo).mono fun e w' h => ⟨_, h.1, rfl, h.2⟩) ?_
      rintro _ w1 ⟨rfl, hb⟩
      simp only [Act.put, fl1, fl2, fl3]
      have hBw1 : Hid (Below w.heap.size w w1) := hBwo.out.trans ((hb).mono (hBwo.out).size)
      clear hBwo
      clear hb
      refine wpList_nil ?_
      clear helH
      cases gd with
      | false =>
        have hbad : Hid (badsB l = true) := by
          show _ = _
          unfold badsB
          rw [List.any_eq_true]
          exact ⟨x, by rw [hxH.out]; have := hn'.out; simp [show i < l.length by omega], by rw [← hgd]; rfl⟩
        clear hall hxH hgd
        go_wp2_with fail
        go_ret
        exact ⟨_, rfl, by rw [hbad.out]; exact decide_eq_true (by omega), hBw1.out⟩
      | true =>
        have hnext : Hid (∀ j, j < i + 1 → goodE (l.getD j default) = true) := fun j hj => by
          rcases Nat.lt_or_ge j i with h | h
          · exact hall.out j h
          · obtain rfl : j = i := by omega
            rw [← hxH.out]; exact hgd.symm
        clear hall hxH hgd
        go_wp2_with fail
        go_roundw
        case rel => exact ⟨i + 1, by omega, by go_num, hnext, hBw1⟩
        case measure => simp [intOf]; omega
    · have hI : ¬ (i : Int) < (n : Int) := by omega
      obtain rfl : i = n := by omega
      have hgood : Hid (badsB l = false) := by
        show _ = _
        unfold badsB
        rw [List.any_eq_false]
        intro y hy
        obtain ⟨j, hj, rfl⟩ := List.getElem_of_mem hy
        have := hall.out j (by rw [hn'.out]; exact hj)
        simp [List.getD_eq_getElem?_getD, hj] at this
        simp [this]
      clear hall
      go_wp2_with fail
      go_ret
      exact ⟨_, rfl, by rw [hgood.out]; rfl, hb.out⟩
set_option maxRecDepth 100000 in
set_option maxHeartbeats 4000000 in
theorem contains_calls (l : List En) (A : Option Addr) (n c : Nat) (hn : n = l.length) (hn9 : n ≤ 1000000000) (w : World) (hy : Rw 35 encE w (.slice A n c) l) :
    Calls Tryd.prog 53 #[.slice A n c, .func (.func 54) #[] #[]] w fun e w' => e = .returned (.bool (badsB l)) ∧ Below w.heap.size w w' := by
  have hn' : Hid (n = l.length) := hn
  have hyH : Hid (Rw 35 encE w (.slice A n c) l) := hy
  obtain ⟨bd, hbd⟩ : ∃ b, b = badsB l := ⟨_, rfl⟩
  rw [← hbd]
  have hbdH : Hid (bd = badsB l) := hbd
  clear hn hy hbd
  go_enter Tryd.func53, Tryd.ntmps53
  go_upto_region 1 with fail
  refine wp_region_lit ?_
  refine sl_run rfl (.slice A n c) w (by kernel_rfl) ?_
  simp only [Act.put, fl1, fl2, fl3]
  refine sl_run rfl (.func (.func 54) #[] #[]) w (by kernel_rfl) ?_
  simp only [Act.put, fl1, fl2, fl3]
  refine sg_call (by kernel_rfl) 62 #[.slice A n c, .func (.func 54) #[] #[]] (by kernel_rfl) (R := fun v w' => ∃ r : Int, v = .int .i64 r ∧ decide (0 ≤ r) = bd ∧ Below w.heap.size w w') ((index_calls l A n c hn'.out hn9 w hyH.out).mono fun e w' h => by
    obtain ⟨r, h1, h2, h3⟩ := h
    exact ⟨_, h1, r, rfl, h2.trans hbdH.out.symm, h3⟩) ?_
  rintro _ w1 ⟨r, rfl, hr, hb⟩
  simp only [Act.put, fl1, fl2, fl3]
  have hBw1 : Hid (Below w.heap.size w w1) := hb
  clear hb
  refine sl_run rfl (.bool bd) w1 (exec_geq 3 _ _ rfl r 0 (by kernel_rfl) (by kernel_rfl) bd hr) ?_
  simp only [Act.put, fl1, fl2, fl3]
  refine sl_run rfl (.bool bd) w1 (by kernel_rfl) ?_
  simp only [Act.put, fl1, fl2, fl3]
  refine wpList_nil ?_
  clear hr hbdH hyH
  go_wp2_with fail
  go_ret
  exact ⟨rfl, hBw1.out⟩
def rightS (cut : Int) (l : List En) : Bool := decide (1 ≤ cut) && (decide (cut ≤ 32) && !badsB l)
set_option maxRecDepth 100000 in
set_option maxHeartbeats 4000000 in
theorem right_calls (cut : Int) (l : List En) (A : Option Addr) (n c : Nat) (hn : n = l.length) (hn9 : n ≤ 1000000000) (w : World) (hy : Rw 35 encE w (.slice A n c) l) :
    Calls Tryd.prog 37 #[.int .i64 cut, .slice A n c] w fun e w' => e = .returned (.bool (rightS cut l)) ∧ Below w.heap.size w w' := by
  have hn' : Hid (n = l.length) := hn
  have hyH : Hid (Rw 35 encE w (.slice A n c) l) := hy
  clear hn hy
  go_enter Tryd.func37, Tryd.ntmps37
  go_upto_region 1 with fail
  refine wp_region_lit ?_
  by_cases h1 : 1 ≤ cut
  case neg =>
    refine sl_run rfl (.int .i64 cut) w (by kernel_rfl) ?_
    simp only [Act.put, fl1, fl2, fl3]
    refine sl_run rfl (.bool false) w (exec_geq 3 _ _ rfl cut 1 (by kernel_rfl) (by kernel_rfl) false (decide_eq_false (by omega))) ?_
    simp only [Act.put, fl1, fl2, fl3]
    refine sl_run rfl (.bool false) w (by kernel_rfl) ?_
    simp only [Act.put, fl1, fl2, fl3]
    refine wpList_skip ?hw ?_
    case hw => kernel_rfl
    simp only [Act.put, fl1, fl2, fl3]
    refine wpList_skip ?hw ?_
    case hw => kernel_rfl
    simp only [Act.put, fl1, fl2, fl3]
    refine sl_run rfl (.bool false) w (by kernel_rfl) ?_
    simp only [Act.put, fl1, fl2, fl3]
    refine sl_run rfl (.bool false) w (by kernel_rfl) ?_
    simp only [Act.put, fl1, fl2, fl3]
    refine wpList_skip ?hw ?_
    case hw => kernel_rfl
    simp only [Act.put, fl1, fl2, fl3]
    refine wpList_skip ?hw ?_
    case hw => kernel_rfl
    simp only [Act.put, fl1, fl2, fl3]
    refine wpList_skip ?hw ?_
    case hw => kernel_rfl
    simp only [Act.put, fl1, fl2, fl3]
    refine sl_run rfl (.bool false) w (by kernel_rfl) ?_
    simp only [Act.put, fl1, fl2, fl3]
    refine sl_run rfl (.bool false) w (by kernel_rfl) ?_
    simp only [Act.put, fl1, fl2, fl3]
    refine wpList_nil ?_
    clear hyH
    go_wp2_with fail
    go_ret
    exact ⟨by rw [rightS, show decide (1 ≤ cut) = false from decide_eq_false (by omega)]; rfl, Below.refl _ _⟩
  case pos =>
    refine sl_run rfl (.int .i64 cut) w (by kernel_rfl) ?_
    simp only [Act.put, fl1, fl2, fl3]
    refine sl_run rfl (.bool true) w (exec_geq 3 _ _ rfl cut 1 (by kernel_rfl) (by kernel_rfl) true (decide_eq_true (by omega))) ?_
    simp only [Act.put, fl1, fl2, fl3]
    refine sl_run rfl (.bool true) w (by kernel_rfl) ?_
    simp only [Act.put, fl1, fl2, fl3]
    refine sg_run (by kernel_rfl) (.int .i64 cut) w (by kernel_rfl) ?_
    simp only [Act.put, fl1, fl2, fl3]
    by_cases h2 : cut ≤ 32
    case neg =>
      refine sg_run (by kernel_rfl) (.bool false) w (exec_leq 3 _ _ rfl cut 32 (by kernel_rfl) (by kernel_rfl) false (decide_eq_false (by omega))) ?_
      simp only [Act.put, fl1, fl2, fl3]
      refine sl_run rfl (.bool false) w (by kernel_rfl) ?_
      simp only [Act.put, fl1, fl2, fl3]
      refine sl_run rfl (.bool false) w (by kernel_rfl) ?_
      simp only [Act.put, fl1, fl2, fl3]
      refine wpList_skip ?hw ?_
      case hw => kernel_rfl
      simp only [Act.put, fl1, fl2, fl3]
      refine wpList_skip ?hw ?_
      case hw => kernel_rfl
      simp only [Act.put, fl1, fl2, fl3]
      refine wpList_skip ?hw ?_
      case hw => kernel_rfl
      simp only [Act.put, fl1, fl2, fl3]
      refine sl_run rfl (.bool false) w (by kernel_rfl) ?_
      simp only [Act.put, fl1, fl2, fl3]
      refine sl_run rfl (.bool false) w (by kernel_rfl) ?_
      simp only [Act.put, fl1, fl2, fl3]
      refine wpList_nil ?_
      clear hyH
      go_wp2_with fail
      go_ret
      exact ⟨by rw [rightS, show decide (1 ≤ cut) = true from decide_eq_true (by omega), show decide (cut ≤ 32) = false from decide_eq_false (by omega)]; rfl, Below.refl _ _⟩
    case pos =>
      obtain ⟨bd, hbd⟩ : ∃ b, b = badsB l := ⟨_, rfl⟩
      refine sg_run (by kernel_rfl) (.bool true) w (exec_leq 3 _ _ rfl cut 32 (by kernel_rfl) (by kernel_rfl) true (decide_eq_true (by omega))) ?_
      simp only [Act.put, fl1, fl2, fl3]
      refine sl_run rfl (.bool true) w (by kernel_rfl) ?_
      simp only [Act.put, fl1, fl2, fl3]
      refine sl_run rfl (.bool true) w (by kernel_rfl) ?_
      simp only [Act.put, fl1, fl2, fl3]
      refine sg_run (by kernel_rfl) (.slice A n c) w (by kernel_rfl) ?_
      simp only [Act.put, fl1, fl2, fl3]
      refine sg_call (by kernel_rfl) 53 #[.slice A n c, .func (.func 54) #[] #[]] (by kernel_rfl) (R := fun v w' => v = .bool bd ∧ Below w.heap.size w w') ((contains_calls l A n c hn'.out hn9 w hyH.out).mono fun e w' h => ⟨_, h.1, by rw [hbd], h.2⟩) ?_
      rintro _ w1 ⟨rfl, hb⟩
      simp only [Act.put, fl1, fl2, fl3]
      have hBw1 : Hid (Below w.heap.size w w1) := hb
      clear hb
      refine sg_run (by kernel_rfl) (.bool (!bd)) w1 (by kernel_rfl) ?_
      simp only [Act.put, fl1, fl2, fl3]
      refine sl_run rfl (.bool (!bd)) w1 (by kernel_rfl) ?_
      simp only [Act.put, fl1, fl2, fl3]
      refine sl_run rfl (.bool (!bd)) w1 (by kernel_rfl) ?_
      simp only [Act.put, fl1, fl2, fl3]
      refine wpList_nil ?_
      clear hyH
      go_wp2_with fail
      go_ret
      exact ⟨by rw [rightS, show decide (1 ≤ cut) = true from decide_eq_true (by omega), show decide (cut ≤ 32) = true from decide_eq_true (by omega), ← hbd]; rfl, hBw1.out⟩
end Go.Proofs.YtadopkifpfmhcaaDoor
namespace Go.Proofs.YtadopkifpfmhcaaDoor
open Go.RowKit
open Sha (vals Bytes Lies bytesC sumB)
open Go.Proofs.YtadopkifpfmhcaaDoorW.PrintWords Go.Proofs.YtadopkifpfmhcaaDoorW.PrintLast Go.Proofs.YtadopkifpfmhcaaDoorW.PrintMore
set_option maxRecDepth 100000 in
set_option maxHeartbeats 4000000 in
theorem rright_calls (cut : Int) (l : List En) (A : Option Addr) (n c : Nat) (hn : n = l.length) (hn9 : n ≤ 1000000000) (w : World) (hy : Rw 35 encE w (.slice A n c) l) :
    Calls Tryd.prog 40 #[.int .i64 cut, .slice A n c] w fun e w' => e = .returned (.bool (rightS cut l)) ∧ Below w.heap.size w w' := by
  have hn' : Hid (n = l.length) := hn
  have hyH : Hid (Rw 35 encE w (.slice A n c) l) := hy
  clear hn hy
  go_enter Tryd.func40, Tryd.ntmps40
  go_wp2_with fail
  go_loopw [5] (fun u wr => ∃ i : Nat, i ≤ n ∧ u = .int .i64 (i : Int) ∧ Hid (∀ j, j < i → goodE (l.getD j default) = true) ∧ Hid (Below w.heap.size w wr)) (fun u _ => n - (intOf u).toNat)
  case atStart => exact ⟨0, by omega, rfl, (fun j h => absurd h (by omega)), Below.refl _ _⟩
  case round =>
    obtain ⟨i, hin, rfl, hall, hb⟩ := hrel
    obtain ⟨wo, rfl⟩ : ∃ v : World, v = wr := ⟨_, rfl⟩
    by_cases hi : i < n
    · have hI : (i : Int) < (n : Int) := by omega
      obtain ⟨g, o, rfl, hnc, hg, hel⟩ := (hyH.out.below hb.out).elem i (by rw [← hn'.out]; exact hi)
      obtain ⟨x, hx⟩ : ∃ x, x = l.getD i default := ⟨_, rfl⟩
      rw [← hx] at hel
      have hxH : Hid (x = l.getD i default) := hx
      have helH : Hid (wo.rangeAt g (o + i * 35) (encE x).toList) := hel
      have hBwo : Hid (Below w.heap.size w wo) := hb
      clear hx hel hg hb
      go_upto_region 4 with fail
      refine wp_region_lit ?_
      refine sl_run rfl (.slice (some ⟨g, o, none⟩) n c) wo (by kernel_rfl) ?_
      simp only [Act.put, fl1, fl2, fl3]
      refine sl_run rfl (.int .i64 (i : Int)) wo (by kernel_rfl) ?_
      simp only [Act.put, fl1, fl2, fl3]
      refine sl_run rfl (.pointer (some ⟨g, o + i * 35, none⟩)) wo (exec_index un34 sz34 _ _ rfl g o n c i (by kernel_rfl) (by kernel_rfl) hi _) ?_
      simp only [Act.put, fl1, fl2, fl3]
      refine sl_run rfl (.agg (encE x)) wo (load_en _ _ rfl g (o + i * 35) (by kernel_rfl) x helH.out) ?_
      simp only [Act.put, fl1, fl2, fl3]
      obtain ⟨gd, hgd⟩ : ∃ b, b = goodE x := ⟨_, rfl⟩
      refine sg_call (by kernel_rfl) 15 #[.agg (encE x)] (by kernel_rfl) (R := fun v w' => v = .bool gd ∧ Below wo.heap.size wo w') ((hgd ▸ rgood_calls x wo).mono fun e w' h => ⟨_, h.1, rfl, h.2⟩) ?_
      rintro _ w1 ⟨rfl, hb⟩
      simp only [Act.put, fl1, fl2, fl3]
      have hBw1 : Hid (Below w.heap.size w w1) := hBwo.out.trans ((hb).mono (hBwo.out).size)
      clear hBwo
      clear hb
      refine sl_run rfl (.bool (!gd)) w1 (by kernel_rfl) ?_
      simp only [Act.put, fl1, fl2, fl3]
      refine wpList_nil ?_
      clear helH
      cases gd with
      | false =>
        have hbad : Hid (rightS cut l = false) := by
          show _ = _
          have : badsB l = true := by
            unfold badsB
            rw [List.any_eq_true]
            exact ⟨x, by rw [hxH.out]; have := hn'.out; simp [show i < l.length by omega], by rw [← hgd]; rfl⟩
          unfold rightS
          rw [this]; simp
        clear hall hxH hgd
        go_wp2_with fail
        go_ret
        exact ⟨by rw [hbad.out]; rfl, hBw1.out⟩
      | true =>
        have hnext : Hid (∀ j, j < i + 1 → goodE (l.getD j default) = true) := fun j hj => by
          rcases Nat.lt_or_ge j i with h | h
          · exact hall.out j h
          · obtain rfl : j = i := by omega
            rw [← hxH.out]; exact hgd.symm
        clear hall hxH hgd
        go_wp2_with fail
        go_roundw
        case rel => exact ⟨i + 1, by omega, by go_num, hnext, hBw1⟩
        case measure => simp [intOf]; omega
    · have hI : ¬ (i : Int) < (n : Int) := by omega
      obtain rfl : i = n := by omega
      have hgood : Hid (badsB l = false) := by
        show _ = _
        unfold badsB
        rw [List.any_eq_false]
        intro y hy
        obtain ⟨j, hj, rfl⟩ := List.getElem_of_mem hy
        have := hall.out j (by rw [hn'.out]; exact hj)
        simp [List.getD_eq_getElem?_getD, hj] at this
        simp [this]
      have hBwo : Hid (Below w.heap.size w wo) := hb
      clear hall hyH hb
      go_upto_region 6 with fail
      refine wp_region_lit ?_
      by_cases h1 : 1 ≤ cut
      case neg =>
        refine sl_run rfl (.int .i64 cut) wo (by kernel_rfl) ?_
        simp only [Act.put, fl1, fl2, fl3]
        refine sl_run rfl (.bool false) wo (exec_geq 3 _ _ rfl cut 1 (by kernel_rfl) (by kernel_rfl) false (decide_eq_false (by omega))) ?_
        simp only [Act.put, fl1, fl2, fl3]
        refine sl_run rfl (.bool false) wo (by kernel_rfl) ?_
        simp only [Act.put, fl1, fl2, fl3]
        refine wpList_skip ?hw ?_
        case hw => kernel_rfl
        simp only [Act.put, fl1, fl2, fl3]
        refine wpList_skip ?hw ?_
        case hw => kernel_rfl
        simp only [Act.put, fl1, fl2, fl3]
        refine sl_run rfl (.bool false) wo (by kernel_rfl) ?_
        simp only [Act.put, fl1, fl2, fl3]
        refine sl_run rfl (.bool false) wo (by kernel_rfl) ?_
        simp only [Act.put, fl1, fl2, fl3]
        refine wpList_nil ?_
        go_wp2_with fail
        go_ret
        exact ⟨by rw [rightS, show decide (1 ≤ cut) = false from decide_eq_false (by omega)]; rfl, hBwo.out⟩
      case pos =>
        refine sl_run rfl (.int .i64 cut) wo (by kernel_rfl) ?_
        simp only [Act.put, fl1, fl2, fl3]
        refine sl_run rfl (.bool true) wo (exec_geq 3 _ _ rfl cut 1 (by kernel_rfl) (by kernel_rfl) true (decide_eq_true (by omega))) ?_
        simp only [Act.put, fl1, fl2, fl3]
        refine sl_run rfl (.bool true) wo (by kernel_rfl) ?_
        simp only [Act.put, fl1, fl2, fl3]
        refine sg_run (by kernel_rfl) (.int .i64 cut) wo (by kernel_rfl) ?_
        simp only [Act.put, fl1, fl2, fl3]
        obtain ⟨q, hq⟩ : ∃ q, q = decide (cut ≤ 32) := ⟨_, rfl⟩
        refine sg_run (by kernel_rfl) (.bool q) wo (exec_leq 3 _ _ rfl cut 32 (by kernel_rfl) (by kernel_rfl) q hq.symm) ?_
        simp only [Act.put, fl1, fl2, fl3]
        refine sl_run rfl (.bool q) wo (by kernel_rfl) ?_
        simp only [Act.put, fl1, fl2, fl3]
        refine sl_run rfl (.bool q) wo (by kernel_rfl) ?_
        simp only [Act.put, fl1, fl2, fl3]
        refine wpList_nil ?_
        go_wp2_with fail
        go_ret
        exact ⟨by rw [rightS, show decide (1 ≤ cut) = true from decide_eq_true (by omega), hgood.out, ← hq]; simp, hBwo.out⟩
end Go.Proofs.YtadopkifpfmhcaaDoor
namespace Go.Proofs.YtadopkifpfmhcaaDoor.Sha
open Go.RowKit
open Go.Sort (grow)
set_option maxRecDepth 100000 in
theorem constant_calls (i : Nat) (hi : i < 64) (w : World) : Calls Tryd.prog 67 #[.int .i64 (i : Int)] w fun e w' => e = .returned (.int .u32 (KL.getD i 0 : Nat)) ∧ Below w.heap.size w w' := by
  obtain ⟨V, hV⟩ : ∃ V, w.alloc (.cells (words KL) 115) = V := ⟨_, rfl⟩
  have hc : V.cell? ⟨w.heap.size, i, none⟩ = some (.int .u32 (KL.getD i 0 : Nat)) := by
    rw [cell_of_row V w.heap.size i (words KL) 115 (0, 0) (by rw [← hV]; exact heap_alloc_new _ _)]; exact words_get _ _ (by rw [show KL.length = 64 from rfl]; exact hi)
  have hB : Below w.heap.size w V := by rw [← hV]; exact (Below.refl _ _).alloc (Nat.le_refl _) _
  obtain ⟨y, hy⟩ : ∃ y, y = KL.getD i 0 := ⟨_, rfl⟩
  rw [← hy] at hc ⊢
  have ni : (i : Int) < 64 := by omega
  have hB' : Hid (Below w.heap.size w V) := hB
  clear hB hi hy
  go_enter Tryd.func67, Tryd.ntmps67
  go_upto_region 1 with fail
  refine wp_region_lit ?_
  refine sl_build rfl 115 _ rfl (words KL) (by kernel_rfl) ?_
  refine sl_run rfl (.pointer (some ⟨w.heap.size, 0, none⟩)) (w.alloc (.cells (words (zeros 64)) 115)) (by kernel_rfl) ?_
  refine wpList_store_row rfl 115 _ _ rfl w.heap.size (words KL) (by kernel_rfl) (by kernel_rfl) 115 (words (zeros 64)) (heap_alloc_new w _) (by kernel_rfl) (by kernel_rfl) (by kernel_rfl) ?_
  rw [World.setRow_alloc_new, hV]
  refine wpList_nil ?_
  clear hV
  rename_i hK
  refine hK _ _ ?_
  clear hK
  simp only [Act.put, fl1, fl2, fl3]
  go_wp2
  go_ret
  exact ⟨rfl, hB'⟩

/-- The document's one loop over the words is the program's two. -/
def wR (B : Nat → Nat) : Nat → List Nat
  | 0 => zeros 64
  | i + 1 => (wR B i).set i (if i < 16 then word B i else mix (wR B i) i)
theorem wR_length (B : Nat → Nat) (i : Nat) : (wR B i).length = 64 := by
  induction i with
  | zero => rfl
  | succ i ih => simp [wR, ih]
theorem wR_w1 (B : Nat → Nat) : ∀ i, i ≤ 16 → wR B i = w1 B i
  | 0, _ => rfl
  | i + 1, h => by rw [wR, w1, wR_w1 B i (by omega), if_pos (by omega)]
theorem wR_w2 (B : Nat → Nat) : ∀ k, wR B (16 + k) = w2 B k
  | 0 => wR_w1 B 16 (by omega)
  | k + 1 => by rw [show 16 + (k + 1) = (16 + k) + 1 by omega, wR, w2, wR_w2 B k, if_neg (by omega)]
theorem wR_lt (B : Nat → Nat) (hB : ∀ j, j < 64 → B j < 256) (i : Nat) : ∀ j, (wR B i).getD j 0 < 4294967296 := by
  by_cases h : i ≤ 16
  · rw [wR_w1 B i h]; exact w1_lt B hB i h
  · have := wR_w2 B (i - 16)
    rw [show 16 + (i - 16) = i by omega] at this
    rw [this]; exact w2_lt B hB _
/-- A word turned to the right, for the numbers that the document names. -/
def rr (z : Int) (x : Nat) : Nat := rotr z.toNat x
theorem rotr_ref (x : Nat) (hx : x < 4294967296) (z : Int) (hz : z = 2 ∨ z = 6 ∨ z = 7 ∨ z = 11 ∨ z = 13 ∨ z = 17 ∨ z = 18 ∨ z = 19 ∨ z = 22 ∨ z = 25) (w : World) :
    Calls Tryd.prog 66 #[.int .u32 (x : Int), .int .u64 z] w fun e w' => e = .returned (.int .u32 (rr z x : Int)) ∧ w' = w := by
  rcases hz with rfl | rfl | rfl | rfl | rfl | rfl | rfl | rfl | rfl | rfl
  · exact turn2 x hx w
  · exact turn6 x hx w
  · exact turn7 x hx w
  · exact turn11 x hx w
  · exact turn13 x hx w
  · exact turn17 x hx w
  · exact turn18 x hx w
  · exact turn19 x hx w
  · exact turn22 x hx w
  · exact turn25 x hx w
theorem xnot_ref (t : Nat) (ht : t < 4294967296) : bits BinOp.xor IntKind.u32 4294967295 (t : Int) = ((4294967295 - t : Nat) : Int) := xnot t ht
theorem sig0_ref (x : Nat) (hx : x < 4294967296) : bits BinOp.xor IntKind.u32 (bits BinOp.xor IntKind.u32 (rr 7 x : Int) (rr 18 x : Int)) ((x : Int) / 8) = ((sig0 x : Nat) : Int) := sig0_val x hx
theorem sig1_ref (x : Nat) (hx : x < 4294967296) : bits BinOp.xor IntKind.u32 (bits BinOp.xor IntKind.u32 (rr 17 x : Int) (rr 19 x : Int)) ((x : Int) / 1024) = ((sig1 x : Nat) : Int) := sig1_val x hx
theorem sum0_ref (x : Nat) (hx : x < 4294967296) : bits BinOp.xor IntKind.u32 (bits BinOp.xor IntKind.u32 (rr 2 x : Int) (rr 13 x : Int)) (rr 22 x : Int) = ((sum0 x : Nat) : Int) := sum0_val x hx
theorem sum1_ref (x : Nat) (hx : x < 4294967296) : bits BinOp.xor IntKind.u32 (bits BinOp.xor IntKind.u32 (rr 6 x : Int) (rr 11 x : Int)) (rr 25 x : Int) = ((sum1 x : Nat) : Int) := sum1_val x hx
set_option maxRecDepth 100000 in
set_option maxHeartbeats 1000000 in
theorem rblock_calls (s : List Nat) (hs : s.length = 8) (hsw : ∀ x ∈ s, x < 4294967296) (B : Nat → Nat) (bb oo n c : Nat) (hn : 64 ≤ n) (hnc : n ≤ c) (w : World)
    (hcell : ∀ j, j < 64 → w.cell? ⟨bb, oo + j, none⟩ = some (.int .u8 (B j : Nat))) (hB : ∀ j, j < 64 → B j < 256) :
    Calls Tryd.prog 63 #[.agg (words s), .slice (some ⟨bb, oo, none⟩) n c] w fun e w' => e = .returned (.agg (words (blk s B))) ∧ Below w.heap.size w w' := by
  obtain ⟨s0, s1, s2, s3, s4, s5, s6, s7, rfl⟩ : ∃ a b c d e f g h, s = [a, b, c, d, e, f, g, h] := by
    match s, hs with
    | [a, b, c, d, e, f, g, h], _ => exact ⟨a, b, c, d, e, f, g, h, rfl⟩
  have hbb : bb < w.heap.size := World.block_lt_of_cell? w _ (hcell 0 (by decide))
  go_enter Tryd.func63, Tryd.ntmps63
  go_upto_region 1 with fail
  generalize hW : World.alloc _ _ = W
  have hWs : W.heap.size = w.heap.size + 2 := by rw [← hW]; simp
  have hW0 : W.heap[w.heap.size]? = some (.cells (words [s0, s1, s2, s3, s4, s5, s6, s7]) 106 (0, 0)) := by rw [← hW]; exact heap_alloc2_old w _ _
  have hW1 : W.heap[w.heap.size + 1]? = some (.cells (words (zeros 8)) 106 (0, 0)) := by rw [← hW]; exact heap_alloc2_new w _ _
  have hWB : Below w.heap.size w W := by rw [← hW]; exact ((Below.refl _ _).alloc (by simp) _).alloc (by simp) _
  clear hW
  refine wp_region_lit ?_
  refine sl_run rfl (.pointer (some ⟨w.heap.size + 2, 0, none⟩)) (W.alloc (.cells (words (zeros 64)) 115)) (by rw [← hWs]; kernel_rfl) ?_
  refine wpList_nil ?_
  obtain ⟨U, hU⟩ : ∃ U, W.alloc (.cells (words (zeros 64)) 115) = U := ⟨_, rfl⟩
  rw [hU]
  have hU2 : U.heap[w.heap.size + 2]? = some (.cells (words (wR B 0)) 115 (0, 0)) := by rw [← hU, ← hWs]; exact heap_alloc_new _ _
  have hU1 : U.heap[w.heap.size + 1]? = some (.cells (words (zeros 8)) 106 (0, 0)) := by rw [← hU, heap_alloc_old _ _ (by omega)]; exact hW1
  have hU0 : U.heap[w.heap.size]? = some (.cells (words [s0, s1, s2, s3, s4, s5, s6, s7]) 106 (0, 0)) := by rw [← hU, heap_alloc_old _ _ (by omega)]; exact hW0
  have hUB : Below w.heap.size w U := by rw [← hU]; exact hWB.alloc (by omega) _
  have hUs : U.heap.size = w.heap.size + 3 := by rw [← hU]; simp [hWs]
  clear hU hW0 hW1 hWB hWs
  go_wp2_with fail
  go_loopw [6] (fun v wr => ∃ i : Nat, i ≤ 64 ∧ v = .int .i64 i ∧ wr.heap[w.heap.size + 2]? = some (.cells (words (wR B i)) 115 (0, 0)) ∧ Hid (Below (w.heap.size + 2) U wr) ∧ wr.heap.size = w.heap.size + 3) (fun v _ => 64 - (intOf v).toNat)
  case atStart => exact ⟨0, by omega, rfl, hU2, Below.refl _ _, hUs⟩
  case round =>
    clear hU2
    obtain ⟨i, hi, rfl, hr2, hrB, hrs⟩ := hrel
    by_cases hlt : i < 64
    · have hwl : (wR B i).length = 64 := wR_length B i
      have hwb := wR_lt B hB i
      have ni : (i : Int) < 64 := by omega
      by_cases h16 : i < 16
      · have hcr : ∀ j, j < 64 → wr.cell? ⟨bb, oo + j, none⟩ = some (.int .u8 (B j : Nat)) := fun j hj => by
          rw [Below.cell hrB (show bb < w.heap.size + 2 by omega), hUB.cell hbb]; exact hcell j hj
        have hnext : Hid (wR B (i + 1) = (wR B i).set i (word B i)) := by show _ = _; rw [wR, if_pos h16]
        obtain ⟨q0, hq0⟩ : ∃ q : Nat, q = 4 * i := ⟨_, rfl⟩
        obtain ⟨q1, hq1⟩ : ∃ q : Nat, q = 4 * i + 1 := ⟨_, rfl⟩
        obtain ⟨q2, hq2⟩ : ∃ q : Nat, q = 4 * i + 2 := ⟨_, rfl⟩
        obtain ⟨q3, hq3⟩ : ∃ q : Nat, q = 4 * i + 3 := ⟨_, rfl⟩
        have e0 : IntKind.i64.wrap (4 * (i : Int)) = (q0 : Int) := by rw [IntKind.wrap_i64]; omega
        have e1 : IntKind.i64.wrap ((q0 : Int) + 1) = (q1 : Int) := by rw [IntKind.wrap_i64]; omega
        have e2 : IntKind.i64.wrap ((q0 : Int) + 2) = (q2 : Int) := by rw [IntKind.wrap_i64]; omega
        have e3 : IntKind.i64.wrap ((q0 : Int) + 3) = (q3 : Int) := by rw [IntKind.wrap_i64]; omega
        have h0 := hcr q0 (by omega)
        have h1 := hcr q1 (by omega)
        have h2 := hcr q2 (by omega)
        have h3 := hcr q3 (by omega)
        have b0 := hB q0 (by omega)
        have b1 := hB q1 (by omega)
        have b2 := hB q2 (by omega)
        have b3 := hB q3 (by omega)
        have l0 : q0 < n := by omega
        have l1 : q1 < n := by omega
        have l2 : q2 < n := by omega
        have l3 : q3 < n := by omega
        have hword : word B i = B q0 * 16777216 + B q1 * 65536 + B q2 * 256 + B q3 := by subst hq0 hq1 hq2 hq3; rfl
        obtain ⟨y0, hy0⟩ : ∃ y, y = B q0 := ⟨_, rfl⟩
        obtain ⟨y1, hy1⟩ : ∃ y, y = B q1 := ⟨_, rfl⟩
        obtain ⟨y2, hy2⟩ : ∃ y, y = B q2 := ⟨_, rfl⟩
        obtain ⟨y3, hy3⟩ : ∃ y, y = B q3 := ⟨_, rfl⟩
        rw [← hy0, ← hy1, ← hy2, ← hy3] at hword
        rw [← hy0] at h0 b0
        rw [← hy1] at h1 b1
        rw [← hy2] at h2 b2
        rw [← hy3] at h3 b3
        clear hy0 hy1 hy2 hy3 hq0 hq1 hq2 hq3
        clear hcr hwb
        go_upto_region 6 with fail
        refine wp_region_still_tail 35 (by kernel_rfl) (by kernel_rfl) ?_
        simp only [List.take_succ_cons, List.take_zero, List.drop_succ_cons, List.drop_zero]
        change wpStill _ _ wr.drew (fun a' => wpList _ _ _ _ a' wr.drew) _ _
        have hd2 : wr.drew.heap[w.heap.size + 2]? = some (.cells (words (wR B i)) 115 (0, 0)) := hr2
        have hdB : Hid (Below (w.heap.size + 2) U wr.drew) := Below.drew hrB
        have hds : wr.drew.heap.size = w.heap.size + 3 := hrs
        have h0 : wr.drew.cell? ⟨bb, oo + q0, none⟩ = some (.int .u8 (y0 : Int)) := h0
        have h1 : wr.drew.cell? ⟨bb, oo + q1, none⟩ = some (.int .u8 (y1 : Int)) := h1
        have h2 : wr.drew.cell? ⟨bb, oo + q2, none⟩ = some (.int .u8 (y2 : Int)) := h2
        have h3 : wr.drew.cell? ⟨bb, oo + q3, none⟩ = some (.int .u8 (y3 : Int)) := h3
        generalize hx : wr.drew = wd at hd2 hdB hds h0 h1 h2 h3 ⊢
        clear hx hr2 hrB hrs
        repeat still_step
        refine wpStill_nil ?_
        have hc : wd.cell? ⟨w.heap.size + 2, i, none⟩ = some (.int .u32 ((wR B i).getD i 0 : Nat)) := by rw [cell_of_row _ _ _ _ _ _ hd2]; exact words_get _ _ (by omega)
        have hf : wd.frozen? ⟨w.heap.size + 2, i, none⟩ = false := frozen_of_row _ _ _ _ _ hd2
        go_wp2_with fail
        go_roundw
        case rel =>
          refine ⟨i + 1, by omega, by go_num, ?_, ?_, ?_⟩
          · rw [show (y0 : Int) * 16777216 + (y1 : Int) * 65536 + (y2 : Int) * 256 + (y3 : Int) = ((word B i : Nat) : Int) by rw [hword]; omega, heap_setCell_same _ _ _ _ _ _ hd2, words_set, hnext.out]
          · exact Below.setCell hdB (Nat.le_refl _) _
          · simpa using hds
        case measure => simp [intOf]; omega
      · have h16' : 16 ≤ i := by omega
        have hg : ∀ j, j < 64 → wr.cell? ⟨w.heap.size + 2, j, none⟩ = some (.int .u32 ((wR B i).getD j 0 : Nat)) := fun j hj => by rw [cell_of_row _ _ _ _ _ _ hr2]; exact words_get _ _ (by omega)
        have hnext : Hid (wR B (i + 1) = (wR B i).set i (mix (wR B i) i)) := by show _ = _; rw [wR, if_neg h16]
        obtain ⟨j15, hj15⟩ : ∃ j : Nat, j = i - 15 := ⟨_, rfl⟩
        obtain ⟨j2, hj2⟩ : ∃ j : Nat, j = i - 2 := ⟨_, rfl⟩
        obtain ⟨j16, hj16⟩ : ∃ j : Nat, j = i - 16 := ⟨_, rfl⟩
        obtain ⟨j7, hj7⟩ : ∃ j : Nat, j = i - 7 := ⟨_, rfl⟩
        have e15 : IntKind.i64.wrap ((i : Int) - 15) = (j15 : Int) := by rw [IntKind.wrap_i64]; omega
        have e2 : IntKind.i64.wrap ((i : Int) - 2) = (j2 : Int) := by rw [IntKind.wrap_i64]; omega
        have e16 : IntKind.i64.wrap ((i : Int) - 16) = (j16 : Int) := by rw [IntKind.wrap_i64]; omega
        have e7 : IntKind.i64.wrap ((i : Int) - 7) = (j7 : Int) := by rw [IntKind.wrap_i64]; omega
        have l15 : j15 < 64 := by omega
        have l2 : j2 < 64 := by omega
        have l16 : j16 < 64 := by omega
        have l7 : j7 < 64 := by omega
        have n15 : (j15 : Int) < 64 := by omega
        have n2 : (j2 : Int) < 64 := by omega
        have n16 : (j16 : Int) < 64 := by omega
        have n7 : (j7 : Int) < 64 := by omega
        have ni : (i : Int) < 64 := by omega
        have c15 := hg j15 l15
        have c2 := hg j2 l2
        have c16 := hg j16 l16
        have c7 := hg j7 l7
        obtain ⟨x15, hx15⟩ : ∃ x, x = (wR B i).getD j15 0 := ⟨_, rfl⟩
        obtain ⟨x2, hx2⟩ : ∃ x, x = (wR B i).getD j2 0 := ⟨_, rfl⟩
        obtain ⟨x16, hx16⟩ : ∃ x, x = (wR B i).getD j16 0 := ⟨_, rfl⟩
        obtain ⟨x7, hx7⟩ : ∃ x, x = (wR B i).getD j7 0 := ⟨_, rfl⟩
        have m15 := hwb j15
        have m2 := hwb j2
        have m16 := hwb j16
        have m7 := hwb j7
        rw [← hx15] at c15 m15
        rw [← hx2] at c2 m2
        rw [← hx16] at c16 m16
        rw [← hx7] at c7 m7
        have hmix : Hid (mix (wR B i) i = (x16 + sig0 x15 + x7 + sig1 x2) % 4294967296) := by show _ = _; unfold mix; rw [← hj15, ← hj2, ← hj16, ← hj7, ← hx15, ← hx2, ← hx16, ← hx7]
        clear hg hwb hx15 hx2 hx16 hx7 hj15 hj2 hj16 hj7
        go_upto_region 7 with fail
        go_quiet ((go_at_call 66; refine Calls.quiet_of_same (rotr_ref _ (by assumption) _ (by decide) _)))
        have hr2 : (wr.drewN nq).heap[w.heap.size + 2]? = some (.cells (words (wR B i)) 115 (0, 0)) := hr2
        have hrB : Hid (Below (w.heap.size + 2) U (wr.drewN nq)) := ⟨hrB.out.os, hrB.out.tape, hrB.out.output, hrB.out.size, hrB.out.block⟩
        have hrs : (wr.drewN nq).heap.size = w.heap.size + 3 := hrs
        have c2 : (wr.drewN nq).cell? ⟨w.heap.size + 2, j2, none⟩ = some (.int .u32 (x2 : Int)) := c2
        have c16 : (wr.drewN nq).cell? ⟨w.heap.size + 2, j16, none⟩ = some (.int .u32 (x16 : Int)) := c16
        have c7 : (wr.drewN nq).cell? ⟨w.heap.size + 2, j7, none⟩ = some (.int .u32 (x7 : Int)) := c7
        generalize hw7 : wr.drewN nq = w7 at hr2 hrB hrs c2 c16 c7 ⊢
        clear hw7 c15
        go_upto_region 8 with fail
        go_quiet ((go_at_call 66; refine Calls.quiet_of_same (rotr_ref _ (by assumption) _ (by decide) _)))
        go_upto_region 9 with fail
        generalize hwe : World.drewN w7 _ = we
        have hr4 : we.heap[w.heap.size + 2]? = some (.cells (words (wR B i)) 115 (0, 0)) := by rw [← hwe]; exact hr2
        have hrB4 : Hid (Below (w.heap.size + 2) U we) := by rw [← hwe]; exact ⟨hrB.os, hrB.tape, hrB.output, hrB.size, hrB.block⟩
        have hrs4 : we.heap.size = w.heap.size + 3 := by rw [← hwe]; exact hrs
        have c16 : we.cell? ⟨w.heap.size + 2, j16, none⟩ = some (.int .u32 (x16 : Int)) := by rw [← hwe]; exact c16
        have c7 : we.cell? ⟨w.heap.size + 2, j7, none⟩ = some (.int .u32 (x7 : Int)) := by rw [← hwe]; exact c7
        clear hwe hr2 hrB hrs
        refine wp_region_still_tail 15 (by kernel_rfl) (by kernel_rfl) ?_
        simp only [List.take_succ_cons, List.take_zero, List.drop_succ_cons, List.drop_zero]
        change wpStill _ _ we.drew (fun a' => wpList _ _ _ _ a' we.drew) _ _
        have hd4 : we.drew.heap[w.heap.size + 2]? = some (.cells (words (wR B i)) 115 (0, 0)) := hr4
        have hdB : Hid (Below (w.heap.size + 2) U we.drew) := Below.drew hrB4
        have hds : we.drew.heap.size = w.heap.size + 3 := hrs4
        have c16 : we.drew.cell? ⟨w.heap.size + 2, j16, none⟩ = some (.int .u32 (x16 : Int)) := c16
        have c7 : we.drew.cell? ⟨w.heap.size + 2, j7, none⟩ = some (.int .u32 (x7 : Int)) := c7
        generalize hx : we.drew = wd at hd4 hdB hds c16 c7 ⊢
        clear hx hr4 hrB4 hrs4
        repeat still_step
        refine wpStill_nil ?_
        have hc : wd.cell? ⟨w.heap.size + 2, i, none⟩ = some (.int .u32 ((wR B i).getD i 0 : Nat)) := by rw [cell_of_row _ _ _ _ _ _ hd4]; exact words_get _ _ (by omega)
        have hf : wd.frozen? ⟨w.heap.size + 2, i, none⟩ = false := frozen_of_row _ _ _ _ _ hd4
        go_wp2_with fail
        go_roundw
        case rel =>
          rw [sig0_ref x15 m15, sig1_ref x2 m2, show (((x16 : Int) + (sig0 x15 : Int) + (x7 : Int) + (sig1 x2 : Int)) % 4294967296) = (((x16 + sig0 x15 + x7 + sig1 x2) % 4294967296 : Nat) : Int) by omega, ← hmix.out]
          refine ⟨i + 1, by omega, by go_num, ?_, ?_, ?_⟩
          · rw [heap_setCell_same _ _ _ _ _ _ hd4, words_set, hnext.out]
          · exact Below.setCell hdB (Nat.le_refl _) _
          · simpa using hds
        case measure => simp [intOf]; omega
    · obtain rfl : i = 64 := by omega
      have hlt64 : ¬ ((64 : Nat) : Int) < 64 := by omega
      rw [show wR B 64 = w2 B 48 from wR_w2 B 48] at hr2
      have hw20 : Hid (wr.heap[w.heap.size + 2]? = some (.cells (words (w2 B 48)) 115 (0, 0))) := hr2
      clear hr2
      go_upto_region 10 with fail
      have hS : wr.heap[w.heap.size]? = some (.cells (words [s0, s1, s2, s3, s4, s5, s6, s7]) 106 (0, 0)) := by rw [hrB.block _ (by omega)]; exact hU0
      refine wp_region_lit ?_
      refine wpList_load_row rfl 106 _ rfl w.heap.size (by kernel_rfl) 106 (words [s0, s1, s2, s3, s4, s5, s6, s7]) (0, 0) _ hS Tryd.underlying106 rfl (by kernel_rfl) ?_
      refine sl_run rfl (.pointer (some ⟨w.heap.size + 3, 0, none⟩)) (wr.alloc (.cells (words (zeros 8)) 106)) (by rw [← hrs]; kernel_rfl) ?_
      rw [← hrs]
      refine wpList_store_row rfl 106 _ _ rfl wr.heap.size (words [s0, s1, s2, s3, s4, s5, s6, s7]) (by kernel_rfl) (by kernel_rfl) 106 (words (zeros 8)) (heap_alloc_new _ _) (by kernel_rfl) (by kernel_rfl) (by kernel_rfl) ?_
      rw [World.setRow_alloc_new]
      refine wpList_nil ?_
      obtain ⟨X, hX⟩ : ∃ X, wr.alloc (.cells (words [s0, s1, s2, s3, s4, s5, s6, s7]) 106) = X := ⟨_, rfl⟩
      rw [hX]
      have hX3 : X.heap[w.heap.size + 3]? = some (.cells (words (t3 [s0, s1, s2, s3, s4, s5, s6, s7] (w2 B 48) 0)) 106 (0, 0)) := by rw [← hX, ← hrs]; exact heap_alloc_new _ _
      have hX2 : X.heap[w.heap.size + 2]? = some (.cells (words (w2 B 48)) 115 (0, 0)) := by rw [← hX, heap_alloc_old _ _ (by omega)]; exact hw20
      have hX1 : X.heap[w.heap.size + 1]? = some (.cells (words (zeros 8)) 106 (0, 0)) := by rw [← hX, heap_alloc_old _ _ (by omega), hrB.block _ (by omega)]; exact hU1
      have hX0 : X.heap[w.heap.size]? = some (.cells (words [s0, s1, s2, s3, s4, s5, s6, s7]) 106 (0, 0)) := by rw [← hX, heap_alloc_old _ _ (by omega)]; exact hS
      have hXB : Below w.heap.size w X := by rw [← hX]; exact (hUB.trans (hrB.out.mono (by omega))).alloc (by omega) _
      have hXs : w.heap.size + 4 ≤ X.heap.size := by rw [← hX]; simp [hrs]
      rw [hrs]
      clear hX hS hw20 hrB hrs hU0 hU1 hUB hUs
      go_wp2_with fail
      go_loopw [10] (fun v wr => ∃ i : Nat, i ≤ 64 ∧ v = .int .i64 i ∧ wr.heap[w.heap.size + 3]? = some (.cells (words (t3 [s0, s1, s2, s3, s4, s5, s6, s7] (w2 B 48) i)) 106 (0, 0)) ∧ Hid (Below (w.heap.size + 3) X wr) ∧ w.heap.size + 4 ≤ wr.heap.size) (fun v _ => 64 - (intOf v).toNat)
      case atStart => exact ⟨0, by omega, rfl, hX3, Below.refl _ _, hXs⟩
      case round =>
        obtain ⟨i, hi, rfl, hr3, hrB, hrs⟩ := hrel
        by_cases hlt : i < 64
        · obtain ⟨kc, hkc⟩ : ∃ x, x = KL.getD i 0 := ⟨_, rfl⟩
          obtain ⟨wc, hwc⟩ : ∃ x, x = (w2 B 48).getD i 0 := ⟨_, rfl⟩
          have hkl : kc < 4294967296 := by rw [hkc]; exact KL_lt i
          have hwl : wc < 4294967296 := by rw [hwc]; exact w2_lt B hB 48 i
          have c4 : wr.cell? ⟨w.heap.size + 2, i, none⟩ = some (.int .u32 (wc : Int)) := by
            rw [Below.cell hrB (show w.heap.size + 2 < w.heap.size + 3 by omega), cell_of_row _ _ _ _ _ _ hX2, hwc]; exact words_get _ _ (by rw [w2_length]; omega)
          have hcK : ∀ v : World, Calls Tryd.prog 67 #[.int .i64 (i : Int)] v fun e w' => e = .returned (.int .u32 (kc : Int)) ∧ Below v.heap.size v w' := fun v => by rw [hkc]; exact constant_calls i hlt v
          obtain ⟨t0, t1, t2, t3', t4, t5, t6, t7, hT, m0, m1, m2, m3, m4, m5, m6, m7⟩ := t3_eight [s0, s1, s2, s3, s4, s5, s6, s7] (w2 B 48) rfl hsw i
          have hnext : Hid (t3 [s0, s1, s2, s3, s4, s5, s6, s7] (w2 B 48) (i + 1) = round [t0, t1, t2, t3', t4, t5, t6, t7] kc wc) := by show _ = _; rw [← hT, hkc, hwc]; rfl
          rw [hT] at hr3
          have ni : (i : Int) < 64 := by omega
          have hb : Hid (wr.heap[w.heap.size + 3]? = some (.cells (words [t0, t1, t2, t3', t4, t5, t6, t7]) 106 (0, 0))) := hr3
          have d0 : wr.cell? ⟨w.heap.size + 3, 0, none⟩ = some (.int .u32 (t0 : Int)) := cell_of_row _ _ _ _ _ _ hb.out
          have f0 : wr.frozen? ⟨w.heap.size + 3, 0, none⟩ = false := frozen_of_row _ _ _ _ _ hb.out
          have d1 : wr.cell? ⟨w.heap.size + 3, 1, none⟩ = some (.int .u32 (t1 : Int)) := cell_of_row _ _ _ _ _ _ hb.out
          have f1 : wr.frozen? ⟨w.heap.size + 3, 1, none⟩ = false := frozen_of_row _ _ _ _ _ hb.out
          have d2 : wr.cell? ⟨w.heap.size + 3, 2, none⟩ = some (.int .u32 (t2 : Int)) := cell_of_row _ _ _ _ _ _ hb.out
          have f2 : wr.frozen? ⟨w.heap.size + 3, 2, none⟩ = false := frozen_of_row _ _ _ _ _ hb.out
          have d3 : wr.cell? ⟨w.heap.size + 3, 3, none⟩ = some (.int .u32 (t3' : Int)) := cell_of_row _ _ _ _ _ _ hb.out
          have f3 : wr.frozen? ⟨w.heap.size + 3, 3, none⟩ = false := frozen_of_row _ _ _ _ _ hb.out
          have d4 : wr.cell? ⟨w.heap.size + 3, 4, none⟩ = some (.int .u32 (t4 : Int)) := cell_of_row _ _ _ _ _ _ hb.out
          have f4 : wr.frozen? ⟨w.heap.size + 3, 4, none⟩ = false := frozen_of_row _ _ _ _ _ hb.out
          have d5 : wr.cell? ⟨w.heap.size + 3, 5, none⟩ = some (.int .u32 (t5 : Int)) := cell_of_row _ _ _ _ _ _ hb.out
          have f5 : wr.frozen? ⟨w.heap.size + 3, 5, none⟩ = false := frozen_of_row _ _ _ _ _ hb.out
          have d6 : wr.cell? ⟨w.heap.size + 3, 6, none⟩ = some (.int .u32 (t6 : Int)) := cell_of_row _ _ _ _ _ _ hb.out
          have f6 : wr.frozen? ⟨w.heap.size + 3, 6, none⟩ = false := frozen_of_row _ _ _ _ _ hb.out
          have d7 : wr.cell? ⟨w.heap.size + 3, 7, none⟩ = some (.int .u32 (t7 : Int)) := cell_of_row _ _ _ _ _ _ hb.out
          have f7 : wr.frozen? ⟨w.heap.size + 3, 7, none⟩ = false := frozen_of_row _ _ _ _ _ hb.out
          clear hr3 hT hkc hwc
          have hcK' : Hid (∀ v : World, Calls Tryd.prog 67 #[.int .i64 (i : Int)] v fun e w' => e = .returned (.int .u32 (kc : Int)) ∧ Below v.heap.size v w') := hcK
          clear hcK
          go_upto_region 14 with fail
          go_quiet ((go_at_call 66; refine Calls.quiet_of_same (rotr_ref _ (by assumption) _ (by decide) _)))
          have hb : Hid ((wr.drewN nq).heap[w.heap.size + 3]? = some (.cells (words [t0, t1, t2, t3', t4, t5, t6, t7]) 106 (0, 0))) := hb
          have c4 : (wr.drewN nq).cell? ⟨w.heap.size + 2, i, none⟩ = some (.int .u32 (wc : Int)) := c4
          have hrB : Hid (Below (w.heap.size + 3) X (wr.drewN nq)) := ⟨hrB.out.os, hrB.out.tape, hrB.out.output, hrB.out.size, hrB.out.block⟩
          have hrs : w.heap.size + 4 ≤ (wr.drewN nq).heap.size := hrs
          clear d0 f0 d1 f1 d2 f2 d3 f3 d4 f4 d5 f5 d6 f6 d7 f7
          generalize hgen : wr.drewN nq = wa at hb c4 hrB hrs ⊢
          clear hgen
          have d0 : wa.cell? ⟨w.heap.size + 3, 0, none⟩ = some (.int .u32 (t0 : Int)) := cell_of_row _ _ _ _ _ _ hb.out
          have f0 : wa.frozen? ⟨w.heap.size + 3, 0, none⟩ = false := frozen_of_row _ _ _ _ _ hb.out
          have d1 : wa.cell? ⟨w.heap.size + 3, 1, none⟩ = some (.int .u32 (t1 : Int)) := cell_of_row _ _ _ _ _ _ hb.out
          have f1 : wa.frozen? ⟨w.heap.size + 3, 1, none⟩ = false := frozen_of_row _ _ _ _ _ hb.out
          have d2 : wa.cell? ⟨w.heap.size + 3, 2, none⟩ = some (.int .u32 (t2 : Int)) := cell_of_row _ _ _ _ _ _ hb.out
          have f2 : wa.frozen? ⟨w.heap.size + 3, 2, none⟩ = false := frozen_of_row _ _ _ _ _ hb.out
          have d3 : wa.cell? ⟨w.heap.size + 3, 3, none⟩ = some (.int .u32 (t3' : Int)) := cell_of_row _ _ _ _ _ _ hb.out
          have f3 : wa.frozen? ⟨w.heap.size + 3, 3, none⟩ = false := frozen_of_row _ _ _ _ _ hb.out
          have d4 : wa.cell? ⟨w.heap.size + 3, 4, none⟩ = some (.int .u32 (t4 : Int)) := cell_of_row _ _ _ _ _ _ hb.out
          have f4 : wa.frozen? ⟨w.heap.size + 3, 4, none⟩ = false := frozen_of_row _ _ _ _ _ hb.out
          have d5 : wa.cell? ⟨w.heap.size + 3, 5, none⟩ = some (.int .u32 (t5 : Int)) := cell_of_row _ _ _ _ _ _ hb.out
          have f5 : wa.frozen? ⟨w.heap.size + 3, 5, none⟩ = false := frozen_of_row _ _ _ _ _ hb.out
          have d6 : wa.cell? ⟨w.heap.size + 3, 6, none⟩ = some (.int .u32 (t6 : Int)) := cell_of_row _ _ _ _ _ _ hb.out
          have f6 : wa.frozen? ⟨w.heap.size + 3, 6, none⟩ = false := frozen_of_row _ _ _ _ _ hb.out
          have d7 : wa.cell? ⟨w.heap.size + 3, 7, none⟩ = some (.int .u32 (t7 : Int)) := cell_of_row _ _ _ _ _ _ hb.out
          have f7 : wa.frozen? ⟨w.heap.size + 3, 7, none⟩ = false := frozen_of_row _ _ _ _ _ hb.out
          go_upto_region 16 with fail
          have k7 := cell_regrown d7
          have k4 := cell_regrown c4
          have cK : ∀ d os, Calls Tryd.prog 67 #[.int .i64 (i : Int)] (grow (redrawn wa d) os) fun e w'' => e = .returned (.int .u32 (kc : Int)) ∧ ∃ p : Regrown, w'' = grow (redrawn wa p.d) p.os := fun d os => Calls.regrown_of (hcK'.out _)
          refine wp_region_quiet_below (by kernel_rfl) (by kernel_rfl) ?_
          repeat (quiet_step (exact cK _ _))
          refine wpQuiet_nil ?_
          intro _ hw'
          obtain ⟨⟨dq, osq⟩, hw''⟩ := hw'
          subst hw''
          clear cK k7 k4
          have hBg := below_regrown wa dq osq
          have hb : Hid ((grow (redrawn wa dq) osq).heap[w.heap.size + 3]? = some (.cells (words [t0, t1, t2, t3', t4, t5, t6, t7]) 106 (0, 0))) := (hBg.block _ (by omega)).trans hb.out
          have c4 : (grow (redrawn wa dq) osq).cell? ⟨w.heap.size + 2, i, none⟩ = some (.int .u32 (wc : Int)) := cell_regrown c4 _ _
          have hrB : Hid (Below (w.heap.size + 3) X (grow (redrawn wa dq) osq)) := hrB.out.trans (hBg.mono (by omega))
          have hrs : w.heap.size + 4 ≤ (grow (redrawn wa dq) osq).heap.size := Nat.le_trans hrs hBg.size
          clear hBg
          clear d0 f0 d1 f1 d2 f2 d3 f3 d4 f4 d5 f5 d6 f6 d7 f7
          generalize hgen : grow (redrawn wa dq) osq = wb at hb c4 hrB hrs ⊢
          clear hgen
          have d0 : wb.cell? ⟨w.heap.size + 3, 0, none⟩ = some (.int .u32 (t0 : Int)) := cell_of_row _ _ _ _ _ _ hb.out
          have f0 : wb.frozen? ⟨w.heap.size + 3, 0, none⟩ = false := frozen_of_row _ _ _ _ _ hb.out
          have d1 : wb.cell? ⟨w.heap.size + 3, 1, none⟩ = some (.int .u32 (t1 : Int)) := cell_of_row _ _ _ _ _ _ hb.out
          have f1 : wb.frozen? ⟨w.heap.size + 3, 1, none⟩ = false := frozen_of_row _ _ _ _ _ hb.out
          have d2 : wb.cell? ⟨w.heap.size + 3, 2, none⟩ = some (.int .u32 (t2 : Int)) := cell_of_row _ _ _ _ _ _ hb.out
          have f2 : wb.frozen? ⟨w.heap.size + 3, 2, none⟩ = false := frozen_of_row _ _ _ _ _ hb.out
          have d3 : wb.cell? ⟨w.heap.size + 3, 3, none⟩ = some (.int .u32 (t3' : Int)) := cell_of_row _ _ _ _ _ _ hb.out
          have f3 : wb.frozen? ⟨w.heap.size + 3, 3, none⟩ = false := frozen_of_row _ _ _ _ _ hb.out
          have d4 : wb.cell? ⟨w.heap.size + 3, 4, none⟩ = some (.int .u32 (t4 : Int)) := cell_of_row _ _ _ _ _ _ hb.out
          have f4 : wb.frozen? ⟨w.heap.size + 3, 4, none⟩ = false := frozen_of_row _ _ _ _ _ hb.out
          have d5 : wb.cell? ⟨w.heap.size + 3, 5, none⟩ = some (.int .u32 (t5 : Int)) := cell_of_row _ _ _ _ _ _ hb.out
          have f5 : wb.frozen? ⟨w.heap.size + 3, 5, none⟩ = false := frozen_of_row _ _ _ _ _ hb.out
          have d6 : wb.cell? ⟨w.heap.size + 3, 6, none⟩ = some (.int .u32 (t6 : Int)) := cell_of_row _ _ _ _ _ _ hb.out
          have f6 : wb.frozen? ⟨w.heap.size + 3, 6, none⟩ = false := frozen_of_row _ _ _ _ _ hb.out
          have d7 : wb.cell? ⟨w.heap.size + 3, 7, none⟩ = some (.int .u32 (t7 : Int)) := cell_of_row _ _ _ _ _ _ hb.out
          have f7 : wb.frozen? ⟨w.heap.size + 3, 7, none⟩ = false := frozen_of_row _ _ _ _ _ hb.out
          go_upto_region 17 with fail
          go_quiet ((go_at_call 66; refine Calls.quiet_of_same (rotr_ref _ (by assumption) _ (by decide) _)))
          have hb : Hid ((wb.drewN nq).heap[w.heap.size + 3]? = some (.cells (words [t0, t1, t2, t3', t4, t5, t6, t7]) 106 (0, 0))) := hb
          have c4 : (wb.drewN nq).cell? ⟨w.heap.size + 2, i, none⟩ = some (.int .u32 (wc : Int)) := c4
          have hrB : Hid (Below (w.heap.size + 3) X (wb.drewN nq)) := ⟨hrB.out.os, hrB.out.tape, hrB.out.output, hrB.out.size, hrB.out.block⟩
          have hrs : w.heap.size + 4 ≤ (wb.drewN nq).heap.size := hrs
          clear d0 f0 d1 f1 d2 f2 d3 f3 d4 f4 d5 f5 d6 f6 d7 f7
          generalize hgen : wb.drewN nq = wz at hb c4 hrB hrs ⊢
          clear hgen
          have d0 : wz.cell? ⟨w.heap.size + 3, 0, none⟩ = some (.int .u32 (t0 : Int)) := cell_of_row _ _ _ _ _ _ hb.out
          have f0 : wz.frozen? ⟨w.heap.size + 3, 0, none⟩ = false := frozen_of_row _ _ _ _ _ hb.out
          have d1 : wz.cell? ⟨w.heap.size + 3, 1, none⟩ = some (.int .u32 (t1 : Int)) := cell_of_row _ _ _ _ _ _ hb.out
          have f1 : wz.frozen? ⟨w.heap.size + 3, 1, none⟩ = false := frozen_of_row _ _ _ _ _ hb.out
          have d2 : wz.cell? ⟨w.heap.size + 3, 2, none⟩ = some (.int .u32 (t2 : Int)) := cell_of_row _ _ _ _ _ _ hb.out
          have f2 : wz.frozen? ⟨w.heap.size + 3, 2, none⟩ = false := frozen_of_row _ _ _ _ _ hb.out
          have d3 : wz.cell? ⟨w.heap.size + 3, 3, none⟩ = some (.int .u32 (t3' : Int)) := cell_of_row _ _ _ _ _ _ hb.out
          have f3 : wz.frozen? ⟨w.heap.size + 3, 3, none⟩ = false := frozen_of_row _ _ _ _ _ hb.out
          have d4 : wz.cell? ⟨w.heap.size + 3, 4, none⟩ = some (.int .u32 (t4 : Int)) := cell_of_row _ _ _ _ _ _ hb.out
          have f4 : wz.frozen? ⟨w.heap.size + 3, 4, none⟩ = false := frozen_of_row _ _ _ _ _ hb.out
          have d5 : wz.cell? ⟨w.heap.size + 3, 5, none⟩ = some (.int .u32 (t5 : Int)) := cell_of_row _ _ _ _ _ _ hb.out
          have f5 : wz.frozen? ⟨w.heap.size + 3, 5, none⟩ = false := frozen_of_row _ _ _ _ _ hb.out
          have d6 : wz.cell? ⟨w.heap.size + 3, 6, none⟩ = some (.int .u32 (t6 : Int)) := cell_of_row _ _ _ _ _ _ hb.out
          have f6 : wz.frozen? ⟨w.heap.size + 3, 6, none⟩ = false := frozen_of_row _ _ _ _ _ hb.out
          have d7 : wz.cell? ⟨w.heap.size + 3, 7, none⟩ = some (.int .u32 (t7 : Int)) := cell_of_row _ _ _ _ _ _ hb.out
          have f7 : wz.frozen? ⟨w.heap.size + 3, 7, none⟩ = false := frozen_of_row _ _ _ _ _ hb.out
          go_wp2_with fail
          go_roundw
          case rel =>
            rw [xnot_ref t4 m4, chs_val t4 t5 t6 m4 m5 m6, sum1_ref t4 m4, sum0_ref t0 m0, maj_val t0 t1 t2 m0 m1 m2,
              show ((t7 : Int) + (sum1 t4 : Int) + (chs t4 t5 t6 : Int) + (kc : Int) + (wc : Int) + (sum0 t0 : Int) + (maj t0 t1 t2 : Int)) % 4294967296 = (((t7 + sum1 t4 + chs t4 t5 t6 + kc + wc + (sum0 t0 + maj t0 t1 t2)) % 4294967296 : Nat) : Int) by omega,
              show ((t3' : Int) + ((t7 : Int) + (sum1 t4 : Int) + (chs t4 t5 t6 : Int) + (kc : Int) + (wc : Int))) % 4294967296 = (((t3' + (t7 + sum1 t4 + chs t4 t5 t6 + kc + wc)) % 4294967296 : Nat) : Int) by omega]
            refine ⟨i + 1, by omega, by go_num, ?_, ?_, ?_⟩
            · rw [set8 _ _ _ _ _ _ _ _ _ _ _ _ _ _ _ _ _ _ _ hb.out, hnext.out]; rfl
            · refine Below.setCell (Below.setCell (Below.setCell (Below.setCell (Below.setCell (Below.setCell (Below.setCell (Below.setCell hrB.out ?_ _) ?_ _) ?_ _) ?_ _) ?_ _) ?_ _) ?_ _) ?_ _
              all_goals exact Nat.le_refl _
            · simpa using hrs
          case measure => simp [intOf]; omega
        · obtain rfl : i = 64 := by omega
          obtain ⟨T, hT⟩ : ∃ T, t3 [s0, s1, s2, s3, s4, s5, s6, s7] (w2 B 48) 64 = T := ⟨_, rfl⟩
          have hTl : T.length = 8 := by rw [← hT]; exact t3_length _ _ rfl 64
          have hTb : ∀ j, T.getD j 0 < 4294967296 := by rw [← hT]; exact t3_lt _ _ rfl hsw 64
          rw [hT] at hr3
          have hq3 : wr.heap[w.heap.size + 3]? = some (.cells (words (t4 T [s0, s1, s2, s3, s4, s5, s6, s7] 0)) 106 (0, 0)) := hr3
          clear hr3
          have hlt64' : ¬ ((64 : Nat) : Int) < 64 := by omega
          go_wp2_with fail
          go_loopw [16] (fun v wr => ∃ i : Nat, i ≤ 8 ∧ v = .int .i64 i ∧ wr.heap[w.heap.size + 3]? = some (.cells (words (t4 T [s0, s1, s2, s3, s4, s5, s6, s7] i)) 106 (0, 0)) ∧ Hid (Below (w.heap.size + 3) X wr) ∧ w.heap.size + 4 ≤ wr.heap.size) (fun v _ => 8 - (intOf v).toNat)
          case atStart => exact ⟨0, by omega, rfl, hq3, hrB, hrs⟩
          case round =>
            clear hq3 hrB hrs
            obtain ⟨i, hi, rfl, hr3, hrB, hrs⟩ := hrel
            by_cases hlt : i < 8
            · have ni : (i : Int) < 8 := by omega
              obtain ⟨x, hx⟩ : ∃ x, x = (t4 T [s0, s1, s2, s3, s4, s5, s6, s7] i).getD i 0 := ⟨_, rfl⟩
              obtain ⟨y, hy⟩ : ∃ y, y = [s0, s1, s2, s3, s4, s5, s6, s7].getD i 0 := ⟨_, rfl⟩
              have hl4 : (t4 T [s0, s1, s2, s3, s4, s5, s6, s7] i).length = 8 := by rw [t4_length]; exact hTl
              go_upto_region 23 with fail
              refine wp_region_still_tail 7 (by kernel_rfl) (by kernel_rfl) ?_
              simp only [List.take_succ_cons, List.take_zero, List.drop_succ_cons, List.drop_zero]
              change wpStill _ _ wr.drew (fun a' => wpList _ _ _ _ a' wr.drew) _ _
              have hd5 : wr.drew.heap[w.heap.size + 3]? = some (.cells (words (t4 T [s0, s1, s2, s3, s4, s5, s6, s7] i)) 106 (0, 0)) := hr3
              have hd0 : wr.drew.heap[w.heap.size]? = some (.cells (words [s0, s1, s2, s3, s4, s5, s6, s7]) 106 (0, 0)) := by rw [Below.block (Below.drew hrB) _ (by omega)]; exact hX0
              have hdB : Hid (Below (w.heap.size + 3) X wr.drew) := Below.drew hrB
              have hds : w.heap.size + 4 ≤ wr.drew.heap.size := hrs
              generalize hx' : wr.drew = wd at hd5 hd0 hdB hds ⊢
              clear hx' hr3 hrB hrs
              have c5 : wd.cell? ⟨w.heap.size + 3, i, none⟩ = some (.int .u32 (x : Int)) := by rw [cell_of_row _ _ _ _ _ _ hd5, hx]; exact words_get _ _ (by omega)
              have c0 : wd.cell? ⟨w.heap.size, i, none⟩ = some (.int .u32 (y : Int)) := by rw [cell_of_row _ _ _ _ _ _ hd0, hy]; exact words_get _ _ (by simpa using hlt)
              have f5 : wd.frozen? ⟨w.heap.size + 3, i, none⟩ = false := frozen_of_row _ _ _ _ _ hd5
              have hxy : Hid (t4 T [s0, s1, s2, s3, s4, s5, s6, s7] (i + 1) = (t4 T [s0, s1, s2, s3, s4, s5, s6, s7] i).set i ((x + y) % 4294967296)) := by show _ = _; rw [hx, hy]; rfl
              have hd5' : Hid (wd.heap[w.heap.size + 3]? = some (.cells (words (t4 T [s0, s1, s2, s3, s4, s5, s6, s7] i)) 106 (0, 0))) := hd5
              clear hx hy hd5 hd0
              repeat still_step
              refine wpStill_nil ?_
              go_wp2_with fail
              go_roundw
              case rel =>
                refine ⟨i + 1, by omega, by go_num, ?_, ?_, ?_⟩
                · rw [show (((x : Int) + (y : Int)) % 4294967296) = (((x + y) % 4294967296 : Nat) : Int) by omega, heap_setCell_same _ _ _ _ _ _ hd5'.out, words_set, hxy.out]
                · exact Below.setCell hdB (Nat.le_refl _) _
                · simpa using hds
              case measure => simp [intOf]; omega
            · obtain rfl : i = 8 := by omega
              have hlt8 : ¬ ((8 : Nat) : Int) < 8 := by omega
              go_upto_region 24 with fail
              have h1 : wr.heap[w.heap.size + 1]? = some (.cells (words (zeros 8)) 106 (0, 0)) := by rw [hrB.block _ (by omega)]; exact hX1
              have hlen : (t4 T [s0, s1, s2, s3, s4, s5, s6, s7] 8).length = 8 := by rw [t4_length]; exact hTl
              have hB' : Below w.heap.size w wr := hXB.trans (hrB.out.mono (by omega))
              refine wp_region_lit ?_
              refine wpList_load_row rfl 106 _ rfl (w.heap.size + 3) (by kernel_rfl) 106 _ (0, 0) _ hr3 Tryd.underlying106 rfl (by rw [words_size, hlen]; kernel_rfl) ?_
              refine wpList_store_row rfl 106 _ _ rfl (w.heap.size + 1) _ (by kernel_rfl) (by kernel_rfl) 106 (words (zeros 8)) h1 (by rw [words_size, hlen]; kernel_rfl) (by rw [words_size, words_size, hlen]; rfl) (words_one _) ?_
              refine wpList_nil ?_
              rename_i hK
              exact hK _ _ (wp_ret (bodyPost_ret (results_cell_row rfl _ _ (w.heap.size + 1) 106 (words (t4 T [s0, s1, s2, s3, s4, s5, s6, s7] 8)) (0, 0) _ (by kernel_rfl) (setRow_heap _ _ _ _ _ _ h1) Tryd.underlying106 rfl (by rw [words_size, hlen]; kernel_rfl)) (by kernel_rfl) ⟨by subst hT; rfl, below_setRow hB' (by omega) _⟩))
end Go.Proofs.YtadopkifpfmhcaaDoor.Sha
namespace Go.Proofs.YtadopkifpfmhcaaDoor.Sha
open Go.RowKit
/-- A slice's length. -/
def lenOf : Value → Nat | .slice _ n _ => n | _ => 0
theorem cells_one (w : World) (x : Value) : ∀ (j : Nat) (u : Value), [x][j]? = some u → (w.alloc (.cells #[x] 5)).cell? ((⟨w.heap.size, 0, none⟩ : Addr).add j) = some u := by
  intro j u h
  rw [Addr.add_mid, cell_of_row _ _ _ _ _ _ (heap_alloc_new w _)]
  simpa using h
set_option maxRecDepth 100000 in
set_option maxHeartbeats 1000000 in
theorem rsum_calls (l : List Nat) (hb : ∀ j, l.getD j 0 < 256) (hlen : l.length ≤ 1000000000) (A0 : Option Addr) (c : Nat) (w : World) (hy : Bytes w (.slice A0 l.length c) l) :
    Calls Tryd.prog 56 #[.slice A0 l.length c] w fun e w' => e = .returned (.agg (bytesC (sumB l))) ∧ Below w.heap.size w w' := by
  obtain ⟨i5, hi5, hz0, hz1, hz2⟩ := info_parts info5
  go_enter Tryd.func56, Tryd.ntmps56
  go_upto_region 2 with fail
  generalize hW : World.alloc _ _ = W
  have hWs : W.heap.size = w.heap.size + 2 := by rw [← hW]; simp
  have hW0 : W.heap[w.heap.size]? = some (.cells (bytesC (zeros 32)) 22 (0, 0)) := by rw [← hW]; exact heap_alloc2_old w _ _
  have hW1 : W.heap[w.heap.size + 1]? = some (.cells (words IV) 106 (0, 0)) := by rw [← hW]; exact heap_alloc2_new w _ _
  have hWB : Below w.heap.size w W := by rw [← hW]; exact ((Below.refl _ _).alloc (by simp) _).alloc (by simp) _
  clear hW
  refine wp_region_lit ?_
  refine sl_run rfl (.slice (some ⟨w.heap.size + 2, 0, none⟩) 0 0) (W.alloc (.cells #[] 5)) (by rw [← hWs]; kernel_rfl) ?_
  refine sl_run rfl (.slice A0 l.length c) (W.alloc (.cells #[] 5)) (by kernel_rfl) ?_
  have hown0 : (W.alloc (.cells #[] 5)).ownsRow (w.heap.size + 2) 5 1 (.slice (some ⟨w.heap.size + 2, 0, none⟩) 0 0) 0 [] := by
    rw [← hWs]; exact World.ownsRow_made _ _ 0 (Nat.le_refl _) (by decide) rfl
  refine append22 rfl _ _ rfl (w.heap.size + 2) (.slice (some ⟨w.heap.size + 2, 0, none⟩) 0 0) [] l (by kernel_rfl) hown0 _ (by kernel_rfl) ((hy.below (hWB.mono (Nat.le_refl _))).alloc _) (by simp; omega) (by simp; omega) ?_
  intro v4 w3 hown1 hgrow1 _
  refine sl_run rfl v4 w3 (by kernel_rfl) ?_
  refine wpList_nil ?_
  have hB3 : Below (w.heap.size + 2) W w3 := Below.grown ((Below.refl _ _).alloc (by omega) _) hgrow1 (by simp; omega) (fun k hk => by injection hk with hk; subst hk; exact Nat.le_refl _)
  have hown1 : w3.ownsRow (w.heap.size + 2) 5 1 v4 l.length (vals l) := by simpa using hown1
  clear hown0 hgrow1
  go_upto_region 3 with fail
  refine wp_region_lit ?_
  refine sl_run rfl v4 w3 (by kernel_rfl) ?_
  refine sl_run rfl (.slice (some ⟨w3.heap.size, 0, none⟩) 1 1) (w3.alloc (.cells #[.int .u8 128] 5)) (by kernel_rfl) ?_
  have hs3 : w.heap.size + 2 ≤ w3.heap.size := by have := hB3.size; omega
  refine wpList_append_own _ rfl _ _ 25 rfl (w.heap.size + 2) 5 i5 (.int .u8 0) 1 1 Tryd.underlying25 hi5 hz0 hz1 hz2 rfl (by decide) v4 l.length (vals l) (by kernel_rfl) (hown1.alloc _) ⟨w3.heap.size, 0, none⟩ 1 1 [.int .u8 128] (by kernel_rfl) rfl (cells_one _ _) (fun u hu => by simp at hu; subst hu; rfl) (by unfold maxLen; omega) (by omega) (by simp; omega) ?_
  intro v5 w4 hown2 hgrow2 _
  refine sl_run rfl v5 w4 (by kernel_rfl) ?_
  refine wpList_nil ?_
  have hB4 : Below (w.heap.size + 2) W w4 := Below.grown (hB3.alloc hs3 _) hgrow2 (by simp; omega) (fun k hk => (hown1.lt k hk).1)
  have hown2 : w4.ownsRow (w.heap.size + 2) 5 1 v5 (l ++ 128 :: List.replicate 0 0).length (vals (l ++ 128 :: List.replicate 0 0)) := by
    have e : vals (l ++ 128 :: List.replicate 0 0) = vals l ++ [.int .u8 128] := by simp [vals]
    rw [e]; simpa using hown2
  clear hgrow2 hown1 hB3 hs3
  simp only [Act.put, fl1, fl2, fl3]
  go_wp2_with fail
  obtain ⟨Z, hZ⟩ : ∃ Z, Z = (119 - l.length % 64) % 64 := ⟨_, rfl⟩
  go_loopw [4] (fun v wr => ∃ z n : Nat, z ≤ Z ∧ n = (l ++ 128 :: List.replicate z 0).length ∧ (∃ A cp, v = .slice A n cp) ∧ wr.ownsRow (w.heap.size + 2) 5 1 v n (vals (l ++ 128 :: List.replicate z 0)) ∧ Hid (Below (w.heap.size + 2) W wr)) (fun v _ => l.length + 1 + Z - lenOf v)
  case atStart =>
    refine ⟨0, _, by omega, rfl, ?_, hown2, hB4⟩
    rcases hown2.2 with ⟨h, h2⟩ | ⟨g, cap, cur, h, _⟩
    · simp at h2
    · exact ⟨_, _, h⟩
  case round =>
    obtain ⟨z, n, hz, hn, ⟨A, cp, rfl⟩, hown, hrB⟩ := hrel
    have hs : w.heap.size + 2 ≤ wr.heap.size := by have := Below.size hrB.out; omega
    have hnl : n = l.length + 1 + z := by rw [hn]; simp; omega
    have hn6 : n < 2000000000 := by omega
    by_cases hlt : z < Z
    · obtain ⟨r, hr⟩ : ∃ r : Nat, r = n % 64 := ⟨_, rfl⟩
      have er : (n : Int) % 64 = (r : Int) := by omega
      have hr56 : ¬ r = 56 := by omega
      have hrb : ((r : Int) == 56) = false := by simp; omega
      have hrc : ((r : Int) != 56) = true := by simp; omega
      have hn' : Hid (n = (l ++ 128 :: List.replicate z 0).length ∧ n = l.length + 1 + z ∧ Z = (119 - l.length % 64) % 64) := ⟨hn, hnl, hZ⟩
      clear hn hnl hZ hr
      go_wp2_with (at_builtin; refine wpList_append_own _ rfl _ _ 25 rfl (w.heap.size + 2) 5 i5 (.int .u8 0) 1 1 Tryd.underlying25 hi5 hz0 hz1 hz2 rfl (by decide) _ n _ rfl (hown.alloc _) ⟨wr.heap.size, 0, none⟩ 1 1 [.int .u8 0] rfl rfl (cells_one _ _) (fun u hu => by simp at hu; subst hu; rfl) (by unfold maxLen; omega) (by omega) (by simp; omega) ?_; intro v' w5 hown5 hgrow5 hnil5)
      have hgB : Below (w.heap.size + 2) W w5 := Below.grown (Below.alloc hrB.out hs _) hgrow5 (by simp; omega) (fun k hk => (hown.lt k hk).1)
      obtain ⟨A5, cp5, rfl⟩ : ∃ A cp, v' = .slice A (n + 1) cp := by
        rcases hown5.2 with ⟨_, h⟩ | ⟨g, cap, cur, h, _⟩
        · omega
        · exact ⟨_, _, h⟩
      clear hnil5 hgrow5
      go_roundw
      case rel =>
        obtain ⟨hn1, hn2, hZ⟩ := hn'.out
        have e : vals (l ++ 128 :: List.replicate (z + 1) 0) = vals (l ++ 128 :: List.replicate z 0) ++ [.int .u8 0] := by rw [List.replicate_succ']; simp [vals]
        exact ⟨z + 1, n + 1, by omega, by simp; omega, ⟨_, _, rfl⟩, by rw [e]; exact hown5, hgB⟩
      case measure => simp [lenOf]; have := hn'.out.2.1; omega
    · obtain rfl : z = Z := by omega
      have h56 : n % 64 = 56 := by omega
      have er : (n : Int) % 64 = 56 := by omega
      have hn' : Hid (n = (l ++ 128 :: List.replicate z 0).length ∧ n = l.length + 1 + z ∧ z = (119 - l.length % 64) % 64) := ⟨hn, hnl, hZ⟩
      clear hn hnl hZ h56
      go_wp2_with fail
      obtain ⟨M, hM⟩ : ∃ M, l ++ 128 :: List.replicate z 0 = M := ⟨_, rfl⟩
      have hnM : n = M.length := by rw [← hM]; exact hn'.out.1
      rw [hM] at hown
      clear er
      go_loopw [4, 6] (fun v v6 wr => ∃ i m : Nat, i ≤ 8 ∧ v6 = .int .i64 i ∧ m = M.length + i ∧ (∃ A cp, v = .slice A m cp) ∧ wr.ownsRow (w.heap.size + 2) 5 1 v m (vals (M ++ (lenB l.length).take i)) ∧ Hid (Below (w.heap.size + 2) W wr)) (fun _ v _ => 8 - (intOf v).toNat)
      case atStart => exact ⟨0, n, by omega, rfl, hnM, ⟨_, _, rfl⟩, by simpa using hown, hrB⟩
      case round =>
        clear hown hrB hs
        obtain ⟨i, m, hi, rfl, hm, ⟨A2, cp2, rfl⟩, hown, hrB⟩ := hrel
        have hs : w.heap.size + 2 ≤ wr.heap.size := by have := Below.size hrB.out; omega
        have hm6 : m < 3000000000 := by omega
        by_cases hlt : i < 8
        · have hm' : Hid (m = M.length + i) := hm
          obtain ⟨k, hk⟩ : ∃ k, Hid (k = i + 1) := ⟨_, rfl⟩
          clear hm hnM
          rcases (show i = 0 ∨ i = 1 ∨ i = 2 ∨ i = 3 ∨ i = 4 ∨ i = 5 ∨ i = 6 ∨ i = 7 by omega) with rfl | rfl | rfl | rfl | rfl | rfl | rfl | rfl
          all_goals
            go_wp2_with (at_builtin; refine wpList_append_own _ rfl _ _ 25 rfl (w.heap.size + 2) 5 i5 (.int .u8 0) 1 1 Tryd.underlying25 hi5 hz0 hz1 hz2 rfl (by decide) _ m _ rfl (hown.alloc _) ⟨wr.heap.size, 0, none⟩ 1 1 [_] rfl rfl (cells_one _ _) (fun u hu => by simp at hu; subst hu; rfl) (by unfold maxLen; omega) (by omega) (by simp; omega) ?_; intro v' w5 hown5 hgrow5 hnil5)
            have hgB : Below (w.heap.size + 2) W w5 := Below.grown (Below.alloc hrB.out hs _) hgrow5 (by simp; omega) (fun k hk => (hown.lt k hk).1)
            obtain ⟨A5, cp5, rfl⟩ : ∃ A cp, v' = .slice A (m + 1) cp := by
              rcases hown5.2 with ⟨_, h⟩ | ⟨g, cap, cur, h, _⟩
              · omega
              · exact ⟨_, _, h⟩
            clear hnil5 hgrow5
            go_roundw
            case rel =>
              have hk0 := hk.out
              refine ⟨k, m + 1, by omega, by rw [hk0]; rfl, by have := hm'.out; omega, ⟨_, _, rfl⟩, Eq.mp (congrArg (fun xs => w5.ownsRow _ _ _ _ _ xs) ?_) hown5, hgB⟩
              rw [hk0]
              simp [vals, lenB, List.range_succ]
              try omega
            case measure => simp [intOf]
        · obtain rfl : i = 8 := by omega
          have hP : M ++ List.take 8 (lenB l.length) = pad l l.length := by
            rw [← hM, hn'.out.2.2, List.take_of_length_le (by simp [lenB])]; simp [pad, tailB]
          rw [hP] at hown
          have hmP : m = (pad l l.length).length := by rw [← hP, List.length_append, List.take_of_length_le (by simp [lenB]), hm]; simp [lenB]
          clear hm hnM
          go_wp2_with fail
          obtain ⟨P, hPd⟩ : ∃ P, P = pad l l.length := ⟨_, rfl⟩
          have hPb : ∀ j, P.getD j 0 < 256 := by rw [hPd]; exact pad_lt _ _ hb
          have hP0 : 0 < P.length := by rw [hPd]; unfold pad; rw [List.length_append, tailB_len]; omega
          have hPm : P.length % 64 = 0 := by rw [hPd]; exact pad_len _ _
          rw [← hPd] at hown hmP
          have hmP' : Hid (m = P.length) := hmP
          have hm0 : 0 < m := by omega
          have hPd' : Hid (P = pad l l.length) := hPd
          clear hPd
          obtain ⟨g, cap, hv⟩ : ∃ g cap, Value.slice A2 m cp2 = .slice (some ⟨g, 0, none⟩) m cap := by
            rcases hown.2 with ⟨h, _⟩ | ⟨g, cap, cur, h, _⟩
            · simp at h; omega
            · exact ⟨g, cap, h⟩
          injection hv with hA _ hcp
          subst hA hcp
          have hgB : w.heap.size + 2 ≤ g := (hown.lt g rfl).1
          have hmc : m ≤ cp2 := by
            rcases hown.2 with ⟨h, _⟩ | ⟨g2, cap2, cur, h, _, _, h2, _⟩
            · simp at h
            · injection h with _ _ h3; omega
          have hlie : Lies wr g 0 P := lies_own hown
          have hr1 : wr.heap[w.heap.size + 1]? = some (.cells (words (st IV P 0)) 106 (0, 0)) := by rw [hrB.out.block _ (by omega)]; exact hW1
          have hmn : m < 3000000000 := hm6
          have hrB1 : Hid (Below (w.heap.size + 1) W wr) := hrB.out.mono (by omega)
          clear hown hrB hlt hmP hP hi hm6 hn6
          go_loopw [7] (fun v wr => ∃ j a : Nat, a = 64 * j ∧ a ≤ m ∧ v = .int .i64 a ∧ wr.heap[w.heap.size + 1]? = some (.cells (words (st IV P j)) 106 (0, 0)) ∧ Lies wr g 0 P ∧ Hid (Below (w.heap.size + 1) W wr)) (fun v _ => m - (intOf v).toNat)
          case atStart => exact ⟨0, 0, rfl, by omega, rfl, hr1, hlie, hrB1⟩
          case round =>
            clear hlie hr1 hrB1
            obtain ⟨j, a, ha, hae, rfl, hr1, hlie, hrB⟩ := hrel
            have hs : w.heap.size + 2 ≤ wr.heap.size := by have := Below.size hrB.out; omega
            have hgs : g < wr.heap.size := hlie.lt hP0
            by_cases hlt : a < m
            · have ha64 : a + 64 ≤ m := by have := hmP'.out; omega
              have hwr : IntKind.i64.wrap ((a : Int) + 64) = (a : Int) + 64 := by rw [IntKind.wrap_i64]; omega
              have hin1 : (a : Int) ≤ (a : Int) + 64 := by omega
              have hin2 : (a : Int) + 64 ≤ (cp2 : Int) := by omega
              have haj : Hid (a = 64 * j) := ha
              clear ha
              go_upto_region 14 with fail
              refine wp_region_still_tail 6 (by kernel_rfl) (by kernel_rfl) ?_
              change wpStill _ _ wr.drew (fun a' => wpList _ _ _ _ a' wr.drew) _ _
              generalize hx : wr.drew = wd
              have hr1 : wd.heap[w.heap.size + 1]? = some (.cells (words (st IV P j)) 106 (0, 0)) := by rw [← hx]; exact hr1
              have hlie : Lies wd g 0 P := by rw [← hx]; exact hlie
              have hrB : Hid (Below (w.heap.size + 1) W wd) := by rw [← hx]; exact Below.drew hrB.out
              have hds : w.heap.size + 2 ≤ wd.heap.size := by rw [← hx]; exact hs
              clear hx hs hgs
              have hlS : (st IV P j).length = 8 := st_length _ _ IV_length j
              simp only [List.take_succ_cons, List.take_zero, List.drop_succ_cons, List.drop_zero]
              refine still_run rfl (.agg (words (st IV P j))) (exec_load_row 106 _ _ rfl _ rfl _ _ _ _ hr1 Tryd.underlying106 rfl (by rw [words_size, hlS]; kernel_rfl)) ?_
              simp only [Act.put, fl1, fl2, fl3]
              still_step
              still_step
              still_step
              still_step
              refine still_run rfl (.slice (some ⟨g, 0 + a, none⟩) (a + 64 - a) (cp2 - a)) (exec_slice_lh (.tmp 49) (.tmp 50) (.tmp 52) rfl g 0 m cp2 a (a + 64) rfl rfl rfl (by omega) (by omega) wd) ?_
              refine wpStill_nil ?_
              rw [show a + 64 - a = 64 by omega, Nat.zero_add]
              refine sl_call rfl 63 _ (by kernel_rfl) (R := fun v w' => v = .agg (words (st IV P (j + 1))) ∧ Below wd.heap.size wd w') ((rblock_calls (st IV P j) hlS (st_lt _ _ IV_length IV_lt j) (fun t => P.getD (64 * j + t) 0) g a 64 (cp2 - a) (Nat.le_refl _) (by omega) wd (fun t ht => by
                have := hlie (a + t) (by have := hmP'.out; omega)
                rw [Nat.zero_add] at this; rw [this, haj.out]) (fun t ht => hPb _)).mono fun e w' h => ⟨_, h.1, rfl, h.2⟩) ?_
              rintro v w5 ⟨rfl, hB5⟩
              have h51 : w5.heap[w.heap.size + 1]? = some (.cells (words (st IV P j)) 106 (0, 0)) := by rw [hB5.block _ (by omega)]; exact hr1
              refine wpList_store_row rfl 106 _ _ rfl (w.heap.size + 1) (words (st IV P (j + 1))) (by kernel_rfl) (by kernel_rfl) 106 _ h51 (by rw [words_size, st_length _ _ IV_length]; kernel_rfl) (by rw [words_size, words_size, st_length _ _ IV_length, st_length _ _ IV_length]) (words_one _) ?_
              refine wpList_nil ?_
              have h61 : (w5.setRow (w.heap.size + 1) (words (st IV P (j + 1)))).heap[w.heap.size + 1]? = some (.cells (words (st IV P (j + 1))) 106 (0, 0)) := setRow_heap _ _ _ _ _ _ h51
              have h6l : Lies (w5.setRow (w.heap.size + 1) (words (st IV P (j + 1)))) g 0 P := (hlie.below hB5 (hlie.lt hP0)).setRow (by omega) _
              have h6B : Hid (Below (w.heap.size + 1) W (w5.setRow (w.heap.size + 1) (words (st IV P (j + 1))))) := below_setRow (hrB.out.trans (hB5.mono (by omega))) (by omega) _
              generalize World.setRow _ _ _ = w6 at h61 h6l h6B
              simp only [Act.put, fl1, fl2, fl3]
              clear hr1 hlie hrB h51 hB5
              go_wp2_with fail
              go_roundw
              case rel => exact ⟨j + 1, by have := haj.out; omega, by have := haj.out; omega, rfl⟩
              case measure => simp [intOf]; omega
            · have hjm : a = m := by have := hmP'.out; omega
              have hS : st IV P j = st IV (pad l l.length) ((pad l l.length).length / 64) := by
                have h1 := hmP'.out
                rw [← hPd'.out]; congr 1; omega
              have hlt' : ¬ (a : Int) < (m : Int) := by omega
              obtain ⟨S, hSd⟩ : ∃ S, S = st IV P j := ⟨_, rfl⟩
              have hSl : S.length = 8 := by rw [hSd]; exact st_length _ _ IV_length j
              have hSw : ∀ i, S.getD i 0 < 4294967296 := getD_lt (by decide) (by rw [hSd]; exact st_lt _ _ IV_length IV_lt j)
              rw [hS] at hSd
              have hR : Hid (sumB l = outB S) := by show _ = _; rw [hSd]; rfl
              rw [hS, ← hSd] at hr1
              clear hS hSd hlie ha hjm hae
              go_upto_region 15 with fail
              refine wp_region_lit ?_
              refine sl_run rfl (.pointer (some ⟨wr.heap.size, 0, none⟩)) (wr.alloc (.cells (bytesC (zeros 32)) 22)) (by kernel_rfl) ?_
              refine wpList_nil ?_
              simp only [Act.put, fl1, fl2, fl3]
              obtain ⟨h, hh⟩ : ∃ h, h = wr.heap.size := ⟨_, rfl⟩
              have hx1 : (wr.alloc (.cells (bytesC (zeros 32)) 22)).heap[w.heap.size + 1]? = some (.cells (words S) 106 (0, 0)) := by rw [heap_alloc_old _ _ (by omega)]; exact hr1
              have hx2 : (wr.alloc (.cells (bytesC (zeros 32)) 22)).heap[h]? = some (.cells (bytesC (outT S 0)) 22 (0, 0)) := by rw [hh]; exact heap_alloc_new _ _
              have hxB : Hid (Below (w.heap.size + 1) W (wr.alloc (.cells (bytesC (zeros 32)) 22))) := Below.alloc hrB.out (by omega) _
              rw [← hh]
              have hh2 : w.heap.size + 2 ≤ h := by omega
              generalize World.alloc _ _ = X at hx1 hx2 hxB
              clear hr1 hrB hh
              go_wp2_with fail
              go_loopw [9] (fun v wr => ∃ i : Nat, i ≤ 32 ∧ v = .int .i64 i ∧ wr.heap[w.heap.size + 1]? = some (.cells (words S) 106 (0, 0)) ∧ wr.heap[h]? = some (.cells (bytesC (outT S i)) 22 (0, 0)) ∧ Hid (Below (w.heap.size + 1) W wr)) (fun v _ => 32 - (intOf v).toNat)
              case atStart => exact ⟨0, by omega, rfl, hx1, hx2, hxB⟩
              case round =>
                clear hx1 hx2 hxB
                obtain ⟨i, hi, rfl, hx1, hx2, hxB⟩ := hrel
                by_cases hlt2 : i < 32
                · obtain ⟨q, hq⟩ : ∃ q : Nat, q = i / 4 := ⟨_, rfl⟩
                  have hq8 : (q : Int) < 8 := by omega
                  have eq4 : (i : Int) / 4 = (q : Int) := by omega
                  have hi32 : (i : Int) < 32 := by omega
                  obtain ⟨x, hx⟩ : ∃ x, x = S.getD q 0 := ⟨_, rfl⟩
                  have hx32 : x < 4294967296 := by rw [hx]; exact hSw q
                  have hc : wr.cell? ⟨w.heap.size + 1, q, none⟩ = some (.int .u32 (x : Int)) := by rw [cell_of_row _ _ _ _ _ _ hx1, hx]; exact words_get _ _ (by omega)
                  have hf : wr.frozen? ⟨h, i, none⟩ = false := frozen_of_row _ _ _ _ _ hx2
                  obtain ⟨z0, hz0'⟩ : ∃ z0, z0 = (outT S i).getD i 0 := ⟨_, rfl⟩
                  have hc2 : wr.cell? ⟨h, i, none⟩ = some (.int .u8 (z0 : Int)) := by rw [cell_of_row _ _ _ _ _ _ hx2, bytesC_get _ _ (by rw [outT_len _ _ hi]; exact hlt2), hz0']
                  clear hz0'
                  have hst := outT_set S i hlt2
                  rw [← hq, ← hx] at hst
                  obtain ⟨Y, hY⟩ : ∃ Y, Y = x / 2 ^ (24 - 8 * (i % 4)) % 256 := ⟨_, rfl⟩
                  rw [← hY] at hst
                  have hst' : Hid ((outT S i).set i Y = outT S (i + 1)) := hst
                  have hq' : Hid (q = i / 4) := hq
                  clear hst hq hx
                  rcases (show i % 4 = 0 ∨ i % 4 = 1 ∨ i % 4 = 2 ∨ i % 4 = 3 by omega) with hr | hr | hr | hr
                  all_goals
                    rw [hr] at hY
                    simp at hY
                    have hY' : Hid (Y = _) := hY
                    have er : (i : Int) % 4 = ((i % 4 : Nat) : Int) := by omega
                    rw [hr] at er
                    have er' := er
                    clear hr hY
                    go_wp2_with fail
                    go_roundw
                    case rel =>
                      refine ⟨i + 1, by omega, by go_num, ?_, ?_, Below.setCell hxB.out (by show _ ≤ h; omega) _⟩
                      · rw [Below.heap_setCell _ _ _ _ (by show _ ≠ h; omega)]; exact hx1
                      · have e2 := heap_setCell_same wr h i _ 22 (.int .u8 (Y : Int)) hx2
                        rw [bytesC_setv, hst'.out] at e2
                        refine Eq.trans (congrArg (fun v => (wr.setCell ⟨h, i, none⟩ (.int .u8 v)).heap[h]?) ?_) e2
                        have := hY'.out
                        omega
                    case measure => simp [intOf]; omega
                · obtain rfl : i = 32 := by omega
                  have hlt32 : ¬ ((32 : Nat) : Int) < 32 := by omega
                  rw [outT_full] at hx2
                  have hx0 : wr.heap[w.heap.size]? = some (.cells (bytesC (zeros 32)) 22 (0, 0)) := by rw [hxB.out.block _ (by omega)]; exact hW0
                  go_upto_region 20 with fail
                  refine wp_region_lit ?_
                  refine wpList_load_row rfl 22 _ rfl h (by kernel_rfl) 22 (bytesC (outB S)) (0, 0) _ hx2 Tryd.underlying22 rfl (by rw [bytesC_size, outB_length]; kernel_rfl) ?_
                  refine wpList_store_row rfl 22 _ _ rfl w.heap.size (bytesC (outB S)) (by kernel_rfl) (by kernel_rfl) 22 _ hx0 (by rw [bytesC_size, outB_length]; kernel_rfl) (by rw [bytesC_size, bytesC_size, outB_length]; rfl) (bytesC_one _) ?_
                  refine wpList_nil ?_
                  have hz := setRow_heap _ _ _ (bytesC (outB S)) _ _ hx0
                  have hzB : Below w.heap.size w (wr.setRow w.heap.size (bytesC (outB S))) := below_setRow (hWB.trans (hxB.out.mono (by omega))) (Nat.le_refl _) _
                  rename_i hK
                  exact hK _ _ (wp_ret (bodyPost_ret (results_cell_row rfl _ _ w.heap.size 22 (bytesC (outB S)) (0, 0) _ (by kernel_rfl) hz Tryd.underlying22 rfl (by rw [bytesC_size, outB_length]; kernel_rfl)) (by kernel_rfl) ⟨by rw [hR.out], hzB⟩))
end Go.Proofs.YtadopkifpfmhcaaDoor.Sha
namespace Go.Proofs.YtadopkifpfmhcaaDoor
open Go.RowKit
open Sha (vals Bytes Lies bytesC sumB)
open Go.Proofs.YtadopkifpfmhcaaDoorW.PrintWords Go.Proofs.YtadopkifpfmhcaaDoorW.PrintLast Go.Proofs.YtadopkifpfmhcaaDoorW.PrintMore
/-- The head of the first entries. -/
def headP (cut : Nat) (l : List En) : Nat → List Nat
  | 0 => List.replicate cut 0
  | i + 1 => (sumB (headP cut l i ++ (bytesS (i : Int) (l.getD i default)).1)).take cut
theorem headP_len {cut : Nat} (hc : cut ≤ 32) (l : List En) : ∀ i, (headP cut l i).length = cut
  | 0 => by simp [headP]
  | i + 1 => by rw [headP, List.length_take, Sha.sumB_length]; omega
theorem entB_lt {e : En} (he : e.ok) (i : Nat) : ∀ x ∈ entB i e, x < 256 := by
  intro x hx
  unfold entB at hx
  simp only [List.mem_append, List.mem_singleton] at hx
  rcases hx with (((((h | h) | h) | h) | h) | h) | h
  · exact numB_lt _ _ x h
  · rw [h]; exact Nat.mod_lt _ (by decide)
  · simp [bytesN] at h; obtain ⟨b, _, rfl⟩ := h; exact b.toNat_lt
  · exact numB_lt _ _ x h
  · exact numB_lt _ _ x h
  · simp [bytesN] at h; obtain ⟨b, _, rfl⟩ := h; exact b.toNat_lt
  · exact he.2.1 x h
theorem bytesS_lt {e : En} (he : e.ok) (i : Int) : ∀ x ∈ (bytesS i e).1, x < 256 := by
  unfold bytesS; split
  · intro x hx; cases hx
  · exact entB_lt he _
theorem bytesS_len {e : En} (i : Int) : (bytesS i e).1.length ≤ 100000 := by
  unfold bytesS; split
  · simp
  · rename_i h
    have hg : goodE e = true := by
      cases hq : goodE e with
      | true => rfl
      | false => exact absurd (.inr hq) h
    simp only [goodE, Pure.nameB, Bool.and_eq_true, decide_eq_true_eq] at hg
    have h1 := hg.1.2.2.2.1
    have h2 := hg.2.2.2
    simp [entB, numB_len, bytesN_len, e.hd]; omega
theorem getD_of {l : List Nat} (h : ∀ x ∈ l, x < 256) : ∀ j, l.getD j 0 < 256 := fun j => by
  rw [List.getD_eq_getElem?_getD]
  cases hq : l[j]? with
  | none => simp
  | some x => exact h x (List.mem_of_getElem? hq)
theorem sum_mem (l : List Nat) : ∀ x ∈ sumB l, x < 256 := by
  intro x hx
  obtain ⟨j, hj, rfl⟩ := List.getElem_of_mem hx
  have := Sha.sumB_lt l j
  simpa [List.getD_eq_getElem?_getD, hj] using this
theorem headP_lt (cut : Nat) (l : List En) : ∀ i, ∀ x ∈ headP cut l i, x < 256
  | 0 => fun x hx => by simp [headP] at hx; omega
  | i + 1 => fun x hx => sum_mem _ x (List.mem_of_mem_take hx)
theorem exec_makeN {P : Program} {o : Oper} {a : Act} {w : World} (t : TypeId) (x y : Operand) (ho : o.op = .makeSlice t x y) (e : TypeId) (i : TypeInfo) (z : Value) (ht : P.underlying t = some (.slice e)) (hi : P.info? e = some i) (hz : i.zero = some z) (n : Nat)
    (hx : a.eval x = .int .i64 (n : Int)) (hy : a.eval y = .int .i64 (n : Int)) (hb : i.bytes * n ≤ 281474976710656) (h63 : n ≤ maxLen) : (execOp a.eval o).run P w = .ok (.value (.slice (some ⟨w.heap.size, 0, none⟩) n n)) (w.alloc (.cells (madeCells z.cells (n * i.size)) e)) := by
  have h1 : (n : Int) ≤ 9223372036854775807 := by unfold maxLen at h63; omega
  have h2 : (i.bytes : Int) * (n : Int) ≤ 281474976710656 := by
    have h : ((i.bytes * n : Nat) : Int) ≤ 281474976710656 := by omega
    rwa [Int.natCast_mul] at h
  have hr := run_make (P := P) w t e i z ht hi hz .i64 .i64 n n (by omega) (Int.le_refl _) h2 h1
  unfold execOp
  simp only [ho, hx, hy, Sem.run_bind, hr, Result.andThen_ok, Sem.run_pure, Int.toNat_natCast]
theorem made_zero (n : Nat) : madeCells (Value.int .u8 0).cells (n * 1) = bytesC (List.replicate n 0) := by
  rw [Nat.mul_one]
  apply Array.ext'
  simp [madeCells, bytesC, Value.cells, Nat.mod_one]
  exact List.eq_replicate_iff.2 ⟨by simp, by simp⟩
set_option maxRecDepth 100000 in
set_option maxHeartbeats 8000000 in
theorem rhead_calls (cut : Nat) (hc : cut ≤ 32) (l : List En) (hok : ∀ x ∈ l, x.ok) (A : Option Addr) (n c : Nat) (hn : n = l.length) (hn9 : n ≤ 1000000000) (w : World) (hy : Rw 35 encE w (.slice A n c) l) :
    Calls Tryd.prog 41 #[.int .i64 (cut : Int), .slice A n c] w fun e w' => ∃ v, e = .returned v ∧ w'.ownsRow w.heap.size 5 1 v (headP cut l n).length (vals (headP cut l n)) ∧ Below w.heap.size w w' := by
  have hn' : Hid (n = l.length) := hn
  have hyH : Hid (Rw 35 encE w (.slice A n c) l) := hy
  have hokH : Hid (∀ x ∈ l, x.ok) := hok
  clear hn hy hok
  obtain ⟨i5, hi5, hz0, hz1, hz2⟩ := info_parts inf5
  go_enter Tryd.func41, Tryd.ntmps41
  go_upto_region 1 with fail
  refine wp_region_lit ?_
  refine sl_run rfl (.int .i64 (cut : Int)) w (by kernel_rfl) ?_
  simp only [Act.put, fl1, fl2, fl3]
  refine sl_run rfl (.slice (some ⟨w.heap.size, 0, none⟩) cut cut) (w.alloc (.cells (madeCells (Value.int .u8 0).cells (cut * i5.size)) 5)) (exec_makeN 25 _ _ rfl 5 i5 (.int .u8 0) Tryd.underlying25 hi5 hz0 cut (by kernel_rfl) (by kernel_rfl) (by rw [hz2]; omega) (by unfold maxLen; omega)) ?_
  simp only [Act.put, fl1, fl2, fl3]
  refine sl_run rfl (.slice (some ⟨w.heap.size, 0, none⟩) cut cut) (w.alloc (.cells (madeCells (Value.int .u8 0).cells (cut * i5.size)) 5)) (by kernel_rfl) ?_
  simp only [Act.put, fl1, fl2, fl3]
  refine wpList_nil ?_
  rw [hz1, made_zero]
  have hb0 : Hid ((w.alloc (.cells (bytesC (List.replicate cut 0)) 5)).ownsRow w.heap.size 5 1 (.slice (some ⟨w.heap.size, 0, none⟩) cut cut) (headP cut l 0).length (vals (headP cut l 0))) := by
    have e1 : (headP cut l 0).length = cut := headP_len hc l 0
    rw [e1]
    exact ⟨by rw [Sha.vals_length, e1, Nat.mul_one], .inr ⟨w.heap.size, cut, _, rfl, Nat.le_refl _, heap_alloc_new _ _, Nat.le_refl _, by unfold maxLen; omega, by rw [Sha.bytesC_size, List.length_replicate, Nat.mul_one], by
      show ((bytesC (List.replicate cut 0)).toList).take (cut * 1) = vals (List.replicate cut 0)
      rw [List.take_of_length_le (by rw [Array.length_toList, Sha.bytesC_size, List.length_replicate]; omega)]
      rfl⟩⟩
  have hB0 : Hid (Below w.heap.size w (w.alloc (.cells (bytesC (List.replicate cut 0)) 5))) := (Below.refl _ _).alloc (Nat.le_refl _) _
  obtain ⟨hv, hhv⟩ : ∃ v, v = Value.slice (some ⟨w.heap.size, 0, none⟩) cut cut := ⟨_, rfl⟩
  rw [← hhv] at hb0 ⊢
  clear hhv hi5 hz0 hz1 hz2
  generalize World.alloc _ _ = W at hb0 hB0 ⊢
  go_wp2_with fail
  go_loopw [5, 6] (fun v u wr => ∃ i : Nat, i ≤ n ∧ u = .int .i64 (i : Int) ∧ Hid (wr.ownsRow w.heap.size 5 1 v (headP cut l i).length (vals (headP cut l i))) ∧ Hid (Below w.heap.size w wr)) (fun _ u _ => n - (intOf u).toNat)
  case atStart => exact ⟨0, by omega, rfl, hb0, hB0⟩
  case round =>
    obtain ⟨i, hin, rfl, hhb, hb⟩ := hrel
    obtain ⟨wo, rfl⟩ : ∃ v : World, v = wr := ⟨_, rfl⟩
    obtain ⟨v5, rfl⟩ : ∃ v : Value, v = u5 := ⟨_, rfl⟩
    clear hb0 hB0
    by_cases hi : i < n
    · have hI : (i : Int) < (n : Int) := by omega
      obtain ⟨g, o, rfl, hnc, hg, hel⟩ := (hyH.out.below hb.out).elem i (by rw [← hn'.out]; exact hi)
      obtain ⟨x, hx⟩ : ∃ x, x = l.getD i default := ⟨_, rfl⟩
      rw [← hx] at hel
      have hxH : Hid (x = l.getD i default) := hx
      have hxok : Hid x.ok := hokH.out x (by rw [hx]; have := hn'.out; simp [show i < l.length by omega])
      have helH : Hid (wo.rangeAt g (o + i * 35) (encE x).toList) := hel
      have hBwo : Hid (Below w.heap.size w wo) := hb
      have hhwo : Hid (wo.ownsRow w.heap.size 5 1 v5 (headP cut l i).length (vals (headP cut l i))) := hhb
      clear hx hel hg hb hhb
      obtain ⟨R, hR⟩ : ∃ R, R = bytesS (i : Int) x := ⟨_, rfl⟩
      obtain ⟨b, er⟩ := R
      have hRH : Hid ((b, er) = bytesS (i : Int) x) := hR
      have hbl : b.length ≤ 100000 := by
        have := @bytesS_len x (i : Int)
        rw [← hR] at this
        exact this
      clear hR
      go_upto_region 5 with fail
      refine wp_region_lit ?_
      refine sl_run rfl (.int .i64 (i : Int)) wo (by kernel_rfl) ?_
      simp only [Act.put, fl1, fl2, fl3]
      refine sl_run rfl (.slice (some ⟨g, o, none⟩) n c) wo (by kernel_rfl) ?_
      simp only [Act.put, fl1, fl2, fl3]
      refine sl_run rfl (.int .i64 (i : Int)) wo (by kernel_rfl) ?_
      simp only [Act.put, fl1, fl2, fl3]
      refine sl_run rfl (.pointer (some ⟨g, o + i * 35, none⟩)) wo (exec_index un34 sz34 _ _ rfl g o n c i (by kernel_rfl) (by kernel_rfl) hi _) ?_
      simp only [Act.put, fl1, fl2, fl3]
      refine sl_run rfl (.agg (encE x)) wo (load_en _ _ rfl g (o + i * 35) (by kernel_rfl) x helH.out) ?_
      simp only [Act.put, fl1, fl2, fl3]
      refine sg_call (by kernel_rfl) 12 #[.int .i64 (i : Int), .agg (encE x)] (by kernel_rfl) (R := fun v w' => ∃ bv, v = .tuple #[bv, .int .i64 (er : Int)] ∧ Bytes w' bv b ∧ Below wo.heap.size wo w') ((rbytes_calls (i : Int) (by omega) x hxok.out wo).mono fun z w' h => by
        obtain ⟨v, h1, h2, h3⟩ := h
        rw [← hRH.out] at h1 h2
        exact ⟨_, h1, v, rfl, h2, h3⟩) ?_
      rintro _ w1 ⟨bv, rfl, hby, hb⟩
      simp only [Act.put, fl1, fl2, fl3]
      have hBw1 : Hid (Below w.heap.size w w1) := hBwo.out.trans ((hb).mono (hBwo.out).size)
      have hhw1 : Hid (w1.ownsRow w.heap.size 5 1 v5 (headP cut l i).length (vals (headP cut l i))) := own_keep hhwo.out (fun q hq => (hb).block q ((hhwo.out).lt q hq).2)
      clear hBwo hhwo
      have hbyw1 : Hid (Bytes w1 bv b) := hby
      clear hb hby helH
      refine sl_run rfl (.tuple #[bv, .int .i64 (er : Int)]) w1 (by kernel_rfl) ?_
      simp only [Act.put, fl1, fl2, fl3]
      refine sl_run rfl (bv) w1 (by kernel_rfl) ?_
      simp only [Act.put, fl1, fl2, fl3]
      refine sl_run rfl (.int .i64 (er : Int)) w1 (by kernel_rfl) ?_
      simp only [Act.put, fl1, fl2, fl3]
      refine sl_run rfl (bv) w1 (by kernel_rfl) ?_
      simp only [Act.put, fl1, fl2, fl3]
      refine sl_run rfl (.int .i64 (er : Int)) w1 (by kernel_rfl) ?_
      simp only [Act.put, fl1, fl2, fl3]
      refine wpList_nil ?_
      go_upto_region 6 with fail
      refine wp_region_lit ?_
      refine sg_run (by kernel_rfl) (.slice (some ⟨w1.heap.size, 0, none⟩) 0 0) (w1.alloc (.cells #[] 5)) (by kernel_rfl) ?_
      simp only [Act.put, fl1, fl2, fl3]
      have hbn : Below w1.heap.size w1 (w1.alloc (.cells #[] 5)) := (Below.refl _ _).alloc (Nat.le_refl _) _
      have hown0 : (w1.alloc (.cells #[] 5)).ownsRow w1.heap.size 5 1 (.slice (some ⟨w1.heap.size, 0, none⟩) 0 0) ([] : List Nat).length (vals []) := World.ownsRow_made _ _ 0 (Nat.le_refl _) (by decide) rfl
      obtain ⟨q1, hq1⟩ : ∃ q, q = w1.heap.size := ⟨_, rfl⟩
      rw [← hq1] at hown0 ⊢
      have hle : q1 ≤ (w1.alloc (.cells #[] 5)).heap.size := by rw [hq1]; exact hbn.size
      have hge : Hid (w.heap.size ≤ q1) := by show _ ≤ _; rw [hq1]; exact hBw1.out.size
      have hhx : Bytes (w1.alloc (.cells #[] 5)) v5 (headP cut l i) := (own_bytes hhw1.out).below hbn
      have hbx : Bytes (w1.alloc (.cells #[] 5)) bv b := hbyw1.out.below hbn
      have hbx0 : Below q1 w1 (w1.alloc (.cells #[] 5)) := by rw [hq1]; exact hbn
      have hbyq : Hid (Bytes w1 bv b) := hbyw1
      have hqw : Hid (q1 = w1.heap.size) := hq1
      clear hbn hq1
      generalize World.alloc _ _ = y0 at hown0 hle hhx hbx hbx0 ⊢
      refine sl_run rfl (v5) y0 (by kernel_rfl) ?_
      simp only [Act.put, fl1, fl2, fl3]
      refine Sha.append22 rfl _ _ rfl q1 (.slice (some ⟨q1, 0, none⟩) 0 0) [] (headP cut l i) (by kernel_rfl) hown0 v5 (by kernel_rfl) hhx (by rw [headP_len hc]; simp; omega) hle ?_
      intro v6 y1 hown1 hgr _
      simp only [Act.put, fl1, fl2, fl3]
      have hb1 : Below q1 w1 y1 := hbx0.grown hgr hle (fun q hq => (hown0.lt q hq).1)
      have hb1' : Below w1.heap.size w1 y1 := by rw [← hqw.out]; exact hb1
      have hby1 : Bytes y1 bv b := hbyq.out.below hb1'
      clear hgr hown0 hbx hhx hbx0 hle
      refine sl_run rfl (bv) y1 (by kernel_rfl) ?_
      simp only [Act.put, fl1, fl2, fl3]
      refine Sha.append22 rfl _ _ rfl q1 v6 ([] ++ headP cut l i) b (by kernel_rfl) hown1 bv (by kernel_rfl) hby1 (by simp [headP_len hc]; omega) (by have := hb1.size; have := hqw.out; omega) ?_
      intro v7 y2 hown2 hgr _
      simp only [Act.put, fl1, fl2, fl3]
      have hb2 : Below q1 w1 y2 := hb1.grown hgr (by have := hb1.size; have := hqw.out; omega) (fun q hq => (hown1.lt q hq).1)
      have hb2' : Below w1.heap.size w1 y2 := by rw [← hqw.out]; exact hb2
      rw [List.nil_append] at hown2
      have hMy : Bytes y2 v7 (headP cut l i ++ b) := own_bytes hown2
      have hBy2 : Hid (Below w.heap.size w y2) := hBw1.out.trans (hb2'.mono hBw1.out.size)
      clear hgr hown1 hown2 hb1 hb1' hby1 hb2 hb2' hbyq hqw hge hBw1 hhw1 hbyw1
      obtain ⟨M, hM⟩ : ∃ M, M = headP cut l i ++ b := ⟨_, rfl⟩
      rw [← hM] at hMy
      have hMlt : ∀ j, M.getD j 0 < 256 := getD_of (by
        rw [hM]; intro z hz
        rcases List.mem_append.1 hz with h | h
        · exact headP_lt cut l i z h
        · have hq := hRH.out
          have : b = (bytesS (i : Int) x).1 := by rw [← hq]
          rw [this] at h; exact bytesS_lt hxok.out _ z h)
      have hMl : M.length ≤ 1000000 := by
        rw [hM, List.length_append, headP_len hc]; omega
      have hnextH : Hid (headP cut l (i + 1) = (sumB M).take cut) := by
        show _ = _
        rw [headP, hM, ← hxH.out, ← hRH.out]
      obtain ⟨A7, c7, rfl⟩ := hMy.form
      clear hM hRH hxH hxok
      obtain ⟨S, hS⟩ : ∃ S, S = sumB M := ⟨_, rfl⟩
      refine sg_call (by kernel_rfl) 56 #[.slice A7 M.length c7] (by kernel_rfl) (R := fun v w' => v = .agg (bytesC S) ∧ Below y2.heap.size y2 w') ((Sha.rsum_calls M hMlt (by omega) A7 c7 y2 hMy).mono fun z w' h => ⟨_, h.1, by rw [hS], h.2⟩) ?_
      rintro _ y3 ⟨rfl, hb⟩
      simp only [Act.put, fl1, fl2, fl3]
      have hBy3 : Hid (Below w.heap.size w y3) := hBy2.out.trans (hb.mono hBy2.out.size)
      have hSl : S.length = 32 := by rw [hS, Sha.sumB_length]
      rw [← hS] at hnextH
      clear hb hBy2 hMy hMlt hMl hS
      refine sg_run (by kernel_rfl) (.pointer (some ⟨y3.heap.size, 0, none⟩)) (y3.alloc (.cells (bytesC (Sha.zeros 32)) 22)) (by kernel_rfl) ?_
      simp only [Act.put, fl1, fl2, fl3]
      refine wpList_store_row rfl 22 _ _ rfl y3.heap.size (bytesC S) (by kernel_rfl) (by kernel_rfl) 22 _ (heap_alloc_new _ _) (by rw [Sha.bytesC_size, hSl]; kernel_rfl) (by rw [Sha.bytesC_size, Sha.bytesC_size, hSl]; rfl) (Sha.bytesC_one _) ?_
      simp only [Act.put, fl1, fl2, fl3]
      refine wpList_nil ?_
      have hD0 : ((y3.alloc (.cells (bytesC (Sha.zeros 32)) 22)).setRow y3.heap.size (bytesC S)).heap[y3.heap.size]? = some (.cells (bytesC S) 22 (0, 0)) := setRow_heap _ _ _ (bytesC S) _ _ (heap_alloc_new _ _)
      have hDB : Below y3.heap.size y3 ((y3.alloc (.cells (bytesC (Sha.zeros 32)) 22)).setRow y3.heap.size (bytesC S)) := below_setRow ((Below.refl _ _).alloc (Nat.le_refl _) _) (Nat.le_refl _) _
      obtain ⟨D, hDd⟩ : ∃ D, D = y3.heap.size := ⟨_, rfl⟩
      rw [← hDd] at hD0 ⊢
      have hDB2 : Below y3.heap.size y3 ((y3.alloc (.cells (bytesC (Sha.zeros 32)) 22)).setRow D (bytesC S)) := by rw [hDd]; exact hDB
      clear hDd hDB
      generalize World.setRow _ _ _ = y4 at hD0 hDB2 ⊢
      have hDy4 : Hid (y4.heap[D]? = some (.cells (bytesC S) 22 (0, 0))) := hD0
      have hBy4 : Hid (Below w.heap.size w y4) := hBy3.out.trans (hDB2.mono hBy3.out.size)
      clear hD0 hDB2 hBy3
      go_wp2_with fail
      go_loopw [5, 10] (fun v u wr => ∃ k : Nat, k ≤ cut ∧ u = .int .i64 (k : Int) ∧ Hid (wr.ownsRow w.heap.size 5 1 v (S.take k).length (vals (S.take k))) ∧ Hid (wr.heap[D]? = some (.cells (bytesC S) 22 (0, 0))) ∧ Hid (Below w.heap.size w wr)) (fun _ u _ => cut - (intOf u).toNat)
      case atStart => exact ⟨0, by omega, rfl, World.ownsRow_nil _ _ _ _, hDy4, hBy4⟩
      case round =>
        obtain ⟨k, hkc, rfl, hor, hDr, hBr⟩ := hrel
        obtain ⟨z0, rfl⟩ : ∃ v : World, v = wr := ⟨_, rfl⟩
        obtain ⟨vk, rfl⟩ : ∃ v : Value, v = u5 := ⟨_, rfl⟩
        clear hDy4 hBy4
        by_cases hk : k < cut
        · have hI2 : (k : Int) < (cut : Int) := by omega
          go_upto_region 11 with fail
          refine wp_region_lit ?_
          refine sl_run rfl (vk) z0 (by kernel_rfl) ?_
          simp only [Act.put, fl1, fl2, fl3]
          refine sl_run rfl (.int .i64 (k : Int)) z0 (by kernel_rfl) ?_
          simp only [Act.put, fl1, fl2, fl3]
          refine sl_run rfl (.pointer (some ⟨D, 0 + k, none⟩)) z0 (exec_field22 _ _ _ rfl D 0 k (by kernel_rfl) (by kernel_rfl) (by omega)) ?_
          simp only [Act.put, fl1, fl2, fl3]
          refine sl_run rfl (.int .u8 ((S.getD k 0 : Nat) : Int)) z0 (exec_load_cell 5 _ _ rfl ⟨D, 0 + k, none⟩ (by kernel_rfl) _ (by rw [cell_of_row _ _ _ _ _ _ hDr.out, Nat.zero_add]; exact Sha.bytesC_get S k (by omega)) (fun _ => by kernel_rfl)) ?_
          simp only [Act.put, fl1, fl2, fl3]
          refine sg_run (by kernel_rfl) (.slice (some ⟨z0.heap.size, 0, none⟩) 1 1) (z0.alloc (.cells (bytesC [S.getD k 0]) 5)) (by kernel_rfl) ?_
          simp only [Act.put, fl1, fl2, fl3]
          have hbn : Below z0.heap.size z0 (z0.alloc (.cells (bytesC [S.getD k 0]) 5)) := (Below.refl _ _).alloc (Nat.le_refl _) _
          have hyn : Bytes (z0.alloc (.cells (bytesC [S.getD k 0]) 5)) (.slice (some ⟨z0.heap.size, 0, none⟩) 1 1) [S.getD k 0] := Sha.bytes_mark z0 [S.getD k 0] 1 rfl (0, 0)
          obtain ⟨gg, hgg⟩ : ∃ q, q = z0.heap.size := ⟨_, rfl⟩
          rw [← hgg] at hyn ⊢
          have hDn : (z0.alloc (.cells (bytesC [S.getD k 0]) 5)).heap[D]? = some (.cells (bytesC S) 22 (0, 0)) := heap_kept hDr.out hbn
          have hon : (z0.alloc (.cells (bytesC [S.getD k 0]) 5)).ownsRow w.heap.size 5 1 vk _ _ := own_keep hor.out (fun q hq => hbn.block q (hor.out.lt q hq).2)
          have hBn : Below w.heap.size w (z0.alloc (.cells (bytesC [S.getD k 0]) 5)) := hBr.out.trans (hbn.mono hBr.out.size)
          clear hbn hor hDr hBr hgg
          generalize World.alloc _ _ = z1 at hyn hDn hon hBn ⊢
          refine Sha.append22 rfl _ _ rfl w.heap.size vk (S.take k) [S.getD k 0] (by kernel_rfl) hon (.slice (some ⟨gg, 0, none⟩) 1 1) (by kernel_rfl) hyn (by simp; omega) hBn.size ?_
          intro vz z2 hoz hgr _
          simp only [Act.put, fl1, fl2, fl3]
          have hDz : Hid (z2.heap[D]? = some (.cells (bytesC S) 22 (0, 0))) := (hgr.block D (Array.getElem?_eq_some_iff.1 hDn).1 (own_kind hon hDn (by decide))).trans hDn
          have hBz : Hid (Below w.heap.size w z2) := hBn.grown hgr hBn.size (fun q hq => (hon.lt q hq).1)
          have htk : S.take k ++ [S.getD k 0] = S.take (k + 1) := by
            rw [List.take_add_one]
            simp [List.getD_eq_getElem?_getD, show k < S.length by omega]
          rw [htk] at hoz
          have hozH : Hid (z2.ownsRow w.heap.size 5 1 vz (S.take (k + 1)).length (vals (S.take (k + 1)))) := hoz
          clear hgr hDn hon hBn hyn htk hoz
          refine sl_run rfl (vz) z2 (by kernel_rfl) ?_
          simp only [Act.put, fl1, fl2, fl3]
          refine wpList_nil ?_
          go_wp2_with fail
          go_roundw
          case rel => exact ⟨k + 1, by omega, by go_num, hozH, hDz, hBz⟩
          case measure => simp [intOf]; omega
        · have hI2 : ¬ (k : Int) < (cut : Int) := by omega
          obtain rfl : k = cut := by omega
          have hfin : Hid (z0.ownsRow w.heap.size 5 1 vk (headP k l (i + 1)).length (vals (headP k l (i + 1)))) := by show World.ownsRow _ _ _ _ _ _ _; rw [hnextH.out]; exact hor.out
          have hBf : Hid (Below w.heap.size w z0) := hBr
          clear hor hDr hBr hnextH
          go_wp2_with fail
          go_roundw
          case rel => exact ⟨i + 1, by omega, by go_num, hfin, hBf⟩
          case measure => simp [intOf]; omega
    · have hI : ¬ (i : Int) < (n : Int) := by omega
      obtain rfl : i = n := by omega
      have hF : Hid (wo.ownsRow w.heap.size 5 1 v5 (headP cut l i).length (vals (headP cut l i))) := hhb
      have hBf : Hid (Below w.heap.size w wo) := hb
      clear hhb hb
      go_wp2_with fail
      go_ret
      exact ⟨_, rfl, hF.out, hBf.out⟩
end Go.Proofs.YtadopkifpfmhcaaDoor
namespace Go.Proofs.YtadopkifpfmhcaaDoor
open Go.RowKit
open Sha (vals Bytes Lies bytesC sumB)
open Go.Proofs.YtadopkifpfmhcaaDoorW.PrintWords Go.Proofs.YtadopkifpfmhcaaDoorW.PrintLast Go.Proofs.YtadopkifpfmhcaaDoorW.PrintMore
def headS (cut : Int) (l : List En) : List Nat × Nat := if rightS cut l = true then (headP cut.toNat l l.length, 0) else ([], 1)
theorem right_cut {cut : Int} {l : List En} (h : rightS cut l = true) : 1 ≤ cut ∧ cut ≤ 32 := by
  simp only [rightS, Bool.and_eq_true, decide_eq_true_eq] at h
  exact ⟨h.1, h.2.1⟩
set_option maxRecDepth 100000 in
set_option maxHeartbeats 4000000 in
theorem rHead_calls (cut : Int) (l : List En) (hok : ∀ x ∈ l, x.ok) (A : Option Addr) (n c : Nat) (hn : n = l.length) (hn9 : n ≤ 1000000000) (w : World) (hy : Rw 35 encE w (.slice A n c) l) :
    Calls Tryd.prog 17 #[.int .i64 cut, .slice A n c] w fun e w' => ∃ v, e = .returned (.tuple #[v, .int .i64 ((headS cut l).2 : Int)]) ∧ Bytes w' v (headS cut l).1 ∧ Below w.heap.size w w' := by
  have hn' : Hid (n = l.length) := hn
  have hyw : Hid (Rw 35 encE w (.slice A n c) l) := hy
  have hBw : Hid (Below w.heap.size w w) := Below.refl _ _
  have hokH : Hid (∀ x ∈ l, x.ok) := hok
  obtain ⟨R, hR⟩ : ∃ R, R = headS cut l := ⟨_, rfl⟩
  rw [← hR]
  obtain ⟨lr, er⟩ := R
  have hRH : Hid ((lr, er) = headS cut l) := hR
  clear hn hy hok hR
  go_enter Tryd.func17, Tryd.ntmps17
  go_upto_region 1 with fail
  refine wp_region_lit ?_
  obtain ⟨rb, hrb⟩ : ∃ b, b = rightS cut l := ⟨_, rfl⟩
  refine sl_run rfl (.int .i64 cut) w (by kernel_rfl) ?_
  simp only [Act.put, fl1, fl2, fl3]
  refine sl_run rfl (.slice A n c) w (by kernel_rfl) ?_
  simp only [Act.put, fl1, fl2, fl3]
  refine sg_call (by kernel_rfl) 40 #[.int .i64 cut, .slice A n c] (by kernel_rfl) (R := fun v w' => v = .bool rb ∧ Below w.heap.size w w') ((rright_calls cut l A n c hn'.out hn9 w hyw.out).mono fun e w' h => ⟨_, h.1, by rw [hrb], h.2⟩) ?_
  rintro _ w1 ⟨rfl, hb⟩
  simp only [Act.put, fl1, fl2, fl3]
  have hBw1 : Hid (Below w.heap.size w w1) := hBw.out.trans ((hb).mono (hBw.out).size)
  have hyw1 : Hid (Rw 35 encE w1 (.slice A n c) l) := (hyw.out).below hb
  clear hBw hyw
  clear hb
  refine sl_run rfl (.bool (!rb)) w1 (by kernel_rfl) ?_
  simp only [Act.put, fl1, fl2, fl3]
  refine wpList_nil ?_
  cases rb with
  | false =>
    have hs : headS cut l = ([], 1) := by unfold headS; rw [if_neg (by rw [← hrb]; decide)]
    have hq := hRH.out
    rw [hs] at hq
    injection hq with q1 q2
    subst q1 q2
    clear hRH hs hyw1 hrb
    go_wp2_with fail
    go_ret2
    exact ⟨_, rfl, .inl ⟨none, 0, rfl, rfl, fun _ => rfl⟩, hBw1.out⟩
  | true =>
    have hs : headS cut l = (headP cut.toNat l n, 0) := by unfold headS; rw [if_pos hrb.symm, hn'.out]
    have hq := hRH.out
    rw [hs] at hq
    injection hq with q1 q2
    subst q1 q2
    obtain ⟨hc1, hc2⟩ := right_cut hrb.symm
    obtain ⟨m, rfl⟩ : ∃ m : Nat, cut = (m : Int) := ⟨cut.toNat, by omega⟩
    clear hRH hs hrb
    go_upto_region 3 with fail
    refine wp_region_lit ?_
    refine sl_run rfl (.int .i64 (m : Int)) w1 (by kernel_rfl) ?_
    simp only [Act.put, fl1, fl2, fl3]
    refine sl_run rfl (.slice A n c) w1 (by kernel_rfl) ?_
    simp only [Act.put, fl1, fl2, fl3]
    refine sg_call (by kernel_rfl) 41 #[.int .i64 (m : Int), .slice A n c] (by kernel_rfl) (R := fun v w' => Bytes w' v (headP m l n) ∧ Below w1.heap.size w1 w') ((rhead_calls m (by omega) l hokH.out A n c hn'.out hn9 w1 hyw1.out).mono fun e w' h => by
      obtain ⟨v, h1, h2, h3⟩ := h
      exact ⟨_, h1, own_bytes h2, h3⟩) ?_
    rintro hv w2 ⟨hby, hb⟩
    simp only [Act.put, fl1, fl2, fl3]
    have hBw2 : Hid (Below w.heap.size w w2) := hBw1.out.trans ((hb).mono (hBw1.out).size)
    have hyw2 : Hid (Rw 35 encE w2 (.slice A n c) l) := (hyw1.out).below hb
    clear hBw1 hyw1
    have hbH : Hid (Bytes w2 hv (headP m l n)) := hby
    clear hb hby
    refine sl_run rfl (hv) w2 (by kernel_rfl) ?_
    simp only [Act.put, fl1, fl2, fl3]
    refine sl_run rfl (.int .i64 0) w2 (by kernel_rfl) ?_
    simp only [Act.put, fl1, fl2, fl3]
    refine wpList_nil ?_
    clear hyw2
    go_wp2_with fail
    go_ret2
    exact ⟨_, rfl, hbH.out, hBw2.out⟩
end Go.Proofs.YtadopkifpfmhcaaDoor
namespace Go.Proofs.YtadopkifpfmhcaaDoor
open Go.RowKit
open Sha (vals Bytes Lies bytesC sumB)
open Go.Proofs.YtadopkifpfmhcaaDoorW.PrintWords Go.Proofs.YtadopkifpfmhcaaDoorW.PrintLast Go.Proofs.YtadopkifpfmhcaaDoorW.PrintMore
/-- How a chain goes on, in memory. -/
structure Lk (w : World) (g o : Nat) (cut : Int) (hv : Value) (n : Int) : Prop where
  cut : w.cell? ⟨g, o, none⟩ = some (.int .i64 cut)
  head : w.cell? ⟨g, o + 1, none⟩ = some hv
  n : w.cell? ⟨g, o + 2, none⟩ = some (.int .i64 n)
  lt : g < w.heap.size
theorem Lk.below {w w' : World} {g o : Nat} {cut n : Int} {hv : Value} (h : Lk w g o cut hv n) (hb : Below w.heap.size w w') : Lk w' g o cut hv n :=
  ⟨by rw [hb.cell h.lt]; exact h.cut, by rw [hb.cell h.lt]; exact h.head, by rw [hb.cell h.lt]; exact h.n, by have := hb.size; have := h.lt; omega⟩
set_option maxRecDepth 100000 in
set_option maxHeartbeats 8000000 in
theorem text_calls (g o : Nat) (cut n : Int) (A : Option Addr) (m c : Nat) (h : List Nat) (hm : m = h.length) (hm9 : m ≤ 1000000) (e : En) (he : e.ok) (hn : n < 9223372036854775808) (w : World) (hl : Lk w g o cut (.slice A m c) n) (hb : Bytes w (.slice A m c) h) :
    Calls Tryd.prog 55 #[.pointer (some ⟨g, o, none⟩), .agg (encE e)] w fun z w' => ∃ v, z = .returned v ∧ w'.ownsRow w.heap.size 5 1 v (h ++ (bytesS n e).1).length (vals (h ++ (bytesS n e).1)) ∧ Below w.heap.size w w' := by
  have heH : Hid e.ok := he
  have hlH : Hid (Lk w g o cut (.slice A m c) n) := hl
  have hbH : Hid (Bytes w (.slice A m c) h) := hb
  have hmH : Hid (m = h.length) := hm
  obtain ⟨R, hR⟩ : ∃ R, R = bytesS n e := ⟨_, rfl⟩
  rw [← hR]
  obtain ⟨b, er⟩ := R
  have hbl : b.length ≤ 100000 := by
    have := @bytesS_len e n
    rw [← hR] at this
    exact this
  have hRH : Hid ((b, er) = bytesS n e) := hR
  clear he hl hb hR hm
  go_enter Tryd.func55, Tryd.ntmps55
  go_upto_region 1 with fail
  generalize hW : World.alloc _ _ = W
  have hW0 : W.heap[w.heap.size]? = some (.cells (encE e) 24 (0, 0)) := by rw [← hW]; exact heap_alloc_new _ _
  have hWB : Below w.heap.size w W := by rw [← hW]; exact (Below.refl _ _).alloc (Nat.le_refl _) _
  clear hW
  obtain ⟨B, hB⟩ : ∃ B, B = w.heap.size := ⟨_, rfl⟩
  rw [← hB] at hW0 ⊢
  have hSW : BS w B e W := ⟨hW0, hWB⟩
  clear hW0 hWB hB
  refine wp_normal ?_
  refine wp_region_held_drew (S := fun w' => BS w B e w') (by kernel_rfl) (hSW.below (Below.refl _ _).drew) (fun hS => ?_)
  change wpAnyH _ _ _ _ _ 11 (Array.replicate 11 false) _ _
  clear hSW
  generalize hx : W.drew = y0 at hS
  clear hx
  refine held_take 0 rfl (by kernel_rfl) (by kernel_rfl) (by kernel_rfl) (.pointer (some ⟨g, o, none⟩)) (fun _ _ _ h => nomatch h.1) (by kernel_rfl) (fun w' h => by kernel_rfl) hS ?_
  simp only [Act.put, fl1, fl2, fl3, fl4, fl5, fl6]
  refine held_take 1 rfl (by kernel_rfl) (by kernel_rfl) (by kernel_rfl) (.pointer (some ⟨g, o, none⟩)) (fun _ _ _ h => nomatch h.1) (by kernel_rfl) (fun w' h => by kernel_rfl) hS ?_
  simp only [Act.put, fl1, fl2, fl3, fl4, fl5, fl6]
  refine held_take 2 rfl (by kernel_rfl) (by kernel_rfl) (by kernel_rfl) (.pointer (some ⟨g, o + 2, none⟩)) (fun _ _ _ h => nomatch h.1) (by kernel_rfl) (fun w' h => by kernel_rfl) hS ?_
  simp only [Act.put, fl1, fl2, fl3, fl4, fl5, fl6]
  refine held_take 3 rfl (by kernel_rfl) (by kernel_rfl) (by kernel_rfl) (.int .i64 n) (fun _ _ _ h => nomatch h.1) (by kernel_rfl) (fun w' h => exec_load_cell 3 w' _ rfl ⟨g, o + 2, none⟩ (by kernel_rfl) _ (by rw [h.bel.cell hlH.out.lt]; exact hlH.out.n) (fun _ => by kernel_rfl)) hS ?_
  simp only [Act.put, fl1, fl2, fl3, fl4, fl5, fl6]
  refine held_take 4 rfl (by kernel_rfl) (by kernel_rfl) (by kernel_rfl) (.agg (encE e)) (fun _ _ _ h => nomatch h.1) (by kernel_rfl) (fun w' h => exec_load_row 24 w' _ rfl B (by kernel_rfl) 24 (encE e) (0, 0) _ h.box Tryd.underlying24 rfl (by rw [encE_size']; kernel_rfl)) hS ?_
  simp only [Act.put, fl1, fl2, fl3, fl4, fl5, fl6]
  refine held_call 5 rfl (by kernel_rfl) (by kernel_rfl) 11 #[.int .i64 n, .agg (encE e)] (by kernel_rfl) (R := fun v w' => ∃ bv, v = .tuple #[bv, .int .i64 (er : Int)] ∧ Bytes w' bv b ∧ Below y0.heap.size y0 w') ((chbytes_calls n hn e heH.out y0).mono fun z w' h => by
    obtain ⟨v, h1, h2, h3⟩ := h
    rw [← hRH.out] at h1 h2
    exact ⟨_, h1, v, rfl, h2, h3⟩) ?_
  rintro _ y1 ⟨bv, rfl, hby, hbn⟩
  have hS1 := hS.below hbn
  refine ⟨hS1, ?_⟩
  clear hS hbn
  have hS := hS1
  clear hS1
  simp only [Act.put, fl1, fl2, fl3, fl4, fl5, fl6]
  refine held_take 6 rfl (by kernel_rfl) (by kernel_rfl) (by kernel_rfl) (.tuple #[bv, .int .i64 (er : Int)]) (fun _ _ _ h => nomatch h.1) (by kernel_rfl) (fun w' h => by kernel_rfl) hS ?_
  simp only [Act.put, fl1, fl2, fl3, fl4, fl5, fl6]
  refine held_take 7 rfl (by kernel_rfl) (by kernel_rfl) (by kernel_rfl) (bv) (fun _ _ _ h => nomatch h.1) (by kernel_rfl) (fun w' h => by kernel_rfl) hS ?_
  simp only [Act.put, fl1, fl2, fl3, fl4, fl5, fl6]
  refine held_take 8 rfl (by kernel_rfl) (by kernel_rfl) (by kernel_rfl) (.int .i64 (er : Int)) (fun _ _ _ h => nomatch h.1) (by kernel_rfl) (fun w' h => by kernel_rfl) hS ?_
  simp only [Act.put, fl1, fl2, fl3, fl4, fl5, fl6]
  refine held_take 9 rfl (by kernel_rfl) (by kernel_rfl) (by kernel_rfl) (bv) (fun _ _ _ h => nomatch h.1) (by kernel_rfl) (fun w' h => by kernel_rfl) hS ?_
  simp only [Act.put, fl1, fl2, fl3, fl4, fl5, fl6]
  refine held_take 10 rfl (by kernel_rfl) (by kernel_rfl) (by kernel_rfl) (.int .i64 (er : Int)) (fun _ _ _ h => nomatch h.1) (by kernel_rfl) (fun w' h => by kernel_rfl) hS ?_
  simp only [Act.put, fl1, fl2, fl3, fl4, fl5, fl6]
  refine wpAnyH_done (by kernel_rfl) ?_ _
  refine ⟨rfl, ?_⟩
  rename_i hK
  refine hK _ _ ?_
  clear hK
  have hBy1 : Hid (Below w.heap.size w y1) := hS.bel
  have hly1 : Hid (Lk y1 g o cut (.slice A m c) n) := hlH.out.below hS.bel
  have hhy1 : Hid (Bytes y1 (.slice A m c) h) := hbH.out.below hS.bel
  have hvy1 : Hid (Bytes y1 bv b) := hby
  clear hS hby hlH hbH hRH
  go_upto_region 2 with fail
  refine wp_region_lit ?_
  have SZ : Hid (w.heap.size ≤ y1.heap.size) := hBy1.out.size
  refine sl_run rfl (.pointer (some ⟨g, o, none⟩)) y1 (by kernel_rfl) ?_
  simp only [Act.put, fl1, fl2, fl3]
  refine sl_run rfl (.pointer (some ⟨g, o, none⟩)) y1 (by kernel_rfl) ?_
  simp only [Act.put, fl1, fl2, fl3]
  refine sl_run rfl (.pointer (some ⟨g, o + 1, none⟩)) y1 (by kernel_rfl) ?_
  simp only [Act.put, fl1, fl2, fl3]
  refine sl_run rfl (.slice A m c) y1 (exec_load_cell 25 _ _ rfl ⟨g, o + 1, none⟩ (by kernel_rfl) _ hly1.out.head (fun _ => by kernel_rfl)) ?_
  simp only [Act.put, fl1, fl2, fl3]
  refine sg_call (by kernel_rfl) 44 #[.slice A m c] (by kernel_rfl) (R := fun v w' => w'.ownsRow y1.heap.size 5 1 v h.length (vals h) ∧ Below y1.heap.size y1 w') ((clone_calls h A m c y1 hmH.out (by omega) hhy1.out).mono fun z w' h => by
    obtain ⟨v, h1, h2, h3⟩ := h
    exact ⟨_, h1, h2, h3⟩) ?_
  rintro cv y2 ⟨hown, hb⟩
  simp only [Act.put, fl1, fl2, fl3]
  have hsz : y1.heap.size ≤ y2.heap.size := hb.size
  have hBy2 : Hid (Below w.heap.size w y2) := hBy1.out.trans ((hb).mono (hBy1.out).size)
  have hvy2 : Hid (Bytes y2 bv b) := (hvy1.out).below hb
  clear hBy1 hvy1
  clear hb
  refine sl_run rfl (bv) y2 (by kernel_rfl) ?_
  simp only [Act.put, fl1, fl2, fl3]
  refine Sha.append22 rfl _ _ rfl y1.heap.size cv h b (by kernel_rfl) hown bv (by kernel_rfl) hvy2.out (by have := hmH.out; omega) hsz ?_
  intro dv y3 hown3 hgr _
  simp only [Act.put, fl1, fl2, fl3]
  have hF : Hid (y3.ownsRow w.heap.size 5 1 dv (h ++ b).length (vals (h ++ b)) ∧ Below w.heap.size w y3) := ⟨own_mono hown3 SZ.out, hBy2.out.grown hgr hBy2.out.size (fun q hq => by have := (hown.lt q hq).1; have := SZ.out; omega)⟩
  clear hown hown3 hgr hBy2 hvy2 hsz
  refine sl_run rfl (dv) y3 (by kernel_rfl) ?_
  simp only [Act.put, fl1, fl2, fl3]
  refine wpList_nil ?_
  clear hly1 hhy1 SZ
  go_wp2_with fail
  go_ret
  exact ⟨_, rfl, hF.out.1, hF.out.2⟩
end Go.Proofs.YtadopkifpfmhcaaDoor
namespace Go.Proofs.YtadopkifpfmhcaaDoor
open Go.RowKit
open Sha (vals Bytes Lies bytesC sumB)
open Go.Proofs.YtadopkifpfmhcaaDoorW.PrintWords Go.Proofs.YtadopkifpfmhcaaDoorW.PrintLast Go.Proofs.YtadopkifpfmhcaaDoorW.PrintMore
/-- All is as it was but block g. -/
structure Kp (w : World) (g : Nat) (w' : World) : Prop where
  os : w'.os = w.os
  tape : w'.tape = w.tape
  output : w'.output = w.output
  size : w.heap.size ≤ w'.heap.size
  block : ∀ k, k < w.heap.size → k ≠ g → w'.heap[k]? = w.heap[k]?
theorem Kp.of {w w' : World} {g : Nat} (h : Below w.heap.size w w') : Kp w g w' := ⟨h.os, h.tape, h.output, h.size, fun k hk _ => h.block k hk⟩
theorem Kp.below {w w' w2 : World} {g : Nat} (h : Kp w g w') (hb : Below w'.heap.size w' w2) : Kp w g w2 := ⟨hb.os.trans h.os, hb.tape.trans h.tape, hb.output.trans h.output, Nat.le_trans h.size hb.size, fun k hk hne => (hb.block k (Nat.lt_of_lt_of_le hk h.size)).trans (h.block k hk hne)⟩
theorem Kp.set {w w' : World} {g : Nat} (h : Kp w g w') (k : Nat) (v : Value) : Kp w g (w'.setCell ⟨g, k, none⟩ v) :=
  ⟨h.os, h.tape, h.output, by simpa [World.setCell] using h.size, fun j hj hne => (Below.heap_setCell w' ⟨g, k, none⟩ v j hne).trans (h.block j hj hne)⟩
theorem cell_row {w : World} {g k : Nat} {cs : Array Value} {t : TypeId} {fr : Nat × Nat} {v : Value} (h : w.heap[g]? = some (.cells cs t fr)) (hc : cs[k]? = some v) : w.cell? ⟨g, k, none⟩ = some v := by
  rw [cell_of_row _ _ _ _ _ _ h]; exact hc
theorem exec_add2 {o : Oper} {a : Act} (x y : Operand) (ho : o.op = .binOp .add 3 x y 3) (u v : Int) (hx : a.eval x = .int .i64 u) (hy : a.eval y = .int .i64 v) (h0 : 0 ≤ u + v) (h1 : u + v ≤ 9223372036854775807) (w : World) : (execOp a.eval o).run Tryd.prog w = .ok (.value (.int .i64 (u + v))) w := by
  unfold execOp
  have hw : IntKind.i64.wrap (u + v) = u + v := by rw [IntKind.wrap_i64]; omega
  simp [ho, hx, hy, eqGuard, binOp_add, Op.intArith, hw]
theorem exec_slice22h {o : Oper} {a : Act} (w : World) (x hi : Operand) (ho : o.op = .slice 22 x none (some hi) none) (D cut : Nat) (hx : a.eval x = .pointer (some ⟨D, 0, none⟩)) (hh : a.eval hi = .int .i64 (cut : Int)) (hc : cut ≤ 32) :
    (execOp a.eval o).run Tryd.prog w = .ok (.value (.slice (some ⟨D, 0, none⟩) cut 32)) w := by
  have un : Tryd.prog.underlying 22 = some (.array (Tryd.prog.arrayLen 22) (Tryd.prog.elem 22)) := by kernel_rfl
  have sz : ∀ w, (sizeOf (Tryd.prog.elem 22)).run Tryd.prog w = .ok 1 w := fun w => by kernel_rfl
  have al : Tryd.prog.arrayLen 22 = 32 := by kernel_rfl
  unfold execOp
  simp only [ho, Option.map_some, Option.map_none, hx, hh, Sem.run_bind, run_sliceAt_array_h w 22 ⟨D, 0, none⟩ un .i64 (cut : Int) (by omega) (by rw [al]; omega), sz, al, Result.andThen_ok, Sem.run_pure, slicedAt, Int.toNat_natCast, Nat.zero_mul, Nat.sub_zero, Addr.add_mid, Nat.add_zero]
  rfl
set_option maxRecDepth 100000 in
set_option maxHeartbeats 8000000 in
theorem link_calls (g o : Nat) (cs : Array Value) (t : TypeId) (cut n : Nat) (hc1 : 1 ≤ cut) (hc : cut ≤ 32) (hn : n ≤ 1000000000) (A : Option Addr) (m c : Nat) (h : List Nat) (hm : m = h.length) (hm9 : m ≤ 1000000) (hh : ∀ x ∈ h, x < 256) (e : En) (he : e.ok) (w : World)
    (hg : w.heap[g]? = some (.cells cs t (0, 0))) (h0 : cs[o]? = some (.int .i64 (cut : Int))) (h1 : cs[o + 1]? = some (.slice A m c)) (h2 : cs[o + 2]? = some (.int .i64 (n : Int))) (hb : Bytes w (.slice A m c) h) :
    Calls Tryd.prog 39 #[.pointer (some ⟨g, o, none⟩), .agg (encE e)] w fun z w' => z = .returned (.tuple #[]) ∧ ∃ hv, w'.heap[g]? = some (.cells ((cs.setIfInBounds (o + 1) hv).setIfInBounds (o + 2) (.int .i64 ((n + 1 : Nat) : Int))) t (0, 0)) ∧ w'.ownsRow w.heap.size 5 1 hv ((sumB (h ++ (bytesS (n : Int) e).1)).take cut).length (vals ((sumB (h ++ (bytesS (n : Int) e).1)).take cut)) ∧ Kp w g w' := by
  have heH : Hid e.ok := he
  have hgH : Hid (w.heap[g]? = some (.cells cs t (0, 0))) := hg
  have h0H : Hid (cs[o]? = some (.int .i64 (cut : Int))) := h0
  have h1H : Hid (cs[o + 1]? = some (.slice A m c)) := h1
  have h2H : Hid (cs[o + 2]? = some (.int .i64 (n : Int))) := h2
  have hbH : Hid (Bytes w (.slice A m c) h) := hb
  have hmH : Hid (m = h.length) := hm
  have hgl : Hid (g < w.heap.size) := (Array.getElem?_eq_some_iff.1 hg).1
  obtain ⟨M, hM⟩ : ∃ M, M = h ++ (bytesS (n : Int) e).1 := ⟨_, rfl⟩
  rw [← hM]
  have hMlt : ∀ j, M.getD j 0 < 256 := getD_of (by
    rw [hM]; intro z hz
    rcases List.mem_append.1 hz with q | q
    · exact hh z q
    · exact bytesS_lt he _ z q)
  have hMl : M.length ≤ 2000000 := by
    have := @bytesS_len e (n : Int)
    rw [hM, List.length_append]; omega
  have hMH : Hid (M = h ++ (bytesS (n : Int) e).1) := hM
  clear he hg h0 h1 h2 hb hm hM hh
  go_enter Tryd.func39, Tryd.ntmps39
  go_upto_region 1 with fail
  generalize hW : World.alloc _ _ = W
  have hW0 : W.heap[w.heap.size]? = some (.cells (encE e) 24 (0, 0)) := by rw [← hW]; exact heap_alloc_new _ _
  have hWB : Below w.heap.size w W := by rw [← hW]; exact (Below.refl _ _).alloc (Nat.le_refl _) _
  clear hW
  obtain ⟨B, hB⟩ : ∃ B, B = w.heap.size := ⟨_, rfl⟩
  rw [← hB] at hW0 ⊢
  have hSW : Hid (BS w B e W) := ⟨hW0, hWB⟩
  clear hW0 hWB hB
  refine wp_region_lit ?_
  refine sl_run rfl (.pointer (some ⟨g, o, none⟩)) W (by kernel_rfl) ?_
  simp only [Act.put, fl1, fl2, fl3]
  refine sg_run (by kernel_rfl) (.agg (encE e)) W (exec_load_row 24 W _ rfl B (by kernel_rfl) 24 (encE e) (0, 0) _ hSW.out.box Tryd.underlying24 rfl (by rw [encE_size']; kernel_rfl)) ?_
  simp only [Act.put, fl1, fl2, fl3]
  have hlW : Lk W g o cut (.slice A m c) n := Lk.below ⟨cell_row hgH.out h0H.out, cell_row hgH.out h1H.out, cell_row hgH.out h2H.out, hgl.out⟩ hSW.out.bel
  refine sg_call (by kernel_rfl) 55 #[.pointer (some ⟨g, o, none⟩), .agg (encE e)] (by kernel_rfl) (R := fun v w' => Bytes w' v M ∧ Below W.heap.size W w') ((text_calls g o cut n A m c h hmH.out hm9 e heH.out (by omega) W hlW (hbH.out.below hSW.out.bel)).mono fun z w' q => by
    obtain ⟨v, q1, q2, q3⟩ := q
    have q2 := own_bytes q2
    rw [← hMH.out] at q2
    exact ⟨_, q1, q2, q3⟩) ?_
  rintro tv w1 ⟨hty, hb⟩
  simp only [Act.put, fl1, fl2, fl3]
  have hSw1 : Hid (BS w B e w1) := (hSW.out).below hb
  clear hSW
  clear hb hlW
  obtain ⟨S, hS⟩ : ∃ S, S = sumB M := ⟨_, rfl⟩
  have hSH : Hid (S = sumB M) := hS
  have hSl : S.length = 32 := by rw [hS, Sha.sumB_length]
  refine sg_call (by kernel_rfl) 30 #[tv] (by kernel_rfl) (R := fun v w' => v = .agg (bytesC S) ∧ Below w1.heap.size w1 w') ((Sha.one_calls M hMlt (by omega) tv w1 hty).mono fun z w' q => ⟨_, q.1, by rw [hS], q.2⟩) ?_
  rintro _ w2 ⟨rfl, hb⟩
  simp only [Act.put, fl1, fl2, fl3]
  have hSw2 : Hid (BS w B e w2) := (hSw1.out).below hb
  clear hSw1
  clear hb hty
  refine sg_run (by kernel_rfl) (.pointer (some ⟨w2.heap.size, 0, none⟩)) (w2.alloc (.cells (bytesC (Sha.zeros 32)) 22)) (by kernel_rfl) ?_
  simp only [Act.put, fl1, fl2, fl3]
  refine wpList_store_row rfl 22 _ _ rfl w2.heap.size (bytesC S) (by kernel_rfl) (by kernel_rfl) 22 _ (heap_alloc_new _ _) (by rw [Sha.bytesC_size, hSl]; kernel_rfl) (by rw [Sha.bytesC_size, Sha.bytesC_size, hSl]; rfl) (Sha.bytesC_one _) ?_
  simp only [Act.put, fl1, fl2, fl3]
  refine wpList_nil ?_
  have hD0 : ((w2.alloc (.cells (bytesC (Sha.zeros 32)) 22)).setRow w2.heap.size (bytesC S)).heap[w2.heap.size]? = some (.cells (bytesC S) 22 (0, 0)) := setRow_heap _ _ _ (bytesC S) _ _ (heap_alloc_new _ _)
  have hDB : Below w2.heap.size w2 ((w2.alloc (.cells (bytesC (Sha.zeros 32)) 22)).setRow w2.heap.size (bytesC S)) := below_setRow ((Below.refl _ _).alloc (Nat.le_refl _) _) (Nat.le_refl _) _
  obtain ⟨D, hDd⟩ : ∃ D, D = w2.heap.size := ⟨_, rfl⟩
  rw [← hDd] at hD0 ⊢
  have hDB2 : Below w2.heap.size w2 ((w2.alloc (.cells (bytesC (Sha.zeros 32)) 22)).setRow D (bytesC S)) := by rw [hDd]; exact hDB
  clear hDd hDB
  generalize World.setRow _ _ _ = w3 at hD0 hDB2 ⊢
  have hBw3 : Hid (Below w.heap.size w w3) := hSw2.out.bel.trans (hDB2.mono hSw2.out.bel.size)
  have hDw3 : Hid (Bytes w3 (.slice (some ⟨D, 0, none⟩) cut 32) (S.take cut)) := .inr ⟨D, 0, 32, by rw [List.length_take, hSl, Nat.min_eq_left hc], by rw [List.length_take]; omega, (Array.getElem?_eq_some_iff.1 hD0).1, fun j hj => by
    rw [List.length_take] at hj
    rw [cell_of_row _ _ _ _ _ _ hD0, Nat.zero_add, Sha.bytesC_get S j (by omega)]
    simp [List.getD_eq_getElem?_getD, List.getElem?_take, show j < cut by omega]⟩
  have hgw3 : Hid (w3.heap[g]? = some (.cells cs t (0, 0))) := heap_kept hgH.out hBw3.out
  clear hD0 hDB2 hSw2
  go_upto_region 2 with fail
  refine wp_region_lit ?_
  refine sl_run rfl (.pointer (some ⟨g, o, none⟩)) w3 (by kernel_rfl) ?_
  simp only [Act.put, fl1, fl2, fl3]
  refine sl_run rfl (.pointer (some ⟨g, o, none⟩)) w3 (by kernel_rfl) ?_
  simp only [Act.put, fl1, fl2, fl3]
  refine sl_run rfl (.pointer (some ⟨g, o, none⟩)) w3 (by kernel_rfl) ?_
  simp only [Act.put, fl1, fl2, fl3]
  refine sl_run rfl (.pointer (some ⟨g, o, none⟩)) w3 (by kernel_rfl) ?_
  simp only [Act.put, fl1, fl2, fl3]
  refine sl_run rfl (.int .i64 (cut : Int)) w3 (exec_load_cell 3 _ _ rfl ⟨g, o, none⟩ (by kernel_rfl) _ (cell_row hgw3.out h0H.out) (fun _ => by kernel_rfl)) ?_
  simp only [Act.put, fl1, fl2, fl3]
  refine sl_run rfl (.slice (some ⟨D, 0, none⟩) cut 32) w3 (exec_slice22h _ _ _ rfl D cut (by kernel_rfl) (by kernel_rfl) hc) ?_
  simp only [Act.put, fl1, fl2, fl3]
  refine sg_call (by kernel_rfl) 44 #[.slice (some ⟨D, 0, none⟩) cut 32] (by kernel_rfl) (R := fun v w' => w'.ownsRow w3.heap.size 5 1 v (S.take cut).length (vals (S.take cut)) ∧ Below w3.heap.size w3 w') ((clone_calls (S.take cut) (some ⟨D, 0, none⟩) cut 32 w3 (by rw [List.length_take]; omega) (by omega) hDw3.out).mono fun z w' q => by
    obtain ⟨v, q1, q2, q3⟩ := q
    exact ⟨_, q1, q2, q3⟩) ?_
  rintro nv w4 ⟨hny, hb⟩
  have hnew : ∀ q, nv.ownBlock = some q → w3.heap.size ≤ q := fun q hq => (hny.lt q hq).1
  have hny := own_mono hny hBw3.out.size
  simp only [Act.put, fl1, fl2, fl3]
  have hgn : g < w3.heap.size := (Array.getElem?_eq_some_iff.1 hgw3.out).1
  have hgw4 : w4.heap[g]? = some (.cells cs t (0, 0)) := heap_kept hgw3.out hb
  have hBw4 : Below w.heap.size w w4 := hBw3.out.trans (hb.mono hBw3.out.size)
  clear hb hBw3 hDw3 hgw3
  obtain ⟨A9, c9, rfl⟩ := own_form hny
  refine sl_run rfl (.pointer (some ⟨g, o, none⟩)) w4 (by kernel_rfl) ?_
  simp only [Act.put, fl1, fl2, fl3]
  refine sl_run rfl (.pointer (some ⟨g, o + 1, none⟩)) w4 (by kernel_rfl) ?_
  simp only [Act.put, fl1, fl2, fl3]
  refine wpList_store_cell rfl 25 _ _ rfl g (o + 1) (by kernel_rfl) (.slice A9 (S.take cut).length c9) (by kernel_rfl) _ (cell_row hgw4 h1H.out) (frozen_of_row _ _ _ _ _ hgw4) (fun _ => by kernel_rfl) rfl rfl ?_
  simp only [Act.put, fl1, fl2, fl3]
  refine wpList_nil ?_
  obtain ⟨nv, hnv⟩ : ∃ v, v = Value.slice A9 (S.take cut).length c9 := ⟨_, rfl⟩
  have hgw5 : Hid ((w4.setCell ⟨g, o + 1, none⟩ (.slice A9 (S.take cut).length c9)).heap[g]? = some (.cells (cs.setIfInBounds (o + 1) nv) t (0, 0))) := by rw [hnv]; exact heap_setCell_same w4 g (o + 1) cs t _ hgw4
  have hKw5 : Hid (Kp w g (w4.setCell ⟨g, o + 1, none⟩ (.slice A9 (S.take cut).length c9))) := (Kp.of hBw4).set (o + 1) _
  have hNw5 : Hid ((w4.setCell ⟨g, o + 1, none⟩ (.slice A9 (S.take cut).length c9)).ownsRow w.heap.size 5 1 nv (S.take cut).length (vals (S.take cut))) := by
    show World.ownsRow _ _ _ _ _ _ _
    rw [hnv]
    refine own_keep hny (fun q hq => Below.heap_setCell w4 ⟨g, o + 1, none⟩ _ q ?_)
    show q ≠ g
    have := hnew q hq
    omega
  have hnew2 : Hid (∀ q, nv.ownBlock = some q → q ≠ g) := by
    rw [hnv]; intro q hq; have := hnew q hq; omega
  clear hgw4 hBw4 hny hnv hnew hgn
  generalize World.setCell _ _ _ = w5 at hgw5 hKw5 hNw5 ⊢
  have h2c : Hid (w5.cell? ⟨g, o + 2, none⟩ = some (.int .i64 (n : Int))) := cell_row hgw5.out (by rw [Array.getElem?_setIfInBounds_ne (by omega)]; exact h2H.out)
  have hup : (n : Int) + 1 = ((n + 1 : Nat) : Int) := by omega
  go_upto_region 3 with fail
  refine wp_region_lit ?_
  refine sl_run rfl (.pointer (some ⟨g, o, none⟩)) w5 (by kernel_rfl) ?_
  simp only [Act.put, fl1, fl2, fl3]
  refine sl_run rfl (.pointer (some ⟨g, o, none⟩)) w5 (by kernel_rfl) ?_
  simp only [Act.put, fl1, fl2, fl3]
  refine sl_run rfl (.pointer (some ⟨g, o + 2, none⟩)) w5 (by kernel_rfl) ?_
  simp only [Act.put, fl1, fl2, fl3]
  refine sl_run rfl (.int .i64 (n : Int)) w5 (exec_load_cell 3 _ _ rfl ⟨g, o + 2, none⟩ (by kernel_rfl) _ h2c.out (fun _ => by kernel_rfl)) ?_
  simp only [Act.put, fl1, fl2, fl3]
  refine sl_run rfl (.int .i64 ((n + 1 : Nat) : Int)) w5 ((exec_add2 _ _ rfl (n : Int) 1 (by kernel_rfl) (by kernel_rfl) (by omega) (by omega) w5).trans (by rw [hup])) ?_
  simp only [Act.put, fl1, fl2, fl3]
  refine sl_run rfl (.pointer (some ⟨g, o, none⟩)) w5 (by kernel_rfl) ?_
  simp only [Act.put, fl1, fl2, fl3]
  refine sl_run rfl (.pointer (some ⟨g, o + 2, none⟩)) w5 (by kernel_rfl) ?_
  simp only [Act.put, fl1, fl2, fl3]
  refine wpList_store_cell rfl 3 _ _ rfl g (o + 2) (by kernel_rfl) (.int .i64 ((n + 1 : Nat) : Int)) (by kernel_rfl) _ h2c.out (frozen_of_row _ _ _ _ _ hgw5.out) (fun _ => by kernel_rfl) rfl rfl ?_
  simp only [Act.put, fl1, fl2, fl3]
  refine wpList_nil ?_
  have hF : Hid (∃ hv, (w5.setCell ⟨g, o + 2, none⟩ (.int .i64 ((n + 1 : Nat) : Int))).heap[g]? = some (.cells ((cs.setIfInBounds (o + 1) hv).setIfInBounds (o + 2) (.int .i64 ((n + 1 : Nat) : Int))) t (0, 0)) ∧ (w5.setCell ⟨g, o + 2, none⟩ (.int .i64 ((n + 1 : Nat) : Int))).ownsRow w.heap.size 5 1 hv (S.take cut).length (vals (S.take cut)) ∧ Kp w g (w5.setCell ⟨g, o + 2, none⟩ (.int .i64 ((n + 1 : Nat) : Int)))) := ⟨nv, heap_setCell_same w5 g (o + 2) _ t _ hgw5.out, own_keep hNw5.out (fun q hq => Below.heap_setCell w5 ⟨g, o + 2, none⟩ _ q (hnew2.out q hq)), hKw5.out.set (o + 2) _⟩
  rw [hSH.out] at hF
  clear h2c hgw5 hKw5 hNw5 hup hnew2
  refine bodyPost_fall (v := .tuple #[]) (by kernel_rfl) (by kernel_rfl) ?_
  exact ⟨rfl, hF.out⟩
end Go.Proofs.YtadopkifpfmhcaaDoor
namespace Go.Proofs.YtadopkifpfmhcaaDoor
open Go.RowKit
open Sha (vals Bytes Lies bytesC sumB)
open Go.Proofs.YtadopkifpfmhcaaDoorW.PrintWords Go.Proofs.YtadopkifpfmhcaaDoorW.PrintLast Go.Proofs.YtadopkifpfmhcaaDoorW.PrintMore
theorem Kp.bel {w0 w w' : World} {B g : Nat} (hk : Kp w g w') (h : Below B w0 w) (hB : B ≤ g) (hs : B ≤ w.heap.size) : Below B w0 w' :=
  ⟨hk.os.trans h.os, hk.tape.trans h.tape, hk.output.trans h.output, Nat.le_trans h.size hk.size, fun k hlt => (hk.block k (by omega) (by omega)).trans (h.block k hlt)⟩
theorem begun_calls (m : Nat) (hm : m ≤ 32) (w : World) : Calls Tryd.prog 38 #[.int .i64 (m : Int)] w fun e w' => ∃ v, e = .returned (.agg #[.int .i64 (m : Int), v, .int .i64 0]) ∧ Bytes w' v (List.replicate m 0) ∧ Below w.heap.size w w' := by
  have hx : mx (m : Int) 0 = (m : Int) := by unfold mx; split <;> omega
  have hf : PA.chain_begun.f (m : Int) = some ((m : Int), ints (List.replicate m 0), 0) := by
    unfold PA.chain_begun.f
    rw [hx, if_pos (by omega), if_pos (by omega)]
    simp [ints]
  exact (PA.chain_begun.calls (m : Int) _ _ _ w hf).mono fun e w' h => by
    obtain ⟨v, h1, h2, h3⟩ := h
    exact ⟨v, h1, own_bytes (kd_own h2), h3⟩
structure HI (w0 : World) (D m : Nat) (l : List En) (i : Nat) (w : World) : Prop where
  row : ∃ hv : Value, w.heap[D]? = some (.cells #[.int .i64 (m : Int), hv, .int .i64 (i : Int)] 72 (0, 0)) ∧ Bytes w hv (headP m l i)
  bel : Below w0.heap.size w0 w
theorem HI.below {w0 w w' : World} {D m i : Nat} {l : List En} (h : HI w0 D m l i w) (hb : Below w.heap.size w w') : HI w0 D m l i w' := by
  obtain ⟨⟨hv, h1, h2⟩, h3⟩ := h
  exact ⟨⟨hv, heap_kept h1 hb, h2.below hb⟩, h3.trans (hb.mono h3.size)⟩
set_option maxRecDepth 100000 in
set_option maxHeartbeats 8000000 in
theorem Head_calls (cut : Int) (l : List En) (hok : ∀ x ∈ l, x.ok) (A : Option Addr) (n c : Nat) (hn : n = l.length) (hn9 : n ≤ 1000000) (w : World) (hy : Rw 35 encE w (.slice A n c) l) :
    Calls Tryd.prog 16 #[.int .i64 cut, .slice A n c] w fun e w' => ∃ v, e = .returned (.tuple #[v, .int .i64 ((headS cut l).2 : Int)]) ∧ Bytes w' v (headS cut l).1 ∧ Below w.heap.size w w' := by
  have hn' : Hid (n = l.length) := hn
  have hyw : Hid (Rw 35 encE w (.slice A n c) l) := hy
  have hBw : Hid (Below w.heap.size w w) := Below.refl _ _
  have hokH : Hid (∀ x ∈ l, x.ok) := hok
  obtain ⟨R, hR⟩ : ∃ R, R = headS cut l := ⟨_, rfl⟩
  rw [← hR]
  obtain ⟨lr, er⟩ := R
  have hRH : Hid ((lr, er) = headS cut l) := hR
  clear hn hy hok hR
  go_enter Tryd.func16, Tryd.ntmps16
  go_upto_region 1 with fail
  refine wp_region_lit ?_
  obtain ⟨rb, hrb⟩ : ∃ b, b = rightS cut l := ⟨_, rfl⟩
  refine sl_run rfl (.int .i64 cut) w (by kernel_rfl) ?_
  simp only [Act.put, fl1, fl2, fl3]
  refine sl_run rfl (.slice A n c) w (by kernel_rfl) ?_
  simp only [Act.put, fl1, fl2, fl3]
  refine sg_call (by kernel_rfl) 37 #[.int .i64 cut, .slice A n c] (by kernel_rfl) (R := fun v w' => v = .bool rb ∧ Below w.heap.size w w') ((right_calls cut l A n c hn'.out (by omega) w hyw.out).mono fun e w' h => ⟨_, h.1, by rw [hrb], h.2⟩) ?_
  rintro _ w1 ⟨rfl, hb⟩
  simp only [Act.put, fl1, fl2, fl3]
  have hBw1 : Hid (Below w.heap.size w w1) := hBw.out.trans ((hb).mono (hBw.out).size)
  clear hBw
  clear hb
  refine sl_run rfl (.bool (!rb)) w1 (by kernel_rfl) ?_
  simp only [Act.put, fl1, fl2, fl3]
  refine wpList_nil ?_
  cases rb with
  | false =>
    have hs : headS cut l = ([], 1) := by unfold headS; rw [if_neg (by rw [← hrb]; decide)]
    have hq := hRH.out
    rw [hs] at hq
    injection hq with q1 q2
    subst q1 q2
    clear hRH hs hyw hrb
    go_wp2_with fail
    go_ret2
    exact ⟨_, rfl, .inl ⟨none, 0, rfl, rfl, fun _ => rfl⟩, hBw1.out⟩
  | true =>
    have hs : headS cut l = (headP cut.toNat l n, 0) := by unfold headS; rw [if_pos hrb.symm, hn'.out]
    have hq := hRH.out
    rw [hs] at hq
    injection hq with q1 q2
    subst q1 q2
    obtain ⟨hc1, hc2⟩ := right_cut hrb.symm
    obtain ⟨m, rfl⟩ : ∃ m : Nat, cut = (m : Int) := ⟨cut.toNat, by omega⟩
    have hm1 : 1 ≤ m := by omega
    have hm32 : m ≤ 32 := by omega
    clear hRH hs hrb hc1 hc2
    go_upto_region 3 with fail
    refine wp_region_lit ?_
    refine sl_run rfl (.int .i64 (m : Int)) w1 (by kernel_rfl) ?_
    simp only [Act.put, fl1, fl2, fl3]
    refine sg_call (by kernel_rfl) 38 #[.int .i64 (m : Int)] (by kernel_rfl) (R := fun v w' => ∃ hv, v = .agg #[.int .i64 (m : Int), hv, .int .i64 0] ∧ Bytes w' hv (List.replicate m 0) ∧ Below w1.heap.size w1 w') ((begun_calls m hm32 w1).mono fun e w' h => by
      obtain ⟨v, h1, h2, h3⟩ := h
      exact ⟨_, h1, v, rfl, h2, h3⟩) ?_
    rintro _ w2 ⟨hv, rfl, hby, hb⟩
    simp only [Act.put, fl1, fl2, fl3]
    have hBw2 : Hid (Below w.heap.size w w2) := hBw1.out.trans ((hb).mono (hBw1.out).size)
    clear hBw1
    clear hb
    obtain ⟨A0, c0, rfl⟩ := hby.form
    refine sg_run (by kernel_rfl) (.pointer (some ⟨w2.heap.size, 0, none⟩)) (w2.alloc (.cells #[.int .i64 0, .slice none 0 0, .int .i64 0] 72)) (by kernel_rfl) ?_
    simp only [Act.put, fl1, fl2, fl3]
    refine wpList_store_row rfl 72 _ _ rfl w2.heap.size #[.int .i64 (m : Int), .slice A0 (List.replicate m 0).length c0, .int .i64 0] (by kernel_rfl) (by kernel_rfl) 72 _ (heap_alloc_new _ _) (by kernel_rfl) (by kernel_rfl) (by simp [Value.oneCell']) ?_
    simp only [Act.put, fl1, fl2, fl3]
    refine wpList_nil ?_
    have hD0 : ((w2.alloc (.cells #[.int .i64 0, .slice none 0 0, .int .i64 0] 72)).setRow w2.heap.size #[.int .i64 (m : Int), .slice A0 (List.replicate m 0).length c0, .int .i64 0]).heap[w2.heap.size]? = some (.cells #[.int .i64 (m : Int), .slice A0 (List.replicate m 0).length c0, .int .i64 0] 72 (0, 0)) := setRow_heap _ _ _ _ _ _ (heap_alloc_new _ _)
    have hDB : Below w2.heap.size w2 ((w2.alloc (.cells #[.int .i64 0, .slice none 0 0, .int .i64 0] 72)).setRow w2.heap.size #[.int .i64 (m : Int), .slice A0 (List.replicate m 0).length c0, .int .i64 0]) := below_setRow ((Below.refl _ _).alloc (Nat.le_refl _) _) (Nat.le_refl _) _
    obtain ⟨D, hDd⟩ : ∃ D, D = w2.heap.size := ⟨_, rfl⟩
    have hDw : Hid (w.heap.size ≤ D) := by show _ ≤ _; rw [hDd]; exact hBw2.out.size
    have hDB2 : Below w2.heap.size w2 ((w2.alloc (.cells #[.int .i64 0, .slice none 0 0, .int .i64 0] 72)).setRow D #[.int .i64 (m : Int), .slice A0 (List.replicate m 0).length c0, .int .i64 0]) := by rw [hDd]; exact hDB
    rw [← hDd] at hD0 ⊢
    clear hDd hDB
    generalize World.setRow _ _ _ = w3 at hD0 hDB2 ⊢
    have hHw3 : Hid (HI w D m l 0 w3) := ⟨⟨_, hD0, hby.below hDB2⟩, hBw2.out.trans (hDB2.mono hBw2.out.size)⟩
    clear hD0 hDB2 hby hBw2
    go_wp2_with fail
    go_loopw [17] (fun u wr => ∃ i : Nat, i ≤ n ∧ u = .int .i64 (i : Int) ∧ Hid (HI w D m l i wr)) (fun u _ => n - (intOf u).toNat)
    case atStart => exact ⟨0, by omega, rfl, hHw3⟩
    case round =>
      obtain ⟨i, hin, rfl, hH⟩ := hrel
      obtain ⟨wo, rfl⟩ : ∃ v : World, v = wr := ⟨_, rfl⟩
      clear hHw3
      by_cases hi : i < n
      · have hI : (i : Int) < (n : Int) := by omega
        obtain ⟨g, o, rfl, hnc, hg, hel⟩ := (hyw.out.below hH.out.bel).elem i (by rw [← hn'.out]; exact hi)
        obtain ⟨x, hx⟩ : ∃ x, x = l.getD i default := ⟨_, rfl⟩
        rw [← hx] at hel
        have hxH : Hid (x = l.getD i default) := hx
        have hxok : Hid x.ok := hokH.out x (by rw [hx]; have := hn'.out; simp [show i < l.length by omega])
        have helH : Hid (wo.rangeAt g (o + i * 35) (encE x).toList) := hel
        have hHwo : Hid (HI w D m l i wo) := hH
        clear hx hel hg hH
        go_upto_region 6 with fail
        refine wp_region_lit ?_
        refine sl_run rfl (.pointer (some ⟨g, o + i * 35, none⟩)) wo (exec_index un34 sz34 _ _ rfl g o n c i (by kernel_rfl) (by kernel_rfl) hi _) ?_
        simp only [Act.put, fl1, fl2, fl3]
        refine sl_run rfl (.agg (encE x)) wo (load_en _ _ rfl g (o + i * 35) (by kernel_rfl) x helH.out) ?_
        simp only [Act.put, fl1, fl2, fl3]
        refine sg_run (by kernel_rfl) (.pointer (some ⟨wo.heap.size, 0, none⟩)) (wo.alloc (.cells (encE default) 24)) (by kernel_rfl) ?_
        simp only [Act.put, fl1, fl2, fl3]
        refine wpList_store_row rfl 24 _ _ rfl wo.heap.size (encE x) (by kernel_rfl) (by kernel_rfl) 24 _ (heap_alloc_new _ _) (by rw [encE_size']; kernel_rfl) (by rw [encE_size', encE_size']) (encE_all x) ?_
        simp only [Act.put, fl1, fl2, fl3]
        refine wpList_nil ?_
        have hE0 : ((wo.alloc (.cells (encE default) 24)).setRow wo.heap.size (encE x)).heap[wo.heap.size]? = some (.cells (encE x) 24 (0, 0)) := setRow_heap _ _ _ _ _ _ (heap_alloc_new _ _)
        have hb : Below wo.heap.size wo ((wo.alloc (.cells (encE default) 24)).setRow wo.heap.size (encE x)) := below_setRow ((Below.refl _ _).alloc (Nat.le_refl _) _) (Nat.le_refl _) _
        obtain ⟨E, hE⟩ : ∃ E, E = wo.heap.size := ⟨_, rfl⟩
        have hb2 : Below wo.heap.size wo ((wo.alloc (.cells (encE default) 24)).setRow E (encE x)) := by rw [hE]; exact hb
        rw [← hE] at hE0 ⊢
        clear hE hb helH
        generalize World.setRow _ _ _ = z1 at hE0 hb2 ⊢
        have hHz1 : Hid (HI w D m l i z1) := hHwo.out.below hb2
        have hEz1 : Hid (z1.heap[E]? = some (.cells (encE x) 24 (0, 0))) := hE0
        clear hE0 hb2 hHwo
        go_upto_region 7 with fail
        refine wp_region_lit ?_
        refine sg_run (by kernel_rfl) (.agg (encE x)) z1 (exec_load_row 24 z1 _ rfl E (by kernel_rfl) 24 (encE x) (0, 0) _ hEz1.out Tryd.underlying24 rfl (by rw [encE_size']; kernel_rfl)) ?_
        simp only [Act.put, fl1, fl2, fl3]
        obtain ⟨⟨hv, hrow, hbyt⟩, hbel⟩ := hHz1.out
        obtain ⟨A1, c1, rfl⟩ := hbyt.form
        refine sg_call (by kernel_rfl) 39 #[.pointer (some ⟨D, 0, none⟩), .agg (encE x)] (by kernel_rfl) (R := fun v w' => v = .tuple #[] ∧ HI w D m l (i + 1) w') ((link_calls D 0 _ 72 m i hm1 hm32 (by omega) A1 _ c1 (headP m l i) rfl (by rw [headP_len hm32]; omega) (headP_lt m l i) x hxok.out z1 hrow rfl rfl rfl hbyt).mono fun e w' h => by
          obtain ⟨q1, hv2, q2, q3, q4⟩ := h
          exact ⟨_, q1, rfl, ⟨⟨hv2, q2, by rw [headP, ← hxH.out]; exact own_bytes q3⟩, q4.bel hbel hDw.out hbel.size⟩⟩) ?_
        rintro _ z2 ⟨rfl, hHn⟩
        simp only [Act.put, fl1, fl2, fl3]
        have hHz2 : Hid (HI w D m l (i + 1) z2) := hHn
        clear hHn hrow hbyt hbel hHz1 hEz1
        refine wpList_nil ?_
        clear hxH hxok
        go_wp2_with fail
        go_roundw
        case rel => exact ⟨i + 1, by omega, by go_num, hHz2⟩
        case measure => simp [intOf]; omega
      · have hI : ¬ (i : Int) < (n : Int) := by omega
        obtain rfl : i = n := by omega
        obtain ⟨⟨hv, hrow, hbyt⟩, hbel⟩ := hH.out
        have hF : Hid (Bytes wo hv (headP m l i) ∧ Below w.heap.size w wo) := ⟨hbyt, hbel⟩
        have hc1 : wo.cell? ⟨D, 1, none⟩ = some hv := cell_row hrow rfl
        clear hH hrow hbyt hbel
        go_wp2_with fail
        go_ret2
        exact ⟨_, rfl, hF.out.1, hF.out.2⟩
end Go.Proofs.YtadopkifpfmhcaaDoor
namespace Go.Proofs.YtadopkifpfmhcaaDoor
open Go.RowKit
open Sha (vals Bytes Lies bytesC sumB)
open Go.Proofs.YtadopkifpfmhcaaDoorW.PrintWords Go.Proofs.YtadopkifpfmhcaaDoorW.PrintLast Go.Proofs.YtadopkifpfmhcaaDoorW.PrintMore
theorem bytes_kd {w : World} {A : Option Addr} {n c : Nat} {l : List Nat} (hl : l.length ≤ 140737488355327) (h : Bytes w (.slice A n c) l) : n = l.length ∧ n ≤ c ∧ Kd.C (Kd.int .u8) w A l.length (ints l) := by
  rcases h with ⟨A', c', h0, rfl, _⟩ | ⟨g, o, c', h0, h1, h2, h3⟩
  · injection h0 with q1 q2 q3
    subst q2
    exact ⟨rfl, Nat.zero_le _, ⟨rfl, Nat.zero_le _, fun h => by cases h⟩⟩
  · injection h0 with q1 q2 q3
    subst q1 q2 q3
    refine ⟨rfl, h1, ⟨ints_len l, by omega, fun _ => ⟨_, rfl, fun j p hp => ?_⟩⟩⟩
    have hj : j < l.length := by rw [← ints_len]; exact (List.getElem?_eq_some_iff.1 hp).1
    refine ⟨[.int .u8 p], rfl, rfl, fun i u hu => ?_⟩
    have hi : i = 0 := by
      have : i < 1 := (List.getElem?_eq_some_iff.1 hu).1
      omega
    subst hi
    have hc := h3 j hj
    have e : p = ((l.getD j 0 : Nat) : Int) := by
      have : (ints l)[j]? = some ((l.getD j 0 : Nat) : Int) := by simp [ints, hj]
      rw [this] at hp; exact (Option.some.inj hp).symm
    have hz : (Kd.int .u8).sz = 1 := rfl
    rw [hz, Nat.mul_one, Nat.add_zero, Addr.add_mid, hc, ← e]
    exact hu
theorem strs (l : List Int) : (strOfNums l).data.toList = l.map fun x => UInt8.ofNat x.toNat := by simp [strOfNums]
theorem str_back {a : List Nat} (h : ∀ x ∈ a, x < 256) : (strOfNums (ints a)).toList.map UInt8.toNat = a := by
  rw [ByteArray.toList_eq, strs, ints, List.map_map, List.map_map]
  refine (List.map_congr_left (g := id) fun x hx => ?_).trans (List.map_id _)
  have := h x hx
  simp [Function.comp, Nat.mod_eq_of_lt this]
theorem equal_calls (a b : List Nat) (ha : ∀ x ∈ a, x < 256) (hb : ∀ x ∈ b, x < 256) (hla : a.length ≤ 140737488355327) (hlb : b.length ≤ 140737488355327) (u v : Value) (w : World) (hu : Bytes w u a) (hv : Bytes w v b) :
    Calls Tryd.prog 42 #[u, v] w fun e w' => e = .returned (.bool (decide (a = b))) ∧ Below w.heap.size w w' := by
  obtain ⟨A, c, rfl⟩ := hu.form
  obtain ⟨A2, c2, rfl⟩ := hv.form
  obtain ⟨_, h1, h2⟩ := bytes_kd hla hu
  obtain ⟨_, h3, h4⟩ := bytes_kd hlb hv
  have hf : PA.bytes_Equal.f (ints a) (ints b) = some (decide (a = b)) := by
    unfold PA.bytes_Equal.f
    congr 1
    rw [Bool.eq_iff_iff, beq_iff_eq, decide_eq_true_iff]
    exact ⟨fun h => by rw [← str_back ha, h, str_back hb], fun h => by rw [h]⟩
  have := PA.bytes_Equal.calls A c (ints a) A2 c2 (ints b) _ w (by rw [ints_len]; exact h2) (by rw [ints_len]; exact h1) (by rw [ints_len]; exact h4) (by rw [ints_len]; exact h3) hf
  rw [ints_len, ints_len] at this
  exact this.mono fun e w' h => ⟨h.1, h.2.below⟩
end Go.Proofs.YtadopkifpfmhcaaDoor
namespace Go.Proofs.YtadopkifpfmhcaaDoor
open Go.RowKit
open Sha (vals Bytes Lies bytesC sumB)
open Go.Proofs.YtadopkifpfmhcaaDoorW.PrintWords Go.Proofs.YtadopkifpfmhcaaDoorW.PrintLast Go.Proofs.YtadopkifpfmhcaaDoorW.PrintMore
def verS (cut : Int) (l : List En) (q : List Nat) : Nat := if (headS cut l).2 = 0 ∧ (headS cut l).1 ≠ q then 23 else (headS cut l).2
theorem headS_fine (cut : Int) (l : List En) : (∀ x ∈ (headS cut l).1, x < 256) ∧ (headS cut l).1.length ≤ 32 := by
  unfold headS
  split
  · rename_i h
    have := right_cut h
    exact ⟨headP_lt _ _ _, by rw [headP_len (by omega)]; omega⟩
  · exact ⟨fun x hx => (List.not_mem_nil hx).elim, by simp⟩
set_option maxRecDepth 100000 in
set_option maxHeartbeats 4000000 in
theorem Verify_calls (cut : Int) (l : List En) (hok : ∀ x ∈ l, x.ok) (A : Option Addr) (n c : Nat) (hn : n = l.length) (hn9 : n ≤ 1000000) (q : List Nat) (hq : ∀ x ∈ q, x < 256) (hql : q.length ≤ 140737488355327) (u : Value) (w : World) (hy : Rw 35 encE w (.slice A n c) l) (hu : Bytes w u q) :
    Calls Tryd.prog 18 #[.int .i64 cut, .slice A n c, u] w fun e w' => e = .returned (.int .i64 (verS cut l q : Int)) ∧ Below w.heap.size w w' := by
  have hyH : Hid (Rw 35 encE w (.slice A n c) l) := hy
  have huw : Hid (Bytes w u q) := hu
  have hBw : Hid (Below w.heap.size w w) := Below.refl _ _
  have hfine := headS_fine cut l
  obtain ⟨V, hV⟩ : ∃ V, V = verS cut l q := ⟨_, rfl⟩
  rw [← hV]
  unfold verS at hV
  obtain ⟨R, hR⟩ : ∃ R, R = headS cut l := ⟨_, rfl⟩
  rw [← hR] at hV hfine
  have hRH : Hid (R = headS cut l) := hR
  obtain ⟨lr, er⟩ := R
  simp only at hV hfine
  obtain ⟨hlt, hll⟩ := hfine
  have hVH : Hid (V = if er = 0 ∧ lr ≠ q then 23 else er) := hV
  clear hy hu hR hV
  go_enter Tryd.func18, Tryd.ntmps18
  go_upto_region 1 with fail
  refine wp_region_lit ?_
  refine sl_run rfl (.int .i64 cut) w (by kernel_rfl) ?_
  simp only [Act.put, fl1, fl2, fl3]
  refine sl_run rfl (.slice A n c) w (by kernel_rfl) ?_
  simp only [Act.put, fl1, fl2, fl3]
  refine sg_call (by kernel_rfl) 16 #[.int .i64 cut, .slice A n c] (by kernel_rfl) (R := fun v w' => ∃ hv, v = .tuple #[hv, .int .i64 (er : Int)] ∧ Bytes w' hv lr ∧ Below w.heap.size w w') ((Head_calls cut l hok A n c hn hn9 w hyH.out).mono fun e w' h => by
    obtain ⟨v, h1, h2, h3⟩ := h
    rw [← hRH.out] at h1 h2
    exact ⟨_, h1, v, rfl, h2, h3⟩) ?_
  rintro _ w1 ⟨hv, rfl, hby, hb⟩
  simp only [Act.put, fl1, fl2, fl3]
  have hBw1 : Hid (Below w.heap.size w w1) := hBw.out.trans ((hb).mono (hBw.out).size)
  have huw1 : Hid (Bytes w1 u q) := (huw.out).below hb
  clear hBw huw
  have hhw1 : Hid (Bytes w1 hv lr) := hby
  clear hb hby hRH hyH
  refine sl_run rfl (.tuple #[hv, .int .i64 (er : Int)]) w1 (by kernel_rfl) ?_
  simp only [Act.put, fl1, fl2, fl3]
  refine sl_run rfl (hv) w1 (by kernel_rfl) ?_
  simp only [Act.put, fl1, fl2, fl3]
  refine sl_run rfl (.int .i64 (er : Int)) w1 (by kernel_rfl) ?_
  simp only [Act.put, fl1, fl2, fl3]
  refine sl_run rfl (hv) w1 (by kernel_rfl) ?_
  simp only [Act.put, fl1, fl2, fl3]
  refine sl_run rfl (.int .i64 (er : Int)) w1 (by kernel_rfl) ?_
  simp only [Act.put, fl1, fl2, fl3]
  refine wpList_nil ?_
  go_upto_region 2 with fail
  refine wp_region_lit ?_
  by_cases h0 : er = 0
  case neg =>
    refine sl_run rfl (.int .i64 (er : Int)) w1 (by kernel_rfl) ?_
    simp only [Act.put, fl1, fl2, fl3]
    refine sl_run rfl (.bool false) w1 (exec_eqI 26 _ _ rfl (er : Int) 0 (by kernel_rfl) (by kernel_rfl) false (by rw [beq_eq_false_iff_ne]; omega)) ?_
    simp only [Act.put, fl1, fl2, fl3]
    refine sl_run rfl (.bool false) w1 (by kernel_rfl) ?_
    simp only [Act.put, fl1, fl2, fl3]
    refine wpList_skip ?hw ?_
    case hw => kernel_rfl
    simp only [Act.put, fl1, fl2, fl3]
    refine wpList_skip ?hw ?_
    case hw => kernel_rfl
    simp only [Act.put, fl1, fl2, fl3]
    refine wpList_skip ?hw ?_
    case hw => kernel_rfl
    simp only [Act.put, fl1, fl2, fl3]
    refine wpList_skip ?hw ?_
    case hw => kernel_rfl
    simp only [Act.put, fl1, fl2, fl3]
    refine sl_run rfl (.bool false) w1 (by kernel_rfl) ?_
    simp only [Act.put, fl1, fl2, fl3]
    refine wpList_nil ?_
    have hv2 : V = er := by rw [hVH.out, if_neg (fun h => h0 h.1)]
    subst hv2
    clear hVH huw1 hhw1
    go_wp2_with fail
    go_ret
    exact ⟨rfl, hBw1.out⟩
  case pos =>
    obtain ⟨same, hsame⟩ : ∃ b, b = decide (lr = q) := ⟨_, rfl⟩
    refine sl_run rfl (.int .i64 (er : Int)) w1 (by kernel_rfl) ?_
    simp only [Act.put, fl1, fl2, fl3]
    refine sl_run rfl (.bool true) w1 (exec_eqI 26 _ _ rfl (er : Int) 0 (by kernel_rfl) (by kernel_rfl) true (by rw [beq_iff_eq]; omega)) ?_
    simp only [Act.put, fl1, fl2, fl3]
    refine sl_run rfl (.bool true) w1 (by kernel_rfl) ?_
    simp only [Act.put, fl1, fl2, fl3]
    refine sg_run (by kernel_rfl) (hv) w1 (by kernel_rfl) ?_
    simp only [Act.put, fl1, fl2, fl3]
    refine sg_run (by kernel_rfl) (u) w1 (by kernel_rfl) ?_
    simp only [Act.put, fl1, fl2, fl3]
    refine sg_call (by kernel_rfl) 42 #[hv, u] (by kernel_rfl) (R := fun v w' => v = .bool same ∧ Below w1.heap.size w1 w') ((equal_calls lr q hlt hq (by omega) hql hv u w1 hhw1.out huw1.out).mono fun e w' h => ⟨_, h.1, by rw [hsame], h.2⟩) ?_
    rintro _ w2 ⟨rfl, hb⟩
    simp only [Act.put, fl1, fl2, fl3]
    have hBw2 : Hid (Below w.heap.size w w2) := hBw1.out.trans ((hb).mono (hBw1.out).size)
    have huw2 : Hid (Bytes w2 u q) := (huw1.out).below hb
    clear hBw1 huw1
    clear hb hhw1
    refine sg_run (by kernel_rfl) (.bool (!same)) w2 (by kernel_rfl) ?_
    simp only [Act.put, fl1, fl2, fl3]
    refine sl_run rfl (.bool (!same)) w2 (by kernel_rfl) ?_
    simp only [Act.put, fl1, fl2, fl3]
    refine wpList_nil ?_
    cases same with
    | true =>
      have hv2 : V = er := by rw [hVH.out, if_neg (fun h => h.2 (of_decide_eq_true hsame.symm))]
      subst hv2
      clear hVH huw2 hsame
      go_wp2_with fail
      go_ret
      exact ⟨rfl, hBw2.out⟩
    | false =>
      have hv2 : V = 23 := by rw [hVH.out, if_pos ⟨h0, of_decide_eq_false hsame.symm⟩]
      subst hv2
      clear hVH huw2 hsame
      go_wp2_with fail
      go_ret
      exact ⟨rfl, hBw2.out⟩
end Go.Proofs.YtadopkifpfmhcaaDoor
namespace Go.Proofs.YtadopkifpfmhcaaDoor
open Go.RowKit
open Sha (vals Bytes Lies bytesC sumB)
open Go.Proofs.YtadopkifpfmhcaaDoorW.PrintWords Go.Proofs.YtadopkifpfmhcaaDoorW.PrintLast Go.Proofs.YtadopkifpfmhcaaDoorW.PrintMore
/-- Blocks outside S are as they were. -/
structure KpS (S : Nat → Prop) (w w' : World) : Prop where
  os : w'.os = w.os
  tape : w'.tape = w.tape
  output : w'.output = w.output
  size : w.heap.size ≤ w'.heap.size
  block : ∀ k, k < w.heap.size → ¬ S k → w'.heap[k]? = w.heap[k]?
theorem KpS.of {S : Nat → Prop} {w w' : World} (h : Below w.heap.size w w') : KpS S w w' := ⟨h.os, h.tape, h.output, h.size, fun k hk _ => h.block k hk⟩
theorem KpS.kp {S : Nat → Prop} {g : Nat} {w w' : World} (h : Kp w g w') (hg : S g) : KpS S w w' := ⟨h.os, h.tape, h.output, h.size, fun k hk hn => h.block k hk (fun e => hn (e ▸ hg))⟩
theorem KpS.trans {S : Nat → Prop} {a b c : World} (h : KpS S a b) (k : KpS S b c) : KpS S a c :=
  ⟨k.os.trans h.os, k.tape.trans h.tape, k.output.trans h.output, Nat.le_trans h.size k.size, fun i hi hn => (k.block i (Nat.lt_of_lt_of_le hi h.size) hn).trans (h.block i hi hn)⟩
theorem KpS.mono {S T : Nat → Prop} {w w' : World} (h : KpS S w w') (hs : ∀ k, S k → T k) : KpS T w w' := ⟨h.os, h.tape, h.output, h.size, fun k hk hn => h.block k hk (fun q => hn (hs k q))⟩
theorem KpS.grown {S : Nat → Prop} {w w' w2 : World} {row : Option Nat} (h : KpS S w w') (hg : w'.grownBy w2 row) (hr : ∀ q, row = some q → S q ∨ w.heap.size ≤ q) : KpS S w w2 :=
  ⟨hg.os.trans h.os, hg.tape.trans h.tape, hg.output.trans h.output, Nat.le_trans h.size hg.size, fun k hk hn => (hg.block k (Nat.lt_of_lt_of_le hk h.size) (fun e => by
    rcases hr k e.symm with q | q
    · exact hn q
    · omega)).trans (h.block k hk hn)⟩
theorem KpS.set {S : Nat → Prop} {w w' : World} (h : KpS S w w') (g k : Nat) (v : Value) (hg : S g ∨ w.heap.size ≤ g) : KpS S w (w'.setCell ⟨g, k, none⟩ v) :=
  ⟨h.os, h.tape, h.output, by simpa [World.setCell] using h.size, fun j hj hne => (Below.heap_setCell w' ⟨g, k, none⟩ v j (fun e => by
    rcases hg with q | q
    · exact hne (by rw [e]; exact q)
    · have : j = g := e
      omega)).trans (h.block j hj hne)⟩
theorem KpS.bel {S : Nat → Prop} {B : Nat} {w w' : World} (h : KpS S w w') (hS : ∀ k, S k → B ≤ k) (hB : B ≤ w.heap.size) : Below B w w' :=
  ⟨h.os, h.tape, h.output, h.size, fun k hk => h.block k (by omega) (fun q => by have := hS k q; omega)⟩
theorem KpS.heap {S : Nat → Prop} {w w' : World} {g : Nat} {o : Obj} (h : KpS S w w') (hg : w.heap[g]? = some o) (hn : ¬ S g) : w'.heap[g]? = some o := (h.block g (Array.getElem?_eq_some_iff.1 hg).1 hn).trans hg
theorem KpS.own {S : Nat → Prop} {w w' : World} {base n k : Nat} {e : TypeId} {v : Value} {xs : List Value} (h : KpS S w w') (ho : w.ownsRow base e k v n xs) (hn : ∀ q, v.ownBlock = some q → ¬ S q) : w'.ownsRow base e k v n xs :=
  own_keep ho (fun q hq => h.block q (ho.lt q hq).2 (hn q hq))
section
variable {P : Program}
/-- Where a list stands behind an append: where it stood, or in the next block. -/
theorem append_where (w : World) (base : Nat) (t ty e : TypeId) (i : TypeInfo) (z : Value) (size bytes : Nat) (ht : P.underlying t = some (.slice e)) (hi : P.info? e = some i) (hz : i.zero = some z)
    (hsize : i.size = size) (hby : i.bytes = bytes) (hzs : z.cells.size = size) (hsz : 0 < size)
    (v : Value) (n : Nat) (xs : List Value) (hown : w.ownsRow base e size v n xs)
    (a : Addr) (m c : Nat) (news : List Value) (hl : news.length = m * size) (hnews : ∀ j u, news[j]? = some u → w.cell? (a.add j) = some u) (h1 : ∀ u ∈ news, u.oneCell' = true)
    (h63 : n + m ≤ maxLen) (hbytes : (n + m) * bytes ≤ 140737488355328) (hbase : base ≤ w.heap.size) :
    ∃ v' w', (Builtin.append_ #[t, t] ty #[v, .slice (some a) m c]).run P w = .ok v' w' ∧ w'.ownsRow base e size v' (n + m) (xs ++ news) ∧ w.grownBy w' v.ownBlock ∧ (v'.ownBlock = v.ownBlock ∨ ∀ q, v'.ownBlock = some q → w.heap.size ≤ q) := by
  obtain ⟨v', w', hr, h2, h3, h4⟩ := run_append_own w base t ty e i z size bytes ht hi hz hsize hby hzs hsz v n xs hown a m c news hl hnews h1 h63 hbytes hbase
  refine ⟨v', w', hr, h2, h3, ?_⟩
  rcases hown.2 with ⟨rfl, rfl⟩ | ⟨g, cap, cur, rfl, hbg, hg, hnc, hcm, hcs, htake⟩
  · refine .inr (fun q hq => ?_)
    obtain ⟨v2, w2, hr2, h22, _⟩ := run_append_own (P := P) w w.heap.size t ty e i z size bytes ht hi hz hsize hby hzs hsz (.slice none 0 0) 0 xs ⟨hown.1, .inl ⟨rfl, rfl⟩⟩ a m c news hl hnews h1 h63 hbytes (Nat.le_refl _)
    rw [hr] at hr2
    injection hr2 with e1 e2
    subst e1 e2
    exact (h22.lt q hq).1
  · subst hsize
    by_cases hroom : n + m ≤ cap
    · have hfit : n * i.size + news.length ≤ cur.size := by rw [hl, hcs, ← Nat.add_mul]; exact Nat.mul_le_mul_right _ hroom
      have hr2 := run_append_room (P := P) w t ty e i ht hi g n cap cur hg a m c news hl hnews h1 hroom hfit
      rw [hr] at hr2
      injection hr2 with e1 e2
      subst e1
      exact .inl rfl
    · have holds : ∀ j u, xs[j]? = some u → w.cell? ((⟨g, 0, none⟩ : Addr).add j) = some u := hown.cells (g := g) rfl
      have hsmall : n + m ≤ 9223372036854775807 := by simp only [maxLen] at h63; omega
      have hr2 := run_append_grow (P := P) w t ty e i z ht hi hz ⟨g, 0, none⟩ n cap xs hown.1 holds a m c news hl hnews (by omega) (by omega) (growslice_fits (by omega) (by rw [hby]; exact hbytes))
      rw [hr] at hr2
      injection hr2 with e1 e2
      subst e1
      exact .inr (fun q hq => by simp [Value.ownBlock] at hq; omega)
end
section
variable {α : Type} [Inhabited α] {k : Nat} {enc : α → Array Value}
/-- A list that isn't empty behind a list that is the call's own: with the place. -/
theorem exec_appendW {w : World} {o : Oper} {a : Act} (ty e : TypeId) (bytes : Nat) (i : TypeInfo) (z : Value) (ht : Tryd.prog.underlying ty = some (.slice e)) (hi : Tryd.prog.info? e = some i) (hz : i.zero = some z) (hsize : i.size = k) (hby : i.bytes = bytes) (hzs : z.cells.size = k) (hk : 0 < k) (he : ∀ x, (enc x).size = k) (h1 : ∀ x, ∀ u ∈ (enc x).toList, u.oneCell' = true)
    (s x : Operand) (ho : o.op = .call { callee := .builtin .append, args := #[s, x], argTypes := #[ty, ty] })
    (base : Nat) (v : Value) (l0 l : List α) (hs : a.eval s = v) (hown : w.ownsRow base e k v l0.length (flat enc l0))
    (g off c : Nat) (hx : a.eval x = .slice (some ⟨g, off, none⟩) l.length c) (hy : ∀ i, i < l.length → w.rangeAt g (off + i * k) (enc (l.getD i default)).toList) (hlen : l0.length + l.length ≤ 140737488355327) (hlen2 : (l0.length + l.length) * bytes ≤ 140737488355328) (hbase : base ≤ w.heap.size) :
    ∃ v' w', (execOp a.eval o).run Tryd.prog w = .ok (.value v') w' ∧ w'.ownsRow base e k v' (l0 ++ l).length (flat enc (l0 ++ l)) ∧ w.grownBy w' v.ownBlock ∧ (v'.ownBlock = v.ownBlock ∨ ∀ q, v'.ownBlock = some q → w.heap.size ≤ q) := by
  obtain ⟨v', w', hr, h2, h3, h4⟩ := append_where (P := Tryd.prog) w base ty o.type e i z k bytes ht hi hz hsize hby hzs hk v l0.length (flat enc l0) hown ⟨g, off, none⟩ l.length c (flat enc l) (flat_len he l) (Rw.cells he hy) (flat_one h1 l) (by unfold maxLen; omega) hlen2 hbase
  refine ⟨v', w', ?_, by rw [List.length_append, flat_app]; exact h2, h3, h4⟩
  unfold execOp
  simp only [ho, resolve, invoke, builtin, Sem.run_bind, Sem.run_pure, Result.andThen_ok, List.map_toArray, List.map_cons, List.map_nil, hs, hx, hr]
end
def upd {β : Type} (f : Nat → β) (k : Nat) (v : β) : Nat → β := fun j => if j = k then v else f j
theorem upd_same {β : Type} (f : Nat → β) (k : Nat) (v : β) : upd f k v k = v := if_pos rfl
theorem upd_other {β : Type} (f : Nat → β) {k j : Nat} (v : β) (h : j ≠ k) : upd f k v j = f j := if_neg h
/-- A label's chain. -/
structure ChAt (w : World) (base cut g : Nat) (hv ev : Value) (l : List En) : Prop where
  g0 : base ≤ g
  row : w.heap[g]? = some (.cells #[.int .i64 (cut : Int), hv, .int .i64 (l.length : Int), ev] 82 (0, 0))
  head : w.ownsRow base 5 1 hv (headP cut l l.length).length (vals (headP cut l l.length))
  ents : w.ownsRow base 24 35 ev l.length (flat encE l)
/-- A log: its block, its chains' pointers, its chains. -/
structure LogI (w : World) (base L cut labels : Nat) (pv : Value) (G : Nat → Nat) (H E : Nat → Value) (l : Nat → List En) : Prop where
  root : w.heap[L]? = some (.cells #[pv] 79 (0, 0))
  l0 : base ≤ L
  ptrs : w.ownsRow base 80 1 pv labels ((List.range labels).map fun k => .pointer (some ⟨G k, 0, none⟩))
  chain : ∀ k, k < labels → ChAt w base cut (G k) (H k) (E k) (l k)
  injG : ∀ j k, j < labels → k < labels → G j = G k → j = k
  injE : ∀ j k, j < labels → k < labels → j ≠ k → ∀ q, (E j).ownBlock = some q → (E k).ownBlock ≠ some q
theorem ChAt.keep {w w' : World} {base cut g : Nat} {hv ev : Value} {l : List En} (h : ChAt w base cut g hv ev l) {S : Nat → Prop} (hk : KpS S w w') (h1 : ¬ S g) (h2 : ∀ q, hv.ownBlock = some q → ¬ S q) (h3 : ∀ q, ev.ownBlock = some q → ¬ S q) : ChAt w' base cut g hv ev l :=
  ⟨h.g0, hk.heap h.row h1, hk.own h.head h2, hk.own h.ents h3⟩
theorem LogI.keep {w w' : World} {base L cut labels : Nat} {pv : Value} {G : Nat → Nat} {H E : Nat → Value} {l : Nat → List En} (h : LogI w base L cut labels pv G H E l) {S : Nat → Prop} (hk : KpS S w w') (hS : ∀ k, S k → ¬ base ≤ k ∨ w.heap.size ≤ k) : LogI w' base L cut labels pv G H E l := by
  have hn : ∀ q, base ≤ q → q < w.heap.size → ¬ S q := fun q hq hl hs => by
    rcases hS q hs with x | x <;> omega
  have hl : ∀ {g : Nat} {o : Obj}, w.heap[g]? = some o → g < w.heap.size := fun hg => (Array.getElem?_eq_some_iff.1 hg).1
  exact ⟨hk.heap h.root (hn _ h.l0 (hl h.root)), h.l0, hk.own h.ptrs (fun q hq => hn q (h.ptrs.lt q hq).1 (h.ptrs.lt q hq).2), fun k hkk => (h.chain k hkk).keep hk (hn _ (h.chain k hkk).g0 (hl (h.chain k hkk).row))
    (fun q hq => hn q ((h.chain k hkk).head.lt q hq).1 ((h.chain k hkk).head.lt q hq).2) (fun q hq => hn q ((h.chain k hkk).ents.lt q hq).1 ((h.chain k hkk).ents.lt q hq).2), h.injG, h.injE⟩
theorem LogI.below {w w' : World} {base L cut labels : Nat} {pv : Value} {G : Nat → Nat} {H E : Nat → Value} {l : Nat → List En} (h : LogI w base L cut labels pv G H E l) (hb : Below w.heap.size w w') : LogI w' base L cut labels pv G H E l :=
  h.keep (S := fun _ => False) (KpS.of hb) (fun k hk => hk.elim)
theorem headP_app {cut : Nat} (a b : List En) : ∀ i, i ≤ a.length → headP cut (a ++ b) i = headP cut a i
  | 0, _ => rfl
  | i + 1, h => by
    rw [headP, headP, headP_app a b i (by omega)]
    simp only [List.getD_eq_getElem?_getD, List.getElem?_append_left (show i < a.length by omega)]
/-- What a chain's change may touch. -/
def touchL (G : Nat → Nat) (E : Nat → Value) (k : Nat) : Nat → Prop := fun q => q = G k ∨ (E k).ownBlock = some q
/-- A log behind an entry. -/
theorem LogI.put {w w' : World} {base L cut labels : Nat} {pv : Value} {G : Nat → Nat} {H E : Nat → Value} {l : Nat → List En} (h : LogI w base L cut labels pv G H E l) {k : Nat} (hk : k < labels) {hv ev : Value} {x : En}
    (hS : KpS (touchL G E k) w w') (hc : ChAt w' base cut (G k) hv ev (l k ++ [x])) (hE : ev.ownBlock = (E k).ownBlock ∨ ∀ q, ev.ownBlock = some q → w.heap.size ≤ q) :
    LogI w' base L cut labels pv G (upd H k hv) (upd E k ev) (upd l k (l k ++ [x])) := by
  have hck := h.chain k hk
  have hE0 : ∀ {base' n' k' : Nat} {e' : TypeId} {v' : Value} {xs' : List Value}, w.ownsRow base' e' k' v' n' xs' → e' ≠ 82 → (∀ q, v'.ownBlock = some q → (E k).ownBlock ≠ some q) → ∀ q, v'.ownBlock = some q → ¬ touchL G E k q := fun ho hne hd q hq hs => by
    rcases hs with rfl | hs
    · exact own_kind ho hck.row hne hq.symm
    · exact hd q hq hs
  have hot : ∀ {base' n' k' : Nat} {e' : TypeId} {v' : Value} {xs' : List Value}, w.ownsRow base' e' k' v' n' xs' → (24 : TypeId) ≠ e' → ∀ q, v'.ownBlock = some q → (E k).ownBlock ≠ some q := fun ho hne q hq hs => own_other hck.ents ho hne q hq hs.symm
  refine ⟨hS.heap h.root (fun hs => ?_), h.l0, hS.own h.ptrs (hE0 h.ptrs (by decide) (hot h.ptrs (by decide))), fun j hj => ?_, h.injG, fun i j hi hj hij q => ?_⟩
  · rcases hs with hs | hs
    · rw [hs] at h; have := h.root; rw [hck.row] at this; simp at this
    · exact own_kind hck.ents h.root (by decide) hs.symm
  · by_cases e : j = k
    · subst e; rw [upd_same, upd_same, upd_same]; exact hc
    · rw [upd_other _ _ e, upd_other _ _ e, upd_other _ _ e]
      have hcj := h.chain j hj
      refine hcj.keep hS (fun hs => ?_) (hE0 hcj.head (by decide) (hot hcj.head (by decide))) (hE0 hcj.ents (by decide) (h.injE j k hj hk e))
      rcases hs with hs | hs
      · exact e (h.injG j k hj hk hs)
      · exact own_kind hck.ents hcj.row (by decide) hs.symm
  · have hlt : ∀ j, j < labels → ∀ q, (E j).ownBlock = some q → q < w.heap.size := fun j hj q hq => ((h.chain j hj).ents.lt q hq).2
    by_cases e : i = k
    · subst e
      rw [upd_same, upd_other _ _ (fun e => hij e.symm)]
      intro hq hq2
      rcases hE with q1 | q1
      · rw [q1] at hq; exact h.injE i j hi hj hij q hq hq2
      · have := q1 q hq; have := hlt j hj q hq2; omega
    · by_cases e2 : j = k
      · subst e2
        rw [upd_same, upd_other _ _ e]
        intro hq hq2
        rcases hE with q1 | q1
        · rw [q1] at hq2; exact h.injE i j hi hj hij q hq hq2
        · have := q1 q hq2; have := hlt i hi q hq; omega
      · rw [upd_other _ _ e, upd_other _ _ e2]; exact h.injE i j hi hj hij q
end Go.Proofs.YtadopkifpfmhcaaDoor
namespace Go.Proofs.YtadopkifpfmhcaaDoor
open Go.RowKit
open Sha (vals Bytes Lies bytesC sumB)
open Go.Proofs.YtadopkifpfmhcaaDoorW.PrintWords Go.Proofs.YtadopkifpfmhcaaDoorW.PrintLast Go.Proofs.YtadopkifpfmhcaaDoorW.PrintMore
theorem LogI.root0 {w : World} {base L cut labels : Nat} {pv : Value} {G : Nat → Nat} {H E : Nat → Value} {l : Nat → List En} (h : LogI w base L cut labels pv G H E l) : w.cell? ⟨L, 0, none⟩ = some pv := cell_row h.root rfl
theorem LogI.ptr {w : World} {base L cut labels : Nat} {pv : Value} {G : Nat → Nat} {H E : Nat → Value} {l : Nat → List En} (h : LogI w base L cut labels pv G H E l) {k : Nat} (hk : k < labels) :
    ∃ R c, pv = .slice (some ⟨R, 0, none⟩) labels c ∧ labels ≤ c ∧ w.cell? ⟨R, k, none⟩ = some (.pointer (some ⟨G k, 0, none⟩)) := by
  rcases h.ptrs.2 with ⟨_, h0⟩ | ⟨g, cap, cur, h1, h2, h3, h4, h5, h6, h7⟩
  · omega
  · refine ⟨g, cap, h1, h4, ?_⟩
    rw [cell_of_row _ _ _ _ _ _ h3]
    have : (cur.toList.take (labels * 1))[k]? = some (.pointer (some ⟨G k, 0, none⟩)) := by rw [h7]; simp [hk]
    rw [List.getElem?_take] at this
    split at this
    · simpa using this
    · cases this
theorem of_nil (label : Int) (w : World) : Calls Tryd.prog 43 #[.pointer none, .int .i64 label] w fun e w' => e = .returned (.pointer none) ∧ w = w' := by
  go_enter Tryd.func43, Tryd.ntmps43
  go_wp2
  go_ret
  exact ⟨rfl, rfl⟩
theorem of_out {w : World} {base L cut labels : Nat} {pv : Value} {G : Nat → Nat} {H E : Nat → Value} {l : Nat → List En} (h : LogI w base L cut labels pv G H E l) (label : Int) (hl : label < 0 ∨ (labels : Int) ≤ label) : Calls Tryd.prog 43 #[.pointer (some ⟨L, 0, none⟩), .int .i64 label] w fun e w' => e = .returned (.pointer none) ∧ w = w' := by
  have hr := h.root0
  obtain ⟨A, c, rfl⟩ := own_form h.ptrs
  by_cases h0 : label < 0
  · clear hl
    go_enter Tryd.func43, Tryd.ntmps43
    go_wp2
    go_ret
    exact ⟨rfl, rfl⟩
  · have h1 : (labels : Int) ≤ label := by omega
    clear hl
    go_enter Tryd.func43, Tryd.ntmps43
    go_wp2
    go_ret
    exact ⟨rfl, rfl⟩
theorem of_in {w : World} {base L cut labels : Nat} {pv : Value} {G : Nat → Nat} {H E : Nat → Value} {l : Nat → List En} (h : LogI w base L cut labels pv G H E l) (k : Nat) (hk : k < labels) : Calls Tryd.prog 43 #[.pointer (some ⟨L, 0, none⟩), .int .i64 (k : Int)] w fun e w' => e = .returned (.pointer (some ⟨G k, 0, none⟩)) ∧ w = w' := by
  have hr := h.root0
  obtain ⟨R, c, rfl, hc, hp⟩ := h.ptr hk
  clear h
  have hkI : ¬ (k : Int) < 0 := by omega
  have hkI2 : ¬ (labels : Int) ≤ (k : Int) := by omega
  have hkI3 : (k : Int) < (labels : Int) := by omega
  go_enter Tryd.func43, Tryd.ntmps43
  go_wp2
  go_ret
  exact ⟨rfl, rfl⟩
end Go.Proofs.YtadopkifpfmhcaaDoor
namespace Go
section
variable {P : Program} {ops : Array Oper} {md : Region.Mode} {S : World → Prop} {Q : Exit → Act → World → Prop}
def wpHeadH (P : Program) (md : Region.Mode) (ops : Array Oper) (Q : Exit → Act → World → Prop) (S : World → Prop) (n : Nat) (L : Array Bool → Act → World → Prop) : Nat → Array Bool → Act → World → Prop
  | 0, listed, a, w => L listed a w
  | f + 1, listed, a, w =>
    Region.ready md ops listed ≠ [] ∧ ∀ i ∈ Region.ready md ops listed, i < n ∧ wpOp P ops Q i (fun a' w' => S w' ∧ wpHeadH P md ops Q S n L f (listed.setIfInBounds i true) a' w') a w
theorem wpAny_of_headH {n g : Nat} {L : Array Bool → Act → World → Prop} (hL : ∀ listed a w, L listed a w → wpAny P md ops Q g listed a w) :
    ∀ (f : Nat) (listed : Array Bool) (a : Act) (w : World), wpHeadH P md ops Q S n L f listed a w → wpAny P md ops Q (f + g) listed a w
  | 0, listed, a, w, h => by rw [Nat.zero_add]; exact hL _ _ _ h
  | f + 1, listed, a, w, h => by
    rw [show f + 1 + g = (f + g) + 1 by omega]
    exact ⟨fun h0 => absurd h0 h.1, fun i hi => wpOp_mono (fun a' w' h' => wpAny_of_headH hL f _ a' w' h'.2) (h.2 i hi).2⟩
theorem wpHeadH_first {n i : Nat} {oi : Oper} {v : Value} {L : Array Bool → Act → World → Prop} (hi : ops[i]? = some oi) (hsel : ∀ (j : Nat) (o : Oper) cs b, ops[j]? = some o → o.op ≠ .select cs b)
    (hs : Region.sinkB md ops n = true) (hc : Region.chainB md ops n = true) (hn : n < ops.size) (hin : i < n)
    (hQ : ∀ c a w, Q (.panic c) (a.put oi.dst v) w → Q (.panic c) a w)
    (hdone : ∀ listed a w, L listed a w → ∀ j ∈ Region.ready md ops listed, n ≤ j) :
    ∀ (f : Nat) (listed : Array Bool) (a : Act) (w : World), HeadInv md ops n listed →
      (∀ j oj, ops[j]? = some oj → j ≠ i → listed.getD j true = false → (∀ e ∈ oj.after, Region.binds md e = true → e.on ≠ i) → oi.apart ops oj = true) →
      i ∈ Region.ready md ops listed → YieldsIf P ops S oi v a → S w →
      wpHeadH P md ops Q S n L f (listed.setIfInBounds i true) (a.put oi.dst v) w → wpHeadH P md ops Q S n L (f + 1) listed a w := by
  intro f
  induction f with
  | zero =>
    intro listed a w inv _ hr hy hS H
    have hun := (mem_ready.1 hr).1
    refine ⟨fun h => (by rw [h] at hr; cases hr), fun j hj => ?_⟩
    have hjn : j < n := by
      rcases Nat.lt_or_ge j n with h | h
      · exact h
      · exact absurd hj (tail_waits hs hc hn inv _ i rfl hin hun j h)
    refine ⟨hjn, ?_⟩
    by_cases hji : j = i
    · subst hji; exact hy.wpOp hi hS ⟨hS, H⟩
    · have := hdone _ _ _ H j (ready_mono hj hji)
      omega
  | succ f ih =>
    intro listed a w inv hfree hr hy hS H
    have hun := (mem_ready.1 hr).1
    refine ⟨fun h => (by rw [h] at hr; cases hr), fun j hj => ?_⟩
    have hjn : j < n := by
      rcases Nat.lt_or_ge j n with h | h
      · exact h
      · exact absurd hj (tail_waits hs hc hn inv _ i rfl hin hun j h)
    refine ⟨hjn, ?_⟩
    by_cases hji : j = i
    · subst hji; exact hy.wpOp hi hS ⟨hS, H⟩
    · have h1 := (H.2 j (ready_mono hj hji)).2
      obtain ⟨hjun, oj, hoj, hall⟩ := mem_ready.1 hj
      have hnot : ∀ e ∈ oj.after, Region.binds md e = true → e.on ≠ i := fun e he hb heq => by
        have h1 := hall e he hb
        rw [heq, getD_both hun] at h1
        cases h1
      have h2 := wpOp_putIf hoj (hfree j oj hoj hji hjun hnot) (fun cs b => hsel i oi cs b hi) (fun cs b => hsel j oj cs b hoj) hQ hy h1
      have hfree' : ∀ k ok, ops[k]? = some ok → k ≠ i → (listed.setIfInBounds j true).getD k true = false →
          (∀ e ∈ ok.after, Region.binds md e = true → e.on ≠ i) → oi.apart ops ok = true := fun k ok hk hki hun hno => by
        refine hfree k ok hk hki ?_ hno
        by_cases hjk : j = k
        · subst hjk; exact hjun
        · rw [getD_set_ne true hjk] at hun; exact hun
      refine wpOp_mono (fun a' w' h3 => ⟨h3.2.1, ih (listed.setIfInBounds j true) a' w' (inv.set hj hjn) hfree' (ready_mono hr (Ne.symm hji)) h3.1 h3.2.1 ?_⟩) h2
      rw [Array.setIfInBounds_comm _ _ hji]
      exact h3.2.2
/-- What a region's shape must be. -/
def headOK (md : Region.Mode) (ops : Array Oper) (n : Nat) : Bool := Region.noSelect ops && decide (n < ops.size) && Region.sinkB md ops n && Region.chainB md ops n
/-- The walk of the head; the tail L. -/
def WH (P : Program) (md : Region.Mode) (ops : Array Oper) (Q : Exit → Act → World → Prop) (S : World → Prop) (n : Nat) (tail : List Oper) (f : Nat) (listed : Array Bool) (a : Act) (w : World) : Prop :=
  headOK md ops n = true → HeadInv md ops n listed → wpHeadH P md ops Q S n (fun listed a w => Region.seqB md ops tail.length n listed = true ∧ wpList P ops Q tail a w) f listed a w
section
variable {n : Nat} {tail : List Oper} {f : Nat} {listed : Array Bool} {a : Act} {w : World}
theorem hh_take (i : Nat) {oi : Oper} (hi : ops[i]? = some oi) (hin : i < n) (hf : Region.free md ops listed i = true) (hr : (Region.ready md ops listed).contains i = true)
    (v : Value) (hQ : ∀ c a w, Q (.panic c) (a.put oi.dst v) w → Q (.panic c) a w) (hw : Region.wanted oi (yielded ops a.tmps) = true) (he : ∀ w, S w → (execOp a.eval oi).run P w = .ok (.value v) w) (hS : S w)
    (h : WH P md ops Q S n tail f (listed.setIfInBounds i true) (a.put oi.dst v) w) : WH P md ops Q S n tail (f + 1) listed a w := fun hok inv => by
  have hok' := hok
  simp only [headOK, Bool.and_eq_true, decide_eq_true_eq] at hok'
  obtain ⟨⟨⟨h1, h2⟩, h3⟩, h4⟩ := hok'
  have hr' : i ∈ Region.ready md ops listed := by simpa using hr
  exact wpHeadH_first hi (Region.noSelect_spec h1) h3 h4 h2 hin hQ (fun _ _ _ hL => seqB_ready hL.1) f listed a w inv (Region.free_spec hi hf) hr' (.inl ⟨hw, he⟩) hS (h hok (inv.set hr' hin))
theorem hh_one (i : Nat) {oi : Oper} (hi : ops[i]? = some oi) (hin : i < n) (hr : Region.ready md ops listed = [i]) (hw : Region.wanted oi (yielded ops a.tmps) = true)
    (h : ∀ K : Act → World → Prop, (∀ a w, S w → WH P md ops Q S n tail f (listed.setIfInBounds i true) a w → K a w) → oi.wp P a w K Q) : WH P md ops Q S n tail (f + 1) listed a w := fun hok inv => by
  refine ⟨by rw [hr]; simp, fun j hj => ?_⟩
  have hj' : j = i := by rw [hr] at hj; exact List.mem_singleton.1 hj
  subst hj'
  refine ⟨hin, wpOp_step hi fun K' hK => ?_⟩
  rw [if_pos hw]
  exact h K' fun a w h1 h2 => hK a w ⟨h1, h2 hok (inv.set hj hin)⟩
theorem hh_run (i : Nat) {oi : Oper} (hi : ops[i]? = some oi) (hin : i < n) (hr : Region.ready md ops listed = [i]) (hw : Region.wanted oi (yielded ops a.tmps) = true) (v : Value) (w' : World)
    (he : (execOp a.eval oi).run P w = .ok (.value v) w') (hS : S w') (h : WH P md ops Q S n tail f (listed.setIfInBounds i true) (a.put oi.dst v) w') : WH P md ops Q S n tail (f + 1) listed a w :=
  hh_one i hi hin hr hw fun K hK => by unfold Oper.wp; rw [he]; exact hK _ _ hS h
theorem hh_new (i : Nat) {oi : Oper} (hi : ops[i]? = some oi) (hin : i < n) (hr : Region.ready md ops listed = [i]) (hw : Region.wanted oi (yielded ops a.tmps) = true) (v : Value) (w0 : World)
    (he : (execOp a.eval oi).run P w = .ok (.value v) w0) (R : World → Prop) (hR : R w0) (h : ∀ w', R w' → S w' ∧ WH P md ops Q S n tail f (listed.setIfInBounds i true) (a.put oi.dst v) w') : WH P md ops Q S n tail (f + 1) listed a w :=
  hh_run i hi hin hr hw v w0 he (h w0 hR).1 (h w0 hR).2
theorem hh_got (i : Nat) {oi : Oper} (hi : ops[i]? = some oi) (hin : i < n) (hr : Region.ready md ops listed = [i]) (hw : Region.wanted oi (yielded ops a.tmps) = true) {R : Value → World → Prop}
    (he : ∃ v w', (execOp a.eval oi).run P w = .ok (.value v) w' ∧ R v w') (h : ∀ v w', R v w' → S w' ∧ WH P md ops Q S n tail f (listed.setIfInBounds i true) (a.put oi.dst v) w') : WH P md ops Q S n tail (f + 1) listed a w := by
  obtain ⟨v, w', he, hR⟩ := he
  exact hh_run i hi hin hr hw v w' he (h v w' hR).1 (h v w' hR).2
theorem hh_call (i : Nat) {oi : Oper} (hi : ops[i]? = some oi) (hin : i < n) (hr : Region.ready md ops listed = [i]) (hw : Region.wanted oi (yielded ops a.tmps) = true) (f' : FuncId) (args : Array Value)
    (he : (execOp a.eval oi).run P w = .ok (.enter f' args) w) {R : Value → World → Prop} (hc : Calls P f' args w fun e w' => ∃ v, e = .returned v ∧ R v w')
    (h : ∀ v w', R v w' → S w' ∧ WH P md ops Q S n tail f (listed.setIfInBounds i true) (a.put oi.dst v) w') : WH P md ops Q S n tail (f + 1) listed a w :=
  hh_one i hi hin hr hw fun K hK => by
    unfold Oper.wp; rw [he, Oper.upon_enter]
    exact hc.mono fun e w' hh => by obtain ⟨v, rfl, hR⟩ := hh; obtain ⟨h1, h2⟩ := h v w' hR; exact hK _ _ h1 h2
theorem hh_done (hB : Region.seqB md ops tail.length n listed = true) (h : wpList P ops Q tail a w) : WH P md ops Q S n tail 0 listed a w := fun _ _ => ⟨hB, h⟩
/-- A step of a plain list that yields a value not known ahead. -/
theorem sl_got {rest : List Oper} {o : Oper} (hg : o.guard = none) {R : Value → World → Prop} (he : ∃ v w', (execOp a.eval o).run P w = .ok (.value v) w' ∧ R v w')
    (h : ∀ v w', R v w' → wpList P ops Q rest (a.put o.dst v) w') : wpList P ops Q (o :: rest) a w := by
  obtain ⟨v, w', he, hR⟩ := he
  exact sl_run hg v w' he (h v w' hR)
end
/-- The condition may be made stronger on the way. -/
theorem held_mono {S' : World → Prop} (hSS : ∀ w, S' w → S w) : ∀ (fuel : Nat) (listed : Array Bool) (a : Act) (w : World), wpAnyH P md ops Q S' fuel listed a w → wpAnyH P md ops Q S fuel listed a w
  | 0, _, _, _, h => h
  | fuel + 1, listed, a, w, h => ⟨h.1, fun i hi => wpOp_mono (fun a' w' h' => ⟨hSS _ h'.1, held_mono hSS fuel _ a' w' h'.2⟩) (h.2 i hi)⟩
theorem held_skip {fuel : Nat} {listed : Array Bool} {a : Act} {w : World} (i : Nat) {oi : Oper} (hi : ops[i]? = some oi) (hs : Region.noSelect ops = true) (hf : Region.free md ops listed i = true) (hr : (Region.ready md ops listed).contains i = true)
    (hQ : ∀ c a w, Q (.panic c) (a.put oi.dst undef) w → Q (.panic c) a w) (hw : Region.wanted oi (yielded ops a.tmps) = false) (hS : S w)
    (h : wpAnyH P md ops Q S fuel (listed.setIfInBounds i true) (a.put oi.dst undef) w) : wpAnyH P md ops Q S (fuel + 1) listed a w :=
  wpAnyH_take hi hs hf hr hQ (.inr ⟨hw, rfl⟩) hS h
/-- Only the normal way out is looked at. -/
theorem wp_normalG {c : Code} {a : Act} {w : World} (h : c.wp P (fun ex a' w' => ex = .normal ∧ Q .normal a' w') a w) : c.wp P Q a w := by
  refine wp_mono h ?_
  rintro e a' w' ⟨rfl, hk⟩
  exact hk
theorem wp_region_headed {id : Nat} {a : Act} {w : World} {l : List Oper} (n : Nat) (S : World → Prop) (hm : P.follows .mixedOrders = true) (hB : headOK .any l.toArray n = true) (hS : S w.drew)
    (h : S w.drew → WH P .any l.toArray Q S n (l.drop n) n (Array.replicate l.length false) a w.drew) : (Code.region id l.toArray true).wp P Q a w := by
  have hB' := hB
  simp only [headOK, Bool.and_eq_true, decide_eq_true_eq] at hB'
  obtain ⟨⟨⟨hsel, hn⟩, hs⟩, hc⟩ := hB'
  have hn' : n < l.length := by simpa using hn
  have hdl : (l.drop n).length = l.toArray.size - n := by simp
  have inv0 : HeadInv .any l.toArray n (Array.replicate l.length false) :=
    ⟨by simp, fun j oj _ hl => (by rw [getD_replicate_false] at hl; cases hl), fun t _ ht => getD_in (by simpa using ht) (getD_replicate_false _ _)⟩
  have H := h hS hB inv0
  refine wp_region_any hm ?_
  have := wpAny_of_headH (Q := Q) (g := l.toArray.size - n) (fun listed a' w' hL => by
    have := wpAny_of_seq (md := .any) (Q' := Q) (l.drop n) n listed a' w' (fun j => by simp [List.getElem?_drop]) hL.1 hL.2
    rwa [hdl] at this) _ _ _ w.drew H
  rw [show n + (l.toArray.size - n) = l.toArray.size by simp at hn ⊢; omega] at this
  simpa using this
end
end Go
namespace Go.Proofs.YtadopkifpfmhcaaDoor
open Go.RowKit
open Sha (vals Bytes Lies bytesC sumB)
open Go.Proofs.YtadopkifpfmhcaaDoorW.PrintWords Go.Proofs.YtadopkifpfmhcaaDoorW.PrintLast Go.Proofs.YtadopkifpfmhcaaDoorW.PrintMore
theorem inf24 : (Tryd.prog.info? 24).map (fun i => (i.zero.map (·.cells.size), i.size, i.bytes)) = some (some 35, 35, 72) := by kernel_rfl
theorem inf24p : ∃ i z, Tryd.prog.info? 24 = some i ∧ i.zero = some z ∧ i.size = 35 ∧ i.bytes = 72 ∧ z.cells.size = 35 := by
  have h := inf24
  cases hi : Tryd.prog.info? 24 with
  | none => rw [hi] at h; simp at h
  | some i =>
    rw [hi] at h
    simp only [Option.map_some, Option.some.injEq, Prod.mk.injEq] at h
    obtain ⟨h1, h2, h3⟩ := h
    cases hz : i.zero with
    | none => rw [hz] at h1; simp at h1
    | some z => rw [hz] at h1; exact ⟨i, z, rfl, hz, h2, h3, by simpa using h1⟩
theorem list32 : ∀ (d : List Nat), d.length = 32 → d = [d.getD 0 0, d.getD 1 0, d.getD 2 0, d.getD 3 0, d.getD 4 0, d.getD 5 0, d.getD 6 0, d.getD 7 0, d.getD 8 0, d.getD 9 0, d.getD 10 0, d.getD 11 0, d.getD 12 0, d.getD 13 0, d.getD 14 0, d.getD 15 0, d.getD 16 0, d.getD 17 0, d.getD 18 0, d.getD 19 0, d.getD 20 0, d.getD 21 0, d.getD 22 0, d.getD 23 0, d.getD 24 0, d.getD 25 0, d.getD 26 0, d.getD 27 0, d.getD 28 0, d.getD 29 0, d.getD 30 0, d.getD 31 0]
  | [a0, a1, a2, a3, a4, a5, a6, a7, a8, a9, a10, a11, a12, a13, a14, a15, a16, a17, a18, a19, a20, a21, a22, a23, a24, a25, a26, a27, a28, a29, a30, a31], _ => rfl
/-- An entry's cells, one by one. -/
theorem encE_ex (e : En) : encE e = #[.string e.u, .int .i64 e.t, .string e.x, .int .u8 ((e.d.getD 0 0 : Nat) : Int), .int .u8 ((e.d.getD 1 0 : Nat) : Int), .int .u8 ((e.d.getD 2 0 : Nat) : Int), .int .u8 ((e.d.getD 3 0 : Nat) : Int), .int .u8 ((e.d.getD 4 0 : Nat) : Int), .int .u8 ((e.d.getD 5 0 : Nat) : Int), .int .u8 ((e.d.getD 6 0 : Nat) : Int), .int .u8 ((e.d.getD 7 0 : Nat) : Int), .int .u8 ((e.d.getD 8 0 : Nat) : Int), .int .u8 ((e.d.getD 9 0 : Nat) : Int), .int .u8 ((e.d.getD 10 0 : Nat) : Int), .int .u8 ((e.d.getD 11 0 : Nat) : Int), .int .u8 ((e.d.getD 12 0 : Nat) : Int), .int .u8 ((e.d.getD 13 0 : Nat) : Int), .int .u8 ((e.d.getD 14 0 : Nat) : Int), .int .u8 ((e.d.getD 15 0 : Nat) : Int), .int .u8 ((e.d.getD 16 0 : Nat) : Int), .int .u8 ((e.d.getD 17 0 : Nat) : Int), .int .u8 ((e.d.getD 18 0 : Nat) : Int), .int .u8 ((e.d.getD 19 0 : Nat) : Int), .int .u8 ((e.d.getD 20 0 : Nat) : Int), .int .u8 ((e.d.getD 21 0 : Nat) : Int), .int .u8 ((e.d.getD 22 0 : Nat) : Int), .int .u8 ((e.d.getD 23 0 : Nat) : Int), .int .u8 ((e.d.getD 24 0 : Nat) : Int), .int .u8 ((e.d.getD 25 0 : Nat) : Int), .int .u8 ((e.d.getD 26 0 : Nat) : Int), .int .u8 ((e.d.getD 27 0 : Nat) : Int), .int .u8 ((e.d.getD 28 0 : Nat) : Int), .int .u8 ((e.d.getD 29 0 : Nat) : Int), .int .u8 ((e.d.getD 30 0 : Nat) : Int), .int .u8 ((e.d.getD 31 0 : Nat) : Int)] := by
  have h := list32 e.d e.hd
  unfold encE
  generalize e.d = d at h ⊢
  have h2 : (d.map fun (n : Nat) => Value.int .u8 (n : Int)) = [.int .u8 ((d.getD 0 0 : Nat) : Int), .int .u8 ((d.getD 1 0 : Nat) : Int), .int .u8 ((d.getD 2 0 : Nat) : Int), .int .u8 ((d.getD 3 0 : Nat) : Int), .int .u8 ((d.getD 4 0 : Nat) : Int), .int .u8 ((d.getD 5 0 : Nat) : Int), .int .u8 ((d.getD 6 0 : Nat) : Int), .int .u8 ((d.getD 7 0 : Nat) : Int), .int .u8 ((d.getD 8 0 : Nat) : Int), .int .u8 ((d.getD 9 0 : Nat) : Int), .int .u8 ((d.getD 10 0 : Nat) : Int), .int .u8 ((d.getD 11 0 : Nat) : Int), .int .u8 ((d.getD 12 0 : Nat) : Int), .int .u8 ((d.getD 13 0 : Nat) : Int), .int .u8 ((d.getD 14 0 : Nat) : Int), .int .u8 ((d.getD 15 0 : Nat) : Int), .int .u8 ((d.getD 16 0 : Nat) : Int), .int .u8 ((d.getD 17 0 : Nat) : Int), .int .u8 ((d.getD 18 0 : Nat) : Int), .int .u8 ((d.getD 19 0 : Nat) : Int), .int .u8 ((d.getD 20 0 : Nat) : Int), .int .u8 ((d.getD 21 0 : Nat) : Int), .int .u8 ((d.getD 22 0 : Nat) : Int), .int .u8 ((d.getD 23 0 : Nat) : Int), .int .u8 ((d.getD 24 0 : Nat) : Int), .int .u8 ((d.getD 25 0 : Nat) : Int), .int .u8 ((d.getD 26 0 : Nat) : Int), .int .u8 ((d.getD 27 0 : Nat) : Int), .int .u8 ((d.getD 28 0 : Nat) : Int), .int .u8 ((d.getD 29 0 : Nat) : Int), .int .u8 ((d.getD 30 0 : Nat) : Int), .int .u8 ((d.getD 31 0 : Nat) : Int)] := (congrArg (List.map fun (n : Nat) => Value.int .u8 (n : Int)) h).trans rfl
  rw [h2]
set_option maxRecDepth 100000 in
theorem exec_bs24 {o : Oper} {a : Act} (x : Operand) (ho : o.op = .buildSlice 34 1 #[(0, x)]) (e : En) (hx : a.eval x = .agg (encE e)) (w : World) :
    (execOp a.eval o).run Tryd.prog w = .ok (.value (.slice (some ⟨w.heap.size, 0, none⟩) 1 1)) (w.alloc (.cells (encE e) 24)) := by
  unfold execOp
  rw [ho]
  simp only [List.map_toArray, List.map_cons, List.map_nil, hx]
  rw [encE_ex e]
  kernel_rfl

/-- What is at hand while an entry is put. -/
structure PM (w : World) (T : Nat → Prop) (g B : Nat) (row : Array Value) (e : En) (w' : World) : Prop where
  row : w'.heap[g]? = some (.cells row 82 (0, 0))
  box : w'.heap[B]? = some (.cells (encE e) 24 (0, 0))
  kp : KpS T w w'
theorem PM.below {w : World} {T : Nat → Prop} {g B : Nat} {row : Array Value} {e : En} {w' w2 : World} (h : PM w T g B row e w') (hb : Below w'.heap.size w' w2) : PM w T g B row e w2 := ⟨heap_kept h.row hb, heap_kept h.box hb, h.kp.trans (KpS.of hb)⟩
theorem PM.grown {w : World} {T : Nat → Prop} {g B : Nat} {row : Array Value} {e : En} {w' w2 : World} {r : Option Nat} (h : PM w T g B row e w') (hg : w'.grownBy w2 r) (h1 : some g ≠ r) (h2 : some B ≠ r) (h3 : ∀ q, r = some q → T q ∨ w.heap.size ≤ q) : PM w T g B row e w2 :=
  ⟨(hg.block g (Array.getElem?_eq_some_iff.1 h.row).1 h1).trans h.row, (hg.block B (Array.getElem?_eq_some_iff.1 h.box).1 h2).trans h.box, h.kp.grown hg h3⟩
set_option maxRecDepth 100000 in
set_option maxHeartbeats 8000000 in
theorem Put_in {w : World} {base L cut labels : Nat} {pv : Value} {G : Nat → Nat} {H E : Nat → Value} {l : Nat → List En} (h : LogI w base L cut labels pv G H E l) (hbase : base ≤ w.heap.size) (hc1 : 1 ≤ cut) (hc : cut ≤ 32) (k : Nat) (hk : k < labels) (e : En) (he : e.ok) (hgood : goodE e = true) (hn : (l k).length < 1000000) :
    Calls Tryd.prog 21 #[.pointer (some ⟨L, 0, none⟩), .int .i64 (k : Int), .agg (encE e)] w fun z w' => z = .returned (.int .i64 0) ∧ ∃ hv ev, ChAt w' base cut (G k) hv ev (l k ++ [e]) ∧ KpS (touchL G E k) w w' ∧ (ev.ownBlock = (E k).ownBlock ∨ ∀ q, ev.ownBlock = some q → w.heap.size ≤ q) := by
  have hLH : Hid (LogI w base L cut labels pv G H E l) := h
  have heH : Hid e.ok := he
  have hgH : Hid (goodE e = true) := hgood
  obtain ⟨hg0, hrow, hhead, hents⟩ := h.chain k hk
  have htH : Hid (∀ q, touchL G E k q ↔ (q = G k ∨ (E k).ownBlock = some q)) := fun q => Iff.rfl
  obtain ⟨T, hT⟩ : ∃ T, T = touchL G E k := ⟨_, rfl⟩
  rw [← hT] at htH ⊢
  obtain ⟨g, hg⟩ : ∃ g, g = G k := ⟨_, rfl⟩
  have hgG : Hid (g = G k) := hg
  obtain ⟨ev, hev⟩ : ∃ ev, ev = E k := ⟨_, rfl⟩
  obtain ⟨lk, hlk⟩ : ∃ lk, lk = l k := ⟨_, rfl⟩
  rw [← hg, ← hev] at htH
  rw [← hg, ← hev, ← hlk] at hrow
  rw [← hlk] at hhead hents hn ⊢
  rw [← hev] at hents ⊢
  rw [← hg] at hg0 ⊢
  obtain ⟨A0, c0, hA0⟩ := own_form hhead
  rw [hA0] at hrow hhead
  have hrH : Hid (w.heap[g]? = some (.cells #[.int .i64 (cut : Int), .slice A0 (headP cut lk lk.length).length c0, .int .i64 (lk.length : Int), ev] 82 (0, 0))) := hrow
  have hhH : Hid (w.ownsRow base 5 1 (.slice A0 (headP cut lk lk.length).length c0) (headP cut lk lk.length).length (vals (headP cut lk lk.length))) := hhead
  have heO : Hid (w.ownsRow base 24 35 ev lk.length (flat encE lk)) := hents
  have hbH : Hid (base ≤ w.heap.size) := hbase
  clear h he hgood hT hg hev hlk hA0 hrow hhead hents hbase
  go_enter Tryd.func21, Tryd.ntmps21
  go_upto_region 1 with fail
  generalize hW : World.alloc _ _ = W
  have hW0 : W.heap[w.heap.size]? = some (.cells (encE e) 24 (0, 0)) := by rw [← hW]; exact heap_alloc_new _ _
  have hWB : Below w.heap.size w W := by rw [← hW]; exact (Below.refl _ _).alloc (Nat.le_refl _) _
  clear hW
  obtain ⟨B, hB⟩ : ∃ B, B = w.heap.size := ⟨_, rfl⟩
  rw [← hB] at hW0 ⊢
  have hBw : Hid (w.heap.size ≤ B) := by show _ ≤ _; omega
  have hSW : Hid (BS w B e W) := ⟨hW0, hWB⟩
  clear hW0 hWB hB
  refine wp_region_lit ?_
  refine sl_run rfl (.pointer (some ⟨L, 0, none⟩)) W (by kernel_rfl) ?_
  simp only [Act.put, fl1, fl2, fl3]
  refine sl_run rfl (.int .i64 (k : Int)) W (by kernel_rfl) ?_
  simp only [Act.put, fl1, fl2, fl3]
  refine sg_call (by kernel_rfl) 43 #[.pointer (some ⟨L, 0, none⟩), .int .i64 (k : Int)] (by kernel_rfl) (R := fun v w' => v = .pointer (some ⟨g, 0, none⟩) ∧ W = w') ((of_in (hLH.out.below hSW.out.bel) k hk).mono fun z w' q => ⟨_, q.1, by rw [hgG.out], q.2⟩) ?_
  rintro _ _ ⟨rfl, rfl⟩
  simp only [Act.put, fl1, fl2, fl3]
  refine sl_run rfl (.pointer (some ⟨g, 0, none⟩)) W (by kernel_rfl) ?_
  simp only [Act.put, fl1, fl2, fl3]
  refine wpList_nil ?_
  go_upto_region 2 with fail
  refine wp_region_lit ?_
  refine sl_run rfl (.pointer (some ⟨g, 0, none⟩)) W (by kernel_rfl) ?_
  simp only [Act.put, fl1, fl2, fl3]
  refine sl_run rfl (.bool false) W (by kernel_rfl) ?_
  simp only [Act.put, fl1, fl2, fl3]
  refine sl_run rfl (.bool false) W (by kernel_rfl) ?_
  simp only [Act.put, fl1, fl2, fl3]
  refine sg_run (by kernel_rfl) (.agg (encE e)) W (exec_load_row 24 W _ rfl B (by kernel_rfl) 24 (encE e) (0, 0) _ hSW.out.box Tryd.underlying24 rfl (by rw [encE_size']; kernel_rfl)) ?_
  simp only [Act.put, fl1, fl2, fl3]
  refine sg_call (by kernel_rfl) 14 #[.agg (encE e)] (by kernel_rfl) (R := fun v w' => v = .bool true ∧ Below W.heap.size W w') ((hgH.out ▸ good_calls e W).mono fun e w' h => ⟨_, h.1, rfl, h.2⟩) ?_
  rintro _ w1 ⟨rfl, hb⟩
  simp only [Act.put, fl1, fl2, fl3]
  have hSw1 : Hid (BS w B e w1) := (hSW.out).below hb
  clear hSW
  clear hb
  refine sg_run (by kernel_rfl) (.bool false) w1 (by kernel_rfl) ?_
  simp only [Act.put, fl1, fl2, fl3]
  refine sl_run rfl (.bool false) w1 (by kernel_rfl) ?_
  simp only [Act.put, fl1, fl2, fl3]
  refine wpList_nil ?_
  go_upto_region 4 with fail
  refine wp_region_still_tail 4 (by kernel_rfl) (by kernel_rfl) ?_
  change wpStill _ _ w1.drew (fun a' => wpList _ _ _ _ a' w1.drew) _ _
  have hBy : Hid (BS w B e w1.drew) := hSw1.out.below (Below.refl _ _).drew
  clear hSw1
  generalize hx : w1.drew = y at hBy ⊢
  clear hx
  simp only [List.take_succ_cons, List.take_zero, List.drop_succ_cons, List.drop_zero]
  refine still_run rfl (.pointer (some ⟨g, 0, none⟩)) (by kernel_rfl) ?_
  simp only [Act.put, fl1, fl2, fl3]
  refine still_run rfl (.pointer (some ⟨g, 0, none⟩)) (by kernel_rfl) ?_
  simp only [Act.put, fl1, fl2, fl3]
  refine still_run rfl (.pointer (some ⟨g, 0, none⟩)) (by kernel_rfl) ?_
  simp only [Act.put, fl1, fl2, fl3]
  refine still_run rfl (.agg (encE e)) (exec_load_row 24 y _ rfl B (by kernel_rfl) 24 (encE e) (0, 0) _ hBy.out.box Tryd.underlying24 rfl (by rw [encE_size']; kernel_rfl)) ?_
  simp only [Act.put, fl1, fl2, fl3]
  refine wpStill_nil ?_
  have hyB : Below w.heap.size w y := hBy.out.bel
  have hlen := @headP_len cut hc lk lk.length
  refine sg_call (by kernel_rfl) 39 #[.pointer (some ⟨g, 0, none⟩), .agg (encE e)] (by kernel_rfl) (R := fun v w' => v = .tuple #[] ∧ ∃ hv, w'.heap[g]? = some (.cells #[.int .i64 (cut : Int), hv, .int .i64 ((lk.length + 1 : Nat) : Int), ev] 82 (0, 0)) ∧ w'.ownsRow y.heap.size 5 1 hv (headP cut (lk ++ [e]) (lk.length + 1)).length (vals (headP cut (lk ++ [e]) (lk.length + 1))) ∧ Kp y g w') ((link_calls g 0 _ 82 cut lk.length hc1 hc (by omega) A0 _ c0 (headP cut lk lk.length) rfl (by omega) (headP_lt cut lk lk.length) e heH.out y (heap_kept hrH.out hyB) rfl rfl rfl (own_bytes (hhH.out |> fun q => own_keep q (fun j hj => hyB.block j (q.lt j hj).2)))).mono fun z w' q => by
    obtain ⟨q1, hv2, q2, q3, q4⟩ := q
    refine ⟨_, q1, rfl, hv2, q2, ?_, q4⟩
    have e1 : headP cut (lk ++ [e]) (lk.length + 1) = (sumB (headP cut lk lk.length ++ (bytesS (lk.length : Int) e).1)).take cut := by
      rw [headP, headP_app _ _ _ (Nat.le_refl _)]
      simp
    rw [e1]
    exact q3) ?_
  rintro _ z ⟨rfl, hv, hzr, hzh, hzk⟩
  simp only [Act.put, fl1, fl2, fl3]
  refine wpList_nil ?_
  have hgB : g < B := by have := (Array.getElem?_eq_some_iff.1 hrH.out).1; have := hBw.out; omega
  have hTg : T g := (htH.out g).2 (.inl rfl)
  have hPz : Hid (PM w T g B #[.int .i64 (cut : Int), hv, .int .i64 ((lk.length + 1 : Nat) : Int), ev] e z) := ⟨hzr, (hzk.block B (Array.getElem?_eq_some_iff.1 hBy.out.box).1 (by omega)).trans hBy.out.box, (KpS.of hyB).trans (KpS.kp hzk hTg)⟩
  have heq : ∀ q, ev.ownBlock = some q → q < w.heap.size ∧ q ≠ g := fun q hq => ⟨(heO.out.lt q hq).2, fun e2 => own_kind heO.out hrH.out (by decide) (by rw [← e2, hq])⟩
  have heqH : Hid (∀ q, ev.ownBlock = some q → q < w.heap.size ∧ q ≠ g) := heq
  have hez : Hid (z.ownsRow base 24 35 ev lk.length (flat encE lk)) := own_keep heO.out (fun q hq => by
    have h1 := heq q hq
    rw [hzk.block q (by have := hyB.size; omega) h1.2, hyB.block q h1.1])
  have hhz : Hid (z.ownsRow base 5 1 hv (headP cut (lk ++ [e]) (lk.length + 1)).length (vals (headP cut (lk ++ [e]) (lk.length + 1)))) := own_mono hzh (by have := hyB.size; have := hbH.out; omega)
  have hhq : Hid (∀ q, hv.ownBlock = some q → w.heap.size ≤ q) := fun q hq => by have := (hzh.lt q hq).1; have := hyB.size; omega
  clear hzr hzh hzk hyB hBy hlen heq
  go_upto_region 5 with fail
  refine wp_normalG ?_
  refine wp_region_headed 8 (fun w' => PM w T g B #[.int .i64 (cut : Int), hv, .int .i64 ((lk.length + 1 : Nat) : Int), ev] e w') (by kernel_rfl) (by kernel_rfl) (hPz.out.below (Below.refl _ _).drew) (fun hS => ?_)
  have hown : z.drew.ownsRow base 24 35 ev lk.length (flat encE lk) := hez.out
  have hhd : z.drew.ownsRow base 5 1 hv (headP cut (lk ++ [e]) (lk.length + 1)).length (vals (headP cut (lk ++ [e]) (lk.length + 1))) := hhz.out
  clear hez hhz hPz
  generalize hx : z.drew = y5 at hS hown hhd ⊢
  clear hx
  change WH _ _ _ _ _ _ _ 8 (Array.replicate 11 false) _ _
  refine hh_take 0 rfl (by decide) (by kernel_rfl) (by kernel_rfl) (.pointer (some ⟨g, 0, none⟩)) (fun _ _ _ h => nomatch h.1) (by kernel_rfl) (fun w' h => (by kernel_rfl)) hS ?_
  simp only [Act.put, fl1, fl2, fl3, fl4, fl5, fl6]
  refine hh_take 1 rfl (by decide) (by kernel_rfl) (by kernel_rfl) (.pointer (some ⟨g, 0, none⟩)) (fun _ _ _ h => nomatch h.1) (by kernel_rfl) (fun w' h => (by kernel_rfl)) hS ?_
  simp only [Act.put, fl1, fl2, fl3, fl4, fl5, fl6]
  refine hh_take 2 rfl (by decide) (by kernel_rfl) (by kernel_rfl) (.pointer (some ⟨g, 0, none⟩)) (fun _ _ _ h => nomatch h.1) (by kernel_rfl) (fun w' h => (by kernel_rfl)) hS ?_
  simp only [Act.put, fl1, fl2, fl3, fl4, fl5, fl6]
  refine hh_take 3 rfl (by decide) (by kernel_rfl) (by kernel_rfl) (.pointer (some ⟨g, 3, none⟩)) (fun _ _ _ h => nomatch h.1) (by kernel_rfl) (fun w' h => (by kernel_rfl)) hS ?_
  simp only [Act.put, fl1, fl2, fl3, fl4, fl5, fl6]
  refine hh_take 4 rfl (by decide) (by kernel_rfl) (by kernel_rfl) (ev) (fun _ _ _ h => nomatch h.1) (by kernel_rfl) (fun w' h => (exec_load_cell 34 w' _ rfl ⟨g, 3, none⟩ (by kernel_rfl) _ (by rw [cell_of_row _ _ _ _ _ _ h.row]; rfl) (fun _ => by obtain ⟨A9, c9, rfl⟩ := own_form hown; kernel_rfl))) hS ?_
  simp only [Act.put, fl1, fl2, fl3, fl4, fl5, fl6]
  refine hh_take 5 rfl (by decide) (by kernel_rfl) (by kernel_rfl) (.agg (encE e)) (fun _ _ _ h => nomatch h.1) (by kernel_rfl) (fun w' h => (exec_load_row 24 w' _ rfl B (by kernel_rfl) 24 (encE e) (0, 0) _ h.box Tryd.underlying24 rfl (by rw [encE_size']; kernel_rfl))) hS ?_
  simp only [Act.put, fl1, fl2, fl3, fl4, fl5, fl6]
  refine hh_new 6 rfl (by decide) (by kernel_rfl) (by kernel_rfl) (.slice (some ⟨y5.heap.size, 0, none⟩) 1 1) (y5.alloc (.cells (encE e) 24)) (exec_bs24 _ rfl e (by kernel_rfl) y5) (fun w' => PM w T g B #[.int .i64 (cut : Int), hv, .int .i64 ((lk.length + 1 : Nat) : Int), ev] e w' ∧ w'.ownsRow base 24 35 ev lk.length (flat encE lk) ∧ w'.heap[y5.heap.size]? = some (.cells (encE e) 24 (0, 0)) ∧ w'.ownsRow base 5 1 hv (headP cut (lk ++ [e]) (lk.length + 1)).length (vals (headP cut (lk ++ [e]) (lk.length + 1)))) ⟨hS.below ((Below.refl _ _).alloc (Nat.le_refl _) _), hown.alloc _, heap_alloc_new _ _, hhd.alloc _⟩ ?_
  rintro y6 ⟨hS1, hown1, hnew, hhd1⟩
  refine ⟨hS1, ?_⟩
  simp only [Act.put, fl1, fl2, fl3, fl4, fl5, fl6]
  clear hS hown hhd
  generalize y5.heap.size = gg at hnew ⊢
  obtain ⟨i24, z24, hi, hz, hs35, hby, hzs⟩ := inf24p
  have hrg : ∀ i, i < [e].length → y6.rangeAt gg (0 + i * 35) (encE ([e].getD i default)).toList := fun i hi => by
    have : i = 0 := by simpa using hi
    subst this
    intro j u hu
    simp only [Nat.zero_add, Nat.zero_mul]
    rw [cell_of_row _ _ _ _ _ _ hnew]
    simpa using hu
  refine hh_got 7 rfl (by decide) (by kernel_rfl) (by kernel_rfl) (R := fun v w' => w'.ownsRow base 24 35 v (lk ++ [e]).length (flat encE (lk ++ [e])) ∧ y6.grownBy w' ev.ownBlock ∧ (v.ownBlock = ev.ownBlock ∨ ∀ q, v.ownBlock = some q → y6.heap.size ≤ q)) (exec_appendW 34 24 72 i24 z24 un34 hi hz hs35 hby hzs (by decide) encE_size' encE_one _ _ rfl base ev lk [e] (by kernel_rfl) hown1 gg 0 1 (by kernel_rfl) hrg (by simp; omega) (by simp; omega) (by have := hS1.kp.size; have := hbH.out; omega)) ?_
  rintro v2 y7 ⟨hv2, hgr, hvb⟩
  have hS2 : PM w T g B #[.int .i64 (cut : Int), hv, .int .i64 ((lk.length + 1 : Nat) : Int), ev] e y7 := hS1.grown hgr (fun q => (heqH.out g q.symm).2 rfl) (fun q => by have := (heqH.out B q.symm).1; have := hBw.out; omega) (fun q hq => .inl ((htH.out q).2 (.inr hq)))
  refine ⟨hS2, ?_⟩
  simp only [Act.put, fl1, fl2, fl3, fl4, fl5, fl6]
  have hhd2 : Hid (y7.ownsRow base 5 1 hv (headP cut (lk ++ [e]) (lk.length + 1)).length (vals (headP cut (lk ++ [e]) (lk.length + 1)))) := own_keep hhd1 (fun q hq => hgr.block q (hhd1.lt q hq).2 (fun q2 => by have := (heqH.out q q2.symm).1; have := hhq.out q hq; omega))
  have hvb2 : Hid (v2.ownBlock = ev.ownBlock ∨ ∀ q, v2.ownBlock = some q → w.heap.size ≤ q) := hvb.imp id (fun h q hq => by have := h q hq; have := hS1.kp.size; omega)
  have hPy : Hid (PM w T g B #[.int .i64 (cut : Int), hv, .int .i64 ((lk.length + 1 : Nat) : Int), ev] e y7) := hS2
  have hv2H : Hid (y7.ownsRow base 24 35 v2 (lk ++ [e]).length (flat encE (lk ++ [e]))) := hv2
  obtain ⟨A2, c2, hA2⟩ := own_form hv2
  clear hS1 hown1 hnew hhd1 hi hz hs35 hby hzs hrg hgr hvb hS2 hv2
  refine hh_done (by kernel_rfl) ?_
  simp only [List.drop_succ_cons, List.drop_zero]
  refine sl_run rfl (.pointer (some ⟨g, 0, none⟩)) y7 (by kernel_rfl) ?_
  simp only [Act.put, fl1, fl2, fl3]
  refine sl_run rfl (.pointer (some ⟨g, 3, none⟩)) y7 (by kernel_rfl) ?_
  simp only [Act.put, fl1, fl2, fl3]
  refine wpList_store_cell rfl 34 _ _ rfl g 3 (by kernel_rfl) v2 (by kernel_rfl) ev (by rw [cell_of_row _ _ _ _ _ _ hPy.out.row]; rfl) (frozen_of_row _ _ _ _ _ hPy.out.row) (fun _ => by kernel_rfl) (by rw [hA2]; rfl) (by rw [hA2]; rfl) ?_
  simp only [Act.put, fl1, fl2, fl3]
  refine wpList_nil ?_
  refine ⟨rfl, ?_⟩
  rename_i hK
  refine hK _ _ ?_
  clear hK
  have hF : Hid (∃ hv ev2, ChAt (y7.setCell ⟨g, 3, none⟩ v2) base cut g hv ev2 (lk ++ [e]) ∧ KpS T w (y7.setCell ⟨g, 3, none⟩ v2) ∧ (ev2.ownBlock = ev.ownBlock ∨ ∀ q, ev2.ownBlock = some q → w.heap.size ≤ q)) := by
    have hk1 : KpS (fun q => q = g) y7 (y7.setCell ⟨g, 3, none⟩ v2) := KpS.set ⟨rfl, rfl, rfl, Nat.le_refl _, fun _ _ _ => rfl⟩ g 3 v2 (.inl rfl)
    refine ⟨hv, v2, ⟨hg0, ?_, ?_, ?_⟩, hPy.out.kp.set g 3 v2 (.inl hTg), hvb2.out⟩
    · have := heap_setCell_same y7 g 3 _ 82 v2 hPy.out.row
      rw [this]
      simp
    · have : (lk ++ [e]).length = lk.length + 1 := by simp
      rw [this]
      exact hk1.own hhd2.out (fun q hq e2 => by subst e2; exact own_kind hhd2.out hPy.out.row (by decide) hq.symm)
    · exact hk1.own hv2H.out (fun q hq e2 => by subst e2; exact own_kind hv2H.out hPy.out.row (by decide) hq.symm)
  clear hPy hvb2 hv2H hhd2 hA2
  generalize World.setCell _ _ _ = y8 at hF ⊢
  go_wp2_with fail
  go_ret
  exact ⟨rfl, hF.out⟩
end Go.Proofs.YtadopkifpfmhcaaDoor
namespace Go.Proofs.YtadopkifpfmhcaaDoor
open Go.RowKit
open Sha (vals Bytes Lies bytesC sumB)
open Go.Proofs.YtadopkifpfmhcaaDoorW.PrintWords Go.Proofs.YtadopkifpfmhcaaDoorW.PrintLast Go.Proofs.YtadopkifpfmhcaaDoorW.PrintMore
/-- A label that there is not: its chain is nil. -/
def NoOf (u : Value) (label : Int) (w : World) : Prop := ∀ w', Below w.heap.size w w' → Calls Tryd.prog 43 #[u, .int .i64 label] w' fun e w2 => e = .returned (.pointer none) ∧ w' = w2
theorem NoOf.nil (label : Int) (w : World) : NoOf (.pointer none) label w := fun w' _ => of_nil label w'
theorem NoOf.out {w : World} {base L cut labels : Nat} {pv : Value} {G : Nat → Nat} {H E : Nat → Value} {l : Nat → List En} (h : LogI w base L cut labels pv G H E l) (label : Int) (hl : label < 0 ∨ (labels : Int) ≤ label) : NoOf (.pointer (some ⟨L, 0, none⟩)) label w :=
  fun w' hb => of_out (h.below hb) label hl
set_option maxRecDepth 100000 in
set_option maxHeartbeats 4000000 in
theorem Put_no {u : Value} {label : Int} {w : World} (h : NoOf u label w) (e : En) (hu : u = .pointer none ∨ ∃ L, u = .pointer (some ⟨L, 0, none⟩)) :
    Calls Tryd.prog 21 #[u, .int .i64 label, .agg (encE e)] w fun z w' => z = .returned (.int .i64 1) ∧ Below w.heap.size w w' := by
  have hH : Hid (NoOf u label w) := h
  clear h
  rcases hu with rfl | ⟨L, rfl⟩
  all_goals
    go_enter Tryd.func21, Tryd.ntmps21
    go_upto_region 1 with fail
    generalize hW : World.alloc _ _ = W
    have hWB : Below w.heap.size w W := by rw [← hW]; exact (Below.refl _ _).alloc (Nat.le_refl _) _
    clear hW
    have hc := hH.out W hWB
    have hBH : Hid (Below w.heap.size w W) := hWB
    clear hH hWB
    go_wp2_with (go_at_call 43; refine hc.mono ?_; rintro e w' ⟨rfl, rfl⟩)
    go_ret
    exact ⟨rfl, hBH.out⟩
set_option maxRecDepth 100000 in
set_option maxHeartbeats 4000000 in
theorem Put_bad {w : World} {base L cut labels : Nat} {pv : Value} {G : Nat → Nat} {H E : Nat → Value} {l : Nat → List En} (h : LogI w base L cut labels pv G H E l) (k : Nat) (hk : k < labels) (e : En) (hb : goodE e = false) :
    Calls Tryd.prog 21 #[.pointer (some ⟨L, 0, none⟩), .int .i64 (k : Int), .agg (encE e)] w fun z w' => z = .returned (.int .i64 1) ∧ Below w.heap.size w w' := by
  have hH : Hid (LogI w base L cut labels pv G H E l) := h
  have hbH : Hid (goodE e = false) := hb
  clear h hb
  go_enter Tryd.func21, Tryd.ntmps21
  go_upto_region 1 with fail
  generalize hW : World.alloc _ _ = W
  have hW0 : W.heap[w.heap.size]? = some (.cells (encE e) 24 (0, 0)) := by rw [← hW]; exact heap_alloc_new _ _
  have hWB : Below w.heap.size w W := by rw [← hW]; exact (Below.refl _ _).alloc (Nat.le_refl _) _
  clear hW
  obtain ⟨B, hB⟩ : ∃ B, B = w.heap.size := ⟨_, rfl⟩
  rw [← hB] at hW0 ⊢
  have hSW : Hid (BS w B e W) := ⟨hW0, hWB⟩
  clear hW0 hWB hB
  refine wp_region_lit ?_
  refine sl_run rfl (.pointer (some ⟨L, 0, none⟩)) W (by kernel_rfl) ?_
  simp only [Act.put, fl1, fl2, fl3]
  refine sl_run rfl (.int .i64 (k : Int)) W (by kernel_rfl) ?_
  simp only [Act.put, fl1, fl2, fl3]
  refine sg_call (by kernel_rfl) 43 #[.pointer (some ⟨L, 0, none⟩), .int .i64 (k : Int)] (by kernel_rfl) (R := fun v w' => v = .pointer (some ⟨G k, 0, none⟩) ∧ W = w') ((of_in (hH.out.below hSW.out.bel) k hk).mono fun z w' q => ⟨_, q.1, rfl, q.2⟩) ?_
  rintro _ _ ⟨rfl, rfl⟩
  simp only [Act.put, fl1, fl2, fl3]
  refine sl_run rfl (.pointer (some ⟨G k, 0, none⟩)) W (by kernel_rfl) ?_
  simp only [Act.put, fl1, fl2, fl3]
  refine wpList_nil ?_
  go_upto_region 2 with fail
  refine wp_region_lit ?_
  refine sl_run rfl (.pointer (some ⟨G k, 0, none⟩)) W (by kernel_rfl) ?_
  simp only [Act.put, fl1, fl2, fl3]
  refine sl_run rfl (.bool false) W (by kernel_rfl) ?_
  simp only [Act.put, fl1, fl2, fl3]
  refine sl_run rfl (.bool false) W (by kernel_rfl) ?_
  simp only [Act.put, fl1, fl2, fl3]
  refine sg_run (by kernel_rfl) (.agg (encE e)) W (exec_load_row 24 W _ rfl B (by kernel_rfl) 24 (encE e) (0, 0) _ hSW.out.box Tryd.underlying24 rfl (by rw [encE_size']; kernel_rfl)) ?_
  simp only [Act.put, fl1, fl2, fl3]
  refine sg_call (by kernel_rfl) 14 #[.agg (encE e)] (by kernel_rfl) (R := fun v w' => v = .bool false ∧ Below W.heap.size W w') ((hbH.out ▸ good_calls e W).mono fun e w' h => ⟨_, h.1, rfl, h.2⟩) ?_
  rintro _ w1 ⟨rfl, hb⟩
  simp only [Act.put, fl1, fl2, fl3]
  have hF : Hid (Below w.heap.size w w1) := hSW.out.bel.trans (hb.mono hSW.out.bel.size)
  clear hb hSW hH hbH
  refine sg_run (by kernel_rfl) (.bool true) w1 (by kernel_rfl) ?_
  simp only [Act.put, fl1, fl2, fl3]
  refine sg_run (by kernel_rfl) (.bool true) w1 (by kernel_rfl) ?_
  simp only [Act.put, fl1, fl2, fl3]
  refine wpList_nil ?_
  go_wp2_with fail
  go_ret
  exact ⟨rfl, hF.out⟩
theorem LHead_no {u : Value} {label : Int} {w : World} (h : NoOf u label w) (hu : u = .pointer none ∨ ∃ L, u = .pointer (some ⟨L, 0, none⟩)) :
    Calls Tryd.prog 22 #[u, .int .i64 label] w fun z w' => z = .returned (.tuple #[.slice none 0 0, .int .i64 1]) ∧ w = w' := by
  have hc := h w (Below.refl _ _)
  clear h
  rcases hu with rfl | ⟨L, rfl⟩
  all_goals
    go_enter Tryd.func22, Tryd.ntmps22
    go_wp2_with (go_at_call 43; refine hc.mono ?_; rintro e w' ⟨rfl, rfl⟩)
    go_ret2
    exact ⟨rfl, rfl⟩
theorem LLen_no {u : Value} {label : Int} {w : World} (h : NoOf u label w) (hu : u = .pointer none ∨ ∃ L, u = .pointer (some ⟨L, 0, none⟩)) :
    Calls Tryd.prog 23 #[u, .int .i64 label] w fun z w' => z = .returned (.int .i64 0) ∧ w = w' := by
  have hc := h w (Below.refl _ _)
  clear h
  rcases hu with rfl | ⟨L, rfl⟩
  all_goals
    go_enter Tryd.func23, Tryd.ntmps23
    go_wp2_with (go_at_call 43; refine hc.mono ?_; rintro e w' ⟨rfl, rfl⟩)
    go_ret
    exact ⟨rfl, rfl⟩
theorem LLen_in {w : World} {base L cut labels : Nat} {pv : Value} {G : Nat → Nat} {H E : Nat → Value} {l : Nat → List En} (h : LogI w base L cut labels pv G H E l) (k : Nat) (hk : k < labels) :
    Calls Tryd.prog 23 #[.pointer (some ⟨L, 0, none⟩), .int .i64 (k : Int)] w fun z w' => z = .returned (.int .i64 ((l k).length : Int)) ∧ w = w' := by
  have hc := of_in h k hk
  have h2 : w.cell? ⟨G k, 2, none⟩ = some (.int .i64 ((l k).length : Int)) := cell_row (h.chain k hk).row rfl
  clear h
  go_enter Tryd.func23, Tryd.ntmps23
  go_wp2_with (go_at_call 43; refine hc.mono ?_; rintro e w' ⟨rfl, rfl⟩)
  go_ret
  exact ⟨rfl, rfl⟩
set_option maxRecDepth 100000 in
set_option maxHeartbeats 4000000 in
theorem LHead_in {w : World} {base L cut labels : Nat} {pv : Value} {G : Nat → Nat} {H E : Nat → Value} {l : Nat → List En} (h : LogI w base L cut labels pv G H E l) (hc32 : cut ≤ 32) (k : Nat) (hk : k < labels) :
    Calls Tryd.prog 22 #[.pointer (some ⟨L, 0, none⟩), .int .i64 (k : Int)] w fun z w' => ∃ v, z = .returned (.tuple #[v, .int .i64 0]) ∧ Bytes w' v (headP cut (l k) (l k).length) ∧ Below w.heap.size w w' := by
  have hc := of_in h k hk
  obtain ⟨hg0, hrow, hhead, hents⟩ := h.chain k hk
  clear h
  have hlen := @headP_len cut hc32 (l k) (l k).length
  obtain ⟨P, hP⟩ : ∃ P, P = headP cut (l k) (l k).length := ⟨_, rfl⟩
  rw [← hP] at hhead hlen ⊢
  obtain ⟨A, c, hA⟩ := own_form hhead
  rw [hA] at hhead hrow
  have hby := own_bytes hhead
  have h1 : w.cell? ⟨G k, 1, none⟩ = some (.slice A P.length c) := cell_row hrow rfl
  have hcl := clone_calls P A P.length c w rfl (by omega) hby
  have hclH : Hid (Calls Tryd.prog 44 #[.slice A P.length c] w fun e w' => ∃ v, e = .returned v ∧ w'.ownsRow w.heap.size 5 1 v P.length (vals P) ∧ Below w.heap.size w w') := hcl
  clear hhead hA hrow hents hcl hby hP hlen
  go_enter Tryd.func22, Tryd.ntmps22
  go_upto_region 4 with (go_at_call 43; refine hc.mono ?_; rintro e w' ⟨rfl, rfl⟩)
  refine wp_region_lit ?_
  refine sl_run rfl (.pointer (some ⟨G k, 0, none⟩)) w (by kernel_rfl) ?_
  simp only [Act.put, fl1, fl2, fl3]
  refine sl_run rfl (.pointer (some ⟨G k, 0, none⟩)) w (by kernel_rfl) ?_
  simp only [Act.put, fl1, fl2, fl3]
  refine sl_run rfl (.pointer (some ⟨G k, 0, none⟩)) w (by kernel_rfl) ?_
  simp only [Act.put, fl1, fl2, fl3]
  refine sl_run rfl (.pointer (some ⟨G k, 1, none⟩)) w (by kernel_rfl) ?_
  simp only [Act.put, fl1, fl2, fl3]
  refine sl_run rfl (.slice A P.length c) w (exec_load_cell 25 w _ rfl ⟨G k, 1, none⟩ (by kernel_rfl) _ h1 (fun _ => by kernel_rfl)) ?_
  simp only [Act.put, fl1, fl2, fl3]
  refine sg_call (by kernel_rfl) 44 #[.slice A P.length c] (by kernel_rfl) (R := fun v w' => w'.ownsRow w.heap.size 5 1 v P.length (vals P) ∧ Below w.heap.size w w') (hclH.out.mono fun z w' q => q) ?_
  rintro v w1 ⟨hy, hb⟩
  simp only [Act.put, fl1, fl2, fl3]
  have hF : Hid (Bytes w1 v P ∧ Below w.heap.size w w1) := ⟨own_bytes hy, hb⟩
  clear hy hb hclH h1 hc
  refine sl_run rfl (v) w1 (by kernel_rfl) ?_
  simp only [Act.put, fl1, fl2, fl3]
  refine sl_run rfl (.int .i64 0) w1 (by kernel_rfl) ?_
  simp only [Act.put, fl1, fl2, fl3]
  refine wpList_nil ?_
  go_wp2_with fail
  go_ret2
  exact ⟨_, rfl, hF.out.1, hF.out.2⟩
end Go.Proofs.YtadopkifpfmhcaaDoor
namespace Go.Proofs.YtadopkifpfmhcaaDoor
open Go.RowKit
open Sha (vals Bytes Lies bytesC sumB)
open Go.Proofs.YtadopkifpfmhcaaDoorW.PrintWords Go.Proofs.YtadopkifpfmhcaaDoorW.PrintLast Go.Proofs.YtadopkifpfmhcaaDoorW.PrintMore
/-- Bytes as a string. -/
def strB (l : List Nat) : ByteArray := (l.map fun (n : Nat) => (n : Int)).foldl (fun r n => r.push (UInt8.ofNat n.toNat)) ByteArray.empty
theorem strB_data (l : List Nat) : ∀ s : ByteArray, ((l.map fun (n : Nat) => (n : Int)).foldl (fun r n => r.push (UInt8.ofNat n.toNat)) s).data.toList = s.data.toList ++ l.map UInt8.ofNat := by
  induction l with
  | nil => intro s; simp
  | cons x l ih =>
    intro s
    rw [List.map_cons, List.foldl_cons, ih]
    simp [ByteArray.push]
theorem strB_list (l : List Nat) : (strB l).data.toList = l.map UInt8.ofNat := by rw [strB, strB_data]; simp
theorem strB_inj {a b : List Nat} (ha : ∀ x ∈ a, x < 256) (hb : ∀ x ∈ b, x < 256) (h : (strB a).toList = (strB b).toList) : a = b := by
  have h1 : a.map UInt8.ofNat = b.map UInt8.ofNat := by rw [← strB_list, ← strB_list, ← ByteArray.toList_eq, ← ByteArray.toList_eq, h]
  have h2 : ∀ l : List Nat, (∀ x ∈ l, x < 256) → (l.map UInt8.ofNat).map UInt8.toNat = l := fun l hl => by
    rw [List.map_map]
    refine (List.map_congr_left (g := id) fun x hx => ?_).trans (List.map_id _)
    have := hl x hx
    simp [Function.comp, Nat.mod_eq_of_lt this]
  rw [← h2 a ha, h1, h2 b hb]
theorem strB_eq {a b : List Nat} (ha : ∀ x ∈ a, x < 256) (hb : ∀ x ∈ b, x < 256) : ((strB a).toList == (strB b).toList) = decide (a = b) := by
  rw [Bool.eq_iff_iff, beq_iff_eq, decide_eq_true_iff]
  exact ⟨strB_inj ha hb, fun h => by rw [h]⟩
theorem exec_convB {o : Oper} {a : Act} {w : World} (x : Operand) (ho : o.op = .convert 25 9 x) (v : Value) (l : List Nat) (hx : a.eval x = v) (hy : Bytes w v l) :
    (execOp a.eval o).run Tryd.prog w = .ok (.value (.string (strB l))) w := by
  have hr : (convert 25 9 v).run Tryd.prog w = .ok (.string (strB l)) w := by
    rcases hy with ⟨A, c, rfl, rfl, hA⟩ | ⟨g, o, c, rfl, h1, h2, h3⟩
    · rw [run_convert_bytes_string w 25 9 5 A 0 c Tryd.underlying25 Tryd.underlying5 Tryd.underlying9]
      cases A with
      | none => simp [Conv.bytesToString, strB]
      | some ad =>
        refine run_bytesToString w ad 0 c [] ?_
        simpa using run_loadCells_list (P := Tryd.prog) (w := w) ad [] (by simp)
    · rw [run_convert_bytes_string w 25 9 5 _ _ c Tryd.underlying25 Tryd.underlying5 Tryd.underlying9]
      refine run_bytesToString w ⟨g, o, none⟩ l.length c (l.map fun (n : Nat) => (n : Int)) ?_
      have := run_loadCells_list (P := Tryd.prog) (w := w) ⟨g, o, none⟩ ((l.map fun (n : Nat) => (n : Int)).map (Value.int .u8)) (fun j u hu => by
        have hj : j < l.length := by have := (List.getElem?_eq_some_iff.1 hu).1; simpa using this
        rw [Addr.add_mid, h3 j hj]
        simp only [List.getElem?_map, List.getElem?_eq_getElem hj, Option.map_some, Option.some.injEq] at hu
        rw [← hu]
        simp [List.getD_eq_getElem?_getD, hj])
      simpa using this
  unfold execOp
  simp [ho, hx, hr]
theorem exec_neS {o : Oper} {a : Act} {w : World} (t : TypeId) (x y : Operand) (ho : o.op = .binOp .neq t x y t) (u v : ByteArray) (hx : a.eval x = .string u) (hy : a.eval y = .string v) (b : Bool) (hb : (!(u.toList == v.toList)) = b) : (execOp a.eval o).run Tryd.prog w = .ok (.value (.bool b)) w := by
  subst hb; unfold execOp
  simp [ho, hx, hy, eqGuard, binOp_string_neq, bne]
theorem exec_eqS {o : Oper} {a : Act} {w : World} (t : TypeId) (x y : Operand) (ho : o.op = .binOp .eql t x y t) (u v : ByteArray) (hx : a.eval x = .string u) (hy : a.eval y = .string v) (b : Bool) (hb : (u.toList == v.toList) = b) : (execOp a.eval o).run Tryd.prog w = .ok (.value (.bool b)) w := by
  subst hb; unfold execOp
  simp [ho, hx, hy, eqGuard, binOp_string_eql]
set_option maxRecDepth 100000 in
set_option maxHeartbeats 4000000 in
theorem rVerify_calls (cut : Int) (l : List En) (hok : ∀ x ∈ l, x.ok) (A : Option Addr) (n c : Nat) (hn : n = l.length) (hn9 : n ≤ 1000000000) (q : List Nat) (hq : ∀ x ∈ q, x < 256) (u : Value) (w : World) (hy : Rw 35 encE w (.slice A n c) l) (hu : Bytes w u q) :
    Calls Tryd.prog 19 #[.int .i64 cut, .slice A n c, u] w fun e w' => e = .returned (.int .i64 (verS cut l q : Int)) ∧ Below w.heap.size w w' := by
  have hn' : Hid (n = l.length) := hn
  have hyw : Hid (Rw 35 encE w (.slice A n c) l) := hy
  have huw : Hid (Bytes w u q) := hu
  have hBw : Hid (Below w.heap.size w w) := Below.refl _ _
  have hokH : Hid (∀ x ∈ l, x.ok) := hok
  have hqH : Hid (∀ x ∈ q, x < 256) := hq
  obtain ⟨V, hV⟩ : ∃ V, V = verS cut l q := ⟨_, rfl⟩
  rw [← hV]
  have hVH : Hid (V = verS cut l q) := hV
  clear hn hy hok hu hq hV
  go_enter Tryd.func19, Tryd.ntmps19
  go_upto_region 1 with fail
  refine wp_region_lit ?_
  obtain ⟨rb, hrb⟩ : ∃ b, b = rightS cut l := ⟨_, rfl⟩
  refine sl_run rfl (.int .i64 cut) w (by kernel_rfl) ?_
  simp only [Act.put, fl1, fl2, fl3]
  refine sl_run rfl (.slice A n c) w (by kernel_rfl) ?_
  simp only [Act.put, fl1, fl2, fl3]
  refine sg_call (by kernel_rfl) 40 #[.int .i64 cut, .slice A n c] (by kernel_rfl) (R := fun v w' => v = .bool rb ∧ Below w.heap.size w w') ((rright_calls cut l A n c hn'.out hn9 w hyw.out).mono fun e w' h => ⟨_, h.1, by rw [hrb], h.2⟩) ?_
  rintro _ w1 ⟨rfl, hb⟩
  simp only [Act.put, fl1, fl2, fl3]
  have hBw1 : Hid (Below w.heap.size w w1) := hBw.out.trans ((hb).mono (hBw.out).size)
  have hyw1 : Hid (Rw 35 encE w1 (.slice A n c) l) := (hyw.out).below hb
  have huw1 : Hid (Bytes w1 u q) := (huw.out).below hb
  clear hBw hyw huw
  clear hb
  refine sl_run rfl (.bool (!rb)) w1 (by kernel_rfl) ?_
  simp only [Act.put, fl1, fl2, fl3]
  refine wpList_nil ?_
  cases rb with
  | false =>
    have hs : headS cut l = ([], 1) := by unfold headS; rw [if_neg (by rw [← hrb]; decide)]
    have hq := hVH.out
    unfold verS at hq
    rw [hs] at hq
    simp at hq
    subst hq
    clear hVH hs hyw1 huw1 hrb
    go_wp2_with fail
    go_ret
    exact ⟨rfl, hBw1.out⟩
  | true =>
    obtain ⟨hc1, hc2⟩ := right_cut hrb.symm
    have hs : headS cut l = (headP cut.toNat l n, 0) := by unfold headS; rw [if_pos hrb.symm, hn'.out]
    have hqv := hVH.out
    unfold verS at hqv
    rw [hs] at hqv
    simp only [true_and] at hqv
    obtain ⟨m, rfl⟩ : ∃ m : Nat, cut = (m : Int) := ⟨cut.toNat, by omega⟩
    rw [Int.toNat_natCast] at hqv
    have hVH2 : Hid (V = if headP m l n ≠ q then 23 else 0) := hqv
    have hm32 : m ≤ 32 := by omega
    clear hVH hs hrb hqv
    go_upto_region 3 with fail
    refine wp_normal ?_
    refine wp_region_held_drew (S := fun w' => Below w1.heap.size w1 w') (by kernel_rfl) (Below.refl _ _).drew (fun hS => ?_)
    change wpAnyH _ _ _ _ _ 7 (Array.replicate 7 false) _ _
    generalize hx : w1.drew = y at hS ⊢
    clear hx
    refine held_take 0 rfl (by kernel_rfl) (by kernel_rfl) (by kernel_rfl) (.int .i64 (m : Int)) (fun _ _ _ h => nomatch h.1) (by kernel_rfl) (fun w' h => (by kernel_rfl)) hS ?_
    simp only [Act.put, fl1, fl2, fl3, fl4, fl5, fl6]
    refine held_take 1 rfl (by kernel_rfl) (by kernel_rfl) (by kernel_rfl) (.slice A n c) (fun _ _ _ h => nomatch h.1) (by kernel_rfl) (fun w' h => (by kernel_rfl)) hS ?_
    simp only [Act.put, fl1, fl2, fl3, fl4, fl5, fl6]
    refine held_take 4 rfl (by kernel_rfl) (by kernel_rfl) (by kernel_rfl) (u) (fun _ _ _ h => nomatch h.1) (by kernel_rfl) (fun w' h => (by kernel_rfl)) hS ?_
    simp only [Act.put, fl1, fl2, fl3, fl4, fl5, fl6]
    refine held_take 5 rfl (by kernel_rfl) (by kernel_rfl) (by kernel_rfl) (.string (strB q)) (fun _ _ _ h => nomatch h.1) (by kernel_rfl) (fun w' h => (exec_convB _ rfl u q (by kernel_rfl) (huw1.out.below h))) hS ?_
    simp only [Act.put, fl1, fl2, fl3, fl4, fl5, fl6]
    refine held_call 2 rfl (by kernel_rfl) (by kernel_rfl) 41 #[.int .i64 (m : Int), .slice A n c] (by kernel_rfl) (R := fun v w' => Bytes w' v (headP m l n) ∧ Below y.heap.size y w') ((rhead_calls m hm32 l hokH.out A n c hn'.out hn9 y (hyw1.out.below hS)).mono fun e w' h => by
      obtain ⟨v, h1, h2, h3⟩ := h
      exact ⟨_, h1, own_bytes h2, h3⟩) ?_
    rintro hv w2 ⟨hby, hb⟩
    have hS2 : Below w1.heap.size w1 w2 := hS.trans (hb.mono hS.size)
    refine ⟨hS2, ?_⟩
    simp only [Act.put, fl1, fl2, fl3, fl4, fl5, fl6]
    clear hS hb
    refine held_run 3 rfl (by kernel_rfl) (by kernel_rfl) (.string (strB (headP m l n))) w2 (exec_convB _ rfl hv (headP m l n) (by kernel_rfl) hby) hS2 ?_
    simp only [Act.put, fl1, fl2, fl3, fl4, fl5, fl6]
    refine held_run 6 rfl (by kernel_rfl) (by kernel_rfl) (.bool (!decide (headP m l n = q))) w2 (exec_neS 9 _ _ rfl (strB (headP m l n)) (strB q) (by kernel_rfl) (by kernel_rfl) _ (by rw [strB_eq (headP_lt m l n) hqH.out])) hS2 ?_
    simp only [Act.put, fl1, fl2, fl3, fl4, fl5, fl6]
    refine wpAnyH_done (by kernel_rfl) ?_ _
    refine ⟨rfl, ?_⟩
    rename_i hK
    refine hK _ _ ?_
    clear hK
    have hF : Hid (Below w.heap.size w w2) := hBw1.out.trans (hS2.mono hBw1.out.size)
    clear hS2 hby hBw1 hyw1 huw1
    obtain ⟨same, hsame⟩ : ∃ b, b = decide (headP m l n = q) := ⟨_, rfl⟩
    rw [← hsame]
    cases same with
    | true =>
      have hv0 : V = 0 := by rw [hVH2.out, if_neg (fun h => h (of_decide_eq_true hsame.symm))]
      subst hv0
      clear hVH2 hsame
      go_wp2_with fail
      go_ret
      exact ⟨rfl, hF.out⟩
    | false =>
      have hv0 : V = 23 := by rw [hVH2.out, if_pos (of_decide_eq_false hsame.symm)]
      subst hv0
      clear hVH2 hsame
      go_wp2_with fail
      go_ret
      exact ⟨rfl, hF.out⟩
end Go.Proofs.YtadopkifpfmhcaaDoor
namespace Go.Proofs.YtadopkifpfmhcaaDoor
open Go.RowKit
open Sha (vals Bytes Lies bytesC sumB)
open Go.Proofs.YtadopkifpfmhcaaDoorW.PrintWords Go.Proofs.YtadopkifpfmhcaaDoorW.PrintLast Go.Proofs.YtadopkifpfmhcaaDoorW.PrintMore
theorem begun_own (m : Nat) (hm : m ≤ 32) (w : World) : Calls Tryd.prog 38 #[.int .i64 (m : Int)] w fun e w' => ∃ v, e = .returned (.agg #[.int .i64 (m : Int), v, .int .i64 0]) ∧ w'.ownsRow w.heap.size 5 1 v (List.replicate m 0).length (vals (List.replicate m 0)) ∧ Below w.heap.size w w' := by
  have hx : mx (m : Int) 0 = (m : Int) := by unfold mx; split <;> omega
  have hf : PA.chain_begun.f (m : Int) = some ((m : Int), ints (List.replicate m 0), 0) := by
    unfold PA.chain_begun.f
    rw [hx, if_pos (by omega), if_pos (by omega)]
    simp [ints]
  exact (PA.chain_begun.calls (m : Int) _ _ _ w hf).mono fun e w' h => by
    obtain ⟨v, h1, h2, h3⟩ := h
    exact ⟨v, h1, kd_own h2, h3⟩
def encP (g : Nat) : Array Value := #[.pointer (some ⟨g, 0, none⟩)]
theorem encP_size (g : Nat) : (encP g).size = 1 := rfl
theorem encP_one (g : Nat) : ∀ u ∈ (encP g).toList, u.oneCell' = true := by simp [encP, Value.oneCell']
theorem flat_ptr (l : List Nat) : flat encP l = l.map fun g => .pointer (some ⟨g, 0, none⟩) := by
  induction l with
  | nil => rfl
  | cons x l ih =>
    have : flat encP (x :: l) = .pointer (some ⟨x, 0, none⟩) :: flat encP l := by simp [flat, encP]
    rw [this, ih]; rfl
theorem inf80 : (Tryd.prog.info? 80).map (fun i => (i.zero, i.size, i.bytes)) = some (some (.pointer none), 1, 8) := by kernel_rfl
theorem un77 : Tryd.prog.underlying 77 = some (.slice 80) := by kernel_rfl
def nilS : Value := .slice none 0 0
theorem range_upd (G : Nat → Nat) (i g : Nat) : ((List.range (i + 1)).map (upd G i g)) = (List.range i).map G ++ [g] := by
  rw [List.range_succ, List.map_append]
  congr 1
  · exact List.map_congr_left fun j hj => upd_other _ _ (by have := List.mem_range.1 hj; omega)
  · simp [upd]
/-- A log behind one chain more. -/
theorem LogI.more {w w' : World} {base L cut i gg : Nat} {pv pv2 : Value} {G : Nat → Nat} {H E : Nat → Value} {l : Nat → List En} (h : LogI w base L cut i pv G H E l) {hv : Value}
    (hK : KpS (fun q => pv.ownBlock = some q ∨ q = L) w w') (hr : w'.heap[L]? = some (.cells #[pv2] 79 (0, 0))) (hp : w'.ownsRow base 80 1 pv2 (i + 1) ((List.range (i + 1)).map fun k => .pointer (some ⟨upd G i gg k, 0, none⟩)))
    (hc : ChAt w' base cut gg hv nilS []) (hgg : ∀ k, k < i → gg ≠ G k) : LogI w' base L cut (i + 1) pv2 (upd G i gg) (upd H i hv) (upd E i nilS) (upd l i []) := by
  refine ⟨hr, h.l0, hp, fun k hk => ?_, fun j k hj hk e => ?_, fun j k hj hk hne q hq hq2 => ?_⟩
  · by_cases e : k = i
    · subst e; rw [upd_same, upd_same, upd_same, upd_same]; exact hc
    · rw [upd_other _ _ e, upd_other _ _ e, upd_other _ _ e, upd_other _ _ e]
      have hck := h.chain k (by omega)
      refine hck.keep hK (fun hs => ?_) (fun q hq hs => ?_) (fun q hq hs => ?_)
      · rcases hs with hs | hs
        · exact own_kind h.ptrs hck.row (by decide) hs.symm
        · have h1 := hck.row
          rw [hs, h.root] at h1; simp at h1
      · rcases hs with hs | rfl
        · exact own_other h.ptrs hck.head (by decide) q hq hs.symm
        · exact own_kind hck.head h.root (by decide) hq.symm
      · rcases hs with hs | rfl
        · exact own_other h.ptrs hck.ents (by decide) q hq hs.symm
        · exact own_kind hck.ents h.root (by decide) hq.symm
  · by_cases ej : j = i
    · by_cases ek : k = i
      · omega
      · subst ej; rw [upd_same, upd_other _ _ ek] at e; exact absurd e (hgg k (by omega))
    · by_cases ek : k = i
      · subst ek; rw [upd_same, upd_other _ _ ej] at e; exact absurd e.symm (hgg j (by omega))
      · rw [upd_other _ _ ej, upd_other _ _ ek] at e; exact h.injG j k (by omega) (by omega) e
  · by_cases ej : j = i
    · subst ej; rw [upd_same] at hq; simp [nilS, Value.ownBlock] at hq
    · by_cases ek : k = i
      · subst ek; rw [upd_same] at hq2; simp [nilS, Value.ownBlock] at hq2
      · rw [upd_other _ _ ej] at hq; rw [upd_other _ _ ek] at hq2; exact h.injE j k (by omega) (by omega) hne q hq hq2
theorem New_bad (cut labels : Int) (w : World) (h : cut < 1 ∨ 32 < cut ∨ labels < 1 ∨ 64 < labels) : Calls Tryd.prog 20 #[.int .i64 cut, .int .i64 labels] w fun e w' => e = .returned (.tuple #[.pointer none, .int .i64 1]) ∧ w = w' := by
  by_cases h1 : cut < 1
  · clear h
    go_enter Tryd.func20, Tryd.ntmps20
    go_wp2
    go_ret2
    exact ⟨rfl, rfl⟩
  · by_cases h2 : 32 < cut
    · clear h
      go_enter Tryd.func20, Tryd.ntmps20
      go_wp2
      go_ret2
      exact ⟨rfl, rfl⟩
    · by_cases h3 : labels < 1
      · clear h
        go_enter Tryd.func20, Tryd.ntmps20
        go_wp2
        go_ret2
        exact ⟨rfl, rfl⟩
      · have h4 : 64 < labels := by omega
        clear h
        go_enter Tryd.func20, Tryd.ntmps20
        go_wp2
        go_ret2
        exact ⟨rfl, rfl⟩
/-- What of a log stays while its chains' row grows. -/
structure LogI2 (w : World) (base L cut i : Nat) (pv : Value) (G : Nat → Nat) (H : Nat → Value) : Prop where
  root : w.heap[L]? = some (.cells #[pv] 79 (0, 0))
theorem LogI.two {w : World} {base L cut i : Nat} {pv : Value} {G : Nat → Nat} {H E : Nat → Value} {l : Nat → List En} (h : LogI w base L cut i pv G H E l) : LogI2 w base L cut i pv G H := ⟨h.root⟩
theorem LogI2.below {w w' : World} {base L cut i : Nat} {pv : Value} {G : Nat → Nat} {H : Nat → Value} (h : LogI2 w base L cut i pv G H) (hb : Below w.heap.size w w') : LogI2 w' base L cut i pv G H := ⟨heap_kept h.root hb⟩
theorem LogI2.grown {w w' : World} {base L cut i : Nat} {pv : Value} {G : Nat → Nat} {H : Nat → Value} {r : Option Nat} (h : LogI2 w base L cut i pv G H) (hg : w.grownBy w' r) (hn : some L ≠ r) : LogI2 w' base L cut i pv G H := ⟨(hg.block L (Array.getElem?_eq_some_iff.1 h.root).1 hn).trans h.root⟩
/-- How far the log is made. -/
def NewI (w0 : World) (L cut i : Nat) (w : World) : Prop := (∃ pv G H, LogI w w0.heap.size L cut i pv G H (fun _ => nilS) (fun _ => [])) ∧ Below w0.heap.size w0 w
set_option maxRecDepth 100000 in
set_option maxHeartbeats 8000000 in
theorem New_calls (cut labels : Nat) (hc1 : 1 ≤ cut) (hc : cut ≤ 32) (hl1 : 1 ≤ labels) (hl : labels ≤ 64) (w : World) :
    Calls Tryd.prog 20 #[.int .i64 (cut : Int), .int .i64 (labels : Int)] w fun e w' => ∃ L, e = .returned (.tuple #[.pointer (some ⟨L, 0, none⟩), .int .i64 0]) ∧ NewI w L cut labels w' := by
  have h1 : ¬ (cut : Int) < 1 := by omega
  have h2 : ¬ 32 < (cut : Int) := by omega
  have h3 : ¬ (labels : Int) < 1 := by omega
  have h4 : ¬ 64 < (labels : Int) := by omega
  have h5 : ¬ (labels : Int) > 64 := by omega
  have h6 : ¬ (cut : Int) > 32 := by omega
  go_enter Tryd.func20, Tryd.ntmps20
  go_upto_region 4 with fail
  clear h1 h2 h3 h4 h5 h6
  generalize hW : World.alloc _ _ = W
  have hW0 : W.heap[w.heap.size]? = some (.cells #[nilS] 79 (0, 0)) := by rw [← hW]; exact heap_alloc_new _ _
  have hWB : Below w.heap.size w W := by rw [← hW]; exact (Below.refl _ _).alloc (Nat.le_refl _) _
  clear hW
  have hI0 : NewI w w.heap.size cut 0 W := ⟨⟨nilS, fun _ => 0, fun _ => nilS, hW0, Nat.le_refl _, World.ownsRow_nil _ _ _ _, fun k hk => by omega, fun j k hj => by omega, fun j k hj => by omega⟩, hWB⟩
  obtain ⟨L, hL⟩ : ∃ L, L = w.heap.size := ⟨_, rfl⟩
  rw [← hL] at hI0 ⊢
  have hIH : Hid (NewI w L cut 0 W) := hI0
  clear hW0 hWB hI0 hL
  go_wp2_with fail
  go_loopw [24] (fun u wr => ∃ i : Nat, i ≤ labels ∧ u = .int .i64 (i : Int) ∧ Hid (NewI w L cut i wr)) (fun u _ => labels - (intOf u).toNat)
  case atStart => exact ⟨0, by omega, rfl, hIH⟩
  case round =>
    obtain ⟨i, hin, rfl, hH⟩ := hrel
    obtain ⟨wo, rfl⟩ : ∃ v : World, v = wr := ⟨_, rfl⟩
    clear hIH
    by_cases hi : i < labels
    · have hI : (i : Int) < (labels : Int) := by omega
      obtain ⟨⟨pv, G, H, hlog⟩, hbel⟩ := hH.out
      have hlogH : Hid (LogI wo w.heap.size L cut i pv G H (fun _ => nilS) (fun _ => [])) := hlog
      have hbH : Hid (Below w.heap.size w wo) := hbel
      obtain ⟨Ap, cp, hA⟩ := own_form hlog.ptrs
      clear hH hlog hbel
      go_upto_region 6 with fail
      refine wp_normalG ?_
      refine wp_region_headed 11 (fun w' => LogI2 w' w.heap.size L cut i pv G H) (by kernel_rfl) (by kernel_rfl) (hlogH.out.two.below (Below.refl _ _).drew) (fun hS => ?_)
      have hly : LogI wo.drew w.heap.size L cut i pv G H (fun _ => nilS) (fun _ => []) := hlogH.out.below (Below.refl _ _).drew
      have hby : Below w.heap.size w wo.drew := hbH.out.drew
      clear hlogH hbH
      generalize hx : wo.drew = y at hS hly hby ⊢
      clear hx
      change WH _ _ _ _ _ _ _ 11 (Array.replicate 14 false) _ _
      refine hh_take 0 rfl (by decide) (by kernel_rfl) (by kernel_rfl) (.pointer (some ⟨L, 0, none⟩)) (fun _ _ _ h => nomatch h.1) (by kernel_rfl) (fun w' h => (by kernel_rfl)) hS ?_
      simp only [Act.put, fl1, fl2, fl3, fl4, fl5, fl6]
      refine hh_take 1 rfl (by decide) (by kernel_rfl) (by kernel_rfl) (.pointer (some ⟨L, 0, none⟩)) (fun _ _ _ h => nomatch h.1) (by kernel_rfl) (fun w' h => (by kernel_rfl)) hS ?_
      simp only [Act.put, fl1, fl2, fl3, fl4, fl5, fl6]
      refine hh_take 2 rfl (by decide) (by kernel_rfl) (by kernel_rfl) (.pointer (some ⟨L, 0, none⟩)) (fun _ _ _ h => nomatch h.1) (by kernel_rfl) (fun w' h => (by kernel_rfl)) hS ?_
      simp only [Act.put, fl1, fl2, fl3, fl4, fl5, fl6]
      refine hh_take 3 rfl (by decide) (by kernel_rfl) (by kernel_rfl) (.pointer (some ⟨L, 0, none⟩)) (fun _ _ _ h => nomatch h.1) (by kernel_rfl) (fun w' h => (by kernel_rfl)) hS ?_
      simp only [Act.put, fl1, fl2, fl3, fl4, fl5, fl6]
      refine hh_take 4 rfl (by decide) (by kernel_rfl) (by kernel_rfl) (pv) (fun _ _ _ h => nomatch h.1) (by kernel_rfl) (fun w' h => (exec_load_cell 77 w' _ rfl ⟨L, 0, none⟩ (by kernel_rfl) _ (by rw [cell_of_row _ _ _ _ _ _ h.root]; rfl) (fun _ => by kernel_rfl))) hS ?_
      simp only [Act.put, fl1, fl2, fl3, fl4, fl5, fl6]
      refine hh_take 5 rfl (by decide) (by kernel_rfl) (by kernel_rfl) (.int .i64 (cut : Int)) (fun _ _ _ h => nomatch h.1) (by kernel_rfl) (fun w' h => (by kernel_rfl)) hS ?_
      simp only [Act.put, fl1, fl2, fl3, fl4, fl5, fl6]
      refine hh_call 6 rfl (by decide) (by kernel_rfl) (by kernel_rfl) 38 #[.int .i64 (cut : Int)] (by kernel_rfl) (R := fun v w' => ∃ hv, v = .agg #[.int .i64 (cut : Int), hv, .int .i64 0] ∧ w'.ownsRow y.heap.size 5 1 hv (List.replicate cut 0).length (vals (List.replicate cut 0)) ∧ Below y.heap.size y w') ((begun_own cut hc y).mono fun e w' h => by
        obtain ⟨v, h1, h2, h3⟩ := h
        exact ⟨_, h1, v, rfl, h2, h3⟩) ?_
      rintro _ y1 ⟨hv, rfl, hho, hb1⟩
      have hS1 := hS.below hb1
      refine ⟨hS1, ?_⟩
      simp only [Act.put, fl1, fl2, fl3, fl4, fl5, fl6]
      clear hS
      refine hh_run 7 rfl (by decide) (by kernel_rfl) (by kernel_rfl) (.agg #[.int .i64 (cut : Int), hv, .int .i64 0, nilS]) y1 (by kernel_rfl) hS1 ?_
      simp only [Act.put, fl1, fl2, fl3, fl4, fl5, fl6]
      refine hh_new 8 rfl (by decide) (by kernel_rfl) (by kernel_rfl) (.pointer (some ⟨y1.heap.size, 0, none⟩)) (y1.alloc (.cells #[.int .i64 (cut : Int), hv, .int .i64 0, nilS] 82)) (by kernel_rfl) (fun w' => LogI2 w' w.heap.size L cut i pv G H ∧ Below y.heap.size y w' ∧ w'.ownsRow y.heap.size 5 1 hv (List.replicate cut 0).length (vals (List.replicate cut 0)) ∧ w'.heap[y1.heap.size]? = some (.cells #[.int .i64 (cut : Int), hv, .int .i64 0, nilS] 82 (0, 0)) ∧ y.heap.size ≤ y1.heap.size) ⟨hS1.below ((Below.refl _ _).alloc (Nat.le_refl _) _), hb1.alloc hb1.size _, hho.alloc _, heap_alloc_new _ _, hb1.size⟩ ?_
      rintro y2 ⟨hS2, hb2, hho2, hgr, hle⟩
      refine ⟨hS2, ?_⟩
      simp only [Act.put, fl1, fl2, fl3, fl4, fl5, fl6]
      clear hS1 hb1 hho
      generalize y1.heap.size = gg at hgr hle ⊢
      refine hh_new 9 rfl (by decide) (by kernel_rfl) (by kernel_rfl) (.slice (some ⟨y2.heap.size, 0, none⟩) 1 1) (y2.alloc (.cells (encP gg) 80)) (by kernel_rfl) (fun w' => LogI2 w' w.heap.size L cut i pv G H ∧ Below y.heap.size y w' ∧ w'.ownsRow y.heap.size 5 1 hv (List.replicate cut 0).length (vals (List.replicate cut 0)) ∧ w'.heap[gg]? = some (.cells #[.int .i64 (cut : Int), hv, .int .i64 0, nilS] 82 (0, 0)) ∧ w'.heap[y2.heap.size]? = some (.cells (encP gg) 80 (0, 0))) ⟨hS2.below ((Below.refl _ _).alloc (Nat.le_refl _) _), hb2.alloc hb2.size _, hho2.alloc _, heap_kept hgr ((Below.refl _ _).alloc (Nat.le_refl _) _), heap_alloc_new _ _⟩ ?_
      rintro y3 ⟨hS3, hb3, hho3, hgr3, hnew⟩
      refine ⟨hS3, ?_⟩
      simp only [Act.put, fl1, fl2, fl3, fl4, fl5, fl6]
      clear hS2 hb2 hho2 hgr
      generalize y2.heap.size = rr at hnew ⊢
      obtain ⟨i80, hi, hz, hs1, hbt⟩ := info_parts inf80
      have hrg : ∀ i, i < [gg].length → y3.rangeAt rr (0 + i * 1) (encP ([gg].getD i default)).toList := fun i hi => by
        have : i = 0 := by simpa using hi
        subst this
        intro j u hu
        simp only [Nat.zero_add, Nat.zero_mul]
        rw [cell_of_row _ _ _ _ _ _ hnew]
        simpa using hu
      have hly3 := hly.below hb3
      have hpo : y3.ownsRow w.heap.size 80 1 pv ((List.range i).map G).length (flat encP ((List.range i).map G)) := by
        have := hly3.ptrs
        rw [flat_ptr, List.map_map, List.length_map, List.length_range]
        exact this
      refine hh_got 10 rfl (by decide) (by kernel_rfl) (by kernel_rfl) (R := fun v w' => w'.ownsRow w.heap.size 80 1 v ((List.range i).map G ++ [gg]).length (flat encP ((List.range i).map G ++ [gg])) ∧ y3.grownBy w' pv.ownBlock ∧ (v.ownBlock = pv.ownBlock ∨ ∀ q, v.ownBlock = some q → y3.heap.size ≤ q)) (exec_appendW 77 80 8 i80 _ un77 hi hz hs1 hbt rfl (by decide) encP_size encP_one _ _ rfl w.heap.size pv ((List.range i).map G) [gg] (by kernel_rfl) hpo rr 0 1 (by kernel_rfl) hrg (by simp; omega) (by simp; omega) (by have := hby.size; have := hb3.size; omega)) ?_
      rintro v2 y4 ⟨hv2, hgr4, hvb⟩
      have hS4 : LogI2 y4 w.heap.size L cut i pv G H := hS3.grown hgr4 (fun q => own_kind hpo hS3.root (by decide) q)
      refine ⟨hS4, ?_⟩
      simp only [Act.put, fl1, fl2, fl3, fl4, fl5, fl6]
      have hK4 : KpS (fun q => pv.ownBlock = some q ∨ q = L) y3 y4 := KpS.grown ⟨rfl, rfl, rfl, Nat.le_refl _, fun _ _ _ => rfl⟩ hgr4 (fun q hq => .inl (.inl hq))
      have hgl : gg < y3.heap.size := (Array.getElem?_eq_some_iff.1 hgr3).1
      have hgr4' : y4.heap[gg]? = some (.cells #[.int .i64 (cut : Int), hv, .int .i64 0, nilS] 82 (0, 0)) := (hgr4.block gg hgl (own_kind hpo hgr3 (by decide))).trans hgr3
      have hho4 : y4.ownsRow y.heap.size 5 1 hv (List.replicate cut 0).length (vals (List.replicate cut 0)) := hho3.kept hgr4 (by
        cases e : hv.ownBlock with
        | none => exact .inl rfl
        | some q => exact .inr (own_other hpo hho3 (by decide) q e))
      obtain ⟨A2, c2, hA2⟩ := own_form hv2
      have hvH : Hid (y4.ownsRow w.heap.size 80 1 v2 ((List.range i).map G ++ [gg]).length (flat encP ((List.range i).map G ++ [gg]))) := hv2
      have hroot : y4.heap[L]? = some (.cells #[pv] 79 (0, 0)) := hS4.root
      have hF : Hid (NewI w L cut (i + 1) (y4.setCell ⟨L, 0, none⟩ v2)) := by
        have hK5 : KpS (fun q => q = L) y4 (y4.setCell ⟨L, 0, none⟩ v2) := KpS.set ⟨rfl, rfl, rfl, Nat.le_refl _, fun _ _ _ => rfl⟩ L 0 v2 (.inl rfl)
        have hKK : KpS (fun q => pv.ownBlock = some q ∨ q = L) y3 (y4.setCell ⟨L, 0, none⟩ v2) := hK4.trans (hK5.mono fun k hk => .inr hk)
        have hL0 : w.heap.size ≤ L := hly.l0
        refine ⟨⟨v2, upd G i gg, upd H i hv, ?_⟩, ?_⟩
        · have := hly3.more (gg := gg) (pv2 := v2) (hv := hv) hKK (by have := heap_setCell_same y4 L 0 _ 79 v2 hroot; rw [this]; simp) (by
              have h8 := hvH.out
              rw [flat_ptr, ← range_upd, List.map_map, List.length_map, List.length_range] at h8
              exact hK5.own h8 (fun q hq e2 => by subst e2; exact own_kind h8 hroot (by decide) hq.symm))
            ⟨by have := hby.size; omega, hK5.heap hgr4' (fun e => by rw [e, hroot] at hgr4'; simp at hgr4'), own_mono (hK5.own hho4 (fun q hq e2 => by subst e2; exact own_kind hho4 hroot (by decide) hq.symm)) (by have := hby.size; omega), World.ownsRow_nil _ _ _ _⟩
            (fun k hk e => by
              have := (Array.getElem?_eq_some_iff.1 (hly.chain k hk).row).1
              omega)
          have e1 : upd (fun _ => nilS) i nilS = fun _ => nilS := by funext j; unfold upd; split <;> rfl
          have e2 : upd (fun _ => ([] : List En)) i [] = fun _ => [] := by funext j; unfold upd; split <;> rfl
          rw [e1, e2] at this
          exact this
        · exact hby.trans ((hb3.mono hby.size).trans (hKK.bel (fun k hk => by
            rcases hk with hk | hk
            · exact (hpo.lt k hk).1
            · omega) (by have := hby.size; have := hb3.size; omega)))
      clear hS3 hb3 hho3 hgr3 hnew hi hz hs1 hbt hrg hly3 hpo hv2 hgr4 hvb hS4 hK4 hgl hgr4' hho4 hvH hly hby hle
      refine hh_done (by kernel_rfl) ?_
      simp only [List.drop_succ_cons, List.drop_zero]
      refine sl_run rfl (.pointer (some ⟨L, 0, none⟩)) y4 (by kernel_rfl) ?_
      simp only [Act.put, fl1, fl2, fl3]
      refine sl_run rfl (.pointer (some ⟨L, 0, none⟩)) y4 (by kernel_rfl) ?_
      simp only [Act.put, fl1, fl2, fl3]
      refine wpList_store_cell rfl 77 _ _ rfl L 0 (by kernel_rfl) v2 (by kernel_rfl) pv (by rw [cell_of_row _ _ _ _ _ _ hroot]; rfl) (frozen_of_row _ _ _ _ _ hroot) (fun _ => by kernel_rfl) (by rw [hA2]; rfl) (by rw [hA2]; rfl) ?_
      simp only [Act.put, fl1, fl2, fl3]
      refine wpList_nil ?_
      refine ⟨rfl, ?_⟩
      rename_i hK
      refine hK _ _ ?_
      clear hK hroot hA2 hA
      generalize World.setCell _ _ _ = y5 at hF ⊢
      go_wp2_with fail
      go_roundw
      case rel => exact ⟨i + 1, by omega, by go_num, hF⟩
      case measure => simp [intOf]; omega
    · have hI : ¬ (i : Int) < (labels : Int) := by omega
      obtain rfl : i = labels := by omega
      go_wp2_with fail
      go_ret2
      exact ⟨L, rfl, hH.out⟩
end Go.Proofs.YtadopkifpfmhcaaDoor
namespace Go.Proofs.YtadopkifpfmhcaaDoor
open Go.RowKit
/-- The table of the lowest bit. -/
def tab : List Nat := [0, 1, 56, 2, 57, 49, 28, 3, 61, 58, 42, 50, 38, 29, 17, 4, 62, 47, 59, 36, 45, 43, 51, 22, 53, 39, 33, 30, 24, 18, 12, 5, 63, 55, 48, 27, 60, 41, 37, 16, 46, 35, 44, 21, 52, 32, 23, 11, 54, 26, 40, 15, 34, 20, 31, 10, 25, 14, 19, 9, 13, 8, 7, 6]
/-- The table lies in memory. -/
def Tab (w : World) : Prop := 0 < w.heap.size ∧ ∀ i, i < 64 → w.cell? ⟨0, i, none⟩ = some (.int .u8 ((tab.getD i 0 : Nat) : Int))
theorem Tab.below {B : Nat} {w w' : World} (h : Tab w) (h0 : 0 < B) (hb : Below B w w') : Tab w' := ⟨by have := hb.size; have := h.1; omega, fun i hi => by rw [hb.cell (by exact h0)]; exact h.2 i hi⟩
/-- A number that isn't zero: its lowest bit. -/
theorem low_split : ∀ m : Nat, m ≠ 0 → ∃ t q, m = 2 ^ t * (2 * q + 1) := fun m => by
  induction m using Nat.strongRecOn with
  | _ m ih =>
    intro h0
    rcases Nat.mod_two_eq_zero_or_one m with h | h
    · obtain ⟨t, q, hq⟩ := ih (m / 2) (by omega) (by omega)
      exact ⟨t + 1, q, by rw [Nat.pow_succ, Nat.mul_assoc, Nat.mul_comm 2, ← Nat.mul_assoc, ← hq]; omega⟩
    · exact ⟨0, m / 2, by omega⟩
theorem tb_low (t q j : Nat) : (2 ^ t * (2 * q + 1)).testBit j = (decide (t ≤ j) && (decide (j = t) || q.testBit (j - t - 1))) := by
  rw [Nat.testBit_two_pow_mul]
  by_cases h : t ≤ j
  · rw [decide_eq_true h, Bool.true_and]
    rcases Nat.eq_or_lt_of_le h with rfl | h2
    · simp
    · obtain ⟨d, rfl⟩ : ∃ d, j = t + d + 1 := ⟨j - t - 1, by omega⟩
      rw [show t + d + 1 - t = d + 1 by omega, Nat.testBit_succ, show (2 * q + 1) / 2 = q by omega, Nat.add_sub_cancel]
      have : ¬ t + d + 1 = t := by omega
      simp [this]
  · simp [h]
/-- Behind the lowest bit all is as it was. -/
theorem tb_pred (t q j : Nat) : (2 ^ t * (2 * q + 1) - 1).testBit j = if j < t then true else if j = t then false else (2 ^ t * (2 * q + 1)).testBit j := by
  have hp : 0 < 2 ^ t := Nat.two_pow_pos t
  have e : 2 ^ t * (2 * q + 1) - 1 = 2 ^ t * (2 * q) + (2 ^ t - 1) := by rw [Nat.mul_add]; omega
  rw [e, Nat.testBit_two_pow_mul_add _ (by omega)]
  split
  · next h => rw [Nat.testBit_two_pow_sub_one]; simp [h]
  · next h =>
    split
    · next h2 => subst h2; simp
    · next h2 =>
      obtain ⟨d, rfl⟩ : ∃ d, j = t + d + 1 := ⟨j - t - 1, by omega⟩
      rw [tb_low, show t + d + 1 - t = d + 1 by omega, Nat.testBit_succ, show 2 * q / 2 = q by omega]
      have : ¬ t + d + 1 = t := by omega
      have h3 : t ≤ t + d + 1 := by omega
      simp [this, h3]
theorem low_and (t q : Nat) (hm : 2 ^ t * (2 * q + 1) < 2 ^ 64) : 2 ^ t * (2 * q + 1) &&& (2 ^ 64 - 2 ^ t * (2 * q + 1)) = 2 ^ t := by
  have hp : 0 < 2 ^ t := Nat.two_pow_pos t
  have h1 : 0 < 2 ^ t * (2 * q + 1) := Nat.mul_pos hp (by omega)
  apply Nat.eq_of_testBit_eq
  intro j
  obtain ⟨m, hmm⟩ : ∃ m, m = 2 ^ t * (2 * q + 1) := ⟨_, rfl⟩
  have hpred := tb_pred t q j
  have hlow := tb_low t q j
  rw [← hmm] at hpred hlow hm h1 ⊢
  have e : 2 ^ 64 - m = 2 ^ 64 - ((m - 1) + 1) := by omega
  rw [Nat.testBit_and, e, Nat.testBit_two_pow_sub_succ (by omega), hpred, Nat.testBit_two_pow]
  by_cases h : j < t
  · rw [if_pos h, hlow]
    have h2 : ¬ t ≤ j := by omega
    have h3 : ¬ t = j := by omega
    simp [h2, h3]
  · rw [if_neg h]
    by_cases h2 : j = t
    · subst h2
      have h3 : j < 64 := by
        refine Decidable.byContradiction fun h3 => ?_
        have h4 : 2 ^ 64 ≤ 2 ^ j := Nat.pow_le_pow_right (by omega) (by omega)
        have h5 : 2 ^ j * 1 ≤ m := by rw [hmm]; exact Nat.mul_le_mul_left _ (by omega)
        omega
      rw [hlow]; simp [h3]
    · rw [if_neg h2]
      have h3 : ¬ t = j := fun e => h2 e.symm
      simp [h3]
      intro h5 _; exact h5
theorem low_lt {t q : Nat} (hm : 2 ^ t * (2 * q + 1) < 2 ^ 64) : t < 64 := by
  refine Decidable.byContradiction fun h3 => ?_
  have h4 : 2 ^ 64 ≤ 2 ^ t := Nat.pow_le_pow_right (by omega) (by omega)
  have h5 : 2 ^ t * 1 ≤ 2 ^ t * (2 * q + 1) := Nat.mul_le_mul_left _ (by omega)
  omega
theorem tab_low : ∀ t, t < 64 → tab.getD (2 ^ t * 285870213051353865 % 18446744073709551616 / 288230376151711744) 0 = t ∧ 2 ^ t * 285870213051353865 % 18446744073709551616 / 288230376151711744 < 64 := by decide +kernel
theorem tz_facts (t q m : Nat) (hmm : m = 2 ^ t * (2 * q + 1)) (hm : m < 18446744073709551616) :
    ∃ p K d : Nat, ((m : Int) == 0) = false ∧ IntKind.u64.wrap (-(m : Int)) = ((18446744073709551616 - m : Nat) : Int) ∧ bits .and .u64 (m : Int) ((18446744073709551616 - m : Nat) : Int) = (p : Int) ∧ IntKind.u64.wrap ((p : Int) * 285870213051353865) = (K : Int) ∧ (K : Int) / 288230376151711744 = (d : Int) ∧ d < 64 ∧ tab.getD d 0 = t ∧ t < 64 := by
  have hp : 0 < 2 ^ t := Nat.two_pow_pos t
  have h1 : 0 < m := by rw [hmm]; exact Nat.mul_pos hp (by omega)
  have ha := low_and t q (by rw [← hmm]; exact hm)
  have hl := low_lt (t := t) (q := q) (by rw [← hmm]; exact hm)
  obtain ⟨ht1, ht2⟩ := tab_low t hl
  refine ⟨2 ^ t, 2 ^ t * 285870213051353865 % 18446744073709551616, _, by rw [beq_eq_false_iff_ne]; omega, by rw [IntKind.wrap_u64]; omega, ?_, ?_, ?_, ht2, ht1, hl⟩
  · rw [u64_and_nat m _ hm (by omega)]
    rw [← hmm] at ha
    exact congrArg Int.ofNat ha
  · generalize 2 ^ t = p
    rw [IntKind.wrap_u64]; omega
  · generalize 2 ^ t * 285870213051353865 % 18446744073709551616 = K
    omega
theorem tz_calls (t q m : Nat) (hmm : m = 2 ^ t * (2 * q + 1)) (hm : m < 18446744073709551616) (w : World) (ht : Tab w) : Calls Tryd.prog 58 #[.int .u64 (m : Int)] w fun e w' => e = .returned (.int .i64 (t : Int)) ∧ w' = w := by
  obtain ⟨p, K, d, hI, hn, hand, hmul, hdiv, hd, htab, htl⟩ := tz_facts t q m hmm hm
  have hcell := ht.2 d hd
  rw [htab] at hcell
  have hd0 : (d : Int) < 64 := by omega
  have hconv : IntKind.i64.wrap (t : Int) = (t : Int) := by rw [IntKind.wrap_i64]; omega
  clear ht htab hmm hm htl
  go_enter Tryd.func58, Tryd.ntmps58
  go_upto_region 3 with fail
  go_wp2_with fail
  go_ret
  exact ⟨rfl, rfl⟩
theorem bit_val (m b : Nat) (hm : m < 18446744073709551616) : (bits BinOp.and IntKind.u64 ((m : Int) / 2 ^ b) 1 == 1) = m.testBit b := by
  have h1 : (m : Int) / 2 ^ b = ((m / 2 ^ b : Nat) : Int) := by rw [Int.natCast_ediv]; simp
  have h2 : m / 2 ^ b < 18446744073709551616 := Nat.lt_of_le_of_lt (Nat.div_le_self _ _) hm
  rw [h1, show (1 : Int) = ((1 : Nat) : Int) from rfl, u64_and_nat _ 1 h2 (by decide), nat_mask1, Nat.testBit_eq_decide_div_mod_eq]
  generalize m / 2 ^ b % 2 = z
  rw [Bool.eq_iff_iff]; simp; omega
/-- Is the bit set? -/
def bitI (m : Nat) (k : Int) : Bool := decide (0 ≤ k ∧ k < 64) && m.testBit k.toNat
theorem bitI_nat {m b : Nat} (hb : b < 64) : bitI m (b : Int) = m.testBit b := by
  unfold bitI; rw [decide_eq_true (by omega), Bool.true_and, Int.toNat_natCast]
theorem bit_calls (m : Nat) (k : Int) (hm : m < 18446744073709551616) (w : World) : Calls Tryd.prog 25 #[.int .u64 (m : Int), .int .i64 k] w fun e w' => e = .returned (.bool (bitI m k)) ∧ w' = w := by
  by_cases h0 : 0 ≤ k
  · by_cases h1 : k < 64
    · obtain ⟨b, rfl⟩ : ∃ b : Nat, k = (b : Int) := ⟨k.toNat, by omega⟩
      have hb : b < 64 := by omega
      rw [bitI_nat hb]
      have hconv : IntKind.u64.wrap (b : Int) = (b : Int) := by rw [IntKind.wrap_u64]; omega
      have hbit := bit_val m b hm
      clear hm hb
      go_enter Tryd.func25, Tryd.ntmps25
      go_wp2_with fail
      go_ret
      exact ⟨rfl, rfl⟩
    · have hr : bitI m k = false := by unfold bitI; rw [decide_eq_false (by omega)]; rfl
      rw [hr]
      clear hr hm
      go_enter Tryd.func25, Tryd.ntmps25
      go_wp2_with fail
      go_ret
      exact ⟨rfl, rfl⟩
  · have hr : bitI m k = false := by unfold bitI; rw [decide_eq_false (by omega)]; rfl
    rw [hr]
    clear hr hm
    go_enter Tryd.func25, Tryd.ntmps25
    go_wp2_with fail
    go_ret
    exact ⟨rfl, rfl⟩
theorem set_val (m b : Nat) (hm : m < 18446744073709551616) (hb : b < 64) : bits BinOp.or IntKind.u64 (m : Int) (IntKind.u64.wrap (2 ^ b)) = ((m ||| 2 ^ b : Nat) : Int) ∧ m ||| 2 ^ b < 18446744073709551616 := by
  have h1 : 2 ^ b < 2 ^ 64 := Nat.pow_lt_pow_right (by omega) hb
  have h2 : IntKind.u64.wrap (2 ^ b) = ((2 ^ b : Nat) : Int) := by
    rw [IntKind.wrap_u64, show (2 : Int) ^ b = ((2 ^ b : Nat) : Int) by simp]
    generalize 2 ^ b = p at h1 ⊢
    omega
  rw [h2, u64_or_nat m _ hm h1]
  exact ⟨rfl, Nat.or_lt_two_pow (n := 64) hm h1⟩
theorem bits_calls (m : Nat) (w : World) : Calls Tryd.prog 45 #[.int .u64 (m : Int)] w fun e w' => e = .returned (.func (.func 57) #[] #[.pointer (some ⟨w.heap.size, 0, none⟩)]) ∧ w' = w.alloc (.cells #[.int .u64 (m : Int)] 45) := by
  go_enter Tryd.func45, Tryd.ntmps45
  go_wp2_with fail
  go_ret
  exact ⟨rfl, rfl⟩
end Go.Proofs.YtadopkifpfmhcaaDoor
namespace Go.Proofs.YtadopkifpfmhcaaDoor
open Go.RowKit Go.Shelf
attribute [local go_sem] Oper.semAt_some
/-- A mask's bits, rising. -/
def bl (m : Nat) : List Nat := (List.range 64).filter fun j => m.testBit j
theorem filter_first {f g : Nat → Bool} {n t : Nat} (ht : t < n) (hf : f t = true) (h0 : ∀ j, j < t → f j = false) (hg0 : ∀ j, j ≤ t → g j = false) (hg : ∀ j, t < j → g j = f j) : (List.range n).filter f = t :: (List.range n).filter g := by
  obtain ⟨d, rfl⟩ : ∃ d, n = t + (1 + d) := ⟨n - t - 1, by omega⟩
  have e : List.range (t + (1 + d)) = List.range t ++ (t :: (List.range d).map (fun x => t + 1 + x)) := by
    rw [List.range_add, List.range_add]
    simp [Function.comp_def, Nat.add_assoc, Nat.add_comm, Nat.add_left_comm]
  have h1 : (List.range t).filter f = [] := List.filter_eq_nil_iff.2 fun j hj => by rw [h0 j (List.mem_range.1 hj)]; decide
  have h2 : (List.range t).filter g = [] := List.filter_eq_nil_iff.2 fun j hj => by rw [hg0 j (by have := List.mem_range.1 hj; omega)]; decide
  have h3 : ((List.range d).map (fun x => t + 1 + x)).filter f = ((List.range d).map (fun x => t + 1 + x)).filter g := List.filter_congr fun j hj => by
    obtain ⟨x, _, rfl⟩ := List.mem_map.1 hj
    exact (hg _ (by omega)).symm
  rw [e, List.filter_append, List.filter_append, h1, h2, List.filter_cons, List.filter_cons, hf, hg0 t (Nat.le_refl _), h3]
  simp
/-- The next mask: its lowest bit is gone. -/
theorem next_mask {t q m : Nat} (hmm : m = 2 ^ t * (2 * q + 1)) (hm : m < 18446744073709551616) : bl m = t :: bl (m &&& (m - 1)) ∧ m &&& (m - 1) < m ∧ t < 64 ∧ m.testBit t = true ∧ ∀ j, (m &&& (m - 1)).testBit j = true → m.testBit j = true := by
  have hl := low_lt (t := t) (q := q) (by rw [← hmm]; exact hm)
  have hlow := tb_low t q
  have hpred := tb_pred t q
  rw [← hmm] at hlow hpred
  have h1 : m.testBit t = true := by rw [hlow]; simp
  have hm0 : 0 < m := by rw [hmm]; exact Nat.mul_pos (Nat.two_pow_pos t) (by omega)
  refine ⟨filter_first hl h1 (fun j hj => ?_) (fun j hj => ?_) (fun j hj => ?_), ?_, hl, h1, fun j hj => ?_⟩
  · have : ¬ t ≤ j := by omega
    rw [hlow]; simp [this]
  · rw [Nat.testBit_and, hpred]
    rcases Nat.lt_or_eq_of_le hj with h | rfl
    · have : ¬ t ≤ j := by omega
      rw [hlow]; simp [this]
    · simp
  · rw [Nat.testBit_and, hpred, if_neg (by omega), if_neg (by omega), Bool.and_self]
  · have := @Nat.and_le_right m (m - 1); omega
  · rw [Nat.testBit_and, Bool.and_eq_true] at hj; exact hj.1
theorem bl_zero : bl 0 = [] := by simp [bl]
theorem bl_len (m : Nat) : (bl m).length ≤ 64 := Nat.le_trans (List.length_filter_le _ _) (by simp)
/-- One of a mask's bits. -/
abbrev BitOf (m : Nat) := { b : Nat // b < 64 ∧ m.testBit b = true }
def encB {m : Nat} (x : BitOf m) : Array Value := #[.int .i64 (x.1 : Int)]
set_option maxRecDepth 100000 in
set_option maxHeartbeats 2000000 in
theorem bits_stops (n : Nat) (hn : 2 ≤ n) (m B n₀ : Nat) (hm : m < 18446744073709551616) (w : World) (hn0 : 0 < n₀) (hn1 : n₀ ≤ w.heap.size) (hB : w.cell? ⟨B, 0, none⟩ = some (.int .u64 (m : Int))) (hBl : B < w.heap.size) (ht : Tab w) :
    SeqStopsK Fence.wide n Tryd.prog 57 #[.pointer (some ⟨B, 0, none⟩)] (encB (m := m)) (Below n₀) (fun xs => xs.map (·.1) = bl m) (fun pre => pre.map (·.1) <+: bl m) 64 w := fun l J Jx W hW hJ hJx hY h0 => by
  have hBW : W.cell? ⟨B, 0, none⟩ = some (.int .u64 (m : Int)) := by rw [hW.cell (by exact hBl)]; exact hB
  have htW : Tab W := ht.below (by omega) hW
  refine callsIn_of_wp Tryd.func57 rfl trivial ?_ rfl
  simp only [Tryd.ntmps57, List.size_toArray, List.length_cons, List.length_nil, Nat.reduceAdd, Nat.reduceSub, Array.replicate_succ, Array.replicate_zero, List.push_toArray, List.append_toArray, List.nil_append, List.cons_append]
  gi_wp2
  gi_loopw [3] (fun p wr => ∃ (pre : List (BitOf m)) (cur : Nat), p = .int .u64 (cur : Int) ∧ cur < 18446744073709551616 ∧ Hid (bl m = pre.map (·.1) ++ bl cur) ∧ Hid (∀ j, cur.testBit j = true → m.testBit j = true) ∧ J pre wr ∧ Hid (Tab wr)) (fun p _ => (intOf p).toNat)
  case atStart => exact ⟨[], m, rfl, hm, rfl, fun j h => h, h0, htW⟩
  case round =>
    obtain ⟨pre, cur, rfl, hc, hbl, hsub, hJs, htr⟩ := hrel
    by_cases hz : cur = 0
    · subst hz
      gi_wp2
      go_end0
      exact ⟨⟨_, rfl⟩, .inl ⟨pre, by rw [hbl.out, bl_zero, List.append_nil], hJs⟩⟩
    · obtain ⟨t, q, hq⟩ := low_split cur hz
      obtain ⟨hnb, hnl, ht64, htb, hns⟩ := next_mask hq hc
      have hcI : ((cur : Int) == 0) = false := by rw [beq_eq_false_iff_ne]; omega
      have hlen : pre.length < 64 := by
        have h1 := bl_len m
        rw [hbl.out, hnb, List.length_append, List.length_map, List.length_cons] at h1
        omega
      obtain ⟨fn, tmps, assign, body, hy, hR⟩ := hY pre ⟨t, ht64, hsub.out t htb⟩ wr hJs hlen
      have htz := tz_calls t q cur hq hc wr htr.out
      have hsub1 : IntKind.u64.wrap ((cur : Int) - 1) = ((cur - 1 : Nat) : Int) := by rw [IntKind.wrap_u64]; omega
      have hand := u64_and_nat cur (cur - 1) hc (by omega)
      have hns' : Hid (∀ j, (cur &&& (cur - 1)).testBit j = true → m.testBit j = true) := fun j h => hsub.out j (hns j h)
      have hblH : Hid (bl m = (pre ++ [(⟨t, ht64, hsub.out t htb⟩ : BitOf m)]).map (·.1) ++ bl (cur &&& (cur - 1))) := by
        show _ = _
        rw [hbl.out, hnb]; simp
      generalize hx : (⟨t, ht64, hsub.out t htb⟩ : BitOf m) = x at hy hR hblH
      have hxt : encB x = #[.int .i64 (t : Int)] := by rw [← hx]; rfl
      rw [hxt] at hy
      generalize cur - 1 = c1 at hsub1 hand hns' hblH hnl
      have hc2 : cur &&& c1 < 18446744073709551616 := by omega
      generalize cur &&& c1 = c2 at hand hns' hblH hnl hc2
      clear hq hx hxt hz hnb htb hns hlen hbl hsub hJs
      gi_wp2_with (refine ⟨trivial, fun _ => by omega, ?_⟩; refine (callsIn_wide.2 htz).mono ?_; rintro e w' ⟨rfl, rfl⟩)
      refine ⟨fun _ => by omega, ?_⟩
      refine hR.mono ?_
      rintro e W' (⟨rfl, hJ', hk⟩ | ⟨rfl, hJx'⟩)
      · have htW' : Hid (Tab W') := htr.out.below hn0 hk
        clear hk htr htW hBW
        gi_wp2
        go_roundw
        case rel => exact ⟨pre ++ [x], c2, rfl, hc2, hblH, hns', hJ', htW'⟩
        case measure => simp [intOf]; omega
      · gi_wp2
        refine bodyPost_ret (results_none rfl _ _ _) rfl ?_
        exact ⟨⟨_, rfl⟩, .inr ⟨pre ++ [x], ⟨bl c2, hblH.out.symm⟩, hJx'⟩⟩
end Go.Proofs.YtadopkifpfmhcaaDoor
