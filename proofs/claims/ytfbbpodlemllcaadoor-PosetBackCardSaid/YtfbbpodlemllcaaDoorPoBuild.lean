/-
  Orders: the program's Build.
-/
import Derived.Test.YtfbbpodlemllcaaDoorPoClos
namespace Go.Proofs.YtfbbpodlemllcaaDoor
open Go.RowKit Go.Shelf
set_option linter.unusedVariables false
set_option linter.unusedSimpArgs false
set_option pp.maxSteps 50000
/-- The masks lie in a block of their own. -/
def Row (g : Nat) (l : List Nat) (w : World) : Prop := w.heap[g]? = some (.cells (flat encM l).toArray 36 (0, 0))
theorem Row.ms {g n : Nat} {l : List Nat} {w : World} (h : Row g l w) (hn : n = l.length) : Ms w (.slice (some ⟨g, 0, none⟩) n n) l := by
  rw [hn]; exact rw_new (enc := encM) encM_size l h
theorem Row.cell {g : Nat} {l : List Nat} {w : World} (h : Row g l w) {i : Nat} (hi : i < l.length) : w.cell? ⟨g, i, none⟩ = some (.int .u64 ((l.getD i 0 : Nat) : Int)) := by
  have := elem_ms (h.ms rfl) i hi
  rwa [Nat.zero_add] at this
theorem Row.below {g : Nat} {l : List Nat} {w w' : World} (h : Row g l w) (hb : Below w.heap.size w w') : Row g l w' := heap_kept h hb
theorem Row.frozen {g i : Nat} {l : List Nat} {w : World} (h : Row g l w) : w.frozen? ⟨g, i, none⟩ = false := frozen_of_row _ _ _ _ _ h
theorem Row.set {g : Nat} {l : List Nat} {w : World} (h : Row g l w) (i m : Nat) : Row g (l.set i m) (w.setCell ⟨g, i, none⟩ (.int .u64 (m : Int))) := by
  have := heap_setCell_same w g i _ _ (.int .u64 (m : Int)) h
  unfold Row
  rw [this, ← flat_set]; simp only [Array.set!]
theorem exec_makeN {P : Program} {o : Oper} {a : Act} {w : World} (t : TypeId) (x y : Operand) (ho : o.op = .makeSlice t x y) (e : TypeId) (i : TypeInfo) (z : Value) (ht : P.underlying t = some (.slice e)) (hi : P.info? e = some i) (hz : i.zero = some z) (n : Nat)
    (hx : a.eval x = .int .i64 (n : Int)) (hy : a.eval y = .int .i64 (n : Int)) (hb : i.bytes * n ≤ 281474976710656) (h63 : n ≤ maxLen) : (execOp a.eval o).run P w = .ok (.value (.slice (some ⟨w.heap.size, 0, none⟩) n n)) (w.alloc (.cells (madeCells z.cells (n * i.size)) e)) := by
  have h1 : (n : Int) ≤ 9223372036854775807 := by unfold maxLen at h63; omega
  have h2 : (i.bytes : Int) * (n : Int) ≤ 281474976710656 := by
    have h : ((i.bytes * n : Nat) : Int) ≤ 281474976710656 := by omega
    rwa [Int.natCast_mul] at h
  have hr := run_make (P := P) w t e i z ht hi hz .i64 .i64 n n (by omega) (Int.le_refl _) h2 h1
  unfold execOp
  simp only [ho, hx, hy, Sem.run_bind, hr, Result.andThen_ok, Sem.run_pure, Int.toNat_natCast]
theorem inf36 : (Tryd.prog.info? 36).map (fun i => (i.zero, i.size, i.bytes)) = some (some (.int .u64 0), 1, 8) := by kernel_rfl
theorem made_base (n : Nat) : madeCells (Value.int .u64 0).cells (n * 1) = (flat encM (baseI n 0)).toArray := by
  rw [baseI_zero, flat_repl]
  have hc : (Value.int .u64 0).cells = #[.int .u64 0] := rfl
  rw [hc]
  refine Array.ext (by simp [madeCells]) fun i h1 h2 => ?_
  simp [madeCells, Nat.mod_one]
theorem sz22 (w : World) : (sizeOf (Tryd.prog.elem 22)).run Tryd.prog w = .ok 2 w := by kernel_rfl
theorem un22 : Tryd.prog.underlying 22 = some (.slice (Tryd.prog.elem 22)) := by kernel_rfl
set_option maxRecDepth 100000 in
set_option maxHeartbeats 4000000 in
theorem build_calls (n : Int) (pairs : List P2) (A : Option Addr) (k c : Nat) (hk : k = pairs.length) (hkb : k ≤ 1000000) (w : World) (ht : Tab w) (hy : Rw 2 encP w (.slice A k c) pairs) :
    Calls Tryd.prog 12 #[.int .i64 n, .slice A k c] w fun e w' => ∃ v, e = .returned (.tuple #[v, .int .i64 ((buildS n pairs).2 : Int)]) ∧ Ms w' v (buildS n pairs).1 ∧ Below w.heap.size w w' := by
  obtain ⟨R, hR⟩ : ∃ R, R = buildS n pairs := ⟨_, rfl⟩
  rw [← hR]
  have hRH : Hid (R = buildS n pairs) := hR
  have hk' : Hid (k = pairs.length) := hk
  have htH : Hid (Tab w) := ht
  have hyH : Hid (Rw 2 encP w (.slice A k c) pairs) := hy
  have hw0 : Hid (0 < w.heap.size) := ht.1
  clear hk ht hy hR
  go_enter Tryd.func12, Tryd.ntmps12
  by_cases hlo : n < 1
  · have hR0 : Hid (R = ([], 1)) := by
      show _ = _
      rw [hRH.out]; unfold buildS
      rw [if_neg (fun h => by have := (tr_iff.1 h).1; omega)]
    clear hRH hk' htH hyH hw0
    go_wp2_with fail
    go_ret2
    rw [hR0.out]
    exact ⟨_, rfl, Rw.nil, Below.refl _ _⟩
  by_cases hhi : 64 < n
  · have hR0 : Hid (R = ([], 1)) := by
      show _ = _
      rw [hRH.out]; unfold buildS
      rw [if_neg (fun h => by have := (tr_iff.1 h).2.1; omega)]
    clear hRH hk' htH hyH hw0
    go_wp2_with fail
    go_ret2
    rw [hR0.out]
    exact ⟨_, rfl, Rw.nil, Below.refl _ _⟩
  obtain ⟨m, rfl⟩ : ∃ m : Nat, n = (m : Int) := ⟨n.toNat, by omega⟩
  have hm1 : 1 ≤ m := by omega
  have hm64 : m ≤ 64 := by omega
  go_upto_region 3 with fail
  refine wp_region_lit ?_
  refine sl_run rfl (.int .i64 (m : Int)) w (by kernel_rfl) ?_
  simp only [Act.put, List.setIfInBounds_toArray, List.set_cons_zero, List.set_cons_succ]
  obtain ⟨i36, hi36, hz0, hz1, hz2⟩ := info_parts inf36
  refine sl_run rfl (.slice (some ⟨w.heap.size, 0, none⟩) m m) (w.alloc (.cells (madeCells (Value.int .u64 0).cells (m * i36.size)) 36)) (exec_makeN 24 _ _ rfl 36 i36 _ Tryd.underlying24 hi36 hz0 m (by kernel_rfl) (by kernel_rfl) (by rw [hz2]; omega) (by unfold maxLen; omega)) ?_
  simp only [Act.put, List.setIfInBounds_toArray, List.set_cons_zero, List.set_cons_succ]
  refine sl_run rfl (.slice (some ⟨w.heap.size, 0, none⟩) m m) (w.alloc (.cells (madeCells (Value.int .u64 0).cells (m * i36.size)) 36)) (by kernel_rfl) ?_
  simp only [Act.put, List.setIfInBounds_toArray, List.set_cons_zero, List.set_cons_succ]
  refine wpList_nil ?_
  rw [hz1, made_base]
  have hrow : Row w.heap.size (baseI m 0) (w.alloc (.cells (flat encM (baseI m 0)).toArray 36)) := heap_alloc_new _ _
  have hb1 : Below w.heap.size w (w.alloc (.cells (flat encM (baseI m 0)).toArray 36)) := (Below.refl _ _).alloc (Nat.le_refl _) _
  obtain ⟨g, hg⟩ : ∃ g, g = w.heap.size := ⟨_, rfl⟩
  have hgH : Hid (w.heap.size ≤ g) := by show _ ≤ _; omega
  rw [← hg] at hrow ⊢
  generalize w.alloc _ = w1 at hrow hb1 ⊢
  have hrow1 : Hid (Row g (baseI m 0) w1) := hrow
  have hb1' : Hid (Below w.heap.size w w1) := hb1
  clear hi36 hz0 hz1 hz2 hrow hb1 hg hlo hhi
  go_upto_region 4 with fail
  go_wp2_with fail
  go_loopw [21] (fun u wr => ∃ i : Nat, i ≤ m ∧ u = .int .i64 (i : Int) ∧ Hid (Row g (baseI m i) wr) ∧ Hid (Below w.heap.size w wr)) (fun u _ => m - (intOf u).toNat)
  case atStart => exact ⟨0, by omega, rfl, hrow1, hb1'⟩
  case round =>
    obtain ⟨i, hi, rfl, hrow, hbw⟩ := hrel
    by_cases hlt : i < m
    · have hI : (i : Int) < (m : Int) := by omega
      go_upto_region 7 with fail
      refine wp_region_lit ?_
      refine sl_run rfl (.slice (some ⟨g, 0, none⟩) m m) wr (by kernel_rfl) ?_
      simp only [Act.put, List.setIfInBounds_toArray, List.set_cons_zero, List.set_cons_succ]
      refine sl_run rfl (.int .i64 (i : Int)) wr (by kernel_rfl) ?_
      simp only [Act.put, List.setIfInBounds_toArray, List.set_cons_zero, List.set_cons_succ]
      refine sl_run rfl (.int .i64 (i : Int)) wr (by kernel_rfl) ?_
      simp only [Act.put, List.setIfInBounds_toArray, List.set_cons_zero, List.set_cons_succ]
      refine sl_run rfl (.int .u64 ((2 ^ i : Nat) : Int)) wr (exec_shl1 _ 3 rfl .i64 i (by kernel_rfl) (by omega)) ?_
      simp only [Act.put, List.setIfInBounds_toArray, List.set_cons_zero, List.set_cons_succ]
      refine sl_run rfl (.pointer (some ⟨g, 0 + i, none⟩)) wr (exec_ixM _ _ rfl g 0 m m i (by kernel_rfl) (by kernel_rfl) hlt) ?_
      simp only [Act.put, List.setIfInBounds_toArray, List.set_cons_zero, List.set_cons_succ]
      rw [Nat.zero_add]
      refine wpList_store_cell rfl 36 _ _ rfl g i (by kernel_rfl) (.int .u64 ((2 ^ i : Nat) : Int)) (by kernel_rfl) _ (hrow.out.cell (by rw [baseI_len]; exact hlt)) hrow.out.frozen (fun _ => by kernel_rfl) rfl rfl ?_
      simp only [Act.put, List.setIfInBounds_toArray, List.set_cons_zero, List.set_cons_succ]
      refine wpList_nil ?_
      have hrow2 : Hid (Row g (baseI m (i + 1)) (wr.setCell ⟨g, i, none⟩ (.int .u64 ((2 ^ i : Nat) : Int)))) := by
        have := hrow.out.set i (2 ^ i)
        rwa [baseI_set hlt] at this
      have hb2 : Hid (Below w.heap.size w (wr.setCell ⟨g, i, none⟩ (.int .u64 ((2 ^ i : Nat) : Int)))) := hbw.out.setCell hgH.out _
      generalize World.setCell _ _ _ = w2 at hrow2 hb2 ⊢
      generalize (2 : Nat) ^ i = pw
      clear hrow hbw
      go_wp2_with fail
      go_roundw
      case rel => exact ⟨i + 1, by omega, by go_num, hrow2, hb2⟩
      case measure => simp [intOf]; omega
    · have hI : ¬ (i : Int) < (m : Int) := by omega
      have him : i = m := by omega
      have hrow3 : Hid (Row g (addAll m (pairs.take 0)) wr) := by have := hrow.out; rw [him] at this; exact this
      clear hrow hrow1 hb1' him
      go_wp2_with fail
      go_loopw [32] (fun u wr => ∃ i : Nat, i ≤ k ∧ u = .int .i64 (i : Int) ∧ Hid (∀ p ∈ pairs.take i, inRange m p) ∧ Hid (Row g (addAll m (pairs.take i)) wr) ∧ Hid (Below w.heap.size w wr)) (fun u _ => k - (intOf u).toNat)
      case atStart => exact ⟨0, by omega, rfl, fun p h => by simp at h, hrow3, hbw⟩
      case round =>
        obtain ⟨i, hi, rfl, hall, hrow, hbw⟩ := hrel
        by_cases hlt : i < k
        · have hI : (i : Int) < (k : Int) := by omega
          obtain ⟨g2, o2, rfl, hkc, hg2, hel⟩ := hyH.out.elem i (by rw [← hk'.out]; exact hlt)
          obtain ⟨pr, hpr⟩ : ∃ p, p = pairs.getD i default := ⟨_, rfl⟩
          have htk : Hid (pairs.take (i + 1) = pairs.take i ++ [pr]) := by
            have h : i < pairs.length := by rw [← hk'.out]; exact hlt
            show _ = _
            rw [List.take_add_one, hpr]; simp [h]
          have hmem : Hid (pr ∈ pairs) := by
            have h : i < pairs.length := by rw [← hk'.out]; exact hlt
            show _ ∈ _
            rw [hpr]; simp [h]
          rw [← hpr] at hel
          have hel2 : wr.rangeAt g2 (o2 + i * 2) (encP pr).toList := range_below hel hbw.out hg2
          clear hpr hel
          obtain ⟨p1, p2⟩ := pr
          go_upto_region 11 with fail
          refine wp_region_lit ?_
          refine sl_run rfl (.pointer (some ⟨g2, o2 + i * 2, none⟩)) wr (exec_index un22 sz22 _ _ rfl g2 o2 k c i (by kernel_rfl) (by kernel_rfl) hlt wr) ?_
          simp only [Act.put, List.setIfInBounds_toArray, List.set_cons_zero, List.set_cons_succ]
          refine wpList_load_mid rfl 44 _ rfl g2 (o2 + i * 2) (by kernel_rfl) _ _ hel2 Tryd.underlying44 rfl (by kernel_rfl) ?_
          simp only [Act.put, List.setIfInBounds_toArray, List.set_cons_zero, List.set_cons_succ]
          simp only [encP, Array.toArray_toList]
          refine sl_run rfl (.pointer (some ⟨wr.heap.size, 0, none⟩)) (wr.alloc (.cells #[.int .i64 0, .int .i64 0] 44)) (by kernel_rfl) ?_
          simp only [Act.put, List.setIfInBounds_toArray, List.set_cons_zero, List.set_cons_succ]
          refine wpList_store_row rfl 44 _ _ rfl wr.heap.size #[.int .i64 p1, .int .i64 p2] (by kernel_rfl) (by kernel_rfl) 44 _ (heap_alloc_new _ _) (by kernel_rfl) (by kernel_rfl) (by simp [Value.oneCell']) ?_
          simp only [Act.put, List.setIfInBounds_toArray, List.set_cons_zero, List.set_cons_succ]
          refine wpList_nil ?_
          have hx0 : ((wr.alloc (.cells #[.int .i64 0, .int .i64 0] 44)).setRow wr.heap.size #[.int .i64 p1, .int .i64 p2]).heap[wr.heap.size]? = some (.cells #[.int .i64 p1, .int .i64 p2] 44 (0, 0)) := setRow_heap _ _ _ _ _ _ (heap_alloc_new _ _)
          have hb2 : Below wr.heap.size wr ((wr.alloc (.cells #[.int .i64 0, .int .i64 0] 44)).setRow wr.heap.size #[.int .i64 p1, .int .i64 p2]) := below_setRow ((Below.refl _ _).alloc (Nat.le_refl _) _) (Nat.le_refl _) _
          obtain ⟨bx, hbx⟩ : ∃ b, b = wr.heap.size := ⟨_, rfl⟩
          have hb2' : Below wr.heap.size wr ((wr.alloc (.cells #[.int .i64 0, .int .i64 0] 44)).setRow bx #[.int .i64 p1, .int .i64 p2]) := by rw [hbx]; exact hb2
          clear hb2
          rw [← hbx] at hx0 ⊢
          generalize World.setRow _ _ _ = w2 at hx0 hb2' ⊢
          have hb2 := hb2'
          clear hbx hb2'
          have c1 : w2.cell? ⟨bx, 0, none⟩ = some (.int .i64 p1) := by rw [cell_of_row _ _ _ _ _ _ hx0]; rfl
          have c2 : w2.cell? ⟨bx, 1, none⟩ = some (.int .i64 p2) := by rw [cell_of_row _ _ _ _ _ _ hx0]; rfl
          have hx0' : Hid (w2.heap[bx]? = some (.cells #[.int .i64 p1, .int .i64 p2] 44 (0, 0))) := hx0
          have hrow2 : Hid (Row g (addAll m (pairs.take i)) w2) := hrow.out.below hb2
          have hb3 : Hid (Below w.heap.size w w2) := hbw.out.trans (hb2.mono hbw.out.size)
          clear hx0 hb2 hrow hbw hel2
          by_cases hin : inRange m (p1, p2)
          · obtain ⟨hp1, hp2, hp3, hp4⟩ := id hin
            obtain ⟨a, rfl⟩ : ∃ a : Nat, p1 = (a : Int) := ⟨p1.toNat, by simp only at hp1; omega⟩
            obtain ⟨b, rfl⟩ : ∃ b : Nat, p2 = (b : Int) := ⟨p2.toNat, by simp only at hp3; omega⟩
            have ha : a < m := by simp only at hp2; omega
            have hb : b < m := by simp only at hp4; omega
            have e1 : ¬ (a : Int) < 0 := by omega
            have e2 : ¬ (m : Int) ≤ (a : Int) := by omega
            have e3 : ¬ (b : Int) < 0 := by omega
            have e4 : ¬ (m : Int) ≤ (b : Int) := by omega
            have hin' : Hid (inRange m ((a : Int), (b : Int))) := hin
            clear hp1 hp2 hp3 hp4 hin
            go_upto_region 14 with fail
            clear e1 e2 e3 e4
            refine wp_region_quiet_tail 10 (Below w2.heap.size w2) (by kernel_rfl) (by kernel_rfl) (Below.refl _ _).drew ?_
            simp only [List.take_succ_cons, List.take_zero, List.drop_succ_cons, List.drop_zero]
            obtain ⟨upm, hupm⟩ : ∃ u, u = addAll m (pairs.take i) := ⟨_, rfl⟩
            have hrow4 : Hid (Row g upm w2) := by show Row g upm w2; rw [hupm]; exact hrow2.out
            have hupl : Hid (upm.length = m) := by show _ = _; rw [hupm, addAll_len]
            have hups : Hid (Small upm) := by show Small _; rw [hupm]; exact addAll_small hm64 hall.out
            have hupH : Hid (upm = addAll m (pairs.take i)) := hupm
            clear hupm hrow2
            obtain ⟨ma, hma⟩ : ∃ x, x = upm.getD a 0 := ⟨_, rfl⟩
            have hma9 : ma < 18446744073709551616 := by rw [hma]; exact small_get hups.out _
            have hmaH : Hid (ma = upm.getD a 0) := hma
            clear hma
            obtain ⟨pb, hpb⟩ : ∃ x, x = 2 ^ b := ⟨_, rfl⟩
            have hpb9 : pb < 18446744073709551616 := by rw [hpb]; exact pow_lt64 (by omega)
            have hpbH : Hid (pb = 2 ^ b) := hpb
            clear hpb
            refine quiet_run rfl (.slice (some ⟨g, 0, none⟩) m m) (fun w' h => (by kernel_rfl)) ?_
            simp only [Act.put, List.setIfInBounds_toArray, List.set_cons_zero, List.set_cons_succ]
            refine quiet_run rfl (.pointer (some ⟨bx, 0, none⟩)) (fun w' h => (by kernel_rfl)) ?_
            simp only [Act.put, List.setIfInBounds_toArray, List.set_cons_zero, List.set_cons_succ]
            refine quiet_run rfl (.int .i64 (a : Int)) (fun w' h => exec_load_cell 3 w' _ rfl ⟨bx, 0, none⟩ (by kernel_rfl) _ (by rw [cell_of_row _ _ _ _ _ _ (heap_kept hx0'.out h)]; rfl) (fun _ => by kernel_rfl)) ?_
            simp only [Act.put, List.setIfInBounds_toArray, List.set_cons_zero, List.set_cons_succ]
            refine quiet_run rfl (.pointer (some ⟨g, 0 + a, none⟩)) (fun w' h => exec_ixM _ _ rfl g 0 m m a (by kernel_rfl) (by kernel_rfl) ha) ?_
            simp only [Act.put, List.setIfInBounds_toArray, List.set_cons_zero, List.set_cons_succ]
            rw [Nat.zero_add]
            refine quiet_run rfl (.int .u64 (ma : Int)) (fun w' h => exec_load_cell 36 w' _ rfl ⟨g, a, none⟩ (by kernel_rfl) _ (by rw [hmaH.out]; exact (hrow4.out.below h).cell (by rw [hupl.out]; exact ha)) (fun _ => by kernel_rfl)) ?_
            simp only [Act.put, List.setIfInBounds_toArray, List.set_cons_zero, List.set_cons_succ]
            refine quiet_run rfl (.pointer (some ⟨bx, 1, none⟩)) (fun w' h => (by kernel_rfl)) ?_
            simp only [Act.put, List.setIfInBounds_toArray, List.set_cons_zero, List.set_cons_succ]
            refine quiet_run rfl (.int .i64 (b : Int)) (fun w' h => exec_load_cell 3 w' _ rfl ⟨bx, 1, none⟩ (by kernel_rfl) _ (by rw [cell_of_row _ _ _ _ _ _ (heap_kept hx0'.out h)]; rfl) (fun _ => by kernel_rfl)) ?_
            simp only [Act.put, List.setIfInBounds_toArray, List.set_cons_zero, List.set_cons_succ]
            refine quiet_run rfl (.int .u64 (pb : Int)) (fun w' h => (exec_shl1 _ 3 rfl .i64 b (by kernel_rfl) (by omega)).trans (by rw [hpbH.out])) ?_
            simp only [Act.put, List.setIfInBounds_toArray, List.set_cons_zero, List.set_cons_succ]
            refine quiet_run rfl (.int .u64 ((ma ||| pb : Nat) : Int)) (fun w' h => exec_orM _ _ rfl ma pb (by kernel_rfl) (by kernel_rfl) hma9 hpb9) ?_
            simp only [Act.put, List.setIfInBounds_toArray, List.set_cons_zero, List.set_cons_succ]
            refine quiet_run rfl (.pointer (some ⟨g, 0 + a, none⟩)) (fun w' h => exec_ixM _ _ rfl g 0 m m a (by kernel_rfl) (by kernel_rfl) ha) ?_
            simp only [Act.put, List.setIfInBounds_toArray, List.set_cons_zero, List.set_cons_succ]
            rw [Nat.zero_add]
            refine wpQuiet_nil ?_
            intro w3 hb4
            have hrow5 : Row g upm w3 := hrow4.out.below hb4
            refine wpList_store_cell rfl 36 _ _ rfl g a (by kernel_rfl) (.int .u64 ((ma ||| pb : Nat) : Int)) (by kernel_rfl) _ (hrow5.cell (by rw [hupl.out]; exact ha)) hrow5.frozen (fun _ => by kernel_rfl) rfl rfl ?_
            simp only [Act.put, List.setIfInBounds_toArray, List.set_cons_zero, List.set_cons_succ]
            refine wpList_nil ?_
            have hrow6 : Hid (Row g (addAll m (pairs.take (i + 1))) (w3.setCell ⟨g, a, none⟩ (.int .u64 ((ma ||| pb : Nat) : Int)))) := by
              have := hrow5.set a (ma ||| pb)
              show Row _ _ _
              rw [htk.out, addAll_snoc, ← hupH.out]
              unfold addE
              rw [Int.toNat_natCast, Int.toNat_natCast, ← hmaH.out, ← hpbH.out]; exact this
            have hb5 : Hid (Below w.heap.size w (w3.setCell ⟨g, a, none⟩ (.int .u64 ((ma ||| pb : Nat) : Int)))) := (hb3.out.trans (hb4.mono hb3.out.size)).setCell hgH.out _
            generalize World.setCell _ _ _ = w6 at hrow6 hb5 ⊢
            generalize ma ||| pb = mp
            have hall2 : Hid (∀ p ∈ pairs.take (i + 1), inRange m p) := fun p hp => by
              rw [htk.out] at hp
              rcases List.mem_append.1 hp with hp | hp
              · exact hall.out p hp
              · rw [List.mem_singleton.1 hp]; exact hin'.out
            clear hrow5 hb4 hrow4 hx0' hb3 hall c1 c2
            rename_i hK
            refine hK _ _ ?_
            clear hK
            go_wp2_with fail
            go_roundw
            case rel => exact ⟨i + 1, by omega, by go_num, hall2, hrow6, hb5⟩
            case measure => simp [intOf]; omega
          · have hR0 : Hid (R = ([], 1)) := by
              show _ = _
              rw [hRH.out]; unfold buildS
              rw [if_neg (fun h => hin ((tr_iff.1 h).2.2 _ hmem.out))]
            have hcase : p1 < 0 ∨ ¬ p1 < 0 ∧ ((m : Int) ≤ p1 ∨ ¬ (m : Int) ≤ p1 ∧ (p2 < 0 ∨ ¬ p2 < 0 ∧ (m : Int) ≤ p2)) := by
              refine Decidable.byContradiction fun h => hin ⟨?_, ?_, ?_, ?_⟩ <;> simp only <;> omega
            clear hRH hin htk hmem hall hrow2 hx0'
            rcases hcase with h1 | ⟨h1, h2 | ⟨h2, h3 | ⟨h3, h4⟩⟩⟩ <;>
              (go_wp2_with fail
               go_ret2
               rw [hR0.out]
               exact ⟨_, rfl, Rw.nil, hb3.out⟩)
        · have hI : ¬ (i : Int) < (k : Int) := by omega
          have hik : i = k := by omega
          have hfit : Hid (∀ p ∈ pairs, inRange m p) := fun p hp => hall.out p (by rw [hik, hk'.out, List.take_length]; exact hp)
          have hrow3 : Hid (Row g (warsh (addAll m pairs) 0) wr) := by have := hrow.out; rw [hik, hk'.out, List.take_length] at this; exact this
          clear hrow hall hik
          obtain ⟨up0, hup0⟩ : ∃ u, u = addAll m pairs := ⟨_, rfl⟩
          have hl0 : Hid (up0.length = m) := by show _ = _; rw [hup0, addAll_len]
          have hs0 : Hid (Small up0) := by show Small _; rw [hup0]; exact addAll_small hm64 hfit.out
          have hend : Hid (warsh up0 m = closS m pairs) := by show _ = _; rw [hup0]; exact warsh_clos (addAll_grows hm64 hfit.out) (addAll_based hfit.out)
          rw [← hup0] at hrow3
          clear hup0
          go_wp2_with fail
          go_loopw [68] (fun u wr => ∃ x : Nat, x ≤ m ∧ u = .int .i64 (x : Int) ∧ Hid (Row g (warsh up0 x) wr) ∧ Hid (Below w.heap.size w wr)) (fun u _ => m - (intOf u).toNat)
          case atStart => exact ⟨0, by omega, rfl, hrow3, hbw⟩
          case round =>
            obtain ⟨x, hx, rfl, hrow, hbw⟩ := hrel
            by_cases hlx : x < m
            · have hI : (x : Int) < (m : Int) := by omega
              obtain ⟨uw, huw⟩ : ∃ u, u = warsh up0 x := ⟨_, rfl⟩
              have hlw : Hid (uw.length = m) := by show _ = _; rw [huw, warsh_len]; exact hl0.out
              have hsw : Hid (Small uw) := by show Small _; rw [huw]; exact warsh_small hs0.out x
              have hnext : Hid (warsh up0 (x + 1) = wpart uw x m) := by show _ = _; rw [warsh, ← huw, hl0.out]
              have hrow0 : Hid (Row g (wpart uw x 0) wr) := by show Row _ _ _; rw [wpart_zero, huw]; exact hrow.out
              clear huw hrow hrow3
              go_wp2_with fail
              go_loopw [72] (fun u wr => ∃ y : Nat, y ≤ m ∧ u = .int .i64 (y : Int) ∧ Hid (Row g (wpart uw x y) wr) ∧ Hid (Below w.heap.size w wr)) (fun u _ => m - (intOf u).toNat)
              case atStart => exact ⟨0, by omega, rfl, hrow0, hbw⟩
              case round =>
                obtain ⟨y, hy, rfl, hrow, hbw⟩ := hrel
                clear hrow0
                by_cases hly : y < m
                · have hJ : (y : Int) < (m : Int) := by omega
                  obtain ⟨my, hmy⟩ : ∃ z, z = uw.getD y 0 := ⟨_, rfl⟩
                  obtain ⟨mx, hmx⟩ : ∃ z, z = uw.getD x 0 := ⟨_, rfl⟩
                  have hmy9 : my < 18446744073709551616 := by rw [hmy]; exact small_get hsw.out _
                  have hmx9 : mx < 18446744073709551616 := by rw [hmx]; exact small_get hsw.out _
                  have cy : wr.cell? ⟨g, y, none⟩ = some (.int .u64 (my : Int)) := by rw [hmy, ← wpart_i (up := uw) (k := x) (i := y)]; exact hrow.out.cell (by rw [wpart_len, hlw.out]; exact hly)
                  have hcx : Hid (wr.cell? ⟨g, x, none⟩ = some (.int .u64 (mx : Int))) := by show _ = _; rw [hmx, ← wpart_k (up := uw) (k := x) (i := y)]; exact hrow.out.cell (by rw [wpart_len, hlw.out]; exact hlx)
                  have hbv := bit_val my x hmy9
                  have hwr : Hid (wrow uw x y = if my.testBit x then my ||| mx else my) := by show _ = _; unfold wrow bt; rw [hmy, hmx]
                  have hgy : Hid (uw.getD y 0 = my) := hmy.symm
                  have hmin : min x 64 = x := by omega
                  clear hmy hmx
                  have hstep : Hid (wpart uw x (y + 1) = (wpart uw x y).set y (wrow uw x y)) := (wpart_set (by rw [hlw.out]; exact hly)).symm
                  cases htb : my.testBit x with
                  | false =>
                    rw [htb] at hbv
                    have hrow2 : Hid (Row g (wpart uw x (y + 1)) wr) := by
                      show Row _ _ _
                      have e : wpart uw x (y + 1) = wpart uw x y := by
                        rw [hstep.out, hwr.out, htb, if_neg (by decide)]
                        have h2 := wpart_i (up := uw) (k := x) (i := y)
                        rw [hgy.out] at h2
                        have hlen : y < (wpart uw x y).length := by rw [wpart_len, hlw.out]; exact hly
                        refine List.ext_getElem (by simp) fun j h3 h4 => ?_
                        rw [List.getElem_set]
                        split
                        · next hj => subst hj; rw [← h2]; simp [hlen]
                        · rfl
                      rw [e]; exact hrow.out
                    clear htb hrow hstep hwr
                    go_wp2_with fail
                    go_roundw
                    case rel => exact ⟨y + 1, by omega, by go_num, hrow2, hbw⟩
                    case measure => simp [intOf]; omega
                  | true =>
                    rw [htb] at hbv
                    have hwr2 : Hid (wrow uw x y = my ||| mx) := by show _ = _; rw [hwr.out, htb, if_pos rfl]
                    clear htb hwr
                    have hcy : Hid (wr.cell? ⟨g, y, none⟩ = some (.int .u64 (my : Int))) := cy
                    go_upto_region 23 with fail
                    clear cy hbv hmin
                    refine wp_region_quiet_tail 10 (fun w' => ∃ q, w' = wr.drewN q) (by kernel_rfl) (by kernel_rfl) ⟨1, rfl⟩ ?_
                    simp only [List.take_succ_cons, List.take_zero, List.drop_succ_cons, List.drop_zero]
                    refine quiet_run rfl (.slice (some ⟨g, 0, none⟩) m m) (fun w' h => (by kernel_rfl)) ?_
                    simp only [Act.put, List.setIfInBounds_toArray, List.set_cons_zero, List.set_cons_succ]
                    refine quiet_run rfl (.int .i64 (y : Int)) (fun w' h => (by kernel_rfl)) ?_
                    simp only [Act.put, List.setIfInBounds_toArray, List.set_cons_zero, List.set_cons_succ]
                    refine quiet_run rfl (.pointer (some ⟨g, 0 + y, none⟩)) (fun w' h => exec_ixM _ _ rfl g 0 m m y (by kernel_rfl) (by kernel_rfl) hly) ?_
                    simp only [Act.put, List.setIfInBounds_toArray, List.set_cons_zero, List.set_cons_succ]
                    rw [Nat.zero_add]
                    refine quiet_run rfl (.int .u64 (my : Int)) (fun w' h => exec_load_cell 36 w' _ rfl ⟨g, y, none⟩ (by kernel_rfl) _ (by obtain ⟨q, rfl⟩ := h; exact hcy.out) (fun _ => by kernel_rfl)) ?_
                    simp only [Act.put, List.setIfInBounds_toArray, List.set_cons_zero, List.set_cons_succ]
                    refine quiet_run rfl (.slice (some ⟨g, 0, none⟩) m m) (fun w' h => (by kernel_rfl)) ?_
                    simp only [Act.put, List.setIfInBounds_toArray, List.set_cons_zero, List.set_cons_succ]
                    refine quiet_run rfl (.int .i64 (x : Int)) (fun w' h => (by kernel_rfl)) ?_
                    simp only [Act.put, List.setIfInBounds_toArray, List.set_cons_zero, List.set_cons_succ]
                    refine quiet_run rfl (.pointer (some ⟨g, 0 + x, none⟩)) (fun w' h => exec_ixM _ _ rfl g 0 m m x (by kernel_rfl) (by kernel_rfl) hlx) ?_
                    simp only [Act.put, List.setIfInBounds_toArray, List.set_cons_zero, List.set_cons_succ]
                    rw [Nat.zero_add]
                    refine quiet_run rfl (.int .u64 (mx : Int)) (fun w' h => exec_load_cell 36 w' _ rfl ⟨g, x, none⟩ (by kernel_rfl) _ (by obtain ⟨q, rfl⟩ := h; exact hcx.out) (fun _ => by kernel_rfl)) ?_
                    simp only [Act.put, List.setIfInBounds_toArray, List.set_cons_zero, List.set_cons_succ]
                    refine quiet_run rfl (.int .u64 ((my ||| mx : Nat) : Int)) (fun w' h => exec_orM _ _ rfl my mx (by kernel_rfl) (by kernel_rfl) hmy9 hmx9) ?_
                    simp only [Act.put, List.setIfInBounds_toArray, List.set_cons_zero, List.set_cons_succ]
                    refine quiet_run rfl (.pointer (some ⟨g, 0 + y, none⟩)) (fun w' h => exec_ixM _ _ rfl g 0 m m y (by kernel_rfl) (by kernel_rfl) hly) ?_
                    simp only [Act.put, List.setIfInBounds_toArray, List.set_cons_zero, List.set_cons_succ]
                    rw [Nat.zero_add]
                    refine wpQuiet_nil ?_
                    rintro _ ⟨q, rfl⟩
                    have hrow5 : Row g (wpart uw x y) (wr.drewN q) := hrow.out
                    refine wpList_store_cell rfl 36 _ _ rfl g y (by kernel_rfl) (.int .u64 ((my ||| mx : Nat) : Int)) (by kernel_rfl) _ (hrow5.cell (by rw [wpart_len, hlw.out]; exact hly)) hrow5.frozen (fun _ => by kernel_rfl) rfl rfl ?_
                    simp only [Act.put, List.setIfInBounds_toArray, List.set_cons_zero, List.set_cons_succ]
                    refine wpList_nil ?_
                    have hrow6 : Hid (Row g (wpart uw x (y + 1)) ((wr.drewN q).setCell ⟨g, y, none⟩ (.int .u64 ((my ||| mx : Nat) : Int)))) := by
                      show Row _ _ _
                      rw [hstep.out, hwr2.out]; exact hrow5.set y (my ||| mx)
                    have hb5 : Hid (Below w.heap.size w ((wr.drewN q).setCell ⟨g, y, none⟩ (.int .u64 ((my ||| mx : Nat) : Int)))) := (show Below w.heap.size w (wr.drewN q) from ⟨hbw.out.os, hbw.out.tape, hbw.out.output, hbw.out.size, hbw.out.block⟩).setCell hgH.out _
                    generalize World.setCell _ _ _ = w6 at hrow6 hb5 ⊢
                    generalize my ||| mx = mp
                    clear hrow5 hrow hcx hcy hstep hwr2
                    rename_i hK
                    refine hK _ _ ?_
                    clear hK
                    go_wp2_with fail
                    go_roundw
                    case rel => exact ⟨y + 1, by omega, by go_num, hrow6, hb5⟩
                    case measure => simp [intOf]; omega
                · have hJ : ¬ (y : Int) < (m : Int) := by omega
                  have hym : y = m := by omega
                  have hrow6 : Hid (Row g (warsh up0 (x + 1)) wr) := by show Row _ _ _; rw [hnext.out, ← hym]; exact hrow.out
                  clear hrow hym
                  go_wp2_with fail
                  go_roundw
                  case rel => exact ⟨x + 1, by omega, by go_num, hrow6, hbw⟩
                  case measure => simp [intOf]; omega
            · have hI : ¬ (x : Int) < (m : Int) := by omega
              have hxm : x = m := by omega
              have hrow6 : Hid (Row g (closS m pairs) wr) := by show Row _ _ _; rw [← hend.out, ← hxm]; exact hrow.out
              obtain ⟨rr, hrr⟩ : ∃ r, r = tr (Ord (closS m pairs)) := ⟨_, rfl⟩
              have hrrH : Hid (rr = tr (Ord (closS m pairs))) := hrr
              have hRR : Hid (R = if rr then (closS m pairs, 0) else ([], 9)) := by
                show _ = _
                rw [hRH.out]; unfold buildS
                rw [if_pos (tr_of (b := true) ⟨fun _ => ⟨by omega, by omega, hfit.out⟩, fun _ => rfl⟩).symm, Int.toNat_natCast, hrr]
              have hms : Ms wr (.slice (some ⟨g, 0, none⟩) m m) (closS m pairs) := hrow6.out.ms clos_len.symm
              have hsm : Small (closS m pairs) := clos_small hm64
              clear hrow hxm hrow3 hRH hfit hend hl0 hs0
              go_upto_region 26 with fail
              refine wp_region_lit ?_
              refine sl_run rfl (.slice (some ⟨g, 0, none⟩) m m) wr (by kernel_rfl) ?_
              simp only [Act.put, List.setIfInBounds_toArray, List.set_cons_zero, List.set_cons_succ]
              refine sl_call rfl 15 #[.slice (some ⟨g, 0, none⟩) m m] (by kernel_rfl) (R := fun v w' => v = .bool rr ∧ Below wr.heap.size wr w') ((rightT_calls (closS m pairs) hsm (some ⟨g, 0, none⟩) m m clos_len.symm wr (htH.out.below hw0.out hbw.out) hms).mono fun e w' h => ⟨_, h.1, by rw [hrr], h.2⟩) ?_
              rintro _ w2 ⟨rfl, hb2⟩
              simp only [Act.put, List.setIfInBounds_toArray, List.set_cons_zero, List.set_cons_succ]
              refine sl_run rfl (.bool (!rr)) w2 (by kernel_rfl) ?_
              simp only [Act.put, List.setIfInBounds_toArray, List.set_cons_zero, List.set_cons_succ]
              refine wpList_nil ?_
              have hms2 : Hid (Ms w2 (.slice (some ⟨g, 0, none⟩) m m) (closS m pairs)) := hms.below hb2
              have hb3 : Hid (Below w.heap.size w w2) := hbw.out.trans (hb2.mono hbw.out.size)
              clear hms hsm hb2 hrow6 hbw hrr hrrH
              cases rr with
              | false =>
                have hR0 : Hid (R = ([], 9)) := hRR.out
                go_wp2_with fail
                go_ret2
                rw [hR0.out]
                exact ⟨_, rfl, Rw.nil, hb3.out⟩
              | true =>
                have hR0 : Hid (R = (closS m pairs, 0)) := hRR.out
                go_wp2_with fail
                go_ret2
                rw [hR0.out]
                exact ⟨_, rfl, hms2.out, hb3.out⟩
end Go.Proofs.YtfbbpodlemllcaaDoor
