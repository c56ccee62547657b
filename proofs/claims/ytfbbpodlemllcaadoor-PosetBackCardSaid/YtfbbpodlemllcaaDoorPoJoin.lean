/-
  Orders: the program's Join.
-/
import Derived.Test.YtfbbpodlemllcaaDoorPoAsks2
namespace Go.Proofs.YtfbbpodlemllcaaDoor
open Go.RowKit Go.Shelf
set_option linter.unusedVariables false
set_option linter.unusedSimpArgs false
set_option pp.maxSteps 50000
attribute [local go_sem] Oper.semAt_some
/-- Is nothing that is above both left out above this one? -/
def least (up : List Nat) (both k : Nat) : Bool := both &&& (18446744073709551615 - up.getD k 0) == 0
noncomputable def joinS (up : List Nat) (a b : Int) : Option Nat :=
  if tr (Has up [a, b]) then (bl (up.getD a.toNat 0 &&& up.getD b.toNat 0)).find? (least up (up.getD a.toNat 0 &&& up.getD b.toNat 0)) else none
def AllNo (up : List Nat) (both : Nat) (pre : List (BitOf both)) : Prop := ∀ y ∈ pre, least up both y.1 = false
def Found (up : List Nat) (both : Nat) (pre : List (BitOf both)) : Prop := ∃ pre' x, pre = pre' ++ [x] ∧ AllNo up both pre' ∧ least up both x.1 = true
def lastK {m : Nat} (pre : List (BitOf m)) : Nat := (pre.getLast?.map (·.1)).getD 0
theorem find_all {up : List Nat} {both : Nat} {xs : List (BitOf both)} (h : xs.map (·.1) = bl both) (hn : AllNo up both xs) : (bl both).find? (least up both) = none := by
  rw [← h, List.find?_eq_none]
  intro k hk
  obtain ⟨y, hy, rfl⟩ := List.mem_map.1 hk
  rw [hn y hy]; decide
theorem find_got {up : List Nat} {both : Nat} {pre : List (BitOf both)} (h : pre.map (·.1) <+: bl both) (hf : Found up both pre) : (bl both).find? (least up both) = some (lastK pre) := by
  obtain ⟨pre', x, rfl, hn, hy⟩ := hf
  obtain ⟨rest, hr⟩ := h
  rw [← hr, List.map_append, List.append_assoc, List.find?_append]
  have h1 : (pre'.map (·.1)).find? (least up both) = none := by
    rw [List.find?_eq_none]
    intro k hk
    obtain ⟨y, hy, rfl⟩ := List.mem_map.1 hk
    rw [hn y hy]; decide
  rw [h1]
  simp [hy, lastK]
theorem results_cell2 {P : Program} {fn : Func} {p q : Tmp} {ty tz t u : TypeId} (h : fn.results = #[.cell p ty, .cell q tz]) (tmps : Array Value) (w : World) (g g2 : Nat) (v v2 : Value) (fr fr2 : Nat × Nat)
    (hp : tmps.getD p undef = .pointer (some ⟨g, 0, none⟩)) (hq : tmps.getD q undef = .pointer (some ⟨g2, 0, none⟩)) (hg : w.heap[g]? = some (.cells #[v] t fr)) (hg2 : w.heap[g2]? = some (.cells #[v2] u fr2)) (hag : ∀ w, (isAgg ty).run P w = .ok false w) (hag2 : ∀ w, (isAgg tz).run P w = .ok false w) : (results fn tmps).run P w = .ok (.tuple #[v, v2]) w := by
  have hp' : tmps[p]?.getD undef = .pointer (some ⟨g, 0, none⟩) := by simpa using hp
  have hq' : tmps[q]?.getD undef = .pointer (some ⟨g2, 0, none⟩) := by simpa using hq
  have hc : w.cell? ⟨g, 0, none⟩ = some v := by rw [cell_of_row _ _ _ _ _ _ hg]; rfl
  have hc2 : w.cell? ⟨g2, 0, none⟩ = some v2 := by rw [cell_of_row _ _ _ _ _ _ hg2]; rfl
  simp [results, h, hp', hq', asAddr, loadVar, Sem.run_bind, hag, hag2, hc, hc2]
/-- What Join keeps. -/
structure JF (w0 : World) (B d : Nat) (sv : Value) (both : Nat) (w : World) : Prop where
  h0 : w.heap[B]? = some (.cells #[sv] 24 (0, 0))
  h1 : w.heap[B + 1]? = some (.cells #[.int .i64 0] 3 (0, 0))
  h2 : w.heap[B + 2]? = some (.cells #[.bool false] 4 (0, 0))
  hd : w.heap[d]? = some (.cells #[.int .u64 (both : Int)] 36 (0, 0))
  hB : Below w0.heap.size w0 w
theorem JF.below {w0 w w' : World} {B d : Nat} {sv : Value} {both : Nat} (h : JF w0 B d sv both w) (hb : Below w.heap.size w w') : JF w0 B d sv both w' :=
  ⟨heap_kept h.h0 hb, heap_kept h.h1 hb, heap_kept h.h2 hb, heap_kept h.hd hb, h.hB.trans (hb.mono h.hB.size)⟩
structure JZ (w0 : World) (B : Nat) (k : Nat) (b : Bool) (w : World) : Prop where
  h1 : w.heap[B + 1]? = some (.cells #[.int .i64 (k : Int)] 3 (0, 0))
  h2 : w.heap[B + 2]? = some (.cells #[.bool b] 4 (0, 0))
  hB : Below w0.heap.size w0 w
theorem JF.own {β : Type} {w0 : World} {B d Bd : Nat} {sv : Value} {both : Nat} (h2 : w0.heap.size ≤ Bd) : OwnFrom Bd (fun (_ : β) W => JF w0 B d sv both W) := fun s W W' row hs hg hr =>
  have hs' : JF w0 B d sv both W := hs
  ⟨own_heap (β := β) (cs := fun _ => #[sv]) s W W' row hs'.h0 hg hr, own_heap (β := β) (cs := fun _ => #[.int .i64 0]) s W W' row hs'.h1 hg hr, own_heap (β := β) (cs := fun _ => #[.bool false]) s W W' row hs'.h2 hg hr, own_heap (β := β) (cs := fun _ => #[.int .u64 (both : Int)]) s W W' row hs'.hd hg hr, ownFrom_below (Nat.le_refl _) h2 s W W' row hs'.hB hg hr⟩
theorem JZ.own {β : Type} {w0 : World} {B Bd : Nat} {k : β → Nat} {b : Bool} (h2 : w0.heap.size ≤ Bd) : OwnFrom Bd (fun (s : β) W => JZ w0 B (k s) b W) := fun s W W' row hs hg hr =>
  have hs' : JZ w0 B (k s) b W := hs
  ⟨own_heap (β := β) (cs := fun s => #[.int .i64 (k s : Int)]) s W W' row hs'.h1 hg hr, own_heap (β := β) (cs := fun _ => #[.bool b]) s W W' row hs'.h2 hg hr, ownFrom_below (Nat.le_refl _) h2 s W W' row hs'.hB hg hr⟩
theorem jz_store {w0 w : World} {B : Nat} {z1 : Value} {z2 : Value} (h1 : w.heap[B + 1]? = some (.cells #[z1] 3 (0, 0))) (h2 : w.heap[B + 2]? = some (.cells #[z2] 4 (0, 0))) (hB : Below w0.heap.size w0 w) (hle : w0.heap.size ≤ B) (k : Nat) (b : Bool) :
    JZ w0 B k b ((w.setCell ⟨B + 1, 0, none⟩ (.int .i64 (k : Int))).setCell ⟨B + 2, 0, none⟩ (.bool b)) := by
  have h3 : (w.setCell ⟨B + 1, 0, none⟩ (.int .i64 (k : Int))).heap[B + 2]? = some (.cells #[z2] 4 (0, 0)) := (heap_setCell_other _ _ _ _ (by show B + 2 ≠ B + 1; omega)).trans h2
  exact ⟨(heap_setCell_other _ _ _ _ (by show B + 1 ≠ B + 2; omega)).trans (heap_setCell_same _ _ _ _ _ _ h1), heap_setCell_same _ _ _ _ _ _ h3, (hB.setCell (by show _ ≤ B + 1; omega) _).setCell (by show _ ≤ B + 2; omega) _⟩
theorem join_leaves {w0 w : World} {B k : Nat} {b : Bool} {Ds : List Nat} {a : Act} {r : Option Nat} (h : JZ w0 B k b w) (hm : ∀ D ∈ Ds, w.heap[D]? = some (.deferred (some []))) (hnd : Ds.Nodup) (hge : ∀ D ∈ Ds, w0.heap.size ≤ D)
    (hp : a.tmps.getD 6 undef = .pointer (some ⟨B + 1, 0, none⟩)) (hq : a.tmps.getD 7 undef = .pointer (some ⟨B + 2, 0, none⟩)) (hd : a.defers = Ds.map mark) (hr : r.getD 0 = k ∧ r.isSome = b) :
    bodyPostM Fence.wide 5 Tryd.prog Tryd.f17 (fun e w' => e = .returned (.tuple #[.int .i64 ((r.getD 0 : Nat) : Int), .bool r.isSome]) ∧ Below w0.heap.size w0 w') .ret a w :=
  bodyM_marks (fun w' => w'.heap[B + 1]? = some (.cells #[.int .i64 (k : Int)] 3 (0, 0)) ∧ w'.heap[B + 2]? = some (.cells #[.bool b] 4 (0, 0)) ∧ Below w0.heap.size w0 w') Ds hd hnd hm ⟨h.h1, h.h2, h.hB⟩
    (fun w' D hD hC hk => ⟨put_mark_heap hk hC.1, put_mark_heap hk hC.2.1, put_mark_below hC.2.2 (hge D hD) hC.2.2.size⟩)
    (fun w' hC => ⟨_, results_cell2 (fn := Tryd.f17) rfl _ _ (B + 1) (B + 2) (.int .i64 (k : Int)) (.bool b) (0, 0) (0, 0) hp hq hC.1 hC.2.1 (fun _ => by kernel_rfl) (fun _ => by kernel_rfl), by rw [hr.1, hr.2], hC.2.2⟩)
set_option maxRecDepth 100000 in
set_option maxHeartbeats 4000000 in
theorem join_calls (up : List Nat) (hs : Small up) (A : Option Addr) (n c : Nat) (hn : n = up.length) (a b : Int) (w : World) (ht : Tab w) (hy : Ms w (.slice A n c) up) :
    Calls Tryd.prog 17 #[.slice A n c, .int .i64 a, .int .i64 b] w fun e w' => e = .returned (.tuple #[.int .i64 (((joinS up a b).getD 0 : Nat) : Int), .bool (joinS up a b).isSome]) ∧ Below w.heap.size w w' := by
  obtain ⟨r, hr⟩ : ∃ r, r = joinS up a b := ⟨_, rfl⟩
  rw [← hr]
  have hrH : Hid (r = joinS up a b) := hr
  have hn' : Hid (n = up.length) := hn
  have hsH : Hid (Small up) := hs
  have htH : Hid (Tab w) := ht
  have hyH : Hid (Ms w (.slice A n c) up) := hy
  clear hn hs ht hy hr
  refine calls_marks 5 Tryd.func17 rfl ?_
  simp only [Tryd.ntmps17, List.size_toArray, List.length_cons, List.length_nil, Nat.reduceAdd, Nat.reduceSub, Array.replicate_succ, Array.replicate_zero, List.push_toArray, List.append_toArray, List.nil_append, List.cons_append]
  go_upto_region 1 with fail
  generalize hW : World.alloc _ _ = W
  have hW0 : W.heap[w.heap.size]? = some (.cells #[.slice A n c] 24 (0, 0)) := by rw [← hW, heap_alloc_old _ _ (by simp; omega)]; exact heap_alloc2_old w _ _
  have hW1 : W.heap[w.heap.size + 1]? = some (.cells #[.int .i64 0] 3 (0, 0)) := by rw [← hW, heap_alloc_old _ _ (by simp)]; exact heap_alloc2_new w _ _
  have hW2 : W.heap[w.heap.size + 2]? = some (.cells #[.bool false] 4 (0, 0)) := by
    rw [← hW]
    have := heap_alloc_new ((w.alloc (.cells #[.slice A n c] 24)).alloc (.cells #[.int .i64 0] 3)) (.cells #[.bool false] 4)
    rw [show ((w.alloc (.cells #[.slice A n c] 24)).alloc (.cells #[.int .i64 0] 3)).heap.size = w.heap.size + 2 from by simp] at this
    exact this
  have hWB : Below w.heap.size w W := by rw [← hW]; exact (((Below.refl _ _).alloc (Nat.le_refl _) _).alloc (by simp) _).alloc (by simp; omega) _
  clear hW
  obtain ⟨B, hBd⟩ : ∃ B, B = w.heap.size := ⟨_, rfl⟩
  have hBH : Hid (B = w.heap.size) := hBd
  rw [← hBd] at hW0 hW1 hW2 ⊢
  clear hBd

  refine wp_region_lit ?_
  refine sl_run rfl (.slice A n c) W (exec_load_cell 24 W _ rfl ⟨B, 0, none⟩ (by kernel_rfl) _ (by rw [cell_of_row _ _ _ _ _ _ hW0]; rfl) (fun _ => by kernel_rfl)) ?_
  simp only [Act.put, List.setIfInBounds_toArray, List.set_cons_zero, List.set_cons_succ]
  refine sl_run rfl (.int .i64 a) W (by kernel_rfl) ?_
  simp only [Act.put, List.setIfInBounds_toArray, List.set_cons_zero, List.set_cons_succ]
  refine sl_run rfl (.int .i64 b) W (by kernel_rfl) ?_
  simp only [Act.put, List.setIfInBounds_toArray, List.set_cons_zero, List.set_cons_succ]
  refine sl_run rfl (.slice (some ⟨W.heap.size, 0, none⟩) 2 2) (W.alloc (.cells (flat encI [a, b]).toArray 3)) (by kernel_rfl) ?_
  simp only [Act.put, List.setIfInBounds_toArray, List.set_cons_zero, List.set_cons_succ]
  have hn1 : (W.alloc (.cells (flat encI [a, b]).toArray 3)).heap[W.heap.size]? = some (.cells (flat encI [a, b]).toArray 3 (0, 0)) := heap_alloc_new _ _
  have hb1 : Below W.heap.size W (W.alloc (.cells (flat encI [a, b]).toArray 3)) := (Below.refl _ _).alloc (Nat.le_refl _) _
  obtain ⟨g1, hg1⟩ : ∃ g, g = W.heap.size := ⟨_, rfl⟩
  rw [← hg1] at hn1 ⊢
  generalize W.alloc _ = w1 at hn1 hb1 ⊢
  have hb01 : Below w.heap.size w w1 := hWB.trans (hb1.mono hWB.size)
  have hrw : Rw 1 encI w1 (.slice (some ⟨g1, 0, none⟩) 2 2) [a, b] := rw_new (enc := encI) encI_size [a, b] hn1
  obtain ⟨hh, hhh⟩ : ∃ hh, hh = tr (Has up [a, b]) := ⟨_, rfl⟩
  refine sl_call rfl 31 #[.slice A n c, .slice (some ⟨g1, 0, none⟩) 2 2] (by kernel_rfl) (R := fun v w' => v = .bool hh ∧ Below w1.heap.size w1 w') ((has_calls up hsH.out A n c hn'.out [a, b] (some ⟨g1, 0, none⟩) 2 2 rfl (by decide) w1 (htH.out.below htH.out.1 hb01) (hyH.out.below hb01) hrw).mono fun e w' h => ⟨_, h.1, by rw [hhh], h.2⟩) ?_
  rintro _ w2 ⟨rfl, hb2⟩
  simp only [Act.put, List.setIfInBounds_toArray, List.set_cons_zero, List.set_cons_succ]
  refine sl_run rfl (.bool (!hh)) w2 (by kernel_rfl) ?_
  simp only [Act.put, List.setIfInBounds_toArray, List.set_cons_zero, List.set_cons_succ]
  refine wpList_nil ?_
  have hb3 : Below w.heap.size w w2 := hb01.trans (hb2.mono hb01.size)
  have hk12 : Below W.heap.size W w2 := hb1.trans (hb2.mono hb1.size)
  have k0 : Hid (w2.heap[B]? = some (.cells #[.slice A n c] 24 (0, 0))) := heap_kept hW0 hk12
  have k1 : Hid (w2.heap[B + 1]? = some (.cells #[.int .i64 0] 3 (0, 0))) := heap_kept hW1 hk12
  have k2 : Hid (w2.heap[B + 2]? = some (.cells #[.bool false] 4 (0, 0))) := heap_kept hW2 hk12
  have hb3' : Hid (Below w.heap.size w w2) := hb3
  have hhH : Hid (hh = tr (Has up [a, b])) := hhh
  clear hn1 hb1 hb01 hrw hb2 hhh hk12 hW0 hW1 hW2 hWB hb3 hg1
  cases hh with
  | false =>
    have hr0 : Hid (r = none) := by show _ = _; rw [hrH.out]; unfold joinS; rw [← hhH.out]; rfl
    go_upto_region 2 with fail
    refine wp_region_lit ?_
    refine wpList_store_cell rfl 3 _ _ rfl (B + 1) 0 (by kernel_rfl) (.int .i64 ((0 : Nat) : Int)) (by kernel_rfl) (.int .i64 0) (by rw [cell_of_row _ _ _ _ _ _ k1.out]; rfl) (frozen_of_row _ _ _ _ _ k1.out) (fun _ => by kernel_rfl) rfl rfl ?_
    simp only [Act.put, List.setIfInBounds_toArray, List.set_cons_zero, List.set_cons_succ]
    have hx2 : (w2.setCell ⟨B + 1, 0, none⟩ (.int .i64 ((0 : Nat) : Int))).heap[B + 2]? = some (.cells #[.bool false] 4 (0, 0)) := (heap_setCell_other _ _ _ _ (by show B + 2 ≠ B + 1; omega)).trans k2.out
    refine wpList_store_cell rfl 4 _ _ rfl (B + 2) 0 (by kernel_rfl) (.bool false) (by kernel_rfl) (.bool false) (by rw [cell_of_row _ _ _ _ _ _ hx2]; rfl) (frozen_of_row _ _ _ _ _ hx2) (fun _ => by kernel_rfl) rfl rfl ?_
    simp only [Act.put, List.setIfInBounds_toArray, List.set_cons_zero, List.set_cons_succ]
    refine wpList_nil ?_
    rename_i hK
    refine hK _ _ (wp_ret ?_)
    change bodyPostM Fence.wide 5 Tryd.prog Tryd.f17 (fun e w' => e = .returned (.tuple #[.int .i64 ((r.getD 0 : Nat) : Int), .bool r.isSome]) ∧ Below w.heap.size w w') .ret _ _
    exact join_leaves (Ds := []) (jz_store k1.out k2.out hb3'.out (by rw [hBH.out]; exact Nat.le_refl _) 0 false) (fun D h => (List.not_mem_nil h).elim) (by simp) (fun D h => (List.not_mem_nil h).elim) (by kernel_rfl) (by kernel_rfl) (by kernel_rfl) (by rw [hr0.out]; exact ⟨rfl, rfl⟩)
  | true =>
    have hH : Has up [a, b] := tr_iff.1 hhH.out.symm
    obtain ⟨i, j, rfl, rfl, hi, hj, hn64⟩ := region_at up n hn'.out hH
    have hord : Hid (Ord up) := hH.2
    clear hH
    obtain ⟨g, o, rfl, hnc, hg, _⟩ := hyH.out.elem i (by rw [← hn'.out]; exact hi)
    have hreg : Hid (∀ w', Below w.heap.size w w' → ∀ i, i < n → w'.cell? ⟨g, o + i, none⟩ = some (.int .u64 ((up.getD i 0 : Nat) : Int))) := fun w' h i hi => by
      rw [h.cell (by exact hg)]; exact elem_ms hyH.out i (by rw [← hn'.out]; exact hi)
    obtain ⟨mi, hmi⟩ : ∃ mi, mi = up.getD i 0 := ⟨_, rfl⟩
    obtain ⟨mj, hmj⟩ : ∃ mj, mj = up.getD j 0 := ⟨_, rfl⟩
    have hmi9 : mi < 18446744073709551616 := by rw [hmi]; exact small_get hsH.out _
    have hmj9 : mj < 18446744073709551616 := by rw [hmj]; exact small_get hsH.out _
    have hr0 : Hid (r = (bl (mi &&& mj)).find? (least up (mi &&& mj))) := by
      show _ = _
      rw [hrH.out]; unfold joinS; rw [← hhH.out, if_pos rfl, Int.toNat_natCast, Int.toNat_natCast, ← hmi, ← hmj]
    have hbn : Hid (∀ k, (mi &&& mj).testBit k = true → k < n) := fun k hk => by
      rw [Nat.testBit_and, Bool.and_eq_true, hmi] at hk
      rw [hn'.out]; exact ((hord.out.2.2 i (by rw [← hn'.out]; exact hi)).2 k hk.1).1
    have hb9 : mi &&& mj < 18446744073709551616 := Nat.lt_of_le_of_lt Nat.and_le_left hmi9
    have cmi : Hid (∀ w', Below w.heap.size w w' → w'.cell? ⟨g, o + i, none⟩ = some (.int .u64 (mi : Int))) := fun w' h => by rw [hmi]; exact hreg.out w' h i hi
    have cmj : Hid (∀ w', Below w.heap.size w w' → w'.cell? ⟨g, o + j, none⟩ = some (.int .u64 (mj : Int))) := fun w' h => by rw [hmj]; exact hreg.out w' h j hj
    clear hmi hmj hrH
    obtain ⟨both, hboth⟩ : ∃ z, z = mi &&& mj := ⟨_, rfl⟩
    rw [← hboth] at hr0 hbn hb9
    have hbothH : Hid (both = mi &&& mj) := hboth
    clear hboth
    go_upto_region 3 with fail
    refine wp_leaves (α := Nat) (fun d a => ((((((((((a.put (some 16) (.slice (some ⟨g, o, none⟩) n c)).put (some 17) (.int .i64 (i : Int))).put (some 18) (.pointer (some ⟨g, o + i, none⟩))).put (some 19) (.int .u64 (mi : Int))).put (some 20) (.slice (some ⟨g, o, none⟩) n c)).put (some 21) (.int .i64 (j : Int))).put (some 22) (.pointer (some ⟨g, o + j, none⟩))).put (some 23) (.int .u64 (mj : Int))).put (some 24) (.int .u64 (both : Int))).put (some 8) (.pointer (some ⟨d, 0, none⟩))))
      (fun d w' => Hid (JF w B d (.slice (some ⟨g, o, none⟩) n c) both w')) ?_ ?_
    · refine wp_region_held_drew (S := fun w' => Below w2.heap.size w2 w') (by kernel_rfl) (Below.refl _ _).drew (fun hS => ?_)
      change wpAnyH _ _ _ _ _ 11 (Array.replicate 11 false) _ _
      generalize hx : w2.drew = v0 at hS
      clear hx
      refine held_take 0 rfl (by kernel_rfl) (by kernel_rfl) (by kernel_rfl) (.slice (some ⟨g, o, none⟩) n c) (fun _ _ _ h => nomatch h.1) (by kernel_rfl) (fun w' h => exec_load_cell 24 w' _ rfl ⟨B, 0, none⟩ (by kernel_rfl) _ (by rw [cell_of_row _ _ _ _ _ _ (heap_kept k0.out h)]; rfl) (fun _ => by kernel_rfl)) hS ?_
      simp only [Act.put, List.setIfInBounds_toArray, List.set_cons_zero, List.set_cons_succ, List.getElem_toArray, List.getElem_cons_succ, List.getElem_cons_zero]
      refine held_take 1 rfl (by kernel_rfl) (by kernel_rfl) (by kernel_rfl) (.int .i64 (i : Int)) (fun _ _ _ h => nomatch h.1) (by kernel_rfl) (fun _ _ => by kernel_rfl) hS ?_
      simp only [Act.put, List.setIfInBounds_toArray, List.set_cons_zero, List.set_cons_succ, List.getElem_toArray, List.getElem_cons_succ, List.getElem_cons_zero]
      refine held_take 2 rfl (by kernel_rfl) (by kernel_rfl) (by kernel_rfl) (.pointer (some ⟨g, o + i, none⟩)) (fun _ _ _ h => nomatch h.1) (by kernel_rfl) (fun w' _ => exec_ixM _ _ rfl g o n c i (by kernel_rfl) (by kernel_rfl) hi) hS ?_
      simp only [Act.put, List.setIfInBounds_toArray, List.set_cons_zero, List.set_cons_succ, List.getElem_toArray, List.getElem_cons_succ, List.getElem_cons_zero]
      refine held_take 3 rfl (by kernel_rfl) (by kernel_rfl) (by kernel_rfl) (.int .u64 (mi : Int)) (fun _ _ _ h => nomatch h.1) (by kernel_rfl) (fun w' h => exec_load_cell 36 w' _ rfl ⟨g, o + i, none⟩ (by kernel_rfl) _ (cmi.out w' (hb3'.out.trans (h.mono hb3'.out.size))) (fun _ => by kernel_rfl)) hS ?_
      simp only [Act.put, List.setIfInBounds_toArray, List.set_cons_zero, List.set_cons_succ, List.getElem_toArray, List.getElem_cons_succ, List.getElem_cons_zero]
      refine held_take 4 rfl (by kernel_rfl) (by kernel_rfl) (by kernel_rfl) (.slice (some ⟨g, o, none⟩) n c) (fun _ _ _ h => nomatch h.1) (by kernel_rfl) (fun w' h => exec_load_cell 24 w' _ rfl ⟨B, 0, none⟩ (by kernel_rfl) _ (by rw [cell_of_row _ _ _ _ _ _ (heap_kept k0.out h)]; rfl) (fun _ => by kernel_rfl)) hS ?_
      simp only [Act.put, List.setIfInBounds_toArray, List.set_cons_zero, List.set_cons_succ, List.getElem_toArray, List.getElem_cons_succ, List.getElem_cons_zero]
      refine held_take 5 rfl (by kernel_rfl) (by kernel_rfl) (by kernel_rfl) (.int .i64 (j : Int)) (fun _ _ _ h => nomatch h.1) (by kernel_rfl) (fun _ _ => by kernel_rfl) hS ?_
      simp only [Act.put, List.setIfInBounds_toArray, List.set_cons_zero, List.set_cons_succ, List.getElem_toArray, List.getElem_cons_succ, List.getElem_cons_zero]
      refine held_take 6 rfl (by kernel_rfl) (by kernel_rfl) (by kernel_rfl) (.pointer (some ⟨g, o + j, none⟩)) (fun _ _ _ h => nomatch h.1) (by kernel_rfl) (fun w' _ => exec_ixM _ _ rfl g o n c j (by kernel_rfl) (by kernel_rfl) hj) hS ?_
      simp only [Act.put, List.setIfInBounds_toArray, List.set_cons_zero, List.set_cons_succ, List.getElem_toArray, List.getElem_cons_succ, List.getElem_cons_zero]
      refine held_take 7 rfl (by kernel_rfl) (by kernel_rfl) (by kernel_rfl) (.int .u64 (mj : Int)) (fun _ _ _ h => nomatch h.1) (by kernel_rfl) (fun w' h => exec_load_cell 36 w' _ rfl ⟨g, o + j, none⟩ (by kernel_rfl) _ (cmj.out w' (hb3'.out.trans (h.mono hb3'.out.size))) (fun _ => by kernel_rfl)) hS ?_
      simp only [Act.put, List.setIfInBounds_toArray, List.set_cons_zero, List.set_cons_succ, List.getElem_toArray, List.getElem_cons_succ, List.getElem_cons_zero]
      refine held_take 8 rfl (by kernel_rfl) (by kernel_rfl) (by kernel_rfl) (.int .u64 (both : Int)) (fun _ _ _ h => nomatch h.1) (by kernel_rfl) (fun w' h => (exec_andM _ _ rfl mi mj (by kernel_rfl) (by kernel_rfl) hmi9 hmj9).trans (by rw [hbothH.out])) hS ?_
      simp only [Act.put, List.setIfInBounds_toArray, List.set_cons_zero, List.set_cons_succ, List.getElem_toArray, List.getElem_cons_succ, List.getElem_cons_zero]
      refine held_new 9 rfl (by kernel_rfl) (by kernel_rfl) (.pointer (some ⟨v0.heap.size, 0, none⟩)) (v0.alloc (.cells #[.int .u64 0] 36)) (by kernel_rfl) (fun w' => Below w2.heap.size w2 w' ∧ w'.heap[v0.heap.size]? = some (.cells #[.int .u64 0] 36 (0, 0))) ⟨hS.alloc hS.size _, heap_alloc_new _ _⟩ ?_
      rintro w3 ⟨hS3, hn3⟩
      refine ⟨hS3, ?_⟩
      simp only [Act.put, List.setIfInBounds_toArray, List.set_cons_zero, List.set_cons_succ, List.getElem_toArray, List.getElem_cons_succ, List.getElem_cons_zero]
      have hd2 : w2.heap.size ≤ v0.heap.size := hS.size
      generalize v0.heap.size = d at hn3 hd2 ⊢
      refine held_one 10 rfl (by kernel_rfl) (by kernel_rfl) (fun K hK => ?_)
      refine wp_skipped (w3.setCell ⟨d, 0, none⟩ (.int .u64 (both : Int))) (exec_store_cell 36 _ _ rfl d 0 (by kernel_rfl) (.int .u64 (both : Int)) (by kernel_rfl) (.int .u64 0) (by rw [cell_of_row _ _ _ _ _ _ hn3]; rfl) (frozen_of_row _ _ _ _ _ hn3) (fun _ => by kernel_rfl) rfl rfl) ?_
      refine hK _ _ (hS3.setCell hd2 _) ?_
      clear hK
      simp only [Act.put, List.setIfInBounds_toArray, List.set_cons_zero, List.set_cons_succ, List.getElem_toArray, List.getElem_cons_succ, List.getElem_cons_zero]
      refine wpAnyH_done (by kernel_rfl) ?_ _
      have hn4 := heap_setCell_same _ _ 0 _ _ (.int .u64 (both : Int)) hn3
      have hS4 : Below w2.heap.size w2 (w3.setCell ⟨d, 0, none⟩ (.int .u64 (both : Int))) := hS3.setCell hd2 _
      generalize World.setCell _ _ _ = w4 at hn4 hS4 ⊢
      have hJ : Hid (JF w B d (.slice (some ⟨g, o, none⟩) n c) both w4) := ⟨heap_kept k0.out hS4, heap_kept k1.out hS4, heap_kept k2.out hS4, hn4, hb3'.out.trans (hS4.mono hb3'.out.size)⟩
      exact ⟨rfl, d, by kernel_rfl, hJ⟩
    rintro d w4 hJ
    rename_i hK
    refine hK _ _ ?_
    simp only [Act.put, List.setIfInBounds_toArray, List.set_cons_zero, List.set_cons_succ]
    clear k0 k1 k2 hb3'
    go_upto_region 4 with fail
    refine wp_region_lit ?_
    refine sl_run rfl (.int .u64 (both : Int)) w4 (exec_load_cell 36 w4 _ rfl ⟨d, 0, none⟩ (by kernel_rfl) _ (by rw [cell_of_row _ _ _ _ _ _ hJ.out.hd]; rfl) (fun _ => by kernel_rfl)) ?_
    simp only [Act.put, List.setIfInBounds_toArray, List.set_cons_zero, List.set_cons_succ]
    refine sl_call rfl 28 #[.int .u64 (both : Int)] (by kernel_rfl) (R := fun v w' => v = .func (.func 33) #[] #[.pointer (some ⟨w4.heap.size, 0, none⟩)] ∧ w' = w4.alloc (.cells #[.int .u64 (both : Int)] 36)) ((bits_calls both w4).mono fun e w' h => ⟨_, h.1, rfl, h.2⟩) ?_
    rintro _ _ ⟨rfl, rfl⟩
    simp only [Act.put, List.setIfInBounds_toArray, List.set_cons_zero, List.set_cons_succ]
    refine wpList_nil ?_
    have hb5 : Below w4.heap.size w4 (w4.alloc (.cells #[.int .u64 (both : Int)] 36)) := (Below.refl _ _).alloc (Nat.le_refl _) _
    have hm5 : (w4.alloc (.cells #[.int .u64 (both : Int)] 36)).heap[w4.heap.size]? = some (.cells #[.int .u64 (both : Int)] 36 (0, 0)) := heap_alloc_new _ _
    obtain ⟨bm, hbm⟩ : ∃ b, b = w4.heap.size := ⟨_, rfl⟩
    rw [← hbm] at hm5 ⊢
    generalize w4.alloc _ = w5 at hb5 hm5 ⊢
    have hJ5 : Hid (JF w B d (.slice (some ⟨g, o, none⟩) n c) both w5) := hJ.out.below hb5
    clear hJ hb5 hbm
    rename_i hK
    refine hK _ _ ?_
    refine wp_block ?_
    refine wp_range 5 (by decide) (gf := 33) (lb := #[.pointer (some ⟨bm, 0, none⟩)]) rfl (enters_of Tryd.func33 (by kernel_rfl) rfl)
      (bits_stops 4 (by decide) both bm w.heap.size hb9 w5 htH.out.1 hJ5.out.hB.size (by rw [cell_of_row _ _ _ _ _ _ hm5]; rfl) ((Array.getElem?_eq_some_iff.1 hm5).1) (htH.out.below htH.out.1 hJ5.out.hB)) hJ5.out.hB.size (fun _ => rfl)
      (fun pre W => AllNo up both pre ∧ JF w B d (.slice (some ⟨g, o, none⟩) n c) both W)
      (fun c pre W => (c = .ret ∧ Found up both pre) ∧ JZ w B (lastK pre) true W)
      (OwnFrom.and own_pure (JF.own hJ5.out.hB.size))
      (fun c => OwnFrom.and own_pure (JZ.own hJ5.out.hB.size))
      ⟨fun y hy => (List.not_mem_nil hy).elim, hJ5.out⟩
      (fun x => { tmps := #[.slice (some ⟨g, o, none⟩) n c, .int .i64 (i : Int), .int .i64 (j : Int), .pointer (some ⟨B, 0, none⟩), undef, undef, .pointer (some ⟨B + 1, 0, none⟩), .pointer (some ⟨B + 2, 0, none⟩), .pointer (some ⟨d, 0, none⟩), .int .i64 (x.1 : Int), .slice (some ⟨g, o, none⟩) n c, .int .i64 (i : Int), .int .i64 (j : Int), .slice (some ⟨g1, 0, none⟩) 2 2, .bool true, .bool false, .slice (some ⟨g, o, none⟩) n c, .int .i64 (i : Int), .pointer (some ⟨g, o + i, none⟩), .int .u64 (mi : Int), .slice (some ⟨g, o, none⟩) n c, .int .i64 (j : Int), .pointer (some ⟨g, o + j, none⟩), .int .u64 (mj : Int), .int .u64 (both : Int), .int .u64 (both : Int), .func (.func 33) #[] #[.pointer (some ⟨bm, 0, none⟩)], .int .i64 (x.1 : Int), undef, undef, undef, undef, undef, undef, undef, undef], defers := [] }) ?assign ?body ?done ?stop
    case assign =>
      intro l x W K hK
      simp only [encB]
      gi_wp2
      exact hK
    case body =>
      rintro l pre x W ⟨hpre, hJW⟩ _
      have hx1 : x.1 < n := hbn.out x.1 x.2.2
      obtain ⟨mk, hmk⟩ : ∃ mk, mk = up.getD x.1 0 := ⟨_, rfl⟩
      have hmkH : Hid (mk = up.getD x.1 0) := hmk
      have hmk9 : mk < 18446744073709551616 := by rw [hmk]; exact small_get hsH.out _
      clear hmk
      have hJW' : Hid (JF w B d (.slice (some ⟨g, o, none⟩) n c) both W) := hJW
      have hpre' : Hid (AllNo up both pre) := hpre
      clear hJW hpre hJ5 hm5
      obtain ⟨kx, hkx⟩ : ∃ kx, kx = x.1 := ⟨_, rfl⟩
      have hkxH : Hid (kx = x.1) := hkx
      rw [← hkx] at hx1 ⊢
      clear hkx
      refine wpIn_block ?_
      refine wpIn_seq ?_
      refine wpIn_region_quietR (C := Below W.heap.size W) (of_noDefer (by kernel_rfl)) (by kernel_rfl) (by kernel_rfl) (Below.refl _ _).drew ?_
      refine rq_run (by kernel_rfl) (.int .u64 (both : Int)) (fun w' h => exec_load_cell 36 w' _ rfl ⟨d, 0, none⟩ (by kernel_rfl) _ (by rw [cell_of_row _ _ _ _ _ _ (heap_kept hJW'.out.hd h)]; rfl) (fun _ => by kernel_rfl)) ?_
      simp only [Act.put, List.setIfInBounds_toArray, List.set_cons_zero, List.set_cons_succ]
      refine rq_run (by kernel_rfl) (.slice (some ⟨g, o, none⟩) n c) (fun w' h => exec_load_cell 24 w' _ rfl ⟨B, 0, none⟩ (by kernel_rfl) _ (by rw [cell_of_row _ _ _ _ _ _ (heap_kept hJW'.out.h0 h)]; rfl) (fun _ => by kernel_rfl)) ?_
      simp only [Act.put, List.setIfInBounds_toArray, List.set_cons_zero, List.set_cons_succ]
      refine rq_run (by kernel_rfl) (.int .i64 (kx : Int)) (fun w' h => (by kernel_rfl)) ?_
      simp only [Act.put, List.setIfInBounds_toArray, List.set_cons_zero, List.set_cons_succ]
      refine rq_run (by kernel_rfl) (.pointer (some ⟨g, o + kx, none⟩)) (fun w' h => exec_ixM _ _ rfl g o n c kx (by kernel_rfl) (by kernel_rfl) hx1) ?_
      simp only [Act.put, List.setIfInBounds_toArray, List.set_cons_zero, List.set_cons_succ]
      refine rq_run (by kernel_rfl) (.int .u64 (mk : Int)) (fun w' h => exec_load_cell 36 w' _ rfl ⟨g, o + kx, none⟩ (by kernel_rfl) _ (by rw [hmkH.out, ← hkxH.out]; exact hreg.out w' (hJW'.out.hB.trans (h.mono hJW'.out.hB.size)) kx hx1) (fun _ => by kernel_rfl)) ?_
      simp only [Act.put, List.setIfInBounds_toArray, List.set_cons_zero, List.set_cons_succ]
      refine rq_run (by kernel_rfl) (.int .u64 ((both &&& (18446744073709551615 - mk) : Nat) : Int)) (fun w' h => exec_andNotM _ _ rfl both mk (by kernel_rfl) (by kernel_rfl) hb9 hmk9) ?_
      simp only [Act.put, List.setIfInBounds_toArray, List.set_cons_zero, List.set_cons_succ]
      obtain ⟨z, hz⟩ : ∃ z, z = least up both x.1 := ⟨_, rfl⟩
      have hzz : (((both &&& (18446744073709551615 - mk) : Nat) : Int) == 0) = z := by
        rw [hz, nat_zero, hmkH.out]; unfold least; rw [Bool.eq_iff_iff]; simp
      have hzH : Hid (z = least up both x.1) := hz
      clear hz
      refine rq_run (by kernel_rfl) (.bool z) (fun w' h => (exec_eqM _ _ rfl _ 0 (by kernel_rfl) (by kernel_rfl)).trans (by rw [hzz])) ?_
      simp only [Act.put, List.setIfInBounds_toArray, List.set_cons_zero, List.set_cons_succ]
      refine wpQuietIn_nil ?_
      intro w6 hb6
      have hJ6 : Hid (JF w B d (.slice (some ⟨g, o, none⟩) n c) both w6) := hJW'.out.below hb6
      have hk6 : Hid (KeepsOthers W w6) := keeps_below hb6
      have hb7 : Hid (Below w.heap.size W w6) := hb6.mono hJW'.out.hB.size
      clear hb6 hzz
      cases z with
      | true =>
        have c1 : w6.cell? ⟨B + 1, 0, none⟩ = some (.int .i64 0) := by rw [cell_of_row _ _ _ _ _ _ hJ6.out.h1]; rfl
        have f1 : w6.frozen? ⟨B + 1, 0, none⟩ = false := frozen_of_row _ _ _ _ _ hJ6.out.h1
        have c2 : w6.cell? ⟨B + 2, 0, none⟩ = some (.bool false) := by rw [cell_of_row _ _ _ _ _ _ hJ6.out.h2]; rfl
        have f2 : w6.frozen? ⟨B + 2, 0, none⟩ = false := frozen_of_row _ _ _ _ _ hJ6.out.h2
        have hfound : Hid (Found up both (pre ++ [x]) ∧ lastK (pre ++ [x]) = kx) := ⟨⟨pre, x, rfl, hpre'.out, hzH.out.symm⟩, by rw [hkxH.out]; simp [lastK]⟩
        gi_wp2
        refine ⟨(hk6.out.trans (KeepsOthers.setCell _ _ _)).trans (KeepsOthers.setCell _ _ _), ⟨rfl, hfound.out.1⟩, ?_⟩
        rw [hfound.out.2]
        exact jz_store hJ6.out.h1 hJ6.out.h2 hJ6.out.hB (by rw [hBH.out]; exact Nat.le_refl _) kx true
      | false =>
        gi_wp2
        exact ⟨hk6.out, hb7.out, fun y hy => (List.mem_append.1 hy).elim (hpre'.out y) (fun h => by rw [List.mem_singleton.1 h]; exact hzH.out.symm), hJ6.out⟩
    case done =>
      rintro D xs W hD hS ⟨hall, hJW⟩ hK
      have hr1 : Hid (r = none) := hr0.out.trans (find_all hS hall)
      have hJW' : Hid (JF w B d (.slice (some ⟨g, o, none⟩) n c) both W) := hJW
      have hKH : Hid (W.heap[D]? = some (.deferred (some []))) := hK
      have hDH : Hid (w.heap.size ≤ D) := by have := hJ5.out.hB.size; show _ ≤ _; omega
      clear hall hJW hK hD hJ5 hm5
      go_upto_region 8 with fail
      refine wp_region_lit ?_
      refine wpList_store_cell rfl 3 _ _ rfl (B + 1) 0 (by kernel_rfl) (.int .i64 ((0 : Nat) : Int)) (by kernel_rfl) (.int .i64 0) (by rw [cell_of_row _ _ _ _ _ _ hJW'.out.h1]; rfl) (frozen_of_row _ _ _ _ _ hJW'.out.h1) (fun _ => by kernel_rfl) rfl rfl ?_
      simp only [Act.put, List.setIfInBounds_toArray, List.set_cons_zero, List.set_cons_succ]
      have hx2 : (W.setCell ⟨B + 1, 0, none⟩ (.int .i64 ((0 : Nat) : Int))).heap[B + 2]? = some (.cells #[.bool false] 4 (0, 0)) := (heap_setCell_other _ _ _ _ (by show B + 2 ≠ B + 1; omega)).trans hJW'.out.h2
      refine wpList_store_cell rfl 4 _ _ rfl (B + 2) 0 (by kernel_rfl) (.bool false) (by kernel_rfl) (.bool false) (by rw [cell_of_row _ _ _ _ _ _ hx2]; rfl) (frozen_of_row _ _ _ _ _ hx2) (fun _ => by kernel_rfl) rfl rfl ?_
      simp only [Act.put, List.setIfInBounds_toArray, List.set_cons_zero, List.set_cons_succ]
      refine wpList_nil ?_
      rename_i hK
      refine hK _ _ (wp_ret ?_)
      change bodyPostM Fence.wide 5 Tryd.prog Tryd.f17 (fun e w' => e = .returned (.tuple #[.int .i64 ((r.getD 0 : Nat) : Int), .bool r.isSome]) ∧ Below w.heap.size w w') .ret _ _
      have hne1 : D ≠ B + 1 := fun e => by have h1 := hKH.out; rw [e, hJW'.out.h1] at h1; cases h1
      have hne2 : D ≠ B + 2 := fun e => by have h1 := hKH.out; rw [e, hJW'.out.h2] at h1; cases h1
      exact join_leaves (Ds := [D]) (jz_store hJW'.out.h1 hJW'.out.h2 hJW'.out.hB (by rw [hBH.out]; exact Nat.le_refl _) 0 false) (fun D' h => by rw [List.mem_singleton.1 h, heap_setCell_other _ _ _ _ hne2, heap_setCell_other _ _ _ _ hne1]; exact hKH.out) (by simp) (fun D' h => by rw [List.mem_singleton.1 h]; exact hDH.out) (by kernel_rfl) (by kernel_rfl) rfl (by rw [hr1.out]; exact ⟨rfl, rfl⟩)
    case stop =>
      rintro D cc pre W hD hSp ⟨⟨rfl, hf⟩, hZ⟩ hK
      refine wp_ret ?_
      change bodyPostM Fence.wide 5 Tryd.prog Tryd.f17 (fun e w' => e = .returned (.tuple #[.int .i64 ((r.getD 0 : Nat) : Int), .bool r.isSome]) ∧ Below w.heap.size w w') .ret _ _
      exact join_leaves (Ds := [D]) hZ (fun D' h => by rw [List.mem_singleton.1 h]; exact hK) (by simp) (fun D' h => by rw [List.mem_singleton.1 h]; have := hJ5.out.hB.size; omega) (by kernel_rfl) (by kernel_rfl) rfl (by rw [hr0.out, find_got hSp hf]; exact ⟨rfl, rfl⟩)
end Go.Proofs.YtfbbpodlemllcaaDoor
