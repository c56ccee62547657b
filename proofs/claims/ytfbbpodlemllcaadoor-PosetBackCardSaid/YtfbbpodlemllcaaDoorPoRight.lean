/-
  Orders: the program's Right.
-/
import Derived.Test.YtfbbpodlemllcaaDoorPoMsk
namespace Go.Proofs.YtfbbpodlemllcaaDoor
open Go.RowKit Go.Shelf
set_option linter.unusedVariables false
set_option linter.unusedSimpArgs false
set_option pp.maxSteps 50000
attribute [local go_sem] Oper.semAt_some
/-- What stands above a label is right. -/
def okRow (up : List Nat) (i : Nat) : Prop := (up.getD i 0).testBit i = true ∧ ∀ k, (up.getD i 0).testBit k = true → k < up.length ∧ (∀ c, (up.getD k 0).testBit c = true → (up.getD i 0).testBit c = true) ∧ (k ≠ i → (up.getD k 0).testBit i = false)
/-- Masks that are an order. -/
def Ord (up : List Nat) : Prop := 1 ≤ up.length ∧ up.length ≤ 64 ∧ ∀ i, i < up.length → okRow up i
/-- One bit's label stands badly. -/
def badBit (up : List Nat) (i k : Nat) : Prop := ¬ (∀ c, (up.getD k 0).testBit c = true → (up.getD i 0).testBit c = true) ∨ (k ≠ i ∧ (up.getD k 0).testBit i = true)
def AllGood (up : List Nat) (i : Nat) {m : Nat} (pre : List (BitOf m)) : Prop := ∀ y ∈ pre, ¬ badBit up i y.1
def SomeBad (up : List Nat) (i : Nat) {m : Nat} (pre : List (BitOf m)) : Prop := ∃ y ∈ pre, badBit up i y.1
def Small (up : List Nat) : Prop := ∀ m ∈ up, m < 18446744073709551616
theorem small_get {up : List Nat} (h : Small up) (i : Nat) : up.getD i 0 < 18446744073709551616 := by
  rw [List.getD_eq_getElem?_getD]
  cases hg : up[i]? with
  | none => decide
  | some m => exact h m (List.mem_of_getElem? hg)
theorem row_lt {up : List Nat} {i n : Nat} (hs : Small up) (hn : n = up.length) (h : n < 64 → up.getD i 0 / 2 ^ n = 0) {k : Nat} (hk : (up.getD i 0).testBit k = true) : k < n := by
  by_cases h6 : n < 64
  · exact shr_zero.1 (h h6) k hk
  · have := bit_lt (small_get hs i) hk; omega
theorem elem_ms {w : World} {g o n c : Nat} {up : List Nat} (h : Ms w (.slice (some ⟨g, o, none⟩) n c) up) (i : Nat) (hi : i < up.length) : w.cell? ⟨g, o + i, none⟩ = some (.int .u64 ((up.getD i 0 : Nat) : Int)) := by
  have := ms_cell (run_elem h i hi)
  rwa [Nat.mul_one] at this
theorem own_mark {β : Type} {B : Nat} {Ds : List Nat} (h : ∀ D ∈ Ds, D < B) : OwnFrom B (fun (_ : β) W => ∀ D ∈ Ds, W.heap[D]? = some (.deferred (some []))) := fun s W W' row hs hg hr D hD => by
  have hs' : ∀ D ∈ Ds, W.heap[D]? = some (.deferred (some [])) := hs
  have h1 := hs' D hD
  rw [hg.block D (Array.getElem?_eq_some_iff.1 h1).1 (fun e => ?_)]
  · exact h1
  · have := (hr D e.symm).1; have := h D hD; omega
theorem mem_bits {m : Nat} {xs : List (BitOf m)} (h : xs.map (·.1) = bl m) {k : Nat} (hm : m < 18446744073709551616) (hk : m.testBit k = true) : ∃ y ∈ xs, y.1 = k := by
  have : k ∈ bl m := List.mem_filter.2 ⟨List.mem_range.2 (bit_lt hm hk), hk⟩
  rw [← h] at this
  obtain ⟨y, hy, rfl⟩ := List.mem_map.1 this
  exact ⟨y, hy, rfl⟩

/-- What Right keeps between two rounds. -/
structure RF (w0 : World) (B : Nat) (sv : Value) (Ds : List Nat) (w : World) : Prop where
  h0 : w.heap[B]? = some (.cells #[sv] 24 (0, 0))
  h1 : w.heap[B + 1]? = some (.cells #[.bool false] 4 (0, 0))
  hm : ∀ D ∈ Ds, w.heap[D]? = some (.deferred (some []))
  nd : Ds.Nodup
  ge : ∀ D ∈ Ds, B ≤ D
  hB : Below w0.heap.size w0 w
theorem RF.below {w0 w w' : World} {B : Nat} {sv : Value} {Ds : List Nat} (h : RF w0 B sv Ds w) (hb : Below w.heap.size w w') : RF w0 B sv Ds w' :=
  ⟨heap_kept h.h0 hb, heap_kept h.h1 hb, fun D hD => heap_kept (h.hm D hD) hb, h.nd, h.ge, h.hB.trans (hb.mono h.hB.size)⟩
/-- The result is stored: what is left to the way out. -/
structure RZ (w0 : World) (B : Nat) (b : Bool) (Ds : List Nat) (w : World) : Prop where
  h1 : w.heap[B + 1]? = some (.cells #[.bool b] 4 (0, 0))
  hm : ∀ D ∈ Ds, w.heap[D]? = some (.deferred (some []))
  nd : Ds.Nodup
  ge : ∀ D ∈ Ds, B ≤ D
  hB : Below w0.heap.size w0 w
theorem RF.store {w0 w : World} {B : Nat} {sv : Value} {Ds : List Nat} (h : RF w0 B sv Ds w) (b : Bool) (hB : w0.heap.size ≤ B + 1) : RZ w0 B b Ds (w.setCell ⟨B + 1, 0, none⟩ (.bool b)) :=
  ⟨heap_setCell_same _ _ _ _ _ _ h.h1, fun D hD => by
    have h1 := h.hm D hD
    have hne : D ≠ B + 1 := fun e => by rw [e, h.h1] at h1; cases h1
    rw [heap_setCell_other _ _ _ _ hne]; exact h1, h.nd, h.ge, h.hB.setCell (by exact hB) _⟩
theorem RF.own {β : Type} {w0 : World} {B Bd : Nat} {sv : Value} {Ds : List Nat} (h1 : ∀ D ∈ Ds, D < Bd) (h2 : w0.heap.size ≤ Bd) : OwnFrom Bd (fun (_ : β) W => RF w0 B sv Ds W) := fun s W W' row hs hg hr =>
  have hs' : RF w0 B sv Ds W := hs
  ⟨own_heap (β := β) (cs := fun _ => #[sv]) s W W' row hs'.h0 hg hr, own_heap (β := β) (cs := fun _ => #[.bool false]) s W W' row hs'.h1 hg hr, own_mark h1 s W W' row hs'.hm hg hr, hs'.nd, hs'.ge, ownFrom_below (Nat.le_refl _) h2 s W W' row hs'.hB hg hr⟩
theorem RZ.own {β : Type} {w0 : World} {B Bd : Nat} {b : Bool} {Ds : List Nat} (h1 : ∀ D ∈ Ds, D < Bd) (h2 : w0.heap.size ≤ Bd) : OwnFrom Bd (fun (_ : β) W => RZ w0 B b Ds W) := fun s W W' row hs hg hr =>
  have hs' : RZ w0 B b Ds W := hs
  ⟨own_heap (β := β) (cs := fun _ => #[.bool b]) s W W' row hs'.h1 hg hr, own_mark h1 s W W' row hs'.hm hg hr, hs'.nd, hs'.ge, ownFrom_below (Nat.le_refl _) h2 s W W' row hs'.hB hg hr⟩
theorem RF.more {w0 w : World} {B : Nat} {sv : Value} {Ds : List Nat} {D : Nat} (h : RF w0 B sv Ds w) (hK : w.heap[D]? = some (.deferred (some []))) (hl : ∀ D' ∈ Ds, D' < D) (hB : B ≤ D) : RF w0 B sv (D :: Ds) w :=
  ⟨h.h0, h.h1, fun D' h' => by
    rcases List.mem_cons.1 h' with rfl | h'
    · exact hK
    · exact h.hm D' h', List.nodup_cons.2 ⟨fun hm => Nat.lt_irrefl _ (hl D hm), h.nd⟩, fun D' h' => by
    rcases List.mem_cons.1 h' with rfl | h'
    · exact hB
    · exact h.ge D' h', h.hB⟩
theorem RZ.more {w0 w : World} {B : Nat} {b : Bool} {Ds : List Nat} {D : Nat} (h : RZ w0 B b Ds w) (hK : w.heap[D]? = some (.deferred (some []))) (hl : ∀ D' ∈ Ds, D' < D) (hB : B ≤ D) : RZ w0 B b (D :: Ds) w :=
  ⟨h.h1, fun D' h' => by
    rcases List.mem_cons.1 h' with rfl | h'
    · exact hK
    · exact h.hm D' h', List.nodup_cons.2 ⟨fun hm => Nat.lt_irrefl _ (hl D hm), h.nd⟩, fun D' h' => by
    rcases List.mem_cons.1 h' with rfl | h'
    · exact hB
    · exact h.ge D' h', h.hB⟩
theorem RF.lt {w0 w : World} {B : Nat} {sv : Value} {Ds : List Nat} (h : RF w0 B sv Ds w) : ∀ D ∈ Ds, D < w.heap.size := fun D hD => (Array.getElem?_eq_some_iff.1 (h.hm D hD)).1
theorem keeps_below {W W' : World} (h : Below W.heap.size W W') : KeepsOthers W W' := ⟨h.size, fun k o hk _ => heap_kept hk h⟩
theorem right_leaves {up : List Nat} {w0 w : World} {B : Nat} {b : Bool} {Ds : List Nat} {a : Act} (h : RZ w0 B b Ds w) (hB : w0.heap.size ≤ B) (hp : a.tmps.getD 2 undef = .pointer (some ⟨B + 1, 0, none⟩)) (hd : a.defers = Ds.map mark) (hb : b = true ↔ Ord up) :
    bodyPostM Fence.wide 5 Tryd.prog Tryd.f15 (fun e w' => ∃ b, e = .returned (.bool b) ∧ (b = true ↔ Ord up) ∧ Below w0.heap.size w0 w') .ret a w :=
  bodyM_marks (fun w' => w'.heap[B + 1]? = some (.cells #[.bool b] 4 (0, 0)) ∧ Below w0.heap.size w0 w') Ds hd h.nd h.hm ⟨h.h1, h.hB⟩
    (fun w' D hD hC hk => ⟨put_mark_heap hk hC.1, put_mark_below hC.2 (Nat.le_trans hB (h.ge D hD)) hC.2.size⟩)
    (fun w' hC => ⟨_, results_cell1 (fn := Tryd.f15) rfl _ _ (B + 1) (.bool b) (0, 0) hp hC.1 (fun _ => by kernel_rfl), b, rfl, hb, hC.2⟩)
/-- Right's loop, between two rounds. -/
def RInv (up : List Nat) (w : World) (B g o n c : Nat) (a' : Act) (wr : World) : Prop :=
  ∃ (u4 u5 u15 u16 u17 u18 u19 u20 u21 u22 u23 u24 u25 u26 u27 u28 u29 u30 u31 u32 u33 u34 u35 u36 u37 u38 u39 u40 u41 u42 u43 u44 u45 u46 u47 u48 u49 u50 u51 u52 u53 u54 u55 u56 u57 u58 u59 u60 u61 u62 u63 u64 u65 u66 u67 u68 u69 u70 : Value) (ds : List Deferred), (∃ (i : Nat) (Ds : List Nat), i ≤ n ∧ u15 = .int .i64 (i : Int) ∧ ds = Ds.map mark ∧ Hid (∀ j, j < i → okRow up j) ∧ Hid (RF w B (.slice (some ⟨g, o, none⟩) n c) Ds wr)) ∧ a' = { tmps := #[.slice (some ⟨g, o, none⟩) n c, .pointer (some ⟨B, 0, none⟩), .pointer (some ⟨B + 1, 0, none⟩), .int .i64 (n : Int), u4, u5, .slice (some ⟨g, o, none⟩) n c, .int .i64 (n : Int), .int .i64 (n : Int), .bool false, .bool false, .int .i64 (n : Int), .bool false, .bool false, .int .i64 (n : Int), u15, u16, u17, u18, u19, u20, u21, u22, u23, u24, u25, u26, u27, u28, u29, u30, u31, u32, u33, u34, u35, u36, u37, u38, u39, u40, u41, u42, u43, u44, u45, u46, u47, u48, u49, u50, u51, u52, u53, u54, u55, u56, u57, u58, u59, u60, u61, u62, u63, u64, u65, u66, u67, u68, u69, u70], defers := ds }
set_option maxRecDepth 100000 in
set_option maxHeartbeats 4000000 in
theorem right_calls (up : List Nat) (hs : Small up) (A : Option Addr) (n c : Nat) (hn : n = up.length) (w : World) (ht : Tab w) (hy : Ms w (.slice A n c) up) :
    Calls Tryd.prog 15 #[.slice A n c] w fun e w' => ∃ b, e = .returned (.bool b) ∧ (b = true ↔ Ord up) ∧ Below w.heap.size w w' := by
  have hn' : Hid (n = up.length) := hn
  have hsH : Hid (Small up) := hs
  have htH : Hid (Tab w) := ht
  have hyH : Hid (Ms w (.slice A n c) up) := hy
  have hw0 : Hid (0 < w.heap.size) := ht.1
  clear hn hs ht hy
  refine calls_marks 5 Tryd.func15 rfl ?_
  simp only [Tryd.ntmps15, List.size_toArray, List.length_cons, List.length_nil, Nat.reduceAdd, Nat.reduceSub, Array.replicate_succ, Array.replicate_zero, List.push_toArray, List.append_toArray, List.nil_append, List.cons_append]
  go_upto_region 1 with fail
  generalize hW : World.alloc _ _ = W
  have hW0 : W.heap[w.heap.size]? = some (.cells #[.slice A n c] 24 (0, 0)) := by rw [← hW]; exact heap_alloc2_old w _ _
  have hW1 : W.heap[w.heap.size + 1]? = some (.cells #[.bool false] 4 (0, 0)) := by rw [← hW]; exact heap_alloc2_new w _ _
  have hWB : Hid (Below w.heap.size w W) := by rw [← hW]; exact ((Below.refl _ _).alloc (Nat.le_refl _) _).alloc (by simp) _
  have hWs : W.heap.size = w.heap.size + 2 := by rw [← hW]; simp
  clear hW
  have c0 : W.cell? ⟨w.heap.size, 0, none⟩ = some (.slice A n c) := by rw [cell_of_row _ _ _ _ _ _ hW0]; rfl
  have c1 : W.cell? ⟨w.heap.size + 1, 0, none⟩ = some (.bool false) := by rw [cell_of_row _ _ _ _ _ _ hW1]; rfl
  have f1 : W.frozen? ⟨w.heap.size + 1, 0, none⟩ = false := frozen_of_row _ _ _ _ _ hW1
  have hW0' : Hid (W.heap[w.heap.size]? = some (.cells #[.slice A n c] 24 (0, 0))) := hW0
  have hW1' : Hid (W.heap[w.heap.size + 1]? = some (.cells #[.bool false] 4 (0, 0))) := hW1
  clear hW0 hW1

  by_cases hlo : n < 1
  · have hI1 : (n : Int) < 1 := by omega
    go_upto_region 3 with fail
    refine wp_region_lit ?_
    refine wpList_store_cell rfl 4 _ _ rfl (w.heap.size + 1) 0 (by kernel_rfl) (.bool false) (by kernel_rfl) (.bool false) c1 f1 (fun _ => by kernel_rfl) rfl rfl ?_
    refine wpList_nil ?_
    rename_i hK
    refine hK _ _ (wp_ret ?_)
    have hz := heap_setCell_same W (w.heap.size + 1) 0 _ _ (.bool false) hW1'.out
    have hzB : Below w.heap.size w (W.setCell ⟨w.heap.size + 1, 0, none⟩ (.bool false)) := hWB.out.setCell (by show _ ≤ w.heap.size + 1; omega) _
    generalize World.setCell _ _ _ = V at hz hzB
    change bodyPostM Fence.wide 5 Tryd.prog Tryd.f15 (fun e w' => ∃ b, e = .returned (.bool b) ∧ (b = true ↔ Ord up) ∧ Below w.heap.size w w') .ret _ _
    refine bodyM_ret (results_cell1 (fn := Tryd.f15) rfl _ _ (w.heap.size + 1) (.bool false) (0, 0) (by kernel_rfl) hz (fun _ => by kernel_rfl)) (by kernel_rfl) ?_
    exact ⟨false, rfl, ⟨fun h => (by cases h), fun h => by have := hn'.out; have := h.1; have := h.2.1; omega⟩, hzB⟩
  have hI1 : ¬ (n : Int) < 1 := by omega
  by_cases hhi : 64 < n
  · have hI2 : (64 : Int) < (n : Int) := by omega
    go_upto_region 3 with fail
    refine wp_region_lit ?_
    refine wpList_store_cell rfl 4 _ _ rfl (w.heap.size + 1) 0 (by kernel_rfl) (.bool false) (by kernel_rfl) (.bool false) c1 f1 (fun _ => by kernel_rfl) rfl rfl ?_
    refine wpList_nil ?_
    rename_i hK
    refine hK _ _ (wp_ret ?_)
    have hz := heap_setCell_same W (w.heap.size + 1) 0 _ _ (.bool false) hW1'.out
    have hzB : Below w.heap.size w (W.setCell ⟨w.heap.size + 1, 0, none⟩ (.bool false)) := hWB.out.setCell (by show _ ≤ w.heap.size + 1; omega) _
    generalize World.setCell _ _ _ = V at hz hzB
    change bodyPostM Fence.wide 5 Tryd.prog Tryd.f15 (fun e w' => ∃ b, e = .returned (.bool b) ∧ (b = true ↔ Ord up) ∧ Below w.heap.size w w') .ret _ _
    refine bodyM_ret (results_cell1 (fn := Tryd.f15) rfl _ _ (w.heap.size + 1) (.bool false) (0, 0) (by kernel_rfl) hz (fun _ => by kernel_rfl)) (by kernel_rfl) ?_
    exact ⟨false, rfl, ⟨fun h => (by cases h), fun h => by have := hn'.out; have := h.1; have := h.2.1; omega⟩, hzB⟩
  have hI2 : ¬ (64 : Int) < (n : Int) := by omega
  obtain ⟨g, o, rfl, hnc, hg, _⟩ := hyH.out.elem 0 (by have := hn'.out; omega)
  have hreg : Hid (∀ w', Below w.heap.size w w' → ∀ i, i < n → w'.cell? ⟨g, o + i, none⟩ = some (.int .u64 ((up.getD i 0 : Nat) : Int))) := fun w' h i hi => by
    rw [h.cell (by exact hg)]; exact elem_ms hyH.out i (by rw [← hn'.out]; exact hi)
  obtain ⟨B, hBd⟩ : ∃ B, B = w.heap.size := ⟨_, rfl⟩
  have hBH : Hid (B = w.heap.size) := hBd
  have hWsB : W.heap.size = B + 2 := by omega
  rw [← hBd] at c0 c1 f1 hW0' hW1' ⊢
  clear hBd hWs
  go_upto_region 4 with fail
  go_wp2_with fail
  clear hI1 hI2

  refine wp_loop (RInv up w B g o n c) (fun a' _ => n - (intOf (a'.tmps.getD 15 undef)).toNat) ?_ ?_
  · unfold RInv
    (repeat apply Exists.intro)
    refine ⟨?_, rfl⟩
    refine ⟨0, [], by omega, rfl, rfl, fun j h => by omega, ?_⟩
    exact ⟨hW0'.out, hW1'.out, fun D h => (List.not_mem_nil h).elim, by simp, fun D h => (List.not_mem_nil h).elim, hWB.out⟩
  · intro a' wr hinv
    unfold RInv at hinv
    obtain ⟨u4, hinv⟩ := hinv
    obtain ⟨u5, hinv⟩ := hinv
    obtain ⟨u15, hinv⟩ := hinv
    obtain ⟨u16, hinv⟩ := hinv
    obtain ⟨u17, hinv⟩ := hinv
    obtain ⟨u18, hinv⟩ := hinv
    obtain ⟨u19, hinv⟩ := hinv
    obtain ⟨u20, hinv⟩ := hinv
    obtain ⟨u21, hinv⟩ := hinv
    obtain ⟨u22, hinv⟩ := hinv
    obtain ⟨u23, hinv⟩ := hinv
    obtain ⟨u24, hinv⟩ := hinv
    obtain ⟨u25, hinv⟩ := hinv
    obtain ⟨u26, hinv⟩ := hinv
    obtain ⟨u27, hinv⟩ := hinv
    obtain ⟨u28, hinv⟩ := hinv
    obtain ⟨u29, hinv⟩ := hinv
    obtain ⟨u30, hinv⟩ := hinv
    obtain ⟨u31, hinv⟩ := hinv
    obtain ⟨u32, hinv⟩ := hinv
    obtain ⟨u33, hinv⟩ := hinv
    obtain ⟨u34, hinv⟩ := hinv
    obtain ⟨u35, hinv⟩ := hinv
    obtain ⟨u36, hinv⟩ := hinv
    obtain ⟨u37, hinv⟩ := hinv
    obtain ⟨u38, hinv⟩ := hinv
    obtain ⟨u39, hinv⟩ := hinv
    obtain ⟨u40, hinv⟩ := hinv
    obtain ⟨u41, hinv⟩ := hinv
    obtain ⟨u42, hinv⟩ := hinv
    obtain ⟨u43, hinv⟩ := hinv
    obtain ⟨u44, hinv⟩ := hinv
    obtain ⟨u45, hinv⟩ := hinv
    obtain ⟨u46, hinv⟩ := hinv
    obtain ⟨u47, hinv⟩ := hinv
    obtain ⟨u48, hinv⟩ := hinv
    obtain ⟨u49, hinv⟩ := hinv
    obtain ⟨u50, hinv⟩ := hinv
    obtain ⟨u51, hinv⟩ := hinv
    obtain ⟨u52, hinv⟩ := hinv
    obtain ⟨u53, hinv⟩ := hinv
    obtain ⟨u54, hinv⟩ := hinv
    obtain ⟨u55, hinv⟩ := hinv
    obtain ⟨u56, hinv⟩ := hinv
    obtain ⟨u57, hinv⟩ := hinv
    obtain ⟨u58, hinv⟩ := hinv
    obtain ⟨u59, hinv⟩ := hinv
    obtain ⟨u60, hinv⟩ := hinv
    obtain ⟨u61, hinv⟩ := hinv
    obtain ⟨u62, hinv⟩ := hinv
    obtain ⟨u63, hinv⟩ := hinv
    obtain ⟨u64, hinv⟩ := hinv
    obtain ⟨u65, hinv⟩ := hinv
    obtain ⟨u66, hinv⟩ := hinv
    obtain ⟨u67, hinv⟩ := hinv
    obtain ⟨u68, hinv⟩ := hinv
    obtain ⟨u69, hinv⟩ := hinv
    obtain ⟨u70, hinv⟩ := hinv
    obtain ⟨ds, hinv⟩ := hinv
    obtain ⟨⟨i, Ds, hi, rfl, rfl, hok, hR⟩, ha⟩ := hinv
    subst ha
    try dsimp only
    clear c0 c1 f1 hW0' hW1' hWB hWsB
    by_cases hlt : i < n
    · have hI : (i : Int) < (n : Int) := by omega
      have hRs : B + 2 ≤ wr.heap.size := by have := (Array.getElem?_eq_some_iff.1 hR.out.h1).1; omega
      obtain ⟨mi, hmi⟩ : ∃ mi, mi = up.getD i 0 := ⟨_, rfl⟩
      have hmiH : Hid (mi = up.getD i 0) := hmi
      have hmi9 : mi < 18446744073709551616 := by rw [hmi]; exact small_get hsH.out i
      clear hmi
      go_upto_region 6 with fail
      refine wp_region_lit ?_
      refine sl_run rfl (.int .i64 (i : Int)) wr (by kernel_rfl) ?_
      simp only [Act.put, List.setIfInBounds_toArray, List.set_cons_zero, List.set_cons_succ]
      refine sl_run rfl (.pointer (some ⟨wr.heap.size, 0, none⟩)) (wr.alloc (.cells #[.int .i64 0] 3)) (by kernel_rfl) ?_
      simp only [Act.put, List.setIfInBounds_toArray, List.set_cons_zero, List.set_cons_succ]
      have hn0 : (wr.alloc (.cells #[.int .i64 0] 3)).heap[wr.heap.size]? = some (.cells #[.int .i64 0] 3 (0, 0)) := heap_alloc_new _ _
      refine wpList_store_cell rfl 3 _ _ rfl wr.heap.size 0 (by kernel_rfl) (.int .i64 (i : Int)) (by kernel_rfl) (.int .i64 0) (by rw [cell_of_row _ _ _ _ _ _ hn0]; rfl) (frozen_of_row _ _ _ _ _ hn0) (fun _ => by kernel_rfl) rfl rfl ?_
      refine wpList_nil ?_
      simp only [Act.put, List.setIfInBounds_toArray, List.set_cons_zero, List.set_cons_succ]
      have hn1 := heap_setCell_same _ _ 0 _ _ (.int .i64 (i : Int)) hn0
      have hb1 : Below wr.heap.size wr ((wr.alloc (.cells #[.int .i64 0] 3)).setCell ⟨wr.heap.size, 0, none⟩ (.int .i64 (i : Int))) := ((Below.refl _ _).alloc (Nat.le_refl _) _).setCell (Nat.le_refl _) _
      obtain ⟨d, hd⟩ : ∃ d, d = wr.heap.size := ⟨_, rfl⟩
      have hdB : B + 2 ≤ d := by omega
      rw [← hd] at hn1 hb1 ⊢
      generalize World.setCell _ _ _ = w1 at hn1 hb1 ⊢
      rw [hd] at hb1
      have hi1 : Hid (w1.heap[d]? = some (.cells #[.int .i64 (i : Int)] 3 (0, 0))) := hn1
      have hR1 : Hid (RF w B (.slice (some ⟨g, o, none⟩) n c) Ds w1) := hR.out.below hb1
      clear hn0 hn1 hb1 hR hd hRs
      have k0 : ∀ w', Below w1.heap.size w1 w' → w'.cell? ⟨B, 0, none⟩ = some (.slice (some ⟨g, o, none⟩) n c) := fun w' h => by rw [cell_of_row _ _ _ _ _ _ (heap_kept hR1.out.h0 h)]; rfl
      have ki : ∀ w', Below w1.heap.size w1 w' → w'.cell? ⟨d, 0, none⟩ = some (.int .i64 (i : Int)) := fun w' h => by rw [cell_of_row _ _ _ _ _ _ (heap_kept hi1.out h)]; rfl
      have km : ∀ w', Below w1.heap.size w1 w' → w'.cell? ⟨g, o + i, none⟩ = some (.int .u64 (mi : Int)) := fun w' h => by rw [hmiH.out]; exact hreg.out w' (hR1.out.hB.trans (h.mono hR1.out.hB.size)) i hlt
      go_upto_region 7 with fail
      have hmin : min i 64 = i := by omega
      have c0 := k0 w1 (Below.refl _ _)
      have ci := ki w1 (Below.refl _ _)
      have cm := km w1 (Below.refl _ _)
      have hbv := bit_val0 mi i hmi9
      cases hti : mi.testBit i with
      | false =>
        have hb0 : (bits BinOp.and IntKind.u64 ((mi : Int) / 2 ^ i) 1 == 0) = true := by rw [hbv, hti]; rfl
        have hti' : Hid (mi.testBit i = false) := hti
        clear hti hbv
        go_quiet (fail)
        clear c0 ci cm k0 ki km hb0
        have hb2 : Below w1.heap.size w1 (w1.drewN nq) := ⟨rfl, rfl, rfl, Nat.le_refl _, fun _ _ => rfl⟩
        generalize w1.drewN nq = w2 at hb2 ⊢
        have hR2 : Hid (RF w B (.slice (some ⟨g, o, none⟩) n c) Ds w2) := hR1.out.below hb2
        have hi2 : Hid (w2.heap[d]? = some (.cells #[.int .i64 (i : Int)] 3 (0, 0))) := heap_kept hi1.out hb2
        clear hb2 hR1 hi1
        go_upto_region 8 with fail
        refine wp_region_lit ?_
        refine wpList_store_cell rfl 4 _ _ rfl (B + 1) 0 (by kernel_rfl) (.bool false) (by kernel_rfl) (.bool false) (by rw [cell_of_row _ _ _ _ _ _ hR2.out.h1]; rfl) (frozen_of_row _ _ _ _ _ hR2.out.h1) (fun _ => by kernel_rfl) rfl rfl ?_
        refine wpList_nil ?_
        rename_i hK
        refine hK _ _ (wp_ret ?_)
        change bodyPostM Fence.wide 5 Tryd.prog Tryd.f15 (fun e w' => ∃ b, e = .returned (.bool b) ∧ (b = true ↔ Ord up) ∧ Below w.heap.size w w') .ret _ _
        have hz := hR2.out.store false (by rw [hBH.out]; omega)
        exact right_leaves hz (by rw [hBH.out]; exact Nat.le_refl _) (by kernel_rfl) (by kernel_rfl) ⟨fun h => (by cases h), fun h => absurd h (fun h => by have := (h.2.2 i (by rw [← hn'.out]; exact hlt)).1; rw [← hmiH.out, hti'.out] at this; cases this)⟩
      | true =>
        have hb0 : (bits BinOp.and IntKind.u64 ((mi : Int) / 2 ^ i) 1 == 0) = false := by rw [hbv, hti]; rfl
        have hti' : Hid (mi.testBit i = true) := hti
        clear hti hbv
        have hI64 : (n : Int) ≤ 64 := by omega
        by_cases h64 : n < 64
        · have hI6 : (n : Int) < 64 := by omega
          have hmin2 : min n 64 = n := by omega
          by_cases hz : mi / 2 ^ n = 0
          · have hz0 : ((mi : Int) / 2 ^ n != 0) = false := by rw [shr_int, nat_ne_zero, hz]; rfl
            have hkn : Hid (∀ k, mi.testBit k = true → k < n) := shr_zero.1 hz
            clear hz
            go_quiet (fail)
            clear c0 ci cm k0 ki km hb0 hz0 hmin hmin2
            have hb2 : Below w1.heap.size w1 (w1.drewN nq) := ⟨rfl, rfl, rfl, Nat.le_refl _, fun _ _ => rfl⟩
            generalize w1.drewN nq = w2 at hb2 ⊢
            have hR2 : Hid (RF w B (.slice (some ⟨g, o, none⟩) n c) Ds w2) := hR1.out.below hb2
            have hi2 : Hid (w2.heap[d]? = some (.cells #[.int .i64 (i : Int)] 3 (0, 0))) := heap_kept hi1.out hb2
            clear hb2 hR1 hi1
            go_upto_region 9 with fail
            refine wp_region_lit ?_
            refine sl_run rfl (.slice (some ⟨g, o, none⟩) n c) w2 (exec_load_cell 24 w2 _ rfl ⟨B, 0, none⟩ (by kernel_rfl) _ (by rw [cell_of_row _ _ _ _ _ _ hR2.out.h0]; rfl) (fun _ => by kernel_rfl)) ?_
            simp only [Act.put, List.setIfInBounds_toArray, List.set_cons_zero, List.set_cons_succ]
            refine sl_run rfl (.int .i64 (i : Int)) w2 (exec_load_cell 3 w2 _ rfl ⟨d, 0, none⟩ (by kernel_rfl) _ (by rw [cell_of_row _ _ _ _ _ _ hi2.out]; rfl) (fun _ => by kernel_rfl)) ?_
            simp only [Act.put, List.setIfInBounds_toArray, List.set_cons_zero, List.set_cons_succ]
            refine sl_run rfl (.pointer (some ⟨g, o + i, none⟩)) w2 (exec_ixM _ _ rfl g o n c i (by kernel_rfl) (by kernel_rfl) hlt) ?_
            simp only [Act.put, List.setIfInBounds_toArray, List.set_cons_zero, List.set_cons_succ]
            refine sl_run rfl (.int .u64 (mi : Int)) w2 (exec_load_cell 36 w2 _ rfl ⟨g, o + i, none⟩ (by kernel_rfl) _ (by rw [hmiH.out]; exact hreg.out w2 hR2.out.hB i hlt) (fun _ => by kernel_rfl)) ?_
            simp only [Act.put, List.setIfInBounds_toArray, List.set_cons_zero, List.set_cons_succ]
            refine sl_call rfl 28 #[.int .u64 (mi : Int)] (by kernel_rfl) (R := fun v w' => v = .func (.func 33) #[] #[.pointer (some ⟨w2.heap.size, 0, none⟩)] ∧ w' = w2.alloc (.cells #[.int .u64 (mi : Int)] 36)) ((bits_calls mi w2).mono fun e w' h => ⟨_, h.1, rfl, h.2⟩) ?_
            rintro _ _ ⟨rfl, rfl⟩
            simp only [Act.put, List.setIfInBounds_toArray, List.set_cons_zero, List.set_cons_succ]
            refine wpList_nil ?_
            have hb3 : Below w2.heap.size w2 (w2.alloc (.cells #[.int .u64 (mi : Int)] 36)) := (Below.refl _ _).alloc (Nat.le_refl _) _
            have hm3 : (w2.alloc (.cells #[.int .u64 (mi : Int)] 36)).heap[w2.heap.size]? = some (.cells #[.int .u64 (mi : Int)] 36 (0, 0)) := heap_alloc_new _ _
            obtain ⟨bm, hbm⟩ : ∃ b, b = w2.heap.size := ⟨_, rfl⟩
            rw [← hbm] at hm3 ⊢
            generalize w2.alloc _ = w3 at hb3 hm3 ⊢
            have hR3 : Hid (RF w B (.slice (some ⟨g, o, none⟩) n c) Ds w3) := hR2.out.below hb3
            have hi3 : Hid (w3.heap[d]? = some (.cells #[.int .i64 (i : Int)] 3 (0, 0))) := heap_kept hi2.out hb3
            clear hR2 hi2 hb3 hbm
            rename_i hK
            refine hK _ _ ?_
            refine wp_block ?_
            refine wp_range 5 (by decide) (gf := 33) (lb := #[.pointer (some ⟨bm, 0, none⟩)]) rfl (enters_of Tryd.func33 (by kernel_rfl) rfl)
              (bits_stops 4 (by decide) mi bm w.heap.size hmi9 w3 hw0.out hR3.out.hB.size (by rw [cell_of_row _ _ _ _ _ _ hm3]; rfl) ((Array.getElem?_eq_some_iff.1 hm3).1) (htH.out.below hw0.out hR3.out.hB)) hR3.out.hB.size (fun _ => rfl)
              (fun pre W => AllGood up i pre ∧ (RF w B (.slice (some ⟨g, o, none⟩) n c) Ds W ∧ W.heap[d]? = some (.cells #[.int .i64 (i : Int)] 3 (0, 0))))
              (fun c pre W => (c = .ret ∧ SomeBad up i pre) ∧ RZ w B false Ds W)
              (OwnFrom.and own_pure (OwnFrom.and (RF.own hR3.out.lt hR3.out.hB.size) (own_heap (cs := fun _ => #[.int .i64 (i : Int)]))))
              (fun c => OwnFrom.and own_pure (RZ.own hR3.out.lt hR3.out.hB.size))
              ⟨fun y hy => (List.not_mem_nil hy).elim, hR3.out, hi3.out⟩
              (fun x => { tmps := #[.slice (some ⟨g, o, none⟩) n c, .pointer (some ⟨B, 0, none⟩), .pointer (some ⟨B + 1, 0, none⟩), .int .i64 (n : Int), .pointer (some ⟨d, 0, none⟩), .int .i64 (x.1 : Int), .slice (some ⟨g, o, none⟩) n c, .int .i64 (n : Int), .int .i64 (n : Int), .bool false, .bool false, .int .i64 (n : Int), .bool false, .bool false, .int .i64 (n : Int), .int .i64 (i : Int), .bool true, .int .i64 (i : Int), .slice (some ⟨g, o, none⟩) n c, .int .i64 (i : Int), .pointer (some ⟨g, o + i, none⟩), .int .u64 (mi : Int), .int .i64 (i : Int), .int .u64 ((mi : Int) / 2 ^ i), .int .u64 (bits BinOp.and IntKind.u64 ((mi : Int) / 2 ^ i) 1), .bool false, .bool false, .int .i64 (n : Int), .bool true, .bool true, .slice (some ⟨g, o, none⟩) n c, .int .i64 (i : Int), .pointer (some ⟨g, o + i, none⟩), .int .u64 (mi : Int), .int .i64 (n : Int), .int .u64 ((mi : Int) / 2 ^ n), .bool false, .bool false, .bool false, .slice (some ⟨g, o, none⟩) n c, .int .i64 (i : Int), .pointer (some ⟨g, o + i, none⟩), .int .u64 (mi : Int), .func (.func 33) #[] #[.pointer (some ⟨bm, 0, none⟩)], .int .i64 (x.1 : Int), u45, u46, u47, u48, u49, u50, u51, u52, u53, u54, u55, u56, u57, u58, u59, u60, u61, u62, u63, u64, u65, u66, u67, u68, u69, u70], defers := [] }) ?assign ?body ?done ?stop
            case assign =>
              intro l x W K hK
              simp only [encB]
              gi_wp2
              exact hK
            case body =>
              rintro l pre x W ⟨hpre, hRW, hiW⟩ _
              have hx1 : x.1 < n := hkn.out x.1 x.2.2
              obtain ⟨mk, hmk⟩ : ∃ mk, mk = up.getD x.1 0 := ⟨_, rfl⟩
              have hmkH : Hid (mk = up.getD x.1 0) := hmk
              have hmk9 : mk < 18446744073709551616 := by rw [hmk]; exact small_get hsH.out _
              clear hmk
              have hRW' : Hid (RF w B (.slice (some ⟨g, o, none⟩) n c) Ds W) := hRW
              have hiW' : Hid (W.heap[d]? = some (.cells #[.int .i64 (i : Int)] 3 (0, 0))) := hiW
              have hpre' : Hid (AllGood up i pre) := hpre
              clear hRW hiW hpre hR3 hi3 hm3
              obtain ⟨kx, hkx⟩ : ∃ kx, kx = x.1 := ⟨_, rfl⟩
              have hkxH : Hid (kx = x.1) := hkx
              rw [← hkx] at hx1 ⊢
              clear hkx
              have k0 : ∀ w', Below W.heap.size W w' → w'.cell? ⟨B, 0, none⟩ = some (.slice (some ⟨g, o, none⟩) n c) := fun w' h => by rw [cell_of_row _ _ _ _ _ _ (heap_kept hRW'.out.h0 h)]; rfl
              have ki : ∀ w', Below W.heap.size W w' → w'.cell? ⟨d, 0, none⟩ = some (.int .i64 (i : Int)) := fun w' h => by rw [cell_of_row _ _ _ _ _ _ (heap_kept hiW'.out h)]; rfl
              have km : ∀ w', Below W.heap.size W w' → w'.cell? ⟨g, o + i, none⟩ = some (.int .u64 (mi : Int)) := fun w' h => by rw [hmiH.out]; exact hreg.out w' (hRW'.out.hB.trans (h.mono hRW'.out.hB.size)) i hlt
              have kk : ∀ w', Below W.heap.size W w' → w'.cell? ⟨g, o + kx, none⟩ = some (.int .u64 (mk : Int)) := fun w' h => by rw [hmkH.out, ← hkxH.out]; exact hreg.out w' (hRW'.out.hB.trans (h.mono hRW'.out.hB.size)) kx hx1
              refine wpIn_block ?_
              refine wpIn_seq ?_
              refine wpIn_region_quietR (C := Below W.heap.size W) (of_noDefer (by kernel_rfl)) (by kernel_rfl) (by kernel_rfl) (Below.refl _ _).drew ?_
              refine rq_run (by kernel_rfl) (.slice (some ⟨g, o, none⟩) n c) (fun w' h => exec_load_cell 24 w' _ rfl ⟨B, 0, none⟩ (by kernel_rfl) _ (k0 w' h) (fun _ => by kernel_rfl)) ?_
              simp only [Act.put, List.setIfInBounds_toArray, List.set_cons_zero, List.set_cons_succ]
              refine rq_run (by kernel_rfl) (.int .i64 (kx : Int)) (fun w' h => (by kernel_rfl)) ?_
              simp only [Act.put, List.setIfInBounds_toArray, List.set_cons_zero, List.set_cons_succ]
              refine rq_run (by kernel_rfl) (.pointer (some ⟨g, o + kx, none⟩)) (fun w' h => exec_ixM _ _ rfl g o n c kx (by kernel_rfl) (by kernel_rfl) hx1) ?_
              simp only [Act.put, List.setIfInBounds_toArray, List.set_cons_zero, List.set_cons_succ]
              refine rq_run (by kernel_rfl) (.int .u64 (mk : Int)) (fun w' h => exec_load_cell 36 w' _ rfl ⟨g, o + kx, none⟩ (by kernel_rfl) _ (kk w' h) (fun _ => by kernel_rfl)) ?_
              simp only [Act.put, List.setIfInBounds_toArray, List.set_cons_zero, List.set_cons_succ]
              refine rq_run (by kernel_rfl) (.slice (some ⟨g, o, none⟩) n c) (fun w' h => exec_load_cell 24 w' _ rfl ⟨B, 0, none⟩ (by kernel_rfl) _ (k0 w' h) (fun _ => by kernel_rfl)) ?_
              simp only [Act.put, List.setIfInBounds_toArray, List.set_cons_zero, List.set_cons_succ]
              refine rq_run (by kernel_rfl) (.int .i64 (i : Int)) (fun w' h => exec_load_cell 3 w' _ rfl ⟨d, 0, none⟩ (by kernel_rfl) _ (ki w' h) (fun _ => by kernel_rfl)) ?_
              simp only [Act.put, List.setIfInBounds_toArray, List.set_cons_zero, List.set_cons_succ]
              refine rq_run (by kernel_rfl) (.pointer (some ⟨g, o + i, none⟩)) (fun w' h => exec_ixM _ _ rfl g o n c i (by kernel_rfl) (by kernel_rfl) hlt) ?_
              simp only [Act.put, List.setIfInBounds_toArray, List.set_cons_zero, List.set_cons_succ]
              refine rq_run (by kernel_rfl) (.int .u64 (mi : Int)) (fun w' h => exec_load_cell 36 w' _ rfl ⟨g, o + i, none⟩ (by kernel_rfl) _ (km w' h) (fun _ => by kernel_rfl)) ?_
              simp only [Act.put, List.setIfInBounds_toArray, List.set_cons_zero, List.set_cons_succ]
              refine rq_run (by kernel_rfl) (.int .u64 ((mk &&& (18446744073709551615 - mi) : Nat) : Int)) (fun w' h => exec_andNotM _ _ rfl mk mi (by kernel_rfl) (by kernel_rfl) hmk9 hmi9) ?_
              simp only [Act.put, List.setIfInBounds_toArray, List.set_cons_zero, List.set_cons_succ]
              by_cases hb1 : mk &&& (18446744073709551615 - mi) = 0
              · have hv : ((((mk &&& (18446744073709551615 - mi)) : Nat) : Int) != 0) = false := by rw [nat_ne_zero, hb1]; rfl
                refine rq_run (by kernel_rfl) (.bool false) (fun w' h => (exec_neM _ _ rfl _ 0 (by kernel_rfl) (by kernel_rfl)).trans (by rw [hv])) ?_
                simp only [Act.put, List.setIfInBounds_toArray, List.set_cons_zero, List.set_cons_succ]
                refine rq_run (by kernel_rfl) (.bool false) (fun w' h => (by kernel_rfl)) ?_
                simp only [Act.put, List.setIfInBounds_toArray, List.set_cons_zero, List.set_cons_succ]
                refine rq_run (by kernel_rfl) (.int .i64 (kx : Int)) (fun w' h => (by kernel_rfl)) ?_
                simp only [Act.put, List.setIfInBounds_toArray, List.set_cons_zero, List.set_cons_succ]
                refine rq_run (by kernel_rfl) (.int .i64 (i : Int)) (fun w' h => exec_load_cell 3 w' _ rfl ⟨d, 0, none⟩ (by kernel_rfl) _ (ki w' h) (fun _ => by kernel_rfl)) ?_
                simp only [Act.put, List.setIfInBounds_toArray, List.set_cons_zero, List.set_cons_succ]
                by_cases hki : kx = i
                · have hv2 : ((kx : Int) != (i : Int)) = false := by rw [hki]; simp
                  refine rq_run (by kernel_rfl) (.bool false) (fun w' h => (exec_neI _ _ rfl _ _ (by kernel_rfl) (by kernel_rfl)).trans (by rw [hv2])) ?_
                  simp only [Act.put, List.setIfInBounds_toArray, List.set_cons_zero, List.set_cons_succ]
                  refine rq_run (by kernel_rfl) (.bool false) (fun w' h => (by kernel_rfl)) ?_
                  simp only [Act.put, List.setIfInBounds_toArray, List.set_cons_zero, List.set_cons_succ]
                  refine rq_skip (by kernel_rfl) ?_
                  simp only [Act.put, List.setIfInBounds_toArray, List.set_cons_zero, List.set_cons_succ]
                  refine rq_skip (by kernel_rfl) ?_
                  simp only [Act.put, List.setIfInBounds_toArray, List.set_cons_zero, List.set_cons_succ]
                  refine rq_skip (by kernel_rfl) ?_
                  simp only [Act.put, List.setIfInBounds_toArray, List.set_cons_zero, List.set_cons_succ]
                  refine rq_skip (by kernel_rfl) ?_
                  simp only [Act.put, List.setIfInBounds_toArray, List.set_cons_zero, List.set_cons_succ]
                  refine rq_skip (by kernel_rfl) ?_
                  simp only [Act.put, List.setIfInBounds_toArray, List.set_cons_zero, List.set_cons_succ]
                  refine rq_skip (by kernel_rfl) ?_
                  simp only [Act.put, List.setIfInBounds_toArray, List.set_cons_zero, List.set_cons_succ]
                  refine rq_skip (by kernel_rfl) ?_
                  simp only [Act.put, List.setIfInBounds_toArray, List.set_cons_zero, List.set_cons_succ]
                  refine rq_skip (by kernel_rfl) ?_
                  simp only [Act.put, List.setIfInBounds_toArray, List.set_cons_zero, List.set_cons_succ]
                  refine rq_run (by kernel_rfl) (.bool false) (fun w' h => (by kernel_rfl)) ?_
                  simp only [Act.put, List.setIfInBounds_toArray, List.set_cons_zero, List.set_cons_succ]
                  refine rq_run (by kernel_rfl) (.bool false) (fun w' h => (by kernel_rfl)) ?_
                  simp only [Act.put, List.setIfInBounds_toArray, List.set_cons_zero, List.set_cons_succ]
                  refine wpQuietIn_nil ?_
                  intro w4 hb4
                  have hR4 : Hid (RF w B (.slice (some ⟨g, o, none⟩) n c) Ds w4) := hRW'.out.below hb4
                  have hi4 : Hid (w4.heap[d]? = some (.cells #[.int .i64 (i : Int)] 3 (0, 0))) := heap_kept hiW'.out hb4
                  have hk4 : Hid (KeepsOthers W w4) := keeps_below hb4
                  have hb5 : Hid (Below w.heap.size W w4) := hb4.mono hRW'.out.hB.size
                  have hgood : Hid (¬ badBit up i x.1) := by
                    show ¬ badBit up i x.1
                    unfold badBit
                    rw [← hmkH.out, ← hmiH.out]
                    rintro (h | h)
                    · exact h ((andNot_zero hmk9 hmi9).1 hb1)
                    · exact h.1 (hkxH.out.symm.trans hki)
                  clear k0 ki km kk hb4
                  gi_wp2
                  exact ⟨hk4.out, hb5.out, fun y hy => (List.mem_append.1 hy).elim (hpre'.out y) (fun h => by rw [List.mem_singleton.1 h]; exact hgood.out), hR4.out, hi4.out⟩
                · have hv2 : ((kx : Int) != (i : Int)) = true := by rw [bne_iff_ne]; omega
                  refine rq_run (by kernel_rfl) (.bool true) (fun w' h => (exec_neI _ _ rfl _ _ (by kernel_rfl) (by kernel_rfl)).trans (by rw [hv2])) ?_
                  simp only [Act.put, List.setIfInBounds_toArray, List.set_cons_zero, List.set_cons_succ]
                  refine rq_run (by kernel_rfl) (.bool true) (fun w' h => (by kernel_rfl)) ?_
                  simp only [Act.put, List.setIfInBounds_toArray, List.set_cons_zero, List.set_cons_succ]
                  refine rq_run (by kernel_rfl) (.slice (some ⟨g, o, none⟩) n c) (fun w' h => exec_load_cell 24 w' _ rfl ⟨B, 0, none⟩ (by kernel_rfl) _ (k0 w' h) (fun _ => by kernel_rfl)) ?_
                  simp only [Act.put, List.setIfInBounds_toArray, List.set_cons_zero, List.set_cons_succ]
                  refine rq_run (by kernel_rfl) (.int .i64 (kx : Int)) (fun w' h => (by kernel_rfl)) ?_
                  simp only [Act.put, List.setIfInBounds_toArray, List.set_cons_zero, List.set_cons_succ]
                  refine rq_run (by kernel_rfl) (.pointer (some ⟨g, o + kx, none⟩)) (fun w' h => exec_ixM _ _ rfl g o n c kx (by kernel_rfl) (by kernel_rfl) hx1) ?_
                  simp only [Act.put, List.setIfInBounds_toArray, List.set_cons_zero, List.set_cons_succ]
                  refine rq_run (by kernel_rfl) (.int .u64 (mk : Int)) (fun w' h => exec_load_cell 36 w' _ rfl ⟨g, o + kx, none⟩ (by kernel_rfl) _ (kk w' h) (fun _ => by kernel_rfl)) ?_
                  simp only [Act.put, List.setIfInBounds_toArray, List.set_cons_zero, List.set_cons_succ]
                  refine rq_run (by kernel_rfl) (.int .i64 (i : Int)) (fun w' h => exec_load_cell 3 w' _ rfl ⟨d, 0, none⟩ (by kernel_rfl) _ (ki w' h) (fun _ => by kernel_rfl)) ?_
                  simp only [Act.put, List.setIfInBounds_toArray, List.set_cons_zero, List.set_cons_succ]
                  refine rq_run (by kernel_rfl) (.int .u64 ((mk / 2 ^ i : Nat) : Int)) (fun w' h => exec_shr _ _ 3 rfl .i64 mk i (by kernel_rfl) (by kernel_rfl) (by omega)) ?_
                  simp only [Act.put, List.setIfInBounds_toArray, List.set_cons_zero, List.set_cons_succ]
                  refine rq_run (by kernel_rfl) (.int .u64 ((mk / 2 ^ i &&& 1 : Nat) : Int)) (fun w' h => exec_andM _ _ rfl (mk / 2 ^ i) 1 (by kernel_rfl) (by kernel_rfl) (Nat.lt_of_le_of_lt (Nat.div_le_self _ _) hmk9) (by decide)) ?_
                  simp only [Act.put, List.setIfInBounds_toArray, List.set_cons_zero, List.set_cons_succ]
                  refine rq_run (by kernel_rfl) (.bool (mk.testBit i)) (fun w' h => (exec_eqM _ _ rfl _ 1 (by kernel_rfl) (by kernel_rfl)).trans (by rw [low_bit1])) ?_
                  simp only [Act.put, List.setIfInBounds_toArray, List.set_cons_zero, List.set_cons_succ]
                  refine rq_run (by kernel_rfl) (.bool (mk.testBit i)) (fun w' h => (by kernel_rfl)) ?_
                  simp only [Act.put, List.setIfInBounds_toArray, List.set_cons_zero, List.set_cons_succ]
                  refine rq_run (by kernel_rfl) (.bool (mk.testBit i)) (fun w' h => (by kernel_rfl)) ?_
                  simp only [Act.put, List.setIfInBounds_toArray, List.set_cons_zero, List.set_cons_succ]
                  cases htk : mk.testBit i with
                  | true =>
                    refine wpQuietIn_nil ?_
                    intro w4 hb4
                    have hR4 : Hid (RF w B (.slice (some ⟨g, o, none⟩) n c) Ds w4) := hRW'.out.below hb4
                    have hk4 : Hid (KeepsOthers W w4) := keeps_below hb4
                    have hbad : Hid (badBit up i x.1) := by
                      show badBit up i x.1
                      unfold badBit
                      rw [← hmkH.out, ← hmiH.out]
                      exact .inr ⟨fun h => hki (hkxH.out.trans h), htk⟩
                    have c1 : w4.cell? ⟨B + 1, 0, none⟩ = some (.bool false) := by rw [cell_of_row _ _ _ _ _ _ hR4.out.h1]; rfl
                    have f1 : w4.frozen? ⟨B + 1, 0, none⟩ = false := frozen_of_row _ _ _ _ _ hR4.out.h1
                    clear k0 ki km kk hb4
                    gi_wp2
                    exact ⟨hk4.out.trans (KeepsOthers.setCell _ _ _), ⟨rfl, x, List.mem_append.2 (.inr (List.mem_singleton.2 rfl)), hbad.out⟩, hR4.out.store false (by rw [hBH.out]; omega)⟩
                  | false =>
                    refine wpQuietIn_nil ?_
                    intro w4 hb4
                    have hR4 : Hid (RF w B (.slice (some ⟨g, o, none⟩) n c) Ds w4) := hRW'.out.below hb4
                    have hi4 : Hid (w4.heap[d]? = some (.cells #[.int .i64 (i : Int)] 3 (0, 0))) := heap_kept hiW'.out hb4
                    have hk4 : Hid (KeepsOthers W w4) := keeps_below hb4
                    have hb5 : Hid (Below w.heap.size W w4) := hb4.mono hRW'.out.hB.size
                    have hgood : Hid (¬ badBit up i x.1) := by
                      show ¬ badBit up i x.1
                      unfold badBit
                      rw [← hmkH.out, ← hmiH.out]
                      rintro (h | h)
                      · exact h ((andNot_zero hmk9 hmi9).1 hb1)
                      · rw [htk] at h; exact (by cases h.2)
                    clear k0 ki km kk hb4
                    gi_wp2
                    exact ⟨hk4.out, hb5.out, fun y hy => (List.mem_append.1 hy).elim (hpre'.out y) (fun h => by rw [List.mem_singleton.1 h]; exact hgood.out), hR4.out, hi4.out⟩
              · have hv : ((((mk &&& (18446744073709551615 - mi)) : Nat) : Int) != 0) = true := by rw [nat_ne_zero]; exact decide_eq_true hb1
                refine rq_run (by kernel_rfl) (.bool true) (fun w' h => (exec_neM _ _ rfl _ 0 (by kernel_rfl) (by kernel_rfl)).trans (by rw [hv])) ?_
                simp only [Act.put, List.setIfInBounds_toArray, List.set_cons_zero, List.set_cons_succ]
                refine rq_run (by kernel_rfl) (.bool true) (fun w' h => (by kernel_rfl)) ?_
                simp only [Act.put, List.setIfInBounds_toArray, List.set_cons_zero, List.set_cons_succ]
                refine rq_skip (by kernel_rfl) ?_
                simp only [Act.put, List.setIfInBounds_toArray, List.set_cons_zero, List.set_cons_succ]
                refine rq_skip (by kernel_rfl) ?_
                simp only [Act.put, List.setIfInBounds_toArray, List.set_cons_zero, List.set_cons_succ]
                refine rq_skip (by kernel_rfl) ?_
                simp only [Act.put, List.setIfInBounds_toArray, List.set_cons_zero, List.set_cons_succ]
                refine rq_skip (by kernel_rfl) ?_
                simp only [Act.put, List.setIfInBounds_toArray, List.set_cons_zero, List.set_cons_succ]
                refine rq_skip (by kernel_rfl) ?_
                simp only [Act.put, List.setIfInBounds_toArray, List.set_cons_zero, List.set_cons_succ]
                refine rq_skip (by kernel_rfl) ?_
                simp only [Act.put, List.setIfInBounds_toArray, List.set_cons_zero, List.set_cons_succ]
                refine rq_skip (by kernel_rfl) ?_
                simp only [Act.put, List.setIfInBounds_toArray, List.set_cons_zero, List.set_cons_succ]
                refine rq_skip (by kernel_rfl) ?_
                simp only [Act.put, List.setIfInBounds_toArray, List.set_cons_zero, List.set_cons_succ]
                refine rq_skip (by kernel_rfl) ?_
                simp only [Act.put, List.setIfInBounds_toArray, List.set_cons_zero, List.set_cons_succ]
                refine rq_skip (by kernel_rfl) ?_
                simp only [Act.put, List.setIfInBounds_toArray, List.set_cons_zero, List.set_cons_succ]
                refine rq_skip (by kernel_rfl) ?_
                simp only [Act.put, List.setIfInBounds_toArray, List.set_cons_zero, List.set_cons_succ]
                refine rq_skip (by kernel_rfl) ?_
                simp only [Act.put, List.setIfInBounds_toArray, List.set_cons_zero, List.set_cons_succ]
                refine rq_skip (by kernel_rfl) ?_
                simp only [Act.put, List.setIfInBounds_toArray, List.set_cons_zero, List.set_cons_succ]
                refine rq_run (by kernel_rfl) (.bool true) (fun w' h => (by kernel_rfl)) ?_
                simp only [Act.put, List.setIfInBounds_toArray, List.set_cons_zero, List.set_cons_succ]
                refine wpQuietIn_nil ?_
                intro w4 hb4
                have hR4 : Hid (RF w B (.slice (some ⟨g, o, none⟩) n c) Ds w4) := hRW'.out.below hb4
                have hk4 : Hid (KeepsOthers W w4) := keeps_below hb4
                have hbad : Hid (badBit up i x.1) := by
                  show badBit up i x.1
                  unfold badBit
                  rw [← hmkH.out, ← hmiH.out]
                  exact .inl fun h => hb1 ((andNot_zero hmk9 hmi9).2 h)
                have c1 : w4.cell? ⟨B + 1, 0, none⟩ = some (.bool false) := by rw [cell_of_row _ _ _ _ _ _ hR4.out.h1]; rfl
                have f1 : w4.frozen? ⟨B + 1, 0, none⟩ = false := frozen_of_row _ _ _ _ _ hR4.out.h1
                clear k0 ki km kk hb4
                gi_wp2
                exact ⟨hk4.out.trans (KeepsOthers.setCell _ _ _), ⟨rfl, x, List.mem_append.2 (.inr (List.mem_singleton.2 rfl)), hbad.out⟩, hR4.out.store false (by rw [hBH.out]; omega)⟩
            case done =>
              rintro D xs W hD hS ⟨hall, hRW, hiW⟩ hK
              have hRD : Hid (RF w B (.slice (some ⟨g, o, none⟩) n c) (D :: Ds) W) := hRW.more hK (fun D' h' => by have := hR3.out.lt D' h'; omega) (by have := hR3.out.hB.size; have := hBH.out; omega)
              have hok2 : Hid (∀ j, j < i + 1 → okRow up j) := fun j hj => by
                by_cases hji : j < i
                · exact hok.out j hji
                · have : j = i := by omega
                  subst this
                  unfold okRow
                  rw [← hmiH.out]
                  refine ⟨hti'.out, fun k hk => ?_⟩
                  obtain ⟨y, hy, rfl⟩ := mem_bits hS hmi9 hk
                  have hnb := hall y hy
                  unfold badBit at hnb
                  rw [← hmiH.out] at hnb
                  refine ⟨by rw [← hn'.out]; exact hkn.out _ hk, Classical.byContradiction fun h => hnb (.inl h), fun hne => ?_⟩
                  cases hb : (up.getD y.1 0).testBit j with
                  | false => rfl
                  | true => exact absurd (.inr ⟨hne, hb⟩) hnb
              clear hall hRW hiW hK hR3 hi3 hm3 hok
              go_wp2_with fail
              refine ⟨?_, ?measure⟩
              unfold RInv
              (repeat apply Exists.intro)
              refine ⟨?rel, rfl⟩
              case rel => exact ⟨i + 1, D :: Ds, by omega, by go_num, rfl, hok2, hRD⟩
              case measure => simp [intOf]; omega
            case stop =>
              rintro D cc pre W hD hSp ⟨⟨rfl, y, hy, hbad⟩, hZ⟩ hK
              have hZD := hZ.more hK (fun D' h' => by have := hR3.out.lt D' h'; omega) (by have := hR3.out.hB.size; have := hBH.out; omega)
              refine wp_ret ?_
              change bodyPostM Fence.wide 5 Tryd.prog Tryd.f15 (fun e w' => ∃ b, e = .returned (.bool b) ∧ (b = true ↔ Ord up) ∧ Below w.heap.size w w') .ret _ _
              refine right_leaves hZD (by rw [hBH.out]; exact Nat.le_refl _) (by kernel_rfl) rfl ⟨fun h => (by cases h), fun h => ?_⟩
              have hrow := (h.2.2 i (by rw [← hn'.out]; exact hlt)).2 y.1 (by rw [← hmiH.out]; exact y.2.2)
              rcases hbad with hbad | hbad
              · exact (hbad hrow.2.1).elim
              · have := hrow.2.2 hbad.1
                rw [hbad.2] at this; cases this
          · have hz0 : ((mi : Int) / 2 ^ n != 0) = true := by rw [shr_int, nat_ne_zero]; exact decide_eq_true hz
            have hzH : Hid (¬ mi / 2 ^ n = 0) := hz
            clear hz
            go_quiet (fail)
            clear c0 ci cm k0 ki km hb0 hz0 hmin hmin2
            have hb2 : Below w1.heap.size w1 (w1.drewN nq) := ⟨rfl, rfl, rfl, Nat.le_refl _, fun _ _ => rfl⟩
            generalize w1.drewN nq = w2 at hb2 ⊢
            have hR2 : Hid (RF w B (.slice (some ⟨g, o, none⟩) n c) Ds w2) := hR1.out.below hb2
            have hi2 : Hid (w2.heap[d]? = some (.cells #[.int .i64 (i : Int)] 3 (0, 0))) := heap_kept hi1.out hb2
            clear hb2 hR1 hi1
            go_upto_region 8 with fail
            refine wp_region_lit ?_
            refine wpList_store_cell rfl 4 _ _ rfl (B + 1) 0 (by kernel_rfl) (.bool false) (by kernel_rfl) (.bool false) (by rw [cell_of_row _ _ _ _ _ _ hR2.out.h1]; rfl) (frozen_of_row _ _ _ _ _ hR2.out.h1) (fun _ => by kernel_rfl) rfl rfl ?_
            refine wpList_nil ?_
            rename_i hK
            refine hK _ _ (wp_ret ?_)
            change bodyPostM Fence.wide 5 Tryd.prog Tryd.f15 (fun e w' => ∃ b, e = .returned (.bool b) ∧ (b = true ↔ Ord up) ∧ Below w.heap.size w w') .ret _ _
            have hz := hR2.out.store false (by rw [hBH.out]; omega)
            exact right_leaves hz (by rw [hBH.out]; exact Nat.le_refl _) (by kernel_rfl) (by kernel_rfl) ⟨fun h => (by cases h), fun h => absurd h (fun h => hzH.out (shr_zero.2 fun k hk => by have := ((h.2.2 i (by rw [← hn'.out]; exact hlt)).2 k (by rw [← hmiH.out]; exact hk)).1; have := hn'.out; omega))⟩
        · have hI6 : ¬ (n : Int) < 64 := by omega
          have hkn : Hid (∀ k, mi.testBit k = true → k < n) := fun k hk => by have := bit_lt hmi9 hk; omega
          go_quiet (fail)
          clear c0 ci cm k0 ki km hb0 hmin
          have hb2 : Below w1.heap.size w1 (w1.drewN nq) := ⟨rfl, rfl, rfl, Nat.le_refl _, fun _ _ => rfl⟩
          generalize w1.drewN nq = w2 at hb2 ⊢
          have hR2 : Hid (RF w B (.slice (some ⟨g, o, none⟩) n c) Ds w2) := hR1.out.below hb2
          have hi2 : Hid (w2.heap[d]? = some (.cells #[.int .i64 (i : Int)] 3 (0, 0))) := heap_kept hi1.out hb2
          clear hb2 hR1 hi1
          go_upto_region 9 with fail
          refine wp_region_lit ?_
          refine sl_run rfl (.slice (some ⟨g, o, none⟩) n c) w2 (exec_load_cell 24 w2 _ rfl ⟨B, 0, none⟩ (by kernel_rfl) _ (by rw [cell_of_row _ _ _ _ _ _ hR2.out.h0]; rfl) (fun _ => by kernel_rfl)) ?_
          simp only [Act.put, List.setIfInBounds_toArray, List.set_cons_zero, List.set_cons_succ]
          refine sl_run rfl (.int .i64 (i : Int)) w2 (exec_load_cell 3 w2 _ rfl ⟨d, 0, none⟩ (by kernel_rfl) _ (by rw [cell_of_row _ _ _ _ _ _ hi2.out]; rfl) (fun _ => by kernel_rfl)) ?_
          simp only [Act.put, List.setIfInBounds_toArray, List.set_cons_zero, List.set_cons_succ]
          refine sl_run rfl (.pointer (some ⟨g, o + i, none⟩)) w2 (exec_ixM _ _ rfl g o n c i (by kernel_rfl) (by kernel_rfl) hlt) ?_
          simp only [Act.put, List.setIfInBounds_toArray, List.set_cons_zero, List.set_cons_succ]
          refine sl_run rfl (.int .u64 (mi : Int)) w2 (exec_load_cell 36 w2 _ rfl ⟨g, o + i, none⟩ (by kernel_rfl) _ (by rw [hmiH.out]; exact hreg.out w2 hR2.out.hB i hlt) (fun _ => by kernel_rfl)) ?_
          simp only [Act.put, List.setIfInBounds_toArray, List.set_cons_zero, List.set_cons_succ]
          refine sl_call rfl 28 #[.int .u64 (mi : Int)] (by kernel_rfl) (R := fun v w' => v = .func (.func 33) #[] #[.pointer (some ⟨w2.heap.size, 0, none⟩)] ∧ w' = w2.alloc (.cells #[.int .u64 (mi : Int)] 36)) ((bits_calls mi w2).mono fun e w' h => ⟨_, h.1, rfl, h.2⟩) ?_
          rintro _ _ ⟨rfl, rfl⟩
          simp only [Act.put, List.setIfInBounds_toArray, List.set_cons_zero, List.set_cons_succ]
          refine wpList_nil ?_
          have hb3 : Below w2.heap.size w2 (w2.alloc (.cells #[.int .u64 (mi : Int)] 36)) := (Below.refl _ _).alloc (Nat.le_refl _) _
          have hm3 : (w2.alloc (.cells #[.int .u64 (mi : Int)] 36)).heap[w2.heap.size]? = some (.cells #[.int .u64 (mi : Int)] 36 (0, 0)) := heap_alloc_new _ _
          obtain ⟨bm, hbm⟩ : ∃ b, b = w2.heap.size := ⟨_, rfl⟩
          rw [← hbm] at hm3 ⊢
          generalize w2.alloc _ = w3 at hb3 hm3 ⊢
          have hR3 : Hid (RF w B (.slice (some ⟨g, o, none⟩) n c) Ds w3) := hR2.out.below hb3
          have hi3 : Hid (w3.heap[d]? = some (.cells #[.int .i64 (i : Int)] 3 (0, 0))) := heap_kept hi2.out hb3
          clear hR2 hi2 hb3 hbm
          rename_i hK
          refine hK _ _ ?_
          refine wp_block ?_
          refine wp_range 5 (by decide) (gf := 33) (lb := #[.pointer (some ⟨bm, 0, none⟩)]) rfl (enters_of Tryd.func33 (by kernel_rfl) rfl)
            (bits_stops 4 (by decide) mi bm w.heap.size hmi9 w3 hw0.out hR3.out.hB.size (by rw [cell_of_row _ _ _ _ _ _ hm3]; rfl) ((Array.getElem?_eq_some_iff.1 hm3).1) (htH.out.below hw0.out hR3.out.hB)) hR3.out.hB.size (fun _ => rfl)
            (fun pre W => AllGood up i pre ∧ (RF w B (.slice (some ⟨g, o, none⟩) n c) Ds W ∧ W.heap[d]? = some (.cells #[.int .i64 (i : Int)] 3 (0, 0))))
            (fun c pre W => (c = .ret ∧ SomeBad up i pre) ∧ RZ w B false Ds W)
            (OwnFrom.and own_pure (OwnFrom.and (RF.own hR3.out.lt hR3.out.hB.size) (own_heap (cs := fun _ => #[.int .i64 (i : Int)]))))
            (fun c => OwnFrom.and own_pure (RZ.own hR3.out.lt hR3.out.hB.size))
            ⟨fun y hy => (List.not_mem_nil hy).elim, hR3.out, hi3.out⟩
            (fun x => { tmps := #[.slice (some ⟨g, o, none⟩) n c, .pointer (some ⟨B, 0, none⟩), .pointer (some ⟨B + 1, 0, none⟩), .int .i64 (n : Int), .pointer (some ⟨d, 0, none⟩), .int .i64 (x.1 : Int), .slice (some ⟨g, o, none⟩) n c, .int .i64 (n : Int), .int .i64 (n : Int), .bool false, .bool false, .int .i64 (n : Int), .bool false, .bool false, .int .i64 (n : Int), .int .i64 (i : Int), .bool true, .int .i64 (i : Int), .slice (some ⟨g, o, none⟩) n c, .int .i64 (i : Int), .pointer (some ⟨g, o + i, none⟩), .int .u64 (mi : Int), .int .i64 (i : Int), .int .u64 ((mi : Int) / 2 ^ i), .int .u64 (bits BinOp.and IntKind.u64 ((mi : Int) / 2 ^ i) 1), .bool false, .bool false, .int .i64 (n : Int), .bool false, .bool false, undef, undef, undef, undef, undef, undef, undef, .bool false, .bool false, .slice (some ⟨g, o, none⟩) n c, .int .i64 (i : Int), .pointer (some ⟨g, o + i, none⟩), .int .u64 (mi : Int), .func (.func 33) #[] #[.pointer (some ⟨bm, 0, none⟩)], .int .i64 (x.1 : Int), u45, u46, u47, u48, u49, u50, u51, u52, u53, u54, u55, u56, u57, u58, u59, u60, u61, u62, u63, u64, u65, u66, u67, u68, u69, u70], defers := [] }) ?assign ?body ?done ?stop
          case assign =>
            intro l x W K hK
            simp only [encB]
            gi_wp2
            exact hK
          case body =>
            rintro l pre x W ⟨hpre, hRW, hiW⟩ _
            have hx1 : x.1 < n := hkn.out x.1 x.2.2
            obtain ⟨mk, hmk⟩ : ∃ mk, mk = up.getD x.1 0 := ⟨_, rfl⟩
            have hmkH : Hid (mk = up.getD x.1 0) := hmk
            have hmk9 : mk < 18446744073709551616 := by rw [hmk]; exact small_get hsH.out _
            clear hmk
            have hRW' : Hid (RF w B (.slice (some ⟨g, o, none⟩) n c) Ds W) := hRW
            have hiW' : Hid (W.heap[d]? = some (.cells #[.int .i64 (i : Int)] 3 (0, 0))) := hiW
            have hpre' : Hid (AllGood up i pre) := hpre
            clear hRW hiW hpre hR3 hi3 hm3
            obtain ⟨kx, hkx⟩ : ∃ kx, kx = x.1 := ⟨_, rfl⟩
            have hkxH : Hid (kx = x.1) := hkx
            rw [← hkx] at hx1 ⊢
            clear hkx
            have k0 : ∀ w', Below W.heap.size W w' → w'.cell? ⟨B, 0, none⟩ = some (.slice (some ⟨g, o, none⟩) n c) := fun w' h => by rw [cell_of_row _ _ _ _ _ _ (heap_kept hRW'.out.h0 h)]; rfl
            have ki : ∀ w', Below W.heap.size W w' → w'.cell? ⟨d, 0, none⟩ = some (.int .i64 (i : Int)) := fun w' h => by rw [cell_of_row _ _ _ _ _ _ (heap_kept hiW'.out h)]; rfl
            have km : ∀ w', Below W.heap.size W w' → w'.cell? ⟨g, o + i, none⟩ = some (.int .u64 (mi : Int)) := fun w' h => by rw [hmiH.out]; exact hreg.out w' (hRW'.out.hB.trans (h.mono hRW'.out.hB.size)) i hlt
            have kk : ∀ w', Below W.heap.size W w' → w'.cell? ⟨g, o + kx, none⟩ = some (.int .u64 (mk : Int)) := fun w' h => by rw [hmkH.out, ← hkxH.out]; exact hreg.out w' (hRW'.out.hB.trans (h.mono hRW'.out.hB.size)) kx hx1
            refine wpIn_block ?_
            refine wpIn_seq ?_
            refine wpIn_region_quietR (C := Below W.heap.size W) (of_noDefer (by kernel_rfl)) (by kernel_rfl) (by kernel_rfl) (Below.refl _ _).drew ?_
            refine rq_run (by kernel_rfl) (.slice (some ⟨g, o, none⟩) n c) (fun w' h => exec_load_cell 24 w' _ rfl ⟨B, 0, none⟩ (by kernel_rfl) _ (k0 w' h) (fun _ => by kernel_rfl)) ?_
            simp only [Act.put, List.setIfInBounds_toArray, List.set_cons_zero, List.set_cons_succ]
            refine rq_run (by kernel_rfl) (.int .i64 (kx : Int)) (fun w' h => (by kernel_rfl)) ?_
            simp only [Act.put, List.setIfInBounds_toArray, List.set_cons_zero, List.set_cons_succ]
            refine rq_run (by kernel_rfl) (.pointer (some ⟨g, o + kx, none⟩)) (fun w' h => exec_ixM _ _ rfl g o n c kx (by kernel_rfl) (by kernel_rfl) hx1) ?_
            simp only [Act.put, List.setIfInBounds_toArray, List.set_cons_zero, List.set_cons_succ]
            refine rq_run (by kernel_rfl) (.int .u64 (mk : Int)) (fun w' h => exec_load_cell 36 w' _ rfl ⟨g, o + kx, none⟩ (by kernel_rfl) _ (kk w' h) (fun _ => by kernel_rfl)) ?_
            simp only [Act.put, List.setIfInBounds_toArray, List.set_cons_zero, List.set_cons_succ]
            refine rq_run (by kernel_rfl) (.slice (some ⟨g, o, none⟩) n c) (fun w' h => exec_load_cell 24 w' _ rfl ⟨B, 0, none⟩ (by kernel_rfl) _ (k0 w' h) (fun _ => by kernel_rfl)) ?_
            simp only [Act.put, List.setIfInBounds_toArray, List.set_cons_zero, List.set_cons_succ]
            refine rq_run (by kernel_rfl) (.int .i64 (i : Int)) (fun w' h => exec_load_cell 3 w' _ rfl ⟨d, 0, none⟩ (by kernel_rfl) _ (ki w' h) (fun _ => by kernel_rfl)) ?_
            simp only [Act.put, List.setIfInBounds_toArray, List.set_cons_zero, List.set_cons_succ]
            refine rq_run (by kernel_rfl) (.pointer (some ⟨g, o + i, none⟩)) (fun w' h => exec_ixM _ _ rfl g o n c i (by kernel_rfl) (by kernel_rfl) hlt) ?_
            simp only [Act.put, List.setIfInBounds_toArray, List.set_cons_zero, List.set_cons_succ]
            refine rq_run (by kernel_rfl) (.int .u64 (mi : Int)) (fun w' h => exec_load_cell 36 w' _ rfl ⟨g, o + i, none⟩ (by kernel_rfl) _ (km w' h) (fun _ => by kernel_rfl)) ?_
            simp only [Act.put, List.setIfInBounds_toArray, List.set_cons_zero, List.set_cons_succ]
            refine rq_run (by kernel_rfl) (.int .u64 ((mk &&& (18446744073709551615 - mi) : Nat) : Int)) (fun w' h => exec_andNotM _ _ rfl mk mi (by kernel_rfl) (by kernel_rfl) hmk9 hmi9) ?_
            simp only [Act.put, List.setIfInBounds_toArray, List.set_cons_zero, List.set_cons_succ]
            by_cases hb1 : mk &&& (18446744073709551615 - mi) = 0
            · have hv : ((((mk &&& (18446744073709551615 - mi)) : Nat) : Int) != 0) = false := by rw [nat_ne_zero, hb1]; rfl
              refine rq_run (by kernel_rfl) (.bool false) (fun w' h => (exec_neM _ _ rfl _ 0 (by kernel_rfl) (by kernel_rfl)).trans (by rw [hv])) ?_
              simp only [Act.put, List.setIfInBounds_toArray, List.set_cons_zero, List.set_cons_succ]
              refine rq_run (by kernel_rfl) (.bool false) (fun w' h => (by kernel_rfl)) ?_
              simp only [Act.put, List.setIfInBounds_toArray, List.set_cons_zero, List.set_cons_succ]
              refine rq_run (by kernel_rfl) (.int .i64 (kx : Int)) (fun w' h => (by kernel_rfl)) ?_
              simp only [Act.put, List.setIfInBounds_toArray, List.set_cons_zero, List.set_cons_succ]
              refine rq_run (by kernel_rfl) (.int .i64 (i : Int)) (fun w' h => exec_load_cell 3 w' _ rfl ⟨d, 0, none⟩ (by kernel_rfl) _ (ki w' h) (fun _ => by kernel_rfl)) ?_
              simp only [Act.put, List.setIfInBounds_toArray, List.set_cons_zero, List.set_cons_succ]
              by_cases hki : kx = i
              · have hv2 : ((kx : Int) != (i : Int)) = false := by rw [hki]; simp
                refine rq_run (by kernel_rfl) (.bool false) (fun w' h => (exec_neI _ _ rfl _ _ (by kernel_rfl) (by kernel_rfl)).trans (by rw [hv2])) ?_
                simp only [Act.put, List.setIfInBounds_toArray, List.set_cons_zero, List.set_cons_succ]
                refine rq_run (by kernel_rfl) (.bool false) (fun w' h => (by kernel_rfl)) ?_
                simp only [Act.put, List.setIfInBounds_toArray, List.set_cons_zero, List.set_cons_succ]
                refine rq_skip (by kernel_rfl) ?_
                simp only [Act.put, List.setIfInBounds_toArray, List.set_cons_zero, List.set_cons_succ]
                refine rq_skip (by kernel_rfl) ?_
                simp only [Act.put, List.setIfInBounds_toArray, List.set_cons_zero, List.set_cons_succ]
                refine rq_skip (by kernel_rfl) ?_
                simp only [Act.put, List.setIfInBounds_toArray, List.set_cons_zero, List.set_cons_succ]
                refine rq_skip (by kernel_rfl) ?_
                simp only [Act.put, List.setIfInBounds_toArray, List.set_cons_zero, List.set_cons_succ]
                refine rq_skip (by kernel_rfl) ?_
                simp only [Act.put, List.setIfInBounds_toArray, List.set_cons_zero, List.set_cons_succ]
                refine rq_skip (by kernel_rfl) ?_
                simp only [Act.put, List.setIfInBounds_toArray, List.set_cons_zero, List.set_cons_succ]
                refine rq_skip (by kernel_rfl) ?_
                simp only [Act.put, List.setIfInBounds_toArray, List.set_cons_zero, List.set_cons_succ]
                refine rq_skip (by kernel_rfl) ?_
                simp only [Act.put, List.setIfInBounds_toArray, List.set_cons_zero, List.set_cons_succ]
                refine rq_run (by kernel_rfl) (.bool false) (fun w' h => (by kernel_rfl)) ?_
                simp only [Act.put, List.setIfInBounds_toArray, List.set_cons_zero, List.set_cons_succ]
                refine rq_run (by kernel_rfl) (.bool false) (fun w' h => (by kernel_rfl)) ?_
                simp only [Act.put, List.setIfInBounds_toArray, List.set_cons_zero, List.set_cons_succ]
                refine wpQuietIn_nil ?_
                intro w4 hb4
                have hR4 : Hid (RF w B (.slice (some ⟨g, o, none⟩) n c) Ds w4) := hRW'.out.below hb4
                have hi4 : Hid (w4.heap[d]? = some (.cells #[.int .i64 (i : Int)] 3 (0, 0))) := heap_kept hiW'.out hb4
                have hk4 : Hid (KeepsOthers W w4) := keeps_below hb4
                have hb5 : Hid (Below w.heap.size W w4) := hb4.mono hRW'.out.hB.size
                have hgood : Hid (¬ badBit up i x.1) := by
                  show ¬ badBit up i x.1
                  unfold badBit
                  rw [← hmkH.out, ← hmiH.out]
                  rintro (h | h)
                  · exact h ((andNot_zero hmk9 hmi9).1 hb1)
                  · exact h.1 (hkxH.out.symm.trans hki)
                clear k0 ki km kk hb4
                gi_wp2
                exact ⟨hk4.out, hb5.out, fun y hy => (List.mem_append.1 hy).elim (hpre'.out y) (fun h => by rw [List.mem_singleton.1 h]; exact hgood.out), hR4.out, hi4.out⟩
              · have hv2 : ((kx : Int) != (i : Int)) = true := by rw [bne_iff_ne]; omega
                refine rq_run (by kernel_rfl) (.bool true) (fun w' h => (exec_neI _ _ rfl _ _ (by kernel_rfl) (by kernel_rfl)).trans (by rw [hv2])) ?_
                simp only [Act.put, List.setIfInBounds_toArray, List.set_cons_zero, List.set_cons_succ]
                refine rq_run (by kernel_rfl) (.bool true) (fun w' h => (by kernel_rfl)) ?_
                simp only [Act.put, List.setIfInBounds_toArray, List.set_cons_zero, List.set_cons_succ]
                refine rq_run (by kernel_rfl) (.slice (some ⟨g, o, none⟩) n c) (fun w' h => exec_load_cell 24 w' _ rfl ⟨B, 0, none⟩ (by kernel_rfl) _ (k0 w' h) (fun _ => by kernel_rfl)) ?_
                simp only [Act.put, List.setIfInBounds_toArray, List.set_cons_zero, List.set_cons_succ]
                refine rq_run (by kernel_rfl) (.int .i64 (kx : Int)) (fun w' h => (by kernel_rfl)) ?_
                simp only [Act.put, List.setIfInBounds_toArray, List.set_cons_zero, List.set_cons_succ]
                refine rq_run (by kernel_rfl) (.pointer (some ⟨g, o + kx, none⟩)) (fun w' h => exec_ixM _ _ rfl g o n c kx (by kernel_rfl) (by kernel_rfl) hx1) ?_
                simp only [Act.put, List.setIfInBounds_toArray, List.set_cons_zero, List.set_cons_succ]
                refine rq_run (by kernel_rfl) (.int .u64 (mk : Int)) (fun w' h => exec_load_cell 36 w' _ rfl ⟨g, o + kx, none⟩ (by kernel_rfl) _ (kk w' h) (fun _ => by kernel_rfl)) ?_
                simp only [Act.put, List.setIfInBounds_toArray, List.set_cons_zero, List.set_cons_succ]
                refine rq_run (by kernel_rfl) (.int .i64 (i : Int)) (fun w' h => exec_load_cell 3 w' _ rfl ⟨d, 0, none⟩ (by kernel_rfl) _ (ki w' h) (fun _ => by kernel_rfl)) ?_
                simp only [Act.put, List.setIfInBounds_toArray, List.set_cons_zero, List.set_cons_succ]
                refine rq_run (by kernel_rfl) (.int .u64 ((mk / 2 ^ i : Nat) : Int)) (fun w' h => exec_shr _ _ 3 rfl .i64 mk i (by kernel_rfl) (by kernel_rfl) (by omega)) ?_
                simp only [Act.put, List.setIfInBounds_toArray, List.set_cons_zero, List.set_cons_succ]
                refine rq_run (by kernel_rfl) (.int .u64 ((mk / 2 ^ i &&& 1 : Nat) : Int)) (fun w' h => exec_andM _ _ rfl (mk / 2 ^ i) 1 (by kernel_rfl) (by kernel_rfl) (Nat.lt_of_le_of_lt (Nat.div_le_self _ _) hmk9) (by decide)) ?_
                simp only [Act.put, List.setIfInBounds_toArray, List.set_cons_zero, List.set_cons_succ]
                refine rq_run (by kernel_rfl) (.bool (mk.testBit i)) (fun w' h => (exec_eqM _ _ rfl _ 1 (by kernel_rfl) (by kernel_rfl)).trans (by rw [low_bit1])) ?_
                simp only [Act.put, List.setIfInBounds_toArray, List.set_cons_zero, List.set_cons_succ]
                refine rq_run (by kernel_rfl) (.bool (mk.testBit i)) (fun w' h => (by kernel_rfl)) ?_
                simp only [Act.put, List.setIfInBounds_toArray, List.set_cons_zero, List.set_cons_succ]
                refine rq_run (by kernel_rfl) (.bool (mk.testBit i)) (fun w' h => (by kernel_rfl)) ?_
                simp only [Act.put, List.setIfInBounds_toArray, List.set_cons_zero, List.set_cons_succ]
                cases htk : mk.testBit i with
                | true =>
                  refine wpQuietIn_nil ?_
                  intro w4 hb4
                  have hR4 : Hid (RF w B (.slice (some ⟨g, o, none⟩) n c) Ds w4) := hRW'.out.below hb4
                  have hk4 : Hid (KeepsOthers W w4) := keeps_below hb4
                  have hbad : Hid (badBit up i x.1) := by
                    show badBit up i x.1
                    unfold badBit
                    rw [← hmkH.out, ← hmiH.out]
                    exact .inr ⟨fun h => hki (hkxH.out.trans h), htk⟩
                  have c1 : w4.cell? ⟨B + 1, 0, none⟩ = some (.bool false) := by rw [cell_of_row _ _ _ _ _ _ hR4.out.h1]; rfl
                  have f1 : w4.frozen? ⟨B + 1, 0, none⟩ = false := frozen_of_row _ _ _ _ _ hR4.out.h1
                  clear k0 ki km kk hb4
                  gi_wp2
                  exact ⟨hk4.out.trans (KeepsOthers.setCell _ _ _), ⟨rfl, x, List.mem_append.2 (.inr (List.mem_singleton.2 rfl)), hbad.out⟩, hR4.out.store false (by rw [hBH.out]; omega)⟩
                | false =>
                  refine wpQuietIn_nil ?_
                  intro w4 hb4
                  have hR4 : Hid (RF w B (.slice (some ⟨g, o, none⟩) n c) Ds w4) := hRW'.out.below hb4
                  have hi4 : Hid (w4.heap[d]? = some (.cells #[.int .i64 (i : Int)] 3 (0, 0))) := heap_kept hiW'.out hb4
                  have hk4 : Hid (KeepsOthers W w4) := keeps_below hb4
                  have hb5 : Hid (Below w.heap.size W w4) := hb4.mono hRW'.out.hB.size
                  have hgood : Hid (¬ badBit up i x.1) := by
                    show ¬ badBit up i x.1
                    unfold badBit
                    rw [← hmkH.out, ← hmiH.out]
                    rintro (h | h)
                    · exact h ((andNot_zero hmk9 hmi9).1 hb1)
                    · rw [htk] at h; exact (by cases h.2)
                  clear k0 ki km kk hb4
                  gi_wp2
                  exact ⟨hk4.out, hb5.out, fun y hy => (List.mem_append.1 hy).elim (hpre'.out y) (fun h => by rw [List.mem_singleton.1 h]; exact hgood.out), hR4.out, hi4.out⟩
            · have hv : ((((mk &&& (18446744073709551615 - mi)) : Nat) : Int) != 0) = true := by rw [nat_ne_zero]; exact decide_eq_true hb1
              refine rq_run (by kernel_rfl) (.bool true) (fun w' h => (exec_neM _ _ rfl _ 0 (by kernel_rfl) (by kernel_rfl)).trans (by rw [hv])) ?_
              simp only [Act.put, List.setIfInBounds_toArray, List.set_cons_zero, List.set_cons_succ]
              refine rq_run (by kernel_rfl) (.bool true) (fun w' h => (by kernel_rfl)) ?_
              simp only [Act.put, List.setIfInBounds_toArray, List.set_cons_zero, List.set_cons_succ]
              refine rq_skip (by kernel_rfl) ?_
              simp only [Act.put, List.setIfInBounds_toArray, List.set_cons_zero, List.set_cons_succ]
              refine rq_skip (by kernel_rfl) ?_
              simp only [Act.put, List.setIfInBounds_toArray, List.set_cons_zero, List.set_cons_succ]
              refine rq_skip (by kernel_rfl) ?_
              simp only [Act.put, List.setIfInBounds_toArray, List.set_cons_zero, List.set_cons_succ]
              refine rq_skip (by kernel_rfl) ?_
              simp only [Act.put, List.setIfInBounds_toArray, List.set_cons_zero, List.set_cons_succ]
              refine rq_skip (by kernel_rfl) ?_
              simp only [Act.put, List.setIfInBounds_toArray, List.set_cons_zero, List.set_cons_succ]
              refine rq_skip (by kernel_rfl) ?_
              simp only [Act.put, List.setIfInBounds_toArray, List.set_cons_zero, List.set_cons_succ]
              refine rq_skip (by kernel_rfl) ?_
              simp only [Act.put, List.setIfInBounds_toArray, List.set_cons_zero, List.set_cons_succ]
              refine rq_skip (by kernel_rfl) ?_
              simp only [Act.put, List.setIfInBounds_toArray, List.set_cons_zero, List.set_cons_succ]
              refine rq_skip (by kernel_rfl) ?_
              simp only [Act.put, List.setIfInBounds_toArray, List.set_cons_zero, List.set_cons_succ]
              refine rq_skip (by kernel_rfl) ?_
              simp only [Act.put, List.setIfInBounds_toArray, List.set_cons_zero, List.set_cons_succ]
              refine rq_skip (by kernel_rfl) ?_
              simp only [Act.put, List.setIfInBounds_toArray, List.set_cons_zero, List.set_cons_succ]
              refine rq_skip (by kernel_rfl) ?_
              simp only [Act.put, List.setIfInBounds_toArray, List.set_cons_zero, List.set_cons_succ]
              refine rq_skip (by kernel_rfl) ?_
              simp only [Act.put, List.setIfInBounds_toArray, List.set_cons_zero, List.set_cons_succ]
              refine rq_run (by kernel_rfl) (.bool true) (fun w' h => (by kernel_rfl)) ?_
              simp only [Act.put, List.setIfInBounds_toArray, List.set_cons_zero, List.set_cons_succ]
              refine wpQuietIn_nil ?_
              intro w4 hb4
              have hR4 : Hid (RF w B (.slice (some ⟨g, o, none⟩) n c) Ds w4) := hRW'.out.below hb4
              have hk4 : Hid (KeepsOthers W w4) := keeps_below hb4
              have hbad : Hid (badBit up i x.1) := by
                show badBit up i x.1
                unfold badBit
                rw [← hmkH.out, ← hmiH.out]
                exact .inl fun h => hb1 ((andNot_zero hmk9 hmi9).2 h)
              have c1 : w4.cell? ⟨B + 1, 0, none⟩ = some (.bool false) := by rw [cell_of_row _ _ _ _ _ _ hR4.out.h1]; rfl
              have f1 : w4.frozen? ⟨B + 1, 0, none⟩ = false := frozen_of_row _ _ _ _ _ hR4.out.h1
              clear k0 ki km kk hb4
              gi_wp2
              exact ⟨hk4.out.trans (KeepsOthers.setCell _ _ _), ⟨rfl, x, List.mem_append.2 (.inr (List.mem_singleton.2 rfl)), hbad.out⟩, hR4.out.store false (by rw [hBH.out]; omega)⟩
          case done =>
            rintro D xs W hD hS ⟨hall, hRW, hiW⟩ hK
            have hRD : Hid (RF w B (.slice (some ⟨g, o, none⟩) n c) (D :: Ds) W) := hRW.more hK (fun D' h' => by have := hR3.out.lt D' h'; omega) (by have := hR3.out.hB.size; have := hBH.out; omega)
            have hok2 : Hid (∀ j, j < i + 1 → okRow up j) := fun j hj => by
              by_cases hji : j < i
              · exact hok.out j hji
              · have : j = i := by omega
                subst this
                unfold okRow
                rw [← hmiH.out]
                refine ⟨hti'.out, fun k hk => ?_⟩
                obtain ⟨y, hy, rfl⟩ := mem_bits hS hmi9 hk
                have hnb := hall y hy
                unfold badBit at hnb
                rw [← hmiH.out] at hnb
                refine ⟨by rw [← hn'.out]; exact hkn.out _ hk, Classical.byContradiction fun h => hnb (.inl h), fun hne => ?_⟩
                cases hb : (up.getD y.1 0).testBit j with
                | false => rfl
                | true => exact absurd (.inr ⟨hne, hb⟩) hnb
            clear hall hRW hiW hK hR3 hi3 hm3 hok
            go_wp2_with fail
            refine ⟨?_, ?measure⟩
            unfold RInv
            (repeat apply Exists.intro)
            refine ⟨?rel, rfl⟩
            case rel => exact ⟨i + 1, D :: Ds, by omega, by go_num, rfl, hok2, hRD⟩
            case measure => simp [intOf]; omega
          case stop =>
            rintro D cc pre W hD hSp ⟨⟨rfl, y, hy, hbad⟩, hZ⟩ hK
            have hZD := hZ.more hK (fun D' h' => by have := hR3.out.lt D' h'; omega) (by have := hR3.out.hB.size; have := hBH.out; omega)
            refine wp_ret ?_
            change bodyPostM Fence.wide 5 Tryd.prog Tryd.f15 (fun e w' => ∃ b, e = .returned (.bool b) ∧ (b = true ↔ Ord up) ∧ Below w.heap.size w w') .ret _ _
            refine right_leaves hZD (by rw [hBH.out]; exact Nat.le_refl _) (by kernel_rfl) rfl ⟨fun h => (by cases h), fun h => ?_⟩
            have hrow := (h.2.2 i (by rw [← hn'.out]; exact hlt)).2 y.1 (by rw [← hmiH.out]; exact y.2.2)
            rcases hbad with hbad | hbad
            · exact (hbad hrow.2.1).elim
            · have := hrow.2.2 hbad.1
              rw [hbad.2] at this; cases this
    · have hI : ¬ (i : Int) < (n : Int) := by omega
      have hord : Hid (Ord up) := by
        have h1 := hn'.out
        exact ⟨by omega, by omega, fun j hj => hok.out j (by omega)⟩
      go_upto_region 14 with fail
      refine wp_region_lit ?_
      refine wpList_store_cell rfl 4 _ _ rfl (B + 1) 0 (by kernel_rfl) (.bool true) (by kernel_rfl) (.bool false) (by rw [cell_of_row _ _ _ _ _ _ hR.out.h1]; rfl) (frozen_of_row _ _ _ _ _ hR.out.h1) (fun _ => by kernel_rfl) rfl rfl ?_
      refine wpList_nil ?_
      rename_i hK
      refine hK _ _ (wp_ret ?_)
      change bodyPostM Fence.wide 5 Tryd.prog Tryd.f15 (fun e w' => ∃ b, e = .returned (.bool b) ∧ (b = true ↔ Ord up) ∧ Below w.heap.size w w') .ret _ _
      have hz := hR.out.store true (by rw [hBH.out]; omega)
      exact right_leaves hz (by rw [hBH.out]; exact Nat.le_refl _) (by kernel_rfl) (by kernel_rfl) ⟨fun _ => hord.out, fun _ => rfl⟩
end Go.Proofs.YtfbbpodlemllcaaDoor
