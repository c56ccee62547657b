/-
  The law PosetBits, walked.
-/
import Derived.Test.YtfbbpodlemllcaaDoorPoLaw7p
import Derived.LoopIn
import Derived.Sort.LoopGhostIn
import Derived.Sort.CutIn
namespace Go.Proofs.YtfbbpodlemllcaaDoor
open Go.RowKit Go.Shelf
set_option linter.unusedVariables false
set_option linter.unusedSimpArgs false
set_option pp.maxSteps 50000
attribute [local go_sem] Oper.semAt_some
/-- What PosetBits keeps. -/
structure BF (w0 : World) (B d e m : Nat) (most : Int) (a n : Nat) (w : World) : Prop where
  hm : w.heap[B]? = some (.cells #[.int .u64 (m : Int)] 36 (0, 0))
  ho : w.heap[B + 1]? = some (.cells #[.int .i64 most] 3 (0, 0))
  hr : w.heap[B + 2]? = some (.cells #[.bool false] 4 (0, 0))
  ha : w.heap[d]? = some (.cells #[.int .i64 (a : Int)] 3 (0, 0))
  hn : w.heap[e]? = some (.cells #[.int .i64 (n : Int)] 3 (0, 0))
  hB : Below w0.heap.size w0 w
theorem BF.below {w0 w w' : World} {B d e m a n : Nat} {most : Int} (h : BF w0 B d e m most a n w) (hb : Below w.heap.size w w') : BF w0 B d e m most a n w' :=
  ⟨heap_kept h.hm hb, heap_kept h.ho hb, heap_kept h.hr hb, heap_kept h.ha hb, heap_kept h.hn hb, h.hB.trans (hb.mono h.hB.size)⟩
theorem BF.setA {w0 w : World} {B d e m a n : Nat} {most : Int} (h : BF w0 B d e m most a n w) (hd : w0.heap.size ≤ d) (h1 : B + 2 < d) (h2 : e ≠ d) (a' : Nat) : BF w0 B d e m most a' n (w.setCell ⟨d, 0, none⟩ (.int .i64 (a' : Int))) :=
  ⟨(heap_setCell_other _ _ _ _ (by show B ≠ d; omega)).trans h.hm, (heap_setCell_other _ _ _ _ (by show B + 1 ≠ d; omega)).trans h.ho, (heap_setCell_other _ _ _ _ (by show B + 2 ≠ d; omega)).trans h.hr,
    heap_setCell_same _ _ _ _ _ _ h.ha, (heap_setCell_other _ _ _ _ (by show e ≠ d; omega)).trans h.hn, h.hB.setCell hd _⟩
theorem BF.setN {w0 w : World} {B d e m a n : Nat} {most : Int} (h : BF w0 B d e m most a n w) (he : w0.heap.size ≤ e) (h1 : B + 2 < e) (h2 : d ≠ e) (n' : Nat) : BF w0 B d e m most a n' (w.setCell ⟨e, 0, none⟩ (.int .i64 (n' : Int))) :=
  ⟨(heap_setCell_other _ _ _ _ (by show B ≠ e; omega)).trans h.hm, (heap_setCell_other _ _ _ _ (by show B + 1 ≠ e; omega)).trans h.ho, (heap_setCell_other _ _ _ _ (by show B + 2 ≠ e; omega)).trans h.hr,
    (heap_setCell_other _ _ _ _ (by show d ≠ e; omega)).trans h.ha, heap_setCell_same _ _ _ _ _ _ h.hn, h.hB.setCell he _⟩
/-- What the way out keeps. -/
structure BZ (w0 : World) (B : Nat) (b : Bool) (w : World) : Prop where
  hr : w.heap[B + 2]? = some (.cells #[.bool b] 4 (0, 0))
  hB : Below w0.heap.size w0 w
theorem BF.out {w0 w : World} {B d e m a n : Nat} {most : Int} (h : BF w0 B d e m most a n w) (hB : w0.heap.size ≤ B) (b : Bool) : BZ w0 B b (w.setCell ⟨B + 2, 0, none⟩ (.bool b)) :=
  ⟨heap_setCell_same _ _ _ _ _ _ h.hr, h.hB.setCell (by show _ ≤ B + 2; omega) _⟩
theorem BF.own {β : Type} {w0 : World} {B d e m Bd : Nat} {most : Int} {a n : β → Nat} (h2 : w0.heap.size ≤ Bd) : OwnFrom Bd (fun (s : β) W => BF w0 B d e m most (a s) (n s) W) := fun s W W' row hs hg hr =>
  have hs' : BF w0 B d e m most (a s) (n s) W := hs
  ⟨own_heap (β := β) (cs := fun _ => #[.int .u64 (m : Int)]) s W W' row hs'.hm hg hr, own_heap (β := β) (cs := fun _ => #[.int .i64 most]) s W W' row hs'.ho hg hr, own_heap (β := β) (cs := fun _ => #[.bool false]) s W W' row hs'.hr hg hr,
    own_heap (β := β) (cs := fun s => #[.int .i64 (a s : Int)]) s W W' row hs'.ha hg hr, own_heap (β := β) (cs := fun s => #[.int .i64 (n s : Int)]) s W W' row hs'.hn hg hr, ownFrom_below (Nat.le_refl _) h2 s W W' row hs'.hB hg hr⟩
theorem BZ.own {β : Type} {w0 : World} {B Bd : Nat} {p : β → Prop} (h2 : w0.heap.size ≤ Bd) : OwnFrom Bd (fun (s : β) W => ∃ b, (p s → b = true) ∧ BZ w0 B b W) := fun s W W' row hs hg hr => by
  obtain ⟨b, hb, hs'⟩ := hs
  exact ⟨b, hb, own_heap (β := β) (cs := fun _ => #[.bool b]) s W W' row hs'.hr hg hr, ownFrom_below (Nat.le_refl _) h2 s W W' row hs'.hB hg hr⟩
/-- How a round leaves. -/
def IxB (w0 : World) (B m : Nat) (c : Code) (pre : List (BitOf m)) (W : World) : Prop := c = .ret ∧ ∃ b, (Good m (pre.map (·.1)) → b = true) ∧ BZ w0 B b W
theorem IxB.own {w0 : World} {B m Bd : Nat} {c : Code} (h2 : w0.heap.size ≤ Bd) : OwnFrom Bd (IxB w0 B m c) := fun s W W' row hs hg hr =>
  ⟨hs.1, BZ.own (β := List (BitOf m)) (p := fun pre => Good m (pre.map (·.1))) h2 s W W' row hs.2 hg hr⟩
theorem bits_leaves {w0 w : World} {B : Nat} {Ds : List Nat} {a : Act} (h : BZ w0 B true w) (hm : ∀ D ∈ Ds, w.heap[D]? = some (.deferred (some []))) (hnd : Ds.Nodup) (hge : ∀ D ∈ Ds, w0.heap.size ≤ D)
    (hp : a.tmps.getD 4 undef = .pointer (some ⟨B + 2, 0, none⟩)) (hd : a.defers = Ds.map mark) :
    bodyPostM Fence.wide 5 Tryd.prog Tryd.f7 (fun e w' => e = .returned (.bool true) ∧ Below w0.heap.size w0 w') .ret a w :=
  bodyM_marks (fun w' => BZ w0 B true w') Ds hd hnd hm h
    (fun w' D hD hC hk => ⟨put_mark_heap hk hC.hr, put_mark_below hC.hB (hge D hD) hC.hB.size⟩)
    (fun w' hC => ⟨_, results_cell1 (fn := Tryd.f7) rfl _ _ (B + 2) (.bool true) (0, 0) hp hC.hr (fun _ => by kernel_rfl), rfl, hC.hB⟩)
set_option maxRecDepth 100000 in
set_option maxHeartbeats 4000000 in
theorem lbits_calls (m : Nat) (hm : m < 18446744073709551616) (most : Int) (w : World) (ht : Tab w) :
    Calls Tryd.prog 7 #[.int .u64 (m : Int), .int .i64 most] w fun e w' => e = .returned (.bool true) ∧ Below w.heap.size w w' := by
  have htH : Hid (Tab w) := ht
  clear ht
  refine calls_marks 5 Tryd.func7 rfl ?_
  simp only [Tryd.ntmps7, List.size_toArray, List.length_cons, List.length_nil, Nat.reduceAdd, Nat.reduceSub, Array.replicate_succ, Array.replicate_zero, List.push_toArray, List.append_toArray, List.nil_append, List.cons_append]
  go_upto_region 1 with fail
  generalize hW : World.alloc _ _ = W
  have hW0 : W.heap[w.heap.size]? = some (.cells #[.int .u64 (m : Int)] 36 (0, 0)) := by rw [← hW, heap_alloc_old _ _ (by simp; omega)]; exact heap_alloc2_old w _ _
  have hW1 : W.heap[w.heap.size + 1]? = some (.cells #[.int .i64 most] 3 (0, 0)) := by rw [← hW, heap_alloc_old _ _ (by simp)]; exact heap_alloc2_new w _ _
  have hW2 : W.heap[w.heap.size + 2]? = some (.cells #[.bool false] 4 (0, 0)) := by
    rw [← hW]
    have := heap_alloc_new ((w.alloc (.cells #[.int .u64 (m : Int)] 36)).alloc (.cells #[.int .i64 most] 3)) (.cells #[.bool false] 4)
    rw [show ((w.alloc (.cells #[.int .u64 (m : Int)] 36)).alloc (.cells #[.int .i64 most] 3)).heap.size = w.heap.size + 2 from by simp] at this
    exact this
  have hWs : W.heap.size = w.heap.size + 3 := by rw [← hW]; simp
  have hWB : Below w.heap.size w W := by rw [← hW]; exact (((Below.refl _ _).alloc (Nat.le_refl _) _).alloc (by simp) _).alloc (by simp; omega) _
  clear hW
  obtain ⟨B, hBd⟩ : ∃ B, B = w.heap.size := ⟨_, rfl⟩
  have hBH : Hid (B = w.heap.size) := hBd
  rw [← hBd] at hW0 hW1 hW2 hWs ⊢
  clear hBd
  refine wp_region_lit ?_
  refine sl_call rfl 11 #[] (by kernel_rfl) (R := fun v w' => v = .bool true ∧ Below W.heap.size W w') ((fixed_calls W (htH.out.below htH.out.1 hWB)).mono fun e w' h => ⟨_, h.1, rfl, h.2⟩) ?_
  rintro _ w2 ⟨rfl, hb2⟩
  simp only [Act.put, List.setIfInBounds_toArray, List.set_cons_zero, List.set_cons_succ]
  refine sl_run rfl (.bool false) w2 (by kernel_rfl) ?_
  simp only [Act.put, List.setIfInBounds_toArray, List.set_cons_zero, List.set_cons_succ]
  refine wpList_nil ?_
  have hs2 : Hid (B + 3 ≤ w2.heap.size) := by have := hb2.size; show _ ≤ _; omega
  have k0 : Hid (w2.heap[B]? = some (.cells #[.int .u64 (m : Int)] 36 (0, 0))) := heap_kept hW0 hb2
  have k1 : Hid (w2.heap[B + 1]? = some (.cells #[.int .i64 most] 3 (0, 0))) := heap_kept hW1 hb2
  have k2 : Hid (w2.heap[B + 2]? = some (.cells #[.bool false] 4 (0, 0))) := heap_kept hW2 hb2
  have hB2 : Hid (Below w.heap.size w w2) := hWB.trans (hb2.mono hWB.size)
  clear hW0 hW1 hW2 hWs hWB hb2
  go_upto_region 3 with fail
  refine wp_region_lit ?_
  refine sl_run rfl (.pointer (some ⟨w2.heap.size, 0, none⟩)) (w2.alloc (.cells #[.int .i64 0] 3)) (by kernel_rfl) ?_
  simp only [Act.put, List.setIfInBounds_toArray, List.set_cons_zero, List.set_cons_succ]
  have hn0 : (w2.alloc (.cells #[.int .i64 0] 3)).heap[w2.heap.size]? = some (.cells #[.int .i64 0] 3 (0, 0)) := heap_alloc_new _ _
  refine wpList_store_cell rfl 3 _ _ rfl w2.heap.size 0 (by kernel_rfl) (.int .i64 ((0 : Nat) : Int)) (by kernel_rfl) (.int .i64 0) (by rw [cell_of_row _ _ _ _ _ _ hn0]; rfl) (frozen_of_row _ _ _ _ _ hn0) (fun _ => by kernel_rfl) rfl rfl ?_
  refine wpList_nil ?_
  simp only [Act.put, List.setIfInBounds_toArray, List.set_cons_zero, List.set_cons_succ]
  have hn1 := heap_setCell_same _ _ 0 _ _ (.int .i64 ((0 : Nat) : Int)) hn0
  have hb1 : Below w2.heap.size w2 ((w2.alloc (.cells #[.int .i64 0] 3)).setCell ⟨w2.heap.size, 0, none⟩ (.int .i64 ((0 : Nat) : Int))) := ((Below.refl _ _).alloc (Nat.le_refl _) _).setCell (Nat.le_refl _) _
  have hz1 : ((w2.alloc (.cells #[.int .i64 0] 3)).setCell ⟨w2.heap.size, 0, none⟩ (.int .i64 ((0 : Nat) : Int))).heap.size = w2.heap.size + 1 := by simp
  obtain ⟨d, hd⟩ : ∃ d, d = w2.heap.size := ⟨_, rfl⟩
  have hdB : Hid (B + 3 ≤ d) := by show _ ≤ _; rw [hd]; exact hs2.out
  rw [← hd] at hn1 hz1 ⊢
  rw [← hd] at hb1
  generalize World.setCell _ _ _ = w3 at hn1 hb1 hz1 ⊢
  rw [hd] at hb1
  have k3 : Hid (w3.heap[d]? = some (.cells #[.int .i64 ((0 : Nat) : Int)] 3 (0, 0))) := hn1
  have k0' : Hid (w3.heap[B]? = some (.cells #[.int .u64 (m : Int)] 36 (0, 0))) := heap_kept k0.out hb1
  have k1' : Hid (w3.heap[B + 1]? = some (.cells #[.int .i64 most] 3 (0, 0))) := heap_kept k1.out hb1
  have k2' : Hid (w3.heap[B + 2]? = some (.cells #[.bool false] 4 (0, 0))) := heap_kept k2.out hb1
  have hB3 : Hid (Below w.heap.size w w3) := hB2.out.trans (hb1.mono hB2.out.size)
  have hz3 : Hid (w3.heap.size = d + 1) := hz1
  clear hn0 hn1 hb1 hz1 hd k0 k1 k2 hB2 hs2
  go_upto_region 4 with fail
  refine wp_region_lit ?_
  refine sl_run rfl (.pointer (some ⟨w3.heap.size, 0, none⟩)) (w3.alloc (.cells #[.int .i64 0] 3)) (by kernel_rfl) ?_
  simp only [Act.put, List.setIfInBounds_toArray, List.set_cons_zero, List.set_cons_succ]
  have hn0 : (w3.alloc (.cells #[.int .i64 0] 3)).heap[w3.heap.size]? = some (.cells #[.int .i64 0] 3 (0, 0)) := heap_alloc_new _ _
  refine wpList_store_cell rfl 3 _ _ rfl w3.heap.size 0 (by kernel_rfl) (.int .i64 ((0 : Nat) : Int)) (by kernel_rfl) (.int .i64 0) (by rw [cell_of_row _ _ _ _ _ _ hn0]; rfl) (frozen_of_row _ _ _ _ _ hn0) (fun _ => by kernel_rfl) rfl rfl ?_
  refine wpList_nil ?_
  simp only [Act.put, List.setIfInBounds_toArray, List.set_cons_zero, List.set_cons_succ]
  have hn1 := heap_setCell_same _ _ 0 _ _ (.int .i64 ((0 : Nat) : Int)) hn0
  have hb1 : Below w3.heap.size w3 ((w3.alloc (.cells #[.int .i64 0] 3)).setCell ⟨w3.heap.size, 0, none⟩ (.int .i64 ((0 : Nat) : Int))) := ((Below.refl _ _).alloc (Nat.le_refl _) _).setCell (Nat.le_refl _) _
  obtain ⟨en, hen⟩ : ∃ d, d = w3.heap.size := ⟨_, rfl⟩
  have hde : Hid (d ≠ en) := by show _ ≠ _; have := hz3.out; omega
  have heB : Hid (B + 3 ≤ en) := by show _ ≤ _; have := hz3.out; have := hdB.out; omega
  rw [← hen] at hn1 ⊢
  rw [← hen] at hb1
  generalize World.setCell _ _ _ = w4 at hn1 hb1 ⊢
  rw [hen] at hb1
  have hF4 : Hid (BF w B d en m most 0 0 w4) := ⟨heap_kept k0'.out hb1, heap_kept k1'.out hb1, heap_kept k2'.out hb1, heap_kept k3.out hb1, hn1, hB3.out.trans (hb1.mono hB3.out.size)⟩
  clear hn0 hn1 hb1 hen k0' k1' k2' k3 hB3 hz3
  go_upto_region 5 with fail
  refine wp_region_lit ?_
  refine sl_run rfl (.int .u64 (m : Int)) w4 (exec_load_cell 36 w4 _ rfl ⟨B, 0, none⟩ (by kernel_rfl) _ (by rw [cell_of_row _ _ _ _ _ _ hF4.out.hm]; rfl) (fun _ => by kernel_rfl)) ?_
  simp only [Act.put, List.setIfInBounds_toArray, List.set_cons_zero, List.set_cons_succ]
  refine sl_call rfl 28 #[.int .u64 (m : Int)] (by kernel_rfl) (R := fun v w' => v = .func (.func 33) #[] #[.pointer (some ⟨w4.heap.size, 0, none⟩)] ∧ w' = w4.alloc (.cells #[.int .u64 (m : Int)] 36)) ((bits_calls m w4).mono fun e w' h => ⟨_, h.1, rfl, h.2⟩) ?_
  rintro _ _ ⟨rfl, rfl⟩
  simp only [Act.put, List.setIfInBounds_toArray, List.set_cons_zero, List.set_cons_succ]
  refine wpList_nil ?_
  have hb5 : Below w4.heap.size w4 (w4.alloc (.cells #[.int .u64 (m : Int)] 36)) := (Below.refl _ _).alloc (Nat.le_refl _) _
  have hm5 : (w4.alloc (.cells #[.int .u64 (m : Int)] 36)).heap[w4.heap.size]? = some (.cells #[.int .u64 (m : Int)] 36 (0, 0)) := heap_alloc_new _ _
  obtain ⟨bm, hbm⟩ : ∃ b, b = w4.heap.size := ⟨_, rfl⟩
  rw [← hbm] at hm5 ⊢
  generalize w4.alloc _ = w5 at hb5 hm5 ⊢
  have hF5 : Hid (BF w B d en m most 0 0 w5) := hF4.out.below hb5
  clear hF4 hb5 hbm
  have hwd : Hid (w.heap.size ≤ d) := by show _ ≤ _; have := hdB.out; have := hBH.out; omega
  have hwe : Hid (w.heap.size ≤ en) := by show _ ≤ _; have := heB.out; have := hBH.out; omega
  rename_i hK
  refine hK _ _ ?_
  refine wp_block ?_
  refine wp_range 5 (by decide) (gf := 33) (lb := #[.pointer (some ⟨bm, 0, none⟩)]) rfl (enters_of Tryd.func33 (by kernel_rfl) rfl)
    (bits_stops 4 (by decide) m bm w.heap.size hm w5 htH.out.1 hF5.out.hB.size (by rw [cell_of_row _ _ _ _ _ _ hm5]; rfl) ((Array.getElem?_eq_some_iff.1 hm5).1) (htH.out.below htH.out.1 hF5.out.hB)) hF5.out.hB.size (fun _ => rfl)
    (fun pre W => Good m (pre.map (·.1)) ∧ BF w B d en m most (nextAt (pre.map (·.1))) pre.length W)
    (IxB w B m)
    (OwnFrom.and own_pure (BF.own hF5.out.hB.size))
    (fun c => IxB.own hF5.out.hB.size)
    ⟨good_nil m, hF5.out⟩
    (fun x => { tmps := #[.int .u64 (m : Int), .int .i64 most, .pointer (some ⟨B, 0, none⟩), .pointer (some ⟨B + 1, 0, none⟩), .pointer (some ⟨B + 2, 0, none⟩), .pointer (some ⟨d, 0, none⟩), .pointer (some ⟨en, 0, none⟩), .int .i64 (x.1 : Int), .bool true, .bool false, .int .u64 (m : Int), .func (.func 33) #[] #[.pointer (some ⟨bm, 0, none⟩)], .int .i64 (x.1 : Int), undef, undef, undef, undef, undef, undef, undef, undef, undef, undef, undef, undef, undef, undef, undef, undef, undef, undef, undef, undef, undef, undef, undef, undef, undef, undef, undef, undef, undef, undef, undef, undef, undef, undef, undef, undef, undef, undef, undef, undef, undef, undef, undef], defers := [] }) ?assign ?body ?done ?stop
  case assign =>
    intro l x W K hK
    simp only [encB]
    gi_wp2
    exact hK
  case body =>
    rintro l pre x W ⟨hg, hF⟩ hpl
    have hgH : Hid (Good m (pre.map (·.1))) := hg
    obtain ⟨a0, ha0⟩ : ∃ a, a = nextAt (pre.map (·.1)) := ⟨_, rfl⟩
    obtain ⟨n0, hn0⟩ : ∃ a, a = pre.length := ⟨_, rfl⟩
    rw [← ha0, ← hn0] at hF
    have hFH : Hid (BF w B d en m most a0 n0 W) := hF
    have ha0H : Hid (a0 = nextAt (pre.map (·.1))) := ha0
    have hn0H : Hid (n0 = pre.length) := hn0
    have hn64 : n0 < 64 := by omega
    obtain ⟨b, hb⟩ : ∃ b, b = x.1 := ⟨_, rfl⟩
    have hbH : Hid (b = x.1) := hb
    have hb64 : b < 64 := by rw [hb]; exact x.2.1
    have hbt : Hid (m.testBit b = true) := by rw [hb]; exact x.2.2
    rw [← hb]
    clear hg hF ha0 hn0 hb hpl hm5
    gi_wp2_with fail
    gi_loopg [] 64 (fun k wr => ∃ a : Nat, Hid (BF w B d en m most a n0 wr ∧ KeepsOthers W wr ∧ Below w.heap.size W wr) ∧ Hid (a0 ≤ a ∧ (a ≤ b ∨ a = a0) ∧ ∀ j, a0 ≤ j → j < a → m.testBit j = false) ∧ k + a = 64 + a0)
    case atStart => exact ⟨a0, ⟨hFH.out, KeepsOthers.refl _, Below.refl _ _⟩, ⟨Nat.le_refl _, .inr rfl, fun j h1 h2 => by omega⟩, rfl⟩
    case round =>
      obtain ⟨a, hFK, hcond, hka⟩ := hrel
      have hFr : Hid (BF w B d en m most a n0 wr) := hFK.out.1
      have hkr : Hid (KeepsOthers W wr) := hFK.out.2.1
      have hbr : Hid (Below w.heap.size W wr) := hFK.out.2.2
      have ca : wr.cell? ⟨d, 0, none⟩ = some (.int .i64 (a : Int)) := by rw [cell_of_row _ _ _ _ _ _ hFr.out.ha]; rfl
      clear hFK
      by_cases hab : a < b
      · have hltI : (a : Int) < (b : Int) := by omega
        gi_upto_region 8 with fail
        refine wpIn_region_lit ?_
        refine ri_run (by kernel_rfl) (by intro c hc; cases hc) (.int .u64 (m : Int)) wr (exec_load_cell 36 wr _ rfl ⟨B, 0, none⟩ (by kernel_rfl) _ (by rw [cell_of_row _ _ _ _ _ _ hFr.out.hm]; rfl) (fun _ => by kernel_rfl)) ?_
        simp only [Act.put, List.setIfInBounds_toArray, List.set_cons_zero, List.set_cons_succ]
        refine ri_run (by kernel_rfl) (by intro c hc; cases hc) (.int .i64 (a : Int)) wr (exec_load_cell 3 wr _ rfl ⟨d, 0, none⟩ (by kernel_rfl) _ (by rw [cell_of_row _ _ _ _ _ _ hFr.out.ha]; rfl) (fun _ => by kernel_rfl)) ?_
        simp only [Act.put, List.setIfInBounds_toArray, List.set_cons_zero, List.set_cons_succ]
        obtain ⟨z, hz⟩ : ∃ z, z = m.testBit a := ⟨_, rfl⟩
        have hzI : bitI m (a : Int) = z := by rw [hz]; unfold bitI; rw [Int.toNat_natCast]; have : (0 : Int) ≤ (a : Int) ∧ (a : Int) < 64 := by omega
                                              simp [this]
        refine ri_call (by kernel_rfl) (by intro c hc; cases hc) 29 #[.int .u64 (m : Int), .int .i64 (a : Int)] (by kernel_rfl) (R := fun v w' => v = .bool z ∧ wr = w') ((bit_calls m a hm wr).mono fun e w' h => ⟨_, h.1, by rw [hzI], h.2.symm⟩) ?_
        rintro _ _ ⟨rfl, rfl⟩
        simp only [Act.put, List.setIfInBounds_toArray, List.set_cons_zero, List.set_cons_succ]
        refine wpListIn_nil ?_
        have hzH : Hid (z = m.testBit a) := hz
        clear hz hzI
        cases z with
        | true =>
          have cr : wr.cell? ⟨B + 2, 0, none⟩ = some (.bool false) := by rw [cell_of_row _ _ _ _ _ _ hFr.out.hr]; rfl
          have fr : wr.frozen? ⟨B + 2, 0, none⟩ = false := frozen_of_row _ _ _ _ _ hFr.out.hr
          have hno : Hid (¬ Good m ((pre ++ [x]).map (·.1))) := fun hG => by
            rw [List.map_append, List.map_singleton, good_snoc, ← ha0H.out, ← hbH.out] at hG
            have := hG.2.2 a hcond.out.1 hab
            rw [← hzH.out] at this; cases this
          gi_wp2
          exact ⟨hkr.out.trans (KeepsOthers.setCell _ _ _), rfl, false, fun h => (hno.out h).elim, hFr.out.out (by rw [hBH.out]; exact Nat.le_refl _) false⟩
        | false =>
          have fa : wr.frozen? ⟨d, 0, none⟩ = false := frozen_of_row _ _ _ _ _ hFr.out.ha
          have hF' : Hid (BF w B d en m most (a + 1) n0 (wr.setCell ⟨d, 0, none⟩ (.int .i64 ((a + 1 : Nat) : Int)))) := hFr.out.setA hwd.out (by have := hdB.out; omega) (Ne.symm hde.out) _
          have hb' : Hid (Below w.heap.size W (wr.setCell ⟨d, 0, none⟩ (.int .i64 ((a + 1 : Nat) : Int)))) := hbr.out.setCell hwd.out _
          have hk' : Hid (KeepsOthers W (wr.setCell ⟨d, 0, none⟩ (.int .i64 ((a + 1 : Nat) : Int)))) := hkr.out.trans (KeepsOthers.setCell _ _ _)
          gi_wp2
          gi_roundg (gk - 1)
          case measure => omega
          case rel =>
            refine ⟨a + 1, ⟨hF'.out, hk'.out, hb'.out⟩, ⟨by have := hcond.out.1; omega, .inl (by omega), fun j h1 h2 => ?_⟩, by omega⟩
            by_cases hj : j < a
            · exact hcond.out.2.2 j h1 hj
            · have : j = a := by omega
              rw [this]; exact hzH.out.symm
      · have hltI : ¬ (a : Int) < (b : Int) := by omega
        by_cases hab2 : a = b
        · subst hab2
          have hgood : Hid (Good m ((pre ++ [x]).map (·.1))) := by
            show Good _ _
            rw [List.map_append, List.map_singleton, good_snoc, ← ha0H.out, ← hbH.out]
            exact ⟨hgH.out, hcond.out.1, hcond.out.2.2⟩
          have hnx : Hid (nextAt ((pre ++ [x]).map (·.1)) = a + 1) := by
            show _ = _
            rw [List.map_append, List.map_singleton, nextAt_snoc, ← hbH.out]
          have hnl : Hid ((pre ++ [x]).length = n0 + 1) := by show _ = _; rw [List.length_append, ← hn0H.out]; rfl
          have hlo : ¬ (a : Int) < 0 := by omega
          have hhi : ¬ (63 : Int) < (a : Int) := by omega
          have cm : wr.cell? ⟨B, 0, none⟩ = some (.int .u64 (m : Int)) := by rw [cell_of_row _ _ _ _ _ _ hFr.out.hm]; rfl
          have hzI : bitI m (a : Int) = true := by unfold bitI; rw [Int.toNat_natCast, hbt.out]; have : (0 : Int) ≤ (a : Int) ∧ (a : Int) < 64 := by omega
                                                   simp [this]
          have hcall := (bit_calls m a hm wr).mono fun e w' h => (⟨h.1, h.2.symm⟩ : e = _ ∧ wr = w')
          rw [hzI] at hcall
          clear hzI hab hltI
          gi_upto_region 13 with (refine ⟨trivial, (CallsIn.inRound _ (callsIn_wide.2 hcall)).mono ?_⟩; rintro e w' ⟨rfl, rfl⟩)
          have hF1 : Hid (BF w B d en m most (a + 1) n0 (wr.setCell ⟨d, 0, none⟩ (.int .i64 ((a + 1 : Nat) : Int)))) := hFr.out.setA hwd.out (by have := hdB.out; omega) (Ne.symm hde.out) _
          have hk1 : Hid (KeepsOthers W (wr.setCell ⟨d, 0, none⟩ (.int .i64 ((a + 1 : Nat) : Int)))) := hkr.out.trans (KeepsOthers.setCell _ _ _)
          have hb1 : Hid (Below w.heap.size W (wr.setCell ⟨d, 0, none⟩ (.int .i64 ((a + 1 : Nat) : Int)))) := hbr.out.setCell hwd.out _
          have fa : wr.frozen? ⟨d, 0, none⟩ = false := frozen_of_row _ _ _ _ _ hFr.out.ha
          have hF2 : Hid (BF w B d en m most (a + 1) (n0 + 1) ((wr.setCell ⟨d, 0, none⟩ (.int .i64 ((a + 1 : Nat) : Int))).setCell ⟨en, 0, none⟩ (.int .i64 ((n0 + 1 : Nat) : Int)))) := hF1.out.setN hwe.out (by have := heB.out; omega) hde.out _
          have hk2 : Hid (KeepsOthers W ((wr.setCell ⟨d, 0, none⟩ (.int .i64 ((a + 1 : Nat) : Int))).setCell ⟨en, 0, none⟩ (.int .i64 ((n0 + 1 : Nat) : Int)))) := hk1.out.trans (KeepsOthers.setCell _ _ _)
          have hb2 : Hid (Below w.heap.size W ((wr.setCell ⟨d, 0, none⟩ (.int .i64 ((a + 1 : Nat) : Int))).setCell ⟨en, 0, none⟩ (.int .i64 ((n0 + 1 : Nat) : Int)))) := hb1.out.setCell hwe.out _
          have hF3 : Hid (BF w B d en m most (nextAt ((pre ++ [x]).map (·.1))) (pre ++ [x]).length ((wr.setCell ⟨d, 0, none⟩ (.int .i64 ((a + 1 : Nat) : Int))).setCell ⟨en, 0, none⟩ (.int .i64 ((n0 + 1 : Nat) : Int)))) := by
            show BF _ _ _ _ _ _ _ _ _
            rw [hnx.out, hnl.out]; exact hF2.out
          have cn : wr.cell? ⟨en, 0, none⟩ = some (.int .i64 (n0 : Int)) := by rw [cell_of_row _ _ _ _ _ _ hFr.out.hn]; rfl
          have fn : wr.frozen? ⟨en, 0, none⟩ = false := frozen_of_row _ _ _ _ _ hFr.out.hn
          have co : wr.cell? ⟨B + 1, 0, none⟩ = some (.int .i64 most) := by rw [cell_of_row _ _ _ _ _ _ hFr.out.ho]; rfl
          have cr : wr.cell? ⟨B + 2, 0, none⟩ = some (.bool false) := by rw [cell_of_row _ _ _ _ _ _ hFr.out.hr]; rfl
          have fr : wr.frozen? ⟨B + 2, 0, none⟩ = false := frozen_of_row _ _ _ _ _ hFr.out.hr
          have hde' : d ≠ en := hde.out
          have hed' : en ≠ d := Ne.symm hde.out
          have x1 : B + 1 ≠ d := by have := hdB.out; omega
          have x2 : B + 2 ≠ d := by have := hdB.out; omega
          have x3 : B + 1 ≠ en := by have := heB.out; omega
          have x4 : B + 2 ≠ en := by have := heB.out; omega
          clear hF1 hk1 hb1
          gi_wp2
          all_goals first
            | exact ⟨hk2.out.trans (KeepsOthers.setCell _ _ _), rfl, true, fun h => rfl, hF2.out.out (by rw [hBH.out]; exact Nat.le_refl _) true⟩
            | exact ⟨hk2.out, hb2.out, hgood.out, hF3.out⟩
            | trace_state
        · have hab3 : b < a0 ∧ a = a0 := by have := hcond.out.2.1; omega
          have hne : ((a : Int) == (b : Int)) = false := by rw [beq_eq_false_iff_ne]; omega
          have hne2 : ((a : Int) != (b : Int)) = true := by rw [bne_iff_ne]; omega
          have hlo : ¬ (b : Int) < 0 := by omega
          have hhi : ¬ (63 : Int) < (b : Int) := by omega
          have cr : wr.cell? ⟨B + 2, 0, none⟩ = some (.bool false) := by rw [cell_of_row _ _ _ _ _ _ hFr.out.hr]; rfl
          have fr : wr.frozen? ⟨B + 2, 0, none⟩ = false := frozen_of_row _ _ _ _ _ hFr.out.hr
          have hno : Hid (¬ Good m ((pre ++ [x]).map (·.1))) := fun hG => by
            rw [List.map_append, List.map_singleton, good_snoc, ← ha0H.out, ← hbH.out] at hG
            have := hG.2.1; omega
          gi_wp2_with (refine ⟨trivial, ?_⟩)
          exact ⟨hkr.out.trans (KeepsOthers.setCell _ _ _), rfl, false, fun h => (hno.out h).elim, hFr.out.out (by rw [hBH.out]; exact Nat.le_refl _) false⟩
  case done =>
    rintro D xs W hD hS ⟨hg, hF⟩ hK
    obtain ⟨a0, ha0⟩ : ∃ a, a = nextAt (xs.map (·.1)) := ⟨_, rfl⟩
    have hle : a0 ≤ 64 := by rw [ha0]; exact nextAt_64 hS
    have hrest : Hid (∀ j, a0 ≤ j → j < 64 → m.testBit j = false) := fun j h1 h2 => done_rest hS (by rw [← ha0]; exact h1) h2
    have hFH : Hid (BF w B d en m most a0 xs.length W) := by rw [ha0]; exact hF
    have hKH : Hid (W.heap[D]? = some (.deferred (some []))) := hK
    have hDH : Hid (w.heap.size ≤ D) := by have := hF5.out.hB.size; show _ ≤ _; omega
    have hDd : Hid (D ≠ d) := fun e => by have h1 := hKH.out; rw [e, hFH.out.ha] at h1; cases h1
    have hDr : Hid (D ≠ B + 2) := fun e => by have h1 := hKH.out; rw [e, hFH.out.hr] at h1; cases h1
    generalize xs.length = n0 at hFH
    clear hg hF hK hD hS hm5 ha0
    go_wp2_with fail
    go_loopg [] 64 (fun k wr => ∃ a : Nat, Hid (BF w B d en m most a n0 wr ∧ wr.heap[D]? = some (.deferred (some []))) ∧ a0 ≤ a ∧ k + a = 64 + a0 ∧ a ≤ 64)
    case atStart => exact ⟨a0, ⟨hFH.out, hKH.out⟩, Nat.le_refl _, rfl, hle⟩
    case round =>
      obtain ⟨a, hFK, ha, hka, ha64⟩ := hrel
      have hFr : Hid (BF w B d en m most a n0 wr) := hFK.out.1
      have hKr : Hid (wr.heap[D]? = some (.deferred (some []))) := hFK.out.2
      have ca : wr.cell? ⟨d, 0, none⟩ = some (.int .i64 (a : Int)) := by rw [cell_of_row _ _ _ _ _ _ hFr.out.ha]; rfl
      have fa : wr.frozen? ⟨d, 0, none⟩ = false := frozen_of_row _ _ _ _ _ hFr.out.ha
      have cm : wr.cell? ⟨B, 0, none⟩ = some (.int .u64 (m : Int)) := by rw [cell_of_row _ _ _ _ _ _ hFr.out.hm]; rfl
      have cr : wr.cell? ⟨B + 2, 0, none⟩ = some (.bool false) := by rw [cell_of_row _ _ _ _ _ _ hFr.out.hr]; rfl
      have fr : wr.frozen? ⟨B + 2, 0, none⟩ = false := frozen_of_row _ _ _ _ _ hFr.out.hr
      clear hFK
      by_cases hlt : a < 64
      · have hzI : bitI m (a : Int) = false := by unfold bitI; rw [Int.toNat_natCast, hrest.out a ha hlt, Bool.and_false]
        have hcall := (bit_calls m a hm wr).mono fun e w' h => (⟨h.1, h.2.symm⟩ : e = _ ∧ wr = w')
        rw [hzI] at hcall
        have hF' : Hid (BF w B d en m most (a + 1) n0 (wr.setCell ⟨d, 0, none⟩ (.int .i64 ((a + 1 : Nat) : Int)))) := hFr.out.setA hwd.out (by have := hdB.out; omega) (Ne.symm hde.out) _
        have hK' : Hid ((wr.setCell ⟨d, 0, none⟩ (.int .i64 ((a + 1 : Nat) : Int))).heap[D]? = some (.deferred (some []))) := (heap_setCell_other _ _ _ _ hDd.out).trans hKr.out
        clear hzI
        go_wp2_with (go_at_call 29; refine hcall.mono ?_; rintro e w' ⟨rfl, rfl⟩)
        go_roundg (gk - 1)
        case measure => omega
        case rel => exact ⟨a + 1, ⟨hF'.out, hK'.out⟩, by omega, by omega, by omega⟩
      · go_wp2
        change bodyPostM Fence.wide 5 Tryd.prog Tryd.f7 (fun e w' => e = .returned (.bool true) ∧ Below w.heap.size w w') .ret _ _
        exact bits_leaves (Ds := [D]) (hFr.out.out (by rw [hBH.out]; exact Nat.le_refl _) true) (fun D' h => by rw [List.mem_singleton.1 h]; exact (heap_setCell_other _ _ _ _ hDr.out).trans hKr.out) (by simp) (fun D' h => by rw [List.mem_singleton.1 h]; exact hDH.out) (by kernel_rfl) rfl
  case stop =>
    rintro D cc pre W hD hSp ⟨rfl, b, hb, hZ⟩ hK
    obtain rfl := hb (good_prefix hSp)
    refine wp_ret ?_
    change bodyPostM Fence.wide 5 Tryd.prog Tryd.f7 (fun e w' => e = .returned (.bool true) ∧ Below w.heap.size w w') .ret _ _
    exact bits_leaves (Ds := [D]) hZ (fun D' h => by rw [List.mem_singleton.1 h]; exact hK) (by simp) (fun D' h => by rw [List.mem_singleton.1 h]; have := hF5.out.hB.size; omega) (by kernel_rfl) rfl
theorem lbits_callsI (x : Int) (hx : (Lit.int .u64 x).wf = true) (most : Int) (w : World) (ht : Tab w) :
    Calls Tryd.prog 7 #[.int .u64 x, .int .i64 most] w fun e w' => e = .returned (.bool true) ∧ Below w.heap.size w w' := by
  have h : 0 ≤ x ∧ x < 18446744073709551616 := by
    have h0 : IntKind.u64.min = 0 := rfl
    have h1 : IntKind.u64.max = 18446744073709551615 := rfl
    simp only [Lit.wf, Bool.and_eq_true, decide_eq_true_eq, h0, h1] at hx
    omega
  obtain ⟨m, rfl⟩ : ∃ m : Nat, x = m := ⟨x.toNat, by omega⟩
  exact lbits_calls m (by omega) most w ht
end Go.Proofs.YtfbbpodlemllcaaDoor
