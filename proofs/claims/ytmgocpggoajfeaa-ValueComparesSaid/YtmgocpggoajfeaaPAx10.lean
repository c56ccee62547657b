/- Go functions told as plain functions, and that the program's calls come to just these, for all arguments. Written by the session's own program wip/tools/myprint.py (it drives the kit's printer). -/
import Derived.Test.YtmgocpggoajfeaaPAx0
import Derived.Test.YtmgocpggoajfeaaPAx2
import Derived.Test.YtmgocpggoajfeaaPAx3
import Derived.Test.YtmgocpggoajfeaaPAx4
import Derived.Test.YtmgocpggoajfeaaPAx5
import Derived.Test.YtmgocpggoajfeaaPAx6
import Derived.Test.YtmgocpggoajfeaaPAx7
import Derived.Test.YtmgocpggoajfeaaPAx9
namespace Go.Proofs.Ytmgocpggoajfeaa.PA
open Go.RowKit Go.Proofs.YtmgocpggoajfeaaW.PrintWords Go.Proofs.YtmgocpggoajfeaaW.PrintLast Go.Proofs.YtmgocpggoajfeaaW.PrintMore
attribute [local go_sem] max2_int min2_int max_two min_two max_three min_three max_four min_four   -- for this text's walks alone
set_option linter.unusedVariables false
set_option linter.unusedSimpArgs false

/-! ### mandatelaw01_fixed: function 12 -/
-- fixed: the chapter's examples
def mandatelaw01_fixed.f : Option (Bool) := some true
theorem R_oneV {w : World} {base b : Nat} {ok : Nat → Prop} {x : S25} (hb : base ≤ b) (hok : ok b) (hg : w.heap[b]? = some (.cells #[.string x.f0, .int .i64 x.f1] 25 (0, 0))) : Kd.R k25 25 w base ok (.slice (some ⟨b, 0, none⟩) 1 1) [x] := by
  refine ⟨fun k hk => ?_, [.string x.f0, .int .i64 x.f1], ⟨rfl, .inr ⟨b, 1, _, rfl, hb, hg, Nat.le_refl _, by decide, rfl, rfl⟩⟩, rfl, fun j y hy => ?_⟩
  · have : b = k := by simpa [Value.ownBlock] using hk
    rw [← this]; exact hok
  · rcases j with _ | j
    · simp at hy; subst hy
      exact k25_mkM w base _ _
    · simp at hy
theorem R_reads28 {w : World} {base : Nat} {ok : Nat → Prop} {A : Option Addr} {c n : Nat} {l : List S28} (h : Kd.R k28 28 w base ok (.slice A n c) l) : Kd.C k28 w A n l :=
  Kd.C_foot_own (g := w.heap.size) (Kd.R_bound h) (fun k hk => by have := hk.2.2.1; omega) w ⟨Nat.le_refl _, fun _ _ _ _ => rfl⟩
theorem R_form28 {w : World} {base : Nat} {ok : Nat → Prop} {v : Value} {xs : List S28} (h : Kd.R k28 28 w base ok v xs) : ∃ A c, v = .slice A xs.length c := by
  obtain ⟨_, _, ⟨_, h2⟩, _⟩ := h
  rcases h2 with ⟨rfl, h0⟩ | ⟨g, cap, cur, rfl, _⟩
  · exact ⟨none, 0, by rw [h0]⟩
  · exact ⟨_, cap, rfl⟩

theorem ex_text : value_Text.f 120 ⟨#[]⟩ (-12) = some (⟨#[45, 49, 50]⟩, true) := by decide +kernel
theorem ex_read : value_Read.f 120 ⟨#[97, 110, 110]⟩ = some (⟨#[97, 110, 110]⟩, 0, true) := by decide +kernel
theorem ex_n1 : value_Name.f 120 ⟨#[97, 95, 49]⟩ = some true := by decide +kernel
theorem ex_n2 : value_Name.f 120 ⟨#[110, 111, 116]⟩ = some false := by decide +kernel
theorem ex_cmp : value_Compare.f ⟨#[]⟩ 9 ⟨#[97]⟩ 0 = some (-1) := by decide +kernel
theorem ex_good : value_Good.f 120 ⟨#[97, 110, 110]⟩ 0 = some true := by decide +kernel
theorem ex_right : value_Right.f 120 ⟨#[112]⟩ [⟨⟨#[97]⟩, 0⟩] = some true := by decide +kernel
theorem ex_c1 : cmpT1 ⟨#[112]⟩ ⟨⟨#[97]⟩, 0⟩ ⟨#[112]⟩ ⟨⟨#[98]⟩, 0⟩ = -1 := by decide +kernel
theorem ex_c2 : cmpT1 ⟨#[112]⟩ ⟨⟨#[98]⟩, 0⟩ ⟨#[112]⟩ ⟨⟨#[97]⟩, 0⟩ ≠ 0 := by decide +kernel
theorem ex_sort : value_Sort.f 120 [⟨⟨#[112]⟩, [⟨⟨#[98]⟩, 0⟩]⟩, ⟨⟨#[112]⟩, [⟨⟨#[97]⟩, 0⟩]⟩] = some [⟨⟨#[112]⟩, [⟨⟨#[97]⟩, 0⟩]⟩, ⟨⟨#[112]⟩, [⟨⟨#[98]⟩, 0⟩]⟩] := by
  unfold value_Sort.f
  exact if_pos ⟨ex_c1, ex_c2⟩
set_option maxRecDepth 100000 in
set_option maxHeartbeats 8000000 in
theorem mandatelaw01_fixed.calls (r : Bool) (w : World) (h : mandatelaw01_fixed.f = some r) :
    Calls Try.prog 12 #[] w fun e w' => e = .returned (.bool r) ∧ Below w.heap.size w w' := by
  obtain rfl := Option.some.inj h
  clear h
  go_enter Try.func12, Try.ntmps12
  go_upto_region 1 with fail
  refine wp_region_lit ?_
  refine sl_run rfl (.agg #[.string ⟨#[]⟩, .int .i64 (-12)]) w (by kernel_rfl) ?_
  simp only [Act.put, List.setIfInBounds_toArray, List.set_cons_zero, List.set_cons_succ]
  refine sl_call rfl 19 #[.agg #[.string ⟨#[]⟩, .int .i64 (-12)]] (by kernel_rfl) (R := fun v w' => v = .tuple #[.string ⟨#[45, 49, 50]⟩, .bool true] ∧ Below w.heap.size w w') ((value_Text.calls 120 _ _ _ _ w ex_text).mono fun e w' h => ⟨_, h.1, rfl, h.2⟩) ?_
  rintro _ w1 ⟨rfl, hb1⟩
  simp only [Act.put, List.setIfInBounds_toArray, List.set_cons_zero, List.set_cons_succ]
  refine sl_run rfl (.tuple #[.string ⟨#[45, 49, 50]⟩, .bool true]) w1 (by kernel_rfl) ?_
  simp only [Act.put, List.setIfInBounds_toArray, List.set_cons_zero, List.set_cons_succ]
  refine sl_run rfl (.string ⟨#[45, 49, 50]⟩) w1 (by kernel_rfl) ?_
  simp only [Act.put, List.setIfInBounds_toArray, List.set_cons_zero, List.set_cons_succ]
  refine sl_run rfl (.bool true) w1 (by kernel_rfl) ?_
  simp only [Act.put, List.setIfInBounds_toArray, List.set_cons_zero, List.set_cons_succ]
  refine sl_run rfl (.string ⟨#[45, 49, 50]⟩) w1 (by kernel_rfl) ?_
  simp only [Act.put, List.setIfInBounds_toArray, List.set_cons_zero, List.set_cons_succ]
  refine sl_run rfl (.bool true) w1 (by kernel_rfl) ?_
  simp only [Act.put, List.setIfInBounds_toArray, List.set_cons_zero, List.set_cons_succ]
  refine wpList_nil ?_
  have hB1 : Hid (Below w.heap.size w w1) := hb1
  clear hb1
  go_upto_region 2 with fail
  refine wp_region_lit ?_
  refine sl_call rfl 21 #[.string ⟨#[97, 110, 110]⟩] (by kernel_rfl) (R := fun v w' => v = .tuple #[.agg #[.string ⟨#[97, 110, 110]⟩, .int .i64 0], .bool true] ∧ Below w1.heap.size w1 w') ((value_Read.calls 120 _ _ _ _ w1 ex_read).mono fun e w' h => ⟨_, h.1, rfl, h.2⟩) ?_
  rintro _ w2 ⟨rfl, hb2⟩
  simp only [Act.put, List.setIfInBounds_toArray, List.set_cons_zero, List.set_cons_succ]
  refine sl_run rfl (.tuple #[.agg #[.string ⟨#[97, 110, 110]⟩, .int .i64 0], .bool true]) w2 (by kernel_rfl) ?_
  simp only [Act.put, List.setIfInBounds_toArray, List.set_cons_zero, List.set_cons_succ]
  refine sl_run rfl (.agg #[.string ⟨#[97, 110, 110]⟩, .int .i64 0]) w2 (by kernel_rfl) ?_
  simp only [Act.put, List.setIfInBounds_toArray, List.set_cons_zero, List.set_cons_succ]
  refine sl_run rfl (.bool true) w2 (by kernel_rfl) ?_
  simp only [Act.put, List.setIfInBounds_toArray, List.set_cons_zero, List.set_cons_succ]
  refine sl_run rfl (.pointer (some ⟨w2.heap.size, 0, none⟩)) (w2.alloc (.cells #[.string ⟨#[]⟩, .int .i64 0] 25)) (by kernel_rfl) ?_
  simp only [Act.put, List.setIfInBounds_toArray, List.set_cons_zero, List.set_cons_succ]
  refine wpList_store_row rfl 25 _ _ rfl w2.heap.size #[.string ⟨#[97, 110, 110]⟩, .int .i64 0] (by kernel_rfl) (by kernel_rfl) 25 _ (heap_alloc_new _ _) (by kernel_rfl) (by kernel_rfl) (by kernel_rfl) ?_
  simp only [Act.put, List.setIfInBounds_toArray, List.set_cons_zero, List.set_cons_succ]
  have hx := setRow_heap (w2.alloc (.cells #[.string ⟨#[]⟩, .int .i64 0] 25)) w2.heap.size _ #[.string ⟨#[97, 110, 110]⟩, .int .i64 0] _ _ (heap_alloc_new _ _)
  have hb3 : Below w2.heap.size w2 ((w2.alloc (.cells #[.string ⟨#[]⟩, .int .i64 0] 25)).setRow w2.heap.size #[.string ⟨#[97, 110, 110]⟩, .int .i64 0]) := below_setRow ((Below.refl _ _).alloc (Nat.le_refl _) _) (Nat.le_refl _) _
  obtain ⟨bv, hbv⟩ : ∃ b, b = w2.heap.size := ⟨_, rfl⟩
  rw [← hbv] at hx ⊢
  rw [← hbv] at hb3
  generalize World.setRow _ _ _ = w3 at hx hb3 ⊢
  rw [hbv] at hb3
  have hx3 : Hid (w3.heap[bv]? = some (.cells #[.string ⟨#[97, 110, 110]⟩, .int .i64 0] 25 (0, 0))) := hx
  have hB3 : Hid (Below w.heap.size w w3) := (hB1.out.trans (hb2.mono hB1.out.size)).trans (hb3.mono (Nat.le_trans hB1.out.size hb2.size))
  clear hx hb3 hbv hb2 hB1
  refine sl_run rfl (.bool true) w3 (by kernel_rfl) ?_
  simp only [Act.put, List.setIfInBounds_toArray, List.set_cons_zero, List.set_cons_succ]
  refine wpList_nil ?_
  go_upto_region 3 with fail
  refine wp_region_lit ?_
  refine sl_run rfl (.agg #[.string ⟨#[98]⟩, .int .i64 0]) w3 (by kernel_rfl) ?_
  simp only [Act.put, List.setIfInBounds_toArray, List.set_cons_zero, List.set_cons_succ]
  refine sl_run rfl (.slice (some ⟨w3.heap.size, 0, none⟩) 1 1) (w3.alloc (.cells #[.string ⟨#[98]⟩, .int .i64 0] 25)) (by kernel_rfl) ?_
  simp only [Act.put, List.setIfInBounds_toArray, List.set_cons_zero, List.set_cons_succ]
  have hn1 := heap_alloc_new w3 (.cells #[.string ⟨#[98]⟩, .int .i64 0] 25)
  have hb4 : Below w3.heap.size w3 (w3.alloc (.cells #[.string ⟨#[98]⟩, .int .i64 0] 25)) := (Below.refl _ _).alloc (Nat.le_refl _) _
  have hz4 : (w3.alloc (.cells #[.string ⟨#[98]⟩, .int .i64 0] 25)).heap.size = w3.heap.size + 1 := by simp
  generalize w3.alloc _ = w4 at hn1 hb4 hz4 ⊢
  obtain ⟨b1, hb1d⟩ : ∃ b, b = w3.heap.size := ⟨_, rfl⟩
  rw [← hb1d] at hn1 hz4 ⊢
  refine sl_run rfl (.agg #[.string ⟨#[112]⟩, .slice (some ⟨b1, 0, none⟩) 1 1]) w4 (by kernel_rfl) ?_
  simp only [Act.put, List.setIfInBounds_toArray, List.set_cons_zero, List.set_cons_succ]
  refine sl_run rfl (.agg #[.string ⟨#[97]⟩, .int .i64 0]) w4 (by kernel_rfl) ?_
  simp only [Act.put, List.setIfInBounds_toArray, List.set_cons_zero, List.set_cons_succ]
  refine sl_run rfl (.slice (some ⟨w4.heap.size, 0, none⟩) 1 1) (w4.alloc (.cells #[.string ⟨#[97]⟩, .int .i64 0] 25)) (by kernel_rfl) ?_
  simp only [Act.put, List.setIfInBounds_toArray, List.set_cons_zero, List.set_cons_succ]
  have hn2 := heap_alloc_new w4 (.cells #[.string ⟨#[97]⟩, .int .i64 0] 25)
  have hb5 : Below w4.heap.size w4 (w4.alloc (.cells #[.string ⟨#[97]⟩, .int .i64 0] 25)) := (Below.refl _ _).alloc (Nat.le_refl _) _
  have hz5 : (w4.alloc (.cells #[.string ⟨#[97]⟩, .int .i64 0] 25)).heap.size = w4.heap.size + 1 := by simp
  generalize w4.alloc _ = w5 at hn2 hb5 hz5 ⊢
  obtain ⟨b2, hb2d⟩ : ∃ b, b = w4.heap.size := ⟨_, rfl⟩
  rw [← hb2d] at hn2 hz5 ⊢
  refine sl_run rfl (.agg #[.string ⟨#[112]⟩, .slice (some ⟨b2, 0, none⟩) 1 1]) w5 (by kernel_rfl) ?_
  simp only [Act.put, List.setIfInBounds_toArray, List.set_cons_zero, List.set_cons_succ]
  refine sl_run rfl (.slice (some ⟨w5.heap.size, 0, none⟩) 2 2) (w5.alloc (.cells #[.string ⟨#[112]⟩, .slice (some ⟨b1, 0, none⟩) 1 1, .string ⟨#[112]⟩, .slice (some ⟨b2, 0, none⟩) 1 1] 28)) (by kernel_rfl) ?_
  simp only [Act.put, List.setIfInBounds_toArray, List.set_cons_zero, List.set_cons_succ]
  have hn3 := heap_alloc_new w5 (.cells #[.string ⟨#[112]⟩, .slice (some ⟨b1, 0, none⟩) 1 1, .string ⟨#[112]⟩, .slice (some ⟨b2, 0, none⟩) 1 1] 28)
  have hb6 : Below w5.heap.size w5 (w5.alloc (.cells #[.string ⟨#[112]⟩, .slice (some ⟨b1, 0, none⟩) 1 1, .string ⟨#[112]⟩, .slice (some ⟨b2, 0, none⟩) 1 1] 28)) := (Below.refl _ _).alloc (Nat.le_refl _) _
  generalize w5.alloc _ = w6 at hn3 hb6 ⊢
  obtain ⟨b3, hb3d⟩ : ∃ b, b = w5.heap.size := ⟨_, rfl⟩
  rw [← hb3d] at hn3 ⊢
  have hL : Kd.R k28 28 w6 w3.heap.size (fun _ => True) (.slice (some ⟨b3, 0, none⟩) 2 2) [⟨⟨#[112]⟩, [⟨⟨#[98]⟩, 0⟩]⟩, ⟨⟨#[112]⟩, [⟨⟨#[97]⟩, 0⟩]⟩] :=
    R_two (by omega) hn3 (R_oneV (x := ⟨⟨#[97]⟩, 0⟩) (by omega) (by omega) (heap_kept hn2 hb6)) (R_oneV (x := ⟨⟨#[98]⟩, 0⟩) (by omega) (by omega) (heap_kept (heap_kept hn1 hb5) hb6))
  have hB6 : Below w3.heap.size w3 w6 := (hb4.trans (hb5.mono hb4.size)).trans (hb6.mono (Nat.le_trans hb4.size hb5.size))
  have hx6 : Hid (w6.heap[bv]? = some (.cells #[.string ⟨#[97, 110, 110]⟩, .int .i64 0] 25 (0, 0))) := heap_kept hx3.out hB6
  have hBw6 : Hid (Below w.heap.size w w6) := hB3.out.trans (hB6.mono hB3.out.size)
  have hLC := R_reads28 hL
  clear hn1 hb4 hz4 hb1d hn2 hb5 hz5 hb2d hn3 hb6 hb3d hL hB6 hx3 hB3
  refine sl_call rfl 28 #[.slice (some ⟨b3, 0, none⟩) 2 2] (by kernel_rfl) (R := fun v w' => Kd.R k28 28 w' w6.heap.size (fun _ => True) v [⟨⟨#[112]⟩, [⟨⟨#[97]⟩, 0⟩]⟩, ⟨⟨#[112]⟩, [⟨⟨#[98]⟩, 0⟩]⟩] ∧ Below w6.heap.size w6 w') ((value_Sort.calls 120 (some ⟨b3, 0, none⟩) 2 [⟨⟨#[112]⟩, [⟨⟨#[98]⟩, 0⟩]⟩, ⟨⟨#[112]⟩, [⟨⟨#[97]⟩, 0⟩]⟩] _ w6 hLC (Nat.le_refl _) ex_sort).mono fun e w' h => by
    obtain ⟨v, h1, h2, h3⟩ := h
    exact ⟨v, h1, h2, h3⟩) ?_
  rintro sv w7 ⟨hR7, hb7⟩
  obtain ⟨AS, cS, rfl⟩ := R_form28 hR7
  have hC7 := R_reads28 hR7
  obtain ⟨ad, A0, c0, rfl, x0, x1, lc0, hA0⟩ := at_T28 hC7 0 (by decide) (by simp)
  obtain ⟨ad', A1, c1, e1, x2, x3, lc1, hA1⟩ := at_T28 hC7 1 (by decide) (by simp)
  obtain rfl := Option.some.inj e1
  obtain ⟨ae, rfl, y0, y1⟩ := at_T25 hA0 0 (by decide) (by simp [rd_T28])
  have hx7 : Hid (w7.heap[bv]? = some (.cells #[.string ⟨#[97, 110, 110]⟩, .int .i64 0] 25 (0, 0))) := heap_kept hx6.out hb7
  have hBw7 : Hid (Below w.heap.size w w7) := hBw6.out.trans (hb7.mono hBw6.out.size)
  have x0H : Hid (w7.cell? ad = some (.string ⟨#[112]⟩)) := x0
  have x1H : Hid (w7.cell? ⟨ad.block, ad.off + 1, none⟩ = some (.slice (some ae) 1 c0)) := x1
  have x2H : Hid (w7.cell? (ad.add 2) = some (.string ⟨#[112]⟩)) := x2
  have x3H : Hid (w7.cell? ⟨(ad.add 2).block, (ad.add 2).off + 1, none⟩ = some (.slice A1 1 c1)) := x3
  have y0H : Hid (w7.cell? ae = some (.string ⟨#[97]⟩)) := y0
  have hA0H : Hid (Kd.C k25 w7 (some ae) 1 [⟨⟨#[97]⟩, 0⟩]) := hA0
  have hA1H : Hid (Kd.C k25 w7 A1 1 [⟨⟨#[98]⟩, 0⟩]) := hA1
  have lc0H : Hid (1 ≤ c0) := lc0
  have lc1H : Hid (1 ≤ c1) := lc1
  clear hR7 hb7 hC7 x0 x1 x2 x3 y0 y1 hA0 hA1 lc0 lc1 hx6 hBw6 hLC
  simp only [List.length_cons, List.length_nil, Nat.zero_add, Nat.reduceAdd]
  simp only [Act.put, List.setIfInBounds_toArray, List.set_cons_zero, List.set_cons_succ]
  refine sl_run rfl (.slice (some ad) 2 cS) w7 (by kernel_rfl) ?_
  simp only [Act.put, List.setIfInBounds_toArray, List.set_cons_zero, List.set_cons_succ]
  refine wpList_nil ?_
  go_upto_region 4 with fail
  rename_i hK0
  refine wp_normal ?_
  refine wp_region_held_drew (S := fun w' => Below w7.heap.size w7 w') (by kernel_rfl) (Below.refl _ _).drew (fun hS => ?_)
  change wpAnyH _ _ _ _ _ 62 (Array.replicate 62 false) _ _
  generalize hx : w7.drew = v0 at hS
  clear hx
  refine held_call 0 rfl (by kernel_rfl) (by kernel_rfl) 13 #[.string ⟨#[97, 95, 49]⟩] (by kernel_rfl) (R := fun v w' => v = .bool true ∧ Below v0.heap.size v0 w') ((value_Name.calls 120 _ _ v0 ex_n1).mono fun e w' h => ⟨_, h.1, rfl, h.2.below⟩) ?_
  rintro _ v1 ⟨rfl, hbn⟩
  have hS1 : Below w7.heap.size w7 v1 := hS.trans (hbn.mono hS.size)
  refine ⟨hS1, ?_⟩
  clear hS hbn
  have hS := hS1
  clear hS1
  simp only [Act.put, List.setIfInBounds_toArray, List.set_cons_zero, List.set_cons_succ, List.getElem_toArray, List.getElem_cons_succ, List.getElem_cons_zero]
  refine held_take 1 rfl (by kernel_rfl) (by kernel_rfl) (by kernel_rfl) (.bool true) (fun _ _ _ h => nomatch h.1) (by kernel_rfl) (fun w' h => by kernel_rfl) hS ?_
  simp only [Act.put, List.setIfInBounds_toArray, List.set_cons_zero, List.set_cons_succ, List.getElem_toArray, List.getElem_cons_succ, List.getElem_cons_zero]
  refine held_call 2 rfl (by kernel_rfl) (by kernel_rfl) 13 #[.string ⟨#[110, 111, 116]⟩] (by kernel_rfl) (R := fun v w' => v = .bool false ∧ Below v1.heap.size v1 w') ((value_Name.calls 120 _ _ v1 ex_n2).mono fun e w' h => ⟨_, h.1, rfl, h.2.below⟩) ?_
  rintro _ v2 ⟨rfl, hbn⟩
  have hS1 : Below w7.heap.size w7 v2 := hS.trans (hbn.mono hS.size)
  refine ⟨hS1, ?_⟩
  clear hS hbn
  have hS := hS1
  clear hS1
  simp only [Act.put, List.setIfInBounds_toArray, List.set_cons_zero, List.set_cons_succ, List.getElem_toArray, List.getElem_cons_succ, List.getElem_cons_zero]
  refine held_take 3 rfl (by kernel_rfl) (by kernel_rfl) (by kernel_rfl) (.bool true) (fun _ _ _ h => nomatch h.1) (by kernel_rfl) (fun w' h => by kernel_rfl) hS ?_
  simp only [Act.put, List.setIfInBounds_toArray, List.set_cons_zero, List.set_cons_succ, List.getElem_toArray, List.getElem_cons_succ, List.getElem_cons_zero]
  refine held_take 4 rfl (by kernel_rfl) (by kernel_rfl) (by kernel_rfl) (.bool true) (fun _ _ _ h => nomatch h.1) (by kernel_rfl) (fun w' h => by kernel_rfl) hS ?_
  simp only [Act.put, List.setIfInBounds_toArray, List.set_cons_zero, List.set_cons_succ, List.getElem_toArray, List.getElem_cons_succ, List.getElem_cons_zero]
  refine held_take 5 rfl (by kernel_rfl) (by kernel_rfl) (by kernel_rfl) (.bool true) (fun _ _ _ h => nomatch h.1) (by kernel_rfl) (fun w' h => by kernel_rfl) hS ?_
  simp only [Act.put, List.setIfInBounds_toArray, List.set_cons_zero, List.set_cons_succ, List.getElem_toArray, List.getElem_cons_succ, List.getElem_cons_zero]
  refine held_take 6 rfl (by kernel_rfl) (by kernel_rfl) (by kernel_rfl) (.bool true) (fun _ _ _ h => nomatch h.1) (by kernel_rfl) (fun w' h => by kernel_rfl) hS ?_
  simp only [Act.put, List.setIfInBounds_toArray, List.set_cons_zero, List.set_cons_succ, List.getElem_toArray, List.getElem_cons_succ, List.getElem_cons_zero]
  refine held_take 7 rfl (by kernel_rfl) (by kernel_rfl) (by kernel_rfl) (.bool true) (fun _ _ _ h => nomatch h.1) (by kernel_rfl) (fun w' h => by kernel_rfl) hS ?_
  simp only [Act.put, List.setIfInBounds_toArray, List.set_cons_zero, List.set_cons_succ, List.getElem_toArray, List.getElem_cons_succ, List.getElem_cons_zero]
  refine held_take 8 rfl (by kernel_rfl) (by kernel_rfl) (by kernel_rfl) (.bool true) (fun _ _ _ h => nomatch h.1) (by kernel_rfl) (fun w' h => by kernel_rfl) hS ?_
  simp only [Act.put, List.setIfInBounds_toArray, List.set_cons_zero, List.set_cons_succ, List.getElem_toArray, List.getElem_cons_succ, List.getElem_cons_zero]
  refine held_take 9 rfl (by kernel_rfl) (by kernel_rfl) (by kernel_rfl) (.string ⟨#[45, 49, 50]⟩) (fun _ _ _ h => nomatch h.1) (by kernel_rfl) (fun w' h => by kernel_rfl) hS ?_
  simp only [Act.put, List.setIfInBounds_toArray, List.set_cons_zero, List.set_cons_succ, List.getElem_toArray, List.getElem_cons_succ, List.getElem_cons_zero]
  refine held_take 10 rfl (by kernel_rfl) (by kernel_rfl) (by kernel_rfl) (.bool true) (fun _ _ _ h => nomatch h.1) (by kernel_rfl) (fun w' h => by kernel_rfl) hS ?_
  simp only [Act.put, List.setIfInBounds_toArray, List.set_cons_zero, List.set_cons_succ, List.getElem_toArray, List.getElem_cons_succ, List.getElem_cons_zero]
  refine held_take 11 rfl (by kernel_rfl) (by kernel_rfl) (by kernel_rfl) (.bool true) (fun _ _ _ h => nomatch h.1) (by kernel_rfl) (fun w' h => by kernel_rfl) hS ?_
  simp only [Act.put, List.setIfInBounds_toArray, List.set_cons_zero, List.set_cons_succ, List.getElem_toArray, List.getElem_cons_succ, List.getElem_cons_zero]
  refine held_take 12 rfl (by kernel_rfl) (by kernel_rfl) (by kernel_rfl) (.bool true) (fun _ _ _ h => nomatch h.1) (by kernel_rfl) (fun w' h => by kernel_rfl) hS ?_
  simp only [Act.put, List.setIfInBounds_toArray, List.set_cons_zero, List.set_cons_succ, List.getElem_toArray, List.getElem_cons_succ, List.getElem_cons_zero]
  refine held_take 13 rfl (by kernel_rfl) (by kernel_rfl) (by kernel_rfl) (.bool true) (fun _ _ _ h => nomatch h.1) (by kernel_rfl) (fun w' h => by kernel_rfl) hS ?_
  simp only [Act.put, List.setIfInBounds_toArray, List.set_cons_zero, List.set_cons_succ, List.getElem_toArray, List.getElem_cons_succ, List.getElem_cons_zero]
  refine held_take 14 rfl (by kernel_rfl) (by kernel_rfl) (by kernel_rfl) (.bool true) (fun _ _ _ h => nomatch h.1) (by kernel_rfl) (fun w' h => by kernel_rfl) hS ?_
  simp only [Act.put, List.setIfInBounds_toArray, List.set_cons_zero, List.set_cons_succ, List.getElem_toArray, List.getElem_cons_succ, List.getElem_cons_zero]
  refine held_take 15 rfl (by kernel_rfl) (by kernel_rfl) (by kernel_rfl) (.bool true) (fun _ _ _ h => nomatch h.1) (by kernel_rfl) (fun w' h => by kernel_rfl) hS ?_
  simp only [Act.put, List.setIfInBounds_toArray, List.set_cons_zero, List.set_cons_succ, List.getElem_toArray, List.getElem_cons_succ, List.getElem_cons_zero]
  refine held_take 16 rfl (by kernel_rfl) (by kernel_rfl) (by kernel_rfl) (.pointer (some ⟨bv, 0, none⟩)) (fun _ _ _ h => nomatch h.1) (by kernel_rfl) (fun w' h => by kernel_rfl) hS ?_
  simp only [Act.put, List.setIfInBounds_toArray, List.set_cons_zero, List.set_cons_succ, List.getElem_toArray, List.getElem_cons_succ, List.getElem_cons_zero]
  refine held_take 17 rfl (by kernel_rfl) (by kernel_rfl) (by kernel_rfl) (.string ⟨#[97, 110, 110]⟩) (fun _ _ _ h => nomatch h.1) (by kernel_rfl) (fun w' h => exec_load_cell 9 w' _ rfl ⟨bv, 0, none⟩ (by kernel_rfl) _ (by rw [cell_of_row _ _ _ _ _ _ (heap_kept hx7.out h)]; rfl) (fun _ => by kernel_rfl)) hS ?_
  simp only [Act.put, List.setIfInBounds_toArray, List.set_cons_zero, List.set_cons_succ, List.getElem_toArray, List.getElem_cons_succ, List.getElem_cons_zero]
  refine held_take 18 rfl (by kernel_rfl) (by kernel_rfl) (by kernel_rfl) (.bool true) (fun _ _ _ h => nomatch h.1) (by kernel_rfl) (fun w' h => by kernel_rfl) hS ?_
  simp only [Act.put, List.setIfInBounds_toArray, List.set_cons_zero, List.set_cons_succ, List.getElem_toArray, List.getElem_cons_succ, List.getElem_cons_zero]
  refine held_take 19 rfl (by kernel_rfl) (by kernel_rfl) (by kernel_rfl) (.bool true) (fun _ _ _ h => nomatch h.1) (by kernel_rfl) (fun w' h => by kernel_rfl) hS ?_
  simp only [Act.put, List.setIfInBounds_toArray, List.set_cons_zero, List.set_cons_succ, List.getElem_toArray, List.getElem_cons_succ, List.getElem_cons_zero]
  refine held_take 20 rfl (by kernel_rfl) (by kernel_rfl) (by kernel_rfl) (.bool true) (fun _ _ _ h => nomatch h.1) (by kernel_rfl) (fun w' h => by kernel_rfl) hS ?_
  simp only [Act.put, List.setIfInBounds_toArray, List.set_cons_zero, List.set_cons_succ, List.getElem_toArray, List.getElem_cons_succ, List.getElem_cons_zero]
  refine held_take 21 rfl (by kernel_rfl) (by kernel_rfl) (by kernel_rfl) (.agg #[.string ⟨#[]⟩, .int .i64 9]) (fun _ _ _ h => nomatch h.1) (by kernel_rfl) (fun w' h => by kernel_rfl) hS ?_
  simp only [Act.put, List.setIfInBounds_toArray, List.set_cons_zero, List.set_cons_succ, List.getElem_toArray, List.getElem_cons_succ, List.getElem_cons_zero]
  refine held_take 22 rfl (by kernel_rfl) (by kernel_rfl) (by kernel_rfl) (.agg #[.string ⟨#[97]⟩, .int .i64 0]) (fun _ _ _ h => nomatch h.1) (by kernel_rfl) (fun w' h => by kernel_rfl) hS ?_
  simp only [Act.put, List.setIfInBounds_toArray, List.set_cons_zero, List.set_cons_succ, List.getElem_toArray, List.getElem_cons_succ, List.getElem_cons_zero]
  refine held_call 23 rfl (by kernel_rfl) (by kernel_rfl) 23 #[.agg #[.string ⟨#[]⟩, .int .i64 9], .agg #[.string ⟨#[97]⟩, .int .i64 0]] (by kernel_rfl) (R := fun v w' => v = .int .i64 (-1) ∧ Below v2.heap.size v2 w') ((value_Compare.calls _ _ _ _ _ v2 ex_cmp).mono fun e w' h => ⟨_, h.1, rfl, h.2⟩) ?_
  rintro _ v3 ⟨rfl, hbn⟩
  have hS1 : Below w7.heap.size w7 v3 := hS.trans (hbn.mono hS.size)
  refine ⟨hS1, ?_⟩
  clear hS hbn
  have hS := hS1
  clear hS1
  simp only [Act.put, List.setIfInBounds_toArray, List.set_cons_zero, List.set_cons_succ, List.getElem_toArray, List.getElem_cons_succ, List.getElem_cons_zero]
  refine held_take 24 rfl (by kernel_rfl) (by kernel_rfl) (by kernel_rfl) (.bool true) (fun _ _ _ h => nomatch h.1) (by kernel_rfl) (fun w' h => by kernel_rfl) hS ?_
  simp only [Act.put, List.setIfInBounds_toArray, List.set_cons_zero, List.set_cons_succ, List.getElem_toArray, List.getElem_cons_succ, List.getElem_cons_zero]
  refine held_take 25 rfl (by kernel_rfl) (by kernel_rfl) (by kernel_rfl) (.bool true) (fun _ _ _ h => nomatch h.1) (by kernel_rfl) (fun w' h => by kernel_rfl) hS ?_
  simp only [Act.put, List.setIfInBounds_toArray, List.set_cons_zero, List.set_cons_succ, List.getElem_toArray, List.getElem_cons_succ, List.getElem_cons_zero]
  refine held_take 26 rfl (by kernel_rfl) (by kernel_rfl) (by kernel_rfl) (.bool true) (fun _ _ _ h => nomatch h.1) (by kernel_rfl) (fun w' h => by kernel_rfl) hS ?_
  simp only [Act.put, List.setIfInBounds_toArray, List.set_cons_zero, List.set_cons_succ, List.getElem_toArray, List.getElem_cons_succ, List.getElem_cons_zero]
  refine held_take 27 rfl (by kernel_rfl) (by kernel_rfl) (by kernel_rfl) (.slice (some ad) 2 cS) (fun _ _ _ h => nomatch h.1) (by kernel_rfl) (fun w' h => by kernel_rfl) hS ?_
  simp only [Act.put, List.setIfInBounds_toArray, List.set_cons_zero, List.set_cons_succ, List.getElem_toArray, List.getElem_cons_succ, List.getElem_cons_zero]
  refine held_take 28 rfl (by kernel_rfl) (by kernel_rfl) (by kernel_rfl) (.int .i64 2) (fun _ _ _ h => nomatch h.1) (by kernel_rfl) (fun w' h => by kernel_rfl) hS ?_
  simp only [Act.put, List.setIfInBounds_toArray, List.set_cons_zero, List.set_cons_succ, List.getElem_toArray, List.getElem_cons_succ, List.getElem_cons_zero]
  refine held_take 29 rfl (by kernel_rfl) (by kernel_rfl) (by kernel_rfl) (.bool true) (fun _ _ _ h => nomatch h.1) (by kernel_rfl) (fun w' h => by kernel_rfl) hS ?_
  simp only [Act.put, List.setIfInBounds_toArray, List.set_cons_zero, List.set_cons_succ, List.getElem_toArray, List.getElem_cons_succ, List.getElem_cons_zero]
  refine held_take 30 rfl (by kernel_rfl) (by kernel_rfl) (by kernel_rfl) (.bool true) (fun _ _ _ h => nomatch h.1) (by kernel_rfl) (fun w' h => by kernel_rfl) hS ?_
  simp only [Act.put, List.setIfInBounds_toArray, List.set_cons_zero, List.set_cons_succ, List.getElem_toArray, List.getElem_cons_succ, List.getElem_cons_zero]
  refine held_take 31 rfl (by kernel_rfl) (by kernel_rfl) (by kernel_rfl) (.bool true) (fun _ _ _ h => nomatch h.1) (by kernel_rfl) (fun w' h => by kernel_rfl) hS ?_
  simp only [Act.put, List.setIfInBounds_toArray, List.set_cons_zero, List.set_cons_succ, List.getElem_toArray, List.getElem_cons_succ, List.getElem_cons_zero]
  refine held_take 32 rfl (by kernel_rfl) (by kernel_rfl) (by kernel_rfl) (.slice (some ad) 2 cS) (fun _ _ _ h => nomatch h.1) (by kernel_rfl) (fun w' h => by kernel_rfl) hS ?_
  simp only [Act.put, List.setIfInBounds_toArray, List.set_cons_zero, List.set_cons_succ, List.getElem_toArray, List.getElem_cons_succ, List.getElem_cons_zero]
  refine held_take 33 rfl (by kernel_rfl) (by kernel_rfl) (by kernel_rfl) (.pointer (some ad)) (fun _ _ _ h => nomatch h.1) (by kernel_rfl) (fun w' h => by kernel_rfl) hS ?_
  simp only [Act.put, List.setIfInBounds_toArray, List.set_cons_zero, List.set_cons_succ, List.getElem_toArray, List.getElem_cons_succ, List.getElem_cons_zero]
  refine held_take 34 rfl (by kernel_rfl) (by kernel_rfl) (by kernel_rfl) (.agg #[.string ⟨#[112]⟩, .slice (some ae) 1 c0]) (fun _ _ _ h => nomatch h.1) (by kernel_rfl) (fun w' h => exec_load_two _ rfl ad (by kernel_rfl) _ _ ((h.cell (World.block_lt_of_cell? w7 _ x0H.out)).trans x0H.out) ((h.cell (World.block_lt_of_cell? w7 _ x1H.out)).trans x1H.out)) hS ?_
  simp only [Act.put, List.setIfInBounds_toArray, List.set_cons_zero, List.set_cons_succ, List.getElem_toArray, List.getElem_cons_succ, List.getElem_cons_zero]
  refine held_take 35 rfl (by kernel_rfl) (by kernel_rfl) (by kernel_rfl) (.slice (some ad) 2 cS) (fun _ _ _ h => nomatch h.1) (by kernel_rfl) (fun w' h => by kernel_rfl) hS ?_
  simp only [Act.put, List.setIfInBounds_toArray, List.set_cons_zero, List.set_cons_succ, List.getElem_toArray, List.getElem_cons_succ, List.getElem_cons_zero]
  refine held_take 36 rfl (by kernel_rfl) (by kernel_rfl) (by kernel_rfl) (.pointer (some (ad.add 2))) (fun _ _ _ h => nomatch h.1) (by kernel_rfl) (fun w' h => by kernel_rfl) hS ?_
  simp only [Act.put, List.setIfInBounds_toArray, List.set_cons_zero, List.set_cons_succ, List.getElem_toArray, List.getElem_cons_succ, List.getElem_cons_zero]
  refine held_take 37 rfl (by kernel_rfl) (by kernel_rfl) (by kernel_rfl) (.agg #[.string ⟨#[112]⟩, .slice A1 1 c1]) (fun _ _ _ h => nomatch h.1) (by kernel_rfl) (fun w' h => exec_load_two _ rfl (ad.add 2) (by kernel_rfl) _ _ ((h.cell (World.block_lt_of_cell? w7 _ x2H.out)).trans x2H.out) ((h.cell (World.block_lt_of_cell? w7 _ x3H.out)).trans x3H.out)) hS ?_
  simp only [Act.put, List.setIfInBounds_toArray, List.set_cons_zero, List.set_cons_succ, List.getElem_toArray, List.getElem_cons_succ, List.getElem_cons_zero]
  refine held_call 38 rfl (by kernel_rfl) (by kernel_rfl) 25 #[.agg #[.string ⟨#[112]⟩, .slice (some ae) 1 c0], .agg #[.string ⟨#[112]⟩, .slice A1 1 c1]] (by kernel_rfl) (R := fun v w' => v = .int .i64 (-1) ∧ Below v3.heap.size v3 w') ((value_Order.calls 3 _ (some ae) c0 [⟨⟨#[97]⟩, 0⟩] _ A1 c1 [⟨⟨#[98]⟩, 0⟩] (-1) v3 (Kd.C_below hA0H.out hS) lc0H.out (Kd.C_below hA1H.out hS) lc1H.out (by rw [order_one, ex_c1])).mono fun e w' h => ⟨_, h.1, rfl, h.2⟩) ?_
  rintro _ v4 ⟨rfl, hbn⟩
  have hS1 : Below w7.heap.size w7 v4 := hS.trans (hbn.mono hS.size)
  refine ⟨hS1, ?_⟩
  clear hS hbn
  have hS := hS1
  clear hS1
  simp only [Act.put, List.setIfInBounds_toArray, List.set_cons_zero, List.set_cons_succ, List.getElem_toArray, List.getElem_cons_succ, List.getElem_cons_zero]
  refine held_take 39 rfl (by kernel_rfl) (by kernel_rfl) (by kernel_rfl) (.bool true) (fun _ _ _ h => nomatch h.1) (by kernel_rfl) (fun w' h => by kernel_rfl) hS ?_
  simp only [Act.put, List.setIfInBounds_toArray, List.set_cons_zero, List.set_cons_succ, List.getElem_toArray, List.getElem_cons_succ, List.getElem_cons_zero]
  refine held_take 40 rfl (by kernel_rfl) (by kernel_rfl) (by kernel_rfl) (.bool true) (fun _ _ _ h => nomatch h.1) (by kernel_rfl) (fun w' h => by kernel_rfl) hS ?_
  simp only [Act.put, List.setIfInBounds_toArray, List.set_cons_zero, List.set_cons_succ, List.getElem_toArray, List.getElem_cons_succ, List.getElem_cons_zero]
  refine held_take 41 rfl (by kernel_rfl) (by kernel_rfl) (by kernel_rfl) (.bool true) (fun _ _ _ h => nomatch h.1) (by kernel_rfl) (fun w' h => by kernel_rfl) hS ?_
  simp only [Act.put, List.setIfInBounds_toArray, List.set_cons_zero, List.set_cons_succ, List.getElem_toArray, List.getElem_cons_succ, List.getElem_cons_zero]
  refine held_take 42 rfl (by kernel_rfl) (by kernel_rfl) (by kernel_rfl) (.agg #[.string ⟨#[97, 110, 110]⟩, .int .i64 0]) (fun _ _ _ h => nomatch h.1) (by kernel_rfl) (fun w' h => exec_load_row 25 w' _ rfl bv (by kernel_rfl) 25 _ (0, 0) _ (heap_kept hx7.out h) Try.underlying25 rfl (by kernel_rfl)) hS ?_
  simp only [Act.put, List.setIfInBounds_toArray, List.set_cons_zero, List.set_cons_succ, List.getElem_toArray, List.getElem_cons_succ, List.getElem_cons_zero]
  refine held_call 43 rfl (by kernel_rfl) (by kernel_rfl) 15 #[.agg #[.string ⟨#[97, 110, 110]⟩, .int .i64 0]] (by kernel_rfl) (R := fun v w' => v = .bool true ∧ Below v4.heap.size v4 w') ((value_Good.calls 120 _ _ _ v4 ex_good).mono fun e w' h => ⟨_, h.1, rfl, h.2⟩) ?_
  rintro _ v5 ⟨rfl, hbn⟩
  have hS1 : Below w7.heap.size w7 v5 := hS.trans (hbn.mono hS.size)
  refine ⟨hS1, ?_⟩
  clear hS hbn
  have hS := hS1
  clear hS1
  simp only [Act.put, List.setIfInBounds_toArray, List.set_cons_zero, List.set_cons_succ, List.getElem_toArray, List.getElem_cons_succ, List.getElem_cons_zero]
  refine held_take 44 rfl (by kernel_rfl) (by kernel_rfl) (by kernel_rfl) (.bool true) (fun _ _ _ h => nomatch h.1) (by kernel_rfl) (fun w' h => by kernel_rfl) hS ?_
  simp only [Act.put, List.setIfInBounds_toArray, List.set_cons_zero, List.set_cons_succ, List.getElem_toArray, List.getElem_cons_succ, List.getElem_cons_zero]
  refine held_take 45 rfl (by kernel_rfl) (by kernel_rfl) (by kernel_rfl) (.bool true) (fun _ _ _ h => nomatch h.1) (by kernel_rfl) (fun w' h => by kernel_rfl) hS ?_
  simp only [Act.put, List.setIfInBounds_toArray, List.set_cons_zero, List.set_cons_succ, List.getElem_toArray, List.getElem_cons_succ, List.getElem_cons_zero]
  refine held_take 46 rfl (by kernel_rfl) (by kernel_rfl) (by kernel_rfl) (.slice (some ad) 2 cS) (fun _ _ _ h => nomatch h.1) (by kernel_rfl) (fun w' h => by kernel_rfl) hS ?_
  simp only [Act.put, List.setIfInBounds_toArray, List.set_cons_zero, List.set_cons_succ, List.getElem_toArray, List.getElem_cons_succ, List.getElem_cons_zero]
  refine held_take 47 rfl (by kernel_rfl) (by kernel_rfl) (by kernel_rfl) (.pointer (some ad)) (fun _ _ _ h => nomatch h.1) (by kernel_rfl) (fun w' h => by kernel_rfl) hS ?_
  simp only [Act.put, List.setIfInBounds_toArray, List.set_cons_zero, List.set_cons_succ, List.getElem_toArray, List.getElem_cons_succ, List.getElem_cons_zero]
  refine held_take 48 rfl (by kernel_rfl) (by kernel_rfl) (by kernel_rfl) (.agg #[.string ⟨#[112]⟩, .slice (some ae) 1 c0]) (fun _ _ _ h => nomatch h.1) (by kernel_rfl) (fun w' h => exec_load_two _ rfl ad (by kernel_rfl) _ _ ((h.cell (World.block_lt_of_cell? w7 _ x0H.out)).trans x0H.out) ((h.cell (World.block_lt_of_cell? w7 _ x1H.out)).trans x1H.out)) hS ?_
  simp only [Act.put, List.setIfInBounds_toArray, List.set_cons_zero, List.set_cons_succ, List.getElem_toArray, List.getElem_cons_succ, List.getElem_cons_zero]
  refine held_call 49 rfl (by kernel_rfl) (by kernel_rfl) 17 #[.agg #[.string ⟨#[112]⟩, .slice (some ae) 1 c0]] (by kernel_rfl) (R := fun v w' => v = .bool true ∧ Below v5.heap.size v5 w') ((value_Right.calls 120 _ (some ae) c0 [⟨⟨#[97]⟩, 0⟩] _ v5 (Kd.C_below hA0H.out hS) lc0H.out ex_right).mono fun e w' h => ⟨_, h.1, rfl, h.2⟩) ?_
  rintro _ v6 ⟨rfl, hbn⟩
  have hS1 : Below w7.heap.size w7 v6 := hS.trans (hbn.mono hS.size)
  refine ⟨hS1, ?_⟩
  clear hS hbn
  have hS := hS1
  clear hS1
  simp only [Act.put, List.setIfInBounds_toArray, List.set_cons_zero, List.set_cons_succ, List.getElem_toArray, List.getElem_cons_succ, List.getElem_cons_zero]
  refine held_take 50 rfl (by kernel_rfl) (by kernel_rfl) (by kernel_rfl) (.bool true) (fun _ _ _ h => nomatch h.1) (by kernel_rfl) (fun w' h => by kernel_rfl) hS ?_
  simp only [Act.put, List.setIfInBounds_toArray, List.set_cons_zero, List.set_cons_succ, List.getElem_toArray, List.getElem_cons_succ, List.getElem_cons_zero]
  refine held_take 51 rfl (by kernel_rfl) (by kernel_rfl) (by kernel_rfl) (.bool true) (fun _ _ _ h => nomatch h.1) (by kernel_rfl) (fun w' h => by kernel_rfl) hS ?_
  simp only [Act.put, List.setIfInBounds_toArray, List.set_cons_zero, List.set_cons_succ, List.getElem_toArray, List.getElem_cons_succ, List.getElem_cons_zero]
  refine held_take 52 rfl (by kernel_rfl) (by kernel_rfl) (by kernel_rfl) (.slice (some ad) 2 cS) (fun _ _ _ h => nomatch h.1) (by kernel_rfl) (fun w' h => by kernel_rfl) hS ?_
  simp only [Act.put, List.setIfInBounds_toArray, List.set_cons_zero, List.set_cons_succ, List.getElem_toArray, List.getElem_cons_succ, List.getElem_cons_zero]
  refine held_take 53 rfl (by kernel_rfl) (by kernel_rfl) (by kernel_rfl) (.pointer (some ad)) (fun _ _ _ h => nomatch h.1) (by kernel_rfl) (fun w' h => by kernel_rfl) hS ?_
  simp only [Act.put, List.setIfInBounds_toArray, List.set_cons_zero, List.set_cons_succ, List.getElem_toArray, List.getElem_cons_succ, List.getElem_cons_zero]
  refine held_take 54 rfl (by kernel_rfl) (by kernel_rfl) (by kernel_rfl) (.pointer (some ⟨ad.block, ad.off + 1, none⟩)) (fun _ _ _ h => nomatch h.1) (by kernel_rfl) (fun w' h => by kernel_rfl) hS ?_
  simp only [Act.put, List.setIfInBounds_toArray, List.set_cons_zero, List.set_cons_succ, List.getElem_toArray, List.getElem_cons_succ, List.getElem_cons_zero]
  refine held_take 55 rfl (by kernel_rfl) (by kernel_rfl) (by kernel_rfl) (.slice (some ae) 1 c0) (fun _ _ _ h => nomatch h.1) (by kernel_rfl) (fun w' h => exec_load_cell 26 w' _ rfl ⟨ad.block, ad.off + 1, none⟩ (by kernel_rfl) _ ((h.cell (World.block_lt_of_cell? w7 _ x1H.out)).trans x1H.out) (fun _ => by kernel_rfl)) hS ?_
  simp only [Act.put, List.setIfInBounds_toArray, List.set_cons_zero, List.set_cons_succ, List.getElem_toArray, List.getElem_cons_succ, List.getElem_cons_zero]
  refine held_take 56 rfl (by kernel_rfl) (by kernel_rfl) (by kernel_rfl) (.pointer (some ae)) (fun _ _ _ h => nomatch h.1) (by kernel_rfl) (fun w' h => by kernel_rfl) hS ?_
  simp only [Act.put, List.setIfInBounds_toArray, List.set_cons_zero, List.set_cons_succ, List.getElem_toArray, List.getElem_cons_succ, List.getElem_cons_zero]
  refine held_take 57 rfl (by kernel_rfl) (by kernel_rfl) (by kernel_rfl) (.pointer (some ae)) (fun _ _ _ h => nomatch h.1) (by kernel_rfl) (fun w' h => by kernel_rfl) hS ?_
  simp only [Act.put, List.setIfInBounds_toArray, List.set_cons_zero, List.set_cons_succ, List.getElem_toArray, List.getElem_cons_succ, List.getElem_cons_zero]
  refine held_take 58 rfl (by kernel_rfl) (by kernel_rfl) (by kernel_rfl) (.string ⟨#[97]⟩) (fun _ _ _ h => nomatch h.1) (by kernel_rfl) (fun w' h => exec_load_cell 9 w' _ rfl ae (by kernel_rfl) _ ((h.cell (World.block_lt_of_cell? w7 _ y0H.out)).trans y0H.out) (fun _ => by kernel_rfl)) hS ?_
  simp only [Act.put, List.setIfInBounds_toArray, List.set_cons_zero, List.set_cons_succ, List.getElem_toArray, List.getElem_cons_succ, List.getElem_cons_zero]
  refine held_take 59 rfl (by kernel_rfl) (by kernel_rfl) (by kernel_rfl) (.bool true) (fun _ _ _ h => nomatch h.1) (by kernel_rfl) (fun w' h => by kernel_rfl) hS ?_
  simp only [Act.put, List.setIfInBounds_toArray, List.set_cons_zero, List.set_cons_succ, List.getElem_toArray, List.getElem_cons_succ, List.getElem_cons_zero]
  refine held_take 60 rfl (by kernel_rfl) (by kernel_rfl) (by kernel_rfl) (.bool true) (fun _ _ _ h => nomatch h.1) (by kernel_rfl) (fun w' h => by kernel_rfl) hS ?_
  simp only [Act.put, List.setIfInBounds_toArray, List.set_cons_zero, List.set_cons_succ, List.getElem_toArray, List.getElem_cons_succ, List.getElem_cons_zero]
  refine held_take 61 rfl (by kernel_rfl) (by kernel_rfl) (by kernel_rfl) (.bool true) (fun _ _ _ h => nomatch h.1) (by kernel_rfl) (fun w' h => by kernel_rfl) hS ?_
  simp only [Act.put, List.setIfInBounds_toArray, List.set_cons_zero, List.set_cons_succ, List.getElem_toArray, List.getElem_cons_succ, List.getElem_cons_zero]
  refine wpAnyH_done (by kernel_rfl) ?_ _
  refine ⟨rfl, ?_⟩
  refine hK0 _ _ ?_
  have hBf : Hid (Below w.heap.size w v6) := hBw7.out.trans (hS.mono hBw7.out.size)
  clear hS hK0
  go_wp2_with fail
  go_ret
  exact ⟨rfl, hBf.out⟩

end Go.Proofs.Ytmgocpggoajfeaa.PA
