/- Go functions told as plain functions, and that the program's calls come to just these, for all arguments. Written by the session's own program wip/tools/myprint.py (it drives the kit's printer). -/
import Derived.Test.YtmgocpggoajfeaaPAx0
import Derived.Test.YtmgocpggoajfeaaPAx2
import Derived.Test.YtmgocpggoajfeaaPAx4
namespace Go.Proofs.Ytmgocpggoajfeaa.PA
open Go.RowKit Go.Proofs.YtmgocpggoajfeaaW.PrintWords Go.Proofs.YtmgocpggoajfeaaW.PrintLast Go.Proofs.YtmgocpggoajfeaaW.PrintMore
attribute [local go_sem] max2_int min2_int max_two min_two max_three min_three max_four min_four   -- for this text's walks alone
set_option linter.unusedVariables false
set_option linter.unusedSimpArgs false

/-! ### value_Read: function 21 -/
mutual
def value_Read.j0 : Nat → ByteArray → Bool → Bool → Option (ByteArray × Int × Bool)
  | 0, _, _, _ => none
  | k + 1, x4, x5, x36 => if x36 = true then (some ((⟨#[]⟩ : ByteArray), 0, false)) else (value_Read.l0 k x4 x5 0 (x4.size : Int) 0)
def value_Read.l0 : Nat → ByteArray → Bool → Int → Int → Int → Option (ByteArray × Int × Bool)
  | 0, _, _, _, _, _ => none
  | k + 1, x4, x5, x6, x39, x40 => if x40 < x39 then (if 0 ≤ x40 then (if x40 < (x4.size : Int) then (if (bt x4 x40) < 48 then (some ((⟨#[]⟩ : ByteArray), 0, false)) else (if (bt x4 x40) > 57 then (some ((⟨#[]⟩ : ByteArray), 0, false)) else (value_Read.l0 k x4 x5 (IntKind.u64.wrap ((IntKind.u64.wrap (10 * x6)) + (((bt x4 x40) - 48) % 256))) x39 (wrap64 (x40 + 1))))) else (none)) else (none)) else (if x5 = true then (value_Read.j2 k x5 x6 (decide (x6 ≤ 9223372036854775808))) else (value_Read.j2 k x5 x6 false))
def value_Read.j2 : Nat → Bool → Int → Bool → Option (ByteArray × Int × Bool)
  | 0, _, _, _ => none
  | k + 1, x5, x6, x63 => if x63 = true then (some ((⟨#[]⟩ : ByteArray), wrap64 (IntKind.u64.wrap (-x6)), true)) else (if x5 = true then (some ((⟨#[]⟩ : ByteArray), 0, false)) else (if x6 < 9223372036854775808 then (some ((⟨#[]⟩ : ByteArray), wrap64 (x6), true)) else (some ((⟨#[]⟩ : ByteArray), 0, false))))
end
def value_Read.f (k : Nat) (a0 : ByteArray) : Option (ByteArray × Int × Bool) := (value_Name.f k a0).bind fun t121 => (if t121 = true then (some (a0, 0, true)) else ((strings_CutPrefix.f a0 (⟨#[45]⟩ : ByteArray)).bind fun bt122 => (if bt122.1.toList = ([] : List UInt8) then (value_Read.j0 k bt122.1 bt122.2 true) else (if (bt122.1.size : Int) > 19 then (value_Read.j0 k bt122.1 bt122.2 true) else (if 0 < (bt122.1.size : Int) then (if (bt bt122.1 0) = 48 then (if bt122.2 = true then (value_Read.j0 k bt122.1 bt122.2 true) else (value_Read.j0 k bt122.1 bt122.2 (decide ((bt122.1.size : Int) > 1)))) else (value_Read.j0 k bt122.1 bt122.2 false)) else (none))))))
theorem value_Read.mono_l : ∀ k, (∀ y0 y1 y2, LeO (value_Read.j0 k y0 y1 y2) (value_Read.j0 (k + 1) y0 y1 y2)) ∧ (∀ y0 y1 y2 y3 y4, LeO (value_Read.l0 k y0 y1 y2 y3 y4) (value_Read.l0 (k + 1) y0 y1 y2 y3 y4)) ∧ (∀ y0 y1 y2, LeO (value_Read.j2 k y0 y1 y2) (value_Read.j2 (k + 1) y0 y1 y2))
  | 0 => ⟨fun _ _ _ r h => by simp [value_Read.j0] at h, fun _ _ _ _ _ r h => by simp [value_Read.l0] at h, fun _ _ _ r h => by simp [value_Read.j2] at h⟩
  | k + 1 => by
    obtain ⟨ih0, ih1, ih2⟩ := value_Read.mono_l k
    refine ⟨?_, ?_, ?_⟩
    · intro y0 y1 y2
      unfold value_Read.j0
      repeat' first
      | (with_reducible exact ih0 _ _ _)
      | (with_reducible exact ih1 _ _ _ _ _)
      | (with_reducible exact ih2 _ _ _)
      | (with_reducible exact value_Name.mono _ _)
      | (with_reducible exact LeO.refl _)
      | (with_reducible exact LeO.none _)
      | (with_reducible refine LeO.ite ?_ ?_)
      | (with_reducible refine LeO.bind ?_ (fun _ => ?_))
      | exact ih0 _ _ _
      | exact ih1 _ _ _ _ _
      | exact ih2 _ _ _
      | exact value_Name.mono _ _
      | exact LeO.none _
      | refine LeO.ite ?_ ?_
      | refine LeO.bind ?_ (fun _ => ?_)
    · intro y0 y1 y2 y3 y4
      unfold value_Read.l0
      repeat' first
      | (with_reducible exact ih0 _ _ _)
      | (with_reducible exact ih1 _ _ _ _ _)
      | (with_reducible exact ih2 _ _ _)
      | (with_reducible exact value_Name.mono _ _)
      | (with_reducible exact LeO.refl _)
      | (with_reducible exact LeO.none _)
      | (with_reducible refine LeO.ite ?_ ?_)
      | (with_reducible refine LeO.bind ?_ (fun _ => ?_))
      | exact ih0 _ _ _
      | exact ih1 _ _ _ _ _
      | exact ih2 _ _ _
      | exact value_Name.mono _ _
      | exact LeO.none _
      | refine LeO.ite ?_ ?_
      | refine LeO.bind ?_ (fun _ => ?_)
    · intro y0 y1 y2
      unfold value_Read.j2
      repeat' first
      | (with_reducible exact ih0 _ _ _)
      | (with_reducible exact ih1 _ _ _ _ _)
      | (with_reducible exact ih2 _ _ _)
      | (with_reducible exact value_Name.mono _ _)
      | (with_reducible exact LeO.refl _)
      | (with_reducible exact LeO.none _)
      | (with_reducible refine LeO.ite ?_ ?_)
      | (with_reducible refine LeO.bind ?_ (fun _ => ?_))
      | exact ih0 _ _ _
      | exact ih1 _ _ _ _ _
      | exact ih2 _ _ _
      | exact value_Name.mono _ _
      | exact LeO.none _
      | refine LeO.ite ?_ ?_
      | refine LeO.bind ?_ (fun _ => ?_)
theorem value_Read.mono : ∀ a0 k, LeO (value_Read.f k a0) (value_Read.f (k + 1) a0) := by
  intro a0 k
  obtain ⟨ih0, ih1, ih2⟩ := value_Read.mono_l k
  unfold value_Read.f
  repeat' first
      | (with_reducible exact ih0 _ _ _)
      | (with_reducible exact ih1 _ _ _ _ _)
      | (with_reducible exact ih2 _ _ _)
      | (with_reducible exact value_Name.mono _ _)
      | (with_reducible exact LeO.refl _)
      | (with_reducible exact LeO.none _)
      | (with_reducible refine LeO.ite ?_ ?_)
      | (with_reducible refine LeO.bind ?_ (fun _ => ?_))
      | exact ih0 _ _ _
      | exact ih1 _ _ _ _ _
      | exact ih2 _ _ _
      | exact value_Name.mono _ _
      | exact LeO.none _
      | refine LeO.ite ?_ ?_
      | refine LeO.bind ?_ (fun _ => ?_)
set_option maxHeartbeats 8000000 in
set_option maxRecDepth 100000 in
theorem value_Read.calls (k : Nat) (a0 : ByteArray) (r1 : ByteArray) (r2 : Int) (r3 : Bool) (w : World) (h : value_Read.f k a0 = some (r1, r2, r3)) :
    Calls Try.prog 21 #[.string a0] w fun e w' => e = .returned (.tuple #[.agg #[.string r1, .int .i64 r2], .bool r3]) ∧ Below w.heap.size w w' := by
  have hu25 := Try.underlying25
  have HB := Aside0.mk (Below.refl w.heap.size w)
  have H : ((value_Name.f k a0).bind fun t121 => (if t121 = true then (some (a0, 0, true)) else ((strings_CutPrefix.f a0 (⟨#[45]⟩ : ByteArray)).bind fun bt122 => (if bt122.1.toList = ([] : List UInt8) then (value_Read.j0 k bt122.1 bt122.2 true) else (if (bt122.1.size : Int) > 19 then (value_Read.j0 k bt122.1 bt122.2 true) else (if 0 < (bt122.1.size : Int) then (if (bt bt122.1 0) = 48 then (if bt122.2 = true then (value_Read.j0 k bt122.1 bt122.2 true) else (value_Read.j0 k bt122.1 bt122.2 (decide ((bt122.1.size : Int) > 1)))) else (value_Read.j0 k bt122.1 bt122.2 false)) else (none))))))) = some (r1, r2, r3) := h
  clear h
  replace H := Option.bind_eq_some_iff.mp H
  obtain ⟨t121, A20, H⟩ := H
  replace H : (if t121 = true then (some (a0, 0, true)) else ((strings_CutPrefix.f a0 (⟨#[45]⟩ : ByteArray)).bind fun bt122 => (if bt122.1.toList = ([] : List UInt8) then (value_Read.j0 k bt122.1 bt122.2 true) else (if (bt122.1.size : Int) > 19 then (value_Read.j0 k bt122.1 bt122.2 true) else (if 0 < (bt122.1.size : Int) then (if (bt bt122.1 0) = 48 then (if bt122.2 = true then (value_Read.j0 k bt122.1 bt122.2 true) else (value_Read.j0 k bt122.1 bt122.2 (decide ((bt122.1.size : Int) > 1)))) else (value_Read.j0 k bt122.1 bt122.2 false)) else (none)))))) = some (r1, r2, r3) := H
  have A2 := Aside0.mk A20
  clear A20
  by_cases c3 : t121 = true
  · subst c3
    have H1 : (some (a0, 0, true)) = some (r1, r2, r3) := by rw [if_pos rfl] at H; exact H
    clear H
    have H := H1
    clear H1
    simp only [Option.some.injEq, Prod.mk.injEq] at H
    obtain ⟨rfl, rfl, rfl⟩ := H
    go_enter Try.func21, Try.ntmps21
    go_wp2_with (first | ((with_reducible refine gate_dst (N := 2) rfl ?_); (try (refine gate_guard (by rfl) ?_; dsimp only)); refine box_event ?hg (N := 2) ?hd (cs := #[.string (⟨#[]⟩ : ByteArray), .int .i64 0]) (t := 25) ?hr ?_; (case hd => rfl); (case hg => rfl); (case hr => first | (go_simp; done) | (go_simp; rfl)); intro gb120 hg w4 hbox hb; have n0_ := Aside0.mk (below_step (by repeat (first | (with_reducible first | exact HB.out | apply below_alloc | apply pw_below_drewN | apply below_drew1) | exact HB.out)) hb); have n1_ := Aside0.mk (hbox); have n2_ := Aside0.mk ((by rw [hg]; exact (below_size (by repeat (first | (with_reducible first | exact HB.out | apply below_alloc | apply pw_below_drewN | apply below_drew1) | exact HB.out))) : w.heap.size ≤ gb120)); have n3_ := Aside0.mk ((by rw [hg]; exact (below_size (by repeat (first | (with_reducible first | exact HB.out | apply below_alloc | apply pw_below_drewN | apply below_drew1) | exact HB.out))) : w.heap.size ≤ gb120)); clear HB; have HB := n0_; have BK120 := n1_; have GW120 := n2_; have GE120 := n3_; clear n0_ n1_ n2_ n3_; clear hb hbox hg) | ((with_reducible refine gate_callee (f := 13) rfl ?_); refine goesL_ (some 9) rfl rfl Try.func13 (by kernel_rfl) rfl #[.string a0] rfl (by (try simp only [List.map_toArray, List.map_cons, List.map_nil]); first | done | rfl | (simp only [List.length_drop, List.length_take]; rfl)) ?_; (with_reducible refine (value_Name.calls k a0 true _ A2.out).mono ?_); rintro e w' ⟨rfl, ⟨nd, rfl⟩⟩; refine ⟨_, rfl, ?_⟩; (try (rw [drewN_self w4]; generalize hq_ : World.drewN w4 _ = w4; have n0_ : Aside0 (w4.heap[gb120]? = some (.cells #[.string (⟨#[]⟩ : ByteArray), .int .i64 0] 25 (0, 0))) := ⟨by rw [← hq_]; exact (by (with_reducible repeat (first | refine blk_drewN ?_ _ | refine blk_drew ?_ | refine blk_alloc ?_ _)); exact BK120.out)⟩; have n1_ : Aside0 (Below w.heap.size w w4) := ⟨by rw [← hq_]; exact (by repeat (first | (with_reducible first | exact HB.out | apply below_alloc | apply pw_below_drewN | apply below_drew1 | refine below_set ?_ GE120.out) | exact HB.out))⟩; clear BK120 HB hq_; have BK120 := n0_; have HB := n1_; clear n0_ n1_)); have hcz5_0 : w4.cell? ⟨gb120, 0, none⟩ = some (.string (⟨#[]⟩ : ByteArray)) := (blk_cell BK120.out 0).trans rfl; have hcz5_1 : w4.cell? ⟨gb120, 1, none⟩ = some (.int .i64 0) := (blk_cell BK120.out 1).trans rfl; have hfz5_0 := blk_frozen BK120.out 0; have hfz5_1 := blk_frozen BK120.out 1))
    refine bodyPost_ret (results_ct rfl _ _ gb120 25 #[.string a0, .int .i64 0] (0, 0) _ rfl (by (with_reducible repeat (first | refine blk_drewN ?_ _ | refine blk_drew ?_ | refine blk_alloc ?_ _)); refine blk_put (cs := #[.string a0, .int .i64 0]) ?_ 1 _ rfl; (with_reducible repeat (first | refine blk_drewN ?_ _ | refine blk_drew ?_ | refine blk_alloc ?_ _)); refine blk_put (cs := #[.string (⟨#[]⟩ : ByteArray), .int .i64 0]) ?_ 0 _ rfl; (with_reducible repeat (first | refine blk_drewN ?_ _ | refine blk_drew ?_ | refine blk_alloc ?_ _)); exact BK120.out) Try.underlying25 rfl (by kernel_rfl)) rfl ?_
    exact ⟨by first | rfl | (simp [errW_none, errW_some] <;> rfl) | (simp [*, errW_none, errW_some] <;> rfl), by repeat (first | (with_reducible first | exact HB.out | apply below_alloc | apply pw_below_drewN | apply below_drew1 | refine below_set ?_ GE120.out) | exact HB.out)⟩
  · replace c3 := Bool.eq_false_iff.mpr c3
    subst c3
    have H1 : ((strings_CutPrefix.f a0 (⟨#[45]⟩ : ByteArray)).bind fun bt122 => (if bt122.1.toList = ([] : List UInt8) then (value_Read.j0 k bt122.1 bt122.2 true) else (if (bt122.1.size : Int) > 19 then (value_Read.j0 k bt122.1 bt122.2 true) else (if 0 < (bt122.1.size : Int) then (if (bt bt122.1 0) = 48 then (if bt122.2 = true then (value_Read.j0 k bt122.1 bt122.2 true) else (value_Read.j0 k bt122.1 bt122.2 (decide ((bt122.1.size : Int) > 1)))) else (value_Read.j0 k bt122.1 bt122.2 false)) else (none))))) = some (r1, r2, r3) := by rw [if_neg (show ¬ (false = true) by decide)] at H; exact H
    clear H
    have H := H1
    clear H1
    replace H := Option.bind_eq_some_iff.mp H
    obtain ⟨⟨t122, t123⟩, A60, H⟩ := H
    replace H : (if t122.toList = ([] : List UInt8) then (value_Read.j0 k t122 t123 true) else (if (t122.size : Int) > 19 then (value_Read.j0 k t122 t123 true) else (if 0 < (t122.size : Int) then (if (bt t122 0) = 48 then (if t123 = true then (value_Read.j0 k t122 t123 true) else (value_Read.j0 k t122 t123 (decide ((t122.size : Int) > 1)))) else (value_Read.j0 k t122 t123 false)) else (none)))) = some (r1, r2, r3) := H
    have A6 := Aside0.mk A60
    clear A60
    have HC7 := Aside0.mk H
    clear H
    go_enter Try.func21, Try.ntmps21
    go_upto_region 4 with (first | ((with_reducible refine gate_dst (N := 2) rfl ?_); (try (refine gate_guard (by rfl) ?_; dsimp only)); refine box_event ?hg (N := 2) ?hd (cs := #[.string (⟨#[]⟩ : ByteArray), .int .i64 0]) (t := 25) ?hr ?_; (case hd => rfl); (case hg => rfl); (case hr => first | (go_simp; done) | (go_simp; rfl)); intro gb120 hg w8 hbox hb; have n0_ := Aside0.mk (below_step (by repeat (first | (with_reducible first | exact HB.out | apply below_alloc | apply pw_below_drewN | apply below_drew1) | exact HB.out)) hb); have n1_ := Aside0.mk (hbox); have n2_ := Aside0.mk ((by rw [hg]; exact (below_size (by repeat (first | (with_reducible first | exact HB.out | apply below_alloc | apply pw_below_drewN | apply below_drew1) | exact HB.out))) : w.heap.size ≤ gb120)); have n3_ := Aside0.mk ((by rw [hg]; exact (below_size (by repeat (first | (with_reducible first | exact HB.out | apply below_alloc | apply pw_below_drewN | apply below_drew1) | exact HB.out))) : w.heap.size ≤ gb120)); clear HB; have HB := n0_; have BK120 := n1_; have GW120 := n2_; have GE120 := n3_; clear n0_ n1_ n2_ n3_; clear hb hbox hg) | ((with_reducible refine gate_callee (f := 13) rfl ?_); refine goesL_ (some 9) rfl rfl Try.func13 (by kernel_rfl) rfl #[.string a0] rfl (by (try simp only [List.map_toArray, List.map_cons, List.map_nil]); first | done | rfl | (simp only [List.length_drop, List.length_take]; rfl)) ?_; (with_reducible refine (value_Name.calls k a0 false _ A2.out).mono ?_); rintro e w' ⟨rfl, ⟨nd, rfl⟩⟩; refine ⟨_, rfl, ?_⟩) | ((with_reducible refine gate_callee (f := 34) rfl ?_); refine goesL_ (some 14) rfl rfl Try.func34 (by kernel_rfl) rfl #[.string a0, .string (⟨#[45]⟩ : ByteArray)] rfl (by (try simp only [List.map_toArray, List.map_cons, List.map_nil]); first | done | rfl | (simp only [List.length_drop, List.length_take]; rfl)) ?_; (with_reducible refine (strings_CutPrefix.calls a0 (⟨#[45]⟩ : ByteArray) t122 t123 _ A6.out).mono ?_); rintro e w' ⟨rfl, ⟨nd, rfl⟩⟩; refine ⟨_, rfl, ?_⟩))
    (try simp only [Act.put, List.setIfInBounds_toArray, List.set_cons_zero, List.set_cons_succ])
    go_cut [36] (fun v36 wc => ∃ (kq : Nat) (x36_6 : Bool), v36 = .bool x36_6 ∧ Aside0 (value_Read.j0 kq t122 t123 x36_6 = some (r1, r2, r3)) ∧ Aside0 (kq ≤ k) ∧ Aside0 (wc.heap[gb120]? = some (.cells #[.string (⟨#[]⟩ : ByteArray), .int .i64 0] 25 (0, 0))) ∧ Aside0 (Below w.heap.size w wc))
    case first =>
      have H := HC7.out
      clear HC7
      by_cases c9 : t122.toList = ([] : List UInt8)
      · rw [if_pos c9] at H
        have c9b0 : (t122.toList == ([] : List UInt8)) = true := beq_iff_eq.mpr c9
        have c9b1 : (t122.toList != ([] : List UInt8)) = false := bne_eq_false_iff_eq.mpr c9
        clear c9
        (first | rw [c9b0] | (simp only [i64_w, i32_w]; rw [c9b0]) | skip)
        have H' := Aside0.mk H
        clear H
        go_wp2
        go_meet
        case rel => exact ⟨_, (true), (by first | rfl | (simp; done) | (simp [*]; done)), H', ⟨by first | omega | exact Nat.le_refl _⟩, ⟨by (with_reducible repeat (first | refine blk_drewN ?_ _ | refine blk_drew ?_ | refine blk_alloc ?_ _)); exact BK120.out⟩, ⟨by repeat (first | (with_reducible first | exact HB.out | apply below_alloc | apply pw_below_drewN | apply below_drew1 | refine below_set ?_ GE120.out) | exact HB.out)⟩⟩
      · rw [if_neg c9] at H
        have c9b0 : (t122.toList == ([] : List UInt8)) = false := beq_eq_false_iff_ne.mpr c9
        have c9b1 : (t122.toList != ([] : List UInt8)) = true := bne_iff_ne.mpr c9
        (first | rw [c9b0] | (simp only [i64_w, i32_w]; rw [c9b0]) | skip)
        by_cases c10 : (t122.size : Int) > 19
        · rw [if_pos c10] at H
          have c10b0 : decide (19 < (t122.size : Int)) = true := decide_eq_true c10
          have c10b1 : decide (19 < t122.size) = true := decide_eq_true (by omega)
          clear c10
          have H' := Aside0.mk H
          clear H
          go_wp2
          go_meet
          case rel => exact ⟨_, (true), (by first | rfl | (simp; done) | (simp [*]; done)), H', ⟨by first | omega | exact Nat.le_refl _⟩, ⟨by (with_reducible repeat (first | refine blk_drewN ?_ _ | refine blk_drew ?_ | refine blk_alloc ?_ _)); exact BK120.out⟩, ⟨by repeat (first | (with_reducible first | exact HB.out | apply below_alloc | apply pw_below_drewN | apply below_drew1 | refine below_set ?_ GE120.out) | exact HB.out)⟩⟩
        · rw [if_neg c10] at H
          have c10b0 : decide (19 < (t122.size : Int)) = false := decide_eq_false c10
          have c10b1 : decide (19 < t122.size) = false := decide_eq_false (by omega)
          clear c10
          by_cases c11 : 0 < (t122.size : Int)
          · rw [if_pos c11] at H
            have c11b0 : decide (0 < (t122.size : Int)) = true := decide_eq_true c11
            have c11b1 : decide (0 < t122.size) = true := decide_eq_true (by omega)
            clear c11
            by_cases c13 : (bt t122 0) = 48
            · rw [if_pos c13] at H
              have c13b0 : ((bt t122 0) == 48) = true := beq_iff_eq.mpr c13
              have c13b1 : ((bt t122 0) != 48) = false := bne_eq_false_iff_eq.mpr c13
              clear c13
              by_cases c14 : t123 = true
              · subst c14
                have H1 : (value_Read.j0 k t122 true true) = some (r1, r2, r3) := by rw [if_pos rfl] at H; exact H
                clear H
                have H := H1
                clear H1
                have H' := Aside0.mk H
                clear H
                have p12 : 0 ≤ (0 : Int) := (by omega)
                have q12 : 0 < t122.size := (by have : (0 : Int) < (t122.size : Int) := of_decide_eq_true (by first | (with_reducible assumption) | assumption); omega)
                have hx12 : ∀ h : 0 < t122.size, ((t122[0]'h).toNat : Int) = bt t122 0 := bt_at t122 0
                clear p12
                have qi12 : (0 < (t122.size : Int)) = True := eq_true (of_decide_eq_true (by first | (with_reducible assumption) | assumption))
                replace q12 := eq_true q12
                go_wp2
                go_meet
                case rel => exact ⟨_, (true), (by first | rfl | (simp; done) | (simp [*]; done)), H', ⟨by first | omega | exact Nat.le_refl _⟩, ⟨by (with_reducible repeat (first | refine blk_drewN ?_ _ | refine blk_drew ?_ | refine blk_alloc ?_ _)); exact BK120.out⟩, ⟨by repeat (first | (with_reducible first | exact HB.out | apply below_alloc | apply pw_below_drewN | apply below_drew1 | refine below_set ?_ GE120.out) | exact HB.out)⟩⟩
              · replace c14 := Bool.eq_false_iff.mpr c14
                subst c14
                have H1 : (value_Read.j0 k t122 false (decide ((t122.size : Int) > 1))) = some (r1, r2, r3) := by rw [if_neg (show ¬ (false = true) by decide)] at H; exact H
                clear H
                have H := H1
                clear H1
                have H' := Aside0.mk H
                clear H
                have p12 : 0 ≤ (0 : Int) := (by omega)
                have q12 : 0 < t122.size := (by have : (0 : Int) < (t122.size : Int) := of_decide_eq_true (by first | (with_reducible assumption) | assumption); omega)
                have hx12 : ∀ h : 0 < t122.size, ((t122[0]'h).toNat : Int) = bt t122 0 := bt_at t122 0
                clear p12
                have qi12 : (0 < (t122.size : Int)) = True := eq_true (of_decide_eq_true (by first | (with_reducible assumption) | assumption))
                replace q12 := eq_true q12
                go_wp2
                go_meet
                case rel => exact ⟨_, (decide ((t122.size : Int) > 1)), (by first | rfl | (simp; done) | (simp [*]; done)), H', ⟨by first | omega | exact Nat.le_refl _⟩, ⟨by (with_reducible repeat (first | refine blk_drewN ?_ _ | refine blk_drew ?_ | refine blk_alloc ?_ _)); exact BK120.out⟩, ⟨by repeat (first | (with_reducible first | exact HB.out | apply below_alloc | apply pw_below_drewN | apply below_drew1 | refine below_set ?_ GE120.out) | exact HB.out)⟩⟩
            · rw [if_neg c13] at H
              have c13b0 : ((bt t122 0) == 48) = false := beq_eq_false_iff_ne.mpr c13
              have c13b1 : ((bt t122 0) != 48) = true := bne_iff_ne.mpr c13
              have H' := Aside0.mk H
              clear H
              have p12 : 0 ≤ (0 : Int) := (by omega)
              have q12 : 0 < t122.size := (by have : (0 : Int) < (t122.size : Int) := of_decide_eq_true (by first | (with_reducible assumption) | assumption); omega)
              have hx12 : ∀ h : 0 < t122.size, ((t122[0]'h).toNat : Int) = bt t122 0 := bt_at t122 0
              clear p12
              have qi12 : (0 < (t122.size : Int)) = True := eq_true (of_decide_eq_true (by first | (with_reducible assumption) | assumption))
              replace q12 := eq_true q12
              go_wp2
              go_meet
              case rel => exact ⟨_, (false), (by first | rfl | (simp; done) | (simp [*]; done)), H', ⟨by first | omega | exact Nat.le_refl _⟩, ⟨by (with_reducible repeat (first | refine blk_drewN ?_ _ | refine blk_drew ?_ | refine blk_alloc ?_ _)); exact BK120.out⟩, ⟨by repeat (first | (with_reducible first | exact HB.out | apply below_alloc | apply pw_below_drewN | apply below_drew1 | refine below_set ?_ GE120.out) | exact HB.out)⟩⟩
          · rw [if_neg c11] at H
            exact absurd H (by simp)
    case rest =>
      clear HC7
      try clear c1
      try clear p1
      try clear q1
      try clear hx1
      try clear qi1
      try clear c2
      try clear p2
      try clear c3
      try clear c9
      try clear c9b0
      try clear c9b1
      try clear c10
      try clear c10b0
      try clear c10b1
      try clear c11
      try clear c11b0
      try clear c11b1
      try clear p12
      try clear q12
      try clear hx12
      try clear qi12
      try clear c13
      try clear c13b0
      try clear c13b1
      try clear c14
      try clear hcz5_0
      try clear hcz5_1
      try clear hfz5_0
      try clear hfz5_1
      try clear p12
      try clear q12
      obtain ⟨kq, x36_6, rfl, HA, HJ6, BK120, HB⟩ := hcut
      cases kq with
      | zero => exact absurd HA.out (by simp [value_Read.j0])
      | succ kj6 =>
        have H := HA.out
        clear HA
        simp only [value_Read.j0] at H
        by_cases c15 : x36_6 = true
        · subst c15
          have H1 : (some ((⟨#[]⟩ : ByteArray), 0, false)) = some (r1, r2, r3) := by rw [if_pos rfl] at H; exact H
          clear H
          have H := H1
          clear H1
          simp only [Option.some.injEq, Prod.mk.injEq] at H
          obtain ⟨rfl, rfl, rfl⟩ := H
          have hcz16_0 : wc.cell? ⟨gb120, 0, none⟩ = some (.string (⟨#[]⟩ : ByteArray)) := (blk_cell BK120.out 0).trans rfl
          have hcz16_1 : wc.cell? ⟨gb120, 1, none⟩ = some (.int .i64 0) := (blk_cell BK120.out 1).trans rfl
          have hfz16_0 := blk_frozen BK120.out 0
          have hfz16_1 := blk_frozen BK120.out 1
          go_wp2
          refine bodyPost_ret (results_ct rfl _ _ gb120 25 #[.string (⟨#[]⟩ : ByteArray), .int .i64 0] (0, 0) _ rfl (by (with_reducible repeat (first | refine blk_drewN ?_ _ | refine blk_drew ?_ | refine blk_alloc ?_ _)); refine blk_put (cs := #[.string (⟨#[]⟩ : ByteArray), .int .i64 0]) ?_ 1 _ rfl; (with_reducible repeat (first | refine blk_drewN ?_ _ | refine blk_drew ?_ | refine blk_alloc ?_ _)); refine blk_put (cs := #[.string (⟨#[]⟩ : ByteArray), .int .i64 0]) ?_ 0 _ rfl; (with_reducible repeat (first | refine blk_drewN ?_ _ | refine blk_drew ?_ | refine blk_alloc ?_ _)); exact BK120.out) Try.underlying25 rfl (by kernel_rfl)) rfl ?_
          exact ⟨by first | rfl | (simp [errW_none, errW_some] <;> rfl) | (simp [*, errW_none, errW_some] <;> rfl), by repeat (first | (with_reducible first | exact HB.out | apply below_alloc | apply pw_below_drewN | apply below_drew1 | refine below_set ?_ GE120.out) | exact HB.out)⟩
        · replace c15 := Bool.eq_false_iff.mpr c15
          subst c15
          have H1 : (value_Read.l0 kj6 t122 t123 0 (t122.size : Int) 0) = some (r1, r2, r3) := by rw [if_neg (show ¬ (false = true) by decide)] at H; exact H
          clear H
          have H := H1
          clear H1
          have H' := Aside0.mk H
          clear H
          go_wp2
          go_loopg [6, 40] kj6 (fun kq v6 v40 w' => ∃ (x6_2 : Int) (x40_2 : Int) (x121000_2 : ByteArray) (x121001_2 : Int), v6 = .int .u64 x6_2 ∧ v40 = .int .i64 x40_2 ∧ Aside0 (value_Read.l0 kq t122 t123 x6_2 (t122.size : Int) x40_2 = some (r1, r2, r3)) ∧ Aside0 (kq ≤ kj6) ∧ Aside0 (w'.heap[gb120]? = some (.cells #[.string x121000_2, .int .i64 x121001_2] 25 (0, 0))) ∧ Aside0 (Below w.heap.size w w'))
          case atStart => exact ⟨(0), (0), ((⟨#[]⟩ : ByteArray)), (0), (by first | rfl | (simp; done) | (simp [*]; done)), (by first | rfl | (simp; done) | (simp [*]; done)), H', ⟨Nat.le_refl _⟩, ⟨by (with_reducible repeat (first | refine blk_drewN ?_ _ | refine blk_drew ?_ | refine blk_alloc ?_ _)); exact BK120.out⟩, ⟨by repeat (first | (with_reducible first | exact HB.out | apply below_alloc | apply pw_below_drewN | apply below_drew1 | refine below_set ?_ GE120.out) | exact HB.out)⟩⟩
          case round =>
            clear H'
            try clear c1
            try clear p1
            try clear q1
            try clear hx1
            try clear qi1
            try clear c2
            try clear p2
            try clear c3
            try clear c9
            try clear c9b0
            try clear c9b1
            try clear c10
            try clear c10b0
            try clear c10b1
            try clear c11
            try clear c11b0
            try clear c11b1
            try clear p12
            try clear q12
            try clear hx12
            try clear qi12
            try clear c13
            try clear c13b0
            try clear c13b1
            try clear c14
            try clear c15
            try clear hcz16_0
            try clear hcz16_1
            try clear hcz5_0
            try clear hcz5_1
            try clear hfz16_0
            try clear hfz16_1
            try clear hfz5_0
            try clear hfz5_1
            try clear p1
            try clear p12
            try clear p2
            try clear q1
            try clear q12
            obtain ⟨x6_2, x40_2, x121000_2, x121001_2, rfl, rfl, HA, HK2, BK120, HB⟩ := hrel
            cases gk with
            | zero => exact absurd HA.out (by simp [value_Read.l0])
            | succ k2 =>
              have H := HA.out
              clear HA
              simp only [value_Read.l0] at H
              by_cases c17 : x40_2 < (t122.size : Int)
              · rw [if_pos c17] at H
                have c17b0 : decide (x40_2 < (t122.size : Int)) = true := decide_eq_true c17
                clear c17
                by_cases c18 : 0 ≤ x40_2
                · rw [if_pos c18] at H
                  have c18b0 : decide (0 ≤ x40_2) = true := decide_eq_true c18
                  clear c18
                  by_cases c19 : x40_2 < (t122.size : Int)
                  · rw [if_pos c19] at H
                    have c19b0 : decide (x40_2 < (t122.size : Int)) = true := decide_eq_true c19
                    clear c19
                    by_cases c21 : (bt t122 x40_2) < 48
                    · rw [if_pos c21] at H
                      have c21b0 : decide ((bt t122 x40_2) < 48) = true := decide_eq_true c21
                      clear c21
                      simp only [Option.some.injEq, Prod.mk.injEq] at H
                      obtain ⟨rfl, rfl, rfl⟩ := H
                      have p20 : 0 ≤ (x40_2 : Int) := of_decide_eq_true (by first | (with_reducible assumption) | assumption)
                      have q20 : x40_2 < (t122.size : Int) := of_decide_eq_true (by first | (with_reducible assumption) | assumption)
                      have hx20 := bt_at t122 x40_2
                      replace p20 := eq_true p20
                      replace q20 := eq_true q20
                      have hcz22_0 : wr.cell? ⟨gb120, 0, none⟩ = some (.string x121000_2) := (blk_cell BK120.out 0).trans rfl
                      have hcz22_1 : wr.cell? ⟨gb120, 1, none⟩ = some (.int .i64 x121001_2) := (blk_cell BK120.out 1).trans rfl
                      have hfz22_0 := blk_frozen BK120.out 0
                      have hfz22_1 := blk_frozen BK120.out 1
                      go_wp2
                      refine bodyPost_ret (results_ct rfl _ _ gb120 25 #[.string (⟨#[]⟩ : ByteArray), .int .i64 0] (0, 0) _ rfl (by (with_reducible repeat (first | refine blk_drewN ?_ _ | refine blk_drew ?_ | refine blk_alloc ?_ _)); refine blk_put (cs := #[.string (⟨#[]⟩ : ByteArray), .int .i64 x121001_2]) ?_ 1 _ rfl; (with_reducible repeat (first | refine blk_drewN ?_ _ | refine blk_drew ?_ | refine blk_alloc ?_ _)); refine blk_put (cs := #[.string x121000_2, .int .i64 x121001_2]) ?_ 0 _ rfl; (with_reducible repeat (first | refine blk_drewN ?_ _ | refine blk_drew ?_ | refine blk_alloc ?_ _)); exact BK120.out) Try.underlying25 rfl (by kernel_rfl)) rfl ?_
                      exact ⟨by first | rfl | (simp [errW_none, errW_some] <;> rfl) | (simp [*, errW_none, errW_some] <;> rfl), by repeat (first | (with_reducible first | exact HB.out | apply below_alloc | apply pw_below_drewN | apply below_drew1 | refine below_set ?_ GE120.out) | exact HB.out)⟩
                    · rw [if_neg c21] at H
                      have c21b0 : decide ((bt t122 x40_2) < 48) = false := decide_eq_false c21
                      clear c21
                      by_cases c24 : (bt t122 x40_2) > 57
                      · rw [if_pos c24] at H
                        have c24b0 : decide (57 < (bt t122 x40_2)) = true := decide_eq_true c24
                        clear c24
                        simp only [Option.some.injEq, Prod.mk.injEq] at H
                        obtain ⟨rfl, rfl, rfl⟩ := H
                        have p20 : 0 ≤ (x40_2 : Int) := of_decide_eq_true (by first | (with_reducible assumption) | assumption)
                        have q20 : x40_2 < (t122.size : Int) := of_decide_eq_true (by first | (with_reducible assumption) | assumption)
                        have hx20 := bt_at t122 x40_2
                        replace p20 := eq_true p20
                        replace q20 := eq_true q20
                        have p23 : 0 ≤ (x40_2 : Int) := of_decide_eq_true (by first | (with_reducible assumption) | assumption)
                        have q23 : x40_2 < (t122.size : Int) := of_decide_eq_true (by first | (with_reducible assumption) | assumption)
                        have hx23 := bt_at t122 x40_2
                        replace p23 := eq_true p23
                        replace q23 := eq_true q23
                        have hcz25_0 : wr.cell? ⟨gb120, 0, none⟩ = some (.string x121000_2) := (blk_cell BK120.out 0).trans rfl
                        have hcz25_1 : wr.cell? ⟨gb120, 1, none⟩ = some (.int .i64 x121001_2) := (blk_cell BK120.out 1).trans rfl
                        have hfz25_0 := blk_frozen BK120.out 0
                        have hfz25_1 := blk_frozen BK120.out 1
                        go_wp2
                        refine bodyPost_ret (results_ct rfl _ _ gb120 25 #[.string (⟨#[]⟩ : ByteArray), .int .i64 0] (0, 0) _ rfl (by (with_reducible repeat (first | refine blk_drewN ?_ _ | refine blk_drew ?_ | refine blk_alloc ?_ _)); refine blk_put (cs := #[.string (⟨#[]⟩ : ByteArray), .int .i64 x121001_2]) ?_ 1 _ rfl; (with_reducible repeat (first | refine blk_drewN ?_ _ | refine blk_drew ?_ | refine blk_alloc ?_ _)); refine blk_put (cs := #[.string x121000_2, .int .i64 x121001_2]) ?_ 0 _ rfl; (with_reducible repeat (first | refine blk_drewN ?_ _ | refine blk_drew ?_ | refine blk_alloc ?_ _)); exact BK120.out) Try.underlying25 rfl (by kernel_rfl)) rfl ?_
                        exact ⟨by first | rfl | (simp [errW_none, errW_some] <;> rfl) | (simp [*, errW_none, errW_some] <;> rfl), by repeat (first | (with_reducible first | exact HB.out | apply below_alloc | apply pw_below_drewN | apply below_drew1 | refine below_set ?_ GE120.out) | exact HB.out)⟩
                      · rw [if_neg c24] at H
                        have c24b0 : decide (57 < (bt t122 x40_2)) = false := decide_eq_false c24
                        clear c24
                        have H' := Aside0.mk H
                        clear H
                        have p20 : 0 ≤ (x40_2 : Int) := of_decide_eq_true (by first | (with_reducible assumption) | assumption)
                        have q20 : x40_2 < (t122.size : Int) := of_decide_eq_true (by first | (with_reducible assumption) | assumption)
                        have hx20 := bt_at t122 x40_2
                        replace p20 := eq_true p20
                        replace q20 := eq_true q20
                        have p23 : 0 ≤ (x40_2 : Int) := of_decide_eq_true (by first | (with_reducible assumption) | assumption)
                        have q23 : x40_2 < (t122.size : Int) := of_decide_eq_true (by first | (with_reducible assumption) | assumption)
                        have hx23 := bt_at t122 x40_2
                        replace p23 := eq_true p23
                        replace q23 := eq_true q23
                        have p26 : 0 ≤ (x40_2 : Int) := of_decide_eq_true (by first | (with_reducible assumption) | assumption)
                        have q26 : x40_2 < (t122.size : Int) := of_decide_eq_true (by first | (with_reducible assumption) | assumption)
                        have hx26 := bt_at t122 x40_2
                        replace p26 := eq_true p26
                        replace q26 := eq_true q26
                        go_wp2
                        go_roundg k2
                        case measure => have := HJ6.out; have := HK2.out; omega
                        case rel => exact ⟨(IntKind.u64.wrap ((IntKind.u64.wrap (10 * x6_2)) + (((bt t122 x40_2) - 48) % 256))), (wrap64 (x40_2 + 1)), (x121000_2), (x121001_2), (by first | rfl | (simp; done) | (simp [*]; done)), (by first | rfl | (simp; done) | (simp [*]; done)), H', ⟨by have := HJ6.out; have := HK2.out; omega⟩, ⟨by (with_reducible repeat (first | refine blk_drewN ?_ _ | refine blk_drew ?_ | refine blk_alloc ?_ _)); exact BK120.out⟩, ⟨by repeat (first | (with_reducible first | exact HB.out | apply below_alloc | apply pw_below_drewN | apply below_drew1 | refine below_set ?_ GE120.out) | exact HB.out)⟩⟩
                  · rw [if_neg c19] at H
                    exact absurd H (by simp)
                · rw [if_neg c18] at H
                  exact absurd H (by simp)
              · rw [if_neg c17] at H
                have c17b0 : decide (x40_2 < (t122.size : Int)) = false := decide_eq_false c17
                clear c17
                have HC27 := Aside0.mk H
                clear H
                go_upto_region 14 with (fail)
                go_cut [63] (fun v63 wc => ∃ (kq : Nat) (x63_26 : Bool), v63 = .bool x63_26 ∧ Aside0 (value_Read.j2 kq t123 x6_2 x63_26 = some (r1, r2, r3)) ∧ Aside0 (kq ≤ k2) ∧ Aside0 (wc.heap[gb120]? = some (.cells #[.string x121000_2, .int .i64 x121001_2] 25 (0, 0))) ∧ Aside0 (Below w.heap.size w wc))
                case first =>
                  have H := HC27.out
                  clear HC27
                  by_cases c28 : t123 = true
                  · subst c28
                    have H1 : (value_Read.j2 k2 true x6_2 (decide (x6_2 ≤ 9223372036854775808))) = some (r1, r2, r3) := by rw [if_pos rfl] at H; exact H
                    clear H
                    have H := H1
                    clear H1
                    have H' := Aside0.mk H
                    clear H
                    go_wp2
                    go_meet
                    case rel => exact ⟨_, (decide (x6_2 ≤ 9223372036854775808)), (by first | rfl | (simp; done) | (simp [*]; done)), H', ⟨by have := HJ6.out; have := HK2.out; first | omega | exact Nat.le_refl _⟩, ⟨by (with_reducible repeat (first | refine blk_drewN ?_ _ | refine blk_drew ?_ | refine blk_alloc ?_ _)); exact BK120.out⟩, ⟨by repeat (first | (with_reducible first | exact HB.out | apply below_alloc | apply pw_below_drewN | apply below_drew1 | refine below_set ?_ GE120.out) | exact HB.out)⟩⟩
                  · replace c28 := Bool.eq_false_iff.mpr c28
                    subst c28
                    have H1 : (value_Read.j2 k2 false x6_2 false) = some (r1, r2, r3) := by rw [if_neg (show ¬ (false = true) by decide)] at H; exact H
                    clear H
                    have H := H1
                    clear H1
                    have H' := Aside0.mk H
                    clear H
                    go_wp2
                    go_meet
                    case rel => exact ⟨_, (false), (by first | rfl | (simp; done) | (simp [*]; done)), H', ⟨by have := HJ6.out; have := HK2.out; first | omega | exact Nat.le_refl _⟩, ⟨by (with_reducible repeat (first | refine blk_drewN ?_ _ | refine blk_drew ?_ | refine blk_alloc ?_ _)); exact BK120.out⟩, ⟨by repeat (first | (with_reducible first | exact HB.out | apply below_alloc | apply pw_below_drewN | apply below_drew1 | refine below_set ?_ GE120.out) | exact HB.out)⟩⟩
                case rest =>
                  clear HC27
                  try clear c1
                  try clear p1
                  try clear q1
                  try clear hx1
                  try clear qi1
                  try clear c2
                  try clear p2
                  try clear q2
                  try clear hx2
                  try clear c3
                  try clear p6
                  try clear c9
                  try clear c9b0
                  try clear c9b1
                  try clear c10
                  try clear c10b0
                  try clear c10b1
                  try clear c11
                  try clear c11b0
                  try clear c11b1
                  try clear p12
                  try clear q12
                  try clear hx12
                  try clear qi12
                  try clear c13
                  try clear c13b0
                  try clear c13b1
                  try clear c14
                  try clear c15
                  try clear c17
                  try clear c17b0
                  try clear c18
                  try clear c18b0
                  try clear c19
                  try clear c19b0
                  try clear p20
                  try clear q20
                  try clear hx20
                  try clear c21
                  try clear c21b0
                  try clear p23
                  try clear q23
                  try clear hx23
                  try clear c24
                  try clear c24b0
                  try clear p26
                  try clear q26
                  try clear hx26
                  try clear c28
                  try clear hcz16_0
                  try clear hcz16_1
                  try clear hcz22_0
                  try clear hcz22_1
                  try clear hcz25_0
                  try clear hcz25_1
                  try clear hcz5_0
                  try clear hcz5_1
                  try clear hfz16_0
                  try clear hfz16_1
                  try clear hfz22_0
                  try clear hfz22_1
                  try clear hfz25_0
                  try clear hfz25_1
                  try clear hfz5_0
                  try clear hfz5_1
                  try clear p1
                  try clear p12
                  try clear p2
                  try clear p20
                  try clear p23
                  try clear p26
                  try clear q1
                  try clear q12
                  try clear q20
                  try clear q23
                  try clear q26
                  obtain ⟨kq, x63_26, rfl, HA, HJ26, BK120, HB⟩ := hcut
                  cases kq with
                  | zero => exact absurd HA.out (by simp [value_Read.j2])
                  | succ kj26 =>
                    have H := HA.out
                    clear HA
                    simp only [value_Read.j2] at H
                    by_cases c29 : x63_26 = true
                    · subst c29
                      have H1 : (some ((⟨#[]⟩ : ByteArray), wrap64 (IntKind.u64.wrap (-x6_2)), true)) = some (r1, r2, r3) := by rw [if_pos rfl] at H; exact H
                      clear H
                      have H := H1
                      clear H1
                      simp only [Option.some.injEq, Prod.mk.injEq] at H
                      obtain ⟨rfl, rfl, rfl⟩ := H
                      have hcz30_0 : wc.cell? ⟨gb120, 0, none⟩ = some (.string x121000_2) := (blk_cell BK120.out 0).trans rfl
                      have hcz30_1 : wc.cell? ⟨gb120, 1, none⟩ = some (.int .i64 x121001_2) := (blk_cell BK120.out 1).trans rfl
                      have hfz30_0 := blk_frozen BK120.out 0
                      have hfz30_1 := blk_frozen BK120.out 1
                      go_wp2
                      refine bodyPost_ret (results_ct rfl _ _ gb120 25 #[.string (⟨#[]⟩ : ByteArray), .int .i64 (wrap64 (IntKind.u64.wrap (-x6_2)))] (0, 0) _ rfl (by (with_reducible repeat (first | refine blk_drewN ?_ _ | refine blk_drew ?_ | refine blk_alloc ?_ _)); refine blk_put (cs := #[.string (⟨#[]⟩ : ByteArray), .int .i64 x121001_2]) ?_ 1 _ rfl; (with_reducible repeat (first | refine blk_drewN ?_ _ | refine blk_drew ?_ | refine blk_alloc ?_ _)); refine blk_put (cs := #[.string x121000_2, .int .i64 x121001_2]) ?_ 0 _ rfl; (with_reducible repeat (first | refine blk_drewN ?_ _ | refine blk_drew ?_ | refine blk_alloc ?_ _)); exact BK120.out) Try.underlying25 rfl (by kernel_rfl)) rfl ?_
                      exact ⟨by first | rfl | (simp [errW_none, errW_some] <;> rfl) | (simp [*, errW_none, errW_some] <;> rfl), by repeat (first | (with_reducible first | exact HB.out | apply below_alloc | apply pw_below_drewN | apply below_drew1 | refine below_set ?_ GE120.out) | exact HB.out)⟩
                    · replace c29 := Bool.eq_false_iff.mpr c29
                      subst c29
                      have H1 : (if t123 = true then (some ((⟨#[]⟩ : ByteArray), 0, false)) else (if x6_2 < 9223372036854775808 then (some ((⟨#[]⟩ : ByteArray), wrap64 (x6_2), true)) else (some ((⟨#[]⟩ : ByteArray), 0, false)))) = some (r1, r2, r3) := by rw [if_neg (show ¬ (false = true) by decide)] at H; exact H
                      clear H
                      have H := H1
                      clear H1
                      by_cases c31 : t123 = true
                      · subst c31
                        have H1 : (some ((⟨#[]⟩ : ByteArray), 0, false)) = some (r1, r2, r3) := by rw [if_pos rfl] at H; exact H
                        clear H
                        have H := H1
                        clear H1
                        simp only [Option.some.injEq, Prod.mk.injEq] at H
                        obtain ⟨rfl, rfl, rfl⟩ := H
                        have hcz32_0 : wc.cell? ⟨gb120, 0, none⟩ = some (.string x121000_2) := (blk_cell BK120.out 0).trans rfl
                        have hcz32_1 : wc.cell? ⟨gb120, 1, none⟩ = some (.int .i64 x121001_2) := (blk_cell BK120.out 1).trans rfl
                        have hfz32_0 := blk_frozen BK120.out 0
                        have hfz32_1 := blk_frozen BK120.out 1
                        go_wp2
                        refine bodyPost_ret (results_ct rfl _ _ gb120 25 #[.string (⟨#[]⟩ : ByteArray), .int .i64 0] (0, 0) _ rfl (by (with_reducible repeat (first | refine blk_drewN ?_ _ | refine blk_drew ?_ | refine blk_alloc ?_ _)); refine blk_put (cs := #[.string (⟨#[]⟩ : ByteArray), .int .i64 x121001_2]) ?_ 1 _ rfl; (with_reducible repeat (first | refine blk_drewN ?_ _ | refine blk_drew ?_ | refine blk_alloc ?_ _)); refine blk_put (cs := #[.string x121000_2, .int .i64 x121001_2]) ?_ 0 _ rfl; (with_reducible repeat (first | refine blk_drewN ?_ _ | refine blk_drew ?_ | refine blk_alloc ?_ _)); exact BK120.out) Try.underlying25 rfl (by kernel_rfl)) rfl ?_
                        exact ⟨by first | rfl | (simp [errW_none, errW_some] <;> rfl) | (simp [*, errW_none, errW_some] <;> rfl), by repeat (first | (with_reducible first | exact HB.out | apply below_alloc | apply pw_below_drewN | apply below_drew1 | refine below_set ?_ GE120.out) | exact HB.out)⟩
                      · replace c31 := Bool.eq_false_iff.mpr c31
                        subst c31
                        have H1 : (if x6_2 < 9223372036854775808 then (some ((⟨#[]⟩ : ByteArray), wrap64 (x6_2), true)) else (some ((⟨#[]⟩ : ByteArray), 0, false))) = some (r1, r2, r3) := by rw [if_neg (show ¬ (false = true) by decide)] at H; exact H
                        clear H
                        have H := H1
                        clear H1
                        by_cases c33 : x6_2 < 9223372036854775808
                        · rw [if_pos c33] at H
                          have c33b0 : decide (x6_2 < 9223372036854775808) = true := decide_eq_true c33
                          clear c33
                          simp only [Option.some.injEq, Prod.mk.injEq] at H
                          obtain ⟨rfl, rfl, rfl⟩ := H
                          have hcz34_0 : wc.cell? ⟨gb120, 0, none⟩ = some (.string x121000_2) := (blk_cell BK120.out 0).trans rfl
                          have hcz34_1 : wc.cell? ⟨gb120, 1, none⟩ = some (.int .i64 x121001_2) := (blk_cell BK120.out 1).trans rfl
                          have hfz34_0 := blk_frozen BK120.out 0
                          have hfz34_1 := blk_frozen BK120.out 1
                          go_wp2
                          refine bodyPost_ret (results_ct rfl _ _ gb120 25 #[.string (⟨#[]⟩ : ByteArray), .int .i64 (wrap64 (x6_2))] (0, 0) _ rfl (by (with_reducible repeat (first | refine blk_drewN ?_ _ | refine blk_drew ?_ | refine blk_alloc ?_ _)); refine blk_put (cs := #[.string (⟨#[]⟩ : ByteArray), .int .i64 x121001_2]) ?_ 1 _ rfl; (with_reducible repeat (first | refine blk_drewN ?_ _ | refine blk_drew ?_ | refine blk_alloc ?_ _)); refine blk_put (cs := #[.string x121000_2, .int .i64 x121001_2]) ?_ 0 _ rfl; (with_reducible repeat (first | refine blk_drewN ?_ _ | refine blk_drew ?_ | refine blk_alloc ?_ _)); exact BK120.out) Try.underlying25 rfl (by kernel_rfl)) rfl ?_
                          exact ⟨by first | rfl | (simp [errW_none, errW_some] <;> rfl) | (simp [*, errW_none, errW_some] <;> rfl), by repeat (first | (with_reducible first | exact HB.out | apply below_alloc | apply pw_below_drewN | apply below_drew1 | refine below_set ?_ GE120.out) | exact HB.out)⟩
                        · rw [if_neg c33] at H
                          have c33b0 : decide (x6_2 < 9223372036854775808) = false := decide_eq_false c33
                          clear c33
                          simp only [Option.some.injEq, Prod.mk.injEq] at H
                          obtain ⟨rfl, rfl, rfl⟩ := H
                          have hcz35_0 : wc.cell? ⟨gb120, 0, none⟩ = some (.string x121000_2) := (blk_cell BK120.out 0).trans rfl
                          have hcz35_1 : wc.cell? ⟨gb120, 1, none⟩ = some (.int .i64 x121001_2) := (blk_cell BK120.out 1).trans rfl
                          have hfz35_0 := blk_frozen BK120.out 0
                          have hfz35_1 := blk_frozen BK120.out 1
                          go_wp2
                          refine bodyPost_ret (results_ct rfl _ _ gb120 25 #[.string (⟨#[]⟩ : ByteArray), .int .i64 0] (0, 0) _ rfl (by (with_reducible repeat (first | refine blk_drewN ?_ _ | refine blk_drew ?_ | refine blk_alloc ?_ _)); refine blk_put (cs := #[.string (⟨#[]⟩ : ByteArray), .int .i64 x121001_2]) ?_ 1 _ rfl; (with_reducible repeat (first | refine blk_drewN ?_ _ | refine blk_drew ?_ | refine blk_alloc ?_ _)); refine blk_put (cs := #[.string x121000_2, .int .i64 x121001_2]) ?_ 0 _ rfl; (with_reducible repeat (first | refine blk_drewN ?_ _ | refine blk_drew ?_ | refine blk_alloc ?_ _)); exact BK120.out) Try.underlying25 rfl (by kernel_rfl)) rfl ?_
                          exact ⟨by first | rfl | (simp [errW_none, errW_some] <;> rfl) | (simp [*, errW_none, errW_some] <;> rfl), by repeat (first | (with_reducible first | exact HB.out | apply below_alloc | apply pw_below_drewN | apply below_drew1 | refine below_set ?_ GE120.out) | exact HB.out)⟩

end Go.Proofs.Ytmgocpggoajfeaa.PA
