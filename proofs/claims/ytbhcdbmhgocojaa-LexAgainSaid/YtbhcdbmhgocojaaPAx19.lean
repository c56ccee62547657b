/- Go functions told as plain functions, and that the program's calls come to just these, for all arguments. Written by the session's own program wip/tools/myprint.py (it drives the kit's printer). -/
import Derived.Test.YtbhcdbmhgocojaaPAx0
import Derived.Test.YtbhcdbmhgocojaaPAx8
namespace Go.Proofs.Ytbhcdbmhgocojaa.PA
open Go.RowKit Go.Proofs.YtbhcdbmhgocojaaW.PrintWords Go.Proofs.YtbhcdbmhgocojaaW.PrintLast Go.Proofs.YtbhcdbmhgocojaaW.PrintMore
attribute [local go_sem] max2_int min2_int max_two min_two max_three min_three max_four min_four   -- for this text's walks alone
set_option linter.unusedVariables false
set_option linter.unusedSimpArgs false

/-! ### mandatelaw05_LexAgain: function 8 -/
mutual
def mandatelaw05_LexAgain.j0 : Nat → ByteArray → List (S32) → Bool → Option (Bool)
  | 0, _, _, _ => none
  | k + 1, x0, x3, x26 => if x26 = true then (some true) else (mandatelaw05_LexAgain.l0 k x0 x3 (⟨#[]⟩ : ByteArray) 0)
def mandatelaw05_LexAgain.l0 : Nat → ByteArray → List (S32) → ByteArray → Int → Option (Bool)
  | 0, _, _, _, _ => none
  | k + 1, x0, x3, x6, x7 => if x7 < (x3.length : Int) then (if x7 > 0 then (if x6.size + 1 ≤ 9223372036854775807 then (if 0 ≤ x7 then (if 0 ≤ ((rd_T32 x3 x7).f1) then (if ((rd_T32 x3 x7).f1) ≤ ((rd_T32 x3 x7).f2) then (if ((rd_T32 x3 x7).f2) ≤ (x0.size : Int) then (if (x6 ++ (⟨#[32]⟩ : ByteArray)).size + (x0.extract (((rd_T32 x3 x7).f1) : Int).toNat (((rd_T32 x3 x7).f2) : Int).toNat).size ≤ 9223372036854775807 then (mandatelaw05_LexAgain.l0 k x0 x3 ((x6 ++ (⟨#[32]⟩ : ByteArray)) ++ (x0.extract (((rd_T32 x3 x7).f1) : Int).toNat (((rd_T32 x3 x7).f2) : Int).toNat)) (wrap64 (x7 + 1))) else (none)) else (none)) else (none)) else (none)) else (none)) else (none)) else (if 0 ≤ x7 then (if 0 ≤ ((rd_T32 x3 x7).f1) then (if ((rd_T32 x3 x7).f1) ≤ ((rd_T32 x3 x7).f2) then (if ((rd_T32 x3 x7).f2) ≤ (x0.size : Int) then (if x6.size + (x0.extract (((rd_T32 x3 x7).f1) : Int).toNat (((rd_T32 x3 x7).f2) : Int).toNat).size ≤ 9223372036854775807 then (mandatelaw05_LexAgain.l0 k x0 x3 (x6 ++ (x0.extract (((rd_T32 x3 x7).f1) : Int).toNat (((rd_T32 x3 x7).f2) : Int).toNat)) (wrap64 (x7 + 1))) else (none)) else (none)) else (none)) else (none)) else (none))) else ((lex_All.f k x6).bind fun bt245 => (if bt245.2.2 = 0 then (mandatelaw05_LexAgain.j2 k x0 x3 x6 bt245.1 ((bt245.1.length : Int) != (x3.length : Int))) else (mandatelaw05_LexAgain.j2 k x0 x3 x6 bt245.1 true)))
def mandatelaw05_LexAgain.j2 : Nat → ByteArray → List (S32) → ByteArray → List (S32) → Bool → Option (Bool)
  | 0, _, _, _, _, _ => none
  | k + 1, x0, x3, x6, x8, x65 => if x65 = true then (some false) else (mandatelaw05_LexAgain.l1 k x0 x3 x6 x8 0)
def mandatelaw05_LexAgain.l1 : Nat → ByteArray → List (S32) → ByteArray → List (S32) → Int → Option (Bool)
  | 0, _, _, _, _, _ => none
  | k + 1, x0, x3, x6, x8, x11 => if x11 < (x3.length : Int) then (if 0 ≤ x11 then (if x11 < (x8.length : Int) then (if ((rd_T32 x8 x11).f0) = ((rd_T32 x3 x11).f0) then (if 0 ≤ ((rd_T32 x8 x11).f1) then (if ((rd_T32 x8 x11).f1) ≤ ((rd_T32 x8 x11).f2) then (if ((rd_T32 x8 x11).f2) ≤ (x6.size : Int) then (if 0 ≤ ((rd_T32 x3 x11).f1) then (if ((rd_T32 x3 x11).f1) ≤ ((rd_T32 x3 x11).f2) then (if ((rd_T32 x3 x11).f2) ≤ (x0.size : Int) then (if (x6.extract (((rd_T32 x8 x11).f1) : Int).toNat (((rd_T32 x8 x11).f2) : Int).toNat).toList = (x0.extract (((rd_T32 x3 x11).f1) : Int).toNat (((rd_T32 x3 x11).f2) : Int).toNat).toList then (mandatelaw05_LexAgain.l1 k x0 x3 x6 x8 (wrap64 (x11 + 1))) else (some false)) else (none)) else (none)) else (none)) else (none)) else (none)) else (none)) else (some false)) else (none)) else (none)) else (some true)
end
def mandatelaw05_LexAgain.f (k : Nat) (a0 : ByteArray) : Option (Bool) := (mandatelaw05_fixed.f k).bind fun t235 => (if t235 = true then ((lex_All.f k a0).bind fun bt236 => (if bt236.2.2 = 0 then (mandatelaw05_LexAgain.j0 k a0 bt236.1 (decide ((a0.size : Int) > 2000))) else (mandatelaw05_LexAgain.j0 k a0 bt236.1 true))) else (some false))
theorem mandatelaw05_LexAgain.mono_l : ∀ k, (∀ y0 y1 y2, LeO (mandatelaw05_LexAgain.j0 k y0 y1 y2) (mandatelaw05_LexAgain.j0 (k + 1) y0 y1 y2)) ∧ (∀ y0 y1 y2 y3, LeO (mandatelaw05_LexAgain.l0 k y0 y1 y2 y3) (mandatelaw05_LexAgain.l0 (k + 1) y0 y1 y2 y3)) ∧ (∀ y0 y1 y2 y3 y4, LeO (mandatelaw05_LexAgain.j2 k y0 y1 y2 y3 y4) (mandatelaw05_LexAgain.j2 (k + 1) y0 y1 y2 y3 y4)) ∧ (∀ y0 y1 y2 y3 y4, LeO (mandatelaw05_LexAgain.l1 k y0 y1 y2 y3 y4) (mandatelaw05_LexAgain.l1 (k + 1) y0 y1 y2 y3 y4))
  | 0 => ⟨fun _ _ _ r h => by simp [mandatelaw05_LexAgain.j0] at h, fun _ _ _ _ r h => by simp [mandatelaw05_LexAgain.l0] at h, fun _ _ _ _ _ r h => by simp [mandatelaw05_LexAgain.j2] at h, fun _ _ _ _ _ r h => by simp [mandatelaw05_LexAgain.l1] at h⟩
  | k + 1 => by
    obtain ⟨ih0, ih1, ih2, ih3⟩ := mandatelaw05_LexAgain.mono_l k
    refine ⟨?_, ?_, ?_, ?_⟩
    · intro y0 y1 y2
      unfold mandatelaw05_LexAgain.j0
      repeat' first
      | (with_reducible exact ih0 _ _ _)
      | (with_reducible exact ih1 _ _ _ _)
      | (with_reducible exact ih2 _ _ _ _ _)
      | (with_reducible exact ih3 _ _ _ _ _)
      | (with_reducible exact lex_All.mono _ _)
      | (with_reducible exact mandatelaw05_fixed.mono _)
      | (with_reducible exact LeO.refl _)
      | (with_reducible exact LeO.none _)
      | (with_reducible refine LeO.ite ?_ ?_)
      | (with_reducible refine LeO.bind ?_ (fun _ => ?_))
      | exact ih0 _ _ _
      | exact ih1 _ _ _ _
      | exact ih2 _ _ _ _ _
      | exact ih3 _ _ _ _ _
      | exact lex_All.mono _ _
      | exact mandatelaw05_fixed.mono _
      | exact LeO.none _
      | refine LeO.ite ?_ ?_
      | refine LeO.bind ?_ (fun _ => ?_)
    · intro y0 y1 y2 y3
      unfold mandatelaw05_LexAgain.l0
      repeat' first
      | (with_reducible exact ih0 _ _ _)
      | (with_reducible exact ih1 _ _ _ _)
      | (with_reducible exact ih2 _ _ _ _ _)
      | (with_reducible exact ih3 _ _ _ _ _)
      | (with_reducible exact lex_All.mono _ _)
      | (with_reducible exact mandatelaw05_fixed.mono _)
      | (with_reducible exact LeO.refl _)
      | (with_reducible exact LeO.none _)
      | (with_reducible refine LeO.ite ?_ ?_)
      | (with_reducible refine LeO.bind ?_ (fun _ => ?_))
      | exact ih0 _ _ _
      | exact ih1 _ _ _ _
      | exact ih2 _ _ _ _ _
      | exact ih3 _ _ _ _ _
      | exact lex_All.mono _ _
      | exact mandatelaw05_fixed.mono _
      | exact LeO.none _
      | refine LeO.ite ?_ ?_
      | refine LeO.bind ?_ (fun _ => ?_)
    · intro y0 y1 y2 y3 y4
      unfold mandatelaw05_LexAgain.j2
      repeat' first
      | (with_reducible exact ih0 _ _ _)
      | (with_reducible exact ih1 _ _ _ _)
      | (with_reducible exact ih2 _ _ _ _ _)
      | (with_reducible exact ih3 _ _ _ _ _)
      | (with_reducible exact lex_All.mono _ _)
      | (with_reducible exact mandatelaw05_fixed.mono _)
      | (with_reducible exact LeO.refl _)
      | (with_reducible exact LeO.none _)
      | (with_reducible refine LeO.ite ?_ ?_)
      | (with_reducible refine LeO.bind ?_ (fun _ => ?_))
      | exact ih0 _ _ _
      | exact ih1 _ _ _ _
      | exact ih2 _ _ _ _ _
      | exact ih3 _ _ _ _ _
      | exact lex_All.mono _ _
      | exact mandatelaw05_fixed.mono _
      | exact LeO.none _
      | refine LeO.ite ?_ ?_
      | refine LeO.bind ?_ (fun _ => ?_)
    · intro y0 y1 y2 y3 y4
      unfold mandatelaw05_LexAgain.l1
      repeat' first
      | (with_reducible exact ih0 _ _ _)
      | (with_reducible exact ih1 _ _ _ _)
      | (with_reducible exact ih2 _ _ _ _ _)
      | (with_reducible exact ih3 _ _ _ _ _)
      | (with_reducible exact lex_All.mono _ _)
      | (with_reducible exact mandatelaw05_fixed.mono _)
      | (with_reducible exact LeO.refl _)
      | (with_reducible exact LeO.none _)
      | (with_reducible refine LeO.ite ?_ ?_)
      | (with_reducible refine LeO.bind ?_ (fun _ => ?_))
      | exact ih0 _ _ _
      | exact ih1 _ _ _ _
      | exact ih2 _ _ _ _ _
      | exact ih3 _ _ _ _ _
      | exact lex_All.mono _ _
      | exact mandatelaw05_fixed.mono _
      | exact LeO.none _
      | refine LeO.ite ?_ ?_
      | refine LeO.bind ?_ (fun _ => ?_)
theorem mandatelaw05_LexAgain.mono : ∀ a0 k, LeO (mandatelaw05_LexAgain.f k a0) (mandatelaw05_LexAgain.f (k + 1) a0) := by
  intro a0 k
  obtain ⟨ih0, ih1, ih2, ih3⟩ := mandatelaw05_LexAgain.mono_l k
  unfold mandatelaw05_LexAgain.f
  repeat' first
      | (with_reducible exact ih0 _ _ _)
      | (with_reducible exact ih1 _ _ _ _)
      | (with_reducible exact ih2 _ _ _ _ _)
      | (with_reducible exact ih3 _ _ _ _ _)
      | (with_reducible exact lex_All.mono _ _)
      | (with_reducible exact mandatelaw05_fixed.mono _)
      | (with_reducible exact LeO.refl _)
      | (with_reducible exact LeO.none _)
      | (with_reducible refine LeO.ite ?_ ?_)
      | (with_reducible refine LeO.bind ?_ (fun _ => ?_))
      | exact ih0 _ _ _
      | exact ih1 _ _ _ _
      | exact ih2 _ _ _ _ _
      | exact ih3 _ _ _ _ _
      | exact lex_All.mono _ _
      | exact mandatelaw05_fixed.mono _
      | exact LeO.none _
      | refine LeO.ite ?_ ?_
      | refine LeO.bind ?_ (fun _ => ?_)
set_option maxHeartbeats 8000000 in
set_option maxRecDepth 100000 in
theorem mandatelaw05_LexAgain.calls (k : Nat) (a0 : ByteArray) (r : Bool) (w : World) (h : mandatelaw05_LexAgain.f k a0 = some r) :
    Calls Try.prog 8 #[.string a0] w fun e w' => e = .returned (.bool r) ∧ Below w.heap.size w w' := by
  have HB := Aside0.mk (Below.refl w.heap.size w)
  have H : ((mandatelaw05_fixed.f k).bind fun t235 => (if t235 = true then ((lex_All.f k a0).bind fun bt236 => (if bt236.2.2 = 0 then (mandatelaw05_LexAgain.j0 k a0 bt236.1 (decide ((a0.size : Int) > 2000))) else (mandatelaw05_LexAgain.j0 k a0 bt236.1 true))) else (some false))) = some r := h
  clear h
  replace H := Option.bind_eq_some_iff.mp H
  obtain ⟨t235, A20, H⟩ := H
  replace H : (if t235 = true then ((lex_All.f k a0).bind fun bt236 => (if bt236.2.2 = 0 then (mandatelaw05_LexAgain.j0 k a0 bt236.1 (decide ((a0.size : Int) > 2000))) else (mandatelaw05_LexAgain.j0 k a0 bt236.1 true))) else (some false)) = some r := H
  have A2 := Aside0.mk A20
  clear A20
  by_cases c3 : t235 = true
  · subst c3
    have H1 : ((lex_All.f k a0).bind fun bt236 => (if bt236.2.2 = 0 then (mandatelaw05_LexAgain.j0 k a0 bt236.1 (decide ((a0.size : Int) > 2000))) else (mandatelaw05_LexAgain.j0 k a0 bt236.1 true))) = some r := by rw [if_pos rfl] at H; exact H
    clear H
    have H := H1
    clear H1
    replace H := Option.bind_eq_some_iff.mp H
    obtain ⟨⟨t236, t237, t238⟩, A40, H⟩ := H
    replace H : (if t238 = 0 then (mandatelaw05_LexAgain.j0 k a0 t236 (decide ((a0.size : Int) > 2000))) else (mandatelaw05_LexAgain.j0 k a0 t236 true)) = some r := H
    have A4 := Aside0.mk A40
    clear A40
    have HC5 := Aside0.mk H
    clear H
    go_enter Try.func8, Try.ntmps8
    go_upto_region 4 with (first | (go_at_call 11; (with_reducible refine (mandatelaw05_fixed.calls k  true _ A2.out).mono ?_); rintro e w6 ⟨rfl, hb⟩; have n0_ := Aside0.mk (below_step (by repeat (first | (with_reducible first | exact HB.out | apply below_alloc | apply pw_below_drewN | apply below_drew1) | exact HB.out)) hb); clear HB; have HB := n0_; clear n0_; (try clear hb); (try clear hb2); (try clear hk); (try clear hi)) | (go_at_call 9; (with_reducible refine (lex_All.calls k a0 t236 t237 t238 _ A4.out).mono ?_); rintro e w7 ⟨v239, rfl, ho0, hb⟩; have n0_ := Aside0.mk (Kd.R_lower ho0 (below_size (by repeat (first | (with_reducible first | exact HB.out | apply below_alloc | apply pw_below_drewN | apply below_drew1) | exact HB.out)))); have n1_ := Aside0.mk (below_step (by repeat (first | (with_reducible first | exact HB.out | apply below_alloc | apply pw_below_drewN | apply below_drew1) | exact HB.out)) hb); clear HB; have HO240 := n0_; have HB := n1_; clear n0_ n1_; (try clear hb); (try clear hb2); (try clear hk); (try clear hi); (try clear ho0)))
    repeat (go_quiet (first | (go_at_call 11; (with_reducible refine (mandatelaw05_fixed.calls k  true _ A2.out).mono ?_); rintro e w6 ⟨rfl, hb⟩; have n0_ := Aside0.mk (below_step (by repeat (first | (with_reducible first | exact HB.out | apply below_alloc | apply pw_below_drewN | apply below_drew1) | exact HB.out)) hb); clear HB; have HB := n0_; clear n0_; (try clear hb); (try clear hb2); (try clear hk); (try clear hi)) | (go_at_call 9; (with_reducible refine (lex_All.calls k a0 t236 t237 t238 _ A4.out).mono ?_); rintro e w7 ⟨v239, rfl, ho0, hb⟩; have n0_ := Aside0.mk (Kd.R_lower ho0 (below_size (by repeat (first | (with_reducible first | exact HB.out | apply below_alloc | apply pw_below_drewN | apply below_drew1) | exact HB.out)))); have n1_ := Aside0.mk (below_step (by repeat (first | (with_reducible first | exact HB.out | apply below_alloc | apply pw_below_drewN | apply below_drew1) | exact HB.out)) hb); clear HB; have HO240 := n0_; have HB := n1_; clear n0_ n1_; (try clear hb); (try clear hb2); (try clear hk); (try clear hi); (try clear ho0))); go_upto_region 4 with (first | (go_at_call 11; (with_reducible refine (mandatelaw05_fixed.calls k  true _ A2.out).mono ?_); rintro e w6 ⟨rfl, hb⟩; have n0_ := Aside0.mk (below_step (by repeat (first | (with_reducible first | exact HB.out | apply below_alloc | apply pw_below_drewN | apply below_drew1) | exact HB.out)) hb); clear HB; have HB := n0_; clear n0_; (try clear hb); (try clear hb2); (try clear hk); (try clear hi)) | (go_at_call 9; (with_reducible refine (lex_All.calls k a0 t236 t237 t238 _ A4.out).mono ?_); rintro e w7 ⟨v239, rfl, ho0, hb⟩; have n0_ := Aside0.mk (Kd.R_lower ho0 (below_size (by repeat (first | (with_reducible first | exact HB.out | apply below_alloc | apply pw_below_drewN | apply below_drew1) | exact HB.out)))); have n1_ := Aside0.mk (below_step (by repeat (first | (with_reducible first | exact HB.out | apply below_alloc | apply pw_below_drewN | apply below_drew1) | exact HB.out)) hb); clear HB; have HO240 := n0_; have HB := n1_; clear n0_ n1_; (try clear hb); (try clear hb2); (try clear hk); (try clear hi); (try clear ho0))))
    (try simp only [Act.put, List.setIfInBounds_toArray, List.set_cons_zero, List.set_cons_succ])
    go_cut [26] (fun v26 wc => ∃ (kq : Nat) (x26_4 : Bool), v26 = .bool x26_4 ∧ Aside0 (mandatelaw05_LexAgain.j0 kq a0 t236 x26_4 = some r) ∧ Aside0 (kq ≤ k) ∧ Aside0 (Kd.R k32 32 wc w.heap.size (fun _ => True) v239 t236) ∧ Aside0 (Below w.heap.size w wc))
    case first =>
      have H := HC5.out
      clear HC5
      by_cases c8 : t238 = 0
      · rw [if_pos c8] at H
        have c8b0 : (t238 == 0) = true := beq_iff_eq.mpr c8
        have c8b1 : (t238 != 0) = false := bne_eq_false_iff_eq.mpr c8
        clear c8
        (first | rw [c8b0] | (simp only [i64_w, i32_w]; rw [c8b0]) | skip)
        have H' := Aside0.mk H
        clear H
        go_wp2
        repeat (go_quiet (fail); try go_wp2)
        go_meet
        case rel => exact ⟨_, (decide ((a0.size : Int) > 2000)), (by first | rfl | (simp; done) | (simp [*]; done)), H', ⟨by first | omega | exact Nat.le_refl _⟩, ⟨by (with_reducible repeat (first | apply Kd.R_alloc | apply Kd.R_drewN | apply Kd.R_drew)); exact HO240.out⟩, ⟨by repeat (first | (with_reducible first | exact HB.out | apply below_alloc | apply pw_below_drewN | apply below_drew1) | exact HB.out)⟩⟩
      · rw [if_neg c8] at H
        have c8b0 : (t238 == 0) = false := beq_eq_false_iff_ne.mpr c8
        have c8b1 : (t238 != 0) = true := bne_iff_ne.mpr c8
        (first | rw [c8b0] | (simp only [i64_w, i32_w]; rw [c8b0]) | skip)
        have H' := Aside0.mk H
        clear H
        go_wp2
        repeat (go_quiet (fail); try go_wp2)
        go_meet
        case rel => exact ⟨_, (true), (by first | rfl | (simp; done) | (simp [*]; done)), H', ⟨by first | omega | exact Nat.le_refl _⟩, ⟨by (with_reducible repeat (first | apply Kd.R_alloc | apply Kd.R_drewN | apply Kd.R_drew)); exact HO240.out⟩, ⟨by repeat (first | (with_reducible first | exact HB.out | apply below_alloc | apply pw_below_drewN | apply below_drew1) | exact HB.out)⟩⟩
    case rest =>
      clear HC5
      try clear p2
      try clear c3
      try clear c8
      try clear c8b0
      try clear c8b1
      obtain ⟨kq, x26_4, rfl, HA, HJ4, HO_3, HB⟩ := hcut
      cases kq with
      | zero => exact absurd HA.out (by simp [mandatelaw05_LexAgain.j0])
      | succ kj4 =>
        have H := HA.out
        clear HA
        simp only [mandatelaw05_LexAgain.j0] at H
        by_cases c9 : x26_4 = true
        · subst c9
          have H1 : (some true) = some r := by rw [if_pos rfl] at H; exact H
          clear H
          have H := H1
          clear H1
          obtain rfl := Option.some.inj H
          go_wp2
          repeat (go_quiet (fail); try go_wp2)
          go_ret
          exact ⟨by first | rfl | (simp [errW_none, errW_some] <;> rfl) | (simp [*, errW_none, errW_some] <;> rfl), by repeat (first | (with_reducible first | exact HB.out | apply below_alloc | apply pw_below_drewN | apply below_drew1) | exact HB.out)⟩
        · replace c9 := Bool.eq_false_iff.mpr c9
          subst c9
          have H1 : (mandatelaw05_LexAgain.l0 kj4 a0 t236 (⟨#[]⟩ : ByteArray) 0) = some r := by rw [if_neg (show ¬ (false = true) by decide)] at H; exact H
          clear H
          have H := H1
          clear H1
          have H' := Aside0.mk H
          clear H
          go_wp2
          repeat (go_quiet (fail); try go_wp2)
          go_loopg [6, 7] kj4 (fun kq v6 v7 w' => ∃ (x6_2 : ByteArray) (x7_2 : Int), v6 = .string x6_2 ∧ v7 = .int .i64 x7_2 ∧ Aside0 (mandatelaw05_LexAgain.l0 kq a0 t236 x6_2 x7_2 = some r) ∧ Aside0 (kq ≤ kj4) ∧ Aside0 (Kd.R k32 32 w' w.heap.size (fun _ => True) v239 t236) ∧ Aside0 (Below w.heap.size w w'))
          case atStart => exact ⟨((⟨#[]⟩ : ByteArray)), (0), (by first | rfl | (simp; done) | (simp [*]; done)), (by first | rfl | (simp; done) | (simp [*]; done)), H', ⟨Nat.le_refl _⟩, ⟨by (with_reducible repeat (first | apply Kd.R_alloc | apply Kd.R_drewN | apply Kd.R_drew)); exact HO_3.out⟩, ⟨by repeat (first | (with_reducible first | exact HB.out | apply below_alloc | apply pw_below_drewN | apply below_drew1) | exact HB.out)⟩⟩
          case round =>
            clear H'
            try clear p2
            try clear c3
            try clear c8
            try clear c8b0
            try clear c8b1
            try clear c9
            try clear p2
            obtain ⟨x6_2, x7_2, rfl, rfl, HA, HK2, HO_3, HB⟩ := hrel
            cases gk with
            | zero => exact absurd HA.out (by simp [mandatelaw05_LexAgain.l0])
            | succ k2 =>
              have H := HA.out
              clear HA
              simp only [mandatelaw05_LexAgain.l0] at H
              by_cases c10 : x7_2 < (t236.length : Int)
              · rw [if_pos c10] at H
                have c10b0 : decide (x7_2 < (t236.length : Int)) = true := decide_eq_true c10
                clear c10
                by_cases c11 : x7_2 > 0
                · rw [if_pos c11] at H
                  have c11b0 : decide (0 < x7_2) = true := decide_eq_true c11
                  clear c11
                  by_cases c12 : x6_2.size + 1 ≤ 9223372036854775807
                  · rw [if_pos c12] at H
                    have c12b0 := eq_true c12
                    have c12b1 : decide (x6_2.size + 1 ≤ 9223372036854775807) = true := decide_eq_true c12
                    try have c12b2 : (9223372036854775807 < x6_2.size + 1) = False := eq_false (Nat.not_lt.2 c12)
                    by_cases c13 : 0 ≤ x7_2
                    · rw [if_pos c13] at H
                      have c13b0 : decide (0 ≤ x7_2) = true := decide_eq_true c13
                      clear c13
                      by_cases c14 : 0 ≤ ((rd_T32 t236 x7_2).f1)
                      · rw [if_pos c14] at H
                        have c14b0 := eq_true c14
                        have c14b1 : decide (0 ≤ ((rd_T32 t236 x7_2).f1)) = true := decide_eq_true c14
                        clear c14
                        by_cases c15 : ((rd_T32 t236 x7_2).f1) ≤ ((rd_T32 t236 x7_2).f2)
                        · rw [if_pos c15] at H
                          have c15b0 := eq_true c15
                          have c15b1 : decide (((rd_T32 t236 x7_2).f1) ≤ ((rd_T32 t236 x7_2).f2)) = true := decide_eq_true c15
                          clear c15
                          by_cases c16 : ((rd_T32 t236 x7_2).f2) ≤ (a0.size : Int)
                          · rw [if_pos c16] at H
                            have c16b0 := eq_true c16
                            have c16b1 : decide (((rd_T32 t236 x7_2).f2) ≤ (a0.size : Int)) = true := decide_eq_true c16
                            clear c16
                            by_cases c17 : (x6_2 ++ (⟨#[32]⟩ : ByteArray)).size + (a0.extract (((rd_T32 t236 x7_2).f1) : Int).toNat (((rd_T32 t236 x7_2).f2) : Int).toNat).size ≤ 9223372036854775807
                            · rw [if_pos c17] at H
                              have c17b0 := eq_true c17
                              have c17b1 : decide ((x6_2 ++ (⟨#[32]⟩ : ByteArray)).size + (a0.extract (((rd_T32 t236 x7_2).f1) : Int).toNat (((rd_T32 t236 x7_2).f2) : Int).toNat).size ≤ 9223372036854775807) = true := decide_eq_true c17
                              try have c17b2 : (9223372036854775807 < (x6_2 ++ (⟨#[32]⟩ : ByteArray)).size + (a0.extract (((rd_T32 t236 x7_2).f1) : Int).toNat (((rd_T32 t236 x7_2).f2) : Int).toNat).size) = False := eq_false (Nat.not_lt.2 c17)
                              have H' := Aside0.mk H
                              clear H
                              obtain ⟨Ao18, co18, eo18⟩ := Kd.R_slice HO_3.out
                              subst eo18
                              have p241 : 0 ≤ (x7_2 : Int) := of_decide_eq_true (by first | (with_reducible assumption) | assumption)
                              have q241 : x7_2 < (t236.length : Int) := of_decide_eq_true (by first | (with_reducible assumption) | assumption)
                              obtain ⟨ad241, e241, hx241_0, hx241_1, hx241_2⟩ := at_T32 (Kd.R_reads' HO_3.out).2.2 x7_2 p241 q241
                              cases e241
                              replace p241 := eq_true p241
                              replace q241 := eq_true q241
                              have p242 : 0 ≤ (x7_2 : Int) := of_decide_eq_true (by first | (with_reducible assumption) | assumption)
                              have q242 : x7_2 < (t236.length : Int) := of_decide_eq_true (by first | (with_reducible assumption) | assumption)
                              obtain ⟨ad242, e242, hx242_0, hx242_1, hx242_2⟩ := at_T32 (Kd.R_reads' HO_3.out).2.2 x7_2 p242 q242
                              obtain rfl : ad241 = ad242 := (by injection e242)
                              replace p242 := eq_true p242
                              replace q242 := eq_true q242
                              go_wp2
                              repeat (go_quiet (fail); try go_wp2)
                              go_roundg k2
                              case measure => have := HJ4.out; have := HK2.out; omega
                              case rel => exact ⟨((x6_2 ++ (⟨#[32]⟩ : ByteArray)) ++ (a0.extract (((rd_T32 t236 x7_2).f1) : Int).toNat (((rd_T32 t236 x7_2).f2) : Int).toNat)), (wrap64 (x7_2 + 1)), (by first | rfl | (simp; done) | (simp [*]; done)), (by first | rfl | (simp; done) | (simp [*]; done)), H', ⟨by have := HJ4.out; have := HK2.out; omega⟩, ⟨by (with_reducible repeat (first | apply Kd.R_alloc | apply Kd.R_drewN | apply Kd.R_drew)); exact HO_3.out⟩, ⟨by repeat (first | (with_reducible first | exact HB.out | apply below_alloc | apply pw_below_drewN | apply below_drew1) | exact HB.out)⟩⟩
                            · rw [if_neg c17] at H
                              exact absurd H (by simp)
                          · rw [if_neg c16] at H
                            exact absurd H (by simp)
                        · rw [if_neg c15] at H
                          exact absurd H (by simp)
                      · rw [if_neg c14] at H
                        exact absurd H (by simp)
                    · rw [if_neg c13] at H
                      exact absurd H (by simp)
                  · rw [if_neg c12] at H
                    exact absurd H (by simp)
                · rw [if_neg c11] at H
                  have c11b0 : decide (0 < x7_2) = false := decide_eq_false c11
                  clear c11
                  by_cases c19 : 0 ≤ x7_2
                  · rw [if_pos c19] at H
                    have c19b0 : decide (0 ≤ x7_2) = true := decide_eq_true c19
                    clear c19
                    by_cases c20 : 0 ≤ ((rd_T32 t236 x7_2).f1)
                    · rw [if_pos c20] at H
                      have c20b0 := eq_true c20
                      have c20b1 : decide (0 ≤ ((rd_T32 t236 x7_2).f1)) = true := decide_eq_true c20
                      clear c20
                      by_cases c21 : ((rd_T32 t236 x7_2).f1) ≤ ((rd_T32 t236 x7_2).f2)
                      · rw [if_pos c21] at H
                        have c21b0 := eq_true c21
                        have c21b1 : decide (((rd_T32 t236 x7_2).f1) ≤ ((rd_T32 t236 x7_2).f2)) = true := decide_eq_true c21
                        clear c21
                        by_cases c22 : ((rd_T32 t236 x7_2).f2) ≤ (a0.size : Int)
                        · rw [if_pos c22] at H
                          have c22b0 := eq_true c22
                          have c22b1 : decide (((rd_T32 t236 x7_2).f2) ≤ (a0.size : Int)) = true := decide_eq_true c22
                          clear c22
                          by_cases c23 : x6_2.size + (a0.extract (((rd_T32 t236 x7_2).f1) : Int).toNat (((rd_T32 t236 x7_2).f2) : Int).toNat).size ≤ 9223372036854775807
                          · rw [if_pos c23] at H
                            have c23b0 := eq_true c23
                            have c23b1 : decide (x6_2.size + (a0.extract (((rd_T32 t236 x7_2).f1) : Int).toNat (((rd_T32 t236 x7_2).f2) : Int).toNat).size ≤ 9223372036854775807) = true := decide_eq_true c23
                            try have c23b2 : (9223372036854775807 < x6_2.size + (a0.extract (((rd_T32 t236 x7_2).f1) : Int).toNat (((rd_T32 t236 x7_2).f2) : Int).toNat).size) = False := eq_false (Nat.not_lt.2 c23)
                            have H' := Aside0.mk H
                            clear H
                            obtain ⟨Ao24, co24, eo24⟩ := Kd.R_slice HO_3.out
                            subst eo24
                            have p243 : 0 ≤ (x7_2 : Int) := of_decide_eq_true (by first | (with_reducible assumption) | assumption)
                            have q243 : x7_2 < (t236.length : Int) := of_decide_eq_true (by first | (with_reducible assumption) | assumption)
                            obtain ⟨ad243, e243, hx243_0, hx243_1, hx243_2⟩ := at_T32 (Kd.R_reads' HO_3.out).2.2 x7_2 p243 q243
                            cases e243
                            replace p243 := eq_true p243
                            replace q243 := eq_true q243
                            have p244 : 0 ≤ (x7_2 : Int) := of_decide_eq_true (by first | (with_reducible assumption) | assumption)
                            have q244 : x7_2 < (t236.length : Int) := of_decide_eq_true (by first | (with_reducible assumption) | assumption)
                            obtain ⟨ad244, e244, hx244_0, hx244_1, hx244_2⟩ := at_T32 (Kd.R_reads' HO_3.out).2.2 x7_2 p244 q244
                            obtain rfl : ad243 = ad244 := (by injection e244)
                            replace p244 := eq_true p244
                            replace q244 := eq_true q244
                            go_wp2
                            repeat (go_quiet (fail); try go_wp2)
                            go_roundg k2
                            case measure => have := HJ4.out; have := HK2.out; omega
                            case rel => exact ⟨(x6_2 ++ (a0.extract (((rd_T32 t236 x7_2).f1) : Int).toNat (((rd_T32 t236 x7_2).f2) : Int).toNat)), (wrap64 (x7_2 + 1)), (by first | rfl | (simp; done) | (simp [*]; done)), (by first | rfl | (simp; done) | (simp [*]; done)), H', ⟨by have := HJ4.out; have := HK2.out; omega⟩, ⟨by (with_reducible repeat (first | apply Kd.R_alloc | apply Kd.R_drewN | apply Kd.R_drew)); exact HO_3.out⟩, ⟨by repeat (first | (with_reducible first | exact HB.out | apply below_alloc | apply pw_below_drewN | apply below_drew1) | exact HB.out)⟩⟩
                          · rw [if_neg c23] at H
                            exact absurd H (by simp)
                        · rw [if_neg c22] at H
                          exact absurd H (by simp)
                      · rw [if_neg c21] at H
                        exact absurd H (by simp)
                    · rw [if_neg c20] at H
                      exact absurd H (by simp)
                  · rw [if_neg c19] at H
                    exact absurd H (by simp)
              · rw [if_neg c10] at H
                have c10b0 : decide (x7_2 < (t236.length : Int)) = false := decide_eq_false c10
                clear c10
                replace H := Option.bind_eq_some_iff.mp H
                obtain ⟨⟨t245, t246, t247⟩, A250, H⟩ := H
                replace H : (if t247 = 0 then (mandatelaw05_LexAgain.j2 k2 a0 t236 x6_2 t245 ((t245.length : Int) != (t236.length : Int))) else (mandatelaw05_LexAgain.j2 k2 a0 t236 x6_2 t245 true)) = some r := H
                have A25 := Aside0.mk A250
                clear A250
                have HC26 := Aside0.mk H
                clear H
                obtain ⟨Ao27, co27, eo27⟩ := Kd.R_slice HO_3.out
                subst eo27
                go_upto_region 14 with (first | (go_at_call 9; (with_reducible refine (lex_All.calls k2 x6_2 t245 t246 t247 _ A25.out).mono ?_); rintro e w28 ⟨v248, rfl, ho0, hb⟩; have n0_ := Aside0.mk (Kd.R_elder' (by (with_reducible repeat (first | apply Kd.R_alloc | apply Kd.R_drewN | apply Kd.R_drew)); exact HO_3.out) (Kd.R_base ho0) hb); have n1_ := Aside0.mk (Kd.R_lower (Kd.R_new' ho0 (Kd.R_lt (by (with_reducible repeat (first | apply Kd.R_alloc | apply Kd.R_drewN | apply Kd.R_drew)); exact HO_3.out))) (below_size (by repeat (first | (with_reducible first | exact HB.out | apply below_alloc | apply pw_below_drewN | apply below_drew1) | exact HB.out)))); have n2_ := Aside0.mk (below_step (by repeat (first | (with_reducible first | exact HB.out | apply below_alloc | apply pw_below_drewN | apply below_drew1) | exact HB.out)) hb); clear HO_3; clear HB; have HO_3 := n0_; have HO249 := n1_; have HB := n2_; clear n0_ n1_ n2_; (try clear hb); (try clear hb2); (try clear hk); (try clear hi); (try clear ho0)))
                repeat (go_quiet (first | (go_at_call 9; (with_reducible refine (lex_All.calls k2 x6_2 t245 t246 t247 _ A25.out).mono ?_); rintro e w28 ⟨v248, rfl, ho0, hb⟩; have n0_ := Aside0.mk (Kd.R_elder' (by (with_reducible repeat (first | apply Kd.R_alloc | apply Kd.R_drewN | apply Kd.R_drew)); exact HO_3.out) (Kd.R_base ho0) hb); have n1_ := Aside0.mk (Kd.R_lower (Kd.R_new' ho0 (Kd.R_lt (by (with_reducible repeat (first | apply Kd.R_alloc | apply Kd.R_drewN | apply Kd.R_drew)); exact HO_3.out))) (below_size (by repeat (first | (with_reducible first | exact HB.out | apply below_alloc | apply pw_below_drewN | apply below_drew1) | exact HB.out)))); have n2_ := Aside0.mk (below_step (by repeat (first | (with_reducible first | exact HB.out | apply below_alloc | apply pw_below_drewN | apply below_drew1) | exact HB.out)) hb); clear HO_3; clear HB; have HO_3 := n0_; have HO249 := n1_; have HB := n2_; clear n0_ n1_ n2_; (try clear hb); (try clear hb2); (try clear hk); (try clear hi); (try clear ho0))); go_upto_region 14 with (first | (go_at_call 9; (with_reducible refine (lex_All.calls k2 x6_2 t245 t246 t247 _ A25.out).mono ?_); rintro e w28 ⟨v248, rfl, ho0, hb⟩; have n0_ := Aside0.mk (Kd.R_elder' (by (with_reducible repeat (first | apply Kd.R_alloc | apply Kd.R_drewN | apply Kd.R_drew)); exact HO_3.out) (Kd.R_base ho0) hb); have n1_ := Aside0.mk (Kd.R_lower (Kd.R_new' ho0 (Kd.R_lt (by (with_reducible repeat (first | apply Kd.R_alloc | apply Kd.R_drewN | apply Kd.R_drew)); exact HO_3.out))) (below_size (by repeat (first | (with_reducible first | exact HB.out | apply below_alloc | apply pw_below_drewN | apply below_drew1) | exact HB.out)))); have n2_ := Aside0.mk (below_step (by repeat (first | (with_reducible first | exact HB.out | apply below_alloc | apply pw_below_drewN | apply below_drew1) | exact HB.out)) hb); clear HO_3; clear HB; have HO_3 := n0_; have HO249 := n1_; have HB := n2_; clear n0_ n1_ n2_; (try clear hb); (try clear hb2); (try clear hk); (try clear hi); (try clear ho0))))
                (try simp only [Act.put, List.setIfInBounds_toArray, List.set_cons_zero, List.set_cons_succ])
                go_cut [65] (fun v65 wc => ∃ (kq : Nat) (x65_25 : Bool), v65 = .bool x65_25 ∧ Aside0 (mandatelaw05_LexAgain.j2 kq a0 t236 x6_2 t245 x65_25 = some r) ∧ Aside0 (kq ≤ k2) ∧ Aside0 (Kd.R k32 32 wc w.heap.size (fun k_ => some k_ ≠ (v248 : Value).ownBlock) (.slice Ao27 t236.length co27) t236) ∧ Aside0 (Kd.R k32 32 wc w.heap.size (fun k_ => some k_ ≠ ((.slice Ao27 t236.length co27) : Value).ownBlock) v248 t245) ∧ Aside0 (Below w.heap.size w wc))
                case first =>
                  have H := HC26.out
                  clear HC26
                  by_cases c29 : t247 = 0
                  · rw [if_pos c29] at H
                    have c29b0 : (t247 == 0) = true := beq_iff_eq.mpr c29
                    have c29b1 : (t247 != 0) = false := bne_eq_false_iff_eq.mpr c29
                    clear c29
                    (first | rw [c29b0] | (simp only [i64_w, i32_w]; rw [c29b0]) | skip)
                    have H' := Aside0.mk H
                    clear H
                    obtain ⟨Ao30, co30, eo30⟩ := Kd.R_slice HO249.out
                    subst eo30
                    go_wp2
                    repeat (go_quiet (fail); try go_wp2)
                    go_meet
                    case rel => exact ⟨_, (((t245.length : Int) != (t236.length : Int))), (by first | rfl | (simp; done) | (simp [*]; done)), H', ⟨by have := HJ4.out; have := HK2.out; first | omega | exact Nat.le_refl _⟩, ⟨by (with_reducible repeat (first | apply Kd.R_alloc | apply Kd.R_drewN | apply Kd.R_drew)); exact Kd.R_mono HO_3.out (fun _ hk => hk.2)⟩, ⟨by (with_reducible repeat (first | apply Kd.R_alloc | apply Kd.R_drewN | apply Kd.R_drew)); exact Kd.R_mono HO249.out (fun _ hk => hk.2)⟩, ⟨by repeat (first | (with_reducible first | exact HB.out | apply below_alloc | apply pw_below_drewN | apply below_drew1) | exact HB.out)⟩⟩
                  · rw [if_neg c29] at H
                    have c29b0 : (t247 == 0) = false := beq_eq_false_iff_ne.mpr c29
                    have c29b1 : (t247 != 0) = true := bne_iff_ne.mpr c29
                    (first | rw [c29b0] | (simp only [i64_w, i32_w]; rw [c29b0]) | skip)
                    have H' := Aside0.mk H
                    clear H
                    go_wp2
                    repeat (go_quiet (fail); try go_wp2)
                    go_meet
                    case rel => exact ⟨_, (true), (by first | rfl | (simp; done) | (simp [*]; done)), H', ⟨by have := HJ4.out; have := HK2.out; first | omega | exact Nat.le_refl _⟩, ⟨by (with_reducible repeat (first | apply Kd.R_alloc | apply Kd.R_drewN | apply Kd.R_drew)); exact Kd.R_mono HO_3.out (fun _ hk => hk.2)⟩, ⟨by (with_reducible repeat (first | apply Kd.R_alloc | apply Kd.R_drewN | apply Kd.R_drew)); exact Kd.R_mono HO249.out (fun _ hk => hk.2)⟩, ⟨by repeat (first | (with_reducible first | exact HB.out | apply below_alloc | apply pw_below_drewN | apply below_drew1) | exact HB.out)⟩⟩
                case rest =>
                  clear HC26
                  try clear c1
                  try clear c2
                  try clear p2
                  try clear q2
                  try clear hx2
                  try clear c3
                  try clear p6
                  try clear c8
                  try clear c8b0
                  try clear c8b1
                  try clear c9
                  try clear c10
                  try clear c10b0
                  try clear c11
                  try clear c11b0
                  try clear c12
                  try clear c12b0
                  try clear c12b1
                  try clear c12b2
                  try clear c13
                  try clear c13b0
                  try clear c14
                  try clear c14b0
                  try clear c14b1
                  try clear c15
                  try clear c15b0
                  try clear c15b1
                  try clear c16
                  try clear c16b0
                  try clear c16b1
                  try clear c17
                  try clear c17b0
                  try clear c17b1
                  try clear c17b2
                  try clear c19
                  try clear c19b0
                  try clear c20
                  try clear c20b0
                  try clear c20b1
                  try clear c21
                  try clear c21b0
                  try clear c21b1
                  try clear c22
                  try clear c22b0
                  try clear c22b1
                  try clear c23
                  try clear c23b0
                  try clear c23b1
                  try clear c23b2
                  try clear p24
                  try clear q24
                  try clear hx24
                  try clear c29
                  try clear c29b0
                  try clear c29b1
                  try clear hx241_0
                  try clear hx241_1
                  try clear hx241_2
                  try clear hx242_0
                  try clear hx242_1
                  try clear hx242_2
                  try clear hx243_0
                  try clear hx243_1
                  try clear hx243_2
                  try clear hx244_0
                  try clear hx244_1
                  try clear hx244_2
                  try clear p2
                  try clear p241
                  try clear p242
                  try clear p243
                  try clear p244
                  try clear q241
                  try clear q242
                  try clear q243
                  try clear q244
                  obtain ⟨kq, x65_25, rfl, HA, HJ25, HO_3, HO_8, HB⟩ := hcut
                  cases kq with
                  | zero => exact absurd HA.out (by simp [mandatelaw05_LexAgain.j2])
                  | succ kj25 =>
                    have H := HA.out
                    clear HA
                    simp only [mandatelaw05_LexAgain.j2] at H
                    by_cases c31 : x65_25 = true
                    · subst c31
                      have H1 : (some false) = some r := by rw [if_pos rfl] at H; exact H
                      clear H
                      have H := H1
                      clear H1
                      obtain rfl := Option.some.inj H
                      go_wp2
                      repeat (go_quiet (fail); try go_wp2)
                      go_ret
                      exact ⟨by first | rfl | (simp [errW_none, errW_some] <;> rfl) | (simp [*, errW_none, errW_some] <;> rfl), by repeat (first | (with_reducible first | exact HB.out | apply below_alloc | apply pw_below_drewN | apply below_drew1) | exact HB.out)⟩
                    · replace c31 := Bool.eq_false_iff.mpr c31
                      subst c31
                      have H1 : (mandatelaw05_LexAgain.l1 kj25 a0 t236 x6_2 t245 0) = some r := by rw [if_neg (show ¬ (false = true) by decide)] at H; exact H
                      clear H
                      have H := H1
                      clear H1
                      have H' := Aside0.mk H
                      clear H
                      go_wp2
                      repeat (go_quiet (fail); try go_wp2)
                      go_loopg [11] kj25 (fun kq v11 w' => ∃ (x11_4 : Int), v11 = .int .i64 x11_4 ∧ Aside0 (mandatelaw05_LexAgain.l1 kq a0 t236 x6_2 t245 x11_4 = some r) ∧ Aside0 (kq ≤ kj25) ∧ Aside0 (Kd.R k32 32 w' w.heap.size (fun k_ => some k_ ≠ (v248 : Value).ownBlock) (.slice Ao27 t236.length co27) t236) ∧ Aside0 (Kd.R k32 32 w' w.heap.size (fun k_ => some k_ ≠ ((.slice Ao27 t236.length co27) : Value).ownBlock) v248 t245) ∧ Aside0 (Below w.heap.size w w'))
                      case atStart => exact ⟨(0), (by first | rfl | (simp; done) | (simp [*]; done)), H', ⟨Nat.le_refl _⟩, ⟨by (with_reducible repeat (first | apply Kd.R_alloc | apply Kd.R_drewN | apply Kd.R_drew)); exact HO_3.out⟩, ⟨by (with_reducible repeat (first | apply Kd.R_alloc | apply Kd.R_drewN | apply Kd.R_drew)); exact HO_8.out⟩, ⟨by repeat (first | (with_reducible first | exact HB.out | apply below_alloc | apply pw_below_drewN | apply below_drew1) | exact HB.out)⟩⟩
                      case round =>
                        clear H'
                        try clear c1
                        try clear c2
                        try clear p2
                        try clear q2
                        try clear hx2
                        try clear c3
                        try clear p6
                        try clear c8
                        try clear c8b0
                        try clear c8b1
                        try clear c9
                        try clear c10
                        try clear c10b0
                        try clear c11
                        try clear c11b0
                        try clear c12
                        try clear c12b0
                        try clear c12b1
                        try clear c12b2
                        try clear c13
                        try clear c13b0
                        try clear c14
                        try clear c14b0
                        try clear c14b1
                        try clear c15
                        try clear c15b0
                        try clear c15b1
                        try clear c16
                        try clear c16b0
                        try clear c16b1
                        try clear c17
                        try clear c17b0
                        try clear c17b1
                        try clear c17b2
                        try clear c19
                        try clear c19b0
                        try clear c20
                        try clear c20b0
                        try clear c20b1
                        try clear c21
                        try clear c21b0
                        try clear c21b1
                        try clear c22
                        try clear c22b0
                        try clear c22b1
                        try clear c23
                        try clear c23b0
                        try clear c23b1
                        try clear c23b2
                        try clear p24
                        try clear q24
                        try clear hx24
                        try clear c29
                        try clear c29b0
                        try clear c29b1
                        try clear c31
                        try clear hx241_0
                        try clear hx241_1
                        try clear hx241_2
                        try clear hx242_0
                        try clear hx242_1
                        try clear hx242_2
                        try clear hx243_0
                        try clear hx243_1
                        try clear hx243_2
                        try clear hx244_0
                        try clear hx244_1
                        try clear hx244_2
                        try clear p2
                        try clear p24
                        try clear p241
                        try clear p242
                        try clear p243
                        try clear p244
                        try clear p6
                        try clear q2
                        try clear q24
                        try clear q241
                        try clear q242
                        try clear q243
                        try clear q244
                        obtain ⟨x11_4, rfl, HA, HK4, HO_3, HO_8, HB⟩ := hrel
                        cases gk with
                        | zero => exact absurd HA.out (by simp [mandatelaw05_LexAgain.l1])
                        | succ k4 =>
                          have H := HA.out
                          clear HA
                          simp only [mandatelaw05_LexAgain.l1] at H
                          by_cases c32 : x11_4 < (t236.length : Int)
                          · rw [if_pos c32] at H
                            have c32b0 : decide (x11_4 < (t236.length : Int)) = true := decide_eq_true c32
                            clear c32
                            by_cases c33 : 0 ≤ x11_4
                            · rw [if_pos c33] at H
                              have c33b0 : decide (0 ≤ x11_4) = true := decide_eq_true c33
                              clear c33
                              by_cases c34 : x11_4 < (t245.length : Int)
                              · rw [if_pos c34] at H
                                have c34b0 : decide (x11_4 < (t245.length : Int)) = true := decide_eq_true c34
                                clear c34
                                by_cases c35 : ((rd_T32 t245 x11_4).f0) = ((rd_T32 t236 x11_4).f0)
                                · rw [if_pos c35] at H
                                  have c35b0 : (((rd_T32 t245 x11_4).f0) == ((rd_T32 t236 x11_4).f0)) = true := beq_iff_eq.mpr c35
                                  have c35b1 : (((rd_T32 t245 x11_4).f0) != ((rd_T32 t236 x11_4).f0)) = false := bne_eq_false_iff_eq.mpr c35
                                  clear c35
                                  by_cases c36 : 0 ≤ ((rd_T32 t245 x11_4).f1)
                                  · rw [if_pos c36] at H
                                    have c36b0 := eq_true c36
                                    have c36b1 : decide (0 ≤ ((rd_T32 t245 x11_4).f1)) = true := decide_eq_true c36
                                    clear c36
                                    by_cases c37 : ((rd_T32 t245 x11_4).f1) ≤ ((rd_T32 t245 x11_4).f2)
                                    · rw [if_pos c37] at H
                                      have c37b0 := eq_true c37
                                      have c37b1 : decide (((rd_T32 t245 x11_4).f1) ≤ ((rd_T32 t245 x11_4).f2)) = true := decide_eq_true c37
                                      clear c37
                                      by_cases c38 : ((rd_T32 t245 x11_4).f2) ≤ (x6_2.size : Int)
                                      · rw [if_pos c38] at H
                                        have c38b0 := eq_true c38
                                        have c38b1 : decide (((rd_T32 t245 x11_4).f2) ≤ (x6_2.size : Int)) = true := decide_eq_true c38
                                        clear c38
                                        by_cases c39 : 0 ≤ ((rd_T32 t236 x11_4).f1)
                                        · rw [if_pos c39] at H
                                          have c39b0 := eq_true c39
                                          have c39b1 : decide (0 ≤ ((rd_T32 t236 x11_4).f1)) = true := decide_eq_true c39
                                          clear c39
                                          by_cases c40 : ((rd_T32 t236 x11_4).f1) ≤ ((rd_T32 t236 x11_4).f2)
                                          · rw [if_pos c40] at H
                                            have c40b0 := eq_true c40
                                            have c40b1 : decide (((rd_T32 t236 x11_4).f1) ≤ ((rd_T32 t236 x11_4).f2)) = true := decide_eq_true c40
                                            clear c40
                                            by_cases c41 : ((rd_T32 t236 x11_4).f2) ≤ (a0.size : Int)
                                            · rw [if_pos c41] at H
                                              have c41b0 := eq_true c41
                                              have c41b1 : decide (((rd_T32 t236 x11_4).f2) ≤ (a0.size : Int)) = true := decide_eq_true c41
                                              clear c41
                                              by_cases c42 : (x6_2.extract (((rd_T32 t245 x11_4).f1) : Int).toNat (((rd_T32 t245 x11_4).f2) : Int).toNat).toList = (a0.extract (((rd_T32 t236 x11_4).f1) : Int).toNat (((rd_T32 t236 x11_4).f2) : Int).toNat).toList
                                              · rw [if_pos c42] at H
                                                have c42b0 : ((x6_2.extract (((rd_T32 t245 x11_4).f1) : Int).toNat (((rd_T32 t245 x11_4).f2) : Int).toNat).toList == (a0.extract (((rd_T32 t236 x11_4).f1) : Int).toNat (((rd_T32 t236 x11_4).f2) : Int).toNat).toList) = true := beq_iff_eq.mpr c42
                                                have c42b1 : ((x6_2.extract (((rd_T32 t245 x11_4).f1) : Int).toNat (((rd_T32 t245 x11_4).f2) : Int).toNat).toList != (a0.extract (((rd_T32 t236 x11_4).f1) : Int).toNat (((rd_T32 t236 x11_4).f2) : Int).toNat).toList) = false := bne_eq_false_iff_eq.mpr c42
                                                clear c42
                                                have H' := Aside0.mk H
                                                clear H
                                                obtain ⟨Ao43, co43, eo43⟩ := Kd.R_slice HO_8.out
                                                subst eo43
                                                have p250 : 0 ≤ (x11_4 : Int) := of_decide_eq_true (by first | (with_reducible assumption) | assumption)
                                                have q250 : x11_4 < (t245.length : Int) := of_decide_eq_true (by first | (with_reducible assumption) | assumption)
                                                obtain ⟨ad250, e250, hx250_0, hx250_1, hx250_2⟩ := at_T32 (Kd.R_reads' HO_8.out).2.2 x11_4 p250 q250
                                                cases e250
                                                replace p250 := eq_true p250
                                                replace q250 := eq_true q250
                                                have p251 : 0 ≤ (x11_4 : Int) := of_decide_eq_true (by first | (with_reducible assumption) | assumption)
                                                have q251 : x11_4 < (t236.length : Int) := of_decide_eq_true (by first | (with_reducible assumption) | assumption)
                                                obtain ⟨ad251, e251, hx251_0, hx251_1, hx251_2⟩ := at_T32 (Kd.R_reads' HO_3.out).2.2 x11_4 p251 q251
                                                cases e251
                                                replace p251 := eq_true p251
                                                replace q251 := eq_true q251
                                                have p252 : 0 ≤ (x11_4 : Int) := of_decide_eq_true (by first | (with_reducible assumption) | assumption)
                                                have q252 : x11_4 < (t245.length : Int) := of_decide_eq_true (by first | (with_reducible assumption) | assumption)
                                                obtain ⟨ad252, e252, hx252_0, hx252_1, hx252_2⟩ := at_T32 (Kd.R_reads' HO_8.out).2.2 x11_4 p252 q252
                                                obtain rfl : ad250 = ad252 := (by injection e252)
                                                replace p252 := eq_true p252
                                                replace q252 := eq_true q252
                                                have p253 : 0 ≤ (x11_4 : Int) := of_decide_eq_true (by first | (with_reducible assumption) | assumption)
                                                have q253 : x11_4 < (t245.length : Int) := of_decide_eq_true (by first | (with_reducible assumption) | assumption)
                                                obtain ⟨ad253, e253, hx253_0, hx253_1, hx253_2⟩ := at_T32 (Kd.R_reads' HO_8.out).2.2 x11_4 p253 q253
                                                obtain rfl : ad250 = ad253 := (by injection e253)
                                                replace p253 := eq_true p253
                                                replace q253 := eq_true q253
                                                have p254 : 0 ≤ (x11_4 : Int) := of_decide_eq_true (by first | (with_reducible assumption) | assumption)
                                                have q254 : x11_4 < (t236.length : Int) := of_decide_eq_true (by first | (with_reducible assumption) | assumption)
                                                obtain ⟨ad254, e254, hx254_0, hx254_1, hx254_2⟩ := at_T32 (Kd.R_reads' HO_3.out).2.2 x11_4 p254 q254
                                                obtain rfl : ad251 = ad254 := (by injection e254)
                                                replace p254 := eq_true p254
                                                replace q254 := eq_true q254
                                                have p255 : 0 ≤ (x11_4 : Int) := of_decide_eq_true (by first | (with_reducible assumption) | assumption)
                                                have q255 : x11_4 < (t236.length : Int) := of_decide_eq_true (by first | (with_reducible assumption) | assumption)
                                                obtain ⟨ad255, e255, hx255_0, hx255_1, hx255_2⟩ := at_T32 (Kd.R_reads' HO_3.out).2.2 x11_4 p255 q255
                                                obtain rfl : ad251 = ad255 := (by injection e255)
                                                replace p255 := eq_true p255
                                                replace q255 := eq_true q255
                                                go_wp2
                                                repeat (go_quiet (fail); try go_wp2)
                                                go_roundg k4
                                                case measure => have := HJ4.out; have := HK2.out; have := HJ25.out; have := HK4.out; omega
                                                case rel => exact ⟨(wrap64 (x11_4 + 1)), (by first | rfl | (simp; done) | (simp [*]; done)), H', ⟨by have := HJ4.out; have := HK2.out; have := HJ25.out; have := HK4.out; omega⟩, ⟨by (with_reducible repeat (first | apply Kd.R_alloc | apply Kd.R_drewN | apply Kd.R_drew)); exact HO_3.out⟩, ⟨by (with_reducible repeat (first | apply Kd.R_alloc | apply Kd.R_drewN | apply Kd.R_drew)); exact HO_8.out⟩, ⟨by repeat (first | (with_reducible first | exact HB.out | apply below_alloc | apply pw_below_drewN | apply below_drew1) | exact HB.out)⟩⟩
                                              · rw [if_neg c42] at H
                                                have c42b0 : ((x6_2.extract (((rd_T32 t245 x11_4).f1) : Int).toNat (((rd_T32 t245 x11_4).f2) : Int).toNat).toList == (a0.extract (((rd_T32 t236 x11_4).f1) : Int).toNat (((rd_T32 t236 x11_4).f2) : Int).toNat).toList) = false := beq_eq_false_iff_ne.mpr c42
                                                have c42b1 : ((x6_2.extract (((rd_T32 t245 x11_4).f1) : Int).toNat (((rd_T32 t245 x11_4).f2) : Int).toNat).toList != (a0.extract (((rd_T32 t236 x11_4).f1) : Int).toNat (((rd_T32 t236 x11_4).f2) : Int).toNat).toList) = true := bne_iff_ne.mpr c42
                                                obtain rfl := Option.some.inj H
                                                obtain ⟨Ao44, co44, eo44⟩ := Kd.R_slice HO_8.out
                                                subst eo44
                                                have p250 : 0 ≤ (x11_4 : Int) := of_decide_eq_true (by first | (with_reducible assumption) | assumption)
                                                have q250 : x11_4 < (t245.length : Int) := of_decide_eq_true (by first | (with_reducible assumption) | assumption)
                                                obtain ⟨ad250, e250, hx250_0, hx250_1, hx250_2⟩ := at_T32 (Kd.R_reads' HO_8.out).2.2 x11_4 p250 q250
                                                cases e250
                                                replace p250 := eq_true p250
                                                replace q250 := eq_true q250
                                                have p251 : 0 ≤ (x11_4 : Int) := of_decide_eq_true (by first | (with_reducible assumption) | assumption)
                                                have q251 : x11_4 < (t236.length : Int) := of_decide_eq_true (by first | (with_reducible assumption) | assumption)
                                                obtain ⟨ad251, e251, hx251_0, hx251_1, hx251_2⟩ := at_T32 (Kd.R_reads' HO_3.out).2.2 x11_4 p251 q251
                                                cases e251
                                                replace p251 := eq_true p251
                                                replace q251 := eq_true q251
                                                have p252 : 0 ≤ (x11_4 : Int) := of_decide_eq_true (by first | (with_reducible assumption) | assumption)
                                                have q252 : x11_4 < (t245.length : Int) := of_decide_eq_true (by first | (with_reducible assumption) | assumption)
                                                obtain ⟨ad252, e252, hx252_0, hx252_1, hx252_2⟩ := at_T32 (Kd.R_reads' HO_8.out).2.2 x11_4 p252 q252
                                                obtain rfl : ad250 = ad252 := (by injection e252)
                                                replace p252 := eq_true p252
                                                replace q252 := eq_true q252
                                                have p253 : 0 ≤ (x11_4 : Int) := of_decide_eq_true (by first | (with_reducible assumption) | assumption)
                                                have q253 : x11_4 < (t245.length : Int) := of_decide_eq_true (by first | (with_reducible assumption) | assumption)
                                                obtain ⟨ad253, e253, hx253_0, hx253_1, hx253_2⟩ := at_T32 (Kd.R_reads' HO_8.out).2.2 x11_4 p253 q253
                                                obtain rfl : ad250 = ad253 := (by injection e253)
                                                replace p253 := eq_true p253
                                                replace q253 := eq_true q253
                                                have p254 : 0 ≤ (x11_4 : Int) := of_decide_eq_true (by first | (with_reducible assumption) | assumption)
                                                have q254 : x11_4 < (t236.length : Int) := of_decide_eq_true (by first | (with_reducible assumption) | assumption)
                                                obtain ⟨ad254, e254, hx254_0, hx254_1, hx254_2⟩ := at_T32 (Kd.R_reads' HO_3.out).2.2 x11_4 p254 q254
                                                obtain rfl : ad251 = ad254 := (by injection e254)
                                                replace p254 := eq_true p254
                                                replace q254 := eq_true q254
                                                have p255 : 0 ≤ (x11_4 : Int) := of_decide_eq_true (by first | (with_reducible assumption) | assumption)
                                                have q255 : x11_4 < (t236.length : Int) := of_decide_eq_true (by first | (with_reducible assumption) | assumption)
                                                obtain ⟨ad255, e255, hx255_0, hx255_1, hx255_2⟩ := at_T32 (Kd.R_reads' HO_3.out).2.2 x11_4 p255 q255
                                                obtain rfl : ad251 = ad255 := (by injection e255)
                                                replace p255 := eq_true p255
                                                replace q255 := eq_true q255
                                                go_wp2
                                                repeat (go_quiet (fail); try go_wp2)
                                                go_ret
                                                exact ⟨by first | rfl | (simp [errW_none, errW_some] <;> rfl) | (simp [*, errW_none, errW_some] <;> rfl), by repeat (first | (with_reducible first | exact HB.out | apply below_alloc | apply pw_below_drewN | apply below_drew1) | exact HB.out)⟩
                                            · rw [if_neg c41] at H
                                              exact absurd H (by simp)
                                          · rw [if_neg c40] at H
                                            exact absurd H (by simp)
                                        · rw [if_neg c39] at H
                                          exact absurd H (by simp)
                                      · rw [if_neg c38] at H
                                        exact absurd H (by simp)
                                    · rw [if_neg c37] at H
                                      exact absurd H (by simp)
                                  · rw [if_neg c36] at H
                                    exact absurd H (by simp)
                                · rw [if_neg c35] at H
                                  have c35b0 : (((rd_T32 t245 x11_4).f0) == ((rd_T32 t236 x11_4).f0)) = false := beq_eq_false_iff_ne.mpr c35
                                  have c35b1 : (((rd_T32 t245 x11_4).f0) != ((rd_T32 t236 x11_4).f0)) = true := bne_iff_ne.mpr c35
                                  obtain rfl := Option.some.inj H
                                  obtain ⟨Ao45, co45, eo45⟩ := Kd.R_slice HO_8.out
                                  subst eo45
                                  have p250 : 0 ≤ (x11_4 : Int) := of_decide_eq_true (by first | (with_reducible assumption) | assumption)
                                  have q250 : x11_4 < (t245.length : Int) := of_decide_eq_true (by first | (with_reducible assumption) | assumption)
                                  obtain ⟨ad250, e250, hx250_0, hx250_1, hx250_2⟩ := at_T32 (Kd.R_reads' HO_8.out).2.2 x11_4 p250 q250
                                  cases e250
                                  replace p250 := eq_true p250
                                  replace q250 := eq_true q250
                                  have p251 : 0 ≤ (x11_4 : Int) := of_decide_eq_true (by first | (with_reducible assumption) | assumption)
                                  have q251 : x11_4 < (t236.length : Int) := of_decide_eq_true (by first | (with_reducible assumption) | assumption)
                                  obtain ⟨ad251, e251, hx251_0, hx251_1, hx251_2⟩ := at_T32 (Kd.R_reads' HO_3.out).2.2 x11_4 p251 q251
                                  cases e251
                                  replace p251 := eq_true p251
                                  replace q251 := eq_true q251
                                  go_wp2
                                  repeat (go_quiet (fail); try go_wp2)
                                  go_ret
                                  exact ⟨by first | rfl | (simp [errW_none, errW_some] <;> rfl) | (simp [*, errW_none, errW_some] <;> rfl), by repeat (first | (with_reducible first | exact HB.out | apply below_alloc | apply pw_below_drewN | apply below_drew1) | exact HB.out)⟩
                              · rw [if_neg c34] at H
                                exact absurd H (by simp)
                            · rw [if_neg c33] at H
                              exact absurd H (by simp)
                          · rw [if_neg c32] at H
                            have c32b0 : decide (x11_4 < (t236.length : Int)) = false := decide_eq_false c32
                            clear c32
                            obtain rfl := Option.some.inj H
                            go_wp2
                            repeat (go_quiet (fail); try go_wp2)
                            go_ret
                            exact ⟨by first | rfl | (simp [errW_none, errW_some] <;> rfl) | (simp [*, errW_none, errW_some] <;> rfl), by repeat (first | (with_reducible first | exact HB.out | apply below_alloc | apply pw_below_drewN | apply below_drew1) | exact HB.out)⟩
  · replace c3 := Bool.eq_false_iff.mpr c3
    subst c3
    have H1 : (some false) = some r := by rw [if_neg (show ¬ (false = true) by decide)] at H; exact H
    clear H
    have H := H1
    clear H1
    obtain rfl := Option.some.inj H
    go_enter Try.func8, Try.ntmps8
    go_wp2_with (first | (go_at_call 11; (with_reducible refine (mandatelaw05_fixed.calls k  false _ A2.out).mono ?_); rintro e w46 ⟨rfl, hb⟩; have n0_ := Aside0.mk (below_step (by repeat (first | (with_reducible first | exact HB.out | apply below_alloc | apply pw_below_drewN | apply below_drew1) | exact HB.out)) hb); clear HB; have HB := n0_; clear n0_; (try clear hb); (try clear hb2); (try clear hk); (try clear hi)))
    repeat (go_quiet (first | (go_at_call 11; (with_reducible refine (mandatelaw05_fixed.calls k  false _ A2.out).mono ?_); rintro e w46 ⟨rfl, hb⟩; have n0_ := Aside0.mk (below_step (by repeat (first | (with_reducible first | exact HB.out | apply below_alloc | apply pw_below_drewN | apply below_drew1) | exact HB.out)) hb); clear HB; have HB := n0_; clear n0_; (try clear hb); (try clear hb2); (try clear hk); (try clear hi))); try go_wp2_with (first | (go_at_call 11; (with_reducible refine (mandatelaw05_fixed.calls k  false _ A2.out).mono ?_); rintro e w46 ⟨rfl, hb⟩; have n0_ := Aside0.mk (below_step (by repeat (first | (with_reducible first | exact HB.out | apply below_alloc | apply pw_below_drewN | apply below_drew1) | exact HB.out)) hb); clear HB; have HB := n0_; clear n0_; (try clear hb); (try clear hb2); (try clear hk); (try clear hi))))
    go_ret
    exact ⟨by first | rfl | (simp [errW_none, errW_some] <;> rfl) | (simp [*, errW_none, errW_some] <;> rfl), by repeat (first | (with_reducible first | exact HB.out | apply below_alloc | apply pw_below_drewN | apply below_drew1) | exact HB.out)⟩

/-- THE ONE PURE STATEMENT of mandatelaw05_LexAgain: yours. -/
def mandatelaw05_LexAgain.Pure : Prop := ∀ (a0 : ByteArray), a0.size ≤ 140737488351232 → ∃ k, mandatelaw05_LexAgain.f k a0 = some true
theorem mandatelaw05_LexAgain.walk (P : mandatelaw05_LexAgain.Pure) (a0 : ByteArray) (w : World) (w0 : a0.size ≤ 140737488351232) :
    Calls Try.prog 8 #[.string a0] w fun e w' => e = .returned (.bool true) ∧ Below w.heap.size w w' := by
  obtain ⟨k, h⟩ := P a0 w0
  refine (mandatelaw05_LexAgain.calls k a0 true w h).mono ?_
  rintro e w' ⟨rfl, hd⟩
  exact ⟨rfl, hd⟩

end Go.Proofs.Ytbhcdbmhgocojaa.PA
