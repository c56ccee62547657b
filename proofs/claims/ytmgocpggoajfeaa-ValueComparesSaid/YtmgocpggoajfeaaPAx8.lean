/- Go functions told as plain functions, and that the program's calls come to just these, for all arguments. Written by the session's own program wip/tools/myprint.py (it drives the kit's printer). -/
import Derived.Test.YtmgocpggoajfeaaPAx0
import Derived.Test.YtmgocpggoajfeaaPAx7
namespace Go.Proofs.Ytmgocpggoajfeaa.PA
open Go.RowKit Go.Proofs.YtmgocpggoajfeaaW.PrintWords Go.Proofs.YtmgocpggoajfeaaW.PrintLast Go.Proofs.YtmgocpggoajfeaaW.PrintMore
attribute [local go_sem] max2_int min2_int max_two min_two max_three min_three max_four min_four   -- for this text's walks alone
set_option linter.unusedVariables false
set_option linter.unusedSimpArgs false

/-! ### bits_Len: function 51 -/
def bits_Len.f (k : Nat) (a0 : Int) : Option (Int) := (bits_Len64.f k a0).bind fun t137 => (some t137)
theorem bits_Len.mono : ∀ a0 k, LeO (bits_Len.f k a0) (bits_Len.f (k + 1) a0) := by
  intro a0 k
  unfold bits_Len.f
  repeat' first
      | (with_reducible exact bits_Len64.mono _ _)
      | (with_reducible exact LeO.refl _)
      | (with_reducible exact LeO.none _)
      | (with_reducible refine LeO.ite ?_ ?_)
      | (with_reducible refine LeO.bind ?_ (fun _ => ?_))
      | exact bits_Len64.mono _ _
      | exact LeO.none _
      | refine LeO.ite ?_ ?_
      | refine LeO.bind ?_ (fun _ => ?_)
set_option maxHeartbeats 8000000 in
set_option maxRecDepth 100000 in
theorem bits_Len.calls (k : Nat) (a0 : Int) (r : Int) (w : World) (h : bits_Len.f k a0 = some r) :
    Calls Try.prog 51 #[.int .u64 a0] w fun e w' => e = .returned (.int .i64 r) ∧ Drawn0 w w' := by
  have H : ((bits_Len64.f k a0).bind fun t137 => (some t137)) = some r := h
  clear h
  replace H := Option.bind_eq_some_iff.mp H
  obtain ⟨t137, A20, H⟩ := H
  replace H : (some t137) = some r := H
  have A2 := Aside0.mk A20
  clear A20
  obtain rfl := Option.some.inj H
  go_enter Try.func51, Try.ntmps51
  go_wp2_with (first | ((with_reducible refine gate_callee (f := 62) rfl ?_); refine goesL_ (some 7) rfl rfl Try.func62 (by kernel_rfl) rfl #[.int .u64 a0] rfl (by (try simp only [List.map_toArray, List.map_cons, List.map_nil]); first | done | rfl | (simp only [List.length_drop, List.length_take]; rfl)) ?_; (with_reducible refine (bits_Len64.calls k a0 t137 _ A2.out).mono ?_); rintro e w' ⟨rfl, ⟨nd, rfl⟩⟩; refine ⟨_, rfl, ?_⟩))
  go_ret
  exact ⟨by first | rfl | (simp; done) | (simp [*]; done) | (simp only [bne_nil_, beq_nil_]; done) | (simp [bne_nil_, beq_nil_]; done) | (simp_all [bne_nil_, beq_nil_]; done), by repeat (first | exact Drawn0.refl _ | apply Drawn0.step)⟩

/-! ### slices_nextPowerOfTwo: function 64 -/
def slices_nextPowerOfTwo.f (k : Nat) (a0 : Int) : Option (Int) := (bits_Len.f k (IntKind.u64.wrap (a0))).bind fun t138 => (if 0 ≤ t138 then (some (shl .u64 1 t138)) else (none))
theorem slices_nextPowerOfTwo.mono : ∀ a0 k, LeO (slices_nextPowerOfTwo.f k a0) (slices_nextPowerOfTwo.f (k + 1) a0) := by
  intro a0 k
  unfold slices_nextPowerOfTwo.f
  repeat' first
      | (with_reducible exact bits_Len.mono _ _)
      | (with_reducible exact LeO.refl _)
      | (with_reducible exact LeO.none _)
      | (with_reducible refine LeO.ite ?_ ?_)
      | (with_reducible refine LeO.bind ?_ (fun _ => ?_))
      | exact bits_Len.mono _ _
      | exact LeO.none _
      | refine LeO.ite ?_ ?_
      | refine LeO.bind ?_ (fun _ => ?_)
set_option maxHeartbeats 8000000 in
set_option maxRecDepth 100000 in
theorem slices_nextPowerOfTwo.calls (k : Nat) (a0 : Int) (r : Int) (w : World) (h : slices_nextPowerOfTwo.f k a0 = some r) :
    Calls Try.prog 64 #[.int .i64 a0] w fun e w' => e = .returned (.int .u64 r) ∧ Drawn0 w w' := by
  have H : ((bits_Len.f k (IntKind.u64.wrap (a0))).bind fun t138 => (if 0 ≤ t138 then (some (shl .u64 1 t138)) else (none))) = some r := h
  clear h
  replace H := Option.bind_eq_some_iff.mp H
  obtain ⟨t138, A20, H⟩ := H
  replace H : (if 0 ≤ t138 then (some (shl .u64 1 t138)) else (none)) = some r := H
  have A2 := Aside0.mk A20
  clear A20
  by_cases c3 : 0 ≤ t138
  · rw [if_pos c3] at H
    have c3b0 := eq_true c3
    have c3b1 : decide (0 ≤ t138) = true := decide_eq_true c3
    clear c3
    obtain ⟨ji4, hji4⟩ : ∃ j_ : Int, (shl .u64 1 t138) = j_ := ⟨_, rfl⟩
    replace H : (some ji4) = some r := by first | (rw [hji4] at H; exact H) | (simp only [hji4] at H ⊢; exact H)
    (try rw [hji4] at A2)
    have hji4_ : (IntKind.u64.wrap (1 * 2 ^ min t138.toNat 64)) = ji4 := hji4
    have hji4z : t138 ≤ 64 → (IntKind.u64.wrap (1 * 2 ^ t138.toNat)) = ji4 := shl_small hji4
    have hji4u : (IntKind.u64.wrap (2 ^ min t138.toNat 64)) = ji4 := by have h_ := hji4_; rw [Int.one_mul] at h_; exact h_
    have hji4v : t138 ≤ 64 → (IntKind.u64.wrap (2 ^ t138.toNat)) = ji4 := fun hle_ => by have h_ := hji4z hle_; rw [Int.one_mul] at h_; exact h_
    obtain rfl := Option.some.inj H
    go_enter Try.func64, Try.ntmps64
    go_wp2_with (first | ((with_reducible refine gate_callee (f := 51) rfl ?_); refine goesL_ (some 5) rfl rfl Try.func51 (by kernel_rfl) rfl #[.int .u64 (IntKind.u64.wrap (a0))] rfl (by (try simp only [List.map_toArray, List.map_cons, List.map_nil]); first | done | rfl | (simp only [List.length_drop, List.length_take]; rfl)) ?_; (with_reducible refine (bits_Len.calls k (IntKind.u64.wrap (a0)) t138 _ A2.out).mono ?_); rintro e w' ⟨rfl, ⟨nd, rfl⟩⟩; refine ⟨_, rfl, ?_⟩))
    go_ret
    exact ⟨by first | rfl | (simp; done) | (simp only [← hji4] <;> (first | rfl | simp)) | (simp [*]; done) | (simp only [bne_nil_, beq_nil_]; done) | (simp [bne_nil_, beq_nil_]; done) | (simp_all [bne_nil_, beq_nil_]; done), by repeat (first | exact Drawn0.refl _ | apply Drawn0.step)⟩
  · rw [if_neg c3] at H
    exact absurd H (by simp)

-- NOT PRINTED: function 65 (slices_xorshift_Next)

-- NOT PRINTED: function 55 (api_Tuple_55)

-- NOT PRINTED: function 68 (api_Tuple_68)

-- NOT PRINTED: function 67 (api_Tuple_67)

-- NOT PRINTED: function 66 (api_Tuple_66)

-- NOT PRINTED: function 56 (api_Tuple_56)

-- NOT PRINTED: function 57 (api_Tuple_57)

-- NOT PRINTED: function 58 (api_Tuple_58)

-- NOT PRINTED: function 59 (api_Tuple_59)

-- NOT PRINTED: function 60 (api_Tuple_60)

-- NOT PRINTED: function 50 (api_Tuple_50)

-- NOT PRINTED: function 42 (api_Tuple_42)

-- NOT PRINTED: function 43 (api_Tuple_43)

-- NOT PRINTED: function 44 (api_Tuple_44)

end Go.Proofs.Ytmgocpggoajfeaa.PA
