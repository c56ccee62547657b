/-
  The law PosetLeast holds: for every input it answers true, and what came in reads as it did; its card.
-/
import Derived.Test.YtfbbpodlemllcaaDoorRows
import Derived.Test.YtfbbpodlemllcaaDoorCards
import Derived.Test.YtfbbpodlemllcaaDoorTie
import Derived.Test.YtfbbpodlemllcaaDoorPoLaw9
import Derived.Test.YtfbbpodlemllcaaDoorPoRowsIn2
import Derived.WalkKit
import Derived.ProofKit
import Derived.OpenShut
import Derived.ShutString
import Derived.ChangeOld
import Derived.Below
import Derived.SevenTiedAt
import Derived.LaidHandle
namespace Go.Proofs.YtfbbpodlemllcaaDoor.posetLeast
open Go.ChangeShapes Go.WideShapes Go.ChangeAt Go.RowKit
set_option linter.unusedVariables false

theorem own : ownKnob Tryd.prog.godebug = none := by kernel_rfl
theorem laidOut : laidOutB Tryd.prog = true := by kernel_rfl
set_option maxRecDepth 100000 in
theorem lifted (os : Os) (started : os.Started) (H : Type) (enc : TypeId × Value → H) :
    ReturnsInHanded {} Tryd.checked os 10 .any (fun w args => (Rows.posetLeastSpec.pre enc Tryd.prog Tryd.f10 Rows.posetLeastRow.domain false w args ∧ laidMet Tryd.prog [("math/bits.deBruijn64tab", Rows.laid_math_bits_deBruijn64tab)] w) ∧ sizedMet enc Tryd.prog Tryd.f10 (OpenSpec.ofChange Rows.posetLeastSpec) false w args)
      (Rows.posetLeastSpec.post enc Tryd.prog Tryd.f10 false true false false) := by
  refine returnsInHanded_of_change_and (C := Tryd.checked) (X := fun w _ => laidMet Tryd.prog [("math/bits.deBruijn64tab", Rows.laid_math_bits_deBruijn64tab)] w) (fun _ _ _ hh h => h.of_heap hh) own started (by kernel_rfl) Tryd.func10
    (ChangeSpec.witness_at (enc := enc) (C := Tryd.checked) (os := os) (X := fun w _ => laidMet Tryd.prog [("math/bits.deBruijn64tab", Rows.laid_math_bits_deBruijn64tab)] w) false (laidWorld os) #[.agg #[.int .i64 0, .slice none 0 0, .int .i64 0, .int .i64 0]] 8 rfl (by kernel_rfl) (by kernel_rfl) (by kernel_rfl) (by kernel_rfl) (by kernel_rfl) (laidWorld_met os _)) ?_
  intro W base args ds gs before hval0 hW hcnd hsz hL _
  have hval : ∀ (j : Nat) t v, Tryd.f10.params[j]? = some t → args[j]? = some v → Value.okWide Tryd.prog W .any base t v := hval0
  have htab := tab_of_laid hL
  have hW' := hW
  obtain ⟨p, q, hA0, hV, rfl, hfz, hnd⟩ := hW
  have hA : DataW.TrodAll enc Tryd.prog W 0 (fun _ => true) true Tryd.f10.params.toList args.toList ds p := hA0
  have hsz2 : (DataW.weightsEach Tryd.prog ([49] ++ Rows.posetLeastSpec.plain.varTypes Tryd.prog) (ds ++ gs)).all (· ≤ reachBytes) = true := by
    have := hsz; rw [Tryd.params10] at this; exact this
  rw [Tryd.params10] at hA hval
  obtain ⟨v0, vs0, d0, ds0, p0, q0, hargs, rfl, rfl, h0, r0⟩ := trodAll_cons hA
  obtain ⟨rfl, rfl, rfl⟩ := trodAll_nil r0
  obtain rfl : args = #[v0] := by cases args; simp_all
  obtain ⟨rfl, rfl⟩ := trodVars_none hV
  have k0 := h0
  have lt0 : ∀ x ∈ p0, x.block < W.heap.size := by obtain ⟨m, hm⟩ := k0; exact DataW.trod_lt m _ _ _ hm
  obtain ⟨xn0, a0, n0, c0, l0, xa0, xb0, rfl, e0, y0, m0⟩ := arg_way hsz2 (j := 0) rfl rfl (hval 0 49 v0 rfl rfl) h0
  clear hA0 hval0
  refine (lleast_calls l0 xn0 a0 n0 c0 e0 m0 xa0 xb0 W htab y0).mono fun e W' ⟨he, bel⟩ => ?_
  subst he
  exact ⟨_, rfl, _, _, _, [], _, [], hW', trodAll_mk1 (shut_bool Tryd.underlying4 _), (trodAll_cons_mk (Below.trod laidOut (by kernel_rfl) (of_decide_eq_true (by kernel_rfl)) k0 bel lt0) trodAll_mk0), rfl, bel.frame _, fun h => by cases h⟩
theorem over : Rows.PosetLeastSaid :=
  OpenClaim.holds_of_wide 10 Tryd.f10 rfl rfl rfl rfl rfl rfl rfl ⟨rfl, rfl, rfl, rfl, rfl⟩ rfl rfl rfl rfl rfl (by kernel_rfl) Tryd.func10 (by kernel_rfl)
    (of_decide_eq_true (by kernel_rfl)) (by unfold Func.isWrapper; first | (rw [if_pos (by decide +kernel)]; kernel_rfl) | (rw [if_neg (by decide +kernel)]; exact ⟨rfl, rfl⟩))
    (fun os started H enc _ => lifted os started H enc)
theorem card : Rows.PosetLeastCardSaid :=
  Claim7.holds_tied_plain_at .later [] [.data] true (true, "d030b83a5fc0319f021b8e7981622abb023448ecbd6994d060d70ab6b636a8b4") false
    over (fun _ h => by cases h) (by kernel_rfl) (fun _ h => by cases h) posetLeast_row_tie rfl ⟨rfl, rfl⟩ (by kernel_rfl) rfl
    (fun f fn hf hfn => by
      obtain rfl : f = 10 := Option.some.inj ((show Tryd.prog.funcNamed "mandate/mandatelaw04.PosetLeast" = some 10 by kernel_rfl).symm.trans hf) |>.symm
      obtain rfl : fn = Tryd.f10 := (Option.some.inj (Tryd.func10.symm.trans hfn)).symm
      exact ⟨by kernel_rfl, fun j t ht => by
        rw [Tryd.params10] at ht
        have h3 : t = 49 := by
          rcases j with _ | j
          · simp at ht; subst ht; simp
          · simp at ht
        rcases h3 with rfl
        all_goals exact (show Tryd.prog.wantsStandIn _ = false by kernel_rfl)⟩)
    (by kernel_rfl)
end Go.Proofs.YtfbbpodlemllcaaDoor.posetLeast
namespace Go.Proofs.YtfbbpodlemllcaaDoor
/-- The statement. -/
theorem posetLeast_holds : Rows.PosetLeastCardSaid := posetLeast.card
#print axioms posetLeast_holds
end Go.Proofs.YtfbbpodlemllcaaDoor
