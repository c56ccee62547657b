/-
  At every place of a text the program's One and the reference's answer alike.
-/
import Derived.Test.YtbhcdbmhgocojaaPAx16
import Derived.Test.YtbhcdbmhgocojaaLexSpec
namespace Go.Proofs.Ytbhcdbmhgocojaa.Pure
open Go.RowKit Go.Proofs.Ytbhcdbmhgocojaa.PA Go.Proofs.YtbhcdbmhgocojaaW.PrintWords Go.Proofs.YtbhcdbmhgocojaaW.PrintLast
set_option linter.unusedVariables false
set_option linter.unusedSimpArgs false

theorem LexPlaces : mandatelaw05_LexPlaces.Pure := by
  intro s hs
  refine Ev.rounds (g := fun k => mandatelaw05_LexPlaces.f k s) ?_
  refine Ev.congr (fun k => by simp only [mandatelaw05_LexPlaces.f]; rfl) (Ev.bind fixed_ev ?_)
  have stop : ∀ i, Ev (fun k => mandatelaw05_LexPlaces.j1 k s i false) true := fun i => Ev.step (f := fun _ => some true) (fun k => by simp only [mandatelaw05_LexPlaces.j1]; rw [if_neg (by decide)]) (Ev.const _)
  have loop : ∀ (d : Nat) (i : Int), -1 ≤ i → i + d = 300 → Ev (fun k => mandatelaw05_LexPlaces.l0 k s i) true := by
    intro d
    induction d with
    | zero =>
      intro i h1 h2
      by_cases h : i ≤ (s.size : Int)
      · exact Ev.step (fun k => by simp only [mandatelaw05_LexPlaces.l0]; rw [if_pos h, decide_eq_false (by omega)]) (stop i)
      · exact Ev.step (fun k => by simp only [mandatelaw05_LexPlaces.l0]; rw [if_neg h]) (stop i)
    | succ d ih =>
      intro i h1 h2
      by_cases h : i ≤ (s.size : Int)
      · refine Ev.step (f := fun k => mandatelaw05_LexPlaces.j1 k s i true) (fun k => by simp only [mandatelaw05_LexPlaces.l0]; rw [if_pos h, decide_eq_true (by omega)]) ?_
        refine Ev.step (fun k => by simp only [mandatelaw05_LexPlaces.j1]; rw [if_pos trivial]) (Ev.bind (one_ev s i hs) (Ev.bind (rone_ev s i hs) ?_))
        refine Ev.congr (f := fun k => mandatelaw05_LexPlaces.l0 k s (i + 1)) (fun k => ?_) (ih (i + 1) (by omega) (by omega))
        rw [if_pos rfl, if_neg (by simp), w64 (by omega)]
      · exact Ev.step (fun k => by simp only [mandatelaw05_LexPlaces.l0]; rw [if_neg h]) (stop i)
  refine Ev.congr (f := fun k => mandatelaw05_LexPlaces.l0 k s (-1)) (fun k => by rw [if_pos rfl]) ?_
  exact loop 301 (-1) (by omega) (by omega)
end Go.Proofs.Ytbhcdbmhgocojaa.Pure
