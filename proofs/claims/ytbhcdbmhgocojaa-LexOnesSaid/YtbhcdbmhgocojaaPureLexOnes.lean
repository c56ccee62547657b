/-
  At any place of any bytes the program's One and the reference's answer alike.
-/
import Derived.Test.YtbhcdbmhgocojaaPAx15
import Derived.Test.YtbhcdbmhgocojaaLexSpec
namespace Go.Proofs.Ytbhcdbmhgocojaa.Pure
open Go.RowKit Go.Proofs.Ytbhcdbmhgocojaa.PA Go.Proofs.YtbhcdbmhgocojaaW.PrintWords Go.Proofs.YtbhcdbmhgocojaaW.PrintLast
set_option linter.unusedVariables false
set_option linter.unusedSimpArgs false

theorem LexOnes : mandatelaw05_LexOnes.Pure := by
  intro s at_ hs _
  refine Ev.rounds (g := fun k => mandatelaw05_LexOnes.f k s at_) ?_
  refine Ev.congr (fun k => by simp only [mandatelaw05_LexOnes.f]; rfl) (Ev.bind (one_ev s at_ hs) (Ev.bind (rone_ev s at_ hs) (Ev.bind fixed_ev ?_)))
  exact ⟨0, fun k _ => by simp⟩
end Go.Proofs.Ytbhcdbmhgocojaa.Pure
