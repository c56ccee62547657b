/-
  The law ValueReads, plain: what the program reads in a text the document reads in it.
-/
import Derived.Test.YtmgocpggoajfeaaNames
import Derived.Test.YtmgocpggoajfeaaPAx16
namespace Go.Proofs.Ytmgocpggoajfeaa.Pure
open Go.RowKit Go.Proofs.Ytmgocpggoajfeaa.PA Go.Proofs.YtmgocpggoajfeaaW.PrintWords Go.Proofs.YtmgocpggoajfeaaW.PrintLast
set_option linter.unusedVariables false
theorem ValueReads : mandatelaw01_ValueReads.Pure := by
  intro s _
  have h : Ev (fun k => mandatelaw01_ValueReads.f k s) true := by
    unfold mandatelaw01_ValueReads.f
    simp only [mandatelaw01_fixed.f, Option.bind_some, if_true]
    exact Ev.bind (read_ev s) (Ev.bind (rread_ev s) (by simpa using Ev.now true))
  exact h.rounds
end Go.Proofs.Ytmgocpggoajfeaa.Pure
