/-
  The law ValueNames, plain: what the program calls a name the document calls one.
-/
import Derived.Test.YtmgocpggoajfeaaNames
import Derived.Test.YtmgocpggoajfeaaPAx12
namespace Go.Proofs.Ytmgocpggoajfeaa.Pure
open Go.RowKit Go.Proofs.Ytmgocpggoajfeaa.PA Go.Proofs.YtmgocpggoajfeaaW.PrintWords Go.Proofs.YtmgocpggoajfeaaW.PrintLast
set_option linter.unusedVariables false
theorem ValueNames : mandatelaw01_ValueNames.Pure := by
  intro s _
  have h : Ev (fun k => mandatelaw01_ValueNames.f k s) true := by
    unfold mandatelaw01_ValueNames.f
    simp only [mandatelaw01_fixed.f, Option.bind_some, if_true]
    exact Ev.bind (name_ev s) (Ev.bind (rname_ev s) (by simpa using Ev.now true))
  exact h.rounds
end Go.Proofs.Ytmgocpggoajfeaa.Pure
