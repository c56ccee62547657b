/- Go functions told as plain functions, and that the program's calls come to just these, for all arguments. Written by the session's own program wip/tools/myprint.py (it drives the kit's printer). -/
import Derived.Test.YtadopkifpfmhcaaDoorProg
import Derived.Below
import Derived.Deep.Draws
import Derived.Deep.AppendLies
import Derived.Maps.AppendAt
import Derived.OwnWalk
import Derived.Laws.BytesArg
import Derived.Laws.MakeOwn
import Derived.Laws.OwnMore
import Derived.Deep.OwnRows
import Derived.Tactics
import Derived.Lib.ConvBytes
import Derived.Laws.Slices
import Derived.WalkKit
import Derived.KernelRfl
import Derived.RowKit3
import Derived.Deep.LoopGhost
import Derived.Deep.QuietTactic
import Derived.BigQuiet
import Derived.WideLaws
import Derived.Deep.DeepCutAuto
import Derived.Deep.CutBlock
import Derived.Deep.RegionHeld3
import Derived.Laws.Rows
import Derived.Lib.AppendStr
import Derived.ArgAppend
import Derived.Laws.IdiomCopy
import Derived.OrdersHeld
import Derived.Laws.BitsLemmas
import Derived.RowKit
import Derived.Test.YtadopkifpfmhcaaDoorWWords
import Derived.Test.YtadopkifpfmhcaaDoorWLast
import Derived.Test.YtadopkifpfmhcaaDoorWTab
import Derived.Test.YtadopkifpfmhcaaDoorWFour
import Derived.Test.YtadopkifpfmhcaaDoorWQPut
import Derived.Test.YtadopkifpfmhcaaDoorWApart
import Derived.Test.YtadopkifpfmhcaaDoorWArr
import Derived.Test.YtadopkifpfmhcaaDoorWZeros
import Derived.Test.YtadopkifpfmhcaaDoorWFoot
import Derived.Test.YtadopkifpfmhcaaDoorWKept
import Derived.Test.YtadopkifpfmhcaaDoorWShare
import Derived.Test.YtadopkifpfmhcaaDoorWN
import Derived.Test.YtadopkifpfmhcaaDoorWFootNe
import Derived.Test.YtadopkifpfmhcaaDoorWAt
import Derived.Test.YtadopkifpfmhcaaDoorWEqStruct
import Derived.Test.YtadopkifpfmhcaaDoorWRepsOne
import Derived.Test.YtadopkifpfmhcaaDoorWInv
import Derived.Test.YtadopkifpfmhcaaDoorWInvWords
import Derived.Test.YtadopkifpfmhcaaDoorWGuard
import Derived.Test.YtadopkifpfmhcaaDoorWNEv
import Derived.Test.YtadopkifpfmhcaaDoorWMore
namespace Go.Proofs.YtadopkifpfmhcaaDoor.PA
open Go.RowKit Go.Proofs.YtadopkifpfmhcaaDoorW.PrintWords Go.Proofs.YtadopkifpfmhcaaDoorW.PrintLast Go.Proofs.YtadopkifpfmhcaaDoorW.PrintMore
attribute [local go_sem] max2_int min2_int max_two min_two max_three min_three max_four min_four   -- for this text's walks alone
set_option linter.unusedVariables false
set_option linter.unusedSimpArgs false



theorem bne_nil_ (l : List UInt8) : (l != []) = !l.isEmpty := by cases l <;> rfl
theorem beq_nil_ (l : List UInt8) : (l == []) = l.isEmpty := by cases l <;> rfl

def errW : Option Int → Value
  | none => .nilIface
  | some c => .iface 0 (.int .i64 c)
theorem errW_none : errW none = .nilIface := rfl
theorem errW_some (c : Int) : errW (some c) = .iface 0 (.int .i64 c) := rfl

theorem info5 : (Tryd.prog.info? 5).map (fun i => (i.zero, i.size, i.bytes)) = some (some (.int .u8 0), 1, 1) := by kernel_rfl
-- the values' own types

end Go.Proofs.YtadopkifpfmhcaaDoor.PA
