/-
  NARROWER THAN 'FOR EVERY INPUT', by the rows' own cells (each row's printed sentence says how): ChainBytes: laid · ChainHeads: laid · ChainLogs: laid · ChainBegins: laid · ChainNil: laid · ChainClashes: laid · ChainFound: laid · ChainTurned: laid.
  DERIVED. THE GIVEN ROWS OF THIS SEAT. 8 by the template 'for every input the law returns true; each argument reads behind the call as it read before'; 0 by the template 'total and deterministic' (their statements: YtadopkifpfmhcaaDoorTotals.lean).
  GIVEN WITH THE SEED: the statements are not yours to turn. If you find one false, say at which input.
  Laid BY PROGRAM, IN A SANDBOX (cutbox-rows.mjs): the forced cells as the released guide's own fill.sh prints them over the translation 2eac7fd99c664a1d… (all of the seat's roots in one cut). By AI agents, Wed Nov 11 2026. No macro, syntax, notation, axiom, sorry.
-/
import Derived.Test.YtadopkifpfmhcaaDoorChecked
import GoSem.Claim
import GoSem.ClaimJoined
import GoSem.ClaimMapViews
import Derived.JoinedTies
import Derived.KernelRfl
namespace Go.Proofs.YtadopkifpfmhcaaDoor
/- THE CELL 'sum', in the pinned program and in every row, IS THE sha256 OF THE DUMP (.gsa) THAT YtadopkifpfmhcaaDoorProg.lean LOADS. Nothing in Lean hashes anything: it is a label: what it is worth is what the hold of that sum in a sandbox is worth. -/
noncomputable def Tryd.pinned : Pinned := { name := "ytadopkifpfmhcaadoor", sum := "2eac7fd99c664a1d5d2e2bfee10f8947707c80702587227a8f6c4f5088489654", checked := Tryd.checked }
namespace Rows
def none {H : Type} : Left H := { results := [], args := [] }

/- WHAT THE LISTED PACKAGE-LEVEL VARIABLES READ AS WHEN THE CALL BEGINS. Each datum BY PROGRAM (the guide's laid-datum.mjs) off the statement by which the dump's own 'gosem.cut.vars' lays the variable. In a bare row this is a premise. The card (YtadopkifpfmhcaaDoorCards.lean) ties it to the program's text. -/
def laid_math_bits_deBruijn64tab {H : Type} : DataW H := .agg [.lit (.int .u8 0), .lit (.int .u8 1), .lit (.int .u8 56), .lit (.int .u8 2), .lit (.int .u8 57), .lit (.int .u8 49), .lit (.int .u8 28), .lit (.int .u8 3), .lit (.int .u8 61), .lit (.int .u8 58), .lit (.int .u8 42), .lit (.int .u8 50), .lit (.int .u8 38), .lit (.int .u8 29), .lit (.int .u8 17), .lit (.int .u8 4), .lit (.int .u8 62), .lit (.int .u8 47), .lit (.int .u8 59), .lit (.int .u8 36), .lit (.int .u8 45), .lit (.int .u8 43), .lit (.int .u8 51), .lit (.int .u8 22), .lit (.int .u8 53), .lit (.int .u8 39), .lit (.int .u8 33), .lit (.int .u8 30), .lit (.int .u8 24), .lit (.int .u8 18), .lit (.int .u8 12), .lit (.int .u8 5), .lit (.int .u8 63), .lit (.int .u8 55), .lit (.int .u8 48), .lit (.int .u8 27), .lit (.int .u8 60), .lit (.int .u8 41), .lit (.int .u8 37), .lit (.int .u8 16), .lit (.int .u8 46), .lit (.int .u8 35), .lit (.int .u8 44), .lit (.int .u8 21), .lit (.int .u8 52), .lit (.int .u8 32), .lit (.int .u8 23), .lit (.int .u8 11), .lit (.int .u8 54), .lit (.int .u8 26), .lit (.int .u8 40), .lit (.int .u8 15), .lit (.int .u8 34), .lit (.int .u8 20), .lit (.int .u8 31), .lit (.int .u8 10), .lit (.int .u8 25), .lit (.int .u8 14), .lit (.int .u8 19), .lit (.int .u8 9), .lit (.int .u8 13), .lit (.int .u8 8), .lit (.int .u8 7), .lit (.int .u8 6)]

/-- 'mandatelaw18.ChainBytes': WHATEVER THE INPUT: true; the input reads as it did. -/
def chainBytesSpec : ChangeSpec := { name := "chainBytes", fn := fun _ => fun
  | [d1, d2] => { results := [.lit (.bool true)], args := [d1, d2] }
  | _ => none }
def chainBytesRow : OpenClaim := { program := "ytadopkifpfmhcaadoor", sum := "2eac7fd99c664a1d5d2e2bfee10f8947707c80702587227a8f6c4f5088489654", func := "mandate/mandatelaw18.ChainBytes", spec := "chainBytes", unfollowed := true, recurses := true, named := ["math/bits.deBruijn64tab"], apart := false, laid := [("math/bits.deBruijn64tab", laid_math_bits_deBruijn64tab)] }
def ChainBytesSaid : Prop := chainBytesRow.holds Tryd.pinned (OpenSpec.ofChange chainBytesSpec)

/-- ITS FALSE NEIGHBOUR: 'it returns false'. Refute it at one input. -/
def chainBytesWrong : ChangeSpec := { name := "chainBytes", fn := fun _ => fun
  | [d1, d2] => { results := [.lit (.bool false)], args := [d1, d2] }
  | _ => none }
def ChainBytesWrongFalsely : Prop := chainBytesRow.holds Tryd.pinned (OpenSpec.ofChange chainBytesWrong)

/-- 'mandatelaw18.ChainHeads': WHATEVER THE INPUT: true; the input reads as it did. -/
def chainHeadsSpec : ChangeSpec := { name := "chainHeads", fn := fun _ => fun
  | [d1, d2, d3] => { results := [.lit (.bool true)], args := [d1, d2, d3] }
  | _ => none }
def chainHeadsRow : OpenClaim := { program := "ytadopkifpfmhcaadoor", sum := "2eac7fd99c664a1d5d2e2bfee10f8947707c80702587227a8f6c4f5088489654", func := "mandate/mandatelaw18.ChainHeads", spec := "chainHeads", unfollowed := true, recurses := true, named := ["math/bits.deBruijn64tab"], apart := false, laid := [("math/bits.deBruijn64tab", laid_math_bits_deBruijn64tab)] }
def ChainHeadsSaid : Prop := chainHeadsRow.holds Tryd.pinned (OpenSpec.ofChange chainHeadsSpec)

/-- ITS FALSE NEIGHBOUR: 'it returns false'. Refute it at one input. -/
def chainHeadsWrong : ChangeSpec := { name := "chainHeads", fn := fun _ => fun
  | [d1, d2, d3] => { results := [.lit (.bool false)], args := [d1, d2, d3] }
  | _ => none }
def ChainHeadsWrongFalsely : Prop := chainHeadsRow.holds Tryd.pinned (OpenSpec.ofChange chainHeadsWrong)

/-- 'mandatelaw18.ChainLogs': WHATEVER THE INPUT: true; the input reads as it did. -/
def chainLogsSpec : ChangeSpec := { name := "chainLogs", fn := fun _ => fun
  | [d1, d2, d3] => { results := [.lit (.bool true)], args := [d1, d2, d3] }
  | _ => none }
def chainLogsRow : OpenClaim := { program := "ytadopkifpfmhcaadoor", sum := "2eac7fd99c664a1d5d2e2bfee10f8947707c80702587227a8f6c4f5088489654", func := "mandate/mandatelaw18.ChainLogs", spec := "chainLogs", unfollowed := true, recurses := true, named := ["math/bits.deBruijn64tab"], apart := false, laid := [("math/bits.deBruijn64tab", laid_math_bits_deBruijn64tab)] }
def ChainLogsSaid : Prop := chainLogsRow.holds Tryd.pinned (OpenSpec.ofChange chainLogsSpec)

/-- ITS FALSE NEIGHBOUR: 'it returns false'. Refute it at one input. -/
def chainLogsWrong : ChangeSpec := { name := "chainLogs", fn := fun _ => fun
  | [d1, d2, d3] => { results := [.lit (.bool false)], args := [d1, d2, d3] }
  | _ => none }
def ChainLogsWrongFalsely : Prop := chainLogsRow.holds Tryd.pinned (OpenSpec.ofChange chainLogsWrong)

/-- 'mandatelaw18.ChainBegins': WHATEVER THE INPUT: true; the input reads as it did. -/
def chainBeginsSpec : ChangeSpec := { name := "chainBegins", fn := fun _ => fun
  | [d1, d2] => { results := [.lit (.bool true)], args := [d1, d2] }
  | _ => none }
def chainBeginsRow : OpenClaim := { program := "ytadopkifpfmhcaadoor", sum := "2eac7fd99c664a1d5d2e2bfee10f8947707c80702587227a8f6c4f5088489654", func := "mandate/mandatelaw18.ChainBegins", spec := "chainBegins", unfollowed := true, recurses := true, named := ["math/bits.deBruijn64tab"], apart := false, laid := [("math/bits.deBruijn64tab", laid_math_bits_deBruijn64tab)] }
def ChainBeginsSaid : Prop := chainBeginsRow.holds Tryd.pinned (OpenSpec.ofChange chainBeginsSpec)

/-- ITS FALSE NEIGHBOUR: 'it returns false'. Refute it at one input. -/
def chainBeginsWrong : ChangeSpec := { name := "chainBegins", fn := fun _ => fun
  | [d1, d2] => { results := [.lit (.bool false)], args := [d1, d2] }
  | _ => none }
def ChainBeginsWrongFalsely : Prop := chainBeginsRow.holds Tryd.pinned (OpenSpec.ofChange chainBeginsWrong)

/-- 'mandatelaw18.ChainNil': WHATEVER THE INPUT: true; the input reads as it did. -/
def chainNilSpec : ChangeSpec := { name := "chainNil", fn := fun _ => fun
  | [d1, d2, d3] => { results := [.lit (.bool true)], args := [d1, d2, d3] }
  | _ => none }
def chainNilRow : OpenClaim := { program := "ytadopkifpfmhcaadoor", sum := "2eac7fd99c664a1d5d2e2bfee10f8947707c80702587227a8f6c4f5088489654", func := "mandate/mandatelaw18.ChainNil", spec := "chainNil", unfollowed := true, recurses := true, named := ["math/bits.deBruijn64tab"], apart := false, laid := [("math/bits.deBruijn64tab", laid_math_bits_deBruijn64tab)] }
def ChainNilSaid : Prop := chainNilRow.holds Tryd.pinned (OpenSpec.ofChange chainNilSpec)

/-- ITS FALSE NEIGHBOUR: 'it returns false'. Refute it at one input. -/
def chainNilWrong : ChangeSpec := { name := "chainNil", fn := fun _ => fun
  | [d1, d2, d3] => { results := [.lit (.bool false)], args := [d1, d2, d3] }
  | _ => none }
def ChainNilWrongFalsely : Prop := chainNilRow.holds Tryd.pinned (OpenSpec.ofChange chainNilWrong)

/-- 'mandatelaw18.ChainClashes': WHATEVER THE INPUT: true; the input reads as it did. -/
def chainClashesSpec : ChangeSpec := { name := "chainClashes", fn := fun _ => fun
  | [d1, d2, d3] => { results := [.lit (.bool true)], args := [d1, d2, d3] }
  | _ => none }
def chainClashesRow : OpenClaim := { program := "ytadopkifpfmhcaadoor", sum := "2eac7fd99c664a1d5d2e2bfee10f8947707c80702587227a8f6c4f5088489654", func := "mandate/mandatelaw18.ChainClashes", spec := "chainClashes", unfollowed := true, recurses := true, named := ["math/bits.deBruijn64tab"], apart := false, laid := [("math/bits.deBruijn64tab", laid_math_bits_deBruijn64tab)] }
def ChainClashesSaid : Prop := chainClashesRow.holds Tryd.pinned (OpenSpec.ofChange chainClashesSpec)

/-- ITS FALSE NEIGHBOUR: 'it returns false'. Refute it at one input. -/
def chainClashesWrong : ChangeSpec := { name := "chainClashes", fn := fun _ => fun
  | [d1, d2, d3] => { results := [.lit (.bool false)], args := [d1, d2, d3] }
  | _ => none }
def ChainClashesWrongFalsely : Prop := chainClashesRow.holds Tryd.pinned (OpenSpec.ofChange chainClashesWrong)

/-- 'mandatelaw18.ChainFound': WHATEVER THE INPUT: true; the input reads as it did. -/
def chainFoundSpec : ChangeSpec := { name := "chainFound", fn := fun _ => fun
  | [d1, d2, d3] => { results := [.lit (.bool true)], args := [d1, d2, d3] }
  | _ => none }
def chainFoundRow : OpenClaim := { program := "ytadopkifpfmhcaadoor", sum := "2eac7fd99c664a1d5d2e2bfee10f8947707c80702587227a8f6c4f5088489654", func := "mandate/mandatelaw18.ChainFound", spec := "chainFound", unfollowed := true, recurses := true, named := ["math/bits.deBruijn64tab"], apart := false, laid := [("math/bits.deBruijn64tab", laid_math_bits_deBruijn64tab)] }
def ChainFoundSaid : Prop := chainFoundRow.holds Tryd.pinned (OpenSpec.ofChange chainFoundSpec)

/-- ITS FALSE NEIGHBOUR: 'it returns false'. Refute it at one input. -/
def chainFoundWrong : ChangeSpec := { name := "chainFound", fn := fun _ => fun
  | [d1, d2, d3] => { results := [.lit (.bool false)], args := [d1, d2, d3] }
  | _ => none }
def ChainFoundWrongFalsely : Prop := chainFoundRow.holds Tryd.pinned (OpenSpec.ofChange chainFoundWrong)

/-- 'mandatelaw18.ChainTurned': WHATEVER THE INPUT: true; the input reads as it did. -/
def chainTurnedSpec : ChangeSpec := { name := "chainTurned", fn := fun _ => fun
  | [d1, d2, d3] => { results := [.lit (.bool true)], args := [d1, d2, d3] }
  | _ => none }
def chainTurnedRow : OpenClaim := { program := "ytadopkifpfmhcaadoor", sum := "2eac7fd99c664a1d5d2e2bfee10f8947707c80702587227a8f6c4f5088489654", func := "mandate/mandatelaw18.ChainTurned", spec := "chainTurned", unfollowed := true, recurses := true, named := ["math/bits.deBruijn64tab"], apart := false, laid := [("math/bits.deBruijn64tab", laid_math_bits_deBruijn64tab)] }
def ChainTurnedSaid : Prop := chainTurnedRow.holds Tryd.pinned (OpenSpec.ofChange chainTurnedSpec)

/-- ITS FALSE NEIGHBOUR: 'it returns false'. Refute it at one input. -/
def chainTurnedWrong : ChangeSpec := { name := "chainTurned", fn := fun _ => fun
  | [d1, d2, d3] => { results := [.lit (.bool false)], args := [d1, d2, d3] }
  | _ => none }
def ChainTurnedWrongFalsely : Prop := chainTurnedRow.holds Tryd.pinned (OpenSpec.ofChange chainTurnedWrong)

/- THE SECOND FORM. 'bulk': how many values and letters a reading holds, each counted each time it is reached (what is shared counts as often as it is met; a slice's spare places count too). A statement '..UptoSaid' is the law's where the arguments, and the package variables that the reading takes, are together of bulk at most 1048576: NARROWER than '..Said'. Prove '..Said' where nothing that the law and all that it calls make is longer than what came in: it says more and counts as full. Else prove '..UptoSaid'. A law counts once. -/
mutual
def uptoBulk {H : Type} : DataW H → Nat
  | .lit (.string bytes) => bytes.length + 1
  | .lit _ => 1
  | .nil => 1
  | .ptr d => uptoBulk d + 1
  | .slice elems spare => uptoBulkAll elems + uptoBulkAll spare + 1
  | .agg parts => uptoBulkAll parts + 1
  | .iface _ d => uptoBulk d + 1
  | .map entries => uptoBulkEntries entries + 1
  | .held _ => 1
def uptoBulkAll {H : Type} : List (DataW H) → Nat
  | [] => 0
  | d :: r => uptoBulk d + uptoBulkAll r
def uptoBulkEntries {H : Type} : List (Lit × DataW H) → Nat
  | [] => 0
  | x :: r => uptoBulkEntry x + uptoBulkEntries r
def uptoBulkEntry {H : Type} : Lit × DataW H → Nat
  | (.string bytes, d) => bytes.length + uptoBulk d + 1
  | (_, d) => uptoBulk d + 1
 end
def uptoSmall : (H : Type) → List (DataW H) → Bool := fun _ ds => decide (uptoBulkAll ds ≤ 1048576)
def OpenSpec.upto (s : _root_.Go.ChangeSpec) : _root_.Go.OpenSpec := { _root_.Go.OpenSpec.ofChange s with cond := some uptoSmall }

/-- 'mandatelaw18.ChainBytes', WHERE WHAT IT READS IS OF BULK AT MOST 1048576: true; the input reads as it did. -/
def chainBytesUptoRow : OpenClaim := { program := "ytadopkifpfmhcaadoor", sum := "2eac7fd99c664a1d5d2e2bfee10f8947707c80702587227a8f6c4f5088489654", func := "mandate/mandatelaw18.ChainBytes", spec := "chainBytes", unfollowed := true, recurses := true, named := ["math/bits.deBruijn64tab"], apart := false, laid := [("math/bits.deBruijn64tab", laid_math_bits_deBruijn64tab)], narrowed := true }
def ChainBytesUptoSaid : Prop := chainBytesUptoRow.holds Tryd.pinned (OpenSpec.upto chainBytesSpec)

/-- 'mandatelaw18.ChainHeads', WHERE WHAT IT READS IS OF BULK AT MOST 1048576: true; the input reads as it did. -/
def chainHeadsUptoRow : OpenClaim := { program := "ytadopkifpfmhcaadoor", sum := "2eac7fd99c664a1d5d2e2bfee10f8947707c80702587227a8f6c4f5088489654", func := "mandate/mandatelaw18.ChainHeads", spec := "chainHeads", unfollowed := true, recurses := true, named := ["math/bits.deBruijn64tab"], apart := false, laid := [("math/bits.deBruijn64tab", laid_math_bits_deBruijn64tab)], narrowed := true }
def ChainHeadsUptoSaid : Prop := chainHeadsUptoRow.holds Tryd.pinned (OpenSpec.upto chainHeadsSpec)

/-- 'mandatelaw18.ChainLogs', WHERE WHAT IT READS IS OF BULK AT MOST 1048576: true; the input reads as it did. -/
def chainLogsUptoRow : OpenClaim := { program := "ytadopkifpfmhcaadoor", sum := "2eac7fd99c664a1d5d2e2bfee10f8947707c80702587227a8f6c4f5088489654", func := "mandate/mandatelaw18.ChainLogs", spec := "chainLogs", unfollowed := true, recurses := true, named := ["math/bits.deBruijn64tab"], apart := false, laid := [("math/bits.deBruijn64tab", laid_math_bits_deBruijn64tab)], narrowed := true }
def ChainLogsUptoSaid : Prop := chainLogsUptoRow.holds Tryd.pinned (OpenSpec.upto chainLogsSpec)

/-- 'mandatelaw18.ChainBegins', WHERE WHAT IT READS IS OF BULK AT MOST 1048576: true; the input reads as it did. -/
def chainBeginsUptoRow : OpenClaim := { program := "ytadopkifpfmhcaadoor", sum := "2eac7fd99c664a1d5d2e2bfee10f8947707c80702587227a8f6c4f5088489654", func := "mandate/mandatelaw18.ChainBegins", spec := "chainBegins", unfollowed := true, recurses := true, named := ["math/bits.deBruijn64tab"], apart := false, laid := [("math/bits.deBruijn64tab", laid_math_bits_deBruijn64tab)], narrowed := true }
def ChainBeginsUptoSaid : Prop := chainBeginsUptoRow.holds Tryd.pinned (OpenSpec.upto chainBeginsSpec)

/-- 'mandatelaw18.ChainNil', WHERE WHAT IT READS IS OF BULK AT MOST 1048576: true; the input reads as it did. -/
def chainNilUptoRow : OpenClaim := { program := "ytadopkifpfmhcaadoor", sum := "2eac7fd99c664a1d5d2e2bfee10f8947707c80702587227a8f6c4f5088489654", func := "mandate/mandatelaw18.ChainNil", spec := "chainNil", unfollowed := true, recurses := true, named := ["math/bits.deBruijn64tab"], apart := false, laid := [("math/bits.deBruijn64tab", laid_math_bits_deBruijn64tab)], narrowed := true }
def ChainNilUptoSaid : Prop := chainNilUptoRow.holds Tryd.pinned (OpenSpec.upto chainNilSpec)

/-- 'mandatelaw18.ChainClashes', WHERE WHAT IT READS IS OF BULK AT MOST 1048576: true; the input reads as it did. -/
def chainClashesUptoRow : OpenClaim := { program := "ytadopkifpfmhcaadoor", sum := "2eac7fd99c664a1d5d2e2bfee10f8947707c80702587227a8f6c4f5088489654", func := "mandate/mandatelaw18.ChainClashes", spec := "chainClashes", unfollowed := true, recurses := true, named := ["math/bits.deBruijn64tab"], apart := false, laid := [("math/bits.deBruijn64tab", laid_math_bits_deBruijn64tab)], narrowed := true }
def ChainClashesUptoSaid : Prop := chainClashesUptoRow.holds Tryd.pinned (OpenSpec.upto chainClashesSpec)

/-- 'mandatelaw18.ChainFound', WHERE WHAT IT READS IS OF BULK AT MOST 1048576: true; the input reads as it did. -/
def chainFoundUptoRow : OpenClaim := { program := "ytadopkifpfmhcaadoor", sum := "2eac7fd99c664a1d5d2e2bfee10f8947707c80702587227a8f6c4f5088489654", func := "mandate/mandatelaw18.ChainFound", spec := "chainFound", unfollowed := true, recurses := true, named := ["math/bits.deBruijn64tab"], apart := false, laid := [("math/bits.deBruijn64tab", laid_math_bits_deBruijn64tab)], narrowed := true }
def ChainFoundUptoSaid : Prop := chainFoundUptoRow.holds Tryd.pinned (OpenSpec.upto chainFoundSpec)

/-- 'mandatelaw18.ChainTurned', WHERE WHAT IT READS IS OF BULK AT MOST 1048576: true; the input reads as it did. -/
def chainTurnedUptoRow : OpenClaim := { program := "ytadopkifpfmhcaadoor", sum := "2eac7fd99c664a1d5d2e2bfee10f8947707c80702587227a8f6c4f5088489654", func := "mandate/mandatelaw18.ChainTurned", spec := "chainTurned", unfollowed := true, recurses := true, named := ["math/bits.deBruijn64tab"], apart := false, laid := [("math/bits.deBruijn64tab", laid_math_bits_deBruijn64tab)], narrowed := true }
def ChainTurnedUptoSaid : Prop := chainTurnedUptoRow.holds Tryd.pinned (OpenSpec.upto chainTurnedSpec)

end Rows
end Go.Proofs.YtadopkifpfmhcaaDoor
