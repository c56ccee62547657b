/-
  NARROWER THAN 'FOR EVERY INPUT', by the rows' own cells (each row's printed sentence says how): PosetBuilds: laid · PosetRight: laid · PosetAsks: laid · PosetPairs: laid · PosetBits: laid · PosetBack: laid · PosetOrder: laid · PosetLeast: laid.
  DERIVED. THE GIVEN ROWS OF THIS SEAT. 8 by the template 'for every input the law returns true; each argument reads behind the call as it read before'; 0 by the template 'total and deterministic' (their statements: YtfbbpodlemllcaaDoorTotals.lean).
  GIVEN WITH THE SEED: the statements are not yours to turn. If you find one false, say at which input.
  Laid BY PROGRAM, IN A SANDBOX (cutbox-rows.mjs): the forced cells as the released guide's own fill.sh prints them over the translation 495694871400fd2c… (all of the seat's roots in one cut). By AI agents, Wed Nov 11 2026. No macro, syntax, notation, axiom, sorry.
-/
import Derived.Test.YtfbbpodlemllcaaDoorChecked
import GoSem.Claim
import GoSem.ClaimJoined
import GoSem.ClaimMapViews
import Derived.JoinedTies
import Derived.KernelRfl
namespace Go.Proofs.YtfbbpodlemllcaaDoor
/- THE CELL 'sum', in the pinned program and in every row, IS THE sha256 OF THE DUMP (.gsa) THAT YtfbbpodlemllcaaDoorProg.lean LOADS. Nothing in Lean hashes anything: it is a label: what it is worth is what the hold of that sum in a sandbox is worth. -/
noncomputable def Tryd.pinned : Pinned := { name := "ytfbbpodlemllcaadoor", sum := "495694871400fd2cfca5f0a3ff3f1316807d34d3c1974d41435028d1c5c52f76", checked := Tryd.checked }
namespace Rows
def none {H : Type} : Left H := { results := [], args := [] }

/- WHAT THE LISTED PACKAGE-LEVEL VARIABLES READ AS WHEN THE CALL BEGINS. Each datum BY PROGRAM (the guide's laid-datum.mjs) off the statement by which the dump's own 'gosem.cut.vars' lays the variable. In a bare row this is a premise. The card (YtfbbpodlemllcaaDoorCards.lean) ties it to the program's text. -/
def laid_math_bits_deBruijn64tab {H : Type} : DataW H := .agg [.lit (.int .u8 0), .lit (.int .u8 1), .lit (.int .u8 56), .lit (.int .u8 2), .lit (.int .u8 57), .lit (.int .u8 49), .lit (.int .u8 28), .lit (.int .u8 3), .lit (.int .u8 61), .lit (.int .u8 58), .lit (.int .u8 42), .lit (.int .u8 50), .lit (.int .u8 38), .lit (.int .u8 29), .lit (.int .u8 17), .lit (.int .u8 4), .lit (.int .u8 62), .lit (.int .u8 47), .lit (.int .u8 59), .lit (.int .u8 36), .lit (.int .u8 45), .lit (.int .u8 43), .lit (.int .u8 51), .lit (.int .u8 22), .lit (.int .u8 53), .lit (.int .u8 39), .lit (.int .u8 33), .lit (.int .u8 30), .lit (.int .u8 24), .lit (.int .u8 18), .lit (.int .u8 12), .lit (.int .u8 5), .lit (.int .u8 63), .lit (.int .u8 55), .lit (.int .u8 48), .lit (.int .u8 27), .lit (.int .u8 60), .lit (.int .u8 41), .lit (.int .u8 37), .lit (.int .u8 16), .lit (.int .u8 46), .lit (.int .u8 35), .lit (.int .u8 44), .lit (.int .u8 21), .lit (.int .u8 52), .lit (.int .u8 32), .lit (.int .u8 23), .lit (.int .u8 11), .lit (.int .u8 54), .lit (.int .u8 26), .lit (.int .u8 40), .lit (.int .u8 15), .lit (.int .u8 34), .lit (.int .u8 20), .lit (.int .u8 31), .lit (.int .u8 10), .lit (.int .u8 25), .lit (.int .u8 14), .lit (.int .u8 19), .lit (.int .u8 9), .lit (.int .u8 13), .lit (.int .u8 8), .lit (.int .u8 7), .lit (.int .u8 6)]

/-- 'mandatelaw04.PosetBuilds': WHATEVER THE INPUT: true; the input reads as it did. -/
def posetBuildsSpec : ChangeSpec := { name := "posetBuilds", fn := fun _ => fun
  | [d1, d2] => { results := [.lit (.bool true)], args := [d1, d2] }
  | _ => none }
def posetBuildsRow : OpenClaim := { program := "ytfbbpodlemllcaadoor", sum := "495694871400fd2cfca5f0a3ff3f1316807d34d3c1974d41435028d1c5c52f76", func := "mandate/mandatelaw04.PosetBuilds", spec := "posetBuilds", unfollowed := true, recurses := true, named := ["math/bits.deBruijn64tab"], apart := false, laid := [("math/bits.deBruijn64tab", laid_math_bits_deBruijn64tab)] }
def PosetBuildsSaid : Prop := posetBuildsRow.holds Tryd.pinned (OpenSpec.ofChange posetBuildsSpec)

/-- ITS FALSE NEIGHBOUR: 'it returns false'. Refute it at one input. -/
def posetBuildsWrong : ChangeSpec := { name := "posetBuilds", fn := fun _ => fun
  | [d1, d2] => { results := [.lit (.bool false)], args := [d1, d2] }
  | _ => none }
def PosetBuildsWrongFalsely : Prop := posetBuildsRow.holds Tryd.pinned (OpenSpec.ofChange posetBuildsWrong)

/-- 'mandatelaw04.PosetRight': WHATEVER THE INPUT: true; the input reads as it did. -/
def posetRightSpec : ChangeSpec := { name := "posetRight", fn := fun _ => fun
  | [d] => { results := [.lit (.bool true)], args := [d] }
  | _ => none }
def posetRightRow : OpenClaim := { program := "ytfbbpodlemllcaadoor", sum := "495694871400fd2cfca5f0a3ff3f1316807d34d3c1974d41435028d1c5c52f76", func := "mandate/mandatelaw04.PosetRight", spec := "posetRight", unfollowed := true, recurses := true, named := ["math/bits.deBruijn64tab"], apart := false, laid := [("math/bits.deBruijn64tab", laid_math_bits_deBruijn64tab)] }
def PosetRightSaid : Prop := posetRightRow.holds Tryd.pinned (OpenSpec.ofChange posetRightSpec)

/-- ITS FALSE NEIGHBOUR: 'it returns false'. Refute it at one input. -/
def posetRightWrong : ChangeSpec := { name := "posetRight", fn := fun _ => fun
  | [d] => { results := [.lit (.bool false)], args := [d] }
  | _ => none }
def PosetRightWrongFalsely : Prop := posetRightRow.holds Tryd.pinned (OpenSpec.ofChange posetRightWrong)

/-- 'mandatelaw04.PosetAsks': WHATEVER THE INPUT: true; the input reads as it did. -/
def posetAsksSpec : ChangeSpec := { name := "posetAsks", fn := fun _ => fun
  | [d1, d2, d3] => { results := [.lit (.bool true)], args := [d1, d2, d3] }
  | _ => none }
def posetAsksRow : OpenClaim := { program := "ytfbbpodlemllcaadoor", sum := "495694871400fd2cfca5f0a3ff3f1316807d34d3c1974d41435028d1c5c52f76", func := "mandate/mandatelaw04.PosetAsks", spec := "posetAsks", unfollowed := true, recurses := true, named := ["math/bits.deBruijn64tab"], apart := false, laid := [("math/bits.deBruijn64tab", laid_math_bits_deBruijn64tab)] }
def PosetAsksSaid : Prop := posetAsksRow.holds Tryd.pinned (OpenSpec.ofChange posetAsksSpec)

/-- ITS FALSE NEIGHBOUR: 'it returns false'. Refute it at one input. -/
def posetAsksWrong : ChangeSpec := { name := "posetAsks", fn := fun _ => fun
  | [d1, d2, d3] => { results := [.lit (.bool false)], args := [d1, d2, d3] }
  | _ => none }
def PosetAsksWrongFalsely : Prop := posetAsksRow.holds Tryd.pinned (OpenSpec.ofChange posetAsksWrong)

/-- 'mandatelaw04.PosetPairs': WHATEVER THE INPUT: true; the input reads as it did. -/
def posetPairsSpec : ChangeSpec := { name := "posetPairs", fn := fun _ => fun
  | [d] => { results := [.lit (.bool true)], args := [d] }
  | _ => none }
def posetPairsRow : OpenClaim := { program := "ytfbbpodlemllcaadoor", sum := "495694871400fd2cfca5f0a3ff3f1316807d34d3c1974d41435028d1c5c52f76", func := "mandate/mandatelaw04.PosetPairs", spec := "posetPairs", unfollowed := true, recurses := true, named := ["math/bits.deBruijn64tab"], apart := false, laid := [("math/bits.deBruijn64tab", laid_math_bits_deBruijn64tab)] }
def PosetPairsSaid : Prop := posetPairsRow.holds Tryd.pinned (OpenSpec.ofChange posetPairsSpec)

/-- ITS FALSE NEIGHBOUR: 'it returns false'. Refute it at one input. -/
def posetPairsWrong : ChangeSpec := { name := "posetPairs", fn := fun _ => fun
  | [d] => { results := [.lit (.bool false)], args := [d] }
  | _ => none }
def PosetPairsWrongFalsely : Prop := posetPairsRow.holds Tryd.pinned (OpenSpec.ofChange posetPairsWrong)

/-- 'mandatelaw04.PosetBits': WHATEVER THE INPUT: true; the input reads as it did. -/
def posetBitsSpec : ChangeSpec := { name := "posetBits", fn := fun _ => fun
  | [d1, d2] => { results := [.lit (.bool true)], args := [d1, d2] }
  | _ => none }
def posetBitsRow : OpenClaim := { program := "ytfbbpodlemllcaadoor", sum := "495694871400fd2cfca5f0a3ff3f1316807d34d3c1974d41435028d1c5c52f76", func := "mandate/mandatelaw04.PosetBits", spec := "posetBits", unfollowed := true, recurses := true, named := ["math/bits.deBruijn64tab"], apart := false, laid := [("math/bits.deBruijn64tab", laid_math_bits_deBruijn64tab)] }
def PosetBitsSaid : Prop := posetBitsRow.holds Tryd.pinned (OpenSpec.ofChange posetBitsSpec)

/-- ITS FALSE NEIGHBOUR: 'it returns false'. Refute it at one input. -/
def posetBitsWrong : ChangeSpec := { name := "posetBits", fn := fun _ => fun
  | [d1, d2] => { results := [.lit (.bool false)], args := [d1, d2] }
  | _ => none }
def PosetBitsWrongFalsely : Prop := posetBitsRow.holds Tryd.pinned (OpenSpec.ofChange posetBitsWrong)

/-- 'mandatelaw04.PosetBack': WHATEVER THE INPUT: true; the input reads as it did. -/
def posetBackSpec : ChangeSpec := { name := "posetBack", fn := fun _ => fun
  | [d1, d2] => { results := [.lit (.bool true)], args := [d1, d2] }
  | _ => none }
def posetBackRow : OpenClaim := { program := "ytfbbpodlemllcaadoor", sum := "495694871400fd2cfca5f0a3ff3f1316807d34d3c1974d41435028d1c5c52f76", func := "mandate/mandatelaw04.PosetBack", spec := "posetBack", unfollowed := true, recurses := true, named := ["math/bits.deBruijn64tab"], apart := false, laid := [("math/bits.deBruijn64tab", laid_math_bits_deBruijn64tab)] }
def PosetBackSaid : Prop := posetBackRow.holds Tryd.pinned (OpenSpec.ofChange posetBackSpec)

/-- ITS FALSE NEIGHBOUR: 'it returns false'. Refute it at one input. -/
def posetBackWrong : ChangeSpec := { name := "posetBack", fn := fun _ => fun
  | [d1, d2] => { results := [.lit (.bool false)], args := [d1, d2] }
  | _ => none }
def PosetBackWrongFalsely : Prop := posetBackRow.holds Tryd.pinned (OpenSpec.ofChange posetBackWrong)

/-- 'mandatelaw04.PosetOrder': WHATEVER THE INPUT: true; the input reads as it did. -/
def posetOrderSpec : ChangeSpec := { name := "posetOrder", fn := fun _ => fun
  | [d] => { results := [.lit (.bool true)], args := [d] }
  | _ => none }
def posetOrderRow : OpenClaim := { program := "ytfbbpodlemllcaadoor", sum := "495694871400fd2cfca5f0a3ff3f1316807d34d3c1974d41435028d1c5c52f76", func := "mandate/mandatelaw04.PosetOrder", spec := "posetOrder", unfollowed := true, recurses := true, named := ["math/bits.deBruijn64tab"], apart := false, laid := [("math/bits.deBruijn64tab", laid_math_bits_deBruijn64tab)] }
def PosetOrderSaid : Prop := posetOrderRow.holds Tryd.pinned (OpenSpec.ofChange posetOrderSpec)

/-- ITS FALSE NEIGHBOUR: 'it returns false'. Refute it at one input. -/
def posetOrderWrong : ChangeSpec := { name := "posetOrder", fn := fun _ => fun
  | [d] => { results := [.lit (.bool false)], args := [d] }
  | _ => none }
def PosetOrderWrongFalsely : Prop := posetOrderRow.holds Tryd.pinned (OpenSpec.ofChange posetOrderWrong)

/-- 'mandatelaw04.PosetLeast': WHATEVER THE INPUT: true; the input reads as it did. -/
def posetLeastSpec : ChangeSpec := { name := "posetLeast", fn := fun _ => fun
  | [d] => { results := [.lit (.bool true)], args := [d] }
  | _ => none }
def posetLeastRow : OpenClaim := { program := "ytfbbpodlemllcaadoor", sum := "495694871400fd2cfca5f0a3ff3f1316807d34d3c1974d41435028d1c5c52f76", func := "mandate/mandatelaw04.PosetLeast", spec := "posetLeast", unfollowed := true, recurses := true, named := ["math/bits.deBruijn64tab"], apart := false, laid := [("math/bits.deBruijn64tab", laid_math_bits_deBruijn64tab)] }
def PosetLeastSaid : Prop := posetLeastRow.holds Tryd.pinned (OpenSpec.ofChange posetLeastSpec)

/-- ITS FALSE NEIGHBOUR: 'it returns false'. Refute it at one input. -/
def posetLeastWrong : ChangeSpec := { name := "posetLeast", fn := fun _ => fun
  | [d] => { results := [.lit (.bool false)], args := [d] }
  | _ => none }
def PosetLeastWrongFalsely : Prop := posetLeastRow.holds Tryd.pinned (OpenSpec.ofChange posetLeastWrong)

/- THE SECOND FORM. 'bulk': how many values and letters a reading holds, each counted each time it is reached (what is shared counts as often as it is met; a slice's spare places count too). A statement '..UptoSaid' is the law's where the arguments, and the package variables that the reading takes, are together of bulk at most 1048576: NARROWER than '..Said'. Prove '..Said' where nothing that the law and all that it calls make is longer than what came in: it says more and counts as full. Else prove '..UptoSaid'. A law counts once. -/
mutual
def uptoBulk {H : Type} : DataW H → Nat
  | .lit (.string bytes) => bytes.length + 1
  | .lit _ => 1
  | .nil => 1
  | .ptr d => uptoBulk d + 1
  | .slice elems spare => uptoBulkAll elems + uptoBulkAll spare + 1
  | .agg parts => uptoBulkAll parts + 1
  | .iface _ d => uptoBulk d + 1
  | .map entries => uptoBulkEntries entries + 1
  | .held _ => 1
def uptoBulkAll {H : Type} : List (DataW H) → Nat
  | [] => 0
  | d :: r => uptoBulk d + uptoBulkAll r
def uptoBulkEntries {H : Type} : List (Lit × DataW H) → Nat
  | [] => 0
  | x :: r => uptoBulkEntry x + uptoBulkEntries r
def uptoBulkEntry {H : Type} : Lit × DataW H → Nat
  | (.string bytes, d) => bytes.length + uptoBulk d + 1
  | (_, d) => uptoBulk d + 1
 end
def uptoSmall : (H : Type) → List (DataW H) → Bool := fun _ ds => decide (uptoBulkAll ds ≤ 1048576)
def OpenSpec.upto (s : _root_.Go.ChangeSpec) : _root_.Go.OpenSpec := { _root_.Go.OpenSpec.ofChange s with cond := some uptoSmall }

/-- 'mandatelaw04.PosetBuilds', WHERE WHAT IT READS IS OF BULK AT MOST 1048576: true; the input reads as it did. -/
def posetBuildsUptoRow : OpenClaim := { program := "ytfbbpodlemllcaadoor", sum := "495694871400fd2cfca5f0a3ff3f1316807d34d3c1974d41435028d1c5c52f76", func := "mandate/mandatelaw04.PosetBuilds", spec := "posetBuilds", unfollowed := true, recurses := true, named := ["math/bits.deBruijn64tab"], apart := false, laid := [("math/bits.deBruijn64tab", laid_math_bits_deBruijn64tab)], narrowed := true }
def PosetBuildsUptoSaid : Prop := posetBuildsUptoRow.holds Tryd.pinned (OpenSpec.upto posetBuildsSpec)

/-- 'mandatelaw04.PosetRight', WHERE WHAT IT READS IS OF BULK AT MOST 1048576: true; the input reads as it did. -/
def posetRightUptoRow : OpenClaim := { program := "ytfbbpodlemllcaadoor", sum := "495694871400fd2cfca5f0a3ff3f1316807d34d3c1974d41435028d1c5c52f76", func := "mandate/mandatelaw04.PosetRight", spec := "posetRight", unfollowed := true, recurses := true, named := ["math/bits.deBruijn64tab"], apart := false, laid := [("math/bits.deBruijn64tab", laid_math_bits_deBruijn64tab)], narrowed := true }
def PosetRightUptoSaid : Prop := posetRightUptoRow.holds Tryd.pinned (OpenSpec.upto posetRightSpec)

/-- 'mandatelaw04.PosetAsks', WHERE WHAT IT READS IS OF BULK AT MOST 1048576: true; the input reads as it did. -/
def posetAsksUptoRow : OpenClaim := { program := "ytfbbpodlemllcaadoor", sum := "495694871400fd2cfca5f0a3ff3f1316807d34d3c1974d41435028d1c5c52f76", func := "mandate/mandatelaw04.PosetAsks", spec := "posetAsks", unfollowed := true, recurses := true, named := ["math/bits.deBruijn64tab"], apart := false, laid := [("math/bits.deBruijn64tab", laid_math_bits_deBruijn64tab)], narrowed := true }
def PosetAsksUptoSaid : Prop := posetAsksUptoRow.holds Tryd.pinned (OpenSpec.upto posetAsksSpec)

/-- 'mandatelaw04.PosetPairs', WHERE WHAT IT READS IS OF BULK AT MOST 1048576: true; the input reads as it did. -/
def posetPairsUptoRow : OpenClaim := { program := "ytfbbpodlemllcaadoor", sum := "495694871400fd2cfca5f0a3ff3f1316807d34d3c1974d41435028d1c5c52f76", func := "mandate/mandatelaw04.PosetPairs", spec := "posetPairs", unfollowed := true, recurses := true, named := ["math/bits.deBruijn64tab"], apart := false, laid := [("math/bits.deBruijn64tab", laid_math_bits_deBruijn64tab)], narrowed := true }
def PosetPairsUptoSaid : Prop := posetPairsUptoRow.holds Tryd.pinned (OpenSpec.upto posetPairsSpec)

/-- 'mandatelaw04.PosetBits', WHERE WHAT IT READS IS OF BULK AT MOST 1048576: true; the input reads as it did. -/
def posetBitsUptoRow : OpenClaim := { program := "ytfbbpodlemllcaadoor", sum := "495694871400fd2cfca5f0a3ff3f1316807d34d3c1974d41435028d1c5c52f76", func := "mandate/mandatelaw04.PosetBits", spec := "posetBits", unfollowed := true, recurses := true, named := ["math/bits.deBruijn64tab"], apart := false, laid := [("math/bits.deBruijn64tab", laid_math_bits_deBruijn64tab)], narrowed := true }
def PosetBitsUptoSaid : Prop := posetBitsUptoRow.holds Tryd.pinned (OpenSpec.upto posetBitsSpec)

/-- 'mandatelaw04.PosetBack', WHERE WHAT IT READS IS OF BULK AT MOST 1048576: true; the input reads as it did. -/
def posetBackUptoRow : OpenClaim := { program := "ytfbbpodlemllcaadoor", sum := "495694871400fd2cfca5f0a3ff3f1316807d34d3c1974d41435028d1c5c52f76", func := "mandate/mandatelaw04.PosetBack", spec := "posetBack", unfollowed := true, recurses := true, named := ["math/bits.deBruijn64tab"], apart := false, laid := [("math/bits.deBruijn64tab", laid_math_bits_deBruijn64tab)], narrowed := true }
def PosetBackUptoSaid : Prop := posetBackUptoRow.holds Tryd.pinned (OpenSpec.upto posetBackSpec)

/-- 'mandatelaw04.PosetOrder', WHERE WHAT IT READS IS OF BULK AT MOST 1048576: true; the input reads as it did. -/
def posetOrderUptoRow : OpenClaim := { program := "ytfbbpodlemllcaadoor", sum := "495694871400fd2cfca5f0a3ff3f1316807d34d3c1974d41435028d1c5c52f76", func := "mandate/mandatelaw04.PosetOrder", spec := "posetOrder", unfollowed := true, recurses := true, named := ["math/bits.deBruijn64tab"], apart := false, laid := [("math/bits.deBruijn64tab", laid_math_bits_deBruijn64tab)], narrowed := true }
def PosetOrderUptoSaid : Prop := posetOrderUptoRow.holds Tryd.pinned (OpenSpec.upto posetOrderSpec)

/-- 'mandatelaw04.PosetLeast', WHERE WHAT IT READS IS OF BULK AT MOST 1048576: true; the input reads as it did. -/
def posetLeastUptoRow : OpenClaim := { program := "ytfbbpodlemllcaadoor", sum := "495694871400fd2cfca5f0a3ff3f1316807d34d3c1974d41435028d1c5c52f76", func := "mandate/mandatelaw04.PosetLeast", spec := "posetLeast", unfollowed := true, recurses := true, named := ["math/bits.deBruijn64tab"], apart := false, laid := [("math/bits.deBruijn64tab", laid_math_bits_deBruijn64tab)], narrowed := true }
def PosetLeastUptoSaid : Prop := posetLeastUptoRow.holds Tryd.pinned (OpenSpec.upto posetLeastSpec)

end Rows
end Go.Proofs.YtfbbpodlemllcaaDoor
