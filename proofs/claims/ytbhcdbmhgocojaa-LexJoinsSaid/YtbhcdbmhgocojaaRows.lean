/-
  No cell of these rows narrows 'for every input' (looked for: loops, veiled, ifaces, maps, wideKeys, modest, calm, conditions, laid).
  DERIVED. THE GIVEN ROWS OF THIS SEAT. 6 by the template 'for every input the law returns true; each argument reads behind the call as it read before'; 0 by the template 'total and deterministic' (their statements: YtbhcdbmhgocojaaTotals.lean).
  GIVEN WITH THE SEED: the statements are not yours to turn. If you find one false, say at which input.
  Laid BY PROGRAM, IN A SANDBOX (cutbox-rows.mjs): the forced cells as the released guide's own fill.sh prints them over the translation a138777473259fb0… (all of the seat's roots in one cut). By AI agents, Wed Nov 11 2026. No macro, syntax, notation, axiom, sorry.
-/
import Derived.Test.YtbhcdbmhgocojaaChecked
import GoSem.Claim
import GoSem.ClaimJoined
import GoSem.ClaimMapViews
import Derived.JoinedTies
import Derived.KernelRfl
namespace Go.Proofs.Ytbhcdbmhgocojaa
/- THE CELL 'sum', in the pinned program and in every row, IS THE sha256 OF THE DUMP (.gsa) THAT YtbhcdbmhgocojaaProg.lean LOADS. Nothing in Lean hashes anything: it is a label: what it is worth is what the hold of that sum in a sandbox is worth. -/
noncomputable def Try.pinned : Pinned := { name := "ytbhcdbmhgocojaa", sum := "a138777473259fb099e1c916bb2be4a100c9dad99c3e888c2da425353f1262ba", checked := Try.checked }
namespace Rows
def none {H : Type} : Left H := { results := [], args := [] }

/-- 'mandatelaw05.LexAlls': WHATEVER THE INPUT: true; the input reads as it did. -/
def lexAllsSpec : ChangeSpec := { name := "lexAlls", fn := fun _ => fun
  | [d] => { results := [.lit (.bool true)], args := [d] }
  | _ => none }
def lexAllsRow : OpenClaim := { program := "ytbhcdbmhgocojaa", sum := "a138777473259fb099e1c916bb2be4a100c9dad99c3e888c2da425353f1262ba", func := "mandate/mandatelaw05.LexAlls", spec := "lexAlls", recurses := true, apart := false }
def LexAllsSaid : Prop := lexAllsRow.holds Try.pinned (OpenSpec.ofChange lexAllsSpec)

/-- ITS FALSE NEIGHBOUR: 'it returns false'. Refute it at one input. -/
def lexAllsWrong : ChangeSpec := { name := "lexAlls", fn := fun _ => fun
  | [d] => { results := [.lit (.bool false)], args := [d] }
  | _ => none }
def LexAllsWrongFalsely : Prop := lexAllsRow.holds Try.pinned (OpenSpec.ofChange lexAllsWrong)

/-- 'mandatelaw05.LexOnes': WHATEVER THE INPUT: true; the input reads as it did. -/
def lexOnesSpec : ChangeSpec := { name := "lexOnes", fn := fun _ => fun
  | [d1, d2] => { results := [.lit (.bool true)], args := [d1, d2] }
  | _ => none }
def lexOnesRow : OpenClaim := { program := "ytbhcdbmhgocojaa", sum := "a138777473259fb099e1c916bb2be4a100c9dad99c3e888c2da425353f1262ba", func := "mandate/mandatelaw05.LexOnes", spec := "lexOnes", recurses := true, apart := false }
def LexOnesSaid : Prop := lexOnesRow.holds Try.pinned (OpenSpec.ofChange lexOnesSpec)

/-- ITS FALSE NEIGHBOUR: 'it returns false'. Refute it at one input. -/
def lexOnesWrong : ChangeSpec := { name := "lexOnes", fn := fun _ => fun
  | [d1, d2] => { results := [.lit (.bool false)], args := [d1, d2] }
  | _ => none }
def LexOnesWrongFalsely : Prop := lexOnesRow.holds Try.pinned (OpenSpec.ofChange lexOnesWrong)

/-- 'mandatelaw05.LexPlaces': WHATEVER THE INPUT: true; the input reads as it did. -/
def lexPlacesSpec : ChangeSpec := { name := "lexPlaces", fn := fun _ => fun
  | [d] => { results := [.lit (.bool true)], args := [d] }
  | _ => none }
def lexPlacesRow : OpenClaim := { program := "ytbhcdbmhgocojaa", sum := "a138777473259fb099e1c916bb2be4a100c9dad99c3e888c2da425353f1262ba", func := "mandate/mandatelaw05.LexPlaces", spec := "lexPlaces", recurses := true, apart := false }
def LexPlacesSaid : Prop := lexPlacesRow.holds Try.pinned (OpenSpec.ofChange lexPlacesSpec)

/-- ITS FALSE NEIGHBOUR: 'it returns false'. Refute it at one input. -/
def lexPlacesWrong : ChangeSpec := { name := "lexPlaces", fn := fun _ => fun
  | [d] => { results := [.lit (.bool false)], args := [d] }
  | _ => none }
def LexPlacesWrongFalsely : Prop := lexPlacesRow.holds Try.pinned (OpenSpec.ofChange lexPlacesWrong)

/-- 'mandatelaw05.LexWhole': WHATEVER THE INPUT: true; the input reads as it did. -/
def lexWholeSpec : ChangeSpec := { name := "lexWhole", fn := fun _ => fun
  | [d] => { results := [.lit (.bool true)], args := [d] }
  | _ => none }
def lexWholeRow : OpenClaim := { program := "ytbhcdbmhgocojaa", sum := "a138777473259fb099e1c916bb2be4a100c9dad99c3e888c2da425353f1262ba", func := "mandate/mandatelaw05.LexWhole", spec := "lexWhole", apart := false }
def LexWholeSaid : Prop := lexWholeRow.holds Try.pinned (OpenSpec.ofChange lexWholeSpec)

/-- ITS FALSE NEIGHBOUR: 'it returns false'. Refute it at one input. -/
def lexWholeWrong : ChangeSpec := { name := "lexWhole", fn := fun _ => fun
  | [d] => { results := [.lit (.bool false)], args := [d] }
  | _ => none }
def LexWholeWrongFalsely : Prop := lexWholeRow.holds Try.pinned (OpenSpec.ofChange lexWholeWrong)

/-- 'mandatelaw05.LexJoins': WHATEVER THE INPUT: true; the input reads as it did. -/
def lexJoinsSpec : ChangeSpec := { name := "lexJoins", fn := fun _ => fun
  | [d1, d2] => { results := [.lit (.bool true)], args := [d1, d2] }
  | _ => none }
def lexJoinsRow : OpenClaim := { program := "ytbhcdbmhgocojaa", sum := "a138777473259fb099e1c916bb2be4a100c9dad99c3e888c2da425353f1262ba", func := "mandate/mandatelaw05.LexJoins", spec := "lexJoins", apart := false }
def LexJoinsSaid : Prop := lexJoinsRow.holds Try.pinned (OpenSpec.ofChange lexJoinsSpec)

/-- ITS FALSE NEIGHBOUR: 'it returns false'. Refute it at one input. -/
def lexJoinsWrong : ChangeSpec := { name := "lexJoins", fn := fun _ => fun
  | [d1, d2] => { results := [.lit (.bool false)], args := [d1, d2] }
  | _ => none }
def LexJoinsWrongFalsely : Prop := lexJoinsRow.holds Try.pinned (OpenSpec.ofChange lexJoinsWrong)

/-- 'mandatelaw05.LexAgain': WHATEVER THE INPUT: true; the input reads as it did. -/
def lexAgainSpec : ChangeSpec := { name := "lexAgain", fn := fun _ => fun
  | [d] => { results := [.lit (.bool true)], args := [d] }
  | _ => none }
def lexAgainRow : OpenClaim := { program := "ytbhcdbmhgocojaa", sum := "a138777473259fb099e1c916bb2be4a100c9dad99c3e888c2da425353f1262ba", func := "mandate/mandatelaw05.LexAgain", spec := "lexAgain", apart := false }
def LexAgainSaid : Prop := lexAgainRow.holds Try.pinned (OpenSpec.ofChange lexAgainSpec)

/-- ITS FALSE NEIGHBOUR: 'it returns false'. Refute it at one input. -/
def lexAgainWrong : ChangeSpec := { name := "lexAgain", fn := fun _ => fun
  | [d] => { results := [.lit (.bool false)], args := [d] }
  | _ => none }
def LexAgainWrongFalsely : Prop := lexAgainRow.holds Try.pinned (OpenSpec.ofChange lexAgainWrong)

/- THE SECOND FORM. 'bulk': how many values and letters a reading holds, each counted each time it is reached (what is shared counts as often as it is met; a slice's spare places count too). A statement '..UptoSaid' is the law's where the arguments, and the package variables that the reading takes, are together of bulk at most 1048576: NARROWER than '..Said'. Prove '..Said' where nothing that the law and all that it calls make is longer than what came in: it says more and counts as full. Else prove '..UptoSaid'. A law counts once. -/
mutual
def uptoBulk {H : Type} : DataW H → Nat
  | .lit (.string bytes) => bytes.length + 1
  | .lit _ => 1
  | .nil => 1
  | .ptr d => uptoBulk d + 1
  | .slice elems spare => uptoBulkAll elems + uptoBulkAll spare + 1
  | .agg parts => uptoBulkAll parts + 1
  | .iface _ d => uptoBulk d + 1
  | .map entries => uptoBulkEntries entries + 1
  | .held _ => 1
def uptoBulkAll {H : Type} : List (DataW H) → Nat
  | [] => 0
  | d :: r => uptoBulk d + uptoBulkAll r
def uptoBulkEntries {H : Type} : List (Lit × DataW H) → Nat
  | [] => 0
  | x :: r => uptoBulkEntry x + uptoBulkEntries r
def uptoBulkEntry {H : Type} : Lit × DataW H → Nat
  | (.string bytes, d) => bytes.length + uptoBulk d + 1
  | (_, d) => uptoBulk d + 1
 end
def uptoSmall : (H : Type) → List (DataW H) → Bool := fun _ ds => decide (uptoBulkAll ds ≤ 1048576)
def OpenSpec.upto (s : _root_.Go.ChangeSpec) : _root_.Go.OpenSpec := { _root_.Go.OpenSpec.ofChange s with cond := some uptoSmall }

/-- 'mandatelaw05.LexAlls', WHERE WHAT IT READS IS OF BULK AT MOST 1048576: true; the input reads as it did. -/
def lexAllsUptoRow : OpenClaim := { program := "ytbhcdbmhgocojaa", sum := "a138777473259fb099e1c916bb2be4a100c9dad99c3e888c2da425353f1262ba", func := "mandate/mandatelaw05.LexAlls", spec := "lexAlls", recurses := true, apart := false, narrowed := true }
def LexAllsUptoSaid : Prop := lexAllsUptoRow.holds Try.pinned (OpenSpec.upto lexAllsSpec)

/-- 'mandatelaw05.LexOnes', WHERE WHAT IT READS IS OF BULK AT MOST 1048576: true; the input reads as it did. -/
def lexOnesUptoRow : OpenClaim := { program := "ytbhcdbmhgocojaa", sum := "a138777473259fb099e1c916bb2be4a100c9dad99c3e888c2da425353f1262ba", func := "mandate/mandatelaw05.LexOnes", spec := "lexOnes", recurses := true, apart := false, narrowed := true }
def LexOnesUptoSaid : Prop := lexOnesUptoRow.holds Try.pinned (OpenSpec.upto lexOnesSpec)

/-- 'mandatelaw05.LexPlaces', WHERE WHAT IT READS IS OF BULK AT MOST 1048576: true; the input reads as it did. -/
def lexPlacesUptoRow : OpenClaim := { program := "ytbhcdbmhgocojaa", sum := "a138777473259fb099e1c916bb2be4a100c9dad99c3e888c2da425353f1262ba", func := "mandate/mandatelaw05.LexPlaces", spec := "lexPlaces", recurses := true, apart := false, narrowed := true }
def LexPlacesUptoSaid : Prop := lexPlacesUptoRow.holds Try.pinned (OpenSpec.upto lexPlacesSpec)

/-- 'mandatelaw05.LexWhole', WHERE WHAT IT READS IS OF BULK AT MOST 1048576: true; the input reads as it did. -/
def lexWholeUptoRow : OpenClaim := { program := "ytbhcdbmhgocojaa", sum := "a138777473259fb099e1c916bb2be4a100c9dad99c3e888c2da425353f1262ba", func := "mandate/mandatelaw05.LexWhole", spec := "lexWhole", apart := false, narrowed := true }
def LexWholeUptoSaid : Prop := lexWholeUptoRow.holds Try.pinned (OpenSpec.upto lexWholeSpec)

/-- 'mandatelaw05.LexJoins', WHERE WHAT IT READS IS OF BULK AT MOST 1048576: true; the input reads as it did. -/
def lexJoinsUptoRow : OpenClaim := { program := "ytbhcdbmhgocojaa", sum := "a138777473259fb099e1c916bb2be4a100c9dad99c3e888c2da425353f1262ba", func := "mandate/mandatelaw05.LexJoins", spec := "lexJoins", apart := false, narrowed := true }
def LexJoinsUptoSaid : Prop := lexJoinsUptoRow.holds Try.pinned (OpenSpec.upto lexJoinsSpec)

/-- 'mandatelaw05.LexAgain', WHERE WHAT IT READS IS OF BULK AT MOST 1048576: true; the input reads as it did. -/
def lexAgainUptoRow : OpenClaim := { program := "ytbhcdbmhgocojaa", sum := "a138777473259fb099e1c916bb2be4a100c9dad99c3e888c2da425353f1262ba", func := "mandate/mandatelaw05.LexAgain", spec := "lexAgain", apart := false, narrowed := true }
def LexAgainUptoSaid : Prop := lexAgainUptoRow.holds Try.pinned (OpenSpec.upto lexAgainSpec)

end Rows
end Go.Proofs.Ytbhcdbmhgocojaa
