/-
  No cell of these rows narrows 'for every input' (looked for: loops, veiled, ifaces, maps, wideKeys, modest, calm, conditions, laid).
  DERIVED. THE GIVEN ROWS OF THIS SEAT. 5 by the template 'for every input the law returns true; each argument reads behind the call as it read before'; 0 by the template 'total and deterministic' (their statements: YtehgblnhhlgikaaTotals.lean).
  GIVEN WITH THE SEED: the statements are not yours to turn. If you find one false, say at which input.
  Laid BY PROGRAM, IN A SANDBOX (cutbox-rows.mjs): the forced cells as the released guide's own fill.sh prints them over the translation f8bd54dac72954d0… (all of the seat's roots in one cut). By AI agents, Wed Nov 11 2026. No macro, syntax, notation, axiom, sorry.
-/
import Derived.Test.YtehgblnhhlgikaaChecked
import GoSem.Claim
import GoSem.ClaimJoined
import GoSem.ClaimMapViews
import Derived.JoinedTies
import Derived.KernelRfl
namespace Go.Proofs.Ytehgblnhhlgikaa
/- THE CELL 'sum', in the pinned program and in every row, IS THE sha256 OF THE DUMP (.gsa) THAT YtehgblnhhlgikaaProg.lean LOADS. Nothing in Lean hashes anything: it is a label: what it is worth is what the hold of that sum in a sandbox is worth. -/
noncomputable def Try.pinned : Pinned := { name := "ytehgblnhhlgikaa", sum := "f8bd54dac72954d0752ef0a2a3542dbbf2ce5a10d56e1e34d71ebcfd3acd417a", checked := Try.checked }
namespace Rows
def none {H : Type} : Left H := { results := [], args := [] }

/-- 'mandatelaw10.BindMatches': WHATEVER THE INPUT: true; the input reads as it did. -/
def bindMatchesSpec : ChangeSpec := { name := "bindMatches", fn := fun _ => fun
  | [d1, d2, d3] => { results := [.lit (.bool true)], args := [d1, d2, d3] }
  | _ => none }
def bindMatchesRow : OpenClaim := { program := "ytehgblnhhlgikaa", sum := "f8bd54dac72954d0752ef0a2a3542dbbf2ce5a10d56e1e34d71ebcfd3acd417a", func := "mandate/mandatelaw10.BindMatches", spec := "bindMatches", unfollowed := true, recurses := true, apart := false }
def BindMatchesSaid : Prop := bindMatchesRow.holds Try.pinned (OpenSpec.ofChange bindMatchesSpec)

/-- ITS FALSE NEIGHBOUR: 'it returns false'. Refute it at one input. -/
def bindMatchesWrong : ChangeSpec := { name := "bindMatches", fn := fun _ => fun
  | [d1, d2, d3] => { results := [.lit (.bool false)], args := [d1, d2, d3] }
  | _ => none }
def BindMatchesWrongFalsely : Prop := bindMatchesRow.holds Try.pinned (OpenSpec.ofChange bindMatchesWrong)

/-- 'mandatelaw10.BindFills': WHATEVER THE INPUT: true; the input reads as it did. -/
def bindFillsSpec : ChangeSpec := { name := "bindFills", fn := fun _ => fun
  | [d1, d2] => { results := [.lit (.bool true)], args := [d1, d2] }
  | _ => none }
def bindFillsRow : OpenClaim := { program := "ytehgblnhhlgikaa", sum := "f8bd54dac72954d0752ef0a2a3542dbbf2ce5a10d56e1e34d71ebcfd3acd417a", func := "mandate/mandatelaw10.BindFills", spec := "bindFills", unfollowed := true, recurses := true, apart := false }
def BindFillsSaid : Prop := bindFillsRow.holds Try.pinned (OpenSpec.ofChange bindFillsSpec)

/-- ITS FALSE NEIGHBOUR: 'it returns false'. Refute it at one input. -/
def bindFillsWrong : ChangeSpec := { name := "bindFills", fn := fun _ => fun
  | [d1, d2] => { results := [.lit (.bool false)], args := [d1, d2] }
  | _ => none }
def BindFillsWrongFalsely : Prop := bindFillsRow.holds Try.pinned (OpenSpec.ofChange bindFillsWrong)

/-- 'mandatelaw10.BindSelects': WHATEVER THE INPUT: true; the input reads as it did. -/
def bindSelectsSpec : ChangeSpec := { name := "bindSelects", fn := fun _ => fun
  | [d1, d2] => { results := [.lit (.bool true)], args := [d1, d2] }
  | _ => none }
def bindSelectsRow : OpenClaim := { program := "ytehgblnhhlgikaa", sum := "f8bd54dac72954d0752ef0a2a3542dbbf2ce5a10d56e1e34d71ebcfd3acd417a", func := "mandate/mandatelaw10.BindSelects", spec := "bindSelects", unfollowed := true, recurses := true, apart := false }
def BindSelectsSaid : Prop := bindSelectsRow.holds Try.pinned (OpenSpec.ofChange bindSelectsSpec)

/-- ITS FALSE NEIGHBOUR: 'it returns false'. Refute it at one input. -/
def bindSelectsWrong : ChangeSpec := { name := "bindSelects", fn := fun _ => fun
  | [d1, d2] => { results := [.lit (.bool false)], args := [d1, d2] }
  | _ => none }
def BindSelectsWrongFalsely : Prop := bindSelectsRow.holds Try.pinned (OpenSpec.ofChange bindSelectsWrong)

/-- 'mandatelaw10.BindBack': WHATEVER THE INPUT: true; the input reads as it did. -/
def bindBackSpec : ChangeSpec := { name := "bindBack", fn := fun _ => fun
  | [d1, d2, d3] => { results := [.lit (.bool true)], args := [d1, d2, d3] }
  | _ => none }
def bindBackRow : OpenClaim := { program := "ytehgblnhhlgikaa", sum := "f8bd54dac72954d0752ef0a2a3542dbbf2ce5a10d56e1e34d71ebcfd3acd417a", func := "mandate/mandatelaw10.BindBack", spec := "bindBack", unfollowed := true, recurses := true, apart := false }
def BindBackSaid : Prop := bindBackRow.holds Try.pinned (OpenSpec.ofChange bindBackSpec)

/-- ITS FALSE NEIGHBOUR: 'it returns false'. Refute it at one input. -/
def bindBackWrong : ChangeSpec := { name := "bindBack", fn := fun _ => fun
  | [d1, d2, d3] => { results := [.lit (.bool false)], args := [d1, d2, d3] }
  | _ => none }
def BindBackWrongFalsely : Prop := bindBackRow.holds Try.pinned (OpenSpec.ofChange bindBackWrong)

/-- 'mandatelaw10.BindOrders': WHATEVER THE INPUT: true; the input reads as it did. -/
def bindOrdersSpec : ChangeSpec := { name := "bindOrders", fn := fun _ => fun
  | [d1, d2] => { results := [.lit (.bool true)], args := [d1, d2] }
  | _ => none }
def bindOrdersRow : OpenClaim := { program := "ytehgblnhhlgikaa", sum := "f8bd54dac72954d0752ef0a2a3542dbbf2ce5a10d56e1e34d71ebcfd3acd417a", func := "mandate/mandatelaw10.BindOrders", spec := "bindOrders", unfollowed := true, recurses := true, apart := false }
def BindOrdersSaid : Prop := bindOrdersRow.holds Try.pinned (OpenSpec.ofChange bindOrdersSpec)

/-- ITS FALSE NEIGHBOUR: 'it returns false'. Refute it at one input. -/
def bindOrdersWrong : ChangeSpec := { name := "bindOrders", fn := fun _ => fun
  | [d1, d2] => { results := [.lit (.bool false)], args := [d1, d2] }
  | _ => none }
def BindOrdersWrongFalsely : Prop := bindOrdersRow.holds Try.pinned (OpenSpec.ofChange bindOrdersWrong)

/- THE SECOND FORM. 'bulk': how many values and letters a reading holds, each counted each time it is reached (what is shared counts as often as it is met; a slice's spare places count too). A statement '..UptoSaid' is the law's where the arguments, and the package variables that the reading takes, are together of bulk at most 1048576: NARROWER than '..Said'. Prove '..Said' where nothing that the law and all that it calls make is longer than what came in: it says more and counts as full. Else prove '..UptoSaid'. A law counts once. -/
mutual
def uptoBulk {H : Type} : DataW H → Nat
  | .lit (.string bytes) => bytes.length + 1
  | .lit _ => 1
  | .nil => 1
  | .ptr d => uptoBulk d + 1
  | .slice elems spare => uptoBulkAll elems + uptoBulkAll spare + 1
  | .agg parts => uptoBulkAll parts + 1
  | .iface _ d => uptoBulk d + 1
  | .map entries => uptoBulkEntries entries + 1
  | .held _ => 1
def uptoBulkAll {H : Type} : List (DataW H) → Nat
  | [] => 0
  | d :: r => uptoBulk d + uptoBulkAll r
def uptoBulkEntries {H : Type} : List (Lit × DataW H) → Nat
  | [] => 0
  | x :: r => uptoBulkEntry x + uptoBulkEntries r
def uptoBulkEntry {H : Type} : Lit × DataW H → Nat
  | (.string bytes, d) => bytes.length + uptoBulk d + 1
  | (_, d) => uptoBulk d + 1
 end
def uptoSmall : (H : Type) → List (DataW H) → Bool := fun _ ds => decide (uptoBulkAll ds ≤ 1048576)
def OpenSpec.upto (s : _root_.Go.ChangeSpec) : _root_.Go.OpenSpec := { _root_.Go.OpenSpec.ofChange s with cond := some uptoSmall }

/-- 'mandatelaw10.BindMatches', WHERE WHAT IT READS IS OF BULK AT MOST 1048576: true; the input reads as it did. -/
def bindMatchesUptoRow : OpenClaim := { program := "ytehgblnhhlgikaa", sum := "f8bd54dac72954d0752ef0a2a3542dbbf2ce5a10d56e1e34d71ebcfd3acd417a", func := "mandate/mandatelaw10.BindMatches", spec := "bindMatches", unfollowed := true, recurses := true, apart := false, narrowed := true }
def BindMatchesUptoSaid : Prop := bindMatchesUptoRow.holds Try.pinned (OpenSpec.upto bindMatchesSpec)

/-- 'mandatelaw10.BindFills', WHERE WHAT IT READS IS OF BULK AT MOST 1048576: true; the input reads as it did. -/
def bindFillsUptoRow : OpenClaim := { program := "ytehgblnhhlgikaa", sum := "f8bd54dac72954d0752ef0a2a3542dbbf2ce5a10d56e1e34d71ebcfd3acd417a", func := "mandate/mandatelaw10.BindFills", spec := "bindFills", unfollowed := true, recurses := true, apart := false, narrowed := true }
def BindFillsUptoSaid : Prop := bindFillsUptoRow.holds Try.pinned (OpenSpec.upto bindFillsSpec)

/-- 'mandatelaw10.BindSelects', WHERE WHAT IT READS IS OF BULK AT MOST 1048576: true; the input reads as it did. -/
def bindSelectsUptoRow : OpenClaim := { program := "ytehgblnhhlgikaa", sum := "f8bd54dac72954d0752ef0a2a3542dbbf2ce5a10d56e1e34d71ebcfd3acd417a", func := "mandate/mandatelaw10.BindSelects", spec := "bindSelects", unfollowed := true, recurses := true, apart := false, narrowed := true }
def BindSelectsUptoSaid : Prop := bindSelectsUptoRow.holds Try.pinned (OpenSpec.upto bindSelectsSpec)

/-- 'mandatelaw10.BindBack', WHERE WHAT IT READS IS OF BULK AT MOST 1048576: true; the input reads as it did. -/
def bindBackUptoRow : OpenClaim := { program := "ytehgblnhhlgikaa", sum := "f8bd54dac72954d0752ef0a2a3542dbbf2ce5a10d56e1e34d71ebcfd3acd417a", func := "mandate/mandatelaw10.BindBack", spec := "bindBack", unfollowed := true, recurses := true, apart := false, narrowed := true }
def BindBackUptoSaid : Prop := bindBackUptoRow.holds Try.pinned (OpenSpec.upto bindBackSpec)

/-- 'mandatelaw10.BindOrders', WHERE WHAT IT READS IS OF BULK AT MOST 1048576: true; the input reads as it did. -/
def bindOrdersUptoRow : OpenClaim := { program := "ytehgblnhhlgikaa", sum := "f8bd54dac72954d0752ef0a2a3542dbbf2ce5a10d56e1e34d71ebcfd3acd417a", func := "mandate/mandatelaw10.BindOrders", spec := "bindOrders", unfollowed := true, recurses := true, apart := false, narrowed := true }
def BindOrdersUptoSaid : Prop := bindOrdersUptoRow.holds Try.pinned (OpenSpec.upto bindOrdersSpec)

end Rows
end Go.Proofs.Ytehgblnhhlgikaa
