/-
  No cell of these rows narrows 'for every input' (looked for: loops, veiled, ifaces, maps, wideKeys, modest, calm, conditions, laid).
  DERIVED. THE GIVEN ROWS OF THIS SEAT. 6 by the template 'for every input the law returns true; each argument reads behind the call as it read before'; 0 by the template 'total and deterministic' (their statements: YtdkaaieenbmihaaTotals.lean).
  GIVEN WITH THE SEED: the statements are not yours to turn. If you find one false, say at which input.
  Laid BY PROGRAM, IN A SANDBOX (cutbox-rows.mjs): the forced cells as the released guide's own fill.sh prints them over the translation c01d11cb0b8de695… (all of the seat's roots in one cut). By AI agents, Wed Nov 11 2026. No macro, syntax, notation, axiom, sorry.
-/
import Derived.Test.YtdkaaieenbmihaaChecked
import GoSem.Claim
import GoSem.ClaimJoined
import GoSem.ClaimMapViews
import Derived.JoinedTies
import Derived.KernelRfl
namespace Go.Proofs.Ytdkaaieenbmihaa
/- THE CELL 'sum', in the pinned program and in every row, IS THE sha256 OF THE DUMP (.gsa) THAT YtdkaaieenbmihaaProg.lean LOADS. Nothing in Lean hashes anything: it is a label: what it is worth is what the hold of that sum in a sandbox is worth. -/
noncomputable def Try.pinned : Pinned := { name := "ytdkaaieenbmihaa", sum := "c01d11cb0b8de695e28528be70f82515a18883e391044a75e723091273a39517", checked := Try.checked }
namespace Rows
def none {H : Type} : Left H := { results := [], args := [] }

/-- 'mandatelaw20.WalRecords': WHATEVER THE INPUT: true; the input reads as it did. -/
def walRecordsSpec : ChangeSpec := { name := "walRecords", fn := fun _ => fun
  | [d1, d2] => { results := [.lit (.bool true)], args := [d1, d2] }
  | _ => none }
def walRecordsRow : OpenClaim := { program := "ytdkaaieenbmihaa", sum := "c01d11cb0b8de695e28528be70f82515a18883e391044a75e723091273a39517", func := "mandate/mandatelaw20.WalRecords", spec := "walRecords", unfollowed := true, recurses := true, apart := false }
def WalRecordsSaid : Prop := walRecordsRow.holds Try.pinned (OpenSpec.ofChange walRecordsSpec)

/-- ITS FALSE NEIGHBOUR: 'it returns false'. Refute it at one input. -/
def walRecordsWrong : ChangeSpec := { name := "walRecords", fn := fun _ => fun
  | [d1, d2] => { results := [.lit (.bool false)], args := [d1, d2] }
  | _ => none }
def WalRecordsWrongFalsely : Prop := walRecordsRow.holds Try.pinned (OpenSpec.ofChange walRecordsWrong)

/-- 'mandatelaw20.WalScans': WHATEVER THE INPUT: true; the input reads as it did. -/
def walScansSpec : ChangeSpec := { name := "walScans", fn := fun _ => fun
  | [d] => { results := [.lit (.bool true)], args := [d] }
  | _ => none }
def walScansRow : OpenClaim := { program := "ytdkaaieenbmihaa", sum := "c01d11cb0b8de695e28528be70f82515a18883e391044a75e723091273a39517", func := "mandate/mandatelaw20.WalScans", spec := "walScans", unfollowed := true, recurses := true, apart := false }
def WalScansSaid : Prop := walScansRow.holds Try.pinned (OpenSpec.ofChange walScansSpec)

/-- ITS FALSE NEIGHBOUR: 'it returns false'. Refute it at one input. -/
def walScansWrong : ChangeSpec := { name := "walScans", fn := fun _ => fun
  | [d] => { results := [.lit (.bool false)], args := [d] }
  | _ => none }
def WalScansWrongFalsely : Prop := walScansRow.holds Try.pinned (OpenSpec.ofChange walScansWrong)

/-- 'mandatelaw20.WalBack': WHATEVER THE INPUT: true; the input reads as it did. -/
def walBackSpec : ChangeSpec := { name := "walBack", fn := fun _ => fun
  | [d] => { results := [.lit (.bool true)], args := [d] }
  | _ => none }
def walBackRow : OpenClaim := { program := "ytdkaaieenbmihaa", sum := "c01d11cb0b8de695e28528be70f82515a18883e391044a75e723091273a39517", func := "mandate/mandatelaw20.WalBack", spec := "walBack", unfollowed := true, recurses := true, apart := false }
def WalBackSaid : Prop := walBackRow.holds Try.pinned (OpenSpec.ofChange walBackSpec)

/-- ITS FALSE NEIGHBOUR: 'it returns false'. Refute it at one input. -/
def walBackWrong : ChangeSpec := { name := "walBack", fn := fun _ => fun
  | [d] => { results := [.lit (.bool false)], args := [d] }
  | _ => none }
def WalBackWrongFalsely : Prop := walBackRow.holds Try.pinned (OpenSpec.ofChange walBackWrong)

/-- 'mandatelaw20.WalChecks': WHATEVER THE INPUT: true; the input reads as it did. -/
def walChecksSpec : ChangeSpec := { name := "walChecks", fn := fun _ => fun
  | [d1, d2] => { results := [.lit (.bool true)], args := [d1, d2] }
  | _ => none }
def walChecksRow : OpenClaim := { program := "ytdkaaieenbmihaa", sum := "c01d11cb0b8de695e28528be70f82515a18883e391044a75e723091273a39517", func := "mandate/mandatelaw20.WalChecks", spec := "walChecks", unfollowed := true, recurses := true, apart := false }
def WalChecksSaid : Prop := walChecksRow.holds Try.pinned (OpenSpec.ofChange walChecksSpec)

/-- ITS FALSE NEIGHBOUR: 'it returns false'. Refute it at one input. -/
def walChecksWrong : ChangeSpec := { name := "walChecks", fn := fun _ => fun
  | [d1, d2] => { results := [.lit (.bool false)], args := [d1, d2] }
  | _ => none }
def WalChecksWrongFalsely : Prop := walChecksRow.holds Try.pinned (OpenSpec.ofChange walChecksWrong)

/-- 'mandatelaw20.WalNil': WHATEVER THE INPUT: true; the input reads as it did. -/
def walNilSpec : ChangeSpec := { name := "walNil", fn := fun _ => fun
  | [d] => { results := [.lit (.bool true)], args := [d] }
  | _ => none }
def walNilRow : OpenClaim := { program := "ytdkaaieenbmihaa", sum := "c01d11cb0b8de695e28528be70f82515a18883e391044a75e723091273a39517", func := "mandate/mandatelaw20.WalNil", spec := "walNil", unfollowed := true, recurses := true, apart := false }
def WalNilSaid : Prop := walNilRow.holds Try.pinned (OpenSpec.ofChange walNilSpec)

/-- ITS FALSE NEIGHBOUR: 'it returns false'. Refute it at one input. -/
def walNilWrong : ChangeSpec := { name := "walNil", fn := fun _ => fun
  | [d] => { results := [.lit (.bool false)], args := [d] }
  | _ => none }
def WalNilWrongFalsely : Prop := walNilRow.holds Try.pinned (OpenSpec.ofChange walNilWrong)

/-- 'mandatelaw20.WalLasts': WHATEVER THE INPUT: true; the input reads as it did. -/
def walLastsSpec : ChangeSpec := { name := "walLasts", fn := fun _ => fun
  | [d] => { results := [.lit (.bool true)], args := [d] }
  | _ => none }
def walLastsRow : OpenClaim := { program := "ytdkaaieenbmihaa", sum := "c01d11cb0b8de695e28528be70f82515a18883e391044a75e723091273a39517", func := "mandate/mandatelaw20.WalLasts", spec := "walLasts", unfollowed := true, recurses := true, apart := false }
def WalLastsSaid : Prop := walLastsRow.holds Try.pinned (OpenSpec.ofChange walLastsSpec)

/-- ITS FALSE NEIGHBOUR: 'it returns false'. Refute it at one input. -/
def walLastsWrong : ChangeSpec := { name := "walLasts", fn := fun _ => fun
  | [d] => { results := [.lit (.bool false)], args := [d] }
  | _ => none }
def WalLastsWrongFalsely : Prop := walLastsRow.holds Try.pinned (OpenSpec.ofChange walLastsWrong)

/- THE SECOND FORM. 'bulk': how many values and letters a reading holds, each counted each time it is reached (what is shared counts as often as it is met; a slice's spare places count too). A statement '..UptoSaid' is the law's where the arguments, and the package variables that the reading takes, are together of bulk at most 1048576: NARROWER than '..Said'. Prove '..Said' where nothing that the law and all that it calls make is longer than what came in: it says more and counts as full. Else prove '..UptoSaid'. A law counts once. -/
mutual
def uptoBulk {H : Type} : DataW H → Nat
  | .lit (.string bytes) => bytes.length + 1
  | .lit _ => 1
  | .nil => 1
  | .ptr d => uptoBulk d + 1
  | .slice elems spare => uptoBulkAll elems + uptoBulkAll spare + 1
  | .agg parts => uptoBulkAll parts + 1
  | .iface _ d => uptoBulk d + 1
  | .map entries => uptoBulkEntries entries + 1
  | .held _ => 1
def uptoBulkAll {H : Type} : List (DataW H) → Nat
  | [] => 0
  | d :: r => uptoBulk d + uptoBulkAll r
def uptoBulkEntries {H : Type} : List (Lit × DataW H) → Nat
  | [] => 0
  | x :: r => uptoBulkEntry x + uptoBulkEntries r
def uptoBulkEntry {H : Type} : Lit × DataW H → Nat
  | (.string bytes, d) => bytes.length + uptoBulk d + 1
  | (_, d) => uptoBulk d + 1
 end
def uptoSmall : (H : Type) → List (DataW H) → Bool := fun _ ds => decide (uptoBulkAll ds ≤ 1048576)
def OpenSpec.upto (s : _root_.Go.ChangeSpec) : _root_.Go.OpenSpec := { _root_.Go.OpenSpec.ofChange s with cond := some uptoSmall }

/-- 'mandatelaw20.WalRecords', WHERE WHAT IT READS IS OF BULK AT MOST 1048576: true; the input reads as it did. -/
def walRecordsUptoRow : OpenClaim := { program := "ytdkaaieenbmihaa", sum := "c01d11cb0b8de695e28528be70f82515a18883e391044a75e723091273a39517", func := "mandate/mandatelaw20.WalRecords", spec := "walRecords", unfollowed := true, recurses := true, apart := false, narrowed := true }
def WalRecordsUptoSaid : Prop := walRecordsUptoRow.holds Try.pinned (OpenSpec.upto walRecordsSpec)

/-- 'mandatelaw20.WalScans', WHERE WHAT IT READS IS OF BULK AT MOST 1048576: true; the input reads as it did. -/
def walScansUptoRow : OpenClaim := { program := "ytdkaaieenbmihaa", sum := "c01d11cb0b8de695e28528be70f82515a18883e391044a75e723091273a39517", func := "mandate/mandatelaw20.WalScans", spec := "walScans", unfollowed := true, recurses := true, apart := false, narrowed := true }
def WalScansUptoSaid : Prop := walScansUptoRow.holds Try.pinned (OpenSpec.upto walScansSpec)

/-- 'mandatelaw20.WalBack', WHERE WHAT IT READS IS OF BULK AT MOST 1048576: true; the input reads as it did. -/
def walBackUptoRow : OpenClaim := { program := "ytdkaaieenbmihaa", sum := "c01d11cb0b8de695e28528be70f82515a18883e391044a75e723091273a39517", func := "mandate/mandatelaw20.WalBack", spec := "walBack", unfollowed := true, recurses := true, apart := false, narrowed := true }
def WalBackUptoSaid : Prop := walBackUptoRow.holds Try.pinned (OpenSpec.upto walBackSpec)

/-- 'mandatelaw20.WalChecks', WHERE WHAT IT READS IS OF BULK AT MOST 1048576: true; the input reads as it did. -/
def walChecksUptoRow : OpenClaim := { program := "ytdkaaieenbmihaa", sum := "c01d11cb0b8de695e28528be70f82515a18883e391044a75e723091273a39517", func := "mandate/mandatelaw20.WalChecks", spec := "walChecks", unfollowed := true, recurses := true, apart := false, narrowed := true }
def WalChecksUptoSaid : Prop := walChecksUptoRow.holds Try.pinned (OpenSpec.upto walChecksSpec)

/-- 'mandatelaw20.WalNil', WHERE WHAT IT READS IS OF BULK AT MOST 1048576: true; the input reads as it did. -/
def walNilUptoRow : OpenClaim := { program := "ytdkaaieenbmihaa", sum := "c01d11cb0b8de695e28528be70f82515a18883e391044a75e723091273a39517", func := "mandate/mandatelaw20.WalNil", spec := "walNil", unfollowed := true, recurses := true, apart := false, narrowed := true }
def WalNilUptoSaid : Prop := walNilUptoRow.holds Try.pinned (OpenSpec.upto walNilSpec)

/-- 'mandatelaw20.WalLasts', WHERE WHAT IT READS IS OF BULK AT MOST 1048576: true; the input reads as it did. -/
def walLastsUptoRow : OpenClaim := { program := "ytdkaaieenbmihaa", sum := "c01d11cb0b8de695e28528be70f82515a18883e391044a75e723091273a39517", func := "mandate/mandatelaw20.WalLasts", spec := "walLasts", unfollowed := true, recurses := true, apart := false, narrowed := true }
def WalLastsUptoSaid : Prop := walLastsUptoRow.holds Try.pinned (OpenSpec.upto walLastsSpec)

end Rows
end Go.Proofs.Ytdkaaieenbmihaa
