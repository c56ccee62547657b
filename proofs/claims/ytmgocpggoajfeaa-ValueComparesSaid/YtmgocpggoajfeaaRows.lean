/-
  No cell of these rows narrows 'for every input' (looked for: loops, veiled, ifaces, maps, wideKeys, modest, calm, conditions, laid).
  DERIVED. THE GIVEN ROWS OF THIS SEAT. 9 by the template 'for every input the law returns true; each argument reads behind the call as it read before'; 0 by the template 'total and deterministic' (their statements: YtmgocpggoajfeaaTotals.lean).
  GIVEN WITH THE SEED: the statements are not yours to turn. If you find one false, say at which input.
  Laid BY PROGRAM, IN A SANDBOX (cutbox-rows.mjs): the forced cells as the released guide's own fill.sh prints them over the translation 1351a3fc8e2b37c8… (all of the seat's roots in one cut). By AI agents, Wed Nov 11 2026. No macro, syntax, notation, axiom, sorry.
-/
import Derived.Test.YtmgocpggoajfeaaChecked
import GoSem.Claim
import GoSem.ClaimJoined
import GoSem.ClaimMapViews
import Derived.JoinedTies
import Derived.KernelRfl
namespace Go.Proofs.Ytmgocpggoajfeaa
/- THE CELL 'sum', in the pinned program and in every row, IS THE sha256 OF THE DUMP (.gsa) THAT YtmgocpggoajfeaaProg.lean LOADS. Nothing in Lean hashes anything: it is a label: what it is worth is what the hold of that sum in a sandbox is worth. -/
noncomputable def Try.pinned : Pinned := { name := "ytmgocpggoajfeaa", sum := "1351a3fc8e2b37c8ce663e24a972e9ed5f444eb06955b1281235e97cc43e1b73", checked := Try.checked }
namespace Rows
def none {H : Type} : Left H := { results := [], args := [] }

/-- 'mandatelaw01.ValueNames': WHATEVER THE INPUT: true; the input reads as it did. -/
def valueNamesSpec : ChangeSpec := { name := "valueNames", fn := fun _ => fun
  | [d] => { results := [.lit (.bool true)], args := [d] }
  | _ => none }
def valueNamesRow : OpenClaim := { program := "ytmgocpggoajfeaa", sum := "1351a3fc8e2b37c8ce663e24a972e9ed5f444eb06955b1281235e97cc43e1b73", func := "mandate/mandatelaw01.ValueNames", spec := "valueNames", unfollowed := true, recurses := true, apart := false }
def ValueNamesSaid : Prop := valueNamesRow.holds Try.pinned (OpenSpec.ofChange valueNamesSpec)

/-- ITS FALSE NEIGHBOUR: 'it returns false'. Refute it at one input. -/
def valueNamesWrong : ChangeSpec := { name := "valueNames", fn := fun _ => fun
  | [d] => { results := [.lit (.bool false)], args := [d] }
  | _ => none }
def ValueNamesWrongFalsely : Prop := valueNamesRow.holds Try.pinned (OpenSpec.ofChange valueNamesWrong)

/-- 'mandatelaw01.ValueGood': WHATEVER THE INPUT: true; the input reads as it did. -/
def valueGoodSpec : ChangeSpec := { name := "valueGood", fn := fun _ => fun
  | [d1, d2] => { results := [.lit (.bool true)], args := [d1, d2] }
  | _ => none }
def valueGoodRow : OpenClaim := { program := "ytmgocpggoajfeaa", sum := "1351a3fc8e2b37c8ce663e24a972e9ed5f444eb06955b1281235e97cc43e1b73", func := "mandate/mandatelaw01.ValueGood", spec := "valueGood", unfollowed := true, recurses := true, apart := false }
def ValueGoodSaid : Prop := valueGoodRow.holds Try.pinned (OpenSpec.ofChange valueGoodSpec)

/-- ITS FALSE NEIGHBOUR: 'it returns false'. Refute it at one input. -/
def valueGoodWrong : ChangeSpec := { name := "valueGood", fn := fun _ => fun
  | [d1, d2] => { results := [.lit (.bool false)], args := [d1, d2] }
  | _ => none }
def ValueGoodWrongFalsely : Prop := valueGoodRow.holds Try.pinned (OpenSpec.ofChange valueGoodWrong)

/-- 'mandatelaw01.ValueTexts': WHATEVER THE INPUT: true; the input reads as it did. -/
def valueTextsSpec : ChangeSpec := { name := "valueTexts", fn := fun _ => fun
  | [d] => { results := [.lit (.bool true)], args := [d] }
  | _ => none }
def valueTextsRow : OpenClaim := { program := "ytmgocpggoajfeaa", sum := "1351a3fc8e2b37c8ce663e24a972e9ed5f444eb06955b1281235e97cc43e1b73", func := "mandate/mandatelaw01.ValueTexts", spec := "valueTexts", unfollowed := true, recurses := true, apart := false }
def ValueTextsSaid : Prop := valueTextsRow.holds Try.pinned (OpenSpec.ofChange valueTextsSpec)

/-- ITS FALSE NEIGHBOUR: 'it returns false'. Refute it at one input. -/
def valueTextsWrong : ChangeSpec := { name := "valueTexts", fn := fun _ => fun
  | [d] => { results := [.lit (.bool false)], args := [d] }
  | _ => none }
def ValueTextsWrongFalsely : Prop := valueTextsRow.holds Try.pinned (OpenSpec.ofChange valueTextsWrong)

/-- 'mandatelaw01.ValueReads': WHATEVER THE INPUT: true; the input reads as it did. -/
def valueReadsSpec : ChangeSpec := { name := "valueReads", fn := fun _ => fun
  | [d] => { results := [.lit (.bool true)], args := [d] }
  | _ => none }
def valueReadsRow : OpenClaim := { program := "ytmgocpggoajfeaa", sum := "1351a3fc8e2b37c8ce663e24a972e9ed5f444eb06955b1281235e97cc43e1b73", func := "mandate/mandatelaw01.ValueReads", spec := "valueReads", unfollowed := true, recurses := true, apart := false }
def ValueReadsSaid : Prop := valueReadsRow.holds Try.pinned (OpenSpec.ofChange valueReadsSpec)

/-- ITS FALSE NEIGHBOUR: 'it returns false'. Refute it at one input. -/
def valueReadsWrong : ChangeSpec := { name := "valueReads", fn := fun _ => fun
  | [d] => { results := [.lit (.bool false)], args := [d] }
  | _ => none }
def ValueReadsWrongFalsely : Prop := valueReadsRow.holds Try.pinned (OpenSpec.ofChange valueReadsWrong)

/-- 'mandatelaw01.ValueCompares': WHATEVER THE INPUT: true; the input reads as it did. -/
def valueComparesSpec : ChangeSpec := { name := "valueCompares", fn := fun _ => fun
  | [d] => { results := [.lit (.bool true)], args := [d] }
  | _ => none }
def valueComparesRow : OpenClaim := { program := "ytmgocpggoajfeaa", sum := "1351a3fc8e2b37c8ce663e24a972e9ed5f444eb06955b1281235e97cc43e1b73", func := "mandate/mandatelaw01.ValueCompares", spec := "valueCompares", unfollowed := true, recurses := true, apart := false }
def ValueComparesSaid : Prop := valueComparesRow.holds Try.pinned (OpenSpec.ofChange valueComparesSpec)

/-- ITS FALSE NEIGHBOUR: 'it returns false'. Refute it at one input. -/
def valueComparesWrong : ChangeSpec := { name := "valueCompares", fn := fun _ => fun
  | [d] => { results := [.lit (.bool false)], args := [d] }
  | _ => none }
def ValueComparesWrongFalsely : Prop := valueComparesRow.holds Try.pinned (OpenSpec.ofChange valueComparesWrong)

/-- 'mandatelaw01.ValueSorts': WHATEVER THE INPUT: true; the input reads as it did. -/
def valueSortsSpec : ChangeSpec := { name := "valueSorts", fn := fun _ => fun
  | [d] => { results := [.lit (.bool true)], args := [d] }
  | _ => none }
def valueSortsRow : OpenClaim := { program := "ytmgocpggoajfeaa", sum := "1351a3fc8e2b37c8ce663e24a972e9ed5f444eb06955b1281235e97cc43e1b73", func := "mandate/mandatelaw01.ValueSorts", spec := "valueSorts", unfollowed := true, recurses := true, apart := false }
def ValueSortsSaid : Prop := valueSortsRow.holds Try.pinned (OpenSpec.ofChange valueSortsSpec)

/-- ITS FALSE NEIGHBOUR: 'it returns false'. Refute it at one input. -/
def valueSortsWrong : ChangeSpec := { name := "valueSorts", fn := fun _ => fun
  | [d] => { results := [.lit (.bool false)], args := [d] }
  | _ => none }
def ValueSortsWrongFalsely : Prop := valueSortsRow.holds Try.pinned (OpenSpec.ofChange valueSortsWrong)

/-- 'mandatelaw01.ValueBack': WHATEVER THE INPUT: true; the input reads as it did. -/
def valueBackSpec : ChangeSpec := { name := "valueBack", fn := fun _ => fun
  | [d1, d2] => { results := [.lit (.bool true)], args := [d1, d2] }
  | _ => none }
def valueBackRow : OpenClaim := { program := "ytmgocpggoajfeaa", sum := "1351a3fc8e2b37c8ce663e24a972e9ed5f444eb06955b1281235e97cc43e1b73", func := "mandate/mandatelaw01.ValueBack", spec := "valueBack", unfollowed := true, recurses := true, apart := false }
def ValueBackSaid : Prop := valueBackRow.holds Try.pinned (OpenSpec.ofChange valueBackSpec)

/-- ITS FALSE NEIGHBOUR: 'it returns false'. Refute it at one input. -/
def valueBackWrong : ChangeSpec := { name := "valueBack", fn := fun _ => fun
  | [d1, d2] => { results := [.lit (.bool false)], args := [d1, d2] }
  | _ => none }
def ValueBackWrongFalsely : Prop := valueBackRow.holds Try.pinned (OpenSpec.ofChange valueBackWrong)

/-- 'mandatelaw01.ValueTotal': WHATEVER THE INPUT: true; the input reads as it did. -/
def valueTotalSpec : ChangeSpec := { name := "valueTotal", fn := fun _ => fun
  | [d1, d2, d3] => { results := [.lit (.bool true)], args := [d1, d2, d3] }
  | _ => none }
def valueTotalRow : OpenClaim := { program := "ytmgocpggoajfeaa", sum := "1351a3fc8e2b37c8ce663e24a972e9ed5f444eb06955b1281235e97cc43e1b73", func := "mandate/mandatelaw01.ValueTotal", spec := "valueTotal", unfollowed := true, recurses := true, apart := false }
def ValueTotalSaid : Prop := valueTotalRow.holds Try.pinned (OpenSpec.ofChange valueTotalSpec)

/-- ITS FALSE NEIGHBOUR: 'it returns false'. Refute it at one input. -/
def valueTotalWrong : ChangeSpec := { name := "valueTotal", fn := fun _ => fun
  | [d1, d2, d3] => { results := [.lit (.bool false)], args := [d1, d2, d3] }
  | _ => none }
def ValueTotalWrongFalsely : Prop := valueTotalRow.holds Try.pinned (OpenSpec.ofChange valueTotalWrong)

/-- 'mandatelaw01.ValueOnce': WHATEVER THE INPUT: true; the input reads as it did. -/
def valueOnceSpec : ChangeSpec := { name := "valueOnce", fn := fun _ => fun
  | [d] => { results := [.lit (.bool true)], args := [d] }
  | _ => none }
def valueOnceRow : OpenClaim := { program := "ytmgocpggoajfeaa", sum := "1351a3fc8e2b37c8ce663e24a972e9ed5f444eb06955b1281235e97cc43e1b73", func := "mandate/mandatelaw01.ValueOnce", spec := "valueOnce", unfollowed := true, recurses := true, apart := false }
def ValueOnceSaid : Prop := valueOnceRow.holds Try.pinned (OpenSpec.ofChange valueOnceSpec)

/-- ITS FALSE NEIGHBOUR: 'it returns false'. Refute it at one input. -/
def valueOnceWrong : ChangeSpec := { name := "valueOnce", fn := fun _ => fun
  | [d] => { results := [.lit (.bool false)], args := [d] }
  | _ => none }
def ValueOnceWrongFalsely : Prop := valueOnceRow.holds Try.pinned (OpenSpec.ofChange valueOnceWrong)

/- THE SECOND FORM. 'bulk': how many values and letters a reading holds, each counted each time it is reached (what is shared counts as often as it is met; a slice's spare places count too). A statement '..UptoSaid' is the law's where the arguments, and the package variables that the reading takes, are together of bulk at most 1048576: NARROWER than '..Said'. Prove '..Said' where nothing that the law and all that it calls make is longer than what came in: it says more and counts as full. Else prove '..UptoSaid'. A law counts once. -/
mutual
def uptoBulk {H : Type} : DataW H → Nat
  | .lit (.string bytes) => bytes.length + 1
  | .lit _ => 1
  | .nil => 1
  | .ptr d => uptoBulk d + 1
  | .slice elems spare => uptoBulkAll elems + uptoBulkAll spare + 1
  | .agg parts => uptoBulkAll parts + 1
  | .iface _ d => uptoBulk d + 1
  | .map entries => uptoBulkEntries entries + 1
  | .held _ => 1
def uptoBulkAll {H : Type} : List (DataW H) → Nat
  | [] => 0
  | d :: r => uptoBulk d + uptoBulkAll r
def uptoBulkEntries {H : Type} : List (Lit × DataW H) → Nat
  | [] => 0
  | x :: r => uptoBulkEntry x + uptoBulkEntries r
def uptoBulkEntry {H : Type} : Lit × DataW H → Nat
  | (.string bytes, d) => bytes.length + uptoBulk d + 1
  | (_, d) => uptoBulk d + 1
 end
def uptoSmall : (H : Type) → List (DataW H) → Bool := fun _ ds => decide (uptoBulkAll ds ≤ 1048576)
def OpenSpec.upto (s : _root_.Go.ChangeSpec) : _root_.Go.OpenSpec := { _root_.Go.OpenSpec.ofChange s with cond := some uptoSmall }

/-- 'mandatelaw01.ValueNames', WHERE WHAT IT READS IS OF BULK AT MOST 1048576: true; the input reads as it did. -/
def valueNamesUptoRow : OpenClaim := { program := "ytmgocpggoajfeaa", sum := "1351a3fc8e2b37c8ce663e24a972e9ed5f444eb06955b1281235e97cc43e1b73", func := "mandate/mandatelaw01.ValueNames", spec := "valueNames", unfollowed := true, recurses := true, apart := false, narrowed := true }
def ValueNamesUptoSaid : Prop := valueNamesUptoRow.holds Try.pinned (OpenSpec.upto valueNamesSpec)

/-- 'mandatelaw01.ValueGood', WHERE WHAT IT READS IS OF BULK AT MOST 1048576: true; the input reads as it did. -/
def valueGoodUptoRow : OpenClaim := { program := "ytmgocpggoajfeaa", sum := "1351a3fc8e2b37c8ce663e24a972e9ed5f444eb06955b1281235e97cc43e1b73", func := "mandate/mandatelaw01.ValueGood", spec := "valueGood", unfollowed := true, recurses := true, apart := false, narrowed := true }
def ValueGoodUptoSaid : Prop := valueGoodUptoRow.holds Try.pinned (OpenSpec.upto valueGoodSpec)

/-- 'mandatelaw01.ValueTexts', WHERE WHAT IT READS IS OF BULK AT MOST 1048576: true; the input reads as it did. -/
def valueTextsUptoRow : OpenClaim := { program := "ytmgocpggoajfeaa", sum := "1351a3fc8e2b37c8ce663e24a972e9ed5f444eb06955b1281235e97cc43e1b73", func := "mandate/mandatelaw01.ValueTexts", spec := "valueTexts", unfollowed := true, recurses := true, apart := false, narrowed := true }
def ValueTextsUptoSaid : Prop := valueTextsUptoRow.holds Try.pinned (OpenSpec.upto valueTextsSpec)

/-- 'mandatelaw01.ValueReads', WHERE WHAT IT READS IS OF BULK AT MOST 1048576: true; the input reads as it did. -/
def valueReadsUptoRow : OpenClaim := { program := "ytmgocpggoajfeaa", sum := "1351a3fc8e2b37c8ce663e24a972e9ed5f444eb06955b1281235e97cc43e1b73", func := "mandate/mandatelaw01.ValueReads", spec := "valueReads", unfollowed := true, recurses := true, apart := false, narrowed := true }
def ValueReadsUptoSaid : Prop := valueReadsUptoRow.holds Try.pinned (OpenSpec.upto valueReadsSpec)

/-- 'mandatelaw01.ValueCompares', WHERE WHAT IT READS IS OF BULK AT MOST 1048576: true; the input reads as it did. -/
def valueComparesUptoRow : OpenClaim := { program := "ytmgocpggoajfeaa", sum := "1351a3fc8e2b37c8ce663e24a972e9ed5f444eb06955b1281235e97cc43e1b73", func := "mandate/mandatelaw01.ValueCompares", spec := "valueCompares", unfollowed := true, recurses := true, apart := false, narrowed := true }
def ValueComparesUptoSaid : Prop := valueComparesUptoRow.holds Try.pinned (OpenSpec.upto valueComparesSpec)

/-- 'mandatelaw01.ValueSorts', WHERE WHAT IT READS IS OF BULK AT MOST 1048576: true; the input reads as it did. -/
def valueSortsUptoRow : OpenClaim := { program := "ytmgocpggoajfeaa", sum := "1351a3fc8e2b37c8ce663e24a972e9ed5f444eb06955b1281235e97cc43e1b73", func := "mandate/mandatelaw01.ValueSorts", spec := "valueSorts", unfollowed := true, recurses := true, apart := false, narrowed := true }
def ValueSortsUptoSaid : Prop := valueSortsUptoRow.holds Try.pinned (OpenSpec.upto valueSortsSpec)

/-- 'mandatelaw01.ValueBack', WHERE WHAT IT READS IS OF BULK AT MOST 1048576: true; the input reads as it did. -/
def valueBackUptoRow : OpenClaim := { program := "ytmgocpggoajfeaa", sum := "1351a3fc8e2b37c8ce663e24a972e9ed5f444eb06955b1281235e97cc43e1b73", func := "mandate/mandatelaw01.ValueBack", spec := "valueBack", unfollowed := true, recurses := true, apart := false, narrowed := true }
def ValueBackUptoSaid : Prop := valueBackUptoRow.holds Try.pinned (OpenSpec.upto valueBackSpec)

/-- 'mandatelaw01.ValueTotal', WHERE WHAT IT READS IS OF BULK AT MOST 1048576: true; the input reads as it did. -/
def valueTotalUptoRow : OpenClaim := { program := "ytmgocpggoajfeaa", sum := "1351a3fc8e2b37c8ce663e24a972e9ed5f444eb06955b1281235e97cc43e1b73", func := "mandate/mandatelaw01.ValueTotal", spec := "valueTotal", unfollowed := true, recurses := true, apart := false, narrowed := true }
def ValueTotalUptoSaid : Prop := valueTotalUptoRow.holds Try.pinned (OpenSpec.upto valueTotalSpec)

/-- 'mandatelaw01.ValueOnce', WHERE WHAT IT READS IS OF BULK AT MOST 1048576: true; the input reads as it did. -/
def valueOnceUptoRow : OpenClaim := { program := "ytmgocpggoajfeaa", sum := "1351a3fc8e2b37c8ce663e24a972e9ed5f444eb06955b1281235e97cc43e1b73", func := "mandate/mandatelaw01.ValueOnce", spec := "valueOnce", unfollowed := true, recurses := true, apart := false, narrowed := true }
def ValueOnceUptoSaid : Prop := valueOnceUptoRow.holds Try.pinned (OpenSpec.upto valueOnceSpec)

end Rows
end Go.Proofs.Ytmgocpggoajfeaa
