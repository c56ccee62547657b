/-
  DERIVED. GIVEN WITH THE SEED: THE CARDS: each row of YtadopkifpfmhcaaDoorRows.lean that lists a variable, with what it lists TIED to the program's text (the seventh form; the later family's looks); each row that meets fmt, with fmt's text TOLD by the authors' own Lean function (tested against real Go, not proved from fmt's source: count such statements apart). THE CARD IS WHAT COUNTS. Prove the row's statement (the work); the ties are given (YtadopkifpfmhcaaDoorTie.lean); close each card by the builder's one call (the guide's Derived/Test/ToyasCard.lean, 'card_holds'). Laid BY PROGRAM, IN A SANDBOX (cutbox-door.mjs). By AI agents, Wed Nov 11 2026. No macro, syntax, notation, axiom, sorry.
-/
import Derived.Test.YtadopkifpfmhcaaDoorRows
import GoSem.ClaimSeven
namespace Go.Proofs.YtadopkifpfmhcaaDoor
namespace Rows

/-- THE TIED CARD OF 'mandatelaw18.ChainBytes'. -/
def chainBytesCard : Claim7 := { stood := { row := chainBytesRow, standIns := [], harness := (true, "eaf48906fbdc0550d943cf212d39e566490c253f0718d60b671d22ae1cd4fb08"), looks := false }, kinds := [], alts := [], laidByText := true, laidKinds := [.data], laidTests := true, laidLooks := .later }
def ChainBytesCardSaid : Prop := Claim7.holds Tryd.pinned (.plain (OpenSpec.ofChange chainBytesSpec)) chainBytesCard

/-- THE TIED CARD OF 'mandatelaw18.ChainHeads'. -/
def chainHeadsCard : Claim7 := { stood := { row := chainHeadsRow, standIns := [], harness := (true, "eaf48906fbdc0550d943cf212d39e566490c253f0718d60b671d22ae1cd4fb08"), looks := false }, kinds := [], alts := [], laidByText := true, laidKinds := [.data], laidTests := true, laidLooks := .later }
def ChainHeadsCardSaid : Prop := Claim7.holds Tryd.pinned (.plain (OpenSpec.ofChange chainHeadsSpec)) chainHeadsCard

/-- THE TIED CARD OF 'mandatelaw18.ChainLogs'. -/
def chainLogsCard : Claim7 := { stood := { row := chainLogsRow, standIns := [], harness := (true, "eaf48906fbdc0550d943cf212d39e566490c253f0718d60b671d22ae1cd4fb08"), looks := false }, kinds := [], alts := [], laidByText := true, laidKinds := [.data], laidTests := true, laidLooks := .later }
def ChainLogsCardSaid : Prop := Claim7.holds Tryd.pinned (.plain (OpenSpec.ofChange chainLogsSpec)) chainLogsCard

/-- THE TIED CARD OF 'mandatelaw18.ChainBegins'. -/
def chainBeginsCard : Claim7 := { stood := { row := chainBeginsRow, standIns := [], harness := (true, "eaf48906fbdc0550d943cf212d39e566490c253f0718d60b671d22ae1cd4fb08"), looks := false }, kinds := [], alts := [], laidByText := true, laidKinds := [.data], laidTests := true, laidLooks := .later }
def ChainBeginsCardSaid : Prop := Claim7.holds Tryd.pinned (.plain (OpenSpec.ofChange chainBeginsSpec)) chainBeginsCard

/-- THE TIED CARD OF 'mandatelaw18.ChainNil'. -/
def chainNilCard : Claim7 := { stood := { row := chainNilRow, standIns := [], harness := (true, "eaf48906fbdc0550d943cf212d39e566490c253f0718d60b671d22ae1cd4fb08"), looks := false }, kinds := [], alts := [], laidByText := true, laidKinds := [.data], laidTests := true, laidLooks := .later }
def ChainNilCardSaid : Prop := Claim7.holds Tryd.pinned (.plain (OpenSpec.ofChange chainNilSpec)) chainNilCard

/-- THE TIED CARD OF 'mandatelaw18.ChainClashes'. -/
def chainClashesCard : Claim7 := { stood := { row := chainClashesRow, standIns := [], harness := (true, "eaf48906fbdc0550d943cf212d39e566490c253f0718d60b671d22ae1cd4fb08"), looks := false }, kinds := [], alts := [], laidByText := true, laidKinds := [.data], laidTests := true, laidLooks := .later }
def ChainClashesCardSaid : Prop := Claim7.holds Tryd.pinned (.plain (OpenSpec.ofChange chainClashesSpec)) chainClashesCard

/-- THE TIED CARD OF 'mandatelaw18.ChainFound'. -/
def chainFoundCard : Claim7 := { stood := { row := chainFoundRow, standIns := [], harness := (true, "eaf48906fbdc0550d943cf212d39e566490c253f0718d60b671d22ae1cd4fb08"), looks := false }, kinds := [], alts := [], laidByText := true, laidKinds := [.data], laidTests := true, laidLooks := .later }
def ChainFoundCardSaid : Prop := Claim7.holds Tryd.pinned (.plain (OpenSpec.ofChange chainFoundSpec)) chainFoundCard

/-- THE TIED CARD OF 'mandatelaw18.ChainTurned'. -/
def chainTurnedCard : Claim7 := { stood := { row := chainTurnedRow, standIns := [], harness := (true, "eaf48906fbdc0550d943cf212d39e566490c253f0718d60b671d22ae1cd4fb08"), looks := false }, kinds := [], alts := [], laidByText := true, laidKinds := [.data], laidTests := true, laidLooks := .later }
def ChainTurnedCardSaid : Prop := Claim7.holds Tryd.pinned (.plain (OpenSpec.ofChange chainTurnedSpec)) chainTurnedCard

/-- THE SECOND FORM's CARD OF 'mandatelaw18.ChainBytes'. -/
def chainBytesUptoCard : Claim7 := { stood := { row := chainBytesUptoRow, standIns := [], harness := (true, "eaf48906fbdc0550d943cf212d39e566490c253f0718d60b671d22ae1cd4fb08"), looks := false }, kinds := [], alts := [], laidByText := true, laidKinds := [.data], laidTests := true, laidLooks := .later }
def ChainBytesUptoCardSaid : Prop := Claim7.holds Tryd.pinned (.plain (OpenSpec.upto chainBytesSpec)) chainBytesUptoCard

/-- THE SECOND FORM's CARD OF 'mandatelaw18.ChainHeads'. -/
def chainHeadsUptoCard : Claim7 := { stood := { row := chainHeadsUptoRow, standIns := [], harness := (true, "eaf48906fbdc0550d943cf212d39e566490c253f0718d60b671d22ae1cd4fb08"), looks := false }, kinds := [], alts := [], laidByText := true, laidKinds := [.data], laidTests := true, laidLooks := .later }
def ChainHeadsUptoCardSaid : Prop := Claim7.holds Tryd.pinned (.plain (OpenSpec.upto chainHeadsSpec)) chainHeadsUptoCard

/-- THE SECOND FORM's CARD OF 'mandatelaw18.ChainLogs'. -/
def chainLogsUptoCard : Claim7 := { stood := { row := chainLogsUptoRow, standIns := [], harness := (true, "eaf48906fbdc0550d943cf212d39e566490c253f0718d60b671d22ae1cd4fb08"), looks := false }, kinds := [], alts := [], laidByText := true, laidKinds := [.data], laidTests := true, laidLooks := .later }
def ChainLogsUptoCardSaid : Prop := Claim7.holds Tryd.pinned (.plain (OpenSpec.upto chainLogsSpec)) chainLogsUptoCard

/-- THE SECOND FORM's CARD OF 'mandatelaw18.ChainBegins'. -/
def chainBeginsUptoCard : Claim7 := { stood := { row := chainBeginsUptoRow, standIns := [], harness := (true, "eaf48906fbdc0550d943cf212d39e566490c253f0718d60b671d22ae1cd4fb08"), looks := false }, kinds := [], alts := [], laidByText := true, laidKinds := [.data], laidTests := true, laidLooks := .later }
def ChainBeginsUptoCardSaid : Prop := Claim7.holds Tryd.pinned (.plain (OpenSpec.upto chainBeginsSpec)) chainBeginsUptoCard

/-- THE SECOND FORM's CARD OF 'mandatelaw18.ChainNil'. -/
def chainNilUptoCard : Claim7 := { stood := { row := chainNilUptoRow, standIns := [], harness := (true, "eaf48906fbdc0550d943cf212d39e566490c253f0718d60b671d22ae1cd4fb08"), looks := false }, kinds := [], alts := [], laidByText := true, laidKinds := [.data], laidTests := true, laidLooks := .later }
def ChainNilUptoCardSaid : Prop := Claim7.holds Tryd.pinned (.plain (OpenSpec.upto chainNilSpec)) chainNilUptoCard

/-- THE SECOND FORM's CARD OF 'mandatelaw18.ChainClashes'. -/
def chainClashesUptoCard : Claim7 := { stood := { row := chainClashesUptoRow, standIns := [], harness := (true, "eaf48906fbdc0550d943cf212d39e566490c253f0718d60b671d22ae1cd4fb08"), looks := false }, kinds := [], alts := [], laidByText := true, laidKinds := [.data], laidTests := true, laidLooks := .later }
def ChainClashesUptoCardSaid : Prop := Claim7.holds Tryd.pinned (.plain (OpenSpec.upto chainClashesSpec)) chainClashesUptoCard

/-- THE SECOND FORM's CARD OF 'mandatelaw18.ChainFound'. -/
def chainFoundUptoCard : Claim7 := { stood := { row := chainFoundUptoRow, standIns := [], harness := (true, "eaf48906fbdc0550d943cf212d39e566490c253f0718d60b671d22ae1cd4fb08"), looks := false }, kinds := [], alts := [], laidByText := true, laidKinds := [.data], laidTests := true, laidLooks := .later }
def ChainFoundUptoCardSaid : Prop := Claim7.holds Tryd.pinned (.plain (OpenSpec.upto chainFoundSpec)) chainFoundUptoCard

/-- THE SECOND FORM's CARD OF 'mandatelaw18.ChainTurned'. -/
def chainTurnedUptoCard : Claim7 := { stood := { row := chainTurnedUptoRow, standIns := [], harness := (true, "eaf48906fbdc0550d943cf212d39e566490c253f0718d60b671d22ae1cd4fb08"), looks := false }, kinds := [], alts := [], laidByText := true, laidKinds := [.data], laidTests := true, laidLooks := .later }
def ChainTurnedUptoCardSaid : Prop := Claim7.holds Tryd.pinned (.plain (OpenSpec.upto chainTurnedSpec)) chainTurnedUptoCard
end Rows
end Go.Proofs.YtadopkifpfmhcaaDoor
