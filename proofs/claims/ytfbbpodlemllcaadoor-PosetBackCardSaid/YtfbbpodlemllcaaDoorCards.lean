/-
  DERIVED. GIVEN WITH THE SEED: THE CARDS: each row of YtfbbpodlemllcaaDoorRows.lean that lists a variable, with what it lists TIED to the program's text (the seventh form; the later family's looks); each row that meets fmt, with fmt's text TOLD by the authors' own Lean function (tested against real Go, not proved from fmt's source: count such statements apart). THE CARD IS WHAT COUNTS. Prove the row's statement (the work); the ties are given (YtfbbpodlemllcaaDoorTie.lean); close each card by the builder's one call (the guide's Derived/Test/ToyasCard.lean, 'card_holds'). Laid BY PROGRAM, IN A SANDBOX (cutbox-door.mjs). By AI agents, Wed Nov 11 2026. No macro, syntax, notation, axiom, sorry.
-/
import Derived.Test.YtfbbpodlemllcaaDoorRows
import GoSem.ClaimSeven
namespace Go.Proofs.YtfbbpodlemllcaaDoor
namespace Rows

/-- THE TIED CARD OF 'mandatelaw04.PosetBuilds'. -/
def posetBuildsCard : Claim7 := { stood := { row := posetBuildsRow, standIns := [], harness := (true, "d030b83a5fc0319f021b8e7981622abb023448ecbd6994d060d70ab6b636a8b4"), looks := false }, kinds := [], alts := [], laidByText := true, laidKinds := [.data], laidTests := true, laidLooks := .later }
def PosetBuildsCardSaid : Prop := Claim7.holds Tryd.pinned (.plain (OpenSpec.ofChange posetBuildsSpec)) posetBuildsCard

/-- THE TIED CARD OF 'mandatelaw04.PosetRight'. -/
def posetRightCard : Claim7 := { stood := { row := posetRightRow, standIns := [], harness := (true, "d030b83a5fc0319f021b8e7981622abb023448ecbd6994d060d70ab6b636a8b4"), looks := false }, kinds := [], alts := [], laidByText := true, laidKinds := [.data], laidTests := true, laidLooks := .later }
def PosetRightCardSaid : Prop := Claim7.holds Tryd.pinned (.plain (OpenSpec.ofChange posetRightSpec)) posetRightCard

/-- THE TIED CARD OF 'mandatelaw04.PosetAsks'. -/
def posetAsksCard : Claim7 := { stood := { row := posetAsksRow, standIns := [], harness := (true, "d030b83a5fc0319f021b8e7981622abb023448ecbd6994d060d70ab6b636a8b4"), looks := false }, kinds := [], alts := [], laidByText := true, laidKinds := [.data], laidTests := true, laidLooks := .later }
def PosetAsksCardSaid : Prop := Claim7.holds Tryd.pinned (.plain (OpenSpec.ofChange posetAsksSpec)) posetAsksCard

/-- THE TIED CARD OF 'mandatelaw04.PosetPairs'. -/
def posetPairsCard : Claim7 := { stood := { row := posetPairsRow, standIns := [], harness := (true, "d030b83a5fc0319f021b8e7981622abb023448ecbd6994d060d70ab6b636a8b4"), looks := false }, kinds := [], alts := [], laidByText := true, laidKinds := [.data], laidTests := true, laidLooks := .later }
def PosetPairsCardSaid : Prop := Claim7.holds Tryd.pinned (.plain (OpenSpec.ofChange posetPairsSpec)) posetPairsCard

/-- THE TIED CARD OF 'mandatelaw04.PosetBits'. -/
def posetBitsCard : Claim7 := { stood := { row := posetBitsRow, standIns := [], harness := (true, "d030b83a5fc0319f021b8e7981622abb023448ecbd6994d060d70ab6b636a8b4"), looks := false }, kinds := [], alts := [], laidByText := true, laidKinds := [.data], laidTests := true, laidLooks := .later }
def PosetBitsCardSaid : Prop := Claim7.holds Tryd.pinned (.plain (OpenSpec.ofChange posetBitsSpec)) posetBitsCard

/-- THE TIED CARD OF 'mandatelaw04.PosetBack'. -/
def posetBackCard : Claim7 := { stood := { row := posetBackRow, standIns := [], harness := (true, "d030b83a5fc0319f021b8e7981622abb023448ecbd6994d060d70ab6b636a8b4"), looks := false }, kinds := [], alts := [], laidByText := true, laidKinds := [.data], laidTests := true, laidLooks := .later }
def PosetBackCardSaid : Prop := Claim7.holds Tryd.pinned (.plain (OpenSpec.ofChange posetBackSpec)) posetBackCard

/-- THE TIED CARD OF 'mandatelaw04.PosetOrder'. -/
def posetOrderCard : Claim7 := { stood := { row := posetOrderRow, standIns := [], harness := (true, "d030b83a5fc0319f021b8e7981622abb023448ecbd6994d060d70ab6b636a8b4"), looks := false }, kinds := [], alts := [], laidByText := true, laidKinds := [.data], laidTests := true, laidLooks := .later }
def PosetOrderCardSaid : Prop := Claim7.holds Tryd.pinned (.plain (OpenSpec.ofChange posetOrderSpec)) posetOrderCard

/-- THE TIED CARD OF 'mandatelaw04.PosetLeast'. -/
def posetLeastCard : Claim7 := { stood := { row := posetLeastRow, standIns := [], harness := (true, "d030b83a5fc0319f021b8e7981622abb023448ecbd6994d060d70ab6b636a8b4"), looks := false }, kinds := [], alts := [], laidByText := true, laidKinds := [.data], laidTests := true, laidLooks := .later }
def PosetLeastCardSaid : Prop := Claim7.holds Tryd.pinned (.plain (OpenSpec.ofChange posetLeastSpec)) posetLeastCard

/-- THE SECOND FORM's CARD OF 'mandatelaw04.PosetBuilds'. -/
def posetBuildsUptoCard : Claim7 := { stood := { row := posetBuildsUptoRow, standIns := [], harness := (true, "d030b83a5fc0319f021b8e7981622abb023448ecbd6994d060d70ab6b636a8b4"), looks := false }, kinds := [], alts := [], laidByText := true, laidKinds := [.data], laidTests := true, laidLooks := .later }
def PosetBuildsUptoCardSaid : Prop := Claim7.holds Tryd.pinned (.plain (OpenSpec.upto posetBuildsSpec)) posetBuildsUptoCard

/-- THE SECOND FORM's CARD OF 'mandatelaw04.PosetRight'. -/
def posetRightUptoCard : Claim7 := { stood := { row := posetRightUptoRow, standIns := [], harness := (true, "d030b83a5fc0319f021b8e7981622abb023448ecbd6994d060d70ab6b636a8b4"), looks := false }, kinds := [], alts := [], laidByText := true, laidKinds := [.data], laidTests := true, laidLooks := .later }
def PosetRightUptoCardSaid : Prop := Claim7.holds Tryd.pinned (.plain (OpenSpec.upto posetRightSpec)) posetRightUptoCard

/-- THE SECOND FORM's CARD OF 'mandatelaw04.PosetAsks'. -/
def posetAsksUptoCard : Claim7 := { stood := { row := posetAsksUptoRow, standIns := [], harness := (true, "d030b83a5fc0319f021b8e7981622abb023448ecbd6994d060d70ab6b636a8b4"), looks := false }, kinds := [], alts := [], laidByText := true, laidKinds := [.data], laidTests := true, laidLooks := .later }
def PosetAsksUptoCardSaid : Prop := Claim7.holds Tryd.pinned (.plain (OpenSpec.upto posetAsksSpec)) posetAsksUptoCard

/-- THE SECOND FORM's CARD OF 'mandatelaw04.PosetPairs'. -/
def posetPairsUptoCard : Claim7 := { stood := { row := posetPairsUptoRow, standIns := [], harness := (true, "d030b83a5fc0319f021b8e7981622abb023448ecbd6994d060d70ab6b636a8b4"), looks := false }, kinds := [], alts := [], laidByText := true, laidKinds := [.data], laidTests := true, laidLooks := .later }
def PosetPairsUptoCardSaid : Prop := Claim7.holds Tryd.pinned (.plain (OpenSpec.upto posetPairsSpec)) posetPairsUptoCard

/-- THE SECOND FORM's CARD OF 'mandatelaw04.PosetBits'. -/
def posetBitsUptoCard : Claim7 := { stood := { row := posetBitsUptoRow, standIns := [], harness := (true, "d030b83a5fc0319f021b8e7981622abb023448ecbd6994d060d70ab6b636a8b4"), looks := false }, kinds := [], alts := [], laidByText := true, laidKinds := [.data], laidTests := true, laidLooks := .later }
def PosetBitsUptoCardSaid : Prop := Claim7.holds Tryd.pinned (.plain (OpenSpec.upto posetBitsSpec)) posetBitsUptoCard

/-- THE SECOND FORM's CARD OF 'mandatelaw04.PosetBack'. -/
def posetBackUptoCard : Claim7 := { stood := { row := posetBackUptoRow, standIns := [], harness := (true, "d030b83a5fc0319f021b8e7981622abb023448ecbd6994d060d70ab6b636a8b4"), looks := false }, kinds := [], alts := [], laidByText := true, laidKinds := [.data], laidTests := true, laidLooks := .later }
def PosetBackUptoCardSaid : Prop := Claim7.holds Tryd.pinned (.plain (OpenSpec.upto posetBackSpec)) posetBackUptoCard

/-- THE SECOND FORM's CARD OF 'mandatelaw04.PosetOrder'. -/
def posetOrderUptoCard : Claim7 := { stood := { row := posetOrderUptoRow, standIns := [], harness := (true, "d030b83a5fc0319f021b8e7981622abb023448ecbd6994d060d70ab6b636a8b4"), looks := false }, kinds := [], alts := [], laidByText := true, laidKinds := [.data], laidTests := true, laidLooks := .later }
def PosetOrderUptoCardSaid : Prop := Claim7.holds Tryd.pinned (.plain (OpenSpec.upto posetOrderSpec)) posetOrderUptoCard

/-- THE SECOND FORM's CARD OF 'mandatelaw04.PosetLeast'. -/
def posetLeastUptoCard : Claim7 := { stood := { row := posetLeastUptoRow, standIns := [], harness := (true, "d030b83a5fc0319f021b8e7981622abb023448ecbd6994d060d70ab6b636a8b4"), looks := false }, kinds := [], alts := [], laidByText := true, laidKinds := [.data], laidTests := true, laidLooks := .later }
def PosetLeastUptoCardSaid : Prop := Claim7.holds Tryd.pinned (.plain (OpenSpec.upto posetLeastSpec)) posetLeastUptoCard
end Rows
end Go.Proofs.YtfbbpodlemllcaaDoor
