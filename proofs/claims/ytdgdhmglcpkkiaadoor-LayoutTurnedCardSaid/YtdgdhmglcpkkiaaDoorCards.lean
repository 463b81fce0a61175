/-
  DERIVED. GIVEN WITH THE SEED: THE CARDS: each row of YtdgdhmglcpkkiaaDoorRows.lean that lists a variable, with what it lists TIED to the program's text (the seventh form; the later family's looks); each row that meets fmt, with fmt's text TOLD by the authors' own Lean function (tested against real Go, not proved from fmt's source: count such statements apart). THE CARD IS WHAT COUNTS. Prove the row's statement (the work); the ties are given (YtdgdhmglcpkkiaaDoorTie.lean); close each card by the builder's one call (the guide's Derived/Test/ToyasCard.lean, 'card_holds'). Laid BY PROGRAM, IN A SANDBOX (cutbox-door.mjs). By AI agents, Wed Nov 11 2026. No macro, syntax, notation, axiom, sorry.
-/
import Derived.Test.YtdgdhmglcpkkiaaDoorRows
import GoSem.ClaimSeven
namespace Go.Proofs.YtdgdhmglcpkkiaaDoor
namespace Rows

/-- THE TIED CARD OF 'entrepotlaw07.LayoutUnpacks'. -/
def layoutUnpacksCard : Claim7 := { stood := { row := layoutUnpacksRow, standIns := [], harness := (true, "c633817730339a54b13736df6396b1afe9853af729893853c135cac259ff6350"), looks := false }, kinds := [], alts := [], laidByText := true, laidKinds := [.listed, .data], laidTests := true, laidLooks := .later }
def LayoutUnpacksCardSaid : Prop := Claim7.holds Tryd.pinned (.plain (OpenSpec.ofChange layoutUnpacksSpec)) layoutUnpacksCard

/-- THE TIED CARD OF 'entrepotlaw07.LayoutPacks'. -/
def layoutPacksCard : Claim7 := { stood := { row := layoutPacksRow, standIns := [], harness := (true, "c633817730339a54b13736df6396b1afe9853af729893853c135cac259ff6350"), looks := false }, kinds := [], alts := [], laidByText := true, laidKinds := [.listed, .data], laidTests := true, laidLooks := .later }
def LayoutPacksCardSaid : Prop := Claim7.holds Tryd.pinned (.plain (OpenSpec.ofChange layoutPacksSpec)) layoutPacksCard

/-- THE TIED CARD OF 'entrepotlaw07.LayoutBack'. -/
def layoutBackCard : Claim7 := { stood := { row := layoutBackRow, standIns := [], harness := (true, "c633817730339a54b13736df6396b1afe9853af729893853c135cac259ff6350"), looks := false }, kinds := [], alts := [], laidByText := true, laidKinds := [.listed, .data], laidTests := true, laidLooks := .later }
def LayoutBackCardSaid : Prop := Claim7.holds Tryd.pinned (.plain (OpenSpec.ofChange layoutBackSpec)) layoutBackCard

/-- THE TIED CARD OF 'entrepotlaw07.LayoutOnce'. -/
def layoutOnceCard : Claim7 := { stood := { row := layoutOnceRow, standIns := [], harness := (true, "c633817730339a54b13736df6396b1afe9853af729893853c135cac259ff6350"), looks := false }, kinds := [], alts := [], laidByText := true, laidKinds := [.listed, .data], laidTests := true, laidLooks := .later }
def LayoutOnceCardSaid : Prop := Claim7.holds Tryd.pinned (.plain (OpenSpec.ofChange layoutOnceSpec)) layoutOnceCard

/-- THE TIED CARD OF 'entrepotlaw07.LayoutTurned'. -/
def layoutTurnedCard : Claim7 := { stood := { row := layoutTurnedRow, standIns := [], harness := (true, "c633817730339a54b13736df6396b1afe9853af729893853c135cac259ff6350"), looks := false }, kinds := [], alts := [], laidByText := true, laidKinds := [.listed, .data], laidTests := true, laidLooks := .later }
def LayoutTurnedCardSaid : Prop := Claim7.holds Tryd.pinned (.plain (OpenSpec.ofChange layoutTurnedSpec)) layoutTurnedCard

/-- THE TIED CARD OF 'entrepotlaw07.LayoutTells'. -/
def layoutTellsCard : Claim7 := { stood := { row := layoutTellsRow, standIns := [], harness := (true, "c633817730339a54b13736df6396b1afe9853af729893853c135cac259ff6350"), looks := false }, kinds := [], alts := [], laidByText := true, laidKinds := [.listed, .data], laidTests := true, laidLooks := .later }
def LayoutTellsCardSaid : Prop := Claim7.holds Tryd.pinned (.plain (OpenSpec.ofChange layoutTellsSpec)) layoutTellsCard

/-- THE SECOND FORM's CARD OF 'entrepotlaw07.LayoutUnpacks'. -/
def layoutUnpacksUptoCard : Claim7 := { stood := { row := layoutUnpacksUptoRow, standIns := [], harness := (true, "c633817730339a54b13736df6396b1afe9853af729893853c135cac259ff6350"), looks := false }, kinds := [], alts := [], laidByText := true, laidKinds := [.listed, .data], laidTests := true, laidLooks := .later }
def LayoutUnpacksUptoCardSaid : Prop := Claim7.holds Tryd.pinned (.plain (OpenSpec.upto layoutUnpacksSpec)) layoutUnpacksUptoCard

/-- THE SECOND FORM's CARD OF 'entrepotlaw07.LayoutPacks'. -/
def layoutPacksUptoCard : Claim7 := { stood := { row := layoutPacksUptoRow, standIns := [], harness := (true, "c633817730339a54b13736df6396b1afe9853af729893853c135cac259ff6350"), looks := false }, kinds := [], alts := [], laidByText := true, laidKinds := [.listed, .data], laidTests := true, laidLooks := .later }
def LayoutPacksUptoCardSaid : Prop := Claim7.holds Tryd.pinned (.plain (OpenSpec.upto layoutPacksSpec)) layoutPacksUptoCard

/-- THE SECOND FORM's CARD OF 'entrepotlaw07.LayoutBack'. -/
def layoutBackUptoCard : Claim7 := { stood := { row := layoutBackUptoRow, standIns := [], harness := (true, "c633817730339a54b13736df6396b1afe9853af729893853c135cac259ff6350"), looks := false }, kinds := [], alts := [], laidByText := true, laidKinds := [.listed, .data], laidTests := true, laidLooks := .later }
def LayoutBackUptoCardSaid : Prop := Claim7.holds Tryd.pinned (.plain (OpenSpec.upto layoutBackSpec)) layoutBackUptoCard

/-- THE SECOND FORM's CARD OF 'entrepotlaw07.LayoutOnce'. -/
def layoutOnceUptoCard : Claim7 := { stood := { row := layoutOnceUptoRow, standIns := [], harness := (true, "c633817730339a54b13736df6396b1afe9853af729893853c135cac259ff6350"), looks := false }, kinds := [], alts := [], laidByText := true, laidKinds := [.listed, .data], laidTests := true, laidLooks := .later }
def LayoutOnceUptoCardSaid : Prop := Claim7.holds Tryd.pinned (.plain (OpenSpec.upto layoutOnceSpec)) layoutOnceUptoCard

/-- THE SECOND FORM's CARD OF 'entrepotlaw07.LayoutTurned'. -/
def layoutTurnedUptoCard : Claim7 := { stood := { row := layoutTurnedUptoRow, standIns := [], harness := (true, "c633817730339a54b13736df6396b1afe9853af729893853c135cac259ff6350"), looks := false }, kinds := [], alts := [], laidByText := true, laidKinds := [.listed, .data], laidTests := true, laidLooks := .later }
def LayoutTurnedUptoCardSaid : Prop := Claim7.holds Tryd.pinned (.plain (OpenSpec.upto layoutTurnedSpec)) layoutTurnedUptoCard

/-- THE SECOND FORM's CARD OF 'entrepotlaw07.LayoutTells'. -/
def layoutTellsUptoCard : Claim7 := { stood := { row := layoutTellsUptoRow, standIns := [], harness := (true, "c633817730339a54b13736df6396b1afe9853af729893853c135cac259ff6350"), looks := false }, kinds := [], alts := [], laidByText := true, laidKinds := [.listed, .data], laidTests := true, laidLooks := .later }
def LayoutTellsUptoCardSaid : Prop := Claim7.holds Tryd.pinned (.plain (OpenSpec.upto layoutTellsSpec)) layoutTellsUptoCard
end Rows
end Go.Proofs.YtdgdhmglcpkkiaaDoor
