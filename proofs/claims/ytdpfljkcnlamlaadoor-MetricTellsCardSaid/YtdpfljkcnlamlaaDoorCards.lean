/-
  DERIVED. GIVEN WITH THE SEED: THE CARDS: each row of YtdpfljkcnlamlaaDoorRows.lean that lists a variable, with what it lists TIED to the program's text (the seventh form; the later family's looks); each row that meets fmt, with fmt's text TOLD by the authors' own Lean function (tested against real Go, not proved from fmt's source: count such statements apart). THE CARD IS WHAT COUNTS. Prove the row's statement (the work); the ties are given (YtdpfljkcnlamlaaDoorTie.lean); close each card by the builder's one call (the guide's Derived/Test/ToyasCard.lean, 'card_holds'). Laid BY PROGRAM, IN A SANDBOX (cutbox-door.mjs). By AI agents, Wed Nov 11 2026. No macro, syntax, notation, axiom, sorry.
-/
import Derived.Test.YtdpfljkcnlamlaaDoorRows
import GoSem.ClaimSeven
namespace Go.Proofs.YtdpfljkcnlamlaaDoor
namespace Rows

/-- THE TIED CARD OF 'entrepotlaw06.MetricTells'. -/
def metricTellsCard : Claim7 := { stood := { row := metricTellsRow, standIns := [], harness := (true, "01e680345b4fce46785069c9648e40947dbe2c158d2c8de1150300ee5b0ea10c"), looks := false }, kinds := [], alts := [], laidByText := true, laidKinds := [.listed, .data], laidTests := true, laidLooks := .later }
def MetricTellsCardSaid : Prop := Claim7.holds Tryd.pinned (.plain (OpenSpec.ofChange metricTellsSpec)) metricTellsCard

/-- THE TIED CARD OF 'entrepotlaw06.MetricTurns'. -/
def metricTurnsCard : Claim7 := { stood := { row := metricTurnsRow, standIns := [], harness := (true, "01e680345b4fce46785069c9648e40947dbe2c158d2c8de1150300ee5b0ea10c"), looks := false }, kinds := [], alts := [], laidByText := true, laidKinds := [.listed, .data], laidTests := true, laidLooks := .later }
def MetricTurnsCardSaid : Prop := Claim7.holds Tryd.pinned (.plain (OpenSpec.ofChange metricTurnsSpec)) metricTurnsCard

/-- THE TIED CARD OF 'entrepotlaw06.MetricScales'. -/
def metricScalesCard : Claim7 := { stood := { row := metricScalesRow, standIns := [], harness := (true, "01e680345b4fce46785069c9648e40947dbe2c158d2c8de1150300ee5b0ea10c"), looks := false }, kinds := [], alts := [], laidByText := true, laidKinds := [.listed, .data], laidTests := true, laidLooks := .later }
def MetricScalesCardSaid : Prop := Claim7.holds Tryd.pinned (.plain (OpenSpec.ofChange metricScalesSpec)) metricScalesCard

/-- THE TIED CARD OF 'entrepotlaw06.MetricTriangle'. -/
def metricTriangleCard : Claim7 := { stood := { row := metricTriangleRow, standIns := [], harness := (true, "01e680345b4fce46785069c9648e40947dbe2c158d2c8de1150300ee5b0ea10c"), looks := false }, kinds := [], alts := [], laidByText := true, laidKinds := [.listed, .data], laidTests := true, laidLooks := .later }
def MetricTriangleCardSaid : Prop := Claim7.holds Tryd.pinned (.plain (OpenSpec.ofChange metricTriangleSpec)) metricTriangleCard

/-- THE TIED CARD OF 'entrepotlaw06.MetricOrder'. -/
def metricOrderCard : Claim7 := { stood := { row := metricOrderRow, standIns := [], harness := (true, "01e680345b4fce46785069c9648e40947dbe2c158d2c8de1150300ee5b0ea10c"), looks := false }, kinds := [], alts := [], laidByText := true, laidKinds := [.listed, .data], laidTests := true, laidLooks := .later }
def MetricOrderCardSaid : Prop := Claim7.holds Tryd.pinned (.plain (OpenSpec.ofChange metricOrderSpec)) metricOrderCard

/-- THE TIED CARD OF 'entrepotlaw06.MetricKeys'. -/
def metricKeysCard : Claim7 := { stood := { row := metricKeysRow, standIns := [], harness := (true, "01e680345b4fce46785069c9648e40947dbe2c158d2c8de1150300ee5b0ea10c"), looks := false }, kinds := [], alts := [], laidByText := true, laidKinds := [.listed, .data], laidTests := true, laidLooks := .later }
def MetricKeysCardSaid : Prop := Claim7.holds Tryd.pinned (.plain (OpenSpec.ofChange metricKeysSpec)) metricKeysCard

/-- THE SECOND FORM's CARD OF 'entrepotlaw06.MetricTells'. -/
def metricTellsUptoCard : Claim7 := { stood := { row := metricTellsUptoRow, standIns := [], harness := (true, "01e680345b4fce46785069c9648e40947dbe2c158d2c8de1150300ee5b0ea10c"), looks := false }, kinds := [], alts := [], laidByText := true, laidKinds := [.listed, .data], laidTests := true, laidLooks := .later }
def MetricTellsUptoCardSaid : Prop := Claim7.holds Tryd.pinned (.plain (OpenSpec.upto metricTellsSpec)) metricTellsUptoCard

/-- THE SECOND FORM's CARD OF 'entrepotlaw06.MetricTurns'. -/
def metricTurnsUptoCard : Claim7 := { stood := { row := metricTurnsUptoRow, standIns := [], harness := (true, "01e680345b4fce46785069c9648e40947dbe2c158d2c8de1150300ee5b0ea10c"), looks := false }, kinds := [], alts := [], laidByText := true, laidKinds := [.listed, .data], laidTests := true, laidLooks := .later }
def MetricTurnsUptoCardSaid : Prop := Claim7.holds Tryd.pinned (.plain (OpenSpec.upto metricTurnsSpec)) metricTurnsUptoCard

/-- THE SECOND FORM's CARD OF 'entrepotlaw06.MetricScales'. -/
def metricScalesUptoCard : Claim7 := { stood := { row := metricScalesUptoRow, standIns := [], harness := (true, "01e680345b4fce46785069c9648e40947dbe2c158d2c8de1150300ee5b0ea10c"), looks := false }, kinds := [], alts := [], laidByText := true, laidKinds := [.listed, .data], laidTests := true, laidLooks := .later }
def MetricScalesUptoCardSaid : Prop := Claim7.holds Tryd.pinned (.plain (OpenSpec.upto metricScalesSpec)) metricScalesUptoCard

/-- THE SECOND FORM's CARD OF 'entrepotlaw06.MetricTriangle'. -/
def metricTriangleUptoCard : Claim7 := { stood := { row := metricTriangleUptoRow, standIns := [], harness := (true, "01e680345b4fce46785069c9648e40947dbe2c158d2c8de1150300ee5b0ea10c"), looks := false }, kinds := [], alts := [], laidByText := true, laidKinds := [.listed, .data], laidTests := true, laidLooks := .later }
def MetricTriangleUptoCardSaid : Prop := Claim7.holds Tryd.pinned (.plain (OpenSpec.upto metricTriangleSpec)) metricTriangleUptoCard

/-- THE SECOND FORM's CARD OF 'entrepotlaw06.MetricOrder'. -/
def metricOrderUptoCard : Claim7 := { stood := { row := metricOrderUptoRow, standIns := [], harness := (true, "01e680345b4fce46785069c9648e40947dbe2c158d2c8de1150300ee5b0ea10c"), looks := false }, kinds := [], alts := [], laidByText := true, laidKinds := [.listed, .data], laidTests := true, laidLooks := .later }
def MetricOrderUptoCardSaid : Prop := Claim7.holds Tryd.pinned (.plain (OpenSpec.upto metricOrderSpec)) metricOrderUptoCard

/-- THE SECOND FORM's CARD OF 'entrepotlaw06.MetricKeys'. -/
def metricKeysUptoCard : Claim7 := { stood := { row := metricKeysUptoRow, standIns := [], harness := (true, "01e680345b4fce46785069c9648e40947dbe2c158d2c8de1150300ee5b0ea10c"), looks := false }, kinds := [], alts := [], laidByText := true, laidKinds := [.listed, .data], laidTests := true, laidLooks := .later }
def MetricKeysUptoCardSaid : Prop := Claim7.holds Tryd.pinned (.plain (OpenSpec.upto metricKeysSpec)) metricKeysUptoCard
end Rows
end Go.Proofs.YtdpfljkcnlamlaaDoor
