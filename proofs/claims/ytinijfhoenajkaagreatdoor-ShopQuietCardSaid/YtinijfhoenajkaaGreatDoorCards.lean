/-
  DERIVED. GIVEN WITH THE SEED: THE CARDS: each row of YtinijfhoenajkaaGreatDoorRows.lean that lists a variable, with what it lists TIED to the program's text (the seventh form; the later family's looks); each row that meets fmt, with fmt's text TOLD by the authors' own Lean function (tested against real Go, not proved from fmt's source: count such statements apart). THE CARD IS WHAT COUNTS. Prove the row's statement (the work); the ties are given (YtinijfhoenajkaaGreatDoorTie.lean); close each card by the builder's one call (the guide's Derived/Test/ToyasCard.lean, 'card_holds'). Laid BY PROGRAM, IN A SANDBOX (cutbox-door.mjs). By AI agents, Wed Nov 11 2026. No macro, syntax, notation, axiom, sorry.
-/
import Derived.Test.YtinijfhoenajkaaGreatDoorRows
import GoSem.ClaimSeven
namespace Go.Proofs.YtinijfhoenajkaaGreatDoor
namespace Rows

/-- THE TIED CARD OF 'gristmillkeep.ShopClock'. -/
def shopClockCard : Claim7 := { stood := { row := shopClockRow, standIns := [], harness := (true, "f5f71c23f1f84678c4adf532154ae241f1273742de288109084522f36b32f762"), looks := true }, kinds := [], alts := [], laidByText := true, laidKinds := [.handle], laidTests := true, laidLooks := .later }
def ShopClockCardSaid : Prop := Claim7.holds Tryz.pinned (.plain (OpenSpec.ofChange shopClockSpec)) shopClockCard

/-- THE TIED CARD OF 'gristmillkeep.ShopAlone'. -/
def shopAloneCard : Claim7 := { stood := { row := shopAloneRow, standIns := [], harness := (true, "f5f71c23f1f84678c4adf532154ae241f1273742de288109084522f36b32f762"), looks := true }, kinds := [], alts := [], laidByText := true, laidKinds := [.handle], laidTests := true, laidLooks := .later }
def ShopAloneCardSaid : Prop := Claim7.holds Tryz.pinned (.plain (OpenSpec.ofChange shopAloneSpec)) shopAloneCard

/-- THE TIED CARD OF 'gristmillkeep.ShopHelped'. -/
def shopHelpedCard : Claim7 := { stood := { row := shopHelpedRow, standIns := [], harness := (true, "f5f71c23f1f84678c4adf532154ae241f1273742de288109084522f36b32f762"), looks := true }, kinds := [], alts := [], laidByText := true, laidKinds := [.handle], laidTests := true, laidLooks := .later }
def ShopHelpedCardSaid : Prop := Claim7.holds Tryz.pinned (.plain (OpenSpec.ofChange shopHelpedSpec)) shopHelpedCard

/-- THE TIED CARD OF 'gristmillkeep.ShopPrices'. -/
def shopPricesCard : Claim7 := { stood := { row := shopPricesRow, standIns := [], harness := (true, "f5f71c23f1f84678c4adf532154ae241f1273742de288109084522f36b32f762"), looks := true }, kinds := [], alts := [], laidByText := true, laidKinds := [.handle], laidTests := true, laidLooks := .later }
def ShopPricesCardSaid : Prop := Claim7.holds Tryz.pinned (.plain (OpenSpec.ofChange shopPricesSpec)) shopPricesCard

/-- THE TIED CARD OF 'gristmillkeep.ShopPace'. -/
def shopPaceCard : Claim7 := { stood := { row := shopPaceRow, standIns := [], harness := (true, "f5f71c23f1f84678c4adf532154ae241f1273742de288109084522f36b32f762"), looks := true }, kinds := [], alts := [], laidByText := true, laidKinds := [.handle], laidTests := true, laidLooks := .later }
def ShopPaceCardSaid : Prop := Claim7.holds Tryz.pinned (.plain (OpenSpec.ofChange shopPaceSpec)) shopPaceCard

/-- THE TIED CARD OF 'gristmillkeep.ShopWaits'. -/
def shopWaitsCard : Claim7 := { stood := { row := shopWaitsRow, standIns := [], harness := (true, "f5f71c23f1f84678c4adf532154ae241f1273742de288109084522f36b32f762"), looks := true }, kinds := [], alts := [], laidByText := true, laidKinds := [.handle], laidTests := true, laidLooks := .later }
def ShopWaitsCardSaid : Prop := Claim7.holds Tryz.pinned (.plain (OpenSpec.ofChange shopWaitsSpec)) shopWaitsCard

/-- THE TIED CARD OF 'gristmillkeep.ShopQuiet'. -/
def shopQuietCard : Claim7 := { stood := { row := shopQuietRow, standIns := [], harness := (true, "f5f71c23f1f84678c4adf532154ae241f1273742de288109084522f36b32f762"), looks := true }, kinds := [], alts := [], laidByText := true, laidKinds := [.handle], laidTests := true, laidLooks := .later }
def ShopQuietCardSaid : Prop := Claim7.holds Tryz.pinned (.plain (OpenSpec.ofChange shopQuietSpec)) shopQuietCard

/-- THE TIED CARD OF 'gristmillkeep.ShopLater'. -/
def shopLaterCard : Claim7 := { stood := { row := shopLaterRow, standIns := [], harness := (true, "f5f71c23f1f84678c4adf532154ae241f1273742de288109084522f36b32f762"), looks := true }, kinds := [], alts := [], laidByText := true, laidKinds := [.handle], laidTests := true, laidLooks := .later }
def ShopLaterCardSaid : Prop := Claim7.holds Tryz.pinned (.plain (OpenSpec.ofChange shopLaterSpec)) shopLaterCard

/-- THE TIED CARD OF 'gristmillkeep.ShopLegal'. -/
def shopLegalCard : Claim7 := { stood := { row := shopLegalRow, standIns := [], harness := (true, "f5f71c23f1f84678c4adf532154ae241f1273742de288109084522f36b32f762"), looks := true }, kinds := [], alts := [], laidByText := true, laidKinds := [.handle], laidTests := true, laidLooks := .later }
def ShopLegalCardSaid : Prop := Claim7.holds Tryz.pinned (.plain (OpenSpec.ofChange shopLegalSpec)) shopLegalCard

/-- THE TIED CARD OF 'gristmillkeep.ShopSurvives'. -/
def shopSurvivesCard : Claim7 := { stood := { row := shopSurvivesRow, standIns := [], harness := (true, "f5f71c23f1f84678c4adf532154ae241f1273742de288109084522f36b32f762"), looks := true }, kinds := [], alts := [], laidByText := true, laidKinds := [.handle], laidTests := true, laidLooks := .later }
def ShopSurvivesCardSaid : Prop := Claim7.holds Tryz.pinned (.plain (OpenSpec.ofChange shopSurvivesSpec)) shopSurvivesCard

/-- THE TIED CARD OF 'gristmillkeep.JudgeCut'. -/
def judgeCutCard : Claim7 := { stood := { row := judgeCutRow, standIns := [], harness := (true, "f5f71c23f1f84678c4adf532154ae241f1273742de288109084522f36b32f762"), looks := true }, kinds := [], alts := [], laidByText := true, laidKinds := [.handle], laidTests := true, laidLooks := .later }
def JudgeCutCardSaid : Prop := Claim7.holds Tryz.pinned (.plain (OpenSpec.ofChange judgeCutSpec)) judgeCutCard

/-- THE TIED CARD OF 'gristmillkeep.ShopGoes'. -/
def shopGoesCard : Claim7 := { stood := { row := shopGoesRow, standIns := [], harness := (true, "f5f71c23f1f84678c4adf532154ae241f1273742de288109084522f36b32f762"), looks := true }, kinds := [], alts := [], laidByText := true, laidKinds := [.handle], laidTests := true, laidLooks := .later }
def ShopGoesCardSaid : Prop := Claim7.holds Tryz.pinned (.plain (OpenSpec.ofChange shopGoesSpec)) shopGoesCard

/-- THE SECOND FORM's CARD OF 'gristmillkeep.ShopClock'. -/
def shopClockUptoCard : Claim7 := { stood := { row := shopClockUptoRow, standIns := [], harness := (true, "f5f71c23f1f84678c4adf532154ae241f1273742de288109084522f36b32f762"), looks := true }, kinds := [], alts := [], laidByText := true, laidKinds := [.handle], laidTests := true, laidLooks := .later }
def ShopClockUptoCardSaid : Prop := Claim7.holds Tryz.pinned (.plain (OpenSpec.upto shopClockSpec)) shopClockUptoCard

/-- THE SECOND FORM's CARD OF 'gristmillkeep.ShopAlone'. -/
def shopAloneUptoCard : Claim7 := { stood := { row := shopAloneUptoRow, standIns := [], harness := (true, "f5f71c23f1f84678c4adf532154ae241f1273742de288109084522f36b32f762"), looks := true }, kinds := [], alts := [], laidByText := true, laidKinds := [.handle], laidTests := true, laidLooks := .later }
def ShopAloneUptoCardSaid : Prop := Claim7.holds Tryz.pinned (.plain (OpenSpec.upto shopAloneSpec)) shopAloneUptoCard

/-- THE SECOND FORM's CARD OF 'gristmillkeep.ShopHelped'. -/
def shopHelpedUptoCard : Claim7 := { stood := { row := shopHelpedUptoRow, standIns := [], harness := (true, "f5f71c23f1f84678c4adf532154ae241f1273742de288109084522f36b32f762"), looks := true }, kinds := [], alts := [], laidByText := true, laidKinds := [.handle], laidTests := true, laidLooks := .later }
def ShopHelpedUptoCardSaid : Prop := Claim7.holds Tryz.pinned (.plain (OpenSpec.upto shopHelpedSpec)) shopHelpedUptoCard

/-- THE SECOND FORM's CARD OF 'gristmillkeep.ShopPrices'. -/
def shopPricesUptoCard : Claim7 := { stood := { row := shopPricesUptoRow, standIns := [], harness := (true, "f5f71c23f1f84678c4adf532154ae241f1273742de288109084522f36b32f762"), looks := true }, kinds := [], alts := [], laidByText := true, laidKinds := [.handle], laidTests := true, laidLooks := .later }
def ShopPricesUptoCardSaid : Prop := Claim7.holds Tryz.pinned (.plain (OpenSpec.upto shopPricesSpec)) shopPricesUptoCard

/-- THE SECOND FORM's CARD OF 'gristmillkeep.ShopPace'. -/
def shopPaceUptoCard : Claim7 := { stood := { row := shopPaceUptoRow, standIns := [], harness := (true, "f5f71c23f1f84678c4adf532154ae241f1273742de288109084522f36b32f762"), looks := true }, kinds := [], alts := [], laidByText := true, laidKinds := [.handle], laidTests := true, laidLooks := .later }
def ShopPaceUptoCardSaid : Prop := Claim7.holds Tryz.pinned (.plain (OpenSpec.upto shopPaceSpec)) shopPaceUptoCard

/-- THE SECOND FORM's CARD OF 'gristmillkeep.ShopWaits'. -/
def shopWaitsUptoCard : Claim7 := { stood := { row := shopWaitsUptoRow, standIns := [], harness := (true, "f5f71c23f1f84678c4adf532154ae241f1273742de288109084522f36b32f762"), looks := true }, kinds := [], alts := [], laidByText := true, laidKinds := [.handle], laidTests := true, laidLooks := .later }
def ShopWaitsUptoCardSaid : Prop := Claim7.holds Tryz.pinned (.plain (OpenSpec.upto shopWaitsSpec)) shopWaitsUptoCard

/-- THE SECOND FORM's CARD OF 'gristmillkeep.ShopQuiet'. -/
def shopQuietUptoCard : Claim7 := { stood := { row := shopQuietUptoRow, standIns := [], harness := (true, "f5f71c23f1f84678c4adf532154ae241f1273742de288109084522f36b32f762"), looks := true }, kinds := [], alts := [], laidByText := true, laidKinds := [.handle], laidTests := true, laidLooks := .later }
def ShopQuietUptoCardSaid : Prop := Claim7.holds Tryz.pinned (.plain (OpenSpec.upto shopQuietSpec)) shopQuietUptoCard

/-- THE SECOND FORM's CARD OF 'gristmillkeep.ShopLater'. -/
def shopLaterUptoCard : Claim7 := { stood := { row := shopLaterUptoRow, standIns := [], harness := (true, "f5f71c23f1f84678c4adf532154ae241f1273742de288109084522f36b32f762"), looks := true }, kinds := [], alts := [], laidByText := true, laidKinds := [.handle], laidTests := true, laidLooks := .later }
def ShopLaterUptoCardSaid : Prop := Claim7.holds Tryz.pinned (.plain (OpenSpec.upto shopLaterSpec)) shopLaterUptoCard

/-- THE SECOND FORM's CARD OF 'gristmillkeep.ShopLegal'. -/
def shopLegalUptoCard : Claim7 := { stood := { row := shopLegalUptoRow, standIns := [], harness := (true, "f5f71c23f1f84678c4adf532154ae241f1273742de288109084522f36b32f762"), looks := true }, kinds := [], alts := [], laidByText := true, laidKinds := [.handle], laidTests := true, laidLooks := .later }
def ShopLegalUptoCardSaid : Prop := Claim7.holds Tryz.pinned (.plain (OpenSpec.upto shopLegalSpec)) shopLegalUptoCard

/-- THE SECOND FORM's CARD OF 'gristmillkeep.ShopSurvives'. -/
def shopSurvivesUptoCard : Claim7 := { stood := { row := shopSurvivesUptoRow, standIns := [], harness := (true, "f5f71c23f1f84678c4adf532154ae241f1273742de288109084522f36b32f762"), looks := true }, kinds := [], alts := [], laidByText := true, laidKinds := [.handle], laidTests := true, laidLooks := .later }
def ShopSurvivesUptoCardSaid : Prop := Claim7.holds Tryz.pinned (.plain (OpenSpec.upto shopSurvivesSpec)) shopSurvivesUptoCard

/-- THE SECOND FORM's CARD OF 'gristmillkeep.JudgeCut'. -/
def judgeCutUptoCard : Claim7 := { stood := { row := judgeCutUptoRow, standIns := [], harness := (true, "f5f71c23f1f84678c4adf532154ae241f1273742de288109084522f36b32f762"), looks := true }, kinds := [], alts := [], laidByText := true, laidKinds := [.handle], laidTests := true, laidLooks := .later }
def JudgeCutUptoCardSaid : Prop := Claim7.holds Tryz.pinned (.plain (OpenSpec.upto judgeCutSpec)) judgeCutUptoCard

/-- THE SECOND FORM's CARD OF 'gristmillkeep.ShopGoes'. -/
def shopGoesUptoCard : Claim7 := { stood := { row := shopGoesUptoRow, standIns := [], harness := (true, "f5f71c23f1f84678c4adf532154ae241f1273742de288109084522f36b32f762"), looks := true }, kinds := [], alts := [], laidByText := true, laidKinds := [.handle], laidTests := true, laidLooks := .later }
def ShopGoesUptoCardSaid : Prop := Claim7.holds Tryz.pinned (.plain (OpenSpec.upto shopGoesSpec)) shopGoesUptoCard
end Rows
end Go.Proofs.YtinijfhoenajkaaGreatDoor
