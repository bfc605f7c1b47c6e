/-
  DERIVED. GIVEN WITH THE SEED: THE CARDS: each row of YtddbkioejhidoaaGreatDoorRows.lean that lists a variable, with what it lists TIED to the program's text (the seventh form; the later family's looks); each row that meets fmt, with fmt's text TOLD by the authors' own Lean function (tested against real Go, not proved from fmt's source: count such statements apart). THE CARD IS WHAT COUNTS. Prove the row's statement (the work); the ties are given (YtddbkioejhidoaaGreatDoorTie.lean); close each card by the builder's one call (the guide's Derived/Test/ToyasCard.lean, 'card_holds'). Laid BY PROGRAM, IN A SANDBOX (cutbox-door.mjs). By AI agents, Wed Nov 11 2026. No macro, syntax, notation, axiom, sorry.
-/
import Derived.Test.YtddbkioejhidoaaGreatDoorRows
import GoSem.ClaimSeven
namespace Go.Proofs.YtddbkioejhidoaaGreatDoor
namespace Rows

/-- THE TIED CARD OF 'gristmillkeep.WorkerAgain'. -/
def workerAgainCard : Claim7 := { stood := { row := workerAgainRow, standIns := [], harness := (true, "c6c3cfc6927ae19b60f48658a9a54bd7e8fbc0cb69cfb970ee832494cd760023"), looks := true }, kinds := [], alts := [], laidByText := true, laidKinds := [.handle], laidTests := true, laidLooks := .later }
def WorkerAgainCardSaid : Prop := Claim7.holds Tryz.pinned (.plain (OpenSpec.ofChange workerAgainSpec)) workerAgainCard

/-- THE TIED CARD OF 'gristmillkeep.WorkerQuiet'. -/
def workerQuietCard : Claim7 := { stood := { row := workerQuietRow, standIns := [], harness := (true, "c6c3cfc6927ae19b60f48658a9a54bd7e8fbc0cb69cfb970ee832494cd760023"), looks := true }, kinds := [], alts := [], laidByText := true, laidKinds := [.handle], laidTests := true, laidLooks := .later }
def WorkerQuietCardSaid : Prop := Claim7.holds Tryz.pinned (.plain (OpenSpec.ofChange workerQuietSpec)) workerQuietCard

/-- THE TIED CARD OF 'gristmillkeep.WorkerLine'. -/
def workerLineCard : Claim7 := { stood := { row := workerLineRow, standIns := [], harness := (true, "c6c3cfc6927ae19b60f48658a9a54bd7e8fbc0cb69cfb970ee832494cd760023"), looks := true }, kinds := [], alts := [], laidByText := true, laidKinds := [.handle], laidTests := true, laidLooks := .later }
def WorkerLineCardSaid : Prop := Claim7.holds Tryz.pinned (.plain (OpenSpec.ofChange workerLineSpec)) workerLineCard

/-- THE TIED CARD OF 'gristmillkeep.ShopClock'. -/
def shopClockCard : Claim7 := { stood := { row := shopClockRow, standIns := [], harness := (true, "c6c3cfc6927ae19b60f48658a9a54bd7e8fbc0cb69cfb970ee832494cd760023"), looks := true }, kinds := [], alts := [], laidByText := true, laidKinds := [.handle], laidTests := true, laidLooks := .later }
def ShopClockCardSaid : Prop := Claim7.holds Tryz.pinned (.plain (OpenSpec.ofChange shopClockSpec)) shopClockCard

/-- THE TIED CARD OF 'gristmillkeep.ShopAlone'. -/
def shopAloneCard : Claim7 := { stood := { row := shopAloneRow, standIns := [], harness := (true, "c6c3cfc6927ae19b60f48658a9a54bd7e8fbc0cb69cfb970ee832494cd760023"), looks := true }, kinds := [], alts := [], laidByText := true, laidKinds := [.handle], laidTests := true, laidLooks := .later }
def ShopAloneCardSaid : Prop := Claim7.holds Tryz.pinned (.plain (OpenSpec.ofChange shopAloneSpec)) shopAloneCard

/-- THE TIED CARD OF 'gristmillkeep.ShopOne'. -/
def shopOneCard : Claim7 := { stood := { row := shopOneRow, standIns := [], harness := (true, "c6c3cfc6927ae19b60f48658a9a54bd7e8fbc0cb69cfb970ee832494cd760023"), looks := true }, kinds := [], alts := [], laidByText := true, laidKinds := [.handle], laidTests := true, laidLooks := .later }
def ShopOneCardSaid : Prop := Claim7.holds Tryz.pinned (.plain (OpenSpec.ofChange shopOneSpec)) shopOneCard

/-- THE TIED CARD OF 'gristmillkeep.ShopHelped'. -/
def shopHelpedCard : Claim7 := { stood := { row := shopHelpedRow, standIns := [], harness := (true, "c6c3cfc6927ae19b60f48658a9a54bd7e8fbc0cb69cfb970ee832494cd760023"), looks := true }, kinds := [], alts := [], laidByText := true, laidKinds := [.handle], laidTests := true, laidLooks := .later }
def ShopHelpedCardSaid : Prop := Claim7.holds Tryz.pinned (.plain (OpenSpec.ofChange shopHelpedSpec)) shopHelpedCard

/-- THE TIED CARD OF 'gristmillkeep.ShopStands'. -/
def shopStandsCard : Claim7 := { stood := { row := shopStandsRow, standIns := [], harness := (true, "c6c3cfc6927ae19b60f48658a9a54bd7e8fbc0cb69cfb970ee832494cd760023"), looks := true }, kinds := [], alts := [], laidByText := true, laidKinds := [.handle], laidTests := true, laidLooks := .later }
def ShopStandsCardSaid : Prop := Claim7.holds Tryz.pinned (.plain (OpenSpec.ofChange shopStandsSpec)) shopStandsCard

/-- THE TIED CARD OF 'gristmillkeep.ShopPrices'. -/
def shopPricesCard : Claim7 := { stood := { row := shopPricesRow, standIns := [], harness := (true, "c6c3cfc6927ae19b60f48658a9a54bd7e8fbc0cb69cfb970ee832494cd760023"), looks := true }, kinds := [], alts := [], laidByText := true, laidKinds := [.handle], laidTests := true, laidLooks := .later }
def ShopPricesCardSaid : Prop := Claim7.holds Tryz.pinned (.plain (OpenSpec.ofChange shopPricesSpec)) shopPricesCard

/-- THE TIED CARD OF 'gristmillkeep.ShopMasks'. -/
def shopMasksCard : Claim7 := { stood := { row := shopMasksRow, standIns := [], harness := (true, "c6c3cfc6927ae19b60f48658a9a54bd7e8fbc0cb69cfb970ee832494cd760023"), looks := true }, kinds := [], alts := [], laidByText := true, laidKinds := [.handle], laidTests := true, laidLooks := .later }
def ShopMasksCardSaid : Prop := Claim7.holds Tryz.pinned (.plain (OpenSpec.ofChange shopMasksSpec)) shopMasksCard

/-- THE TIED CARD OF 'gristmillkeep.ShopAhead'. -/
def shopAheadCard : Claim7 := { stood := { row := shopAheadRow, standIns := [], harness := (true, "c6c3cfc6927ae19b60f48658a9a54bd7e8fbc0cb69cfb970ee832494cd760023"), looks := true }, kinds := [], alts := [], laidByText := true, laidKinds := [.handle], laidTests := true, laidLooks := .later }
def ShopAheadCardSaid : Prop := Claim7.holds Tryz.pinned (.plain (OpenSpec.ofChange shopAheadSpec)) shopAheadCard

/-- THE TIED CARD OF 'gristmillkeep.ShopIdle'. -/
def shopIdleCard : Claim7 := { stood := { row := shopIdleRow, standIns := [], harness := (true, "c6c3cfc6927ae19b60f48658a9a54bd7e8fbc0cb69cfb970ee832494cd760023"), looks := true }, kinds := [], alts := [], laidByText := true, laidKinds := [.handle], laidTests := true, laidLooks := .later }
def ShopIdleCardSaid : Prop := Claim7.holds Tryz.pinned (.plain (OpenSpec.ofChange shopIdleSpec)) shopIdleCard

/-- THE TIED CARD OF 'gristmillkeep.ShopPace'. -/
def shopPaceCard : Claim7 := { stood := { row := shopPaceRow, standIns := [], harness := (true, "c6c3cfc6927ae19b60f48658a9a54bd7e8fbc0cb69cfb970ee832494cd760023"), looks := true }, kinds := [], alts := [], laidByText := true, laidKinds := [.handle], laidTests := true, laidLooks := .later }
def ShopPaceCardSaid : Prop := Claim7.holds Tryz.pinned (.plain (OpenSpec.ofChange shopPaceSpec)) shopPaceCard

/-- THE TIED CARD OF 'gristmillkeep.ShopWaits'. -/
def shopWaitsCard : Claim7 := { stood := { row := shopWaitsRow, standIns := [], harness := (true, "c6c3cfc6927ae19b60f48658a9a54bd7e8fbc0cb69cfb970ee832494cd760023"), looks := true }, kinds := [], alts := [], laidByText := true, laidKinds := [.handle], laidTests := true, laidLooks := .later }
def ShopWaitsCardSaid : Prop := Claim7.holds Tryz.pinned (.plain (OpenSpec.ofChange shopWaitsSpec)) shopWaitsCard

/-- THE TIED CARD OF 'gristmillkeep.ShopQuiet'. -/
def shopQuietCard : Claim7 := { stood := { row := shopQuietRow, standIns := [], harness := (true, "c6c3cfc6927ae19b60f48658a9a54bd7e8fbc0cb69cfb970ee832494cd760023"), looks := true }, kinds := [], alts := [], laidByText := true, laidKinds := [.handle], laidTests := true, laidLooks := .later }
def ShopQuietCardSaid : Prop := Claim7.holds Tryz.pinned (.plain (OpenSpec.ofChange shopQuietSpec)) shopQuietCard

/-- THE SECOND FORM's CARD OF 'gristmillkeep.WorkerAgain'. -/
def workerAgainUptoCard : Claim7 := { stood := { row := workerAgainUptoRow, standIns := [], harness := (true, "c6c3cfc6927ae19b60f48658a9a54bd7e8fbc0cb69cfb970ee832494cd760023"), looks := true }, kinds := [], alts := [], laidByText := true, laidKinds := [.handle], laidTests := true, laidLooks := .later }
def WorkerAgainUptoCardSaid : Prop := Claim7.holds Tryz.pinned (.plain (OpenSpec.upto workerAgainSpec)) workerAgainUptoCard

/-- THE SECOND FORM's CARD OF 'gristmillkeep.WorkerQuiet'. -/
def workerQuietUptoCard : Claim7 := { stood := { row := workerQuietUptoRow, standIns := [], harness := (true, "c6c3cfc6927ae19b60f48658a9a54bd7e8fbc0cb69cfb970ee832494cd760023"), looks := true }, kinds := [], alts := [], laidByText := true, laidKinds := [.handle], laidTests := true, laidLooks := .later }
def WorkerQuietUptoCardSaid : Prop := Claim7.holds Tryz.pinned (.plain (OpenSpec.upto workerQuietSpec)) workerQuietUptoCard

/-- THE SECOND FORM's CARD OF 'gristmillkeep.WorkerLine'. -/
def workerLineUptoCard : Claim7 := { stood := { row := workerLineUptoRow, standIns := [], harness := (true, "c6c3cfc6927ae19b60f48658a9a54bd7e8fbc0cb69cfb970ee832494cd760023"), looks := true }, kinds := [], alts := [], laidByText := true, laidKinds := [.handle], laidTests := true, laidLooks := .later }
def WorkerLineUptoCardSaid : Prop := Claim7.holds Tryz.pinned (.plain (OpenSpec.upto workerLineSpec)) workerLineUptoCard

/-- THE SECOND FORM's CARD OF 'gristmillkeep.ShopClock'. -/
def shopClockUptoCard : Claim7 := { stood := { row := shopClockUptoRow, standIns := [], harness := (true, "c6c3cfc6927ae19b60f48658a9a54bd7e8fbc0cb69cfb970ee832494cd760023"), looks := true }, kinds := [], alts := [], laidByText := true, laidKinds := [.handle], laidTests := true, laidLooks := .later }
def ShopClockUptoCardSaid : Prop := Claim7.holds Tryz.pinned (.plain (OpenSpec.upto shopClockSpec)) shopClockUptoCard

/-- THE SECOND FORM's CARD OF 'gristmillkeep.ShopAlone'. -/
def shopAloneUptoCard : Claim7 := { stood := { row := shopAloneUptoRow, standIns := [], harness := (true, "c6c3cfc6927ae19b60f48658a9a54bd7e8fbc0cb69cfb970ee832494cd760023"), looks := true }, kinds := [], alts := [], laidByText := true, laidKinds := [.handle], laidTests := true, laidLooks := .later }
def ShopAloneUptoCardSaid : Prop := Claim7.holds Tryz.pinned (.plain (OpenSpec.upto shopAloneSpec)) shopAloneUptoCard

/-- THE SECOND FORM's CARD OF 'gristmillkeep.ShopOne'. -/
def shopOneUptoCard : Claim7 := { stood := { row := shopOneUptoRow, standIns := [], harness := (true, "c6c3cfc6927ae19b60f48658a9a54bd7e8fbc0cb69cfb970ee832494cd760023"), looks := true }, kinds := [], alts := [], laidByText := true, laidKinds := [.handle], laidTests := true, laidLooks := .later }
def ShopOneUptoCardSaid : Prop := Claim7.holds Tryz.pinned (.plain (OpenSpec.upto shopOneSpec)) shopOneUptoCard

/-- THE SECOND FORM's CARD OF 'gristmillkeep.ShopHelped'. -/
def shopHelpedUptoCard : Claim7 := { stood := { row := shopHelpedUptoRow, standIns := [], harness := (true, "c6c3cfc6927ae19b60f48658a9a54bd7e8fbc0cb69cfb970ee832494cd760023"), looks := true }, kinds := [], alts := [], laidByText := true, laidKinds := [.handle], laidTests := true, laidLooks := .later }
def ShopHelpedUptoCardSaid : Prop := Claim7.holds Tryz.pinned (.plain (OpenSpec.upto shopHelpedSpec)) shopHelpedUptoCard

/-- THE SECOND FORM's CARD OF 'gristmillkeep.ShopStands'. -/
def shopStandsUptoCard : Claim7 := { stood := { row := shopStandsUptoRow, standIns := [], harness := (true, "c6c3cfc6927ae19b60f48658a9a54bd7e8fbc0cb69cfb970ee832494cd760023"), looks := true }, kinds := [], alts := [], laidByText := true, laidKinds := [.handle], laidTests := true, laidLooks := .later }
def ShopStandsUptoCardSaid : Prop := Claim7.holds Tryz.pinned (.plain (OpenSpec.upto shopStandsSpec)) shopStandsUptoCard

/-- THE SECOND FORM's CARD OF 'gristmillkeep.ShopPrices'. -/
def shopPricesUptoCard : Claim7 := { stood := { row := shopPricesUptoRow, standIns := [], harness := (true, "c6c3cfc6927ae19b60f48658a9a54bd7e8fbc0cb69cfb970ee832494cd760023"), looks := true }, kinds := [], alts := [], laidByText := true, laidKinds := [.handle], laidTests := true, laidLooks := .later }
def ShopPricesUptoCardSaid : Prop := Claim7.holds Tryz.pinned (.plain (OpenSpec.upto shopPricesSpec)) shopPricesUptoCard

/-- THE SECOND FORM's CARD OF 'gristmillkeep.ShopMasks'. -/
def shopMasksUptoCard : Claim7 := { stood := { row := shopMasksUptoRow, standIns := [], harness := (true, "c6c3cfc6927ae19b60f48658a9a54bd7e8fbc0cb69cfb970ee832494cd760023"), looks := true }, kinds := [], alts := [], laidByText := true, laidKinds := [.handle], laidTests := true, laidLooks := .later }
def ShopMasksUptoCardSaid : Prop := Claim7.holds Tryz.pinned (.plain (OpenSpec.upto shopMasksSpec)) shopMasksUptoCard

/-- THE SECOND FORM's CARD OF 'gristmillkeep.ShopAhead'. -/
def shopAheadUptoCard : Claim7 := { stood := { row := shopAheadUptoRow, standIns := [], harness := (true, "c6c3cfc6927ae19b60f48658a9a54bd7e8fbc0cb69cfb970ee832494cd760023"), looks := true }, kinds := [], alts := [], laidByText := true, laidKinds := [.handle], laidTests := true, laidLooks := .later }
def ShopAheadUptoCardSaid : Prop := Claim7.holds Tryz.pinned (.plain (OpenSpec.upto shopAheadSpec)) shopAheadUptoCard

/-- THE SECOND FORM's CARD OF 'gristmillkeep.ShopIdle'. -/
def shopIdleUptoCard : Claim7 := { stood := { row := shopIdleUptoRow, standIns := [], harness := (true, "c6c3cfc6927ae19b60f48658a9a54bd7e8fbc0cb69cfb970ee832494cd760023"), looks := true }, kinds := [], alts := [], laidByText := true, laidKinds := [.handle], laidTests := true, laidLooks := .later }
def ShopIdleUptoCardSaid : Prop := Claim7.holds Tryz.pinned (.plain (OpenSpec.upto shopIdleSpec)) shopIdleUptoCard

/-- THE SECOND FORM's CARD OF 'gristmillkeep.ShopPace'. -/
def shopPaceUptoCard : Claim7 := { stood := { row := shopPaceUptoRow, standIns := [], harness := (true, "c6c3cfc6927ae19b60f48658a9a54bd7e8fbc0cb69cfb970ee832494cd760023"), looks := true }, kinds := [], alts := [], laidByText := true, laidKinds := [.handle], laidTests := true, laidLooks := .later }
def ShopPaceUptoCardSaid : Prop := Claim7.holds Tryz.pinned (.plain (OpenSpec.upto shopPaceSpec)) shopPaceUptoCard

/-- THE SECOND FORM's CARD OF 'gristmillkeep.ShopWaits'. -/
def shopWaitsUptoCard : Claim7 := { stood := { row := shopWaitsUptoRow, standIns := [], harness := (true, "c6c3cfc6927ae19b60f48658a9a54bd7e8fbc0cb69cfb970ee832494cd760023"), looks := true }, kinds := [], alts := [], laidByText := true, laidKinds := [.handle], laidTests := true, laidLooks := .later }
def ShopWaitsUptoCardSaid : Prop := Claim7.holds Tryz.pinned (.plain (OpenSpec.upto shopWaitsSpec)) shopWaitsUptoCard

/-- THE SECOND FORM's CARD OF 'gristmillkeep.ShopQuiet'. -/
def shopQuietUptoCard : Claim7 := { stood := { row := shopQuietUptoRow, standIns := [], harness := (true, "c6c3cfc6927ae19b60f48658a9a54bd7e8fbc0cb69cfb970ee832494cd760023"), looks := true }, kinds := [], alts := [], laidByText := true, laidKinds := [.handle], laidTests := true, laidLooks := .later }
def ShopQuietUptoCardSaid : Prop := Claim7.holds Tryz.pinned (.plain (OpenSpec.upto shopQuietSpec)) shopQuietUptoCard
end Rows
end Go.Proofs.YtddbkioejhidoaaGreatDoor
