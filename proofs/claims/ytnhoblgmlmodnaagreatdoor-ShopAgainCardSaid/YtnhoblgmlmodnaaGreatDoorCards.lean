/-
  DERIVED. GIVEN WITH THE SEED: THE CARDS: each row of YtnhoblgmlmodnaaGreatDoorRows.lean that lists a variable, with what it lists TIED to the program's text (the seventh form; the later family's looks); each row that meets fmt, with fmt's text TOLD by the authors' own Lean function (tested against real Go, not proved from fmt's source: count such statements apart). THE CARD IS WHAT COUNTS. Prove the row's statement (the work); the ties are given (YtnhoblgmlmodnaaGreatDoorTie.lean); close each card by the builder's one call (the guide's Derived/Test/ToyasCard.lean, 'card_holds'). Laid BY PROGRAM, IN A SANDBOX (cutbox-door.mjs). By AI agents, Wed Nov 11 2026. No macro, syntax, notation, axiom, sorry.
-/
import Derived.Test.YtnhoblgmlmodnaaGreatDoorRows
import GoSem.ClaimSeven
namespace Go.Proofs.YtnhoblgmlmodnaaGreatDoor
namespace Rows

/-- THE TIED CARD OF 'gristmillkeep.ShopMany'. -/
def shopManyCard : Claim7 := { stood := { row := shopManyRow, standIns := [], harness := (true, "788eec67d8a09e4afeb34ffde0512dd9088e4485b6a5f162cff07491dc5d3791"), looks := true }, kinds := [], alts := [], laidByText := true, laidKinds := [.handle], laidTests := true, laidLooks := .later }
def ShopManyCardSaid : Prop := Claim7.holds Tryz.pinned (.plain (OpenSpec.ofChange shopManySpec)) shopManyCard

/-- THE TIED CARD OF 'gristmillkeep.ShopFits'. -/
def shopFitsCard : Claim7 := { stood := { row := shopFitsRow, standIns := [], harness := (true, "788eec67d8a09e4afeb34ffde0512dd9088e4485b6a5f162cff07491dc5d3791"), looks := true }, kinds := [], alts := [], laidByText := true, laidKinds := [.handle], laidTests := true, laidLooks := .later }
def ShopFitsCardSaid : Prop := Claim7.holds Tryz.pinned (.plain (OpenSpec.ofChange shopFitsSpec)) shopFitsCard

/-- THE TIED CARD OF 'gristmillkeep.ShopDetects'. -/
def shopDetectsCard : Claim7 := { stood := { row := shopDetectsRow, standIns := [], harness := (true, "788eec67d8a09e4afeb34ffde0512dd9088e4485b6a5f162cff07491dc5d3791"), looks := true }, kinds := [], alts := [], laidByText := true, laidKinds := [.handle], laidTests := true, laidLooks := .later }
def ShopDetectsCardSaid : Prop := Claim7.holds Tryz.pinned (.plain (OpenSpec.ofChange shopDetectsSpec)) shopDetectsCard

/-- THE TIED CARD OF 'gristmillkeep.ShopAgain'. -/
def shopAgainCard : Claim7 := { stood := { row := shopAgainRow, standIns := [], harness := (true, "788eec67d8a09e4afeb34ffde0512dd9088e4485b6a5f162cff07491dc5d3791"), looks := true }, kinds := [], alts := [], laidByText := true, laidKinds := [.handle], laidTests := true, laidLooks := .later }
def ShopAgainCardSaid : Prop := Claim7.holds Tryz.pinned (.plain (OpenSpec.ofChange shopAgainSpec)) shopAgainCard

/-- THE TIED CARD OF 'gristmillkeep.ShopEnds'. -/
def shopEndsCard : Claim7 := { stood := { row := shopEndsRow, standIns := [], harness := (true, "788eec67d8a09e4afeb34ffde0512dd9088e4485b6a5f162cff07491dc5d3791"), looks := true }, kinds := [], alts := [], laidByText := true, laidKinds := [.handle], laidTests := true, laidLooks := .later }
def ShopEndsCardSaid : Prop := Claim7.holds Tryz.pinned (.plain (OpenSpec.ofChange shopEndsSpec)) shopEndsCard

/-- THE SECOND FORM's CARD OF 'gristmillkeep.ShopMany'. -/
def shopManyUptoCard : Claim7 := { stood := { row := shopManyUptoRow, standIns := [], harness := (true, "788eec67d8a09e4afeb34ffde0512dd9088e4485b6a5f162cff07491dc5d3791"), looks := true }, kinds := [], alts := [], laidByText := true, laidKinds := [.handle], laidTests := true, laidLooks := .later }
def ShopManyUptoCardSaid : Prop := Claim7.holds Tryz.pinned (.plain (OpenSpec.upto shopManySpec)) shopManyUptoCard

/-- THE SECOND FORM's CARD OF 'gristmillkeep.ShopFits'. -/
def shopFitsUptoCard : Claim7 := { stood := { row := shopFitsUptoRow, standIns := [], harness := (true, "788eec67d8a09e4afeb34ffde0512dd9088e4485b6a5f162cff07491dc5d3791"), looks := true }, kinds := [], alts := [], laidByText := true, laidKinds := [.handle], laidTests := true, laidLooks := .later }
def ShopFitsUptoCardSaid : Prop := Claim7.holds Tryz.pinned (.plain (OpenSpec.upto shopFitsSpec)) shopFitsUptoCard

/-- THE SECOND FORM's CARD OF 'gristmillkeep.ShopDetects'. -/
def shopDetectsUptoCard : Claim7 := { stood := { row := shopDetectsUptoRow, standIns := [], harness := (true, "788eec67d8a09e4afeb34ffde0512dd9088e4485b6a5f162cff07491dc5d3791"), looks := true }, kinds := [], alts := [], laidByText := true, laidKinds := [.handle], laidTests := true, laidLooks := .later }
def ShopDetectsUptoCardSaid : Prop := Claim7.holds Tryz.pinned (.plain (OpenSpec.upto shopDetectsSpec)) shopDetectsUptoCard

/-- THE SECOND FORM's CARD OF 'gristmillkeep.ShopAgain'. -/
def shopAgainUptoCard : Claim7 := { stood := { row := shopAgainUptoRow, standIns := [], harness := (true, "788eec67d8a09e4afeb34ffde0512dd9088e4485b6a5f162cff07491dc5d3791"), looks := true }, kinds := [], alts := [], laidByText := true, laidKinds := [.handle], laidTests := true, laidLooks := .later }
def ShopAgainUptoCardSaid : Prop := Claim7.holds Tryz.pinned (.plain (OpenSpec.upto shopAgainSpec)) shopAgainUptoCard

/-- THE SECOND FORM's CARD OF 'gristmillkeep.ShopEnds'. -/
def shopEndsUptoCard : Claim7 := { stood := { row := shopEndsUptoRow, standIns := [], harness := (true, "788eec67d8a09e4afeb34ffde0512dd9088e4485b6a5f162cff07491dc5d3791"), looks := true }, kinds := [], alts := [], laidByText := true, laidKinds := [.handle], laidTests := true, laidLooks := .later }
def ShopEndsUptoCardSaid : Prop := Claim7.holds Tryz.pinned (.plain (OpenSpec.upto shopEndsSpec)) shopEndsUptoCard
end Rows
end Go.Proofs.YtnhoblgmlmodnaaGreatDoor
