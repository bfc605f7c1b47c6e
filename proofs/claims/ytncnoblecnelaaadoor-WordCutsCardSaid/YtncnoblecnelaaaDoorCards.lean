/-
  DERIVED. GIVEN WITH THE SEED: THE CARDS: each row of YtncnoblecnelaaaDoorRows.lean that lists a variable, with what it lists TIED to the program's text (the seventh form; the later family's looks); each row that meets fmt, with fmt's text TOLD by the authors' own Lean function (tested against real Go, not proved from fmt's source: count such statements apart). THE CARD IS WHAT COUNTS. Prove the row's statement (the work); the ties are given (YtncnoblecnelaaaDoorTie.lean); close each card by the builder's one call (the guide's Derived/Test/ToyasCard.lean, 'card_holds'). Laid BY PROGRAM, IN A SANDBOX (cutbox-door.mjs). By AI agents, Wed Nov 11 2026. No macro, syntax, notation, axiom, sorry.
-/
import Derived.Test.YtncnoblecnelaaaDoorRows
import GoSem.ClaimSeven
namespace Go.Proofs.YtncnoblecnelaaaDoor
namespace Rows

/-- THE TIED CARD OF 'gristmillkeep.WordBack'. -/
def wordBackCard : Claim7 := { stood := { row := wordBackRow, standIns := [], harness := (true, "284936ec75a6420ca137140e46b2ff08a8505c3b534ffdc104a5ec928b77daa5"), looks := false }, kinds := [], alts := [], laidByText := true, laidKinds := [.data], laidTests := true, laidLooks := .later }
def WordBackCardSaid : Prop := Claim7.holds Tryd.pinned (.plain (OpenSpec.ofChange wordBackSpec)) wordBackCard

/-- THE TIED CARD OF 'gristmillkeep.WordSame'. -/
def wordSameCard : Claim7 := { stood := { row := wordSameRow, standIns := [], harness := (true, "284936ec75a6420ca137140e46b2ff08a8505c3b534ffdc104a5ec928b77daa5"), looks := false }, kinds := [], alts := [], laidByText := true, laidKinds := [.data], laidTests := true, laidLooks := .later }
def WordSameCardSaid : Prop := Claim7.holds Tryd.pinned (.plain (OpenSpec.ofChange wordSameSpec)) wordSameCard

/-- THE TIED CARD OF 'gristmillkeep.WordFlips'. -/
def wordFlipsCard : Claim7 := { stood := { row := wordFlipsRow, standIns := [], harness := (true, "284936ec75a6420ca137140e46b2ff08a8505c3b534ffdc104a5ec928b77daa5"), looks := false }, kinds := [], alts := [], laidByText := true, laidKinds := [.data], laidTests := true, laidLooks := .later }
def WordFlipsCardSaid : Prop := Claim7.holds Tryd.pinned (.plain (OpenSpec.ofChange wordFlipsSpec)) wordFlipsCard

/-- THE TIED CARD OF 'gristmillkeep.WordParts'. -/
def wordPartsCard : Claim7 := { stood := { row := wordPartsRow, standIns := [], harness := (true, "284936ec75a6420ca137140e46b2ff08a8505c3b534ffdc104a5ec928b77daa5"), looks := false }, kinds := [], alts := [], laidByText := true, laidKinds := [.data], laidTests := true, laidLooks := .later }
def WordPartsCardSaid : Prop := Claim7.holds Tryd.pinned (.plain (OpenSpec.ofChange wordPartsSpec)) wordPartsCard

/-- THE TIED CARD OF 'gristmillkeep.WordOrder'. -/
def wordOrderCard : Claim7 := { stood := { row := wordOrderRow, standIns := [], harness := (true, "284936ec75a6420ca137140e46b2ff08a8505c3b534ffdc104a5ec928b77daa5"), looks := false }, kinds := [], alts := [], laidByText := true, laidKinds := [.data], laidTests := true, laidLooks := .later }
def WordOrderCardSaid : Prop := Claim7.holds Tryd.pinned (.plain (OpenSpec.ofChange wordOrderSpec)) wordOrderCard

/-- THE TIED CARD OF 'gristmillkeep.WordCuts'. -/
def wordCutsCard : Claim7 := { stood := { row := wordCutsRow, standIns := [], harness := (true, "284936ec75a6420ca137140e46b2ff08a8505c3b534ffdc104a5ec928b77daa5"), looks := false }, kinds := [], alts := [], laidByText := true, laidKinds := [.data], laidTests := true, laidLooks := .later }
def WordCutsCardSaid : Prop := Claim7.holds Tryd.pinned (.plain (OpenSpec.ofChange wordCutsSpec)) wordCutsCard

/-- THE SECOND FORM's CARD OF 'gristmillkeep.WordBack'. -/
def wordBackUptoCard : Claim7 := { stood := { row := wordBackUptoRow, standIns := [], harness := (true, "284936ec75a6420ca137140e46b2ff08a8505c3b534ffdc104a5ec928b77daa5"), looks := false }, kinds := [], alts := [], laidByText := true, laidKinds := [.data], laidTests := true, laidLooks := .later }
def WordBackUptoCardSaid : Prop := Claim7.holds Tryd.pinned (.plain (OpenSpec.upto wordBackSpec)) wordBackUptoCard

/-- THE SECOND FORM's CARD OF 'gristmillkeep.WordSame'. -/
def wordSameUptoCard : Claim7 := { stood := { row := wordSameUptoRow, standIns := [], harness := (true, "284936ec75a6420ca137140e46b2ff08a8505c3b534ffdc104a5ec928b77daa5"), looks := false }, kinds := [], alts := [], laidByText := true, laidKinds := [.data], laidTests := true, laidLooks := .later }
def WordSameUptoCardSaid : Prop := Claim7.holds Tryd.pinned (.plain (OpenSpec.upto wordSameSpec)) wordSameUptoCard

/-- THE SECOND FORM's CARD OF 'gristmillkeep.WordFlips'. -/
def wordFlipsUptoCard : Claim7 := { stood := { row := wordFlipsUptoRow, standIns := [], harness := (true, "284936ec75a6420ca137140e46b2ff08a8505c3b534ffdc104a5ec928b77daa5"), looks := false }, kinds := [], alts := [], laidByText := true, laidKinds := [.data], laidTests := true, laidLooks := .later }
def WordFlipsUptoCardSaid : Prop := Claim7.holds Tryd.pinned (.plain (OpenSpec.upto wordFlipsSpec)) wordFlipsUptoCard

/-- THE SECOND FORM's CARD OF 'gristmillkeep.WordParts'. -/
def wordPartsUptoCard : Claim7 := { stood := { row := wordPartsUptoRow, standIns := [], harness := (true, "284936ec75a6420ca137140e46b2ff08a8505c3b534ffdc104a5ec928b77daa5"), looks := false }, kinds := [], alts := [], laidByText := true, laidKinds := [.data], laidTests := true, laidLooks := .later }
def WordPartsUptoCardSaid : Prop := Claim7.holds Tryd.pinned (.plain (OpenSpec.upto wordPartsSpec)) wordPartsUptoCard

/-- THE SECOND FORM's CARD OF 'gristmillkeep.WordOrder'. -/
def wordOrderUptoCard : Claim7 := { stood := { row := wordOrderUptoRow, standIns := [], harness := (true, "284936ec75a6420ca137140e46b2ff08a8505c3b534ffdc104a5ec928b77daa5"), looks := false }, kinds := [], alts := [], laidByText := true, laidKinds := [.data], laidTests := true, laidLooks := .later }
def WordOrderUptoCardSaid : Prop := Claim7.holds Tryd.pinned (.plain (OpenSpec.upto wordOrderSpec)) wordOrderUptoCard

/-- THE SECOND FORM's CARD OF 'gristmillkeep.WordCuts'. -/
def wordCutsUptoCard : Claim7 := { stood := { row := wordCutsUptoRow, standIns := [], harness := (true, "284936ec75a6420ca137140e46b2ff08a8505c3b534ffdc104a5ec928b77daa5"), looks := false }, kinds := [], alts := [], laidByText := true, laidKinds := [.data], laidTests := true, laidLooks := .later }
def WordCutsUptoCardSaid : Prop := Claim7.holds Tryd.pinned (.plain (OpenSpec.upto wordCutsSpec)) wordCutsUptoCard
end Rows
end Go.Proofs.YtncnoblecnelaaaDoor
