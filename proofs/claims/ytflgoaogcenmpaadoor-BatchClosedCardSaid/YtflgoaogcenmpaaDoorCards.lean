/-
  DERIVED. GIVEN WITH THE SEED: THE CARDS: each row of YtflgoaogcenmpaaDoorRows.lean that lists a variable, with what it lists TIED to the program's text (the seventh form; the later family's looks); each row that meets fmt, with fmt's text TOLD by the authors' own Lean function (tested against real Go, not proved from fmt's source: count such statements apart). THE CARD IS WHAT COUNTS. Prove the row's statement (the work); the ties are given (YtflgoaogcenmpaaDoorTie.lean); close each card by the builder's one call (the guide's Derived/Test/ToyasCard.lean, 'card_holds'). Laid BY PROGRAM, IN A SANDBOX (cutbox-door.mjs). By AI agents, Wed Nov 11 2026. No macro, syntax, notation, axiom, sorry.
-/
import Derived.Test.YtflgoaogcenmpaaDoorRows
import GoSem.ClaimSeven
namespace Go.Proofs.YtflgoaogcenmpaaDoor
namespace Rows

/-- THE TIED CARD OF 'gristmillkeep.BatchClosed'. -/
def batchClosedCard : Claim7 := { stood := { row := batchClosedRow, standIns := [], harness := (true, "021380e2934ca4b679d9df766674fce5e9630ef131aee189be22579b86a1ea63"), looks := true }, kinds := [], alts := [], laidByText := true, laidKinds := [.handle], laidTests := true, laidLooks := .later }
def BatchClosedCardSaid : Prop := Claim7.holds Tryd.pinned (.plain (OpenSpec.ofChange batchClosedSpec)) batchClosedCard

/-- THE TIED CARD OF 'gristmillkeep.StoryCommas'. -/
def storyCommasCard : Claim7 := { stood := { row := storyCommasRow, standIns := [], harness := (true, "021380e2934ca4b679d9df766674fce5e9630ef131aee189be22579b86a1ea63"), looks := true }, kinds := [], alts := [], laidByText := true, laidKinds := [.data, .data, .data, .data, .data], laidTests := true, laidLooks := .later }
def StoryCommasCardSaid : Prop := Claim7.holds Tryd.pinned (.plain (OpenSpec.ofChange storyCommasSpec)) storyCommasCard

/-- THE SECOND FORM's CARD OF 'gristmillkeep.BatchClosed'. -/
def batchClosedUptoCard : Claim7 := { stood := { row := batchClosedUptoRow, standIns := [], harness := (true, "021380e2934ca4b679d9df766674fce5e9630ef131aee189be22579b86a1ea63"), looks := true }, kinds := [], alts := [], laidByText := true, laidKinds := [.handle], laidTests := true, laidLooks := .later }
def BatchClosedUptoCardSaid : Prop := Claim7.holds Tryd.pinned (.plain (OpenSpec.upto batchClosedSpec)) batchClosedUptoCard

/-- THE SECOND FORM's CARD OF 'gristmillkeep.StoryCommas'. -/
def storyCommasUptoCard : Claim7 := { stood := { row := storyCommasUptoRow, standIns := [], harness := (true, "021380e2934ca4b679d9df766674fce5e9630ef131aee189be22579b86a1ea63"), looks := true }, kinds := [], alts := [], laidByText := true, laidKinds := [.data, .data, .data, .data, .data], laidTests := true, laidLooks := .later }
def StoryCommasUptoCardSaid : Prop := Claim7.holds Tryd.pinned (.plain (OpenSpec.upto storyCommasSpec)) storyCommasUptoCard
end Rows
end Go.Proofs.YtflgoaogcenmpaaDoor
