/-
  DERIVED. GIVEN WITH THE SEED: THE CARDS: each row of YtlafaaeecnifcaaGreatDoorRows.lean that lists a variable, with what it lists TIED to the program's text (the seventh form; the later family's looks); each row that meets fmt, with fmt's text TOLD by the authors' own Lean function (tested against real Go, not proved from fmt's source: count such statements apart). THE CARD IS WHAT COUNTS. Prove the row's statement (the work); the ties are given (YtlafaaeecnifcaaGreatDoorTie.lean); close each card by the builder's one call (the guide's Derived/Test/ToyasCard.lean, 'card_holds'). Laid BY PROGRAM, IN A SANDBOX (cutbox-door.mjs). By AI agents, Wed Nov 11 2026. No macro, syntax, notation, axiom, sorry.
-/
import Derived.Test.YtlafaaeecnifcaaGreatDoorRows
import GoSem.ClaimSeven
namespace Go.Proofs.YtlafaaeecnifcaaGreatDoor
namespace Rows

/-- THE TIED CARD OF 'gristmillkeep.JudgeBent'. -/
def judgeBentCard : Claim7 := { stood := { row := judgeBentRow, standIns := [], harness := (true, "6529b0df6f626347cceba5cd204403acce110151f0ecb33e83d74e8fe29a064e"), looks := true }, kinds := [], alts := [], laidByText := true, laidKinds := [.handle], laidTests := true, laidLooks := .later }
def JudgeBentCardSaid : Prop := Claim7.holds Tryz.pinned (.plain (OpenSpec.ofChange judgeBentSpec)) judgeBentCard

/-- THE TIED CARD OF 'gristmillkeep.JudgeMissing'. -/
def judgeMissingCard : Claim7 := { stood := { row := judgeMissingRow, standIns := [], harness := (true, "6529b0df6f626347cceba5cd204403acce110151f0ecb33e83d74e8fe29a064e"), looks := true }, kinds := [], alts := [], laidByText := true, laidKinds := [.handle], laidTests := true, laidLooks := .later }
def JudgeMissingCardSaid : Prop := Claim7.holds Tryz.pinned (.plain (OpenSpec.ofChange judgeMissingSpec)) judgeMissingCard

/-- THE SECOND FORM's CARD OF 'gristmillkeep.JudgeBent'. -/
def judgeBentUptoCard : Claim7 := { stood := { row := judgeBentUptoRow, standIns := [], harness := (true, "6529b0df6f626347cceba5cd204403acce110151f0ecb33e83d74e8fe29a064e"), looks := true }, kinds := [], alts := [], laidByText := true, laidKinds := [.handle], laidTests := true, laidLooks := .later }
def JudgeBentUptoCardSaid : Prop := Claim7.holds Tryz.pinned (.plain (OpenSpec.upto judgeBentSpec)) judgeBentUptoCard

/-- THE SECOND FORM's CARD OF 'gristmillkeep.JudgeMissing'. -/
def judgeMissingUptoCard : Claim7 := { stood := { row := judgeMissingUptoRow, standIns := [], harness := (true, "6529b0df6f626347cceba5cd204403acce110151f0ecb33e83d74e8fe29a064e"), looks := true }, kinds := [], alts := [], laidByText := true, laidKinds := [.handle], laidTests := true, laidLooks := .later }
def JudgeMissingUptoCardSaid : Prop := Claim7.holds Tryz.pinned (.plain (OpenSpec.upto judgeMissingSpec)) judgeMissingUptoCard
end Rows
end Go.Proofs.YtlafaaeecnifcaaGreatDoor
