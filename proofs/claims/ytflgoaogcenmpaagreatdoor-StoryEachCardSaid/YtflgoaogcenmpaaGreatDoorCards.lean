/-
  DERIVED. GIVEN WITH THE SEED: THE CARDS: each row of YtflgoaogcenmpaaGreatDoorRows.lean that lists a variable, with what it lists TIED to the program's text (the seventh form; the later family's looks); each row that meets fmt, with fmt's text TOLD by the authors' own Lean function (tested against real Go, not proved from fmt's source: count such statements apart). THE CARD IS WHAT COUNTS. Prove the row's statement (the work); the ties are given (YtflgoaogcenmpaaGreatDoorTie.lean); close each card by the builder's one call (the guide's Derived/Test/ToyasCard.lean, 'card_holds'). Laid BY PROGRAM, IN A SANDBOX (cutbox-door.mjs). By AI agents, Wed Nov 11 2026. No macro, syntax, notation, axiom, sorry.
-/
import Derived.Test.YtflgoaogcenmpaaGreatDoorRows
import GoSem.ClaimSeven
namespace Go.Proofs.YtflgoaogcenmpaaGreatDoor
namespace Rows

/-- THE TIED CARD OF 'gristmillkeep.WorkerAgain'. -/
def workerAgainCard : Claim7 := { stood := { row := workerAgainRow, standIns := [], harness := (true, "7e439a53ac28956cc107674989f3c1f1a1fb78526612c08d4d2d4a7a989bb902"), looks := true }, kinds := [], alts := [], laidByText := true, laidKinds := [.handle], laidTests := true, laidLooks := .later }
def WorkerAgainCardSaid : Prop := Claim7.holds Tryz.pinned (.plain (OpenSpec.ofChange workerAgainSpec)) workerAgainCard

/-- THE TIED CARD OF 'gristmillkeep.WorkerQuiet'. -/
def workerQuietCard : Claim7 := { stood := { row := workerQuietRow, standIns := [], harness := (true, "7e439a53ac28956cc107674989f3c1f1a1fb78526612c08d4d2d4a7a989bb902"), looks := true }, kinds := [], alts := [], laidByText := true, laidKinds := [.handle], laidTests := true, laidLooks := .later }
def WorkerQuietCardSaid : Prop := Claim7.holds Tryz.pinned (.plain (OpenSpec.ofChange workerQuietSpec)) workerQuietCard

/-- THE TIED CARD OF 'gristmillkeep.WorkerLine'. -/
def workerLineCard : Claim7 := { stood := { row := workerLineRow, standIns := [], harness := (true, "7e439a53ac28956cc107674989f3c1f1a1fb78526612c08d4d2d4a7a989bb902"), looks := true }, kinds := [], alts := [], laidByText := true, laidKinds := [.handle], laidTests := true, laidLooks := .later }
def WorkerLineCardSaid : Prop := Claim7.holds Tryz.pinned (.plain (OpenSpec.ofChange workerLineSpec)) workerLineCard

/-- THE TIED CARD OF 'gristmillkeep.StoryEach'. -/
def storyEachCard : Claim7 := { stood := { row := storyEachRow, standIns := [], harness := (true, "7e439a53ac28956cc107674989f3c1f1a1fb78526612c08d4d2d4a7a989bb902"), looks := true }, kinds := [], alts := [], laidByText := true, laidKinds := [.data, .data, .data, .data, .handle, .data, .data, .pinned], laidTests := true, laidLooks := .later }
def StoryEachCardSaid : Prop := Claim7.holds Tryz.pinned (.plain (OpenSpec.ofChange storyEachSpec)) storyEachCard

/-- THE SECOND FORM's CARD OF 'gristmillkeep.WorkerAgain'. -/
def workerAgainUptoCard : Claim7 := { stood := { row := workerAgainUptoRow, standIns := [], harness := (true, "7e439a53ac28956cc107674989f3c1f1a1fb78526612c08d4d2d4a7a989bb902"), looks := true }, kinds := [], alts := [], laidByText := true, laidKinds := [.handle], laidTests := true, laidLooks := .later }
def WorkerAgainUptoCardSaid : Prop := Claim7.holds Tryz.pinned (.plain (OpenSpec.upto workerAgainSpec)) workerAgainUptoCard

/-- THE SECOND FORM's CARD OF 'gristmillkeep.WorkerQuiet'. -/
def workerQuietUptoCard : Claim7 := { stood := { row := workerQuietUptoRow, standIns := [], harness := (true, "7e439a53ac28956cc107674989f3c1f1a1fb78526612c08d4d2d4a7a989bb902"), looks := true }, kinds := [], alts := [], laidByText := true, laidKinds := [.handle], laidTests := true, laidLooks := .later }
def WorkerQuietUptoCardSaid : Prop := Claim7.holds Tryz.pinned (.plain (OpenSpec.upto workerQuietSpec)) workerQuietUptoCard

/-- THE SECOND FORM's CARD OF 'gristmillkeep.WorkerLine'. -/
def workerLineUptoCard : Claim7 := { stood := { row := workerLineUptoRow, standIns := [], harness := (true, "7e439a53ac28956cc107674989f3c1f1a1fb78526612c08d4d2d4a7a989bb902"), looks := true }, kinds := [], alts := [], laidByText := true, laidKinds := [.handle], laidTests := true, laidLooks := .later }
def WorkerLineUptoCardSaid : Prop := Claim7.holds Tryz.pinned (.plain (OpenSpec.upto workerLineSpec)) workerLineUptoCard

/-- THE SECOND FORM's CARD OF 'gristmillkeep.StoryEach'. -/
def storyEachUptoCard : Claim7 := { stood := { row := storyEachUptoRow, standIns := [], harness := (true, "7e439a53ac28956cc107674989f3c1f1a1fb78526612c08d4d2d4a7a989bb902"), looks := true }, kinds := [], alts := [], laidByText := true, laidKinds := [.data, .data, .data, .data, .handle, .data, .data, .pinned], laidTests := true, laidLooks := .later }
def StoryEachUptoCardSaid : Prop := Claim7.holds Tryz.pinned (.plain (OpenSpec.upto storyEachSpec)) storyEachUptoCard
end Rows
end Go.Proofs.YtflgoaogcenmpaaGreatDoor
