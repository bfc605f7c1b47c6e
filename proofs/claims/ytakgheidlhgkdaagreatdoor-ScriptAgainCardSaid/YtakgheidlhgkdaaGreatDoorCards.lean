/-
  DERIVED. GIVEN WITH THE SEED: THE CARDS: each row of YtakgheidlhgkdaaGreatDoorRows.lean that lists a variable, with what it lists TIED to the program's text (the seventh form; the later family's looks); each row that meets fmt, with fmt's text TOLD by the authors' own Lean function (tested against real Go, not proved from fmt's source: count such statements apart). THE CARD IS WHAT COUNTS. Prove the row's statement (the work); the ties are given (YtakgheidlhgkdaaGreatDoorTie.lean); close each card by the builder's one call (the guide's Derived/Test/ToyasCard.lean, 'card_holds'). Laid BY PROGRAM, IN A SANDBOX (cutbox-door.mjs). By AI agents, Wed Nov 11 2026. No macro, syntax, notation, axiom, sorry.
-/
import Derived.Test.YtakgheidlhgkdaaGreatDoorRows
import GoSem.ClaimSeven
namespace Go.Proofs.YtakgheidlhgkdaaGreatDoor
namespace Rows

/-- THE TIED CARD OF 'gristmillkeep.ScriptWhole'. -/
def scriptWholeCard : Claim7 := { stood := { row := scriptWholeRow, standIns := [], harness := (true, "c05dac26dad930a4b05850939696f5cab1bb89c1f96249d3663f2825d225c09f"), looks := true }, kinds := [], alts := [], laidByText := true, laidKinds := [.handle], laidTests := true, laidLooks := .later }
def ScriptWholeCardSaid : Prop := Claim7.holds Tryz.pinned (.plain (OpenSpec.ofChange scriptWholeSpec)) scriptWholeCard

/-- THE TIED CARD OF 'gristmillkeep.ScriptLonger'. -/
def scriptLongerCard : Claim7 := { stood := { row := scriptLongerRow, standIns := [], harness := (true, "c05dac26dad930a4b05850939696f5cab1bb89c1f96249d3663f2825d225c09f"), looks := true }, kinds := [], alts := [], laidByText := true, laidKinds := [.handle], laidTests := true, laidLooks := .later }
def ScriptLongerCardSaid : Prop := Claim7.holds Tryz.pinned (.plain (OpenSpec.ofChange scriptLongerSpec)) scriptLongerCard

/-- THE TIED CARD OF 'gristmillkeep.ScriptAgain'. -/
def scriptAgainCard : Claim7 := { stood := { row := scriptAgainRow, standIns := [], harness := (true, "c05dac26dad930a4b05850939696f5cab1bb89c1f96249d3663f2825d225c09f"), looks := true }, kinds := [], alts := [], laidByText := true, laidKinds := [.handle], laidTests := true, laidLooks := .later }
def ScriptAgainCardSaid : Prop := Claim7.holds Tryz.pinned (.plain (OpenSpec.ofChange scriptAgainSpec)) scriptAgainCard

/-- THE SECOND FORM's CARD OF 'gristmillkeep.ScriptWhole'. -/
def scriptWholeUptoCard : Claim7 := { stood := { row := scriptWholeUptoRow, standIns := [], harness := (true, "c05dac26dad930a4b05850939696f5cab1bb89c1f96249d3663f2825d225c09f"), looks := true }, kinds := [], alts := [], laidByText := true, laidKinds := [.handle], laidTests := true, laidLooks := .later }
def ScriptWholeUptoCardSaid : Prop := Claim7.holds Tryz.pinned (.plain (OpenSpec.upto scriptWholeSpec)) scriptWholeUptoCard

/-- THE SECOND FORM's CARD OF 'gristmillkeep.ScriptLonger'. -/
def scriptLongerUptoCard : Claim7 := { stood := { row := scriptLongerUptoRow, standIns := [], harness := (true, "c05dac26dad930a4b05850939696f5cab1bb89c1f96249d3663f2825d225c09f"), looks := true }, kinds := [], alts := [], laidByText := true, laidKinds := [.handle], laidTests := true, laidLooks := .later }
def ScriptLongerUptoCardSaid : Prop := Claim7.holds Tryz.pinned (.plain (OpenSpec.upto scriptLongerSpec)) scriptLongerUptoCard

/-- THE SECOND FORM's CARD OF 'gristmillkeep.ScriptAgain'. -/
def scriptAgainUptoCard : Claim7 := { stood := { row := scriptAgainUptoRow, standIns := [], harness := (true, "c05dac26dad930a4b05850939696f5cab1bb89c1f96249d3663f2825d225c09f"), looks := true }, kinds := [], alts := [], laidByText := true, laidKinds := [.handle], laidTests := true, laidLooks := .later }
def ScriptAgainUptoCardSaid : Prop := Claim7.holds Tryz.pinned (.plain (OpenSpec.upto scriptAgainSpec)) scriptAgainUptoCard
end Rows
end Go.Proofs.YtakgheidlhgkdaaGreatDoor
