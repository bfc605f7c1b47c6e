/-
  DERIVED. GIVEN WITH THE SEED: THE CARDS: each row of YtacgihekdmoceaaDoorRows.lean that lists a variable, with what it lists TIED to the program's text (the seventh form; the later family's looks); each row that meets fmt, with fmt's text TOLD by the authors' own Lean function (tested against real Go, not proved from fmt's source: count such statements apart). THE CARD IS WHAT COUNTS. Prove the row's statement (the work); the ties are given (YtacgihekdmoceaaDoorTie.lean); close each card by the builder's one call (the guide's Derived/Test/ToyasCard.lean, 'card_holds'). Laid BY PROGRAM, IN A SANDBOX (cutbox-door.mjs). By AI agents, Wed Nov 11 2026. No macro, syntax, notation, axiom, sorry.
-/
import Derived.Test.YtacgihekdmoceaaDoorRows
import GoSem.ClaimSeven
namespace Go.Proofs.YtacgihekdmoceaaDoor
namespace Rows

/-- THE TIED CARD OF 'gristmillkeep.JudgeJoins'. -/
def judgeJoinsCard : Claim7 := { stood := { row := judgeJoinsRow, standIns := [], harness := (true, "b96a936b5f938caab7870994becfa5df8c0731b941f1d81e9b8c3774b19ba2cc"), looks := true }, kinds := [], alts := [], laidByText := true, laidKinds := [.handle], laidTests := true, laidLooks := .later }
def JudgeJoinsCardSaid : Prop := Claim7.holds Tryd.pinned (.plain (OpenSpec.ofChange judgeJoinsSpec)) judgeJoinsCard

/-- THE TIED CARD OF 'gristmillkeep.BatchNone'. -/
def batchNoneCard : Claim7 := { stood := { row := batchNoneRow, standIns := [], harness := (true, "b96a936b5f938caab7870994becfa5df8c0731b941f1d81e9b8c3774b19ba2cc"), looks := true }, kinds := [], alts := [], laidByText := true, laidKinds := [.handle], laidTests := true, laidLooks := .later }
def BatchNoneCardSaid : Prop := Claim7.holds Tryd.pinned (.plain (OpenSpec.ofChange batchNoneSpec)) batchNoneCard

/-- THE TIED CARD OF 'gristmillkeep.BatchOnce'. -/
def batchOnceCard : Claim7 := { stood := { row := batchOnceRow, standIns := [], harness := (true, "b96a936b5f938caab7870994becfa5df8c0731b941f1d81e9b8c3774b19ba2cc"), looks := true }, kinds := [], alts := [], laidByText := true, laidKinds := [.handle], laidTests := true, laidLooks := .later }
def BatchOnceCardSaid : Prop := Claim7.holds Tryd.pinned (.plain (OpenSpec.ofChange batchOnceSpec)) batchOnceCard

/-- THE TIED CARD OF 'gristmillkeep.BatchFolds'. -/
def batchFoldsCard : Claim7 := { stood := { row := batchFoldsRow, standIns := [], harness := (true, "b96a936b5f938caab7870994becfa5df8c0731b941f1d81e9b8c3774b19ba2cc"), looks := true }, kinds := [], alts := [], laidByText := true, laidKinds := [.handle], laidTests := true, laidLooks := .later }
def BatchFoldsCardSaid : Prop := Claim7.holds Tryd.pinned (.plain (OpenSpec.ofChange batchFoldsSpec)) batchFoldsCard

/-- THE TIED CARD OF 'gristmillkeep.BatchClosed'. -/
def batchClosedCard : Claim7 := { stood := { row := batchClosedRow, standIns := [], harness := (true, "b96a936b5f938caab7870994becfa5df8c0731b941f1d81e9b8c3774b19ba2cc"), looks := true }, kinds := [], alts := [], laidByText := true, laidKinds := [.handle], laidTests := true, laidLooks := .later }
def BatchClosedCardSaid : Prop := Claim7.holds Tryd.pinned (.plain (OpenSpec.ofChange batchClosedSpec)) batchClosedCard

/-- THE TIED CARD OF 'gristmillkeep.BatchLegal'. -/
def batchLegalCard : Claim7 := { stood := { row := batchLegalRow, standIns := [], harness := (true, "b96a936b5f938caab7870994becfa5df8c0731b941f1d81e9b8c3774b19ba2cc"), looks := true }, kinds := [], alts := [], laidByText := true, laidKinds := [.handle], laidTests := true, laidLooks := .later }
def BatchLegalCardSaid : Prop := Claim7.holds Tryd.pinned (.plain (OpenSpec.ofChange batchLegalSpec)) batchLegalCard

/-- THE SECOND FORM's CARD OF 'gristmillkeep.JudgeJoins'. -/
def judgeJoinsUptoCard : Claim7 := { stood := { row := judgeJoinsUptoRow, standIns := [], harness := (true, "b96a936b5f938caab7870994becfa5df8c0731b941f1d81e9b8c3774b19ba2cc"), looks := true }, kinds := [], alts := [], laidByText := true, laidKinds := [.handle], laidTests := true, laidLooks := .later }
def JudgeJoinsUptoCardSaid : Prop := Claim7.holds Tryd.pinned (.plain (OpenSpec.upto judgeJoinsSpec)) judgeJoinsUptoCard

/-- THE SECOND FORM's CARD OF 'gristmillkeep.BatchNone'. -/
def batchNoneUptoCard : Claim7 := { stood := { row := batchNoneUptoRow, standIns := [], harness := (true, "b96a936b5f938caab7870994becfa5df8c0731b941f1d81e9b8c3774b19ba2cc"), looks := true }, kinds := [], alts := [], laidByText := true, laidKinds := [.handle], laidTests := true, laidLooks := .later }
def BatchNoneUptoCardSaid : Prop := Claim7.holds Tryd.pinned (.plain (OpenSpec.upto batchNoneSpec)) batchNoneUptoCard

/-- THE SECOND FORM's CARD OF 'gristmillkeep.BatchOnce'. -/
def batchOnceUptoCard : Claim7 := { stood := { row := batchOnceUptoRow, standIns := [], harness := (true, "b96a936b5f938caab7870994becfa5df8c0731b941f1d81e9b8c3774b19ba2cc"), looks := true }, kinds := [], alts := [], laidByText := true, laidKinds := [.handle], laidTests := true, laidLooks := .later }
def BatchOnceUptoCardSaid : Prop := Claim7.holds Tryd.pinned (.plain (OpenSpec.upto batchOnceSpec)) batchOnceUptoCard

/-- THE SECOND FORM's CARD OF 'gristmillkeep.BatchFolds'. -/
def batchFoldsUptoCard : Claim7 := { stood := { row := batchFoldsUptoRow, standIns := [], harness := (true, "b96a936b5f938caab7870994becfa5df8c0731b941f1d81e9b8c3774b19ba2cc"), looks := true }, kinds := [], alts := [], laidByText := true, laidKinds := [.handle], laidTests := true, laidLooks := .later }
def BatchFoldsUptoCardSaid : Prop := Claim7.holds Tryd.pinned (.plain (OpenSpec.upto batchFoldsSpec)) batchFoldsUptoCard

/-- THE SECOND FORM's CARD OF 'gristmillkeep.BatchClosed'. -/
def batchClosedUptoCard : Claim7 := { stood := { row := batchClosedUptoRow, standIns := [], harness := (true, "b96a936b5f938caab7870994becfa5df8c0731b941f1d81e9b8c3774b19ba2cc"), looks := true }, kinds := [], alts := [], laidByText := true, laidKinds := [.handle], laidTests := true, laidLooks := .later }
def BatchClosedUptoCardSaid : Prop := Claim7.holds Tryd.pinned (.plain (OpenSpec.upto batchClosedSpec)) batchClosedUptoCard

/-- THE SECOND FORM's CARD OF 'gristmillkeep.BatchLegal'. -/
def batchLegalUptoCard : Claim7 := { stood := { row := batchLegalUptoRow, standIns := [], harness := (true, "b96a936b5f938caab7870994becfa5df8c0731b941f1d81e9b8c3774b19ba2cc"), looks := true }, kinds := [], alts := [], laidByText := true, laidKinds := [.handle], laidTests := true, laidLooks := .later }
def BatchLegalUptoCardSaid : Prop := Claim7.holds Tryd.pinned (.plain (OpenSpec.upto batchLegalSpec)) batchLegalUptoCard
end Rows
end Go.Proofs.YtacgihekdmoceaaDoor
