/-
  DERIVED. GIVEN WITH THE SEED: THE CARDS: each row of YthenelknbfjpeaaDoorRows.lean that lists a variable, with what it lists TIED to the program's text (the seventh form; the later family's looks); each row that meets fmt, with fmt's text TOLD by the authors' own Lean function (tested against real Go, not proved from fmt's source: count such statements apart). THE CARD IS WHAT COUNTS. Prove the row's statement (the work); the ties are given (YthenelknbfjpeaaDoorTie.lean); close each card by the builder's one call (the guide's Derived/Test/ToyasCard.lean, 'card_holds'). Laid BY PROGRAM, IN A SANDBOX (cutbox-door.mjs). By AI agents, Wed Nov 11 2026. No macro, syntax, notation, axiom, sorry.
-/
import Derived.Test.YthenelknbfjpeaaDoorRows
import GoSem.ClaimSeven
namespace Go.Proofs.YthenelknbfjpeaaDoor
namespace Rows

/-- THE TIED CARD OF 'gristmillkeep.OpApart'. -/
def opApartCard : Claim7 := { stood := { row := opApartRow, standIns := [], harness := (true, "41f614f56cb68567557b3f7ac0072f791dd407ecefd49a273d80fb381bb723d4"), looks := true }, kinds := [], alts := [], laidByText := true, laidKinds := [.data, .data, .data, .sentinel, .sentinel, .data, .data], laidTests := true, laidLooks := .later }
def OpApartCardSaid : Prop := Claim7.holds Tryd.pinned (.plain (OpenSpec.ofChange opApartSpec)) opApartCard

/-- THE TIED CARD OF 'gristmillkeep.OpBack'. -/
def opBackCard : Claim7 := { stood := { row := opBackRow, standIns := [], harness := (true, "41f614f56cb68567557b3f7ac0072f791dd407ecefd49a273d80fb381bb723d4"), looks := true }, kinds := [], alts := [], laidByText := true, laidKinds := [.data, .data, .data, .sentinel, .sentinel, .data, .data], laidTests := true, laidLooks := .later }
def OpBackCardSaid : Prop := Claim7.holds Tryd.pinned (.plain (OpenSpec.ofChange opBackSpec)) opBackCard

/-- THE TIED CARD OF 'gristmillkeep.OpOnly'. -/
def opOnlyCard : Claim7 := { stood := { row := opOnlyRow, standIns := [], harness := (true, "41f614f56cb68567557b3f7ac0072f791dd407ecefd49a273d80fb381bb723d4"), looks := true }, kinds := [], alts := [], laidByText := true, laidKinds := [.data, .data, .data, .sentinel, .sentinel, .data, .data], laidTests := true, laidLooks := .later }
def OpOnlyCardSaid : Prop := Claim7.holds Tryd.pinned (.plain (OpenSpec.ofChange opOnlySpec)) opOnlyCard

/-- THE TIED CARD OF 'gristmillkeep.AnswerBack'. -/
def answerBackCard : Claim7 := { stood := { row := answerBackRow, standIns := [], harness := (true, "41f614f56cb68567557b3f7ac0072f791dd407ecefd49a273d80fb381bb723d4"), looks := true }, kinds := [], alts := [], laidByText := true, laidKinds := [.data, .data, .data, .sentinel, .sentinel, .data, .data], laidTests := true, laidLooks := .later }
def AnswerBackCardSaid : Prop := Claim7.holds Tryd.pinned (.plain (OpenSpec.ofChange answerBackSpec)) answerBackCard

/-- THE SECOND FORM's CARD OF 'gristmillkeep.OpApart'. -/
def opApartUptoCard : Claim7 := { stood := { row := opApartUptoRow, standIns := [], harness := (true, "41f614f56cb68567557b3f7ac0072f791dd407ecefd49a273d80fb381bb723d4"), looks := true }, kinds := [], alts := [], laidByText := true, laidKinds := [.data, .data, .data, .sentinel, .sentinel, .data, .data], laidTests := true, laidLooks := .later }
def OpApartUptoCardSaid : Prop := Claim7.holds Tryd.pinned (.plain (OpenSpec.upto opApartSpec)) opApartUptoCard

/-- THE SECOND FORM's CARD OF 'gristmillkeep.OpBack'. -/
def opBackUptoCard : Claim7 := { stood := { row := opBackUptoRow, standIns := [], harness := (true, "41f614f56cb68567557b3f7ac0072f791dd407ecefd49a273d80fb381bb723d4"), looks := true }, kinds := [], alts := [], laidByText := true, laidKinds := [.data, .data, .data, .sentinel, .sentinel, .data, .data], laidTests := true, laidLooks := .later }
def OpBackUptoCardSaid : Prop := Claim7.holds Tryd.pinned (.plain (OpenSpec.upto opBackSpec)) opBackUptoCard

/-- THE SECOND FORM's CARD OF 'gristmillkeep.OpOnly'. -/
def opOnlyUptoCard : Claim7 := { stood := { row := opOnlyUptoRow, standIns := [], harness := (true, "41f614f56cb68567557b3f7ac0072f791dd407ecefd49a273d80fb381bb723d4"), looks := true }, kinds := [], alts := [], laidByText := true, laidKinds := [.data, .data, .data, .sentinel, .sentinel, .data, .data], laidTests := true, laidLooks := .later }
def OpOnlyUptoCardSaid : Prop := Claim7.holds Tryd.pinned (.plain (OpenSpec.upto opOnlySpec)) opOnlyUptoCard

/-- THE SECOND FORM's CARD OF 'gristmillkeep.AnswerBack'. -/
def answerBackUptoCard : Claim7 := { stood := { row := answerBackUptoRow, standIns := [], harness := (true, "41f614f56cb68567557b3f7ac0072f791dd407ecefd49a273d80fb381bb723d4"), looks := true }, kinds := [], alts := [], laidByText := true, laidKinds := [.data, .data, .data, .sentinel, .sentinel, .data, .data], laidTests := true, laidLooks := .later }
def AnswerBackUptoCardSaid : Prop := Claim7.holds Tryd.pinned (.plain (OpenSpec.upto answerBackSpec)) answerBackUptoCard
end Rows
end Go.Proofs.YthenelknbfjpeaaDoor
