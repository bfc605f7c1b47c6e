/-
  NARROWER THAN 'FOR EVERY INPUT', by the rows' own cells (each row's printed sentence says how): ShopClock: laid · ShopAlone: laid · ShopHelped: laid · ShopPrices: laid · ShopPace: laid · ShopWaits: laid · ShopQuiet: laid · ShopLater: laid · ShopLegal: laid · ShopSurvives: laid · JudgeCut: laid · ShopGoes: laid.
  DERIVED. THE GIVEN ROWS OF THIS SEAT. 12 by the template 'for every input the law returns true; each argument reads behind the call as it read before'; 0 by the template 'total and deterministic' (their statements: YtinijfhoenajkaaGreatDoorTotals.lean).
  GIVEN WITH THE SEED: the statements are not yours to turn. If you find one false, say at which input.
  Laid BY PROGRAM, IN A SANDBOX (cutbox-rows.mjs): the forced cells as the released guide's own fill.sh prints them over the translation ff42f58715c55847… (all of the seat's roots in one cut). By AI agents, Wed Nov 11 2026. No macro, syntax, notation, axiom, sorry.
-/
import Derived.Test.YtinijfhoenajkaaGreatDoorChecked
import GoSem.Claim
import GoSem.ClaimJoined
import GoSem.ClaimMapViews
import Derived.JoinedTies
import Derived.KernelRfl
namespace Go.Proofs.YtinijfhoenajkaaGreatDoor
/- THE CELL 'sum', in the pinned program and in every row, IS THE sha256 OF THE DUMP (.gsa) THAT YtinijfhoenajkaaGreatDoorProg.lean LOADS. Nothing in Lean hashes anything: it is a label: what it is worth is what the hold of that sum in a sandbox is worth. -/
noncomputable def Tryz.pinned : Pinned := { name := "ytinijfhoenajkaagreatdoor", sum := "ff42f58715c5584716553b3de238a9de345366c0334f051208d318c1600888bb", checked := Tryz.checked }
namespace Rows
def none {H : Type} : Left H := { results := [], args := [] }

/- WHAT THE LISTED PACKAGE-LEVEL VARIABLES READ AS WHEN THE CALL BEGINS. Each datum BY PROGRAM (the guide's laid-datum.mjs) off the statement by which the dump's own 'gosem.cut.vars' lays the variable. In a bare row this is a premise. The card (YtinijfhoenajkaaGreatDoorCards.lean) ties it to the program's text. -/
def laid_errors_errorType {H : Type} : DataW H := .iface "internal/reflectlite.rtype" (.agg [.ptr (.lit (.string [101, 114, 114, 111, 114]))])

/-- 'gristmillkeep.ShopClock': WHATEVER THE INPUT: true; the input reads as it did. -/
def shopClockSpec : ChangeSpec := { name := "shopClock", fn := fun _ => fun
  | [d1, d2] => { results := [.lit (.bool true)], args := [d1, d2] }
  | _ => none }
def shopClockRow : OpenClaim := { program := "ytinijfhoenajkaagreatdoor", sum := "ff42f58715c5584716553b3de238a9de345366c0334f051208d318c1600888bb", func := "gristmill/gristmillkeep.ShopClock", spec := "shopClock", inPlace := ["internal/reflectlite.ValueOf", "(internal/reflectlite.Value).Type", "(internal/reflectlite.Value).IsNil", "internal/reflectlite.TypeOf", "(internal/reflectlite.Value).Elem", "(internal/reflectlite.Value).Set", "slices.overlaps[int]"], unfollowed := true, recurses := true, named := ["errors.errorType"], apart := false, laid := [("errors.errorType", laid_errors_errorType)] }
def ShopClockSaid : Prop := shopClockRow.holds Tryz.pinned (OpenSpec.ofChange shopClockSpec)

/-- ITS FALSE NEIGHBOUR: 'it returns false'. Refute it at one input. -/
def shopClockWrong : ChangeSpec := { name := "shopClock", fn := fun _ => fun
  | [d1, d2] => { results := [.lit (.bool false)], args := [d1, d2] }
  | _ => none }
def ShopClockWrongFalsely : Prop := shopClockRow.holds Tryz.pinned (OpenSpec.ofChange shopClockWrong)

/-- 'gristmillkeep.ShopAlone': WHATEVER THE INPUT: true; the input reads as it did. -/
def shopAloneSpec : ChangeSpec := { name := "shopAlone", fn := fun _ => fun
  | [d1, d2, d3, d4] => { results := [.lit (.bool true)], args := [d1, d2, d3, d4] }
  | _ => none }
def shopAloneRow : OpenClaim := { program := "ytinijfhoenajkaagreatdoor", sum := "ff42f58715c5584716553b3de238a9de345366c0334f051208d318c1600888bb", func := "gristmill/gristmillkeep.ShopAlone", spec := "shopAlone", inPlace := ["internal/reflectlite.ValueOf", "(internal/reflectlite.Value).Type", "(internal/reflectlite.Value).IsNil", "internal/reflectlite.TypeOf", "(internal/reflectlite.Value).Elem", "(internal/reflectlite.Value).Set", "slices.overlaps[int]"], unfollowed := true, recurses := true, named := ["errors.errorType"], apart := false, laid := [("errors.errorType", laid_errors_errorType)] }
def ShopAloneSaid : Prop := shopAloneRow.holds Tryz.pinned (OpenSpec.ofChange shopAloneSpec)

/-- ITS FALSE NEIGHBOUR: 'it returns false'. Refute it at one input. -/
def shopAloneWrong : ChangeSpec := { name := "shopAlone", fn := fun _ => fun
  | [d1, d2, d3, d4] => { results := [.lit (.bool false)], args := [d1, d2, d3, d4] }
  | _ => none }
def ShopAloneWrongFalsely : Prop := shopAloneRow.holds Tryz.pinned (OpenSpec.ofChange shopAloneWrong)

/-- 'gristmillkeep.ShopHelped': WHATEVER THE INPUT: true; the input reads as it did. -/
def shopHelpedSpec : ChangeSpec := { name := "shopHelped", fn := fun _ => fun
  | [d1, d2, d3, d4, d5, d6] => { results := [.lit (.bool true)], args := [d1, d2, d3, d4, d5, d6] }
  | _ => none }
def shopHelpedRow : OpenClaim := { program := "ytinijfhoenajkaagreatdoor", sum := "ff42f58715c5584716553b3de238a9de345366c0334f051208d318c1600888bb", func := "gristmill/gristmillkeep.ShopHelped", spec := "shopHelped", inPlace := ["internal/reflectlite.ValueOf", "(internal/reflectlite.Value).Type", "(internal/reflectlite.Value).IsNil", "internal/reflectlite.TypeOf", "(internal/reflectlite.Value).Elem", "(internal/reflectlite.Value).Set", "slices.overlaps[int]"], unfollowed := true, recurses := true, named := ["errors.errorType"], apart := false, laid := [("errors.errorType", laid_errors_errorType)] }
def ShopHelpedSaid : Prop := shopHelpedRow.holds Tryz.pinned (OpenSpec.ofChange shopHelpedSpec)

/-- ITS FALSE NEIGHBOUR: 'it returns false'. Refute it at one input. -/
def shopHelpedWrong : ChangeSpec := { name := "shopHelped", fn := fun _ => fun
  | [d1, d2, d3, d4, d5, d6] => { results := [.lit (.bool false)], args := [d1, d2, d3, d4, d5, d6] }
  | _ => none }
def ShopHelpedWrongFalsely : Prop := shopHelpedRow.holds Tryz.pinned (OpenSpec.ofChange shopHelpedWrong)

/-- 'gristmillkeep.ShopPrices': WHATEVER THE INPUT: true; the input reads as it did. -/
def shopPricesSpec : ChangeSpec := { name := "shopPrices", fn := fun _ => fun
  | [d1, d2] => { results := [.lit (.bool true)], args := [d1, d2] }
  | _ => none }
def shopPricesRow : OpenClaim := { program := "ytinijfhoenajkaagreatdoor", sum := "ff42f58715c5584716553b3de238a9de345366c0334f051208d318c1600888bb", func := "gristmill/gristmillkeep.ShopPrices", spec := "shopPrices", inPlace := ["internal/reflectlite.ValueOf", "(internal/reflectlite.Value).Type", "(internal/reflectlite.Value).IsNil", "internal/reflectlite.TypeOf", "(internal/reflectlite.Value).Elem", "(internal/reflectlite.Value).Set", "slices.overlaps[int]"], unfollowed := true, recurses := true, named := ["errors.errorType"], apart := false, laid := [("errors.errorType", laid_errors_errorType)] }
def ShopPricesSaid : Prop := shopPricesRow.holds Tryz.pinned (OpenSpec.ofChange shopPricesSpec)

/-- ITS FALSE NEIGHBOUR: 'it returns false'. Refute it at one input. -/
def shopPricesWrong : ChangeSpec := { name := "shopPrices", fn := fun _ => fun
  | [d1, d2] => { results := [.lit (.bool false)], args := [d1, d2] }
  | _ => none }
def ShopPricesWrongFalsely : Prop := shopPricesRow.holds Tryz.pinned (OpenSpec.ofChange shopPricesWrong)

/-- 'gristmillkeep.ShopPace': WHATEVER THE INPUT: true; the input reads as it did. -/
def shopPaceSpec : ChangeSpec := { name := "shopPace", fn := fun _ => fun
  | [d1, d2, d3, d4] => { results := [.lit (.bool true)], args := [d1, d2, d3, d4] }
  | _ => none }
def shopPaceRow : OpenClaim := { program := "ytinijfhoenajkaagreatdoor", sum := "ff42f58715c5584716553b3de238a9de345366c0334f051208d318c1600888bb", func := "gristmill/gristmillkeep.ShopPace", spec := "shopPace", inPlace := ["internal/reflectlite.ValueOf", "(internal/reflectlite.Value).Type", "(internal/reflectlite.Value).IsNil", "internal/reflectlite.TypeOf", "(internal/reflectlite.Value).Elem", "(internal/reflectlite.Value).Set", "slices.overlaps[int]"], unfollowed := true, recurses := true, named := ["errors.errorType"], apart := false, laid := [("errors.errorType", laid_errors_errorType)] }
def ShopPaceSaid : Prop := shopPaceRow.holds Tryz.pinned (OpenSpec.ofChange shopPaceSpec)

/-- ITS FALSE NEIGHBOUR: 'it returns false'. Refute it at one input. -/
def shopPaceWrong : ChangeSpec := { name := "shopPace", fn := fun _ => fun
  | [d1, d2, d3, d4] => { results := [.lit (.bool false)], args := [d1, d2, d3, d4] }
  | _ => none }
def ShopPaceWrongFalsely : Prop := shopPaceRow.holds Tryz.pinned (OpenSpec.ofChange shopPaceWrong)

/-- 'gristmillkeep.ShopWaits': WHATEVER THE INPUT: true; the input reads as it did. -/
def shopWaitsSpec : ChangeSpec := { name := "shopWaits", fn := fun _ => fun
  | [d1, d2, d3, d4] => { results := [.lit (.bool true)], args := [d1, d2, d3, d4] }
  | _ => none }
def shopWaitsRow : OpenClaim := { program := "ytinijfhoenajkaagreatdoor", sum := "ff42f58715c5584716553b3de238a9de345366c0334f051208d318c1600888bb", func := "gristmill/gristmillkeep.ShopWaits", spec := "shopWaits", inPlace := ["internal/reflectlite.ValueOf", "(internal/reflectlite.Value).Type", "(internal/reflectlite.Value).IsNil", "internal/reflectlite.TypeOf", "(internal/reflectlite.Value).Elem", "(internal/reflectlite.Value).Set", "slices.overlaps[int]"], unfollowed := true, recurses := true, named := ["errors.errorType"], apart := false, laid := [("errors.errorType", laid_errors_errorType)] }
def ShopWaitsSaid : Prop := shopWaitsRow.holds Tryz.pinned (OpenSpec.ofChange shopWaitsSpec)

/-- ITS FALSE NEIGHBOUR: 'it returns false'. Refute it at one input. -/
def shopWaitsWrong : ChangeSpec := { name := "shopWaits", fn := fun _ => fun
  | [d1, d2, d3, d4] => { results := [.lit (.bool false)], args := [d1, d2, d3, d4] }
  | _ => none }
def ShopWaitsWrongFalsely : Prop := shopWaitsRow.holds Tryz.pinned (OpenSpec.ofChange shopWaitsWrong)

/-- 'gristmillkeep.ShopQuiet': WHATEVER THE INPUT: true; the input reads as it did. -/
def shopQuietSpec : ChangeSpec := { name := "shopQuiet", fn := fun _ => fun
  | [d1, d2] => { results := [.lit (.bool true)], args := [d1, d2] }
  | _ => none }
def shopQuietRow : OpenClaim := { program := "ytinijfhoenajkaagreatdoor", sum := "ff42f58715c5584716553b3de238a9de345366c0334f051208d318c1600888bb", func := "gristmill/gristmillkeep.ShopQuiet", spec := "shopQuiet", inPlace := ["internal/reflectlite.ValueOf", "(internal/reflectlite.Value).Type", "(internal/reflectlite.Value).IsNil", "internal/reflectlite.TypeOf", "(internal/reflectlite.Value).Elem", "(internal/reflectlite.Value).Set", "slices.overlaps[int]"], unfollowed := true, recurses := true, named := ["errors.errorType"], apart := false, laid := [("errors.errorType", laid_errors_errorType)] }
def ShopQuietSaid : Prop := shopQuietRow.holds Tryz.pinned (OpenSpec.ofChange shopQuietSpec)

/-- ITS FALSE NEIGHBOUR: 'it returns false'. Refute it at one input. -/
def shopQuietWrong : ChangeSpec := { name := "shopQuiet", fn := fun _ => fun
  | [d1, d2] => { results := [.lit (.bool false)], args := [d1, d2] }
  | _ => none }
def ShopQuietWrongFalsely : Prop := shopQuietRow.holds Tryz.pinned (OpenSpec.ofChange shopQuietWrong)

/-- 'gristmillkeep.ShopLater': WHATEVER THE INPUT: true; the input reads as it did. -/
def shopLaterSpec : ChangeSpec := { name := "shopLater", fn := fun _ => fun
  | [d1, d2, d3] => { results := [.lit (.bool true)], args := [d1, d2, d3] }
  | _ => none }
def shopLaterRow : OpenClaim := { program := "ytinijfhoenajkaagreatdoor", sum := "ff42f58715c5584716553b3de238a9de345366c0334f051208d318c1600888bb", func := "gristmill/gristmillkeep.ShopLater", spec := "shopLater", inPlace := ["internal/reflectlite.ValueOf", "(internal/reflectlite.Value).Type", "(internal/reflectlite.Value).IsNil", "internal/reflectlite.TypeOf", "(internal/reflectlite.Value).Elem", "(internal/reflectlite.Value).Set", "slices.overlaps[int]"], unfollowed := true, recurses := true, named := ["errors.errorType"], apart := false, laid := [("errors.errorType", laid_errors_errorType)] }
def ShopLaterSaid : Prop := shopLaterRow.holds Tryz.pinned (OpenSpec.ofChange shopLaterSpec)

/-- ITS FALSE NEIGHBOUR: 'it returns false'. Refute it at one input. -/
def shopLaterWrong : ChangeSpec := { name := "shopLater", fn := fun _ => fun
  | [d1, d2, d3] => { results := [.lit (.bool false)], args := [d1, d2, d3] }
  | _ => none }
def ShopLaterWrongFalsely : Prop := shopLaterRow.holds Tryz.pinned (OpenSpec.ofChange shopLaterWrong)

/-- 'gristmillkeep.ShopLegal': WHATEVER THE INPUT: true; the input reads as it did. -/
def shopLegalSpec : ChangeSpec := { name := "shopLegal", fn := fun _ => fun
  | [d1, d2] => { results := [.lit (.bool true)], args := [d1, d2] }
  | _ => none }
def shopLegalRow : OpenClaim := { program := "ytinijfhoenajkaagreatdoor", sum := "ff42f58715c5584716553b3de238a9de345366c0334f051208d318c1600888bb", func := "gristmill/gristmillkeep.ShopLegal", spec := "shopLegal", inPlace := ["internal/reflectlite.ValueOf", "(internal/reflectlite.Value).Type", "(internal/reflectlite.Value).IsNil", "internal/reflectlite.TypeOf", "(internal/reflectlite.Value).Elem", "(internal/reflectlite.Value).Set", "slices.overlaps[int]"], unfollowed := true, recurses := true, named := ["errors.errorType"], apart := false, laid := [("errors.errorType", laid_errors_errorType)] }
def ShopLegalSaid : Prop := shopLegalRow.holds Tryz.pinned (OpenSpec.ofChange shopLegalSpec)

/-- ITS FALSE NEIGHBOUR: 'it returns false'. Refute it at one input. -/
def shopLegalWrong : ChangeSpec := { name := "shopLegal", fn := fun _ => fun
  | [d1, d2] => { results := [.lit (.bool false)], args := [d1, d2] }
  | _ => none }
def ShopLegalWrongFalsely : Prop := shopLegalRow.holds Tryz.pinned (OpenSpec.ofChange shopLegalWrong)

/-- 'gristmillkeep.ShopSurvives': WHATEVER THE INPUT: true; the input reads as it did. -/
def shopSurvivesSpec : ChangeSpec := { name := "shopSurvives", fn := fun _ => fun
  | [d1, d2, d3] => { results := [.lit (.bool true)], args := [d1, d2, d3] }
  | _ => none }
def shopSurvivesRow : OpenClaim := { program := "ytinijfhoenajkaagreatdoor", sum := "ff42f58715c5584716553b3de238a9de345366c0334f051208d318c1600888bb", func := "gristmill/gristmillkeep.ShopSurvives", spec := "shopSurvives", inPlace := ["internal/reflectlite.ValueOf", "(internal/reflectlite.Value).Type", "(internal/reflectlite.Value).IsNil", "internal/reflectlite.TypeOf", "(internal/reflectlite.Value).Elem", "(internal/reflectlite.Value).Set", "slices.overlaps[int]"], unfollowed := true, recurses := true, named := ["errors.errorType"], apart := false, laid := [("errors.errorType", laid_errors_errorType)] }
def ShopSurvivesSaid : Prop := shopSurvivesRow.holds Tryz.pinned (OpenSpec.ofChange shopSurvivesSpec)

/-- ITS FALSE NEIGHBOUR: 'it returns false'. Refute it at one input. -/
def shopSurvivesWrong : ChangeSpec := { name := "shopSurvives", fn := fun _ => fun
  | [d1, d2, d3] => { results := [.lit (.bool false)], args := [d1, d2, d3] }
  | _ => none }
def ShopSurvivesWrongFalsely : Prop := shopSurvivesRow.holds Tryz.pinned (OpenSpec.ofChange shopSurvivesWrong)

/-- 'gristmillkeep.JudgeCut': WHATEVER THE INPUT: true; the input reads as it did. -/
def judgeCutSpec : ChangeSpec := { name := "judgeCut", fn := fun _ => fun
  | [d1, d2, d3] => { results := [.lit (.bool true)], args := [d1, d2, d3] }
  | _ => none }
def judgeCutRow : OpenClaim := { program := "ytinijfhoenajkaagreatdoor", sum := "ff42f58715c5584716553b3de238a9de345366c0334f051208d318c1600888bb", func := "gristmill/gristmillkeep.JudgeCut", spec := "judgeCut", inPlace := ["internal/reflectlite.ValueOf", "(internal/reflectlite.Value).Type", "(internal/reflectlite.Value).IsNil", "internal/reflectlite.TypeOf", "(internal/reflectlite.Value).Elem", "(internal/reflectlite.Value).Set", "slices.overlaps[int]"], unfollowed := true, recurses := true, named := ["errors.errorType"], apart := false, laid := [("errors.errorType", laid_errors_errorType)] }
def JudgeCutSaid : Prop := judgeCutRow.holds Tryz.pinned (OpenSpec.ofChange judgeCutSpec)

/-- ITS FALSE NEIGHBOUR: 'it returns false'. Refute it at one input. -/
def judgeCutWrong : ChangeSpec := { name := "judgeCut", fn := fun _ => fun
  | [d1, d2, d3] => { results := [.lit (.bool false)], args := [d1, d2, d3] }
  | _ => none }
def JudgeCutWrongFalsely : Prop := judgeCutRow.holds Tryz.pinned (OpenSpec.ofChange judgeCutWrong)

/-- 'gristmillkeep.ShopGoes': WHATEVER THE INPUT: true; the input reads as it did. -/
def shopGoesSpec : ChangeSpec := { name := "shopGoes", fn := fun _ => fun
  | [d1, d2, d3] => { results := [.lit (.bool true)], args := [d1, d2, d3] }
  | _ => none }
def shopGoesRow : OpenClaim := { program := "ytinijfhoenajkaagreatdoor", sum := "ff42f58715c5584716553b3de238a9de345366c0334f051208d318c1600888bb", func := "gristmill/gristmillkeep.ShopGoes", spec := "shopGoes", inPlace := ["internal/reflectlite.ValueOf", "(internal/reflectlite.Value).Type", "(internal/reflectlite.Value).IsNil", "internal/reflectlite.TypeOf", "(internal/reflectlite.Value).Elem", "(internal/reflectlite.Value).Set", "slices.overlaps[int]"], unfollowed := true, recurses := true, named := ["errors.errorType"], apart := false, laid := [("errors.errorType", laid_errors_errorType)] }
def ShopGoesSaid : Prop := shopGoesRow.holds Tryz.pinned (OpenSpec.ofChange shopGoesSpec)

/-- ITS FALSE NEIGHBOUR: 'it returns false'. Refute it at one input. -/
def shopGoesWrong : ChangeSpec := { name := "shopGoes", fn := fun _ => fun
  | [d1, d2, d3] => { results := [.lit (.bool false)], args := [d1, d2, d3] }
  | _ => none }
def ShopGoesWrongFalsely : Prop := shopGoesRow.holds Tryz.pinned (OpenSpec.ofChange shopGoesWrong)

/- THE SECOND FORM. 'bulk': how many values and letters a reading holds, each counted each time it is reached (what is shared counts as often as it is met; a slice's spare places count too). A statement '..UptoSaid' is the law's where the arguments, and the package variables that the reading takes, are together of bulk at most 1048576: NARROWER than '..Said'. Prove '..Said' where nothing that the law and all that it calls make is longer than what came in: it says more and counts as full. Else prove '..UptoSaid'. A law counts once. -/
mutual
def uptoBulk {H : Type} : DataW H → Nat
  | .lit (.string bytes) => bytes.length + 1
  | .lit _ => 1
  | .nil => 1
  | .ptr d => uptoBulk d + 1
  | .slice elems spare => uptoBulkAll elems + uptoBulkAll spare + 1
  | .agg parts => uptoBulkAll parts + 1
  | .iface _ d => uptoBulk d + 1
  | .map entries => uptoBulkEntries entries + 1
  | .held _ => 1
def uptoBulkAll {H : Type} : List (DataW H) → Nat
  | [] => 0
  | d :: r => uptoBulk d + uptoBulkAll r
def uptoBulkEntries {H : Type} : List (Lit × DataW H) → Nat
  | [] => 0
  | x :: r => uptoBulkEntry x + uptoBulkEntries r
def uptoBulkEntry {H : Type} : Lit × DataW H → Nat
  | (.string bytes, d) => bytes.length + uptoBulk d + 1
  | (_, d) => uptoBulk d + 1
 end
def uptoSmall : (H : Type) → List (DataW H) → Bool := fun _ ds => decide (uptoBulkAll ds ≤ 1048576)
def OpenSpec.upto (s : _root_.Go.ChangeSpec) : _root_.Go.OpenSpec := { _root_.Go.OpenSpec.ofChange s with cond := some uptoSmall }

/-- 'gristmillkeep.ShopClock', WHERE WHAT IT READS IS OF BULK AT MOST 1048576: true; the input reads as it did. -/
def shopClockUptoRow : OpenClaim := { program := "ytinijfhoenajkaagreatdoor", sum := "ff42f58715c5584716553b3de238a9de345366c0334f051208d318c1600888bb", func := "gristmill/gristmillkeep.ShopClock", spec := "shopClock", inPlace := ["internal/reflectlite.ValueOf", "(internal/reflectlite.Value).Type", "(internal/reflectlite.Value).IsNil", "internal/reflectlite.TypeOf", "(internal/reflectlite.Value).Elem", "(internal/reflectlite.Value).Set", "slices.overlaps[int]"], unfollowed := true, recurses := true, named := ["errors.errorType"], apart := false, laid := [("errors.errorType", laid_errors_errorType)], narrowed := true }
def ShopClockUptoSaid : Prop := shopClockUptoRow.holds Tryz.pinned (OpenSpec.upto shopClockSpec)

/-- 'gristmillkeep.ShopAlone', WHERE WHAT IT READS IS OF BULK AT MOST 1048576: true; the input reads as it did. -/
def shopAloneUptoRow : OpenClaim := { program := "ytinijfhoenajkaagreatdoor", sum := "ff42f58715c5584716553b3de238a9de345366c0334f051208d318c1600888bb", func := "gristmill/gristmillkeep.ShopAlone", spec := "shopAlone", inPlace := ["internal/reflectlite.ValueOf", "(internal/reflectlite.Value).Type", "(internal/reflectlite.Value).IsNil", "internal/reflectlite.TypeOf", "(internal/reflectlite.Value).Elem", "(internal/reflectlite.Value).Set", "slices.overlaps[int]"], unfollowed := true, recurses := true, named := ["errors.errorType"], apart := false, laid := [("errors.errorType", laid_errors_errorType)], narrowed := true }
def ShopAloneUptoSaid : Prop := shopAloneUptoRow.holds Tryz.pinned (OpenSpec.upto shopAloneSpec)

/-- 'gristmillkeep.ShopHelped', WHERE WHAT IT READS IS OF BULK AT MOST 1048576: true; the input reads as it did. -/
def shopHelpedUptoRow : OpenClaim := { program := "ytinijfhoenajkaagreatdoor", sum := "ff42f58715c5584716553b3de238a9de345366c0334f051208d318c1600888bb", func := "gristmill/gristmillkeep.ShopHelped", spec := "shopHelped", inPlace := ["internal/reflectlite.ValueOf", "(internal/reflectlite.Value).Type", "(internal/reflectlite.Value).IsNil", "internal/reflectlite.TypeOf", "(internal/reflectlite.Value).Elem", "(internal/reflectlite.Value).Set", "slices.overlaps[int]"], unfollowed := true, recurses := true, named := ["errors.errorType"], apart := false, laid := [("errors.errorType", laid_errors_errorType)], narrowed := true }
def ShopHelpedUptoSaid : Prop := shopHelpedUptoRow.holds Tryz.pinned (OpenSpec.upto shopHelpedSpec)

/-- 'gristmillkeep.ShopPrices', WHERE WHAT IT READS IS OF BULK AT MOST 1048576: true; the input reads as it did. -/
def shopPricesUptoRow : OpenClaim := { program := "ytinijfhoenajkaagreatdoor", sum := "ff42f58715c5584716553b3de238a9de345366c0334f051208d318c1600888bb", func := "gristmill/gristmillkeep.ShopPrices", spec := "shopPrices", inPlace := ["internal/reflectlite.ValueOf", "(internal/reflectlite.Value).Type", "(internal/reflectlite.Value).IsNil", "internal/reflectlite.TypeOf", "(internal/reflectlite.Value).Elem", "(internal/reflectlite.Value).Set", "slices.overlaps[int]"], unfollowed := true, recurses := true, named := ["errors.errorType"], apart := false, laid := [("errors.errorType", laid_errors_errorType)], narrowed := true }
def ShopPricesUptoSaid : Prop := shopPricesUptoRow.holds Tryz.pinned (OpenSpec.upto shopPricesSpec)

/-- 'gristmillkeep.ShopPace', WHERE WHAT IT READS IS OF BULK AT MOST 1048576: true; the input reads as it did. -/
def shopPaceUptoRow : OpenClaim := { program := "ytinijfhoenajkaagreatdoor", sum := "ff42f58715c5584716553b3de238a9de345366c0334f051208d318c1600888bb", func := "gristmill/gristmillkeep.ShopPace", spec := "shopPace", inPlace := ["internal/reflectlite.ValueOf", "(internal/reflectlite.Value).Type", "(internal/reflectlite.Value).IsNil", "internal/reflectlite.TypeOf", "(internal/reflectlite.Value).Elem", "(internal/reflectlite.Value).Set", "slices.overlaps[int]"], unfollowed := true, recurses := true, named := ["errors.errorType"], apart := false, laid := [("errors.errorType", laid_errors_errorType)], narrowed := true }
def ShopPaceUptoSaid : Prop := shopPaceUptoRow.holds Tryz.pinned (OpenSpec.upto shopPaceSpec)

/-- 'gristmillkeep.ShopWaits', WHERE WHAT IT READS IS OF BULK AT MOST 1048576: true; the input reads as it did. -/
def shopWaitsUptoRow : OpenClaim := { program := "ytinijfhoenajkaagreatdoor", sum := "ff42f58715c5584716553b3de238a9de345366c0334f051208d318c1600888bb", func := "gristmill/gristmillkeep.ShopWaits", spec := "shopWaits", inPlace := ["internal/reflectlite.ValueOf", "(internal/reflectlite.Value).Type", "(internal/reflectlite.Value).IsNil", "internal/reflectlite.TypeOf", "(internal/reflectlite.Value).Elem", "(internal/reflectlite.Value).Set", "slices.overlaps[int]"], unfollowed := true, recurses := true, named := ["errors.errorType"], apart := false, laid := [("errors.errorType", laid_errors_errorType)], narrowed := true }
def ShopWaitsUptoSaid : Prop := shopWaitsUptoRow.holds Tryz.pinned (OpenSpec.upto shopWaitsSpec)

/-- 'gristmillkeep.ShopQuiet', WHERE WHAT IT READS IS OF BULK AT MOST 1048576: true; the input reads as it did. -/
def shopQuietUptoRow : OpenClaim := { program := "ytinijfhoenajkaagreatdoor", sum := "ff42f58715c5584716553b3de238a9de345366c0334f051208d318c1600888bb", func := "gristmill/gristmillkeep.ShopQuiet", spec := "shopQuiet", inPlace := ["internal/reflectlite.ValueOf", "(internal/reflectlite.Value).Type", "(internal/reflectlite.Value).IsNil", "internal/reflectlite.TypeOf", "(internal/reflectlite.Value).Elem", "(internal/reflectlite.Value).Set", "slices.overlaps[int]"], unfollowed := true, recurses := true, named := ["errors.errorType"], apart := false, laid := [("errors.errorType", laid_errors_errorType)], narrowed := true }
def ShopQuietUptoSaid : Prop := shopQuietUptoRow.holds Tryz.pinned (OpenSpec.upto shopQuietSpec)

/-- 'gristmillkeep.ShopLater', WHERE WHAT IT READS IS OF BULK AT MOST 1048576: true; the input reads as it did. -/
def shopLaterUptoRow : OpenClaim := { program := "ytinijfhoenajkaagreatdoor", sum := "ff42f58715c5584716553b3de238a9de345366c0334f051208d318c1600888bb", func := "gristmill/gristmillkeep.ShopLater", spec := "shopLater", inPlace := ["internal/reflectlite.ValueOf", "(internal/reflectlite.Value).Type", "(internal/reflectlite.Value).IsNil", "internal/reflectlite.TypeOf", "(internal/reflectlite.Value).Elem", "(internal/reflectlite.Value).Set", "slices.overlaps[int]"], unfollowed := true, recurses := true, named := ["errors.errorType"], apart := false, laid := [("errors.errorType", laid_errors_errorType)], narrowed := true }
def ShopLaterUptoSaid : Prop := shopLaterUptoRow.holds Tryz.pinned (OpenSpec.upto shopLaterSpec)

/-- 'gristmillkeep.ShopLegal', WHERE WHAT IT READS IS OF BULK AT MOST 1048576: true; the input reads as it did. -/
def shopLegalUptoRow : OpenClaim := { program := "ytinijfhoenajkaagreatdoor", sum := "ff42f58715c5584716553b3de238a9de345366c0334f051208d318c1600888bb", func := "gristmill/gristmillkeep.ShopLegal", spec := "shopLegal", inPlace := ["internal/reflectlite.ValueOf", "(internal/reflectlite.Value).Type", "(internal/reflectlite.Value).IsNil", "internal/reflectlite.TypeOf", "(internal/reflectlite.Value).Elem", "(internal/reflectlite.Value).Set", "slices.overlaps[int]"], unfollowed := true, recurses := true, named := ["errors.errorType"], apart := false, laid := [("errors.errorType", laid_errors_errorType)], narrowed := true }
def ShopLegalUptoSaid : Prop := shopLegalUptoRow.holds Tryz.pinned (OpenSpec.upto shopLegalSpec)

/-- 'gristmillkeep.ShopSurvives', WHERE WHAT IT READS IS OF BULK AT MOST 1048576: true; the input reads as it did. -/
def shopSurvivesUptoRow : OpenClaim := { program := "ytinijfhoenajkaagreatdoor", sum := "ff42f58715c5584716553b3de238a9de345366c0334f051208d318c1600888bb", func := "gristmill/gristmillkeep.ShopSurvives", spec := "shopSurvives", inPlace := ["internal/reflectlite.ValueOf", "(internal/reflectlite.Value).Type", "(internal/reflectlite.Value).IsNil", "internal/reflectlite.TypeOf", "(internal/reflectlite.Value).Elem", "(internal/reflectlite.Value).Set", "slices.overlaps[int]"], unfollowed := true, recurses := true, named := ["errors.errorType"], apart := false, laid := [("errors.errorType", laid_errors_errorType)], narrowed := true }
def ShopSurvivesUptoSaid : Prop := shopSurvivesUptoRow.holds Tryz.pinned (OpenSpec.upto shopSurvivesSpec)

/-- 'gristmillkeep.JudgeCut', WHERE WHAT IT READS IS OF BULK AT MOST 1048576: true; the input reads as it did. -/
def judgeCutUptoRow : OpenClaim := { program := "ytinijfhoenajkaagreatdoor", sum := "ff42f58715c5584716553b3de238a9de345366c0334f051208d318c1600888bb", func := "gristmill/gristmillkeep.JudgeCut", spec := "judgeCut", inPlace := ["internal/reflectlite.ValueOf", "(internal/reflectlite.Value).Type", "(internal/reflectlite.Value).IsNil", "internal/reflectlite.TypeOf", "(internal/reflectlite.Value).Elem", "(internal/reflectlite.Value).Set", "slices.overlaps[int]"], unfollowed := true, recurses := true, named := ["errors.errorType"], apart := false, laid := [("errors.errorType", laid_errors_errorType)], narrowed := true }
def JudgeCutUptoSaid : Prop := judgeCutUptoRow.holds Tryz.pinned (OpenSpec.upto judgeCutSpec)

/-- 'gristmillkeep.ShopGoes', WHERE WHAT IT READS IS OF BULK AT MOST 1048576: true; the input reads as it did. -/
def shopGoesUptoRow : OpenClaim := { program := "ytinijfhoenajkaagreatdoor", sum := "ff42f58715c5584716553b3de238a9de345366c0334f051208d318c1600888bb", func := "gristmill/gristmillkeep.ShopGoes", spec := "shopGoes", inPlace := ["internal/reflectlite.ValueOf", "(internal/reflectlite.Value).Type", "(internal/reflectlite.Value).IsNil", "internal/reflectlite.TypeOf", "(internal/reflectlite.Value).Elem", "(internal/reflectlite.Value).Set", "slices.overlaps[int]"], unfollowed := true, recurses := true, named := ["errors.errorType"], apart := false, laid := [("errors.errorType", laid_errors_errorType)], narrowed := true }
def ShopGoesUptoSaid : Prop := shopGoesUptoRow.holds Tryz.pinned (OpenSpec.upto shopGoesSpec)

end Rows
end Go.Proofs.YtinijfhoenajkaaGreatDoor
