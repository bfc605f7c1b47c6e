/-
  NARROWER THAN 'FOR EVERY INPUT', by the rows' own cells (each row's printed sentence says how): WorkerAgain: laid · WorkerQuiet: laid · WorkerLine: laid · ShopClock: laid · ShopAlone: laid · ShopOne: laid · ShopHelped: laid · ShopStands: laid · ShopPrices: laid · ShopMasks: laid · ShopAhead: laid · ShopIdle: laid · ShopPace: laid · ShopWaits: laid · ShopQuiet: laid.
  DERIVED. THE GIVEN ROWS OF THIS SEAT. 15 by the template 'for every input the law returns true; each argument reads behind the call as it read before'; 0 by the template 'total and deterministic' (their statements: YtddbkioejhidoaaGreatDoorTotals.lean).
  GIVEN WITH THE SEED: the statements are not yours to turn. If you find one false, say at which input.
  Laid BY PROGRAM, IN A SANDBOX (cutbox-rows.mjs): the forced cells as the released guide's own fill.sh prints them over the translation 56f85986e649b1bb… (all of the seat's roots in one cut). By AI agents, Wed Nov 11 2026. No macro, syntax, notation, axiom, sorry.
-/
import Derived.Test.YtddbkioejhidoaaGreatDoorChecked
import GoSem.Claim
import GoSem.ClaimJoined
import GoSem.ClaimMapViews
import Derived.JoinedTies
import Derived.KernelRfl
namespace Go.Proofs.YtddbkioejhidoaaGreatDoor
/- THE CELL 'sum', in the pinned program and in every row, IS THE sha256 OF THE DUMP (.gsa) THAT YtddbkioejhidoaaGreatDoorProg.lean LOADS. Nothing in Lean hashes anything: it is a label: what it is worth is what the hold of that sum in a sandbox is worth. -/
noncomputable def Tryz.pinned : Pinned := { name := "ytddbkioejhidoaagreatdoor", sum := "56f85986e649b1bb1062fb86c51874b5f248eaae59b9e885e1c09096d1242b1a", checked := Tryz.checked }
namespace Rows
def none {H : Type} : Left H := { results := [], args := [] }

/- WHAT THE LISTED PACKAGE-LEVEL VARIABLES READ AS WHEN THE CALL BEGINS. Each datum BY PROGRAM (the guide's laid-datum.mjs) off the statement by which the dump's own 'gosem.cut.vars' lays the variable. In a bare row this is a premise. The card (YtddbkioejhidoaaGreatDoorCards.lean) ties it to the program's text. -/
def laid_errors_errorType {H : Type} : DataW H := .iface "internal/reflectlite.rtype" (.agg [.ptr (.lit (.string [101, 114, 114, 111, 114]))])

/-- 'gristmillkeep.WorkerAgain': WHATEVER THE INPUT: true; the input reads as it did. -/
def workerAgainSpec : ChangeSpec := { name := "workerAgain", fn := fun _ => fun
  | [d1, d2, d3] => { results := [.lit (.bool true)], args := [d1, d2, d3] }
  | _ => none }
def workerAgainRow : OpenClaim := { program := "ytddbkioejhidoaagreatdoor", sum := "56f85986e649b1bb1062fb86c51874b5f248eaae59b9e885e1c09096d1242b1a", func := "gristmill/gristmillkeep.WorkerAgain", spec := "workerAgain", inPlace := ["internal/reflectlite.ValueOf", "(internal/reflectlite.Value).Type", "(internal/reflectlite.Value).IsNil", "internal/reflectlite.TypeOf", "(internal/reflectlite.Value).Elem", "(internal/reflectlite.Value).Set", "slices.overlaps[int]"], unfollowed := true, recurses := true, named := ["errors.errorType"], apart := false, laid := [("errors.errorType", laid_errors_errorType)] }
def WorkerAgainSaid : Prop := workerAgainRow.holds Tryz.pinned (OpenSpec.ofChange workerAgainSpec)

/-- ITS FALSE NEIGHBOUR: 'it returns false'. Refute it at one input. -/
def workerAgainWrong : ChangeSpec := { name := "workerAgain", fn := fun _ => fun
  | [d1, d2, d3] => { results := [.lit (.bool false)], args := [d1, d2, d3] }
  | _ => none }
def WorkerAgainWrongFalsely : Prop := workerAgainRow.holds Tryz.pinned (OpenSpec.ofChange workerAgainWrong)

/-- 'gristmillkeep.WorkerQuiet': WHATEVER THE INPUT: true; the input reads as it did. -/
def workerQuietSpec : ChangeSpec := { name := "workerQuiet", fn := fun _ => fun
  | [d1, d2, d3, d4] => { results := [.lit (.bool true)], args := [d1, d2, d3, d4] }
  | _ => none }
def workerQuietRow : OpenClaim := { program := "ytddbkioejhidoaagreatdoor", sum := "56f85986e649b1bb1062fb86c51874b5f248eaae59b9e885e1c09096d1242b1a", func := "gristmill/gristmillkeep.WorkerQuiet", spec := "workerQuiet", inPlace := ["internal/reflectlite.ValueOf", "(internal/reflectlite.Value).Type", "(internal/reflectlite.Value).IsNil", "internal/reflectlite.TypeOf", "(internal/reflectlite.Value).Elem", "(internal/reflectlite.Value).Set", "slices.overlaps[int]"], unfollowed := true, recurses := true, named := ["errors.errorType"], apart := false, laid := [("errors.errorType", laid_errors_errorType)] }
def WorkerQuietSaid : Prop := workerQuietRow.holds Tryz.pinned (OpenSpec.ofChange workerQuietSpec)

/-- ITS FALSE NEIGHBOUR: 'it returns false'. Refute it at one input. -/
def workerQuietWrong : ChangeSpec := { name := "workerQuiet", fn := fun _ => fun
  | [d1, d2, d3, d4] => { results := [.lit (.bool false)], args := [d1, d2, d3, d4] }
  | _ => none }
def WorkerQuietWrongFalsely : Prop := workerQuietRow.holds Tryz.pinned (OpenSpec.ofChange workerQuietWrong)

/-- 'gristmillkeep.WorkerLine': WHATEVER THE INPUT: true; the input reads as it did. -/
def workerLineSpec : ChangeSpec := { name := "workerLine", fn := fun _ => fun
  | [d1, d2, d3] => { results := [.lit (.bool true)], args := [d1, d2, d3] }
  | _ => none }
def workerLineRow : OpenClaim := { program := "ytddbkioejhidoaagreatdoor", sum := "56f85986e649b1bb1062fb86c51874b5f248eaae59b9e885e1c09096d1242b1a", func := "gristmill/gristmillkeep.WorkerLine", spec := "workerLine", inPlace := ["internal/reflectlite.ValueOf", "(internal/reflectlite.Value).Type", "(internal/reflectlite.Value).IsNil", "internal/reflectlite.TypeOf", "(internal/reflectlite.Value).Elem", "(internal/reflectlite.Value).Set", "slices.overlaps[int]"], unfollowed := true, recurses := true, named := ["errors.errorType"], apart := false, laid := [("errors.errorType", laid_errors_errorType)] }
def WorkerLineSaid : Prop := workerLineRow.holds Tryz.pinned (OpenSpec.ofChange workerLineSpec)

/-- ITS FALSE NEIGHBOUR: 'it returns false'. Refute it at one input. -/
def workerLineWrong : ChangeSpec := { name := "workerLine", fn := fun _ => fun
  | [d1, d2, d3] => { results := [.lit (.bool false)], args := [d1, d2, d3] }
  | _ => none }
def WorkerLineWrongFalsely : Prop := workerLineRow.holds Tryz.pinned (OpenSpec.ofChange workerLineWrong)

/-- 'gristmillkeep.ShopClock': WHATEVER THE INPUT: true; the input reads as it did. -/
def shopClockSpec : ChangeSpec := { name := "shopClock", fn := fun _ => fun
  | [d1, d2] => { results := [.lit (.bool true)], args := [d1, d2] }
  | _ => none }
def shopClockRow : OpenClaim := { program := "ytddbkioejhidoaagreatdoor", sum := "56f85986e649b1bb1062fb86c51874b5f248eaae59b9e885e1c09096d1242b1a", func := "gristmill/gristmillkeep.ShopClock", spec := "shopClock", inPlace := ["internal/reflectlite.ValueOf", "(internal/reflectlite.Value).Type", "(internal/reflectlite.Value).IsNil", "internal/reflectlite.TypeOf", "(internal/reflectlite.Value).Elem", "(internal/reflectlite.Value).Set", "slices.overlaps[int]"], unfollowed := true, recurses := true, named := ["errors.errorType"], apart := false, laid := [("errors.errorType", laid_errors_errorType)] }
def ShopClockSaid : Prop := shopClockRow.holds Tryz.pinned (OpenSpec.ofChange shopClockSpec)

/-- ITS FALSE NEIGHBOUR: 'it returns false'. Refute it at one input. -/
def shopClockWrong : ChangeSpec := { name := "shopClock", fn := fun _ => fun
  | [d1, d2] => { results := [.lit (.bool false)], args := [d1, d2] }
  | _ => none }
def ShopClockWrongFalsely : Prop := shopClockRow.holds Tryz.pinned (OpenSpec.ofChange shopClockWrong)

/-- 'gristmillkeep.ShopAlone': WHATEVER THE INPUT: true; the input reads as it did. -/
def shopAloneSpec : ChangeSpec := { name := "shopAlone", fn := fun _ => fun
  | [d1, d2, d3, d4] => { results := [.lit (.bool true)], args := [d1, d2, d3, d4] }
  | _ => none }
def shopAloneRow : OpenClaim := { program := "ytddbkioejhidoaagreatdoor", sum := "56f85986e649b1bb1062fb86c51874b5f248eaae59b9e885e1c09096d1242b1a", func := "gristmill/gristmillkeep.ShopAlone", spec := "shopAlone", inPlace := ["internal/reflectlite.ValueOf", "(internal/reflectlite.Value).Type", "(internal/reflectlite.Value).IsNil", "internal/reflectlite.TypeOf", "(internal/reflectlite.Value).Elem", "(internal/reflectlite.Value).Set", "slices.overlaps[int]"], unfollowed := true, recurses := true, named := ["errors.errorType"], apart := false, laid := [("errors.errorType", laid_errors_errorType)] }
def ShopAloneSaid : Prop := shopAloneRow.holds Tryz.pinned (OpenSpec.ofChange shopAloneSpec)

/-- ITS FALSE NEIGHBOUR: 'it returns false'. Refute it at one input. -/
def shopAloneWrong : ChangeSpec := { name := "shopAlone", fn := fun _ => fun
  | [d1, d2, d3, d4] => { results := [.lit (.bool false)], args := [d1, d2, d3, d4] }
  | _ => none }
def ShopAloneWrongFalsely : Prop := shopAloneRow.holds Tryz.pinned (OpenSpec.ofChange shopAloneWrong)

/-- 'gristmillkeep.ShopOne': WHATEVER THE INPUT: true; the input reads as it did. -/
def shopOneSpec : ChangeSpec := { name := "shopOne", fn := fun _ => fun
  | [d1, d2] => { results := [.lit (.bool true)], args := [d1, d2] }
  | _ => none }
def shopOneRow : OpenClaim := { program := "ytddbkioejhidoaagreatdoor", sum := "56f85986e649b1bb1062fb86c51874b5f248eaae59b9e885e1c09096d1242b1a", func := "gristmill/gristmillkeep.ShopOne", spec := "shopOne", inPlace := ["internal/reflectlite.ValueOf", "(internal/reflectlite.Value).Type", "(internal/reflectlite.Value).IsNil", "internal/reflectlite.TypeOf", "(internal/reflectlite.Value).Elem", "(internal/reflectlite.Value).Set", "slices.overlaps[int]"], unfollowed := true, recurses := true, named := ["errors.errorType"], apart := false, laid := [("errors.errorType", laid_errors_errorType)] }
def ShopOneSaid : Prop := shopOneRow.holds Tryz.pinned (OpenSpec.ofChange shopOneSpec)

/-- ITS FALSE NEIGHBOUR: 'it returns false'. Refute it at one input. -/
def shopOneWrong : ChangeSpec := { name := "shopOne", fn := fun _ => fun
  | [d1, d2] => { results := [.lit (.bool false)], args := [d1, d2] }
  | _ => none }
def ShopOneWrongFalsely : Prop := shopOneRow.holds Tryz.pinned (OpenSpec.ofChange shopOneWrong)

/-- 'gristmillkeep.ShopHelped': WHATEVER THE INPUT: true; the input reads as it did. -/
def shopHelpedSpec : ChangeSpec := { name := "shopHelped", fn := fun _ => fun
  | [d1, d2, d3, d4, d5, d6] => { results := [.lit (.bool true)], args := [d1, d2, d3, d4, d5, d6] }
  | _ => none }
def shopHelpedRow : OpenClaim := { program := "ytddbkioejhidoaagreatdoor", sum := "56f85986e649b1bb1062fb86c51874b5f248eaae59b9e885e1c09096d1242b1a", func := "gristmill/gristmillkeep.ShopHelped", spec := "shopHelped", inPlace := ["internal/reflectlite.ValueOf", "(internal/reflectlite.Value).Type", "(internal/reflectlite.Value).IsNil", "internal/reflectlite.TypeOf", "(internal/reflectlite.Value).Elem", "(internal/reflectlite.Value).Set", "slices.overlaps[int]"], unfollowed := true, recurses := true, named := ["errors.errorType"], apart := false, laid := [("errors.errorType", laid_errors_errorType)] }
def ShopHelpedSaid : Prop := shopHelpedRow.holds Tryz.pinned (OpenSpec.ofChange shopHelpedSpec)

/-- ITS FALSE NEIGHBOUR: 'it returns false'. Refute it at one input. -/
def shopHelpedWrong : ChangeSpec := { name := "shopHelped", fn := fun _ => fun
  | [d1, d2, d3, d4, d5, d6] => { results := [.lit (.bool false)], args := [d1, d2, d3, d4, d5, d6] }
  | _ => none }
def ShopHelpedWrongFalsely : Prop := shopHelpedRow.holds Tryz.pinned (OpenSpec.ofChange shopHelpedWrong)

/-- 'gristmillkeep.ShopStands': WHATEVER THE INPUT: true; the input reads as it did. -/
def shopStandsSpec : ChangeSpec := { name := "shopStands", fn := fun _ => fun
  | [d1, d2] => { results := [.lit (.bool true)], args := [d1, d2] }
  | _ => none }
def shopStandsRow : OpenClaim := { program := "ytddbkioejhidoaagreatdoor", sum := "56f85986e649b1bb1062fb86c51874b5f248eaae59b9e885e1c09096d1242b1a", func := "gristmill/gristmillkeep.ShopStands", spec := "shopStands", inPlace := ["internal/reflectlite.ValueOf", "(internal/reflectlite.Value).Type", "(internal/reflectlite.Value).IsNil", "internal/reflectlite.TypeOf", "(internal/reflectlite.Value).Elem", "(internal/reflectlite.Value).Set", "slices.overlaps[int]"], unfollowed := true, recurses := true, named := ["errors.errorType"], apart := false, laid := [("errors.errorType", laid_errors_errorType)] }
def ShopStandsSaid : Prop := shopStandsRow.holds Tryz.pinned (OpenSpec.ofChange shopStandsSpec)

/-- ITS FALSE NEIGHBOUR: 'it returns false'. Refute it at one input. -/
def shopStandsWrong : ChangeSpec := { name := "shopStands", fn := fun _ => fun
  | [d1, d2] => { results := [.lit (.bool false)], args := [d1, d2] }
  | _ => none }
def ShopStandsWrongFalsely : Prop := shopStandsRow.holds Tryz.pinned (OpenSpec.ofChange shopStandsWrong)

/-- 'gristmillkeep.ShopPrices': WHATEVER THE INPUT: true; the input reads as it did. -/
def shopPricesSpec : ChangeSpec := { name := "shopPrices", fn := fun _ => fun
  | [d1, d2] => { results := [.lit (.bool true)], args := [d1, d2] }
  | _ => none }
def shopPricesRow : OpenClaim := { program := "ytddbkioejhidoaagreatdoor", sum := "56f85986e649b1bb1062fb86c51874b5f248eaae59b9e885e1c09096d1242b1a", func := "gristmill/gristmillkeep.ShopPrices", spec := "shopPrices", inPlace := ["internal/reflectlite.ValueOf", "(internal/reflectlite.Value).Type", "(internal/reflectlite.Value).IsNil", "internal/reflectlite.TypeOf", "(internal/reflectlite.Value).Elem", "(internal/reflectlite.Value).Set", "slices.overlaps[int]"], unfollowed := true, recurses := true, named := ["errors.errorType"], apart := false, laid := [("errors.errorType", laid_errors_errorType)] }
def ShopPricesSaid : Prop := shopPricesRow.holds Tryz.pinned (OpenSpec.ofChange shopPricesSpec)

/-- ITS FALSE NEIGHBOUR: 'it returns false'. Refute it at one input. -/
def shopPricesWrong : ChangeSpec := { name := "shopPrices", fn := fun _ => fun
  | [d1, d2] => { results := [.lit (.bool false)], args := [d1, d2] }
  | _ => none }
def ShopPricesWrongFalsely : Prop := shopPricesRow.holds Tryz.pinned (OpenSpec.ofChange shopPricesWrong)

/-- 'gristmillkeep.ShopMasks': WHATEVER THE INPUT: true; the input reads as it did. -/
def shopMasksSpec : ChangeSpec := { name := "shopMasks", fn := fun _ => fun
  | [d1, d2, d3, d4] => { results := [.lit (.bool true)], args := [d1, d2, d3, d4] }
  | _ => none }
def shopMasksRow : OpenClaim := { program := "ytddbkioejhidoaagreatdoor", sum := "56f85986e649b1bb1062fb86c51874b5f248eaae59b9e885e1c09096d1242b1a", func := "gristmill/gristmillkeep.ShopMasks", spec := "shopMasks", inPlace := ["internal/reflectlite.ValueOf", "(internal/reflectlite.Value).Type", "(internal/reflectlite.Value).IsNil", "internal/reflectlite.TypeOf", "(internal/reflectlite.Value).Elem", "(internal/reflectlite.Value).Set", "slices.overlaps[int]"], unfollowed := true, recurses := true, named := ["errors.errorType"], apart := false, laid := [("errors.errorType", laid_errors_errorType)] }
def ShopMasksSaid : Prop := shopMasksRow.holds Tryz.pinned (OpenSpec.ofChange shopMasksSpec)

/-- ITS FALSE NEIGHBOUR: 'it returns false'. Refute it at one input. -/
def shopMasksWrong : ChangeSpec := { name := "shopMasks", fn := fun _ => fun
  | [d1, d2, d3, d4] => { results := [.lit (.bool false)], args := [d1, d2, d3, d4] }
  | _ => none }
def ShopMasksWrongFalsely : Prop := shopMasksRow.holds Tryz.pinned (OpenSpec.ofChange shopMasksWrong)

/-- 'gristmillkeep.ShopAhead': WHATEVER THE INPUT: true; the input reads as it did. -/
def shopAheadSpec : ChangeSpec := { name := "shopAhead", fn := fun _ => fun
  | [d1, d2, d3] => { results := [.lit (.bool true)], args := [d1, d2, d3] }
  | _ => none }
def shopAheadRow : OpenClaim := { program := "ytddbkioejhidoaagreatdoor", sum := "56f85986e649b1bb1062fb86c51874b5f248eaae59b9e885e1c09096d1242b1a", func := "gristmill/gristmillkeep.ShopAhead", spec := "shopAhead", inPlace := ["internal/reflectlite.ValueOf", "(internal/reflectlite.Value).Type", "(internal/reflectlite.Value).IsNil", "internal/reflectlite.TypeOf", "(internal/reflectlite.Value).Elem", "(internal/reflectlite.Value).Set", "slices.overlaps[int]"], unfollowed := true, recurses := true, named := ["errors.errorType"], apart := false, laid := [("errors.errorType", laid_errors_errorType)] }
def ShopAheadSaid : Prop := shopAheadRow.holds Tryz.pinned (OpenSpec.ofChange shopAheadSpec)

/-- ITS FALSE NEIGHBOUR: 'it returns false'. Refute it at one input. -/
def shopAheadWrong : ChangeSpec := { name := "shopAhead", fn := fun _ => fun
  | [d1, d2, d3] => { results := [.lit (.bool false)], args := [d1, d2, d3] }
  | _ => none }
def ShopAheadWrongFalsely : Prop := shopAheadRow.holds Tryz.pinned (OpenSpec.ofChange shopAheadWrong)

/-- 'gristmillkeep.ShopIdle': WHATEVER THE INPUT: true; the input reads as it did. -/
def shopIdleSpec : ChangeSpec := { name := "shopIdle", fn := fun _ => fun
  | [d1, d2, d3] => { results := [.lit (.bool true)], args := [d1, d2, d3] }
  | _ => none }
def shopIdleRow : OpenClaim := { program := "ytddbkioejhidoaagreatdoor", sum := "56f85986e649b1bb1062fb86c51874b5f248eaae59b9e885e1c09096d1242b1a", func := "gristmill/gristmillkeep.ShopIdle", spec := "shopIdle", inPlace := ["internal/reflectlite.ValueOf", "(internal/reflectlite.Value).Type", "(internal/reflectlite.Value).IsNil", "internal/reflectlite.TypeOf", "(internal/reflectlite.Value).Elem", "(internal/reflectlite.Value).Set", "slices.overlaps[int]"], unfollowed := true, recurses := true, named := ["errors.errorType"], apart := false, laid := [("errors.errorType", laid_errors_errorType)] }
def ShopIdleSaid : Prop := shopIdleRow.holds Tryz.pinned (OpenSpec.ofChange shopIdleSpec)

/-- ITS FALSE NEIGHBOUR: 'it returns false'. Refute it at one input. -/
def shopIdleWrong : ChangeSpec := { name := "shopIdle", fn := fun _ => fun
  | [d1, d2, d3] => { results := [.lit (.bool false)], args := [d1, d2, d3] }
  | _ => none }
def ShopIdleWrongFalsely : Prop := shopIdleRow.holds Tryz.pinned (OpenSpec.ofChange shopIdleWrong)

/-- 'gristmillkeep.ShopPace': WHATEVER THE INPUT: true; the input reads as it did. -/
def shopPaceSpec : ChangeSpec := { name := "shopPace", fn := fun _ => fun
  | [d1, d2, d3, d4] => { results := [.lit (.bool true)], args := [d1, d2, d3, d4] }
  | _ => none }
def shopPaceRow : OpenClaim := { program := "ytddbkioejhidoaagreatdoor", sum := "56f85986e649b1bb1062fb86c51874b5f248eaae59b9e885e1c09096d1242b1a", func := "gristmill/gristmillkeep.ShopPace", spec := "shopPace", inPlace := ["internal/reflectlite.ValueOf", "(internal/reflectlite.Value).Type", "(internal/reflectlite.Value).IsNil", "internal/reflectlite.TypeOf", "(internal/reflectlite.Value).Elem", "(internal/reflectlite.Value).Set", "slices.overlaps[int]"], unfollowed := true, recurses := true, named := ["errors.errorType"], apart := false, laid := [("errors.errorType", laid_errors_errorType)] }
def ShopPaceSaid : Prop := shopPaceRow.holds Tryz.pinned (OpenSpec.ofChange shopPaceSpec)

/-- ITS FALSE NEIGHBOUR: 'it returns false'. Refute it at one input. -/
def shopPaceWrong : ChangeSpec := { name := "shopPace", fn := fun _ => fun
  | [d1, d2, d3, d4] => { results := [.lit (.bool false)], args := [d1, d2, d3, d4] }
  | _ => none }
def ShopPaceWrongFalsely : Prop := shopPaceRow.holds Tryz.pinned (OpenSpec.ofChange shopPaceWrong)

/-- 'gristmillkeep.ShopWaits': WHATEVER THE INPUT: true; the input reads as it did. -/
def shopWaitsSpec : ChangeSpec := { name := "shopWaits", fn := fun _ => fun
  | [d1, d2, d3, d4] => { results := [.lit (.bool true)], args := [d1, d2, d3, d4] }
  | _ => none }
def shopWaitsRow : OpenClaim := { program := "ytddbkioejhidoaagreatdoor", sum := "56f85986e649b1bb1062fb86c51874b5f248eaae59b9e885e1c09096d1242b1a", func := "gristmill/gristmillkeep.ShopWaits", spec := "shopWaits", inPlace := ["internal/reflectlite.ValueOf", "(internal/reflectlite.Value).Type", "(internal/reflectlite.Value).IsNil", "internal/reflectlite.TypeOf", "(internal/reflectlite.Value).Elem", "(internal/reflectlite.Value).Set", "slices.overlaps[int]"], unfollowed := true, recurses := true, named := ["errors.errorType"], apart := false, laid := [("errors.errorType", laid_errors_errorType)] }
def ShopWaitsSaid : Prop := shopWaitsRow.holds Tryz.pinned (OpenSpec.ofChange shopWaitsSpec)

/-- ITS FALSE NEIGHBOUR: 'it returns false'. Refute it at one input. -/
def shopWaitsWrong : ChangeSpec := { name := "shopWaits", fn := fun _ => fun
  | [d1, d2, d3, d4] => { results := [.lit (.bool false)], args := [d1, d2, d3, d4] }
  | _ => none }
def ShopWaitsWrongFalsely : Prop := shopWaitsRow.holds Tryz.pinned (OpenSpec.ofChange shopWaitsWrong)

/-- 'gristmillkeep.ShopQuiet': WHATEVER THE INPUT: true; the input reads as it did. -/
def shopQuietSpec : ChangeSpec := { name := "shopQuiet", fn := fun _ => fun
  | [d1, d2] => { results := [.lit (.bool true)], args := [d1, d2] }
  | _ => none }
def shopQuietRow : OpenClaim := { program := "ytddbkioejhidoaagreatdoor", sum := "56f85986e649b1bb1062fb86c51874b5f248eaae59b9e885e1c09096d1242b1a", func := "gristmill/gristmillkeep.ShopQuiet", spec := "shopQuiet", inPlace := ["internal/reflectlite.ValueOf", "(internal/reflectlite.Value).Type", "(internal/reflectlite.Value).IsNil", "internal/reflectlite.TypeOf", "(internal/reflectlite.Value).Elem", "(internal/reflectlite.Value).Set", "slices.overlaps[int]"], unfollowed := true, recurses := true, named := ["errors.errorType"], apart := false, laid := [("errors.errorType", laid_errors_errorType)] }
def ShopQuietSaid : Prop := shopQuietRow.holds Tryz.pinned (OpenSpec.ofChange shopQuietSpec)

/-- ITS FALSE NEIGHBOUR: 'it returns false'. Refute it at one input. -/
def shopQuietWrong : ChangeSpec := { name := "shopQuiet", fn := fun _ => fun
  | [d1, d2] => { results := [.lit (.bool false)], args := [d1, d2] }
  | _ => none }
def ShopQuietWrongFalsely : Prop := shopQuietRow.holds Tryz.pinned (OpenSpec.ofChange shopQuietWrong)

/- THE SECOND FORM. 'bulk': how many values and letters a reading holds, each counted each time it is reached (what is shared counts as often as it is met; a slice's spare places count too). A statement '..UptoSaid' is the law's where the arguments, and the package variables that the reading takes, are together of bulk at most 1048576: NARROWER than '..Said'. Prove '..Said' where nothing that the law and all that it calls make is longer than what came in: it says more and counts as full. Else prove '..UptoSaid'. A law counts once. -/
mutual
def uptoBulk {H : Type} : DataW H → Nat
  | .lit (.string bytes) => bytes.length + 1
  | .lit _ => 1
  | .nil => 1
  | .ptr d => uptoBulk d + 1
  | .slice elems spare => uptoBulkAll elems + uptoBulkAll spare + 1
  | .agg parts => uptoBulkAll parts + 1
  | .iface _ d => uptoBulk d + 1
  | .map entries => uptoBulkEntries entries + 1
  | .held _ => 1
def uptoBulkAll {H : Type} : List (DataW H) → Nat
  | [] => 0
  | d :: r => uptoBulk d + uptoBulkAll r
def uptoBulkEntries {H : Type} : List (Lit × DataW H) → Nat
  | [] => 0
  | x :: r => uptoBulkEntry x + uptoBulkEntries r
def uptoBulkEntry {H : Type} : Lit × DataW H → Nat
  | (.string bytes, d) => bytes.length + uptoBulk d + 1
  | (_, d) => uptoBulk d + 1
 end
def uptoSmall : (H : Type) → List (DataW H) → Bool := fun _ ds => decide (uptoBulkAll ds ≤ 1048576)
def OpenSpec.upto (s : _root_.Go.ChangeSpec) : _root_.Go.OpenSpec := { _root_.Go.OpenSpec.ofChange s with cond := some uptoSmall }

/-- 'gristmillkeep.WorkerAgain', WHERE WHAT IT READS IS OF BULK AT MOST 1048576: true; the input reads as it did. -/
def workerAgainUptoRow : OpenClaim := { program := "ytddbkioejhidoaagreatdoor", sum := "56f85986e649b1bb1062fb86c51874b5f248eaae59b9e885e1c09096d1242b1a", func := "gristmill/gristmillkeep.WorkerAgain", spec := "workerAgain", inPlace := ["internal/reflectlite.ValueOf", "(internal/reflectlite.Value).Type", "(internal/reflectlite.Value).IsNil", "internal/reflectlite.TypeOf", "(internal/reflectlite.Value).Elem", "(internal/reflectlite.Value).Set", "slices.overlaps[int]"], unfollowed := true, recurses := true, named := ["errors.errorType"], apart := false, laid := [("errors.errorType", laid_errors_errorType)], narrowed := true }
def WorkerAgainUptoSaid : Prop := workerAgainUptoRow.holds Tryz.pinned (OpenSpec.upto workerAgainSpec)

/-- 'gristmillkeep.WorkerQuiet', WHERE WHAT IT READS IS OF BULK AT MOST 1048576: true; the input reads as it did. -/
def workerQuietUptoRow : OpenClaim := { program := "ytddbkioejhidoaagreatdoor", sum := "56f85986e649b1bb1062fb86c51874b5f248eaae59b9e885e1c09096d1242b1a", func := "gristmill/gristmillkeep.WorkerQuiet", spec := "workerQuiet", inPlace := ["internal/reflectlite.ValueOf", "(internal/reflectlite.Value).Type", "(internal/reflectlite.Value).IsNil", "internal/reflectlite.TypeOf", "(internal/reflectlite.Value).Elem", "(internal/reflectlite.Value).Set", "slices.overlaps[int]"], unfollowed := true, recurses := true, named := ["errors.errorType"], apart := false, laid := [("errors.errorType", laid_errors_errorType)], narrowed := true }
def WorkerQuietUptoSaid : Prop := workerQuietUptoRow.holds Tryz.pinned (OpenSpec.upto workerQuietSpec)

/-- 'gristmillkeep.WorkerLine', WHERE WHAT IT READS IS OF BULK AT MOST 1048576: true; the input reads as it did. -/
def workerLineUptoRow : OpenClaim := { program := "ytddbkioejhidoaagreatdoor", sum := "56f85986e649b1bb1062fb86c51874b5f248eaae59b9e885e1c09096d1242b1a", func := "gristmill/gristmillkeep.WorkerLine", spec := "workerLine", inPlace := ["internal/reflectlite.ValueOf", "(internal/reflectlite.Value).Type", "(internal/reflectlite.Value).IsNil", "internal/reflectlite.TypeOf", "(internal/reflectlite.Value).Elem", "(internal/reflectlite.Value).Set", "slices.overlaps[int]"], unfollowed := true, recurses := true, named := ["errors.errorType"], apart := false, laid := [("errors.errorType", laid_errors_errorType)], narrowed := true }
def WorkerLineUptoSaid : Prop := workerLineUptoRow.holds Tryz.pinned (OpenSpec.upto workerLineSpec)

/-- 'gristmillkeep.ShopClock', WHERE WHAT IT READS IS OF BULK AT MOST 1048576: true; the input reads as it did. -/
def shopClockUptoRow : OpenClaim := { program := "ytddbkioejhidoaagreatdoor", sum := "56f85986e649b1bb1062fb86c51874b5f248eaae59b9e885e1c09096d1242b1a", func := "gristmill/gristmillkeep.ShopClock", spec := "shopClock", inPlace := ["internal/reflectlite.ValueOf", "(internal/reflectlite.Value).Type", "(internal/reflectlite.Value).IsNil", "internal/reflectlite.TypeOf", "(internal/reflectlite.Value).Elem", "(internal/reflectlite.Value).Set", "slices.overlaps[int]"], unfollowed := true, recurses := true, named := ["errors.errorType"], apart := false, laid := [("errors.errorType", laid_errors_errorType)], narrowed := true }
def ShopClockUptoSaid : Prop := shopClockUptoRow.holds Tryz.pinned (OpenSpec.upto shopClockSpec)

/-- 'gristmillkeep.ShopAlone', WHERE WHAT IT READS IS OF BULK AT MOST 1048576: true; the input reads as it did. -/
def shopAloneUptoRow : OpenClaim := { program := "ytddbkioejhidoaagreatdoor", sum := "56f85986e649b1bb1062fb86c51874b5f248eaae59b9e885e1c09096d1242b1a", func := "gristmill/gristmillkeep.ShopAlone", spec := "shopAlone", inPlace := ["internal/reflectlite.ValueOf", "(internal/reflectlite.Value).Type", "(internal/reflectlite.Value).IsNil", "internal/reflectlite.TypeOf", "(internal/reflectlite.Value).Elem", "(internal/reflectlite.Value).Set", "slices.overlaps[int]"], unfollowed := true, recurses := true, named := ["errors.errorType"], apart := false, laid := [("errors.errorType", laid_errors_errorType)], narrowed := true }
def ShopAloneUptoSaid : Prop := shopAloneUptoRow.holds Tryz.pinned (OpenSpec.upto shopAloneSpec)

/-- 'gristmillkeep.ShopOne', WHERE WHAT IT READS IS OF BULK AT MOST 1048576: true; the input reads as it did. -/
def shopOneUptoRow : OpenClaim := { program := "ytddbkioejhidoaagreatdoor", sum := "56f85986e649b1bb1062fb86c51874b5f248eaae59b9e885e1c09096d1242b1a", func := "gristmill/gristmillkeep.ShopOne", spec := "shopOne", inPlace := ["internal/reflectlite.ValueOf", "(internal/reflectlite.Value).Type", "(internal/reflectlite.Value).IsNil", "internal/reflectlite.TypeOf", "(internal/reflectlite.Value).Elem", "(internal/reflectlite.Value).Set", "slices.overlaps[int]"], unfollowed := true, recurses := true, named := ["errors.errorType"], apart := false, laid := [("errors.errorType", laid_errors_errorType)], narrowed := true }
def ShopOneUptoSaid : Prop := shopOneUptoRow.holds Tryz.pinned (OpenSpec.upto shopOneSpec)

/-- 'gristmillkeep.ShopHelped', WHERE WHAT IT READS IS OF BULK AT MOST 1048576: true; the input reads as it did. -/
def shopHelpedUptoRow : OpenClaim := { program := "ytddbkioejhidoaagreatdoor", sum := "56f85986e649b1bb1062fb86c51874b5f248eaae59b9e885e1c09096d1242b1a", func := "gristmill/gristmillkeep.ShopHelped", spec := "shopHelped", inPlace := ["internal/reflectlite.ValueOf", "(internal/reflectlite.Value).Type", "(internal/reflectlite.Value).IsNil", "internal/reflectlite.TypeOf", "(internal/reflectlite.Value).Elem", "(internal/reflectlite.Value).Set", "slices.overlaps[int]"], unfollowed := true, recurses := true, named := ["errors.errorType"], apart := false, laid := [("errors.errorType", laid_errors_errorType)], narrowed := true }
def ShopHelpedUptoSaid : Prop := shopHelpedUptoRow.holds Tryz.pinned (OpenSpec.upto shopHelpedSpec)

/-- 'gristmillkeep.ShopStands', WHERE WHAT IT READS IS OF BULK AT MOST 1048576: true; the input reads as it did. -/
def shopStandsUptoRow : OpenClaim := { program := "ytddbkioejhidoaagreatdoor", sum := "56f85986e649b1bb1062fb86c51874b5f248eaae59b9e885e1c09096d1242b1a", func := "gristmill/gristmillkeep.ShopStands", spec := "shopStands", inPlace := ["internal/reflectlite.ValueOf", "(internal/reflectlite.Value).Type", "(internal/reflectlite.Value).IsNil", "internal/reflectlite.TypeOf", "(internal/reflectlite.Value).Elem", "(internal/reflectlite.Value).Set", "slices.overlaps[int]"], unfollowed := true, recurses := true, named := ["errors.errorType"], apart := false, laid := [("errors.errorType", laid_errors_errorType)], narrowed := true }
def ShopStandsUptoSaid : Prop := shopStandsUptoRow.holds Tryz.pinned (OpenSpec.upto shopStandsSpec)

/-- 'gristmillkeep.ShopPrices', WHERE WHAT IT READS IS OF BULK AT MOST 1048576: true; the input reads as it did. -/
def shopPricesUptoRow : OpenClaim := { program := "ytddbkioejhidoaagreatdoor", sum := "56f85986e649b1bb1062fb86c51874b5f248eaae59b9e885e1c09096d1242b1a", func := "gristmill/gristmillkeep.ShopPrices", spec := "shopPrices", inPlace := ["internal/reflectlite.ValueOf", "(internal/reflectlite.Value).Type", "(internal/reflectlite.Value).IsNil", "internal/reflectlite.TypeOf", "(internal/reflectlite.Value).Elem", "(internal/reflectlite.Value).Set", "slices.overlaps[int]"], unfollowed := true, recurses := true, named := ["errors.errorType"], apart := false, laid := [("errors.errorType", laid_errors_errorType)], narrowed := true }
def ShopPricesUptoSaid : Prop := shopPricesUptoRow.holds Tryz.pinned (OpenSpec.upto shopPricesSpec)

/-- 'gristmillkeep.ShopMasks', WHERE WHAT IT READS IS OF BULK AT MOST 1048576: true; the input reads as it did. -/
def shopMasksUptoRow : OpenClaim := { program := "ytddbkioejhidoaagreatdoor", sum := "56f85986e649b1bb1062fb86c51874b5f248eaae59b9e885e1c09096d1242b1a", func := "gristmill/gristmillkeep.ShopMasks", spec := "shopMasks", inPlace := ["internal/reflectlite.ValueOf", "(internal/reflectlite.Value).Type", "(internal/reflectlite.Value).IsNil", "internal/reflectlite.TypeOf", "(internal/reflectlite.Value).Elem", "(internal/reflectlite.Value).Set", "slices.overlaps[int]"], unfollowed := true, recurses := true, named := ["errors.errorType"], apart := false, laid := [("errors.errorType", laid_errors_errorType)], narrowed := true }
def ShopMasksUptoSaid : Prop := shopMasksUptoRow.holds Tryz.pinned (OpenSpec.upto shopMasksSpec)

/-- 'gristmillkeep.ShopAhead', WHERE WHAT IT READS IS OF BULK AT MOST 1048576: true; the input reads as it did. -/
def shopAheadUptoRow : OpenClaim := { program := "ytddbkioejhidoaagreatdoor", sum := "56f85986e649b1bb1062fb86c51874b5f248eaae59b9e885e1c09096d1242b1a", func := "gristmill/gristmillkeep.ShopAhead", spec := "shopAhead", inPlace := ["internal/reflectlite.ValueOf", "(internal/reflectlite.Value).Type", "(internal/reflectlite.Value).IsNil", "internal/reflectlite.TypeOf", "(internal/reflectlite.Value).Elem", "(internal/reflectlite.Value).Set", "slices.overlaps[int]"], unfollowed := true, recurses := true, named := ["errors.errorType"], apart := false, laid := [("errors.errorType", laid_errors_errorType)], narrowed := true }
def ShopAheadUptoSaid : Prop := shopAheadUptoRow.holds Tryz.pinned (OpenSpec.upto shopAheadSpec)

/-- 'gristmillkeep.ShopIdle', WHERE WHAT IT READS IS OF BULK AT MOST 1048576: true; the input reads as it did. -/
def shopIdleUptoRow : OpenClaim := { program := "ytddbkioejhidoaagreatdoor", sum := "56f85986e649b1bb1062fb86c51874b5f248eaae59b9e885e1c09096d1242b1a", func := "gristmill/gristmillkeep.ShopIdle", spec := "shopIdle", inPlace := ["internal/reflectlite.ValueOf", "(internal/reflectlite.Value).Type", "(internal/reflectlite.Value).IsNil", "internal/reflectlite.TypeOf", "(internal/reflectlite.Value).Elem", "(internal/reflectlite.Value).Set", "slices.overlaps[int]"], unfollowed := true, recurses := true, named := ["errors.errorType"], apart := false, laid := [("errors.errorType", laid_errors_errorType)], narrowed := true }
def ShopIdleUptoSaid : Prop := shopIdleUptoRow.holds Tryz.pinned (OpenSpec.upto shopIdleSpec)

/-- 'gristmillkeep.ShopPace', WHERE WHAT IT READS IS OF BULK AT MOST 1048576: true; the input reads as it did. -/
def shopPaceUptoRow : OpenClaim := { program := "ytddbkioejhidoaagreatdoor", sum := "56f85986e649b1bb1062fb86c51874b5f248eaae59b9e885e1c09096d1242b1a", func := "gristmill/gristmillkeep.ShopPace", spec := "shopPace", inPlace := ["internal/reflectlite.ValueOf", "(internal/reflectlite.Value).Type", "(internal/reflectlite.Value).IsNil", "internal/reflectlite.TypeOf", "(internal/reflectlite.Value).Elem", "(internal/reflectlite.Value).Set", "slices.overlaps[int]"], unfollowed := true, recurses := true, named := ["errors.errorType"], apart := false, laid := [("errors.errorType", laid_errors_errorType)], narrowed := true }
def ShopPaceUptoSaid : Prop := shopPaceUptoRow.holds Tryz.pinned (OpenSpec.upto shopPaceSpec)

/-- 'gristmillkeep.ShopWaits', WHERE WHAT IT READS IS OF BULK AT MOST 1048576: true; the input reads as it did. -/
def shopWaitsUptoRow : OpenClaim := { program := "ytddbkioejhidoaagreatdoor", sum := "56f85986e649b1bb1062fb86c51874b5f248eaae59b9e885e1c09096d1242b1a", func := "gristmill/gristmillkeep.ShopWaits", spec := "shopWaits", inPlace := ["internal/reflectlite.ValueOf", "(internal/reflectlite.Value).Type", "(internal/reflectlite.Value).IsNil", "internal/reflectlite.TypeOf", "(internal/reflectlite.Value).Elem", "(internal/reflectlite.Value).Set", "slices.overlaps[int]"], unfollowed := true, recurses := true, named := ["errors.errorType"], apart := false, laid := [("errors.errorType", laid_errors_errorType)], narrowed := true }
def ShopWaitsUptoSaid : Prop := shopWaitsUptoRow.holds Tryz.pinned (OpenSpec.upto shopWaitsSpec)

/-- 'gristmillkeep.ShopQuiet', WHERE WHAT IT READS IS OF BULK AT MOST 1048576: true; the input reads as it did. -/
def shopQuietUptoRow : OpenClaim := { program := "ytddbkioejhidoaagreatdoor", sum := "56f85986e649b1bb1062fb86c51874b5f248eaae59b9e885e1c09096d1242b1a", func := "gristmill/gristmillkeep.ShopQuiet", spec := "shopQuiet", inPlace := ["internal/reflectlite.ValueOf", "(internal/reflectlite.Value).Type", "(internal/reflectlite.Value).IsNil", "internal/reflectlite.TypeOf", "(internal/reflectlite.Value).Elem", "(internal/reflectlite.Value).Set", "slices.overlaps[int]"], unfollowed := true, recurses := true, named := ["errors.errorType"], apart := false, laid := [("errors.errorType", laid_errors_errorType)], narrowed := true }
def ShopQuietUptoSaid : Prop := shopQuietUptoRow.holds Tryz.pinned (OpenSpec.upto shopQuietSpec)

end Rows
end Go.Proofs.YtddbkioejhidoaaGreatDoor
