/-
  NARROWER THAN 'FOR EVERY INPUT', by the rows' own cells (each row's printed sentence says how): ShopMany: laid · ShopFits: laid · ShopDetects: laid · ShopAgain: laid · ShopEnds: laid.
  DERIVED. THE GIVEN ROWS OF THIS SEAT. 5 by the template 'for every input the law returns true; each argument reads behind the call as it read before'; 0 by the template 'total and deterministic' (their statements: YtnhoblgmlmodnaaGreatDoorTotals.lean).
  GIVEN WITH THE SEED: the statements are not yours to turn. If you find one false, say at which input.
  Laid BY PROGRAM, IN A SANDBOX (cutbox-rows.mjs): the forced cells as the released guide's own fill.sh prints them over the translation 35a94e93fb67e6aa… (all of the seat's roots in one cut). By AI agents, Wed Nov 11 2026. No macro, syntax, notation, axiom, sorry.
-/
import Derived.Test.YtnhoblgmlmodnaaGreatDoorChecked
import GoSem.Claim
import GoSem.ClaimJoined
import GoSem.ClaimMapViews
import Derived.JoinedTies
import Derived.KernelRfl
namespace Go.Proofs.YtnhoblgmlmodnaaGreatDoor
/- THE CELL 'sum', in the pinned program and in every row, IS THE sha256 OF THE DUMP (.gsa) THAT YtnhoblgmlmodnaaGreatDoorProg.lean LOADS. Nothing in Lean hashes anything: it is a label: what it is worth is what the hold of that sum in a sandbox is worth. -/
noncomputable def Tryz.pinned : Pinned := { name := "ytnhoblgmlmodnaagreatdoor", sum := "35a94e93fb67e6aa12d4448bf151a2c172f2f1f1aa853f29e5991a550ee813d4", checked := Tryz.checked }
namespace Rows
def none {H : Type} : Left H := { results := [], args := [] }

/- WHAT THE LISTED PACKAGE-LEVEL VARIABLES READ AS WHEN THE CALL BEGINS. Each datum BY PROGRAM (the guide's laid-datum.mjs) off the statement by which the dump's own 'gosem.cut.vars' lays the variable. In a bare row this is a premise. The card (YtnhoblgmlmodnaaGreatDoorCards.lean) ties it to the program's text. -/
def laid_errors_errorType {H : Type} : DataW H := .iface "internal/reflectlite.rtype" (.agg [.ptr (.lit (.string [101, 114, 114, 111, 114]))])

/-- 'gristmillkeep.ShopMany': WHATEVER THE INPUT: true; the input reads as it did. -/
def shopManySpec : ChangeSpec := { name := "shopMany", fn := fun _ => fun
  | [d1, d2, d3, d4] => { results := [.lit (.bool true)], args := [d1, d2, d3, d4] }
  | _ => none }
def shopManyRow : OpenClaim := { program := "ytnhoblgmlmodnaagreatdoor", sum := "35a94e93fb67e6aa12d4448bf151a2c172f2f1f1aa853f29e5991a550ee813d4", func := "gristmill/gristmillkeep.ShopMany", spec := "shopMany", inPlace := ["internal/reflectlite.ValueOf", "(internal/reflectlite.Value).Type", "(internal/reflectlite.Value).IsNil", "internal/reflectlite.TypeOf", "(internal/reflectlite.Value).Elem", "(internal/reflectlite.Value).Set", "slices.overlaps[int]"], unfollowed := true, recurses := true, named := ["errors.errorType"], apart := false, laid := [("errors.errorType", laid_errors_errorType)] }
def ShopManySaid : Prop := shopManyRow.holds Tryz.pinned (OpenSpec.ofChange shopManySpec)

/-- ITS FALSE NEIGHBOUR: 'it returns false'. Refute it at one input. -/
def shopManyWrong : ChangeSpec := { name := "shopMany", fn := fun _ => fun
  | [d1, d2, d3, d4] => { results := [.lit (.bool false)], args := [d1, d2, d3, d4] }
  | _ => none }
def ShopManyWrongFalsely : Prop := shopManyRow.holds Tryz.pinned (OpenSpec.ofChange shopManyWrong)

/-- 'gristmillkeep.ShopFits': WHATEVER THE INPUT: true; the input reads as it did. -/
def shopFitsSpec : ChangeSpec := { name := "shopFits", fn := fun _ => fun
  | [d1, d2] => { results := [.lit (.bool true)], args := [d1, d2] }
  | _ => none }
def shopFitsRow : OpenClaim := { program := "ytnhoblgmlmodnaagreatdoor", sum := "35a94e93fb67e6aa12d4448bf151a2c172f2f1f1aa853f29e5991a550ee813d4", func := "gristmill/gristmillkeep.ShopFits", spec := "shopFits", inPlace := ["internal/reflectlite.ValueOf", "(internal/reflectlite.Value).Type", "(internal/reflectlite.Value).IsNil", "internal/reflectlite.TypeOf", "(internal/reflectlite.Value).Elem", "(internal/reflectlite.Value).Set", "slices.overlaps[int]"], unfollowed := true, recurses := true, named := ["errors.errorType"], apart := false, laid := [("errors.errorType", laid_errors_errorType)] }
def ShopFitsSaid : Prop := shopFitsRow.holds Tryz.pinned (OpenSpec.ofChange shopFitsSpec)

/-- ITS FALSE NEIGHBOUR: 'it returns false'. Refute it at one input. -/
def shopFitsWrong : ChangeSpec := { name := "shopFits", fn := fun _ => fun
  | [d1, d2] => { results := [.lit (.bool false)], args := [d1, d2] }
  | _ => none }
def ShopFitsWrongFalsely : Prop := shopFitsRow.holds Tryz.pinned (OpenSpec.ofChange shopFitsWrong)

/-- 'gristmillkeep.ShopDetects': WHATEVER THE INPUT: true; the input reads as it did. -/
def shopDetectsSpec : ChangeSpec := { name := "shopDetects", fn := fun _ => fun
  | [d1, d2, d3] => { results := [.lit (.bool true)], args := [d1, d2, d3] }
  | _ => none }
def shopDetectsRow : OpenClaim := { program := "ytnhoblgmlmodnaagreatdoor", sum := "35a94e93fb67e6aa12d4448bf151a2c172f2f1f1aa853f29e5991a550ee813d4", func := "gristmill/gristmillkeep.ShopDetects", spec := "shopDetects", inPlace := ["internal/reflectlite.ValueOf", "(internal/reflectlite.Value).Type", "(internal/reflectlite.Value).IsNil", "internal/reflectlite.TypeOf", "(internal/reflectlite.Value).Elem", "(internal/reflectlite.Value).Set", "slices.overlaps[int]"], unfollowed := true, recurses := true, named := ["errors.errorType"], apart := false, laid := [("errors.errorType", laid_errors_errorType)] }
def ShopDetectsSaid : Prop := shopDetectsRow.holds Tryz.pinned (OpenSpec.ofChange shopDetectsSpec)

/-- ITS FALSE NEIGHBOUR: 'it returns false'. Refute it at one input. -/
def shopDetectsWrong : ChangeSpec := { name := "shopDetects", fn := fun _ => fun
  | [d1, d2, d3] => { results := [.lit (.bool false)], args := [d1, d2, d3] }
  | _ => none }
def ShopDetectsWrongFalsely : Prop := shopDetectsRow.holds Tryz.pinned (OpenSpec.ofChange shopDetectsWrong)

/-- 'gristmillkeep.ShopAgain': WHATEVER THE INPUT: true; the input reads as it did. -/
def shopAgainSpec : ChangeSpec := { name := "shopAgain", fn := fun _ => fun
  | [d1, d2, d3, d4] => { results := [.lit (.bool true)], args := [d1, d2, d3, d4] }
  | _ => none }
def shopAgainRow : OpenClaim := { program := "ytnhoblgmlmodnaagreatdoor", sum := "35a94e93fb67e6aa12d4448bf151a2c172f2f1f1aa853f29e5991a550ee813d4", func := "gristmill/gristmillkeep.ShopAgain", spec := "shopAgain", inPlace := ["internal/reflectlite.ValueOf", "(internal/reflectlite.Value).Type", "(internal/reflectlite.Value).IsNil", "internal/reflectlite.TypeOf", "(internal/reflectlite.Value).Elem", "(internal/reflectlite.Value).Set", "slices.overlaps[int]"], unfollowed := true, recurses := true, named := ["errors.errorType"], apart := false, laid := [("errors.errorType", laid_errors_errorType)] }
def ShopAgainSaid : Prop := shopAgainRow.holds Tryz.pinned (OpenSpec.ofChange shopAgainSpec)

/-- ITS FALSE NEIGHBOUR: 'it returns false'. Refute it at one input. -/
def shopAgainWrong : ChangeSpec := { name := "shopAgain", fn := fun _ => fun
  | [d1, d2, d3, d4] => { results := [.lit (.bool false)], args := [d1, d2, d3, d4] }
  | _ => none }
def ShopAgainWrongFalsely : Prop := shopAgainRow.holds Tryz.pinned (OpenSpec.ofChange shopAgainWrong)

/-- 'gristmillkeep.ShopEnds': WHATEVER THE INPUT: true; the input reads as it did. -/
def shopEndsSpec : ChangeSpec := { name := "shopEnds", fn := fun _ => fun
  | [d1, d2] => { results := [.lit (.bool true)], args := [d1, d2] }
  | _ => none }
def shopEndsRow : OpenClaim := { program := "ytnhoblgmlmodnaagreatdoor", sum := "35a94e93fb67e6aa12d4448bf151a2c172f2f1f1aa853f29e5991a550ee813d4", func := "gristmill/gristmillkeep.ShopEnds", spec := "shopEnds", inPlace := ["internal/reflectlite.ValueOf", "(internal/reflectlite.Value).Type", "(internal/reflectlite.Value).IsNil", "internal/reflectlite.TypeOf", "(internal/reflectlite.Value).Elem", "(internal/reflectlite.Value).Set", "slices.overlaps[int]"], unfollowed := true, recurses := true, named := ["errors.errorType"], apart := false, laid := [("errors.errorType", laid_errors_errorType)] }
def ShopEndsSaid : Prop := shopEndsRow.holds Tryz.pinned (OpenSpec.ofChange shopEndsSpec)

/-- ITS FALSE NEIGHBOUR: 'it returns false'. Refute it at one input. -/
def shopEndsWrong : ChangeSpec := { name := "shopEnds", fn := fun _ => fun
  | [d1, d2] => { results := [.lit (.bool false)], args := [d1, d2] }
  | _ => none }
def ShopEndsWrongFalsely : Prop := shopEndsRow.holds Tryz.pinned (OpenSpec.ofChange shopEndsWrong)

/- THE SECOND FORM. 'bulk': how many values and letters a reading holds, each counted each time it is reached (what is shared counts as often as it is met; a slice's spare places count too). A statement '..UptoSaid' is the law's where the arguments, and the package variables that the reading takes, are together of bulk at most 1048576: NARROWER than '..Said'. Prove '..Said' where nothing that the law and all that it calls make is longer than what came in: it says more and counts as full. Else prove '..UptoSaid'. A law counts once. -/
mutual
def uptoBulk {H : Type} : DataW H → Nat
  | .lit (.string bytes) => bytes.length + 1
  | .lit _ => 1
  | .nil => 1
  | .ptr d => uptoBulk d + 1
  | .slice elems spare => uptoBulkAll elems + uptoBulkAll spare + 1
  | .agg parts => uptoBulkAll parts + 1
  | .iface _ d => uptoBulk d + 1
  | .map entries => uptoBulkEntries entries + 1
  | .held _ => 1
def uptoBulkAll {H : Type} : List (DataW H) → Nat
  | [] => 0
  | d :: r => uptoBulk d + uptoBulkAll r
def uptoBulkEntries {H : Type} : List (Lit × DataW H) → Nat
  | [] => 0
  | x :: r => uptoBulkEntry x + uptoBulkEntries r
def uptoBulkEntry {H : Type} : Lit × DataW H → Nat
  | (.string bytes, d) => bytes.length + uptoBulk d + 1
  | (_, d) => uptoBulk d + 1
 end
def uptoSmall : (H : Type) → List (DataW H) → Bool := fun _ ds => decide (uptoBulkAll ds ≤ 1048576)
def OpenSpec.upto (s : _root_.Go.ChangeSpec) : _root_.Go.OpenSpec := { _root_.Go.OpenSpec.ofChange s with cond := some uptoSmall }

/-- 'gristmillkeep.ShopMany', WHERE WHAT IT READS IS OF BULK AT MOST 1048576: true; the input reads as it did. -/
def shopManyUptoRow : OpenClaim := { program := "ytnhoblgmlmodnaagreatdoor", sum := "35a94e93fb67e6aa12d4448bf151a2c172f2f1f1aa853f29e5991a550ee813d4", func := "gristmill/gristmillkeep.ShopMany", spec := "shopMany", inPlace := ["internal/reflectlite.ValueOf", "(internal/reflectlite.Value).Type", "(internal/reflectlite.Value).IsNil", "internal/reflectlite.TypeOf", "(internal/reflectlite.Value).Elem", "(internal/reflectlite.Value).Set", "slices.overlaps[int]"], unfollowed := true, recurses := true, named := ["errors.errorType"], apart := false, laid := [("errors.errorType", laid_errors_errorType)], narrowed := true }
def ShopManyUptoSaid : Prop := shopManyUptoRow.holds Tryz.pinned (OpenSpec.upto shopManySpec)

/-- 'gristmillkeep.ShopFits', WHERE WHAT IT READS IS OF BULK AT MOST 1048576: true; the input reads as it did. -/
def shopFitsUptoRow : OpenClaim := { program := "ytnhoblgmlmodnaagreatdoor", sum := "35a94e93fb67e6aa12d4448bf151a2c172f2f1f1aa853f29e5991a550ee813d4", func := "gristmill/gristmillkeep.ShopFits", spec := "shopFits", inPlace := ["internal/reflectlite.ValueOf", "(internal/reflectlite.Value).Type", "(internal/reflectlite.Value).IsNil", "internal/reflectlite.TypeOf", "(internal/reflectlite.Value).Elem", "(internal/reflectlite.Value).Set", "slices.overlaps[int]"], unfollowed := true, recurses := true, named := ["errors.errorType"], apart := false, laid := [("errors.errorType", laid_errors_errorType)], narrowed := true }
def ShopFitsUptoSaid : Prop := shopFitsUptoRow.holds Tryz.pinned (OpenSpec.upto shopFitsSpec)

/-- 'gristmillkeep.ShopDetects', WHERE WHAT IT READS IS OF BULK AT MOST 1048576: true; the input reads as it did. -/
def shopDetectsUptoRow : OpenClaim := { program := "ytnhoblgmlmodnaagreatdoor", sum := "35a94e93fb67e6aa12d4448bf151a2c172f2f1f1aa853f29e5991a550ee813d4", func := "gristmill/gristmillkeep.ShopDetects", spec := "shopDetects", inPlace := ["internal/reflectlite.ValueOf", "(internal/reflectlite.Value).Type", "(internal/reflectlite.Value).IsNil", "internal/reflectlite.TypeOf", "(internal/reflectlite.Value).Elem", "(internal/reflectlite.Value).Set", "slices.overlaps[int]"], unfollowed := true, recurses := true, named := ["errors.errorType"], apart := false, laid := [("errors.errorType", laid_errors_errorType)], narrowed := true }
def ShopDetectsUptoSaid : Prop := shopDetectsUptoRow.holds Tryz.pinned (OpenSpec.upto shopDetectsSpec)

/-- 'gristmillkeep.ShopAgain', WHERE WHAT IT READS IS OF BULK AT MOST 1048576: true; the input reads as it did. -/
def shopAgainUptoRow : OpenClaim := { program := "ytnhoblgmlmodnaagreatdoor", sum := "35a94e93fb67e6aa12d4448bf151a2c172f2f1f1aa853f29e5991a550ee813d4", func := "gristmill/gristmillkeep.ShopAgain", spec := "shopAgain", inPlace := ["internal/reflectlite.ValueOf", "(internal/reflectlite.Value).Type", "(internal/reflectlite.Value).IsNil", "internal/reflectlite.TypeOf", "(internal/reflectlite.Value).Elem", "(internal/reflectlite.Value).Set", "slices.overlaps[int]"], unfollowed := true, recurses := true, named := ["errors.errorType"], apart := false, laid := [("errors.errorType", laid_errors_errorType)], narrowed := true }
def ShopAgainUptoSaid : Prop := shopAgainUptoRow.holds Tryz.pinned (OpenSpec.upto shopAgainSpec)

/-- 'gristmillkeep.ShopEnds', WHERE WHAT IT READS IS OF BULK AT MOST 1048576: true; the input reads as it did. -/
def shopEndsUptoRow : OpenClaim := { program := "ytnhoblgmlmodnaagreatdoor", sum := "35a94e93fb67e6aa12d4448bf151a2c172f2f1f1aa853f29e5991a550ee813d4", func := "gristmill/gristmillkeep.ShopEnds", spec := "shopEnds", inPlace := ["internal/reflectlite.ValueOf", "(internal/reflectlite.Value).Type", "(internal/reflectlite.Value).IsNil", "internal/reflectlite.TypeOf", "(internal/reflectlite.Value).Elem", "(internal/reflectlite.Value).Set", "slices.overlaps[int]"], unfollowed := true, recurses := true, named := ["errors.errorType"], apart := false, laid := [("errors.errorType", laid_errors_errorType)], narrowed := true }
def ShopEndsUptoSaid : Prop := shopEndsUptoRow.holds Tryz.pinned (OpenSpec.upto shopEndsSpec)

end Rows
end Go.Proofs.YtnhoblgmlmodnaaGreatDoor
