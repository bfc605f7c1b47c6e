/-
  NARROWER THAN 'FOR EVERY INPUT', by the rows' own cells (each row's printed sentence says how): JudgeJoins: laid · BatchNone: laid · BatchOnce: laid · BatchFolds: laid · BatchClosed: laid · BatchLegal: laid.
  DERIVED. THE GIVEN ROWS OF THIS SEAT. 6 by the template 'for every input the law returns true; each argument reads behind the call as it read before'; 0 by the template 'total and deterministic' (their statements: YtacgihekdmoceaaDoorTotals.lean).
  GIVEN WITH THE SEED: the statements are not yours to turn. If you find one false, say at which input.
  Laid BY PROGRAM, IN A SANDBOX (cutbox-rows.mjs): the forced cells as the released guide's own fill.sh prints them over the translation aba3f8904ced1cc8… (all of the seat's roots in one cut). By AI agents, Wed Nov 11 2026. No macro, syntax, notation, axiom, sorry.
-/
import Derived.Test.YtacgihekdmoceaaDoorChecked
import GoSem.Claim
import GoSem.ClaimJoined
import GoSem.ClaimMapViews
import Derived.JoinedTies
import Derived.KernelRfl
namespace Go.Proofs.YtacgihekdmoceaaDoor
/- THE CELL 'sum', in the pinned program and in every row, IS THE sha256 OF THE DUMP (.gsa) THAT YtacgihekdmoceaaDoorProg.lean LOADS. Nothing in Lean hashes anything: it is a label: what it is worth is what the hold of that sum in a sandbox is worth. -/
noncomputable def Tryd.pinned : Pinned := { name := "ytacgihekdmoceaadoor", sum := "aba3f8904ced1cc86b2fcc1ebb35a048deebe27d122ea869f539f44222b86773", checked := Tryd.checked }
namespace Rows
def none {H : Type} : Left H := { results := [], args := [] }

/- WHAT THE LISTED PACKAGE-LEVEL VARIABLES READ AS WHEN THE CALL BEGINS. Each datum BY PROGRAM (the guide's laid-datum.mjs) off the statement by which the dump's own 'gosem.cut.vars' lays the variable. In a bare row this is a premise. The card (YtacgihekdmoceaaDoorCards.lean) ties it to the program's text. -/
def laid_errors_errorType {H : Type} : DataW H := .iface "internal/reflectlite.rtype" (.agg [.ptr (.lit (.string [101, 114, 114, 111, 114]))])

/-- 'gristmillkeep.JudgeJoins': WHATEVER THE INPUT: true; the input reads as it did. -/
def judgeJoinsSpec : ChangeSpec := { name := "judgeJoins", fn := fun _ => fun
  | [d1, d2, d3] => { results := [.lit (.bool true)], args := [d1, d2, d3] }
  | _ => none }
def judgeJoinsRow : OpenClaim := { program := "ytacgihekdmoceaadoor", sum := "aba3f8904ced1cc86b2fcc1ebb35a048deebe27d122ea869f539f44222b86773", func := "gristmill/gristmillkeep.JudgeJoins", spec := "judgeJoins", inPlace := ["slices.overlaps[int]", "internal/reflectlite.ValueOf", "(internal/reflectlite.Value).Type", "(internal/reflectlite.Value).IsNil", "internal/reflectlite.TypeOf", "(internal/reflectlite.Value).Elem", "(internal/reflectlite.Value).Set"], unfollowed := true, recurses := true, named := ["errors.errorType"], apart := false, laid := [("errors.errorType", laid_errors_errorType)] }
def JudgeJoinsSaid : Prop := judgeJoinsRow.holds Tryd.pinned (OpenSpec.ofChange judgeJoinsSpec)

/-- ITS FALSE NEIGHBOUR: 'it returns false'. Refute it at one input. -/
def judgeJoinsWrong : ChangeSpec := { name := "judgeJoins", fn := fun _ => fun
  | [d1, d2, d3] => { results := [.lit (.bool false)], args := [d1, d2, d3] }
  | _ => none }
def JudgeJoinsWrongFalsely : Prop := judgeJoinsRow.holds Tryd.pinned (OpenSpec.ofChange judgeJoinsWrong)

/-- 'gristmillkeep.BatchNone': WHATEVER THE INPUT: true; the input reads as it did. -/
def batchNoneSpec : ChangeSpec := { name := "batchNone", fn := fun _ => fun
  | [d1, d2] => { results := [.lit (.bool true)], args := [d1, d2] }
  | _ => none }
def batchNoneRow : OpenClaim := { program := "ytacgihekdmoceaadoor", sum := "aba3f8904ced1cc86b2fcc1ebb35a048deebe27d122ea869f539f44222b86773", func := "gristmill/gristmillkeep.BatchNone", spec := "batchNone", inPlace := ["internal/reflectlite.ValueOf", "(internal/reflectlite.Value).Type", "(internal/reflectlite.Value).IsNil", "internal/reflectlite.TypeOf", "(internal/reflectlite.Value).Elem", "(internal/reflectlite.Value).Set", "slices.overlaps[int]"], unfollowed := true, recurses := true, named := ["errors.errorType"], apart := false, laid := [("errors.errorType", laid_errors_errorType)] }
def BatchNoneSaid : Prop := batchNoneRow.holds Tryd.pinned (OpenSpec.ofChange batchNoneSpec)

/-- ITS FALSE NEIGHBOUR: 'it returns false'. Refute it at one input. -/
def batchNoneWrong : ChangeSpec := { name := "batchNone", fn := fun _ => fun
  | [d1, d2] => { results := [.lit (.bool false)], args := [d1, d2] }
  | _ => none }
def BatchNoneWrongFalsely : Prop := batchNoneRow.holds Tryd.pinned (OpenSpec.ofChange batchNoneWrong)

/-- 'gristmillkeep.BatchOnce': WHATEVER THE INPUT: true; the input reads as it did. -/
def batchOnceSpec : ChangeSpec := { name := "batchOnce", fn := fun _ => fun
  | [d1, d2, d3] => { results := [.lit (.bool true)], args := [d1, d2, d3] }
  | _ => none }
def batchOnceRow : OpenClaim := { program := "ytacgihekdmoceaadoor", sum := "aba3f8904ced1cc86b2fcc1ebb35a048deebe27d122ea869f539f44222b86773", func := "gristmill/gristmillkeep.BatchOnce", spec := "batchOnce", inPlace := ["internal/reflectlite.ValueOf", "(internal/reflectlite.Value).Type", "(internal/reflectlite.Value).IsNil", "internal/reflectlite.TypeOf", "(internal/reflectlite.Value).Elem", "(internal/reflectlite.Value).Set", "slices.overlaps[int]"], unfollowed := true, recurses := true, named := ["errors.errorType"], apart := false, laid := [("errors.errorType", laid_errors_errorType)] }
def BatchOnceSaid : Prop := batchOnceRow.holds Tryd.pinned (OpenSpec.ofChange batchOnceSpec)

/-- ITS FALSE NEIGHBOUR: 'it returns false'. Refute it at one input. -/
def batchOnceWrong : ChangeSpec := { name := "batchOnce", fn := fun _ => fun
  | [d1, d2, d3] => { results := [.lit (.bool false)], args := [d1, d2, d3] }
  | _ => none }
def BatchOnceWrongFalsely : Prop := batchOnceRow.holds Tryd.pinned (OpenSpec.ofChange batchOnceWrong)

/-- 'gristmillkeep.BatchFolds': WHATEVER THE INPUT: true; the input reads as it did. -/
def batchFoldsSpec : ChangeSpec := { name := "batchFolds", fn := fun _ => fun
  | [d1, d2, d3] => { results := [.lit (.bool true)], args := [d1, d2, d3] }
  | _ => none }
def batchFoldsRow : OpenClaim := { program := "ytacgihekdmoceaadoor", sum := "aba3f8904ced1cc86b2fcc1ebb35a048deebe27d122ea869f539f44222b86773", func := "gristmill/gristmillkeep.BatchFolds", spec := "batchFolds", inPlace := ["internal/reflectlite.ValueOf", "(internal/reflectlite.Value).Type", "(internal/reflectlite.Value).IsNil", "internal/reflectlite.TypeOf", "(internal/reflectlite.Value).Elem", "(internal/reflectlite.Value).Set", "slices.overlaps[int]"], unfollowed := true, recurses := true, named := ["errors.errorType"], apart := false, laid := [("errors.errorType", laid_errors_errorType)] }
def BatchFoldsSaid : Prop := batchFoldsRow.holds Tryd.pinned (OpenSpec.ofChange batchFoldsSpec)

/-- ITS FALSE NEIGHBOUR: 'it returns false'. Refute it at one input. -/
def batchFoldsWrong : ChangeSpec := { name := "batchFolds", fn := fun _ => fun
  | [d1, d2, d3] => { results := [.lit (.bool false)], args := [d1, d2, d3] }
  | _ => none }
def BatchFoldsWrongFalsely : Prop := batchFoldsRow.holds Tryd.pinned (OpenSpec.ofChange batchFoldsWrong)

/-- 'gristmillkeep.BatchClosed': WHATEVER THE INPUT: true; the input reads as it did. -/
def batchClosedSpec : ChangeSpec := { name := "batchClosed", fn := fun _ => fun
  | [d1, d2, d3, d4, d5, d6] => { results := [.lit (.bool true)], args := [d1, d2, d3, d4, d5, d6] }
  | _ => none }
def batchClosedRow : OpenClaim := { program := "ytacgihekdmoceaadoor", sum := "aba3f8904ced1cc86b2fcc1ebb35a048deebe27d122ea869f539f44222b86773", func := "gristmill/gristmillkeep.BatchClosed", spec := "batchClosed", inPlace := ["internal/reflectlite.ValueOf", "(internal/reflectlite.Value).Type", "(internal/reflectlite.Value).IsNil", "internal/reflectlite.TypeOf", "(internal/reflectlite.Value).Elem", "(internal/reflectlite.Value).Set", "slices.overlaps[int]", "slices.overlaps[gristmill/batch.Ask]"], unfollowed := true, recurses := true, named := ["errors.errorType"], apart := false, laid := [("errors.errorType", laid_errors_errorType)] }
def BatchClosedSaid : Prop := batchClosedRow.holds Tryd.pinned (OpenSpec.ofChange batchClosedSpec)

/-- ITS FALSE NEIGHBOUR: 'it returns false'. Refute it at one input. -/
def batchClosedWrong : ChangeSpec := { name := "batchClosed", fn := fun _ => fun
  | [d1, d2, d3, d4, d5, d6] => { results := [.lit (.bool false)], args := [d1, d2, d3, d4, d5, d6] }
  | _ => none }
def BatchClosedWrongFalsely : Prop := batchClosedRow.holds Tryd.pinned (OpenSpec.ofChange batchClosedWrong)

/-- 'gristmillkeep.BatchLegal': WHATEVER THE INPUT: true; the input reads as it did. -/
def batchLegalSpec : ChangeSpec := { name := "batchLegal", fn := fun _ => fun
  | [d1, d2, d3] => { results := [.lit (.bool true)], args := [d1, d2, d3] }
  | _ => none }
def batchLegalRow : OpenClaim := { program := "ytacgihekdmoceaadoor", sum := "aba3f8904ced1cc86b2fcc1ebb35a048deebe27d122ea869f539f44222b86773", func := "gristmill/gristmillkeep.BatchLegal", spec := "batchLegal", inPlace := ["internal/reflectlite.ValueOf", "(internal/reflectlite.Value).Type", "(internal/reflectlite.Value).IsNil", "internal/reflectlite.TypeOf", "(internal/reflectlite.Value).Elem", "(internal/reflectlite.Value).Set", "slices.overlaps[int]"], unfollowed := true, recurses := true, named := ["errors.errorType"], apart := false, laid := [("errors.errorType", laid_errors_errorType)] }
def BatchLegalSaid : Prop := batchLegalRow.holds Tryd.pinned (OpenSpec.ofChange batchLegalSpec)

/-- ITS FALSE NEIGHBOUR: 'it returns false'. Refute it at one input. -/
def batchLegalWrong : ChangeSpec := { name := "batchLegal", fn := fun _ => fun
  | [d1, d2, d3] => { results := [.lit (.bool false)], args := [d1, d2, d3] }
  | _ => none }
def BatchLegalWrongFalsely : Prop := batchLegalRow.holds Tryd.pinned (OpenSpec.ofChange batchLegalWrong)

/- THE SECOND FORM. 'bulk': how many values and letters a reading holds, each counted each time it is reached (what is shared counts as often as it is met; a slice's spare places count too). A statement '..UptoSaid' is the law's where the arguments, and the package variables that the reading takes, are together of bulk at most 1048576: NARROWER than '..Said'. Prove '..Said' where nothing that the law and all that it calls make is longer than what came in: it says more and counts as full. Else prove '..UptoSaid'. A law counts once. -/
mutual
def uptoBulk {H : Type} : DataW H → Nat
  | .lit (.string bytes) => bytes.length + 1
  | .lit _ => 1
  | .nil => 1
  | .ptr d => uptoBulk d + 1
  | .slice elems spare => uptoBulkAll elems + uptoBulkAll spare + 1
  | .agg parts => uptoBulkAll parts + 1
  | .iface _ d => uptoBulk d + 1
  | .map entries => uptoBulkEntries entries + 1
  | .held _ => 1
def uptoBulkAll {H : Type} : List (DataW H) → Nat
  | [] => 0
  | d :: r => uptoBulk d + uptoBulkAll r
def uptoBulkEntries {H : Type} : List (Lit × DataW H) → Nat
  | [] => 0
  | x :: r => uptoBulkEntry x + uptoBulkEntries r
def uptoBulkEntry {H : Type} : Lit × DataW H → Nat
  | (.string bytes, d) => bytes.length + uptoBulk d + 1
  | (_, d) => uptoBulk d + 1
 end
def uptoSmall : (H : Type) → List (DataW H) → Bool := fun _ ds => decide (uptoBulkAll ds ≤ 1048576)
def OpenSpec.upto (s : _root_.Go.ChangeSpec) : _root_.Go.OpenSpec := { _root_.Go.OpenSpec.ofChange s with cond := some uptoSmall }

/-- 'gristmillkeep.JudgeJoins', WHERE WHAT IT READS IS OF BULK AT MOST 1048576: true; the input reads as it did. -/
def judgeJoinsUptoRow : OpenClaim := { program := "ytacgihekdmoceaadoor", sum := "aba3f8904ced1cc86b2fcc1ebb35a048deebe27d122ea869f539f44222b86773", func := "gristmill/gristmillkeep.JudgeJoins", spec := "judgeJoins", inPlace := ["slices.overlaps[int]", "internal/reflectlite.ValueOf", "(internal/reflectlite.Value).Type", "(internal/reflectlite.Value).IsNil", "internal/reflectlite.TypeOf", "(internal/reflectlite.Value).Elem", "(internal/reflectlite.Value).Set"], unfollowed := true, recurses := true, named := ["errors.errorType"], apart := false, laid := [("errors.errorType", laid_errors_errorType)], narrowed := true }
def JudgeJoinsUptoSaid : Prop := judgeJoinsUptoRow.holds Tryd.pinned (OpenSpec.upto judgeJoinsSpec)

/-- 'gristmillkeep.BatchNone', WHERE WHAT IT READS IS OF BULK AT MOST 1048576: true; the input reads as it did. -/
def batchNoneUptoRow : OpenClaim := { program := "ytacgihekdmoceaadoor", sum := "aba3f8904ced1cc86b2fcc1ebb35a048deebe27d122ea869f539f44222b86773", func := "gristmill/gristmillkeep.BatchNone", spec := "batchNone", inPlace := ["internal/reflectlite.ValueOf", "(internal/reflectlite.Value).Type", "(internal/reflectlite.Value).IsNil", "internal/reflectlite.TypeOf", "(internal/reflectlite.Value).Elem", "(internal/reflectlite.Value).Set", "slices.overlaps[int]"], unfollowed := true, recurses := true, named := ["errors.errorType"], apart := false, laid := [("errors.errorType", laid_errors_errorType)], narrowed := true }
def BatchNoneUptoSaid : Prop := batchNoneUptoRow.holds Tryd.pinned (OpenSpec.upto batchNoneSpec)

/-- 'gristmillkeep.BatchOnce', WHERE WHAT IT READS IS OF BULK AT MOST 1048576: true; the input reads as it did. -/
def batchOnceUptoRow : OpenClaim := { program := "ytacgihekdmoceaadoor", sum := "aba3f8904ced1cc86b2fcc1ebb35a048deebe27d122ea869f539f44222b86773", func := "gristmill/gristmillkeep.BatchOnce", spec := "batchOnce", inPlace := ["internal/reflectlite.ValueOf", "(internal/reflectlite.Value).Type", "(internal/reflectlite.Value).IsNil", "internal/reflectlite.TypeOf", "(internal/reflectlite.Value).Elem", "(internal/reflectlite.Value).Set", "slices.overlaps[int]"], unfollowed := true, recurses := true, named := ["errors.errorType"], apart := false, laid := [("errors.errorType", laid_errors_errorType)], narrowed := true }
def BatchOnceUptoSaid : Prop := batchOnceUptoRow.holds Tryd.pinned (OpenSpec.upto batchOnceSpec)

/-- 'gristmillkeep.BatchFolds', WHERE WHAT IT READS IS OF BULK AT MOST 1048576: true; the input reads as it did. -/
def batchFoldsUptoRow : OpenClaim := { program := "ytacgihekdmoceaadoor", sum := "aba3f8904ced1cc86b2fcc1ebb35a048deebe27d122ea869f539f44222b86773", func := "gristmill/gristmillkeep.BatchFolds", spec := "batchFolds", inPlace := ["internal/reflectlite.ValueOf", "(internal/reflectlite.Value).Type", "(internal/reflectlite.Value).IsNil", "internal/reflectlite.TypeOf", "(internal/reflectlite.Value).Elem", "(internal/reflectlite.Value).Set", "slices.overlaps[int]"], unfollowed := true, recurses := true, named := ["errors.errorType"], apart := false, laid := [("errors.errorType", laid_errors_errorType)], narrowed := true }
def BatchFoldsUptoSaid : Prop := batchFoldsUptoRow.holds Tryd.pinned (OpenSpec.upto batchFoldsSpec)

/-- 'gristmillkeep.BatchClosed', WHERE WHAT IT READS IS OF BULK AT MOST 1048576: true; the input reads as it did. -/
def batchClosedUptoRow : OpenClaim := { program := "ytacgihekdmoceaadoor", sum := "aba3f8904ced1cc86b2fcc1ebb35a048deebe27d122ea869f539f44222b86773", func := "gristmill/gristmillkeep.BatchClosed", spec := "batchClosed", inPlace := ["internal/reflectlite.ValueOf", "(internal/reflectlite.Value).Type", "(internal/reflectlite.Value).IsNil", "internal/reflectlite.TypeOf", "(internal/reflectlite.Value).Elem", "(internal/reflectlite.Value).Set", "slices.overlaps[int]", "slices.overlaps[gristmill/batch.Ask]"], unfollowed := true, recurses := true, named := ["errors.errorType"], apart := false, laid := [("errors.errorType", laid_errors_errorType)], narrowed := true }
def BatchClosedUptoSaid : Prop := batchClosedUptoRow.holds Tryd.pinned (OpenSpec.upto batchClosedSpec)

/-- 'gristmillkeep.BatchLegal', WHERE WHAT IT READS IS OF BULK AT MOST 1048576: true; the input reads as it did. -/
def batchLegalUptoRow : OpenClaim := { program := "ytacgihekdmoceaadoor", sum := "aba3f8904ced1cc86b2fcc1ebb35a048deebe27d122ea869f539f44222b86773", func := "gristmill/gristmillkeep.BatchLegal", spec := "batchLegal", inPlace := ["internal/reflectlite.ValueOf", "(internal/reflectlite.Value).Type", "(internal/reflectlite.Value).IsNil", "internal/reflectlite.TypeOf", "(internal/reflectlite.Value).Elem", "(internal/reflectlite.Value).Set", "slices.overlaps[int]"], unfollowed := true, recurses := true, named := ["errors.errorType"], apart := false, laid := [("errors.errorType", laid_errors_errorType)], narrowed := true }
def BatchLegalUptoSaid : Prop := batchLegalUptoRow.holds Tryd.pinned (OpenSpec.upto batchLegalSpec)

end Rows
end Go.Proofs.YtacgihekdmoceaaDoor
