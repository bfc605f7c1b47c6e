/-
  No cell of these rows narrows 'for every input' (looked for: loops, veiled, ifaces, maps, wideKeys, modest, calm, conditions, laid).
  DERIVED. THE GIVEN ROWS OF THIS SEAT. 4 by the template 'for every input the law returns true; each argument reads behind the call as it read before'; 0 by the template 'total and deterministic' (their statements: YtacgihekdmoceaaTotals.lean).
  GIVEN WITH THE SEED: the statements are not yours to turn. If you find one false, say at which input.
  Laid BY PROGRAM, IN A SANDBOX (cutbox-rows.mjs): the forced cells as the released guide's own fill.sh prints them over the translation 76a1eb0014fe8254… (all of the seat's roots in one cut). By AI agents, Wed Nov 11 2026. No macro, syntax, notation, axiom, sorry.
-/
import Derived.Test.YtacgihekdmoceaaChecked
import GoSem.Claim
import GoSem.ClaimJoined
import GoSem.ClaimMapViews
import Derived.JoinedTies
import Derived.KernelRfl
namespace Go.Proofs.Ytacgihekdmoceaa
/- THE CELL 'sum', in the pinned program and in every row, IS THE sha256 OF THE DUMP (.gsa) THAT YtacgihekdmoceaaProg.lean LOADS. Nothing in Lean hashes anything: it is a label: what it is worth is what the hold of that sum in a sandbox is worth. -/
noncomputable def Try.pinned : Pinned := { name := "ytacgihekdmoceaa", sum := "76a1eb0014fe82544d4cab47ca9af1e64073f5b8533913c0a5b64ebe03a2a7e1", checked := Try.checked }
namespace Rows
def none {H : Type} : Left H := { results := [], args := [] }

/-- 'gristmillkeep.RecordLooks': WHATEVER THE INPUT: true; the input reads as it did. -/
def recordLooksSpec : ChangeSpec := { name := "recordLooks", fn := fun _ => fun
  | [d1, d2, d3] => { results := [.lit (.bool true)], args := [d1, d2, d3] }
  | _ => none }
def recordLooksRow : OpenClaim := { program := "ytacgihekdmoceaa", sum := "76a1eb0014fe82544d4cab47ca9af1e64073f5b8533913c0a5b64ebe03a2a7e1", func := "gristmill/gristmillkeep.RecordLooks", spec := "recordLooks", inPlace := ["slices.overlaps[int]"], unfollowed := true, recurses := true, apart := false }
def RecordLooksSaid : Prop := recordLooksRow.holds Try.pinned (OpenSpec.ofChange recordLooksSpec)

/-- ITS FALSE NEIGHBOUR: 'it returns false'. Refute it at one input. -/
def recordLooksWrong : ChangeSpec := { name := "recordLooks", fn := fun _ => fun
  | [d1, d2, d3] => { results := [.lit (.bool false)], args := [d1, d2, d3] }
  | _ => none }
def RecordLooksWrongFalsely : Prop := recordLooksRow.holds Try.pinned (OpenSpec.ofChange recordLooksWrong)

/-- 'gristmillkeep.RecordTwice': WHATEVER THE INPUT: true; the input reads as it did. -/
def recordTwiceSpec : ChangeSpec := { name := "recordTwice", fn := fun _ => fun
  | [d1, d2, d3, d4, d5] => { results := [.lit (.bool true)], args := [d1, d2, d3, d4, d5] }
  | _ => none }
def recordTwiceRow : OpenClaim := { program := "ytacgihekdmoceaa", sum := "76a1eb0014fe82544d4cab47ca9af1e64073f5b8533913c0a5b64ebe03a2a7e1", func := "gristmill/gristmillkeep.RecordTwice", spec := "recordTwice", inPlace := ["slices.overlaps[int]"], unfollowed := true, recurses := true, apart := false }
def RecordTwiceSaid : Prop := recordTwiceRow.holds Try.pinned (OpenSpec.ofChange recordTwiceSpec)

/-- ITS FALSE NEIGHBOUR: 'it returns false'. Refute it at one input. -/
def recordTwiceWrong : ChangeSpec := { name := "recordTwice", fn := fun _ => fun
  | [d1, d2, d3, d4, d5] => { results := [.lit (.bool false)], args := [d1, d2, d3, d4, d5] }
  | _ => none }
def RecordTwiceWrongFalsely : Prop := recordTwiceRow.holds Try.pinned (OpenSpec.ofChange recordTwiceWrong)

/-- 'gristmillkeep.RecordStays': WHATEVER THE INPUT: true; the input reads as it did. -/
def recordStaysSpec : ChangeSpec := { name := "recordStays", fn := fun _ => fun
  | [d1, d2, d3, d4, d5] => { results := [.lit (.bool true)], args := [d1, d2, d3, d4, d5] }
  | _ => none }
def recordStaysRow : OpenClaim := { program := "ytacgihekdmoceaa", sum := "76a1eb0014fe82544d4cab47ca9af1e64073f5b8533913c0a5b64ebe03a2a7e1", func := "gristmill/gristmillkeep.RecordStays", spec := "recordStays", inPlace := ["slices.overlaps[int]"], unfollowed := true, recurses := true, apart := false }
def RecordStaysSaid : Prop := recordStaysRow.holds Try.pinned (OpenSpec.ofChange recordStaysSpec)

/-- ITS FALSE NEIGHBOUR: 'it returns false'. Refute it at one input. -/
def recordStaysWrong : ChangeSpec := { name := "recordStays", fn := fun _ => fun
  | [d1, d2, d3, d4, d5] => { results := [.lit (.bool false)], args := [d1, d2, d3, d4, d5] }
  | _ => none }
def RecordStaysWrongFalsely : Prop := recordStaysRow.holds Try.pinned (OpenSpec.ofChange recordStaysWrong)

/-- 'gristmillkeep.RecordTells': WHATEVER THE INPUT: true; the input reads as it did. -/
def recordTellsSpec : ChangeSpec := { name := "recordTells", fn := fun _ => fun
  | [d1, d2, d3, d4] => { results := [.lit (.bool true)], args := [d1, d2, d3, d4] }
  | _ => none }
def recordTellsRow : OpenClaim := { program := "ytacgihekdmoceaa", sum := "76a1eb0014fe82544d4cab47ca9af1e64073f5b8533913c0a5b64ebe03a2a7e1", func := "gristmill/gristmillkeep.RecordTells", spec := "recordTells", inPlace := ["slices.overlaps[int]"], unfollowed := true, recurses := true, apart := false }
def RecordTellsSaid : Prop := recordTellsRow.holds Try.pinned (OpenSpec.ofChange recordTellsSpec)

/-- ITS FALSE NEIGHBOUR: 'it returns false'. Refute it at one input. -/
def recordTellsWrong : ChangeSpec := { name := "recordTells", fn := fun _ => fun
  | [d1, d2, d3, d4] => { results := [.lit (.bool false)], args := [d1, d2, d3, d4] }
  | _ => none }
def RecordTellsWrongFalsely : Prop := recordTellsRow.holds Try.pinned (OpenSpec.ofChange recordTellsWrong)

/- THE SECOND FORM. 'bulk': how many values and letters a reading holds, each counted each time it is reached (what is shared counts as often as it is met; a slice's spare places count too). A statement '..UptoSaid' is the law's where the arguments, and the package variables that the reading takes, are together of bulk at most 1048576: NARROWER than '..Said'. Prove '..Said' where nothing that the law and all that it calls make is longer than what came in: it says more and counts as full. Else prove '..UptoSaid'. A law counts once. -/
mutual
def uptoBulk {H : Type} : DataW H → Nat
  | .lit (.string bytes) => bytes.length + 1
  | .lit _ => 1
  | .nil => 1
  | .ptr d => uptoBulk d + 1
  | .slice elems spare => uptoBulkAll elems + uptoBulkAll spare + 1
  | .agg parts => uptoBulkAll parts + 1
  | .iface _ d => uptoBulk d + 1
  | .map entries => uptoBulkEntries entries + 1
  | .held _ => 1
def uptoBulkAll {H : Type} : List (DataW H) → Nat
  | [] => 0
  | d :: r => uptoBulk d + uptoBulkAll r
def uptoBulkEntries {H : Type} : List (Lit × DataW H) → Nat
  | [] => 0
  | x :: r => uptoBulkEntry x + uptoBulkEntries r
def uptoBulkEntry {H : Type} : Lit × DataW H → Nat
  | (.string bytes, d) => bytes.length + uptoBulk d + 1
  | (_, d) => uptoBulk d + 1
 end
def uptoSmall : (H : Type) → List (DataW H) → Bool := fun _ ds => decide (uptoBulkAll ds ≤ 1048576)
def OpenSpec.upto (s : _root_.Go.ChangeSpec) : _root_.Go.OpenSpec := { _root_.Go.OpenSpec.ofChange s with cond := some uptoSmall }

/-- 'gristmillkeep.RecordLooks', WHERE WHAT IT READS IS OF BULK AT MOST 1048576: true; the input reads as it did. -/
def recordLooksUptoRow : OpenClaim := { program := "ytacgihekdmoceaa", sum := "76a1eb0014fe82544d4cab47ca9af1e64073f5b8533913c0a5b64ebe03a2a7e1", func := "gristmill/gristmillkeep.RecordLooks", spec := "recordLooks", inPlace := ["slices.overlaps[int]"], unfollowed := true, recurses := true, apart := false, narrowed := true }
def RecordLooksUptoSaid : Prop := recordLooksUptoRow.holds Try.pinned (OpenSpec.upto recordLooksSpec)

/-- 'gristmillkeep.RecordTwice', WHERE WHAT IT READS IS OF BULK AT MOST 1048576: true; the input reads as it did. -/
def recordTwiceUptoRow : OpenClaim := { program := "ytacgihekdmoceaa", sum := "76a1eb0014fe82544d4cab47ca9af1e64073f5b8533913c0a5b64ebe03a2a7e1", func := "gristmill/gristmillkeep.RecordTwice", spec := "recordTwice", inPlace := ["slices.overlaps[int]"], unfollowed := true, recurses := true, apart := false, narrowed := true }
def RecordTwiceUptoSaid : Prop := recordTwiceUptoRow.holds Try.pinned (OpenSpec.upto recordTwiceSpec)

/-- 'gristmillkeep.RecordStays', WHERE WHAT IT READS IS OF BULK AT MOST 1048576: true; the input reads as it did. -/
def recordStaysUptoRow : OpenClaim := { program := "ytacgihekdmoceaa", sum := "76a1eb0014fe82544d4cab47ca9af1e64073f5b8533913c0a5b64ebe03a2a7e1", func := "gristmill/gristmillkeep.RecordStays", spec := "recordStays", inPlace := ["slices.overlaps[int]"], unfollowed := true, recurses := true, apart := false, narrowed := true }
def RecordStaysUptoSaid : Prop := recordStaysUptoRow.holds Try.pinned (OpenSpec.upto recordStaysSpec)

/-- 'gristmillkeep.RecordTells', WHERE WHAT IT READS IS OF BULK AT MOST 1048576: true; the input reads as it did. -/
def recordTellsUptoRow : OpenClaim := { program := "ytacgihekdmoceaa", sum := "76a1eb0014fe82544d4cab47ca9af1e64073f5b8533913c0a5b64ebe03a2a7e1", func := "gristmill/gristmillkeep.RecordTells", spec := "recordTells", inPlace := ["slices.overlaps[int]"], unfollowed := true, recurses := true, apart := false, narrowed := true }
def RecordTellsUptoSaid : Prop := recordTellsUptoRow.holds Try.pinned (OpenSpec.upto recordTellsSpec)

end Rows
end Go.Proofs.Ytacgihekdmoceaa
