/-
  No cell of these rows narrows 'for every input' (looked for: loops, veiled, ifaces, maps, wideKeys, modest, calm, conditions, laid).
  DERIVED. THE GIVEN ROWS OF THIS SEAT. 14 by the template 'for every input the law returns true; each argument reads behind the call as it read before'; 0 by the template 'total and deterministic' (their statements: YtpedkcpkdacnlaaTotals.lean).
  GIVEN WITH THE SEED: the statements are not yours to turn. If you find one false, say at which input.
  Laid BY PROGRAM, IN A SANDBOX (cutbox-rows.mjs): the forced cells as the released guide's own fill.sh prints them over the translation e35cca072480bae5… (all of the seat's roots in one cut). By AI agents, Wed Nov 11 2026. No macro, syntax, notation, axiom, sorry.
-/
import Derived.Test.YtpedkcpkdacnlaaChecked
import GoSem.Claim
import GoSem.ClaimJoined
import GoSem.ClaimMapViews
import Derived.JoinedTies
import Derived.KernelRfl
namespace Go.Proofs.Ytpedkcpkdacnlaa
/- THE CELL 'sum', in the pinned program and in every row, IS THE sha256 OF THE DUMP (.gsa) THAT YtpedkcpkdacnlaaProg.lean LOADS. Nothing in Lean hashes anything: it is a label: what it is worth is what the hold of that sum in a sandbox is worth. -/
noncomputable def Try.pinned : Pinned := { name := "ytpedkcpkdacnlaa", sum := "e35cca072480bae5ff191a84e05533f9fce7cc6f6d2a944a8409d99ffa0dd63f", checked := Try.checked }
namespace Rows
def none {H : Type} : Left H := { results := [], args := [] }

/-- 'gristmillkeep.HeapRises': WHATEVER THE INPUT: true; the input reads as it did. -/
def heapRisesSpec : ChangeSpec := { name := "heapRises", fn := fun _ => fun
  | [d] => { results := [.lit (.bool true)], args := [d] }
  | _ => none }
def heapRisesRow : OpenClaim := { program := "ytpedkcpkdacnlaa", sum := "e35cca072480bae5ff191a84e05533f9fce7cc6f6d2a944a8409d99ffa0dd63f", func := "gristmill/gristmillkeep.HeapRises", spec := "heapRises", apart := false }
def HeapRisesSaid : Prop := heapRisesRow.holds Try.pinned (OpenSpec.ofChange heapRisesSpec)

/-- ITS FALSE NEIGHBOUR: 'it returns false'. Refute it at one input. -/
def heapRisesWrong : ChangeSpec := { name := "heapRises", fn := fun _ => fun
  | [d] => { results := [.lit (.bool false)], args := [d] }
  | _ => none }
def HeapRisesWrongFalsely : Prop := heapRisesRow.holds Try.pinned (OpenSpec.ofChange heapRisesWrong)

/-- 'gristmillkeep.HeapLeast': WHATEVER THE INPUT: true; the input reads as it did. -/
def heapLeastSpec : ChangeSpec := { name := "heapLeast", fn := fun _ => fun
  | [d] => { results := [.lit (.bool true)], args := [d] }
  | _ => none }
def heapLeastRow : OpenClaim := { program := "ytpedkcpkdacnlaa", sum := "e35cca072480bae5ff191a84e05533f9fce7cc6f6d2a944a8409d99ffa0dd63f", func := "gristmill/gristmillkeep.HeapLeast", spec := "heapLeast", apart := false }
def HeapLeastSaid : Prop := heapLeastRow.holds Try.pinned (OpenSpec.ofChange heapLeastSpec)

/-- ITS FALSE NEIGHBOUR: 'it returns false'. Refute it at one input. -/
def heapLeastWrong : ChangeSpec := { name := "heapLeast", fn := fun _ => fun
  | [d] => { results := [.lit (.bool false)], args := [d] }
  | _ => none }
def HeapLeastWrongFalsely : Prop := heapLeastRow.holds Try.pinned (OpenSpec.ofChange heapLeastWrong)

/-- 'gristmillkeep.DequeTurns': WHATEVER THE INPUT: true; the input reads as it did. -/
def dequeTurnsSpec : ChangeSpec := { name := "dequeTurns", fn := fun _ => fun
  | [d1, d2, d3, d4] => { results := [.lit (.bool true)], args := [d1, d2, d3, d4] }
  | _ => none }
def dequeTurnsRow : OpenClaim := { program := "ytpedkcpkdacnlaa", sum := "e35cca072480bae5ff191a84e05533f9fce7cc6f6d2a944a8409d99ffa0dd63f", func := "gristmill/gristmillkeep.DequeTurns", spec := "dequeTurns", inPlace := ["slices.overlaps[int]"], apart := false }
def DequeTurnsSaid : Prop := dequeTurnsRow.holds Try.pinned (OpenSpec.ofChange dequeTurnsSpec)

/-- ITS FALSE NEIGHBOUR: 'it returns false'. Refute it at one input. -/
def dequeTurnsWrong : ChangeSpec := { name := "dequeTurns", fn := fun _ => fun
  | [d1, d2, d3, d4] => { results := [.lit (.bool false)], args := [d1, d2, d3, d4] }
  | _ => none }
def DequeTurnsWrongFalsely : Prop := dequeTurnsRow.holds Try.pinned (OpenSpec.ofChange dequeTurnsWrong)

/-- 'gristmillkeep.DequeBack': WHATEVER THE INPUT: true; the input reads as it did. -/
def dequeBackSpec : ChangeSpec := { name := "dequeBack", fn := fun _ => fun
  | [d1, d2, d3] => { results := [.lit (.bool true)], args := [d1, d2, d3] }
  | _ => none }
def dequeBackRow : OpenClaim := { program := "ytpedkcpkdacnlaa", sum := "e35cca072480bae5ff191a84e05533f9fce7cc6f6d2a944a8409d99ffa0dd63f", func := "gristmill/gristmillkeep.DequeBack", spec := "dequeBack", inPlace := ["slices.overlaps[int]"], apart := false }
def DequeBackSaid : Prop := dequeBackRow.holds Try.pinned (OpenSpec.ofChange dequeBackSpec)

/-- ITS FALSE NEIGHBOUR: 'it returns false'. Refute it at one input. -/
def dequeBackWrong : ChangeSpec := { name := "dequeBack", fn := fun _ => fun
  | [d1, d2, d3] => { results := [.lit (.bool false)], args := [d1, d2, d3] }
  | _ => none }
def DequeBackWrongFalsely : Prop := dequeBackRow.holds Try.pinned (OpenSpec.ofChange dequeBackWrong)

/-- 'gristmillkeep.DequeStack': WHATEVER THE INPUT: true; the input reads as it did. -/
def dequeStackSpec : ChangeSpec := { name := "dequeStack", fn := fun _ => fun
  | [d1, d2] => { results := [.lit (.bool true)], args := [d1, d2] }
  | _ => none }
def dequeStackRow : OpenClaim := { program := "ytpedkcpkdacnlaa", sum := "e35cca072480bae5ff191a84e05533f9fce7cc6f6d2a944a8409d99ffa0dd63f", func := "gristmill/gristmillkeep.DequeStack", spec := "dequeStack", inPlace := ["slices.overlaps[int]"], apart := false }
def DequeStackSaid : Prop := dequeStackRow.holds Try.pinned (OpenSpec.ofChange dequeStackSpec)

/-- ITS FALSE NEIGHBOUR: 'it returns false'. Refute it at one input. -/
def dequeStackWrong : ChangeSpec := { name := "dequeStack", fn := fun _ => fun
  | [d1, d2] => { results := [.lit (.bool false)], args := [d1, d2] }
  | _ => none }
def DequeStackWrongFalsely : Prop := dequeStackRow.holds Try.pinned (OpenSpec.ofChange dequeStackWrong)

/-- 'gristmillkeep.DequeQueue': WHATEVER THE INPUT: true; the input reads as it did. -/
def dequeQueueSpec : ChangeSpec := { name := "dequeQueue", fn := fun _ => fun
  | [d1, d2] => { results := [.lit (.bool true)], args := [d1, d2] }
  | _ => none }
def dequeQueueRow : OpenClaim := { program := "ytpedkcpkdacnlaa", sum := "e35cca072480bae5ff191a84e05533f9fce7cc6f6d2a944a8409d99ffa0dd63f", func := "gristmill/gristmillkeep.DequeQueue", spec := "dequeQueue", inPlace := ["slices.overlaps[int]"], apart := false }
def DequeQueueSaid : Prop := dequeQueueRow.holds Try.pinned (OpenSpec.ofChange dequeQueueSpec)

/-- ITS FALSE NEIGHBOUR: 'it returns false'. Refute it at one input. -/
def dequeQueueWrong : ChangeSpec := { name := "dequeQueue", fn := fun _ => fun
  | [d1, d2] => { results := [.lit (.bool false)], args := [d1, d2] }
  | _ => none }
def DequeQueueWrongFalsely : Prop := dequeQueueRow.holds Try.pinned (OpenSpec.ofChange dequeQueueWrong)

/-- 'gristmillkeep.ObjectAgain': WHATEVER THE INPUT: true; the input reads as it did. -/
def objectAgainSpec : ChangeSpec := { name := "objectAgain", fn := fun _ => fun
  | [d1, d2, d3] => { results := [.lit (.bool true)], args := [d1, d2, d3] }
  | _ => none }
def objectAgainRow : OpenClaim := { program := "ytpedkcpkdacnlaa", sum := "e35cca072480bae5ff191a84e05533f9fce7cc6f6d2a944a8409d99ffa0dd63f", func := "gristmill/gristmillkeep.ObjectAgain", spec := "objectAgain", inPlace := ["slices.overlaps[int]"], unfollowed := true, recurses := true, apart := false }
def ObjectAgainSaid : Prop := objectAgainRow.holds Try.pinned (OpenSpec.ofChange objectAgainSpec)

/-- ITS FALSE NEIGHBOUR: 'it returns false'. Refute it at one input. -/
def objectAgainWrong : ChangeSpec := { name := "objectAgain", fn := fun _ => fun
  | [d1, d2, d3] => { results := [.lit (.bool false)], args := [d1, d2, d3] }
  | _ => none }
def ObjectAgainWrongFalsely : Prop := objectAgainRow.holds Try.pinned (OpenSpec.ofChange objectAgainWrong)

/-- 'gristmillkeep.ObjectEnds': WHATEVER THE INPUT: true; the input reads as it did. -/
def objectEndsSpec : ChangeSpec := { name := "objectEnds", fn := fun _ => fun
  | [d1, d2, d3] => { results := [.lit (.bool true)], args := [d1, d2, d3] }
  | _ => none }
def objectEndsRow : OpenClaim := { program := "ytpedkcpkdacnlaa", sum := "e35cca072480bae5ff191a84e05533f9fce7cc6f6d2a944a8409d99ffa0dd63f", func := "gristmill/gristmillkeep.ObjectEnds", spec := "objectEnds", inPlace := ["slices.overlaps[int]"], unfollowed := true, recurses := true, apart := false }
def ObjectEndsSaid : Prop := objectEndsRow.holds Try.pinned (OpenSpec.ofChange objectEndsSpec)

/-- ITS FALSE NEIGHBOUR: 'it returns false'. Refute it at one input. -/
def objectEndsWrong : ChangeSpec := { name := "objectEnds", fn := fun _ => fun
  | [d1, d2, d3] => { results := [.lit (.bool false)], args := [d1, d2, d3] }
  | _ => none }
def ObjectEndsWrongFalsely : Prop := objectEndsRow.holds Try.pinned (OpenSpec.ofChange objectEndsWrong)

/-- 'gristmillkeep.HeapSorts': WHATEVER THE INPUT: true; the input reads as it did. -/
def heapSortsSpec : ChangeSpec := { name := "heapSorts", fn := fun _ => fun
  | [d] => { results := [.lit (.bool true)], args := [d] }
  | _ => none }
def heapSortsRow : OpenClaim := { program := "ytpedkcpkdacnlaa", sum := "e35cca072480bae5ff191a84e05533f9fce7cc6f6d2a944a8409d99ffa0dd63f", func := "gristmill/gristmillkeep.HeapSorts", spec := "heapSorts", recurses := true, apart := false }
def HeapSortsSaid : Prop := heapSortsRow.holds Try.pinned (OpenSpec.ofChange heapSortsSpec)

/-- ITS FALSE NEIGHBOUR: 'it returns false'. Refute it at one input. -/
def heapSortsWrong : ChangeSpec := { name := "heapSorts", fn := fun _ => fun
  | [d] => { results := [.lit (.bool false)], args := [d] }
  | _ => none }
def HeapSortsWrongFalsely : Prop := heapSortsRow.holds Try.pinned (OpenSpec.ofChange heapSortsWrong)

/-- 'gristmillkeep.ObjectSize': WHATEVER THE INPUT: true; the input reads as it did. -/
def objectSizeSpec : ChangeSpec := { name := "objectSize", fn := fun _ => fun
  | [d1, d2, d3] => { results := [.lit (.bool true)], args := [d1, d2, d3] }
  | _ => none }
def objectSizeRow : OpenClaim := { program := "ytpedkcpkdacnlaa", sum := "e35cca072480bae5ff191a84e05533f9fce7cc6f6d2a944a8409d99ffa0dd63f", func := "gristmill/gristmillkeep.ObjectSize", spec := "objectSize", inPlace := ["slices.overlaps[int]"], unfollowed := true, recurses := true, apart := false }
def ObjectSizeSaid : Prop := objectSizeRow.holds Try.pinned (OpenSpec.ofChange objectSizeSpec)

/-- ITS FALSE NEIGHBOUR: 'it returns false'. Refute it at one input. -/
def objectSizeWrong : ChangeSpec := { name := "objectSize", fn := fun _ => fun
  | [d1, d2, d3] => { results := [.lit (.bool false)], args := [d1, d2, d3] }
  | _ => none }
def ObjectSizeWrongFalsely : Prop := objectSizeRow.holds Try.pinned (OpenSpec.ofChange objectSizeWrong)

/-- 'gristmillkeep.ObjectWrong': WHATEVER THE INPUT: true; the input reads as it did. -/
def objectWrongSpec : ChangeSpec := { name := "objectWrong", fn := fun _ => fun
  | [d1, d2, d3] => { results := [.lit (.bool true)], args := [d1, d2, d3] }
  | _ => none }
def objectWrongRow : OpenClaim := { program := "ytpedkcpkdacnlaa", sum := "e35cca072480bae5ff191a84e05533f9fce7cc6f6d2a944a8409d99ffa0dd63f", func := "gristmill/gristmillkeep.ObjectWrong", spec := "objectWrong", inPlace := ["slices.overlaps[int]"], unfollowed := true, recurses := true, apart := false }
def ObjectWrongSaid : Prop := objectWrongRow.holds Try.pinned (OpenSpec.ofChange objectWrongSpec)

/-- ITS FALSE NEIGHBOUR: 'it returns false'. Refute it at one input. -/
def objectWrongWrong : ChangeSpec := { name := "objectWrong", fn := fun _ => fun
  | [d1, d2, d3] => { results := [.lit (.bool false)], args := [d1, d2, d3] }
  | _ => none }
def ObjectWrongWrongFalsely : Prop := objectWrongRow.holds Try.pinned (OpenSpec.ofChange objectWrongWrong)

/-- 'gristmillkeep.ObjectStays': WHATEVER THE INPUT: true; the input reads as it did. -/
def objectStaysSpec : ChangeSpec := { name := "objectStays", fn := fun _ => fun
  | [d1, d2, d3] => { results := [.lit (.bool true)], args := [d1, d2, d3] }
  | _ => none }
def objectStaysRow : OpenClaim := { program := "ytpedkcpkdacnlaa", sum := "e35cca072480bae5ff191a84e05533f9fce7cc6f6d2a944a8409d99ffa0dd63f", func := "gristmill/gristmillkeep.ObjectStays", spec := "objectStays", inPlace := ["slices.overlaps[int]"], unfollowed := true, recurses := true, apart := false }
def ObjectStaysSaid : Prop := objectStaysRow.holds Try.pinned (OpenSpec.ofChange objectStaysSpec)

/-- ITS FALSE NEIGHBOUR: 'it returns false'. Refute it at one input. -/
def objectStaysWrong : ChangeSpec := { name := "objectStays", fn := fun _ => fun
  | [d1, d2, d3] => { results := [.lit (.bool false)], args := [d1, d2, d3] }
  | _ => none }
def ObjectStaysWrongFalsely : Prop := objectStaysRow.holds Try.pinned (OpenSpec.ofChange objectStaysWrong)

/-- 'gristmillkeep.HeapOnce': WHATEVER THE INPUT: true; the input reads as it did. -/
def heapOnceSpec : ChangeSpec := { name := "heapOnce", fn := fun _ => fun
  | [d1, d2] => { results := [.lit (.bool true)], args := [d1, d2] }
  | _ => none }
def heapOnceRow : OpenClaim := { program := "ytpedkcpkdacnlaa", sum := "e35cca072480bae5ff191a84e05533f9fce7cc6f6d2a944a8409d99ffa0dd63f", func := "gristmill/gristmillkeep.HeapOnce", spec := "heapOnce", unfollowed := true, recurses := true, apart := false }
def HeapOnceSaid : Prop := heapOnceRow.holds Try.pinned (OpenSpec.ofChange heapOnceSpec)

/-- ITS FALSE NEIGHBOUR: 'it returns false'. Refute it at one input. -/
def heapOnceWrong : ChangeSpec := { name := "heapOnce", fn := fun _ => fun
  | [d1, d2] => { results := [.lit (.bool false)], args := [d1, d2] }
  | _ => none }
def HeapOnceWrongFalsely : Prop := heapOnceRow.holds Try.pinned (OpenSpec.ofChange heapOnceWrong)

/-- 'gristmillkeep.HeapStays': WHATEVER THE INPUT: true; the input reads as it did. -/
def heapStaysSpec : ChangeSpec := { name := "heapStays", fn := fun _ => fun
  | [d1, d2] => { results := [.lit (.bool true)], args := [d1, d2] }
  | _ => none }
def heapStaysRow : OpenClaim := { program := "ytpedkcpkdacnlaa", sum := "e35cca072480bae5ff191a84e05533f9fce7cc6f6d2a944a8409d99ffa0dd63f", func := "gristmill/gristmillkeep.HeapStays", spec := "heapStays", recurses := true, apart := false }
def HeapStaysSaid : Prop := heapStaysRow.holds Try.pinned (OpenSpec.ofChange heapStaysSpec)

/-- ITS FALSE NEIGHBOUR: 'it returns false'. Refute it at one input. -/
def heapStaysWrong : ChangeSpec := { name := "heapStays", fn := fun _ => fun
  | [d1, d2] => { results := [.lit (.bool false)], args := [d1, d2] }
  | _ => none }
def HeapStaysWrongFalsely : Prop := heapStaysRow.holds Try.pinned (OpenSpec.ofChange heapStaysWrong)

/- THE SECOND FORM. 'bulk': how many values and letters a reading holds, each counted each time it is reached (what is shared counts as often as it is met; a slice's spare places count too). A statement '..UptoSaid' is the law's where the arguments, and the package variables that the reading takes, are together of bulk at most 1048576: NARROWER than '..Said'. Prove '..Said' where nothing that the law and all that it calls make is longer than what came in: it says more and counts as full. Else prove '..UptoSaid'. A law counts once. -/
mutual
def uptoBulk {H : Type} : DataW H → Nat
  | .lit (.string bytes) => bytes.length + 1
  | .lit _ => 1
  | .nil => 1
  | .ptr d => uptoBulk d + 1
  | .slice elems spare => uptoBulkAll elems + uptoBulkAll spare + 1
  | .agg parts => uptoBulkAll parts + 1
  | .iface _ d => uptoBulk d + 1
  | .map entries => uptoBulkEntries entries + 1
  | .held _ => 1
def uptoBulkAll {H : Type} : List (DataW H) → Nat
  | [] => 0
  | d :: r => uptoBulk d + uptoBulkAll r
def uptoBulkEntries {H : Type} : List (Lit × DataW H) → Nat
  | [] => 0
  | x :: r => uptoBulkEntry x + uptoBulkEntries r
def uptoBulkEntry {H : Type} : Lit × DataW H → Nat
  | (.string bytes, d) => bytes.length + uptoBulk d + 1
  | (_, d) => uptoBulk d + 1
 end
def uptoSmall : (H : Type) → List (DataW H) → Bool := fun _ ds => decide (uptoBulkAll ds ≤ 1048576)
def OpenSpec.upto (s : _root_.Go.ChangeSpec) : _root_.Go.OpenSpec := { _root_.Go.OpenSpec.ofChange s with cond := some uptoSmall }

/-- 'gristmillkeep.HeapRises', WHERE WHAT IT READS IS OF BULK AT MOST 1048576: true; the input reads as it did. -/
def heapRisesUptoRow : OpenClaim := { program := "ytpedkcpkdacnlaa", sum := "e35cca072480bae5ff191a84e05533f9fce7cc6f6d2a944a8409d99ffa0dd63f", func := "gristmill/gristmillkeep.HeapRises", spec := "heapRises", apart := false, narrowed := true }
def HeapRisesUptoSaid : Prop := heapRisesUptoRow.holds Try.pinned (OpenSpec.upto heapRisesSpec)

/-- 'gristmillkeep.HeapLeast', WHERE WHAT IT READS IS OF BULK AT MOST 1048576: true; the input reads as it did. -/
def heapLeastUptoRow : OpenClaim := { program := "ytpedkcpkdacnlaa", sum := "e35cca072480bae5ff191a84e05533f9fce7cc6f6d2a944a8409d99ffa0dd63f", func := "gristmill/gristmillkeep.HeapLeast", spec := "heapLeast", apart := false, narrowed := true }
def HeapLeastUptoSaid : Prop := heapLeastUptoRow.holds Try.pinned (OpenSpec.upto heapLeastSpec)

/-- 'gristmillkeep.DequeTurns', WHERE WHAT IT READS IS OF BULK AT MOST 1048576: true; the input reads as it did. -/
def dequeTurnsUptoRow : OpenClaim := { program := "ytpedkcpkdacnlaa", sum := "e35cca072480bae5ff191a84e05533f9fce7cc6f6d2a944a8409d99ffa0dd63f", func := "gristmill/gristmillkeep.DequeTurns", spec := "dequeTurns", inPlace := ["slices.overlaps[int]"], apart := false, narrowed := true }
def DequeTurnsUptoSaid : Prop := dequeTurnsUptoRow.holds Try.pinned (OpenSpec.upto dequeTurnsSpec)

/-- 'gristmillkeep.DequeBack', WHERE WHAT IT READS IS OF BULK AT MOST 1048576: true; the input reads as it did. -/
def dequeBackUptoRow : OpenClaim := { program := "ytpedkcpkdacnlaa", sum := "e35cca072480bae5ff191a84e05533f9fce7cc6f6d2a944a8409d99ffa0dd63f", func := "gristmill/gristmillkeep.DequeBack", spec := "dequeBack", inPlace := ["slices.overlaps[int]"], apart := false, narrowed := true }
def DequeBackUptoSaid : Prop := dequeBackUptoRow.holds Try.pinned (OpenSpec.upto dequeBackSpec)

/-- 'gristmillkeep.DequeStack', WHERE WHAT IT READS IS OF BULK AT MOST 1048576: true; the input reads as it did. -/
def dequeStackUptoRow : OpenClaim := { program := "ytpedkcpkdacnlaa", sum := "e35cca072480bae5ff191a84e05533f9fce7cc6f6d2a944a8409d99ffa0dd63f", func := "gristmill/gristmillkeep.DequeStack", spec := "dequeStack", inPlace := ["slices.overlaps[int]"], apart := false, narrowed := true }
def DequeStackUptoSaid : Prop := dequeStackUptoRow.holds Try.pinned (OpenSpec.upto dequeStackSpec)

/-- 'gristmillkeep.DequeQueue', WHERE WHAT IT READS IS OF BULK AT MOST 1048576: true; the input reads as it did. -/
def dequeQueueUptoRow : OpenClaim := { program := "ytpedkcpkdacnlaa", sum := "e35cca072480bae5ff191a84e05533f9fce7cc6f6d2a944a8409d99ffa0dd63f", func := "gristmill/gristmillkeep.DequeQueue", spec := "dequeQueue", inPlace := ["slices.overlaps[int]"], apart := false, narrowed := true }
def DequeQueueUptoSaid : Prop := dequeQueueUptoRow.holds Try.pinned (OpenSpec.upto dequeQueueSpec)

/-- 'gristmillkeep.ObjectAgain', WHERE WHAT IT READS IS OF BULK AT MOST 1048576: true; the input reads as it did. -/
def objectAgainUptoRow : OpenClaim := { program := "ytpedkcpkdacnlaa", sum := "e35cca072480bae5ff191a84e05533f9fce7cc6f6d2a944a8409d99ffa0dd63f", func := "gristmill/gristmillkeep.ObjectAgain", spec := "objectAgain", inPlace := ["slices.overlaps[int]"], unfollowed := true, recurses := true, apart := false, narrowed := true }
def ObjectAgainUptoSaid : Prop := objectAgainUptoRow.holds Try.pinned (OpenSpec.upto objectAgainSpec)

/-- 'gristmillkeep.ObjectEnds', WHERE WHAT IT READS IS OF BULK AT MOST 1048576: true; the input reads as it did. -/
def objectEndsUptoRow : OpenClaim := { program := "ytpedkcpkdacnlaa", sum := "e35cca072480bae5ff191a84e05533f9fce7cc6f6d2a944a8409d99ffa0dd63f", func := "gristmill/gristmillkeep.ObjectEnds", spec := "objectEnds", inPlace := ["slices.overlaps[int]"], unfollowed := true, recurses := true, apart := false, narrowed := true }
def ObjectEndsUptoSaid : Prop := objectEndsUptoRow.holds Try.pinned (OpenSpec.upto objectEndsSpec)

/-- 'gristmillkeep.HeapSorts', WHERE WHAT IT READS IS OF BULK AT MOST 1048576: true; the input reads as it did. -/
def heapSortsUptoRow : OpenClaim := { program := "ytpedkcpkdacnlaa", sum := "e35cca072480bae5ff191a84e05533f9fce7cc6f6d2a944a8409d99ffa0dd63f", func := "gristmill/gristmillkeep.HeapSorts", spec := "heapSorts", recurses := true, apart := false, narrowed := true }
def HeapSortsUptoSaid : Prop := heapSortsUptoRow.holds Try.pinned (OpenSpec.upto heapSortsSpec)

/-- 'gristmillkeep.ObjectSize', WHERE WHAT IT READS IS OF BULK AT MOST 1048576: true; the input reads as it did. -/
def objectSizeUptoRow : OpenClaim := { program := "ytpedkcpkdacnlaa", sum := "e35cca072480bae5ff191a84e05533f9fce7cc6f6d2a944a8409d99ffa0dd63f", func := "gristmill/gristmillkeep.ObjectSize", spec := "objectSize", inPlace := ["slices.overlaps[int]"], unfollowed := true, recurses := true, apart := false, narrowed := true }
def ObjectSizeUptoSaid : Prop := objectSizeUptoRow.holds Try.pinned (OpenSpec.upto objectSizeSpec)

/-- 'gristmillkeep.ObjectWrong', WHERE WHAT IT READS IS OF BULK AT MOST 1048576: true; the input reads as it did. -/
def objectWrongUptoRow : OpenClaim := { program := "ytpedkcpkdacnlaa", sum := "e35cca072480bae5ff191a84e05533f9fce7cc6f6d2a944a8409d99ffa0dd63f", func := "gristmill/gristmillkeep.ObjectWrong", spec := "objectWrong", inPlace := ["slices.overlaps[int]"], unfollowed := true, recurses := true, apart := false, narrowed := true }
def ObjectWrongUptoSaid : Prop := objectWrongUptoRow.holds Try.pinned (OpenSpec.upto objectWrongSpec)

/-- 'gristmillkeep.ObjectStays', WHERE WHAT IT READS IS OF BULK AT MOST 1048576: true; the input reads as it did. -/
def objectStaysUptoRow : OpenClaim := { program := "ytpedkcpkdacnlaa", sum := "e35cca072480bae5ff191a84e05533f9fce7cc6f6d2a944a8409d99ffa0dd63f", func := "gristmill/gristmillkeep.ObjectStays", spec := "objectStays", inPlace := ["slices.overlaps[int]"], unfollowed := true, recurses := true, apart := false, narrowed := true }
def ObjectStaysUptoSaid : Prop := objectStaysUptoRow.holds Try.pinned (OpenSpec.upto objectStaysSpec)

/-- 'gristmillkeep.HeapOnce', WHERE WHAT IT READS IS OF BULK AT MOST 1048576: true; the input reads as it did. -/
def heapOnceUptoRow : OpenClaim := { program := "ytpedkcpkdacnlaa", sum := "e35cca072480bae5ff191a84e05533f9fce7cc6f6d2a944a8409d99ffa0dd63f", func := "gristmill/gristmillkeep.HeapOnce", spec := "heapOnce", unfollowed := true, recurses := true, apart := false, narrowed := true }
def HeapOnceUptoSaid : Prop := heapOnceUptoRow.holds Try.pinned (OpenSpec.upto heapOnceSpec)

/-- 'gristmillkeep.HeapStays', WHERE WHAT IT READS IS OF BULK AT MOST 1048576: true; the input reads as it did. -/
def heapStaysUptoRow : OpenClaim := { program := "ytpedkcpkdacnlaa", sum := "e35cca072480bae5ff191a84e05533f9fce7cc6f6d2a944a8409d99ffa0dd63f", func := "gristmill/gristmillkeep.HeapStays", spec := "heapStays", recurses := true, apart := false, narrowed := true }
def HeapStaysUptoSaid : Prop := heapStaysUptoRow.holds Try.pinned (OpenSpec.upto heapStaysSpec)

end Rows
end Go.Proofs.Ytpedkcpkdacnlaa
