/-
  No cell of these rows narrows 'for every input' (looked for: loops, veiled, ifaces, maps, wideKeys, modest, calm, conditions, laid).
  DERIVED. THE GIVEN ROWS OF THIS SEAT. 12 by the template 'for every input the law returns true; each argument reads behind the call as it read before'; 0 by the template 'total and deterministic' (their statements: YtpjdddoielhpjaaTotals.lean).
  GIVEN WITH THE SEED: the statements are not yours to turn. If you find one false, say at which input.
  Laid BY PROGRAM, IN A SANDBOX (cutbox-rows.mjs): the forced cells as the released guide's own fill.sh prints them over the translation e8ff61350bac1a23… (all of the seat's roots in one cut). By AI agents, Wed Nov 11 2026. No macro, syntax, notation, axiom, sorry.
-/
import Derived.Test.YtpjdddoielhpjaaChecked
import GoSem.Claim
import GoSem.ClaimJoined
import GoSem.ClaimMapViews
import Derived.JoinedTies
import Derived.KernelRfl
namespace Go.Proofs.Ytpjdddoielhpjaa
/- THE CELL 'sum', in the pinned program and in every row, IS THE sha256 OF THE DUMP (.gsa) THAT YtpjdddoielhpjaaProg.lean LOADS. Nothing in Lean hashes anything: it is a label: what it is worth is what the hold of that sum in a sandbox is worth. -/
noncomputable def Try.pinned : Pinned := { name := "ytpjdddoielhpjaa", sum := "e8ff61350bac1a237a78f26f084b60a4cbaf269d695dff174acdfd90e291b65d", checked := Try.checked }
namespace Rows
def none {H : Type} : Left H := { results := [], args := [] }

/-- 'gristmillkeep.TallyBack': WHATEVER THE INPUT: true; the input reads as it did. -/
def tallyBackSpec : ChangeSpec := { name := "tallyBack", fn := fun _ => fun
  | [d1, d2] => { results := [.lit (.bool true)], args := [d1, d2] }
  | _ => none }
def tallyBackRow : OpenClaim := { program := "ytpjdddoielhpjaa", sum := "e8ff61350bac1a237a78f26f084b60a4cbaf269d695dff174acdfd90e291b65d", func := "gristmill/gristmillkeep.TallyBack", spec := "tallyBack", apart := false }
def TallyBackSaid : Prop := tallyBackRow.holds Try.pinned (OpenSpec.ofChange tallyBackSpec)

/-- ITS FALSE NEIGHBOUR: 'it returns false'. Refute it at one input. -/
def tallyBackWrong : ChangeSpec := { name := "tallyBack", fn := fun _ => fun
  | [d1, d2] => { results := [.lit (.bool false)], args := [d1, d2] }
  | _ => none }
def TallyBackWrongFalsely : Prop := tallyBackRow.holds Try.pinned (OpenSpec.ofChange tallyBackWrong)

/-- 'gristmillkeep.TallySums': WHATEVER THE INPUT: true; the input reads as it did. -/
def tallySumsSpec : ChangeSpec := { name := "tallySums", fn := fun _ => fun
  | [d] => { results := [.lit (.bool true)], args := [d] }
  | _ => none }
def tallySumsRow : OpenClaim := { program := "ytpjdddoielhpjaa", sum := "e8ff61350bac1a237a78f26f084b60a4cbaf269d695dff174acdfd90e291b65d", func := "gristmill/gristmillkeep.TallySums", spec := "tallySums", apart := false }
def TallySumsSaid : Prop := tallySumsRow.holds Try.pinned (OpenSpec.ofChange tallySumsSpec)

/-- ITS FALSE NEIGHBOUR: 'it returns false'. Refute it at one input. -/
def tallySumsWrong : ChangeSpec := { name := "tallySums", fn := fun _ => fun
  | [d] => { results := [.lit (.bool false)], args := [d] }
  | _ => none }
def TallySumsWrongFalsely : Prop := tallySumsRow.holds Try.pinned (OpenSpec.ofChange tallySumsWrong)

/-- 'gristmillkeep.TallyOrder': WHATEVER THE INPUT: true; the input reads as it did. -/
def tallyOrderSpec : ChangeSpec := { name := "tallyOrder", fn := fun _ => fun
  | [d1, d2, d3] => { results := [.lit (.bool true)], args := [d1, d2, d3] }
  | _ => none }
def tallyOrderRow : OpenClaim := { program := "ytpjdddoielhpjaa", sum := "e8ff61350bac1a237a78f26f084b60a4cbaf269d695dff174acdfd90e291b65d", func := "gristmill/gristmillkeep.TallyOrder", spec := "tallyOrder", apart := false }
def TallyOrderSaid : Prop := tallyOrderRow.holds Try.pinned (OpenSpec.ofChange tallyOrderSpec)

/-- ITS FALSE NEIGHBOUR: 'it returns false'. Refute it at one input. -/
def tallyOrderWrong : ChangeSpec := { name := "tallyOrder", fn := fun _ => fun
  | [d1, d2, d3] => { results := [.lit (.bool false)], args := [d1, d2, d3] }
  | _ => none }
def TallyOrderWrongFalsely : Prop := tallyOrderRow.holds Try.pinned (OpenSpec.ofChange tallyOrderWrong)

/-- 'gristmillkeep.RamSwaps': WHATEVER THE INPUT: true; the input reads as it did. -/
def ramSwapsSpec : ChangeSpec := { name := "ramSwaps", fn := fun _ => fun
  | [d1, d2, d3, d4, d5] => { results := [.lit (.bool true)], args := [d1, d2, d3, d4, d5] }
  | _ => none }
def ramSwapsRow : OpenClaim := { program := "ytpjdddoielhpjaa", sum := "e8ff61350bac1a237a78f26f084b60a4cbaf269d695dff174acdfd90e291b65d", func := "gristmill/gristmillkeep.RamSwaps", spec := "ramSwaps", apart := false }
def RamSwapsSaid : Prop := ramSwapsRow.holds Try.pinned (OpenSpec.ofChange ramSwapsSpec)

/-- ITS FALSE NEIGHBOUR: 'it returns false'. Refute it at one input. -/
def ramSwapsWrong : ChangeSpec := { name := "ramSwaps", fn := fun _ => fun
  | [d1, d2, d3, d4, d5] => { results := [.lit (.bool false)], args := [d1, d2, d3, d4, d5] }
  | _ => none }
def RamSwapsWrongFalsely : Prop := ramSwapsRow.holds Try.pinned (OpenSpec.ofChange ramSwapsWrong)

/-- 'gristmillkeep.RamGoes': WHATEVER THE INPUT: true; the input reads as it did. -/
def ramGoesSpec : ChangeSpec := { name := "ramGoes", fn := fun _ => fun
  | [d1, d2] => { results := [.lit (.bool true)], args := [d1, d2] }
  | _ => none }
def ramGoesRow : OpenClaim := { program := "ytpjdddoielhpjaa", sum := "e8ff61350bac1a237a78f26f084b60a4cbaf269d695dff174acdfd90e291b65d", func := "gristmill/gristmillkeep.RamGoes", spec := "ramGoes", apart := false }
def RamGoesSaid : Prop := ramGoesRow.holds Try.pinned (OpenSpec.ofChange ramGoesSpec)

/-- ITS FALSE NEIGHBOUR: 'it returns false'. Refute it at one input. -/
def ramGoesWrong : ChangeSpec := { name := "ramGoes", fn := fun _ => fun
  | [d1, d2] => { results := [.lit (.bool false)], args := [d1, d2] }
  | _ => none }
def RamGoesWrongFalsely : Prop := ramGoesRow.holds Try.pinned (OpenSpec.ofChange ramGoesWrong)

/-- 'gristmillkeep.StackBack': WHATEVER THE INPUT: true; the input reads as it did. -/
def stackBackSpec : ChangeSpec := { name := "stackBack", fn := fun _ => fun
  | [d1, d2] => { results := [.lit (.bool true)], args := [d1, d2] }
  | _ => none }
def stackBackRow : OpenClaim := { program := "ytpjdddoielhpjaa", sum := "e8ff61350bac1a237a78f26f084b60a4cbaf269d695dff174acdfd90e291b65d", func := "gristmill/gristmillkeep.StackBack", spec := "stackBack", apart := false }
def StackBackSaid : Prop := stackBackRow.holds Try.pinned (OpenSpec.ofChange stackBackSpec)

/-- ITS FALSE NEIGHBOUR: 'it returns false'. Refute it at one input. -/
def stackBackWrong : ChangeSpec := { name := "stackBack", fn := fun _ => fun
  | [d1, d2] => { results := [.lit (.bool false)], args := [d1, d2] }
  | _ => none }
def StackBackWrongFalsely : Prop := stackBackRow.holds Try.pinned (OpenSpec.ofChange stackBackWrong)

/-- 'gristmillkeep.StackOrder': WHATEVER THE INPUT: true; the input reads as it did. -/
def stackOrderSpec : ChangeSpec := { name := "stackOrder", fn := fun _ => fun
  | [d] => { results := [.lit (.bool true)], args := [d] }
  | _ => none }
def stackOrderRow : OpenClaim := { program := "ytpjdddoielhpjaa", sum := "e8ff61350bac1a237a78f26f084b60a4cbaf269d695dff174acdfd90e291b65d", func := "gristmill/gristmillkeep.StackOrder", spec := "stackOrder", apart := false }
def StackOrderSaid : Prop := stackOrderRow.holds Try.pinned (OpenSpec.ofChange stackOrderSpec)

/-- ITS FALSE NEIGHBOUR: 'it returns false'. Refute it at one input. -/
def stackOrderWrong : ChangeSpec := { name := "stackOrder", fn := fun _ => fun
  | [d] => { results := [.lit (.bool false)], args := [d] }
  | _ => none }
def StackOrderWrongFalsely : Prop := stackOrderRow.holds Try.pinned (OpenSpec.ofChange stackOrderWrong)

/-- 'gristmillkeep.StackLooks': WHATEVER THE INPUT: true; the input reads as it did. -/
def stackLooksSpec : ChangeSpec := { name := "stackLooks", fn := fun _ => fun
  | [d] => { results := [.lit (.bool true)], args := [d] }
  | _ => none }
def stackLooksRow : OpenClaim := { program := "ytpjdddoielhpjaa", sum := "e8ff61350bac1a237a78f26f084b60a4cbaf269d695dff174acdfd90e291b65d", func := "gristmill/gristmillkeep.StackLooks", spec := "stackLooks", apart := false }
def StackLooksSaid : Prop := stackLooksRow.holds Try.pinned (OpenSpec.ofChange stackLooksSpec)

/-- ITS FALSE NEIGHBOUR: 'it returns false'. Refute it at one input. -/
def stackLooksWrong : ChangeSpec := { name := "stackLooks", fn := fun _ => fun
  | [d] => { results := [.lit (.bool false)], args := [d] }
  | _ => none }
def StackLooksWrongFalsely : Prop := stackLooksRow.holds Try.pinned (OpenSpec.ofChange stackLooksWrong)

/-- 'gristmillkeep.QueueOrder': WHATEVER THE INPUT: true; the input reads as it did. -/
def queueOrderSpec : ChangeSpec := { name := "queueOrder", fn := fun _ => fun
  | [d] => { results := [.lit (.bool true)], args := [d] }
  | _ => none }
def queueOrderRow : OpenClaim := { program := "ytpjdddoielhpjaa", sum := "e8ff61350bac1a237a78f26f084b60a4cbaf269d695dff174acdfd90e291b65d", func := "gristmill/gristmillkeep.QueueOrder", spec := "queueOrder", apart := false }
def QueueOrderSaid : Prop := queueOrderRow.holds Try.pinned (OpenSpec.ofChange queueOrderSpec)

/-- ITS FALSE NEIGHBOUR: 'it returns false'. Refute it at one input. -/
def queueOrderWrong : ChangeSpec := { name := "queueOrder", fn := fun _ => fun
  | [d] => { results := [.lit (.bool false)], args := [d] }
  | _ => none }
def QueueOrderWrongFalsely : Prop := queueOrderRow.holds Try.pinned (OpenSpec.ofChange queueOrderWrong)

/-- 'gristmillkeep.QueueFull': WHATEVER THE INPUT: true; the input reads as it did. -/
def queueFullSpec : ChangeSpec := { name := "queueFull", fn := fun _ => fun
  | [d1, d2] => { results := [.lit (.bool true)], args := [d1, d2] }
  | _ => none }
def queueFullRow : OpenClaim := { program := "ytpjdddoielhpjaa", sum := "e8ff61350bac1a237a78f26f084b60a4cbaf269d695dff174acdfd90e291b65d", func := "gristmill/gristmillkeep.QueueFull", spec := "queueFull", apart := false }
def QueueFullSaid : Prop := queueFullRow.holds Try.pinned (OpenSpec.ofChange queueFullSpec)

/-- ITS FALSE NEIGHBOUR: 'it returns false'. Refute it at one input. -/
def queueFullWrong : ChangeSpec := { name := "queueFull", fn := fun _ => fun
  | [d1, d2] => { results := [.lit (.bool false)], args := [d1, d2] }
  | _ => none }
def QueueFullWrongFalsely : Prop := queueFullRow.holds Try.pinned (OpenSpec.ofChange queueFullWrong)

/-- 'gristmillkeep.QueueLooks': WHATEVER THE INPUT: true; the input reads as it did. -/
def queueLooksSpec : ChangeSpec := { name := "queueLooks", fn := fun _ => fun
  | [d] => { results := [.lit (.bool true)], args := [d] }
  | _ => none }
def queueLooksRow : OpenClaim := { program := "ytpjdddoielhpjaa", sum := "e8ff61350bac1a237a78f26f084b60a4cbaf269d695dff174acdfd90e291b65d", func := "gristmill/gristmillkeep.QueueLooks", spec := "queueLooks", apart := false }
def QueueLooksSaid : Prop := queueLooksRow.holds Try.pinned (OpenSpec.ofChange queueLooksSpec)

/-- ITS FALSE NEIGHBOUR: 'it returns false'. Refute it at one input. -/
def queueLooksWrong : ChangeSpec := { name := "queueLooks", fn := fun _ => fun
  | [d] => { results := [.lit (.bool false)], args := [d] }
  | _ => none }
def QueueLooksWrongFalsely : Prop := queueLooksRow.holds Try.pinned (OpenSpec.ofChange queueLooksWrong)

/-- 'gristmillkeep.QueueEnds': WHATEVER THE INPUT: true; the input reads as it did. -/
def queueEndsSpec : ChangeSpec := { name := "queueEnds", fn := fun _ => fun
  | [d1, d2] => { results := [.lit (.bool true)], args := [d1, d2] }
  | _ => none }
def queueEndsRow : OpenClaim := { program := "ytpjdddoielhpjaa", sum := "e8ff61350bac1a237a78f26f084b60a4cbaf269d695dff174acdfd90e291b65d", func := "gristmill/gristmillkeep.QueueEnds", spec := "queueEnds", apart := false }
def QueueEndsSaid : Prop := queueEndsRow.holds Try.pinned (OpenSpec.ofChange queueEndsSpec)

/-- ITS FALSE NEIGHBOUR: 'it returns false'. Refute it at one input. -/
def queueEndsWrong : ChangeSpec := { name := "queueEnds", fn := fun _ => fun
  | [d1, d2] => { results := [.lit (.bool false)], args := [d1, d2] }
  | _ => none }
def QueueEndsWrongFalsely : Prop := queueEndsRow.holds Try.pinned (OpenSpec.ofChange queueEndsWrong)

/- THE SECOND FORM. 'bulk': how many values and letters a reading holds, each counted each time it is reached (what is shared counts as often as it is met; a slice's spare places count too). A statement '..UptoSaid' is the law's where the arguments, and the package variables that the reading takes, are together of bulk at most 1048576: NARROWER than '..Said'. Prove '..Said' where nothing that the law and all that it calls make is longer than what came in: it says more and counts as full. Else prove '..UptoSaid'. A law counts once. -/
mutual
def uptoBulk {H : Type} : DataW H → Nat
  | .lit (.string bytes) => bytes.length + 1
  | .lit _ => 1
  | .nil => 1
  | .ptr d => uptoBulk d + 1
  | .slice elems spare => uptoBulkAll elems + uptoBulkAll spare + 1
  | .agg parts => uptoBulkAll parts + 1
  | .iface _ d => uptoBulk d + 1
  | .map entries => uptoBulkEntries entries + 1
  | .held _ => 1
def uptoBulkAll {H : Type} : List (DataW H) → Nat
  | [] => 0
  | d :: r => uptoBulk d + uptoBulkAll r
def uptoBulkEntries {H : Type} : List (Lit × DataW H) → Nat
  | [] => 0
  | x :: r => uptoBulkEntry x + uptoBulkEntries r
def uptoBulkEntry {H : Type} : Lit × DataW H → Nat
  | (.string bytes, d) => bytes.length + uptoBulk d + 1
  | (_, d) => uptoBulk d + 1
 end
def uptoSmall : (H : Type) → List (DataW H) → Bool := fun _ ds => decide (uptoBulkAll ds ≤ 1048576)
def OpenSpec.upto (s : _root_.Go.ChangeSpec) : _root_.Go.OpenSpec := { _root_.Go.OpenSpec.ofChange s with cond := some uptoSmall }

/-- 'gristmillkeep.TallyBack', WHERE WHAT IT READS IS OF BULK AT MOST 1048576: true; the input reads as it did. -/
def tallyBackUptoRow : OpenClaim := { program := "ytpjdddoielhpjaa", sum := "e8ff61350bac1a237a78f26f084b60a4cbaf269d695dff174acdfd90e291b65d", func := "gristmill/gristmillkeep.TallyBack", spec := "tallyBack", apart := false, narrowed := true }
def TallyBackUptoSaid : Prop := tallyBackUptoRow.holds Try.pinned (OpenSpec.upto tallyBackSpec)

/-- 'gristmillkeep.TallySums', WHERE WHAT IT READS IS OF BULK AT MOST 1048576: true; the input reads as it did. -/
def tallySumsUptoRow : OpenClaim := { program := "ytpjdddoielhpjaa", sum := "e8ff61350bac1a237a78f26f084b60a4cbaf269d695dff174acdfd90e291b65d", func := "gristmill/gristmillkeep.TallySums", spec := "tallySums", apart := false, narrowed := true }
def TallySumsUptoSaid : Prop := tallySumsUptoRow.holds Try.pinned (OpenSpec.upto tallySumsSpec)

/-- 'gristmillkeep.TallyOrder', WHERE WHAT IT READS IS OF BULK AT MOST 1048576: true; the input reads as it did. -/
def tallyOrderUptoRow : OpenClaim := { program := "ytpjdddoielhpjaa", sum := "e8ff61350bac1a237a78f26f084b60a4cbaf269d695dff174acdfd90e291b65d", func := "gristmill/gristmillkeep.TallyOrder", spec := "tallyOrder", apart := false, narrowed := true }
def TallyOrderUptoSaid : Prop := tallyOrderUptoRow.holds Try.pinned (OpenSpec.upto tallyOrderSpec)

/-- 'gristmillkeep.RamSwaps', WHERE WHAT IT READS IS OF BULK AT MOST 1048576: true; the input reads as it did. -/
def ramSwapsUptoRow : OpenClaim := { program := "ytpjdddoielhpjaa", sum := "e8ff61350bac1a237a78f26f084b60a4cbaf269d695dff174acdfd90e291b65d", func := "gristmill/gristmillkeep.RamSwaps", spec := "ramSwaps", apart := false, narrowed := true }
def RamSwapsUptoSaid : Prop := ramSwapsUptoRow.holds Try.pinned (OpenSpec.upto ramSwapsSpec)

/-- 'gristmillkeep.RamGoes', WHERE WHAT IT READS IS OF BULK AT MOST 1048576: true; the input reads as it did. -/
def ramGoesUptoRow : OpenClaim := { program := "ytpjdddoielhpjaa", sum := "e8ff61350bac1a237a78f26f084b60a4cbaf269d695dff174acdfd90e291b65d", func := "gristmill/gristmillkeep.RamGoes", spec := "ramGoes", apart := false, narrowed := true }
def RamGoesUptoSaid : Prop := ramGoesUptoRow.holds Try.pinned (OpenSpec.upto ramGoesSpec)

/-- 'gristmillkeep.StackBack', WHERE WHAT IT READS IS OF BULK AT MOST 1048576: true; the input reads as it did. -/
def stackBackUptoRow : OpenClaim := { program := "ytpjdddoielhpjaa", sum := "e8ff61350bac1a237a78f26f084b60a4cbaf269d695dff174acdfd90e291b65d", func := "gristmill/gristmillkeep.StackBack", spec := "stackBack", apart := false, narrowed := true }
def StackBackUptoSaid : Prop := stackBackUptoRow.holds Try.pinned (OpenSpec.upto stackBackSpec)

/-- 'gristmillkeep.StackOrder', WHERE WHAT IT READS IS OF BULK AT MOST 1048576: true; the input reads as it did. -/
def stackOrderUptoRow : OpenClaim := { program := "ytpjdddoielhpjaa", sum := "e8ff61350bac1a237a78f26f084b60a4cbaf269d695dff174acdfd90e291b65d", func := "gristmill/gristmillkeep.StackOrder", spec := "stackOrder", apart := false, narrowed := true }
def StackOrderUptoSaid : Prop := stackOrderUptoRow.holds Try.pinned (OpenSpec.upto stackOrderSpec)

/-- 'gristmillkeep.StackLooks', WHERE WHAT IT READS IS OF BULK AT MOST 1048576: true; the input reads as it did. -/
def stackLooksUptoRow : OpenClaim := { program := "ytpjdddoielhpjaa", sum := "e8ff61350bac1a237a78f26f084b60a4cbaf269d695dff174acdfd90e291b65d", func := "gristmill/gristmillkeep.StackLooks", spec := "stackLooks", apart := false, narrowed := true }
def StackLooksUptoSaid : Prop := stackLooksUptoRow.holds Try.pinned (OpenSpec.upto stackLooksSpec)

/-- 'gristmillkeep.QueueOrder', WHERE WHAT IT READS IS OF BULK AT MOST 1048576: true; the input reads as it did. -/
def queueOrderUptoRow : OpenClaim := { program := "ytpjdddoielhpjaa", sum := "e8ff61350bac1a237a78f26f084b60a4cbaf269d695dff174acdfd90e291b65d", func := "gristmill/gristmillkeep.QueueOrder", spec := "queueOrder", apart := false, narrowed := true }
def QueueOrderUptoSaid : Prop := queueOrderUptoRow.holds Try.pinned (OpenSpec.upto queueOrderSpec)

/-- 'gristmillkeep.QueueFull', WHERE WHAT IT READS IS OF BULK AT MOST 1048576: true; the input reads as it did. -/
def queueFullUptoRow : OpenClaim := { program := "ytpjdddoielhpjaa", sum := "e8ff61350bac1a237a78f26f084b60a4cbaf269d695dff174acdfd90e291b65d", func := "gristmill/gristmillkeep.QueueFull", spec := "queueFull", apart := false, narrowed := true }
def QueueFullUptoSaid : Prop := queueFullUptoRow.holds Try.pinned (OpenSpec.upto queueFullSpec)

/-- 'gristmillkeep.QueueLooks', WHERE WHAT IT READS IS OF BULK AT MOST 1048576: true; the input reads as it did. -/
def queueLooksUptoRow : OpenClaim := { program := "ytpjdddoielhpjaa", sum := "e8ff61350bac1a237a78f26f084b60a4cbaf269d695dff174acdfd90e291b65d", func := "gristmill/gristmillkeep.QueueLooks", spec := "queueLooks", apart := false, narrowed := true }
def QueueLooksUptoSaid : Prop := queueLooksUptoRow.holds Try.pinned (OpenSpec.upto queueLooksSpec)

/-- 'gristmillkeep.QueueEnds', WHERE WHAT IT READS IS OF BULK AT MOST 1048576: true; the input reads as it did. -/
def queueEndsUptoRow : OpenClaim := { program := "ytpjdddoielhpjaa", sum := "e8ff61350bac1a237a78f26f084b60a4cbaf269d695dff174acdfd90e291b65d", func := "gristmill/gristmillkeep.QueueEnds", spec := "queueEnds", apart := false, narrowed := true }
def QueueEndsUptoSaid : Prop := queueEndsUptoRow.holds Try.pinned (OpenSpec.upto queueEndsSpec)

end Rows
end Go.Proofs.Ytpjdddoielhpjaa
