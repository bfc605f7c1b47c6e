/-
  No cell of these rows narrows 'for every input' (looked for: loops, veiled, ifaces, maps, wideKeys, modest, calm, conditions, laid).
  DERIVED. THE GIVEN ROWS OF THIS SEAT. 16 by the template 'for every input the law returns true; each argument reads behind the call as it read before'; 0 by the template 'total and deterministic' (their statements: YtakemnpicokaiaaTotals.lean).
  GIVEN WITH THE SEED: the statements are not yours to turn. If you find one false, say at which input.
  Laid BY PROGRAM, IN A SANDBOX (cutbox-rows.mjs): the forced cells as the released guide's own fill.sh prints them over the translation 348ff791e0294dfb… (all of the seat's roots in one cut). By AI agents, Wed Nov 11 2026. No macro, syntax, notation, axiom, sorry.
-/
import Derived.Test.YtakemnpicokaiaaChecked
import GoSem.Claim
import GoSem.ClaimJoined
import GoSem.ClaimMapViews
import Derived.JoinedTies
import Derived.KernelRfl
namespace Go.Proofs.Ytakemnpicokaiaa
/- THE CELL 'sum', in the pinned program and in every row, IS THE sha256 OF THE DUMP (.gsa) THAT YtakemnpicokaiaaProg.lean LOADS. Nothing in Lean hashes anything: it is a label: what it is worth is what the hold of that sum in a sandbox is worth. -/
noncomputable def Try.pinned : Pinned := { name := "ytakemnpicokaiaa", sum := "348ff791e0294dfb9d2c2210173ab4239a0c47f0127e58f6d79e861853c3f7fa", checked := Try.checked }
namespace Rows
def none {H : Type} : Left H := { results := [], args := [] }

/-- 'gristmillkeep.TableKeeps': WHATEVER THE INPUT: true; the input reads as it did. -/
def tableKeepsSpec : ChangeSpec := { name := "tableKeeps", fn := fun _ => fun
  | [d1, d2, d3, d4] => { results := [.lit (.bool true)], args := [d1, d2, d3, d4] }
  | _ => none }
def tableKeepsRow : OpenClaim := { program := "ytakemnpicokaiaa", sum := "348ff791e0294dfb9d2c2210173ab4239a0c47f0127e58f6d79e861853c3f7fa", func := "gristmill/gristmillkeep.TableKeeps", spec := "tableKeeps", apart := false }
def TableKeepsSaid : Prop := tableKeepsRow.holds Try.pinned (OpenSpec.ofChange tableKeepsSpec)

/-- ITS FALSE NEIGHBOUR: 'it returns false'. Refute it at one input. -/
def tableKeepsWrong : ChangeSpec := { name := "tableKeeps", fn := fun _ => fun
  | [d1, d2, d3, d4] => { results := [.lit (.bool false)], args := [d1, d2, d3, d4] }
  | _ => none }
def TableKeepsWrongFalsely : Prop := tableKeepsRow.holds Try.pinned (OpenSpec.ofChange tableKeepsWrong)

/-- 'gristmillkeep.TableTakes': WHATEVER THE INPUT: true; the input reads as it did. -/
def tableTakesSpec : ChangeSpec := { name := "tableTakes", fn := fun _ => fun
  | [d1, d2, d3] => { results := [.lit (.bool true)], args := [d1, d2, d3] }
  | _ => none }
def tableTakesRow : OpenClaim := { program := "ytakemnpicokaiaa", sum := "348ff791e0294dfb9d2c2210173ab4239a0c47f0127e58f6d79e861853c3f7fa", func := "gristmill/gristmillkeep.TableTakes", spec := "tableTakes", apart := false }
def TableTakesSaid : Prop := tableTakesRow.holds Try.pinned (OpenSpec.ofChange tableTakesSpec)

/-- ITS FALSE NEIGHBOUR: 'it returns false'. Refute it at one input. -/
def tableTakesWrong : ChangeSpec := { name := "tableTakes", fn := fun _ => fun
  | [d1, d2, d3] => { results := [.lit (.bool false)], args := [d1, d2, d3] }
  | _ => none }
def TableTakesWrongFalsely : Prop := tableTakesRow.holds Try.pinned (OpenSpec.ofChange tableTakesWrong)

/-- 'gristmillkeep.TableOrder': WHATEVER THE INPUT: true; the input reads as it did. -/
def tableOrderSpec : ChangeSpec := { name := "tableOrder", fn := fun _ => fun
  | [d1, d2, d3, d4, d5, d6] => { results := [.lit (.bool true)], args := [d1, d2, d3, d4, d5, d6] }
  | _ => none }
def tableOrderRow : OpenClaim := { program := "ytakemnpicokaiaa", sum := "348ff791e0294dfb9d2c2210173ab4239a0c47f0127e58f6d79e861853c3f7fa", func := "gristmill/gristmillkeep.TableOrder", spec := "tableOrder", apart := false }
def TableOrderSaid : Prop := tableOrderRow.holds Try.pinned (OpenSpec.ofChange tableOrderSpec)

/-- ITS FALSE NEIGHBOUR: 'it returns false'. Refute it at one input. -/
def tableOrderWrong : ChangeSpec := { name := "tableOrder", fn := fun _ => fun
  | [d1, d2, d3, d4, d5, d6] => { results := [.lit (.bool false)], args := [d1, d2, d3, d4, d5, d6] }
  | _ => none }
def TableOrderWrongFalsely : Prop := tableOrderRow.holds Try.pinned (OpenSpec.ofChange tableOrderWrong)

/-- 'gristmillkeep.TableAgain': WHATEVER THE INPUT: true; the input reads as it did. -/
def tableAgainSpec : ChangeSpec := { name := "tableAgain", fn := fun _ => fun
  | [d1, d2, d3, d4] => { results := [.lit (.bool true)], args := [d1, d2, d3, d4] }
  | _ => none }
def tableAgainRow : OpenClaim := { program := "ytakemnpicokaiaa", sum := "348ff791e0294dfb9d2c2210173ab4239a0c47f0127e58f6d79e861853c3f7fa", func := "gristmill/gristmillkeep.TableAgain", spec := "tableAgain", apart := false }
def TableAgainSaid : Prop := tableAgainRow.holds Try.pinned (OpenSpec.ofChange tableAgainSpec)

/-- ITS FALSE NEIGHBOUR: 'it returns false'. Refute it at one input. -/
def tableAgainWrong : ChangeSpec := { name := "tableAgain", fn := fun _ => fun
  | [d1, d2, d3, d4] => { results := [.lit (.bool false)], args := [d1, d2, d3, d4] }
  | _ => none }
def TableAgainWrongFalsely : Prop := tableAgainRow.holds Try.pinned (OpenSpec.ofChange tableAgainWrong)

/-- 'gristmillkeep.TableFinds': WHATEVER THE INPUT: true; the input reads as it did. -/
def tableFindsSpec : ChangeSpec := { name := "tableFinds", fn := fun _ => fun
  | [d1, d2] => { results := [.lit (.bool true)], args := [d1, d2] }
  | _ => none }
def tableFindsRow : OpenClaim := { program := "ytakemnpicokaiaa", sum := "348ff791e0294dfb9d2c2210173ab4239a0c47f0127e58f6d79e861853c3f7fa", func := "gristmill/gristmillkeep.TableFinds", spec := "tableFinds", apart := false }
def TableFindsSaid : Prop := tableFindsRow.holds Try.pinned (OpenSpec.ofChange tableFindsSpec)

/-- ITS FALSE NEIGHBOUR: 'it returns false'. Refute it at one input. -/
def tableFindsWrong : ChangeSpec := { name := "tableFinds", fn := fun _ => fun
  | [d1, d2] => { results := [.lit (.bool false)], args := [d1, d2] }
  | _ => none }
def TableFindsWrongFalsely : Prop := tableFindsRow.holds Try.pinned (OpenSpec.ofChange tableFindsWrong)

/-- 'gristmillkeep.TableBack': WHATEVER THE INPUT: true; the input reads as it did. -/
def tableBackSpec : ChangeSpec := { name := "tableBack", fn := fun _ => fun
  | [d1, d2, d3, d4] => { results := [.lit (.bool true)], args := [d1, d2, d3, d4] }
  | _ => none }
def tableBackRow : OpenClaim := { program := "ytakemnpicokaiaa", sum := "348ff791e0294dfb9d2c2210173ab4239a0c47f0127e58f6d79e861853c3f7fa", func := "gristmill/gristmillkeep.TableBack", spec := "tableBack", apart := false }
def TableBackSaid : Prop := tableBackRow.holds Try.pinned (OpenSpec.ofChange tableBackSpec)

/-- ITS FALSE NEIGHBOUR: 'it returns false'. Refute it at one input. -/
def tableBackWrong : ChangeSpec := { name := "tableBack", fn := fun _ => fun
  | [d1, d2, d3, d4] => { results := [.lit (.bool false)], args := [d1, d2, d3, d4] }
  | _ => none }
def TableBackWrongFalsely : Prop := tableBackRow.holds Try.pinned (OpenSpec.ofChange tableBackWrong)

/-- 'gristmillkeep.TableStays': WHATEVER THE INPUT: true; the input reads as it did. -/
def tableStaysSpec : ChangeSpec := { name := "tableStays", fn := fun _ => fun
  | [d1, d2] => { results := [.lit (.bool true)], args := [d1, d2] }
  | _ => none }
def tableStaysRow : OpenClaim := { program := "ytakemnpicokaiaa", sum := "348ff791e0294dfb9d2c2210173ab4239a0c47f0127e58f6d79e861853c3f7fa", func := "gristmill/gristmillkeep.TableStays", spec := "tableStays", apart := false }
def TableStaysSaid : Prop := tableStaysRow.holds Try.pinned (OpenSpec.ofChange tableStaysSpec)

/-- ITS FALSE NEIGHBOUR: 'it returns false'. Refute it at one input. -/
def tableStaysWrong : ChangeSpec := { name := "tableStays", fn := fun _ => fun
  | [d1, d2] => { results := [.lit (.bool false)], args := [d1, d2] }
  | _ => none }
def TableStaysWrongFalsely : Prop := tableStaysRow.holds Try.pinned (OpenSpec.ofChange tableStaysWrong)

/-- 'gristmillkeep.StoreNow': WHATEVER THE INPUT: true; the input reads as it did. -/
def storeNowSpec : ChangeSpec := { name := "storeNow", fn := fun _ => fun
  | [d1, d2, d3, d4, d5, d6] => { results := [.lit (.bool true)], args := [d1, d2, d3, d4, d5, d6] }
  | _ => none }
def storeNowRow : OpenClaim := { program := "ytakemnpicokaiaa", sum := "348ff791e0294dfb9d2c2210173ab4239a0c47f0127e58f6d79e861853c3f7fa", func := "gristmill/gristmillkeep.StoreNow", spec := "storeNow", apart := false }
def StoreNowSaid : Prop := storeNowRow.holds Try.pinned (OpenSpec.ofChange storeNowSpec)

/-- ITS FALSE NEIGHBOUR: 'it returns false'. Refute it at one input. -/
def storeNowWrong : ChangeSpec := { name := "storeNow", fn := fun _ => fun
  | [d1, d2, d3, d4, d5, d6] => { results := [.lit (.bool false)], args := [d1, d2, d3, d4, d5, d6] }
  | _ => none }
def StoreNowWrongFalsely : Prop := storeNowRow.holds Try.pinned (OpenSpec.ofChange storeNowWrong)

/-- 'gristmillkeep.StoreLater': WHATEVER THE INPUT: true; the input reads as it did. -/
def storeLaterSpec : ChangeSpec := { name := "storeLater", fn := fun _ => fun
  | [d1, d2, d3, d4, d5] => { results := [.lit (.bool true)], args := [d1, d2, d3, d4, d5] }
  | _ => none }
def storeLaterRow : OpenClaim := { program := "ytakemnpicokaiaa", sum := "348ff791e0294dfb9d2c2210173ab4239a0c47f0127e58f6d79e861853c3f7fa", func := "gristmill/gristmillkeep.StoreLater", spec := "storeLater", apart := false }
def StoreLaterSaid : Prop := storeLaterRow.holds Try.pinned (OpenSpec.ofChange storeLaterSpec)

/-- ITS FALSE NEIGHBOUR: 'it returns false'. Refute it at one input. -/
def storeLaterWrong : ChangeSpec := { name := "storeLater", fn := fun _ => fun
  | [d1, d2, d3, d4, d5] => { results := [.lit (.bool false)], args := [d1, d2, d3, d4, d5] }
  | _ => none }
def StoreLaterWrongFalsely : Prop := storeLaterRow.holds Try.pinned (OpenSpec.ofChange storeLaterWrong)

/-- 'gristmillkeep.StoreAll': WHATEVER THE INPUT: true; the input reads as it did. -/
def storeAllSpec : ChangeSpec := { name := "storeAll", fn := fun _ => fun
  | [d] => { results := [.lit (.bool true)], args := [d] }
  | _ => none }
def storeAllRow : OpenClaim := { program := "ytakemnpicokaiaa", sum := "348ff791e0294dfb9d2c2210173ab4239a0c47f0127e58f6d79e861853c3f7fa", func := "gristmill/gristmillkeep.StoreAll", spec := "storeAll", apart := false }
def StoreAllSaid : Prop := storeAllRow.holds Try.pinned (OpenSpec.ofChange storeAllSpec)

/-- ITS FALSE NEIGHBOUR: 'it returns false'. Refute it at one input. -/
def storeAllWrong : ChangeSpec := { name := "storeAll", fn := fun _ => fun
  | [d] => { results := [.lit (.bool false)], args := [d] }
  | _ => none }
def StoreAllWrongFalsely : Prop := storeAllRow.holds Try.pinned (OpenSpec.ofChange storeAllWrong)

/-- 'gristmillkeep.StoreStays': WHATEVER THE INPUT: true; the input reads as it did. -/
def storeStaysSpec : ChangeSpec := { name := "storeStays", fn := fun _ => fun
  | [d1, d2, d3, d4] => { results := [.lit (.bool true)], args := [d1, d2, d3, d4] }
  | _ => none }
def storeStaysRow : OpenClaim := { program := "ytakemnpicokaiaa", sum := "348ff791e0294dfb9d2c2210173ab4239a0c47f0127e58f6d79e861853c3f7fa", func := "gristmill/gristmillkeep.StoreStays", spec := "storeStays", apart := false }
def StoreStaysSaid : Prop := storeStaysRow.holds Try.pinned (OpenSpec.ofChange storeStaysSpec)

/-- ITS FALSE NEIGHBOUR: 'it returns false'. Refute it at one input. -/
def storeStaysWrong : ChangeSpec := { name := "storeStays", fn := fun _ => fun
  | [d1, d2, d3, d4] => { results := [.lit (.bool false)], args := [d1, d2, d3, d4] }
  | _ => none }
def StoreStaysWrongFalsely : Prop := storeStaysRow.holds Try.pinned (OpenSpec.ofChange storeStaysWrong)

/-- 'gristmillkeep.StoreWishes': WHATEVER THE INPUT: true; the input reads as it did. -/
def storeWishesSpec : ChangeSpec := { name := "storeWishes", fn := fun _ => fun
  | [d1, d2, d3, d4, d5, d6] => { results := [.lit (.bool true)], args := [d1, d2, d3, d4, d5, d6] }
  | _ => none }
def storeWishesRow : OpenClaim := { program := "ytakemnpicokaiaa", sum := "348ff791e0294dfb9d2c2210173ab4239a0c47f0127e58f6d79e861853c3f7fa", func := "gristmill/gristmillkeep.StoreWishes", spec := "storeWishes", apart := false }
def StoreWishesSaid : Prop := storeWishesRow.holds Try.pinned (OpenSpec.ofChange storeWishesSpec)

/-- ITS FALSE NEIGHBOUR: 'it returns false'. Refute it at one input. -/
def storeWishesWrong : ChangeSpec := { name := "storeWishes", fn := fun _ => fun
  | [d1, d2, d3, d4, d5, d6] => { results := [.lit (.bool false)], args := [d1, d2, d3, d4, d5, d6] }
  | _ => none }
def StoreWishesWrongFalsely : Prop := storeWishesRow.holds Try.pinned (OpenSpec.ofChange storeWishesWrong)

/-- 'gristmillkeep.StoreEither': WHATEVER THE INPUT: true; the input reads as it did. -/
def storeEitherSpec : ChangeSpec := { name := "storeEither", fn := fun _ => fun
  | [d1, d2, d3, d4] => { results := [.lit (.bool true)], args := [d1, d2, d3, d4] }
  | _ => none }
def storeEitherRow : OpenClaim := { program := "ytakemnpicokaiaa", sum := "348ff791e0294dfb9d2c2210173ab4239a0c47f0127e58f6d79e861853c3f7fa", func := "gristmill/gristmillkeep.StoreEither", spec := "storeEither", apart := false }
def StoreEitherSaid : Prop := storeEitherRow.holds Try.pinned (OpenSpec.ofChange storeEitherSpec)

/-- ITS FALSE NEIGHBOUR: 'it returns false'. Refute it at one input. -/
def storeEitherWrong : ChangeSpec := { name := "storeEither", fn := fun _ => fun
  | [d1, d2, d3, d4] => { results := [.lit (.bool false)], args := [d1, d2, d3, d4] }
  | _ => none }
def StoreEitherWrongFalsely : Prop := storeEitherRow.holds Try.pinned (OpenSpec.ofChange storeEitherWrong)

/-- 'gristmillkeep.StoreApart': WHATEVER THE INPUT: true; the input reads as it did. -/
def storeApartSpec : ChangeSpec := { name := "storeApart", fn := fun _ => fun
  | [d1, d2, d3] => { results := [.lit (.bool true)], args := [d1, d2, d3] }
  | _ => none }
def storeApartRow : OpenClaim := { program := "ytakemnpicokaiaa", sum := "348ff791e0294dfb9d2c2210173ab4239a0c47f0127e58f6d79e861853c3f7fa", func := "gristmill/gristmillkeep.StoreApart", spec := "storeApart", apart := false }
def StoreApartSaid : Prop := storeApartRow.holds Try.pinned (OpenSpec.ofChange storeApartSpec)

/-- ITS FALSE NEIGHBOUR: 'it returns false'. Refute it at one input. -/
def storeApartWrong : ChangeSpec := { name := "storeApart", fn := fun _ => fun
  | [d1, d2, d3] => { results := [.lit (.bool false)], args := [d1, d2, d3] }
  | _ => none }
def StoreApartWrongFalsely : Prop := storeApartRow.holds Try.pinned (OpenSpec.ofChange storeApartWrong)

/-- 'gristmillkeep.StoreEvicts': WHATEVER THE INPUT: true; the input reads as it did. -/
def storeEvictsSpec : ChangeSpec := { name := "storeEvicts", fn := fun _ => fun
  | [d1, d2, d3] => { results := [.lit (.bool true)], args := [d1, d2, d3] }
  | _ => none }
def storeEvictsRow : OpenClaim := { program := "ytakemnpicokaiaa", sum := "348ff791e0294dfb9d2c2210173ab4239a0c47f0127e58f6d79e861853c3f7fa", func := "gristmill/gristmillkeep.StoreEvicts", spec := "storeEvicts", apart := false }
def StoreEvictsSaid : Prop := storeEvictsRow.holds Try.pinned (OpenSpec.ofChange storeEvictsSpec)

/-- ITS FALSE NEIGHBOUR: 'it returns false'. Refute it at one input. -/
def storeEvictsWrong : ChangeSpec := { name := "storeEvicts", fn := fun _ => fun
  | [d1, d2, d3] => { results := [.lit (.bool false)], args := [d1, d2, d3] }
  | _ => none }
def StoreEvictsWrongFalsely : Prop := storeEvictsRow.holds Try.pinned (OpenSpec.ofChange storeEvictsWrong)

/-- 'gristmillkeep.StoreIdle': WHATEVER THE INPUT: true; the input reads as it did. -/
def storeIdleSpec : ChangeSpec := { name := "storeIdle", fn := fun _ => fun
  | [d1, d2] => { results := [.lit (.bool true)], args := [d1, d2] }
  | _ => none }
def storeIdleRow : OpenClaim := { program := "ytakemnpicokaiaa", sum := "348ff791e0294dfb9d2c2210173ab4239a0c47f0127e58f6d79e861853c3f7fa", func := "gristmill/gristmillkeep.StoreIdle", spec := "storeIdle", apart := false }
def StoreIdleSaid : Prop := storeIdleRow.holds Try.pinned (OpenSpec.ofChange storeIdleSpec)

/-- ITS FALSE NEIGHBOUR: 'it returns false'. Refute it at one input. -/
def storeIdleWrong : ChangeSpec := { name := "storeIdle", fn := fun _ => fun
  | [d1, d2] => { results := [.lit (.bool false)], args := [d1, d2] }
  | _ => none }
def StoreIdleWrongFalsely : Prop := storeIdleRow.holds Try.pinned (OpenSpec.ofChange storeIdleWrong)

/- THE SECOND FORM. 'bulk': how many values and letters a reading holds, each counted each time it is reached (what is shared counts as often as it is met; a slice's spare places count too). A statement '..UptoSaid' is the law's where the arguments, and the package variables that the reading takes, are together of bulk at most 1048576: NARROWER than '..Said'. Prove '..Said' where nothing that the law and all that it calls make is longer than what came in: it says more and counts as full. Else prove '..UptoSaid'. A law counts once. -/
mutual
def uptoBulk {H : Type} : DataW H → Nat
  | .lit (.string bytes) => bytes.length + 1
  | .lit _ => 1
  | .nil => 1
  | .ptr d => uptoBulk d + 1
  | .slice elems spare => uptoBulkAll elems + uptoBulkAll spare + 1
  | .agg parts => uptoBulkAll parts + 1
  | .iface _ d => uptoBulk d + 1
  | .map entries => uptoBulkEntries entries + 1
  | .held _ => 1
def uptoBulkAll {H : Type} : List (DataW H) → Nat
  | [] => 0
  | d :: r => uptoBulk d + uptoBulkAll r
def uptoBulkEntries {H : Type} : List (Lit × DataW H) → Nat
  | [] => 0
  | x :: r => uptoBulkEntry x + uptoBulkEntries r
def uptoBulkEntry {H : Type} : Lit × DataW H → Nat
  | (.string bytes, d) => bytes.length + uptoBulk d + 1
  | (_, d) => uptoBulk d + 1
 end
def uptoSmall : (H : Type) → List (DataW H) → Bool := fun _ ds => decide (uptoBulkAll ds ≤ 1048576)
def OpenSpec.upto (s : _root_.Go.ChangeSpec) : _root_.Go.OpenSpec := { _root_.Go.OpenSpec.ofChange s with cond := some uptoSmall }

/-- 'gristmillkeep.TableKeeps', WHERE WHAT IT READS IS OF BULK AT MOST 1048576: true; the input reads as it did. -/
def tableKeepsUptoRow : OpenClaim := { program := "ytakemnpicokaiaa", sum := "348ff791e0294dfb9d2c2210173ab4239a0c47f0127e58f6d79e861853c3f7fa", func := "gristmill/gristmillkeep.TableKeeps", spec := "tableKeeps", apart := false, narrowed := true }
def TableKeepsUptoSaid : Prop := tableKeepsUptoRow.holds Try.pinned (OpenSpec.upto tableKeepsSpec)

/-- 'gristmillkeep.TableTakes', WHERE WHAT IT READS IS OF BULK AT MOST 1048576: true; the input reads as it did. -/
def tableTakesUptoRow : OpenClaim := { program := "ytakemnpicokaiaa", sum := "348ff791e0294dfb9d2c2210173ab4239a0c47f0127e58f6d79e861853c3f7fa", func := "gristmill/gristmillkeep.TableTakes", spec := "tableTakes", apart := false, narrowed := true }
def TableTakesUptoSaid : Prop := tableTakesUptoRow.holds Try.pinned (OpenSpec.upto tableTakesSpec)

/-- 'gristmillkeep.TableOrder', WHERE WHAT IT READS IS OF BULK AT MOST 1048576: true; the input reads as it did. -/
def tableOrderUptoRow : OpenClaim := { program := "ytakemnpicokaiaa", sum := "348ff791e0294dfb9d2c2210173ab4239a0c47f0127e58f6d79e861853c3f7fa", func := "gristmill/gristmillkeep.TableOrder", spec := "tableOrder", apart := false, narrowed := true }
def TableOrderUptoSaid : Prop := tableOrderUptoRow.holds Try.pinned (OpenSpec.upto tableOrderSpec)

/-- 'gristmillkeep.TableAgain', WHERE WHAT IT READS IS OF BULK AT MOST 1048576: true; the input reads as it did. -/
def tableAgainUptoRow : OpenClaim := { program := "ytakemnpicokaiaa", sum := "348ff791e0294dfb9d2c2210173ab4239a0c47f0127e58f6d79e861853c3f7fa", func := "gristmill/gristmillkeep.TableAgain", spec := "tableAgain", apart := false, narrowed := true }
def TableAgainUptoSaid : Prop := tableAgainUptoRow.holds Try.pinned (OpenSpec.upto tableAgainSpec)

/-- 'gristmillkeep.TableFinds', WHERE WHAT IT READS IS OF BULK AT MOST 1048576: true; the input reads as it did. -/
def tableFindsUptoRow : OpenClaim := { program := "ytakemnpicokaiaa", sum := "348ff791e0294dfb9d2c2210173ab4239a0c47f0127e58f6d79e861853c3f7fa", func := "gristmill/gristmillkeep.TableFinds", spec := "tableFinds", apart := false, narrowed := true }
def TableFindsUptoSaid : Prop := tableFindsUptoRow.holds Try.pinned (OpenSpec.upto tableFindsSpec)

/-- 'gristmillkeep.TableBack', WHERE WHAT IT READS IS OF BULK AT MOST 1048576: true; the input reads as it did. -/
def tableBackUptoRow : OpenClaim := { program := "ytakemnpicokaiaa", sum := "348ff791e0294dfb9d2c2210173ab4239a0c47f0127e58f6d79e861853c3f7fa", func := "gristmill/gristmillkeep.TableBack", spec := "tableBack", apart := false, narrowed := true }
def TableBackUptoSaid : Prop := tableBackUptoRow.holds Try.pinned (OpenSpec.upto tableBackSpec)

/-- 'gristmillkeep.TableStays', WHERE WHAT IT READS IS OF BULK AT MOST 1048576: true; the input reads as it did. -/
def tableStaysUptoRow : OpenClaim := { program := "ytakemnpicokaiaa", sum := "348ff791e0294dfb9d2c2210173ab4239a0c47f0127e58f6d79e861853c3f7fa", func := "gristmill/gristmillkeep.TableStays", spec := "tableStays", apart := false, narrowed := true }
def TableStaysUptoSaid : Prop := tableStaysUptoRow.holds Try.pinned (OpenSpec.upto tableStaysSpec)

/-- 'gristmillkeep.StoreNow', WHERE WHAT IT READS IS OF BULK AT MOST 1048576: true; the input reads as it did. -/
def storeNowUptoRow : OpenClaim := { program := "ytakemnpicokaiaa", sum := "348ff791e0294dfb9d2c2210173ab4239a0c47f0127e58f6d79e861853c3f7fa", func := "gristmill/gristmillkeep.StoreNow", spec := "storeNow", apart := false, narrowed := true }
def StoreNowUptoSaid : Prop := storeNowUptoRow.holds Try.pinned (OpenSpec.upto storeNowSpec)

/-- 'gristmillkeep.StoreLater', WHERE WHAT IT READS IS OF BULK AT MOST 1048576: true; the input reads as it did. -/
def storeLaterUptoRow : OpenClaim := { program := "ytakemnpicokaiaa", sum := "348ff791e0294dfb9d2c2210173ab4239a0c47f0127e58f6d79e861853c3f7fa", func := "gristmill/gristmillkeep.StoreLater", spec := "storeLater", apart := false, narrowed := true }
def StoreLaterUptoSaid : Prop := storeLaterUptoRow.holds Try.pinned (OpenSpec.upto storeLaterSpec)

/-- 'gristmillkeep.StoreAll', WHERE WHAT IT READS IS OF BULK AT MOST 1048576: true; the input reads as it did. -/
def storeAllUptoRow : OpenClaim := { program := "ytakemnpicokaiaa", sum := "348ff791e0294dfb9d2c2210173ab4239a0c47f0127e58f6d79e861853c3f7fa", func := "gristmill/gristmillkeep.StoreAll", spec := "storeAll", apart := false, narrowed := true }
def StoreAllUptoSaid : Prop := storeAllUptoRow.holds Try.pinned (OpenSpec.upto storeAllSpec)

/-- 'gristmillkeep.StoreStays', WHERE WHAT IT READS IS OF BULK AT MOST 1048576: true; the input reads as it did. -/
def storeStaysUptoRow : OpenClaim := { program := "ytakemnpicokaiaa", sum := "348ff791e0294dfb9d2c2210173ab4239a0c47f0127e58f6d79e861853c3f7fa", func := "gristmill/gristmillkeep.StoreStays", spec := "storeStays", apart := false, narrowed := true }
def StoreStaysUptoSaid : Prop := storeStaysUptoRow.holds Try.pinned (OpenSpec.upto storeStaysSpec)

/-- 'gristmillkeep.StoreWishes', WHERE WHAT IT READS IS OF BULK AT MOST 1048576: true; the input reads as it did. -/
def storeWishesUptoRow : OpenClaim := { program := "ytakemnpicokaiaa", sum := "348ff791e0294dfb9d2c2210173ab4239a0c47f0127e58f6d79e861853c3f7fa", func := "gristmill/gristmillkeep.StoreWishes", spec := "storeWishes", apart := false, narrowed := true }
def StoreWishesUptoSaid : Prop := storeWishesUptoRow.holds Try.pinned (OpenSpec.upto storeWishesSpec)

/-- 'gristmillkeep.StoreEither', WHERE WHAT IT READS IS OF BULK AT MOST 1048576: true; the input reads as it did. -/
def storeEitherUptoRow : OpenClaim := { program := "ytakemnpicokaiaa", sum := "348ff791e0294dfb9d2c2210173ab4239a0c47f0127e58f6d79e861853c3f7fa", func := "gristmill/gristmillkeep.StoreEither", spec := "storeEither", apart := false, narrowed := true }
def StoreEitherUptoSaid : Prop := storeEitherUptoRow.holds Try.pinned (OpenSpec.upto storeEitherSpec)

/-- 'gristmillkeep.StoreApart', WHERE WHAT IT READS IS OF BULK AT MOST 1048576: true; the input reads as it did. -/
def storeApartUptoRow : OpenClaim := { program := "ytakemnpicokaiaa", sum := "348ff791e0294dfb9d2c2210173ab4239a0c47f0127e58f6d79e861853c3f7fa", func := "gristmill/gristmillkeep.StoreApart", spec := "storeApart", apart := false, narrowed := true }
def StoreApartUptoSaid : Prop := storeApartUptoRow.holds Try.pinned (OpenSpec.upto storeApartSpec)

/-- 'gristmillkeep.StoreEvicts', WHERE WHAT IT READS IS OF BULK AT MOST 1048576: true; the input reads as it did. -/
def storeEvictsUptoRow : OpenClaim := { program := "ytakemnpicokaiaa", sum := "348ff791e0294dfb9d2c2210173ab4239a0c47f0127e58f6d79e861853c3f7fa", func := "gristmill/gristmillkeep.StoreEvicts", spec := "storeEvicts", apart := false, narrowed := true }
def StoreEvictsUptoSaid : Prop := storeEvictsUptoRow.holds Try.pinned (OpenSpec.upto storeEvictsSpec)

/-- 'gristmillkeep.StoreIdle', WHERE WHAT IT READS IS OF BULK AT MOST 1048576: true; the input reads as it did. -/
def storeIdleUptoRow : OpenClaim := { program := "ytakemnpicokaiaa", sum := "348ff791e0294dfb9d2c2210173ab4239a0c47f0127e58f6d79e861853c3f7fa", func := "gristmill/gristmillkeep.StoreIdle", spec := "storeIdle", apart := false, narrowed := true }
def StoreIdleUptoSaid : Prop := storeIdleUptoRow.holds Try.pinned (OpenSpec.upto storeIdleSpec)

end Rows
end Go.Proofs.Ytakemnpicokaiaa
