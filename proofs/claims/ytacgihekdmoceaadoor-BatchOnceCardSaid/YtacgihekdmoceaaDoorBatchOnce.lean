/- BatchOnce: the walk of the law. -/
import Derived.Test.YtacgihekdmoceaaDoorBt5
namespace Go.Proofs.YtacgihekdmoceaaDoor
open Go.RowKit
set_option linter.unusedVariables false
set_option maxRecDepth 100000
set_option maxHeartbeats 4000000
structure BoG (l : List Ask) where
  i : Nat
  mA : Nat
  cA : Nat
  nA : Bool
  zA : Nat → Nat → Int
  m : Nat
  c : Nat
  nn : Bool
  z : Nat → Nat → Int
  hi : i ≤ l.length
  hA : (l.length ≤ mA ∧ mA ≤ cA) ∧ IsA zA l
  ho : ((oneTo l i).length ≤ m ∧ m ≤ c) ∧ IsA z (oneTo l i)
def annBo (r : Rec) (l : List Ask) : Ann where
  σ := BoG l
  I g := ([(7, .o (.c (.p 0 0))), (8, .o (.c (.so 1 0 5 l.length g.cA g.nA))), (9, .o (.c (.so 2 0 5 (oneTo l g.i).length g.c g.nn))), (34, .o (.c (.so 1 0 5 l.length g.cA g.nA))), (35, sv (.int .i64 l.length)), (36, sv (.int .i64 g.i))],
    [recB (fL r.words), rowsA g.mA g.cA g.zA, rowsA g.m g.c g.z])
  dec g := l.length - g.i
  pi env _ := [blkE env 7, blkE env 8, blkE env 9]
  nz := [nzA 9]
structure BoH (r : Rec) (l : List Ask) where
  i : Nat
  m : Nat
  c : Nat
  nn : Bool
  z : Nat → Nat → Int
  fq : Nat → Int
  hi : i ≤ l.length
  ho : (l.length ≤ m ∧ m ≤ c) ∧ IsA z l
  hq : toN 32 fq = (bDo r l).words
def annBo2 (r : Rec) (l : List Ask) : Ann where
  σ := BoH r l
  I g := ([(9, .o (.c (.so 0 0 5 l.length g.c g.nn))), (12, .o (.c (.p 1 0))), (58, .o (.c (.so 0 0 5 l.length g.c g.nn))), (59, sv (.int .i64 l.length)), (60, sv (.int .i64 g.i))], [rowsA g.m g.c g.z, recB g.fq])
  dec g := l.length - g.i
  pi env _ := [blkE env 9, blkE env 12]
  nz := []
theorem walk_BatchOnce (a0 : Int) (a1 : Option Addr) (len1 cap1 : Nat) (z1 : Nat → Nat → Int) (a2 : Option Addr) (len2 cap2 : Nat) (z2 : Nat → Nat → Int) (W : World) (hE : ErrType W) (w0 : (Lit.int .i64 a0).wf = true) (w1 : Rws 6 (fun _ => .i64) W a1 len1 cap1 z1) (w2 : Rws 6 (fun _ => .i64) W a2 len2 cap2 z2) :
    Calls Tryd.prog 5 #[.int .i64 a0, .slice a1 len1 cap1, .slice a2 len2 cap2] W fun e w' => e = .returned (.bool true) ∧ Below W.heap.size W w' := by
  refine once_of_run (AG := [(5, [(0, annBo (wrTo (1 + pickZ a0 6) z1 (min len1 30)) (asTo z2 (min len2 12))), (2, annBo2 (wrTo (1 + pickZ a0 6) z1 (min len1 30)) (oneTo (asTo z2 (min len2 12)) (asTo z2 (min len2 12)).length))])]) (Γ := [(15, .pure conBatched), (16, .pure conRecorded), (11, .pure conKindOf), (17, .pure (conWritten W)), (19, .mem (conAsks W)), (18, .mem conBDo), (22, .pure conOpen), (20, .mem (conHas 21 askB))]) Tryd.func5 rfl tabB_ok tabB_tys
    (.cons (batched_con W _) (.cons (recorded_con W _) (.cons (kindOf_con W _) (.cons (written_con W) (.cons (asks_con W) (.cons (bdo_con W _) (.cons (open_con W _) (.cons (hasOnce_con W _) (.nil _ _ _)))))))))
    [.c (.v (.int .i64 a0)), .c (.r a1 len1 cap1 len1 6 (fun _ => .i64) z1), .c (.r a2 len2 cap2 len2 6 (fun _ => .i64) z2)] (.bool true) 800 rfl ?_ rfl
  refine by_eq (q :=
      True ∧ True ∧ True ∧ ((1 : Int) ≤ (1 : Int) + pickZ a0 (6 : Int) ∧ (1 : Int) + pickZ a0 (6 : Int) ≤ (6 : Int) ∧ len1 = len1 ∧ 6 = 6 ∧ (AllI fun (x : Nat) => .i64) ∧ Rws 6 (fun (x : Nat) => .i64) W a1 len1 cap1 z1) ∧ ∃ (s : AskS), [SA.c (.r a2 len2 cap2 len2 6 (fun (x : Nat) => .i64) z2)] = [SA.c (.r s.1 s.2 s.3 s.2 6 (fun (x : Nat) => .i64) s.4)] ∧ ([] : List SB) = [] ∧ Rws 6 (fun (x : Nat) => .i64) W (AskS.a s) (AskS.n s) s.3 s.4 ∧ ∀ (x : LstR), (List.length (asTo s.4 (min s.2 12)) ≤ x.1 ∧ x.1 ≤ x.2) ∧ IsA x.4 (asTo s.4 (min s.2 12)) → List.length (asTo s.4 (min s.2 12)) ≤ x.2 ∧ (∃ (s0 : Ann.σ (annBo (wrTo ((1 : Int) + pickZ a0 (6 : Int)) z1 (min len1 30)) (asTo z2 (min len2 12)))), (some (SV.o (SA.c (.p 0 0))) = some (SV.o (SA.c (.p 0 0))) ∧ some (SV.o (SA.c (.so 1 0 5 (List.length (asTo s.4 (min s.2 12))) x.2 x.3))) = some (SV.o (SA.c (.so 1 0 5 (List.length (asTo z2 (min len2 12))) s0.3 s0.4))) ∧ some (SV.o (SA.c (.so 2 0 5 0 0 false))) = some (SV.o (SA.c (.so 2 0 5 (List.length (oneTo (asTo z2 (min len2 12)) s0.1)) s0.7 s0.8))) ∧ some (SV.o (SA.c (.so 1 0 5 (List.length (asTo s.4 (min s.2 12))) x.2 x.3))) = some (SV.o (SA.c (.so 1 0 5 (List.length (asTo z2 (min len2 12))) s0.3 s0.4))) ∧ some (SV.o (SA.c (.v (Value.int .i64 (↑(List.length (asTo s.4 (min s.2 12))) : Int))))) = some (SV.o (SA.c (.v (Value.int .i64 (↑(List.length (asTo z2 (min len2 12))) : Int))))) ∧ some (SV.o (SA.c (.v (Value.int .i64 (0 : Int))))) = some (SV.o (SA.c (.v (Value.int .i64 (↑s0.1 : Int))))) ∧ True) ∧ [SB.cells [Seg.ints (.int .u64) 32 (fL (Rec.words (wrTo ((1 : Int) + pickZ a0 (6 : Int)) z1 (min len1 30))))] 44, SB.rows 52 [.int .i64, .int .i64, .int .i64, .int .i64, .int .i64] 5 x.1 x.2 x.4, SB.rows 52 [.int .i64, .int .i64, .int .i64, .int .i64, .int .i64] 5 0 0 fun (x x_1 : Nat) => (0 : Int)] = [SB.cells [Seg.ints (.int .u64) 32 (fL (Rec.words (wrTo ((1 : Int) + pickZ a0 (6 : Int)) z1 (min len1 30))))] 44, SB.rows 52 [.int .i64, .int .i64, .int .i64, .int .i64, .int .i64] 5 s0.2 s0.3 s0.5, SB.rows 52 [.int .i64, .int .i64, .int .i64, .int .i64, .int .i64] 5 s0.6 s0.7 s0.9]) ∧ ∀ (s : BoG (asTo z2 (min len2 12))), bif decide ((↑s.1 : Int) < (↑(List.length (asTo z2 (min len2 12))) : Int)) then ((0 : Int) ≤ (↑s.1 : Int) ∧ (↑s.1 : Int) < (↑(List.length (asTo z2 (min len2 12))) : Int) ∧ 0 + List.length (asTo z2 (min len2 12)) ≤ s.3) ∧ 0 + Int.toNat (↑s.1 : Int) < s.2 ∧ ∃ (s_1 : IdS), [SA.c (.so 2 0 5 (List.length (oneTo (asTo z2 (min len2 12)) s.1)) s.7 s.8), SA.c (.fn 21 [(3, 0)])] = [SA.c (.so 2 0 5 (List.length s_1.1) s_1.3 s_1.4), SA.c (.fn 21 [(3, 0)])] ∧ [SB.rows 52 [.int .i64, .int .i64, .int .i64, .int .i64, .int .i64] 5 s.6 s.7 s.9, SB.cells [Seg.one (.v (.int .i64 (s.5 (0 + Int.toNat (↑s.1 : Int)) 0))), Seg.one (.v (.int .i64 (s.5 (0 + Int.toNat (↑s.1 : Int)) 1))), Seg.one (.v (.int .i64 (s.5 (0 + Int.toNat (↑s.1 : Int)) 2))), Seg.one (.v (.int .i64 (s.5 (0 + Int.toNat (↑s.1 : Int)) 3))), Seg.one (.v (.int .i64 (s.5 (0 + Int.toNat (↑s.1 : Int)) 4)))] 52] = [SB.rows 52 [.int .i64, .int .i64, .int .i64, .int .i64, .int .i64] 5 s_1.2 s_1.3 s_1.5, SB.cells [Seg.one (.v (.int .i64 (s_1.6 0))), Seg.one (.v (.int .i64 (s_1.6 1))), Seg.one (.v (.int .i64 (s_1.6 2))), Seg.one (.v (.int .i64 (s_1.6 3))), Seg.one (.v (.int .i64 (s_1.6 4)))] 52] ∧ (List.length s_1.1 ≤ 1000 ∧ (List.length s_1.1 ≤ s_1.2 ∧ s_1.2 ≤ s_1.3) ∧ IsA s_1.5 s_1.1) ∧ ∀ (x : Unit), True → bif bif hasT s_1.1 (s_1.6 0) then false else true then ((List.length (oneTo (asTo z2 (min len2 12)) s.1) ≤ s_1.2 ∧ s.7 = s_1.3) ∧ (1 ≤ 1 ∧ 1 = 1) ∧ List.length (oneTo (asTo z2 (min len2 12)) s.1) + 1 ≤ 68719476736) ∧ ∀ (c : Nat), List.length (oneTo (asTo z2 (min len2 12)) s.1) + 1 ≤ c → ∃ (s' : BoG (asTo z2 (min len2 12))), ((some (SV.o (SA.c (.p 0 0))) = some (SV.o (SA.c (.p 0 0))) ∧ some (SV.o (SA.c (SC.so 1 0 5 (List.length (asTo z2 (min len2 12))) s.3 s.4))) = some (SV.o (SA.c (SC.so 1 0 5 (List.length (asTo z2 (min len2 12))) s'.3 s'.4))) ∧ some (SV.o (SA.c (SC.so 5 0 5 (List.length (oneTo (asTo z2 (min len2 12)) s.1) + 1) c s.8))) = some (SV.o (SA.c (SC.so 5 0 5 (List.length (oneTo (asTo z2 (min len2 12)) s'.1)) s'.7 s'.8))) ∧ some (SV.o (SA.c (SC.so 1 0 5 (List.length (asTo z2 (min len2 12))) s.3 s.4))) = some (SV.o (SA.c (SC.so 1 0 5 (List.length (asTo z2 (min len2 12))) s'.3 s'.4))) ∧ some (SV.o (SA.c (SC.v (Value.int .i64 (↑(List.length (asTo z2 (min len2 12))) : Int))))) = some (SV.o (SA.c (SC.v (Value.int .i64 (↑(List.length (asTo z2 (min len2 12))) : Int))))) ∧ some (SV.o (SA.c (SC.v (Value.int .i64 (IntKind.wrap .i64 ((↑s.1 : Int) + (1 : Int))))))) = some (SV.o (SA.c (.v (Value.int .i64 (↑s'.1 : Int))))) ∧ True) ∧ [SB.cells [Seg.ints (.int .u64) 32 (fL (Rec.words (wrTo ((1 : Int) + pickZ a0 (6 : Int)) z1 (min len1 30))))] 44, SB.rows 52 [.int .i64, .int .i64, .int .i64, .int .i64, .int .i64] 5 s.2 s.3 s.5, SB.rows 52 [.int .i64, .int .i64, .int .i64, .int .i64, .int .i64] 5 (List.length (oneTo (asTo z2 (min len2 12)) s.1) + 1) c fun (i j : Nat) => bif Nat.ble (i + 1) (List.length (oneTo (asTo z2 (min len2 12)) s.1)) then s_1.5 i j else match List.get?Internal (match List.get?Internal [[s_1.6 0, s_1.6 1, s_1.6 2, s_1.6 3, s_1.6 4]] (0 + (i - List.length (oneTo (asTo z2 (min len2 12)) s.1))) with | some x => x | none => []) j with | some x => x | none => (0 : Int)] = [SB.cells [Seg.ints (.int .u64) 32 (fL (Rec.words (wrTo ((1 : Int) + pickZ a0 (6 : Int)) z1 (min len1 30))))] 44, SB.rows 52 [.int .i64, .int .i64, .int .i64, .int .i64, .int .i64] 5 s'.2 s'.3 s'.5, SB.rows 52 [.int .i64, .int .i64, .int .i64, .int .i64, .int .i64] 5 s'.6 s'.7 s'.9]) ∧ List.length (asTo z2 (min len2 12)) - s'.1 < List.length (asTo z2 (min len2 12)) - s.1 else ∃ (s' : BoG (asTo z2 (min len2 12))), ((some (SV.o (SA.c (.p 0 0))) = some (SV.o (SA.c (.p 0 0))) ∧ some (SV.o (SA.c (SC.so 1 0 5 (List.length (asTo z2 (min len2 12))) s.3 s.4))) = some (SV.o (SA.c (SC.so 1 0 5 (List.length (asTo z2 (min len2 12))) s'.3 s'.4))) ∧ some (SV.o (SA.c (SC.so 2 0 5 (List.length (oneTo (asTo z2 (min len2 12)) s.1)) s.7 s.8))) = some (SV.o (SA.c (SC.so 2 0 5 (List.length (oneTo (asTo z2 (min len2 12)) s'.1)) s'.7 s'.8))) ∧ some (SV.o (SA.c (SC.so 1 0 5 (List.length (asTo z2 (min len2 12))) s.3 s.4))) = some (SV.o (SA.c (SC.so 1 0 5 (List.length (asTo z2 (min len2 12))) s'.3 s'.4))) ∧ some (SV.o (SA.c (.v (.int .i64 (↑(List.length (asTo z2 (min len2 12))) : Int))))) = some (SV.o (SA.c (.v (.int .i64 (↑(List.length (asTo z2 (min len2 12))) : Int))))) ∧ some (SV.o (SA.c (.v (.int .i64 (IntKind.wrap .i64 ((↑s.1 : Int) + (1 : Int))))))) = some (SV.o (SA.c (.v (Value.int .i64 (↑s'.1 : Int))))) ∧ True) ∧ [SB.cells [Seg.ints (.int .u64) 32 (fL (Rec.words (wrTo ((1 : Int) + pickZ a0 (6 : Int)) z1 (min len1 30))))] 44, SB.rows 52 [.int .i64, .int .i64, .int .i64, .int .i64, .int .i64] 5 s.2 s.3 s.5, SB.rows 52 [.int .i64, .int .i64, .int .i64, .int .i64, .int .i64] 5 s_1.2 s_1.3 s_1.5] = [SB.cells [Seg.ints (.int .u64) 32 (fL (Rec.words (wrTo ((1 : Int) + pickZ a0 (6 : Int)) z1 (min len1 30))))] 44, SB.rows 52 [.int .i64, .int .i64, .int .i64, .int .i64, .int .i64] 5 s'.2 s'.3 s'.5, SB.rows 52 [.int .i64, .int .i64, .int .i64, .int .i64, .int .i64] 5 s'.6 s'.7 s'.9]) ∧ List.length (asTo z2 (min len2 12)) - s'.1 < List.length (asTo z2 (min len2 12)) - s.1 else ∃ (s_1 : BdS), [SA.a [Seg.ints (.int .u64) 32 (fL (Rec.words (wrTo ((1 : Int) + pickZ a0 (6 : Int)) z1 (min len1 30))))], SA.c (.so 2 0 5 (List.length (oneTo (asTo z2 (min len2 12)) s.1)) s.7 s.8)] = [SA.a [Seg.ints (.int .u64) 32 s_1.2], SA.c (.so 2 s_1.4 5 (List.length s_1.3) s_1.6 s_1.7)] ∧ [SB.rows 52 [.int .i64, .int .i64, .int .i64, .int .i64, .int .i64] 5 s.6 s.7 s.9] = [SB.rows 52 [.int .i64, .int .i64, .int .i64, .int .i64, .int .i64] 5 s_1.5 s_1.6 s_1.8] ∧ ((RecOK (1099511000000 : Int) s_1.1 ∧ toN 32 s_1.2 = Rec.words s_1.1) ∧ AsksOK s_1.3 ∧ List.length s_1.3 ≤ 100 ∧ (s_1.4 + List.length s_1.3 ≤ s_1.5 ∧ s_1.5 ≤ s_1.6) ∧ IsA (fun (i : Nat) => s_1.8 (s_1.4 + i)) s_1.3) ∧ ∀ (x : BdR), (List.length (bD s_1.1 s_1.3) ≤ x.2 ∧ x.2 ≤ x.3) ∧ IsD x.5 (bD s_1.1 s_1.3) ∧ toN 32 x.1 = Rec.words (bDo s_1.1 s_1.3) → List.length (oneTo (asTo z2 (min len2 12)) s.1) ≤ s.7 ∧ (∃ (s0 : Ann.σ (annBo2 (wrTo ((1 : Int) + pickZ a0 (6 : Int)) z1 (min len1 30)) (oneTo (asTo z2 (min len2 12)) (List.length (asTo z2 (min len2 12)))))), (some (SV.o (SA.c (SC.so 2 0 5 (List.length (oneTo (asTo z2 (min len2 12)) s.1)) s.7 s.8))) = some (SV.o (SA.c (SC.so 2 0 5 (List.length (oneTo (asTo z2 (min len2 12)) (List.length (asTo z2 (min len2 12))))) s0.3 s0.4))) ∧ some (SV.o (SA.c (.p 4 0))) = some (SV.o (SA.c (.p 4 0))) ∧ some (SV.o (SA.c (SC.so 2 0 5 (List.length (oneTo (asTo z2 (min len2 12)) s.1)) s.7 s.8))) = some (SV.o (SA.c (SC.so 2 0 5 (List.length (oneTo (asTo z2 (min len2 12)) (List.length (asTo z2 (min len2 12))))) s0.3 s0.4))) ∧ some (SV.o (SA.c (SC.v (Value.int .i64 (↑(List.length (oneTo (asTo z2 (min len2 12)) s.1)) : Int))))) = some (SV.o (SA.c (SC.v (Value.int .i64 (↑(List.length (oneTo (asTo z2 (min len2 12)) (List.length (asTo z2 (min len2 12))))) : Int))))) ∧ some (SV.o (SA.c (.v (Value.int .i64 (0 : Int))))) = some (SV.o (SA.c (.v (Value.int .i64 (↑s0.1 : Int))))) ∧ True) ∧ [SB.rows 52 [.int .i64, .int .i64, .int .i64, .int .i64, .int .i64] 5 s_1.5 s_1.6 s_1.8, SB.cells [Seg.ints (.int .u64) 32 x.1] 44] = [SB.rows 52 [.int .i64, .int .i64, .int .i64, .int .i64, .int .i64] 5 s0.2 s0.3 s0.5, SB.cells [Seg.ints (.int .u64) 32 s0.6] 44]) ∧ ∀ (s : BoH (wrTo ((1 : Int) + pickZ a0 (6 : Int)) z1 (min len1 30)) (oneTo (asTo z2 (min len2 12)) (List.length (asTo z2 (min len2 12))))), bif decide ((↑s.1 : Int) < (↑(List.length (oneTo (asTo z2 (min len2 12)) (List.length (asTo z2 (min len2 12))))) : Int)) then ((0 : Int) ≤ (↑s.1 : Int) ∧ (↑s.1 : Int) < (↑(List.length (oneTo (asTo z2 (min len2 12)) (List.length (asTo z2 (min len2 12))))) : Int) ∧ 0 + List.length (oneTo (asTo z2 (min len2 12)) (List.length (asTo z2 (min len2 12)))) ≤ s.3) ∧ 0 + Int.toNat (↑s.1 : Int) < s.2 ∧ (32 = 32 ∧ (0 : Int) ≤ s.5 (0 + Int.toNat (↑s.1 : Int)) 0 ∧ s.5 (0 + Int.toNat (↑s.1 : Int)) 0 < (4 : Int) ∧ (s.5 (0 + Int.toNat (↑s.1 : Int)) 1 = (0 : Int) ∨ s.5 (0 + Int.toNat (↑s.1 : Int)) 1 = (1 : Int)) ∧ (0 : Int) ≤ s.6 26 ∧ s.6 26 < (16 : Int)) ∧ bif togBit (s.6 26) (Int.toNat (s.5 (0 + Int.toNat (↑s.1 : Int)) 0)) != s.5 (0 + Int.toNat (↑s.1 : Int)) 1 then SV.o (SA.c (.v (Value.bool false))) = SV.o (SA.c (.v (Value.bool true))) else ∃ (s' : BoH (wrTo ((1 : Int) + pickZ a0 (6 : Int)) z1 (min len1 30)) (oneTo (asTo z2 (min len2 12)) (List.length (asTo z2 (min len2 12))))), ((some (SV.o (SA.c (SC.so 0 0 5 (List.length (oneTo (asTo z2 (min len2 12)) (List.length (asTo z2 (min len2 12))))) s.3 s.4))) = some (SV.o (SA.c (SC.so 0 0 5 (List.length (oneTo (asTo z2 (min len2 12)) (List.length (asTo z2 (min len2 12))))) s'.3 s'.4))) ∧ some (SV.o (SA.c (.p 1 0))) = some (SV.o (SA.c (.p 1 0))) ∧ some (SV.o (SA.c (SC.so 0 0 5 (List.length (oneTo (asTo z2 (min len2 12)) (List.length (asTo z2 (min len2 12))))) s.3 s.4))) = some (SV.o (SA.c (SC.so 0 0 5 (List.length (oneTo (asTo z2 (min len2 12)) (List.length (asTo z2 (min len2 12))))) s'.3 s'.4))) ∧ some (SV.o (SA.c (SC.v (Value.int .i64 (↑(List.length (oneTo (asTo z2 (min len2 12)) (List.length (asTo z2 (min len2 12))))) : Int))))) = some (SV.o (SA.c (SC.v (Value.int .i64 (↑(List.length (oneTo (asTo z2 (min len2 12)) (List.length (asTo z2 (min len2 12))))) : Int))))) ∧ some (SV.o (SA.c (SC.v (Value.int .i64 (IntKind.wrap .i64 ((↑s.1 : Int) + (1 : Int))))))) = some (SV.o (SA.c (.v (Value.int .i64 (↑s'.1 : Int))))) ∧ True) ∧ [SB.rows 52 [.int .i64, .int .i64, .int .i64, .int .i64, .int .i64] 5 s.2 s.3 s.5, SB.cells [Seg.ints (.int .u64) 32 s.6] 44] = [SB.rows 52 [.int .i64, .int .i64, .int .i64, .int .i64, .int .i64] 5 s'.2 s'.3 s'.5, SB.cells [Seg.ints (.int .u64) 32 s'.6] 44]) ∧ List.length (oneTo (asTo z2 (min len2 12)) (List.length (asTo z2 (min len2 12)))) - s'.1 < List.length (oneTo (asTo z2 (min len2 12)) (List.length (asTo z2 (min len2 12)))) - s.1 else ∃ (s_2 : BdS), [SA.a [Seg.ints (.int .u64) 32 s.6], SA.c (SC.so 0 0 5 (List.length (oneTo (asTo z2 (min len2 12)) (List.length (asTo z2 (min len2 12))))) s.3 s.4)] = [SA.a [Seg.ints (.int .u64) 32 s_2.2], SA.c (.so 0 s_2.4 5 (List.length s_2.3) s_2.6 s_2.7)] ∧ [SB.rows 52 [.int .i64, .int .i64, .int .i64, .int .i64, .int .i64] 5 s.2 s.3 s.5] = [SB.rows 52 [.int .i64, .int .i64, .int .i64, .int .i64, .int .i64] 5 s_2.5 s_2.6 s_2.8] ∧ ((RecOK (1099511000000 : Int) s_2.1 ∧ toN 32 s_2.2 = Rec.words s_2.1) ∧ AsksOK s_2.3 ∧ List.length s_2.3 ≤ 100 ∧ (s_2.4 + List.length s_2.3 ≤ s_2.5 ∧ s_2.5 ≤ s_2.6) ∧ IsA (fun (i : Nat) => s_2.8 (s_2.4 + i)) s_2.3) ∧ ∀ (x : BdR), (List.length (bD s_2.1 s_2.3) ≤ x.2 ∧ x.2 ≤ x.3) ∧ IsD x.5 (bD s_2.1 s_2.3) ∧ toN 32 x.1 = Rec.words (bDo s_2.1 s_2.3) → ((0 : Int) ≤ (27 : Int) ∧ (27 : Int) < (32 : Int)) ∧ 27 < 32 ∧ ((0 : Int) ≤ (27 : Int) ∧ (27 : Int) < (32 : Int)) ∧ 27 < 32 ∧ List.length (bD s_2.1 s_2.3) ≤ x.3 ∧ bif (↑(List.length (bD s_2.1 s_2.3)) : Int) == (0 : Int) then SV.o (SA.c (SC.v (Value.bool (bif decide ([x.1 0, x.1 1, x.1 2, x.1 3, x.1 4, x.1 5, x.1 6, x.1 7, x.1 8, x.1 9, x.1 10, x.1 11, x.1 12, x.1 13, x.1 14, x.1 15, x.1 16, x.1 17, x.1 18, x.1 19, x.1 20, x.1 21, x.1 22, x.1 23, x.1 24, x.1 25, x.1 26, x.1 27, x.1 28, x.1 29, x.1 30, x.1 31] = [s.6 0, s.6 1, s.6 2, s.6 3, s.6 4, s.6 5, s.6 6, s.6 7, s.6 8, s.6 9, s.6 10, s.6 11, s.6 12, s.6 13, s.6 14, s.6 15, s.6 16, s.6 17, s.6 18, s.6 19, s.6 20, s.6 21, s.6 22, s.6 23, s.6 24, s.6 25, s.6 26, IntKind.wrap .u64 (s.6 27 + (1 : Int)), s.6 28, s.6 29, s.6 30, s.6 31]) then true else false)))) = SV.o (SA.c (.v (Value.bool true))) else SV.o (SA.c (.v (Value.bool false))) = SV.o (SA.c (.v (Value.bool true)))) (by kernel_rfl) ?_
  have h1 := pickZ_nonneg a0 6 (by decide)
  have h2 := pickZ_lt a0 6 (by decide)
  have hr := wrTo_ok (1 + pickZ a0 6) z1 (by omega) (by omega) (min len1 30)
  have hv := wrTo_ver (1 + pickZ a0 6) z1 (min len1 30)
  generalize hR : wrTo (1 + pickZ a0 6) z1 (min len1 30) = r at *
  have hk := asTo_ok z2 (min len2 12)
  have hl := asTo_len z2 (min len2 12)
  generalize hL : asTo z2 (min len2 12) = l at *
  have hB : RecOK 1099511000000 r := hr.mono (by omega)
  have hf := toN_fL (Rec.words_len hB)
  refine ⟨trivial, trivial, trivial, ⟨by omega, by omega, rfl, rfl, rfl, w1⟩, ⟨a2, len2, cap2, z2⟩, rfl, rfl, w2, ?_⟩
  rintro ⟨mA, cA, nA, zA⟩ hA
  dsimp only at hA ⊢
  rw [hL] at hA ⊢
  refine ⟨by omega, ⟨⟨0, mA, cA, nA, zA, 0, 0, false, _, Nat.zero_le _, hA, ⟨⟨Nat.le_refl _, Nat.le_refl _⟩, fun i hi => absurd hi (Nat.not_lt_zero _)⟩⟩, ⟨rfl, rfl, rfl, rfl, rfl, rfl, trivial⟩, rfl⟩, ?_⟩
  rintro ⟨i, mA, cA, nA, zA, m, c, nn, z, hi, hA, ho⟩
  dsimp only at hi hA ho ⊢
  have hol := oneTo_len l i
  refine by_dec (fun hlt => ?_) (fun hge => ?_)
  · have hi' : i < l.length := by omega
    rw [Int.toNat_natCast, Nat.zero_add i]
    obtain ⟨e0, e1, e2, e3, e4⟩ := hA.2 i hi'
    refine ⟨⟨by omega, by omega, by omega⟩, by omega, ⟨oneTo l i, m, c, nn, z, zA i⟩, rfl, rfl, ⟨by show (oneTo l i).length ≤ 1000; omega, ho⟩, fun _ _ => ?_⟩
    dsimp only
    refine by_nb (fun hb => ?_) (fun hb => ?_)
    · rw [e0] at hb
      have e : oneTo l (i + 1) = oneTo l i ++ [l.getD i Ask.nil] := by simp only [oneTo, hb, cond_false]
      have el : (oneTo l (i + 1)).length = (oneTo l i).length + 1 := by rw [e, List.length_append]; rfl
      refine ⟨⟨⟨ho.1.1, rfl⟩, ⟨Nat.le_refl _, rfl⟩, by omega⟩, fun c' hc' => ⟨⟨i + 1, mA, cA, nA, zA, (oneTo l i).length + 1, c', nn, _, hi', hA, ⟨⟨Nat.le_of_eq el, hc'⟩, ?_⟩⟩, ⟨⟨rfl, rfl, congrArg (fun k => some (SV.o (SA.c (SC.so 5 0 5 k c' nn)))) el.symm, rfl, rfl, svI (sucI (by omega)), trivial⟩, rfl⟩, by dsimp only; omega⟩⟩
      show IsA _ (oneTo l (i + 1))
      rw [e]
      refine ho.2.snoc (fun j hj k => catT hj) ⟨?_, ?_, ?_, ?_, ?_⟩
      · exact catF.trans (by rw [Nat.sub_self]; exact e0)
      · exact catF.trans (by rw [Nat.sub_self]; exact e1)
      · exact catF.trans (by rw [Nat.sub_self]; exact e2)
      · exact catF.trans (by rw [Nat.sub_self]; exact e3)
      · exact catF.trans (by rw [Nat.sub_self]; exact e4)
    · rw [e0] at hb
      have e : oneTo l (i + 1) = oneTo l i := by simp only [oneTo, hb, cond_true]
      exact ⟨⟨i + 1, mA, cA, nA, zA, m, c, nn, z, hi', hA, by rw [e]; exact ho⟩, ⟨⟨rfl, rfl, congrArg (fun k => some (SV.o (SA.c (SC.so 2 0 5 k c nn)))) (congrArg List.length e).symm, rfl, rfl, svI (sucI (by omega)), trivial⟩, rfl⟩, by dsimp only; omega⟩
  · obtain rfl : i = l.length := by omega
    obtain ⟨k1, k2⟩ := oneTo_ok hk l.length (Nat.le_refl _)
    generalize oneTo l l.length = one at *
    have hz (x : Nat → Nat → Int) (h : IsA x one) : IsA (fun i => x (0 + i)) one := fun i hi => by show (one.getD i Ask.nil).is (x (0 + i)); rw [Nat.zero_add]; exact h i hi
    refine ⟨⟨r, fL r.words, one, 0, m, c, nn, z⟩, rfl, rfl, ⟨⟨hB, hf⟩, k1, by show one.length ≤ 100; omega, ⟨by show 0 + one.length ≤ m; omega, ho.1.2⟩, hz z ho.2⟩, ?_⟩
    rintro ⟨fq, m1, c1, n1, zq⟩ hq
    dsimp only at hq ⊢
    refine ⟨by omega, ⟨⟨0, m, c, nn, z, fq, Nat.zero_le _, ho, hq.2.2⟩, ⟨rfl, rfl, rfl, rfl, rfl, trivial⟩, rfl⟩, ?_⟩
    clear hq
    rintro ⟨i, m, c, nn, z, fq, hi, ho, hq⟩
    dsimp only at hi ho hq ⊢
    have hq1 : RecOK 1099511000000 (bR r one) := (bR_ok hr k1).mono (by omega)
    have hqv : (bR r one).ver = 0 := (bR_ver one r).trans hv
    have hq2 : RecOK 1099511000000 (bDo r one) := hq1.at (by omega) (by omega)
    have hon : ∀ a ∈ one, bOpen (bDo r one) a = false := bR_once hB k1 k2
    have v2 : (bDo r one).ver = 1 := by show (bR r one).ver + 1 = 1; rw [hqv]; rfl
    have hq' := hq
    obtain ⟨q, eqq⟩ : ∃ q, q = bDo r one := ⟨_, rfl⟩
    rw [← eqq] at hq hq2 hon v2
    obtain ⟨e26, e27, -⟩ := words_f hq2 hq
    have g0 := hq2.g0
    have g1 := hq2.g1
    refine by_dec (fun hlt => ?_) (fun hge => ?_)
    · have hi' : i < one.length := by omega
      rw [Int.toNat_natCast, Nat.zero_add i]
      obtain ⟨e0, e1, -, -, -⟩ := ho.2 i hi'
      have hak := k1.get hi'
      have hsh := hon (one.getD i Ask.nil) (by rw [List.getD_eq_getElem?_getD, List.getElem?_eq_getElem hi']; exact List.getElem_mem hi')
      have ht := hak.1
      rw [e0, e1, Int.toNat_natCast, e26]
      refine ⟨⟨by omega, by omega, by omega⟩, by omega, ⟨rfl, by omega, by omega, hak.2.1, g0, g1⟩, by_bne (fun h => absurd ?_ h) (fun _ => ⟨⟨i + 1, m, c, nn, z, fq, hi', ho, hq'⟩, ⟨⟨rfl, rfl, rfl, rfl, svI (sucI (by omega)), trivial⟩, rfl⟩, by dsimp only; omega⟩)⟩
      simpa [bOpen] using hsh
    · have hs := bR_shut hon
      refine ⟨⟨q, fq, one, 0, m, c, nn, z⟩, rfl, rfl, ⟨⟨hq2, hq⟩, k1, by show one.length ≤ 100; omega, ⟨by show 0 + one.length ≤ m; omega, ho.1.2⟩, hz z ho.2⟩, ?_⟩
      rintro ⟨fx, mx, cx, nx, zx⟩ hx
      dsimp only at hx ⊢
      rw [hs.2] at hx ⊢
      have ev : IntKind.wrap .u64 (fq 27 + 1) = q.ver + 1 := by rw [e27, v2]; exact wrapU (by omega) (by omega)
      rw [ev]
      refine ⟨⟨by decide, by decide⟩, by decide, ⟨by decide, by decide⟩, by decide, Nat.zero_le _, by_beq (fun _ => svB (eqB ?_)) (fun h => absurd rfl h)⟩
      show toN 32 fx = toN 32 (fun i => bif Nat.beq i 27 then q.ver + 1 else fq i)
      rw [hx.2.2, toN_at hq2 hq]
      unfold bDo
      rw [hs.1]
end Go.Proofs.YtacgihekdmoceaaDoor
