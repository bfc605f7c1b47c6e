/- BatchFolds: the walk of the law. -/
import Derived.Test.YtacgihekdmoceaaDoorBt5
namespace Go.Proofs.YtacgihekdmoceaaDoor
open Go.RowKit
set_option linter.unusedVariables false
set_option maxRecDepth 100000
set_option maxHeartbeats 4000000
structure BfG (r : Rec) (l : List Ask) where
  i : Nat
  mA : Nat
  cA : Nat
  nA : Bool
  zA : Nat → Nat → Int
  fq : Nat → Int
  m1 : Nat
  c1 : Nat
  n1 : Bool
  z1 : Nat → Nat → Int
  f : Nat → Int
  m : Nat
  c : Nat
  nn : Bool
  z : Nat → Nat → Int
  hi : i ≤ l.length
  hA : (l.length ≤ mA ∧ mA ≤ cA) ∧ IsA zA l
  hq : ((bD r l).length ≤ m1 ∧ m1 ≤ c1) ∧ IsD z1 (bD r l) ∧ toN 32 fq = (bDo r l).words
  hp : toN 32 f = ((bR r (l.take i)).at i).words
  hd : ((bD r (l.take i)).length ≤ m ∧ m ≤ c) ∧ IsD z (bD r (l.take i))
def annBf (r : Rec) (l : List Ask) : Ann where
  σ := BfG r l
  I g := ([(7, .o (.c (.p 0 0))), (8, .o (.c (.so 1 0 5 l.length g.cA g.nA))), (9, .o (.c (.p 2 0))), (10, .o (.c (.so 3 0 6 (bD r l).length g.c1 g.n1))), (11, .o (.c (.v .nilIface))), (12, .o (.c (.so 5 0 6 (bD r (l.take g.i)).length g.c g.nn))), (13, .o (.c (.p 4 0))), (38, .o (.c (.so 1 0 5 l.length g.cA g.nA))), (39, sv (.int .i64 l.length)), (40, sv (.int .i64 g.i))],
    [recB (fL r.words), rowsA g.mA g.cA g.zA, recB g.fq, rowsD g.m1 g.c1 g.z1, recB g.f, rowsD g.m g.c g.z])
  dec g := l.length - g.i
  pi env _ := [blkE env 7, blkE env 8, blkE env 9, blkE env 10, blkE env 13, blkE env 12]
  nz := [nzD 12]
theorem walk_BatchFolds (a0 : Int) (a1 : Option Addr) (len1 cap1 : Nat) (z1 : Nat → Nat → Int) (a2 : Option Addr) (len2 cap2 : Nat) (z2 : Nat → Nat → Int) (W : World) (hE : ErrType W) (w0 : (Lit.int .i64 a0).wf = true) (w1 : Rws 6 (fun _ => .i64) W a1 len1 cap1 z1) (w2 : Rws 6 (fun _ => .i64) W a2 len2 cap2 z2) :
    Calls Tryd.prog 6 #[.int .i64 a0, .slice a1 len1 cap1, .slice a2 len2 cap2] W fun e w' => e = .returned (.bool true) ∧ Below W.heap.size W w' := by
  refine once_of_run (AG := [(6, [(0, annBf (wrTo (1 + pickZ a0 6) z1 (min len1 30)) (asTo z2 (min len2 12)))])]) (Γ := [(15, .pure conBatched), (16, .pure conRecorded), (11, .pure conKindOf), (17, .pure (conWritten W)), (19, .mem (conAsks W)), (18, .mem conBDo), (23, .mem conEqD)]) Tryd.func6 rfl tabB_ok tabB_tys
    (.cons (batched_con W _) (.cons (recorded_con W _) (.cons (kindOf_con W _) (.cons (written_con W) (.cons (asks_con W) (.cons (bdo_con W _) (.cons (eqd_con W _) (.nil _ _ _))))))))
    [.c (.v (.int .i64 a0)), .c (.r a1 len1 cap1 len1 6 (fun _ => .i64) z1), .c (.r a2 len2 cap2 len2 6 (fun _ => .i64) z2)] (.bool true) 800 rfl ?_ rfl
  refine by_eq (q :=
      True ∧ True ∧ True ∧ ((1 : Int) ≤ (1 : Int) + pickZ a0 (6 : Int) ∧ (1 : Int) + pickZ a0 (6 : Int) ≤ (6 : Int) ∧ len1 = len1 ∧ 6 = 6 ∧ (AllI fun (x : Nat) => .i64) ∧ Rws 6 (fun (x : Nat) => .i64) W a1 len1 cap1 z1) ∧ ∃ (s : AskS), [SA.c (.r a2 len2 cap2 len2 6 (fun (x : Nat) => .i64) z2)] = [SA.c (.r s.1 s.2 s.3 s.2 6 (fun (x : Nat) => .i64) s.4)] ∧ ([] : List SB) = [] ∧ Rws 6 (fun (x : Nat) => .i64) W (AskS.a s) (AskS.n s) s.3 s.4 ∧ ∀ (x : LstR), (List.length (asTo s.4 (min s.2 12)) ≤ x.1 ∧ x.1 ≤ x.2) ∧ IsA x.4 (asTo s.4 (min s.2 12)) → ∃ (s_1 : BdS), [SA.a [Seg.ints (.int .u64) 32 (fL (Rec.words (wrTo ((1 : Int) + pickZ a0 (6 : Int)) z1 (min len1 30))))], SA.c (.so 1 0 5 (List.length (asTo s.4 (min s.2 12))) x.2 x.3)] = [SA.a [Seg.ints (.int .u64) 32 s_1.2], SA.c (.so 1 s_1.4 5 (List.length s_1.3) s_1.6 s_1.7)] ∧ [SB.rows 52 [.int .i64, .int .i64, .int .i64, .int .i64, .int .i64] 5 x.1 x.2 x.4] = [SB.rows 52 [.int .i64, .int .i64, .int .i64, .int .i64, .int .i64] 5 s_1.5 s_1.6 s_1.8] ∧ ((RecOK (1099511000000 : Int) s_1.1 ∧ toN 32 s_1.2 = Rec.words s_1.1) ∧ AsksOK s_1.3 ∧ List.length s_1.3 ≤ 100 ∧ (s_1.4 + List.length s_1.3 ≤ s_1.5 ∧ s_1.5 ≤ s_1.6) ∧ IsA (fun (i : Nat) => s_1.8 (s_1.4 + i)) s_1.3) ∧ ∀ (x_1 : BdR), (List.length (bD s_1.1 s_1.3) ≤ x_1.2 ∧ x_1.2 ≤ x_1.3) ∧ IsD x_1.5 (bD s_1.1 s_1.3) ∧ toN 32 x_1.1 = Rec.words (bDo s_1.1 s_1.3) → List.length (asTo s.4 (min s.2 12)) ≤ x.2 ∧ (∃ (s0 : Ann.σ (annBf (wrTo ((1 : Int) + pickZ a0 (6 : Int)) z1 (min len1 30)) (asTo z2 (min len2 12)))), (some (SV.o (SA.c (.p 0 0))) = some (SV.o (SA.c (.p 0 0))) ∧ some (SV.o (SA.c (.so 1 0 5 (List.length (asTo s.4 (min s.2 12))) x.2 x.3))) = some (SV.o (SA.c (.so 1 0 5 (List.length (asTo z2 (min len2 12))) s0.3 s0.4))) ∧ some (SV.o (SA.c (.p 3 0))) = some (SV.o (SA.c (.p 3 0))) ∧ some (SV.o (SA.c (.so 2 0 6 (List.length (bD s_1.1 s_1.3)) x_1.3 x_1.4))) = some (SV.o (SA.c (SC.so 2 0 6 (List.length (bD (wrTo ((1 : Int) + pickZ a0 (6 : Int)) z1 (min len1 30)) (asTo z2 (min len2 12)))) s0.8 s0.9))) ∧ some (SV.o (SA.c (.v Value.nilIface))) = some (SV.o (SA.c (.v Value.nilIface))) ∧ some (SV.o (SA.c (.so 5 0 6 0 0 false))) = some (SV.o (SA.c (SC.so 5 0 6 (List.length (bD (wrTo ((1 : Int) + pickZ a0 (6 : Int)) z1 (min len1 30)) (List.take s0.1 (asTo z2 (min len2 12))))) s0.13 s0.14))) ∧ some (SV.o (SA.c (.p 4 0))) = some (SV.o (SA.c (.p 4 0))) ∧ some (SV.o (SA.c (SC.so 1 0 5 (List.length (asTo s.4 (min s.2 12))) x.2 x.3))) = some (SV.o (SA.c (SC.so 1 0 5 (List.length (asTo z2 (min len2 12))) s0.3 s0.4))) ∧ some (SV.o (SA.c (.v (Value.int .i64 (↑(List.length (asTo s.4 (min s.2 12))) : Int))))) = some (SV.o (SA.c (.v (Value.int .i64 (↑(List.length (asTo z2 (min len2 12))) : Int))))) ∧ some (SV.o (SA.c (.v (Value.int .i64 (0 : Int))))) = some (SV.o (SA.c (.v (Value.int .i64 (↑s0.1 : Int))))) ∧ True) ∧ [SB.cells [Seg.ints (.int .u64) 32 (fL (Rec.words (wrTo ((1 : Int) + pickZ a0 (6 : Int)) z1 (min len1 30))))] 44, SB.rows 52 [.int .i64, .int .i64, .int .i64, .int .i64, .int .i64] 5 s_1.5 s_1.6 s_1.8, SB.cells [Seg.ints (.int .u64) 32 x_1.1] 44, SB.rows 38 [.int .i64, .int .i64, .int .i64, .int .i64, .int .i64, .int .i64] 6 x_1.2 x_1.3 x_1.5, SB.cells [Seg.ints (.int .u64) 32 (fL (Rec.words (wrTo ((1 : Int) + pickZ a0 (6 : Int)) z1 (min len1 30))))] 44, SB.rows 38 [.int .i64, .int .i64, .int .i64, .int .i64, .int .i64, .int .i64] 6 0 0 fun (x x_2 : Nat) => (0 : Int)] = [SB.cells [Seg.ints (.int .u64) 32 (fL (Rec.words (wrTo ((1 : Int) + pickZ a0 (6 : Int)) z1 (min len1 30))))] 44, SB.rows 52 [.int .i64, .int .i64, .int .i64, .int .i64, .int .i64] 5 s0.2 s0.3 s0.5, SB.cells [Seg.ints (.int .u64) 32 s0.6] 44, SB.rows 38 [.int .i64, .int .i64, .int .i64, .int .i64, .int .i64, .int .i64] 6 s0.7 s0.8 s0.10, SB.cells [Seg.ints (.int .u64) 32 s0.11] 44, SB.rows 38 [.int .i64, .int .i64, .int .i64, .int .i64, .int .i64, .int .i64] 6 s0.12 s0.13 s0.15]) ∧ ∀ (s : BfG (wrTo ((1 : Int) + pickZ a0 (6 : Int)) z1 (min len1 30)) (asTo z2 (min len2 12))), bif decide ((↑s.1 : Int) < (↑(List.length (asTo z2 (min len2 12))) : Int)) then ((0 : Int) ≤ (↑s.1 : Int) ∧ (↑s.1 : Int) ≤ IntKind.wrap .i64 ((↑s.1 : Int) + (1 : Int)) ∧ IntKind.wrap .i64 ((↑s.1 : Int) + (1 : Int)) ≤ (↑s.3 : Int) ∧ (0 = 0 ∨ (↑s.1 : Int) < (↑s.3 : Int))) ∧ drawP Tryd.f6 11 (regOps Tryd.f6 11) 6 [HX.mk 6 [] [1, 7] [] true, HX.mk 11 [] [6] [6] false, HX.mk 5 [] [] [1] false, HX.mk 4 [] [] [] false, HX.mk 3 [] [] [] false, HX.mk 2 [] [] [] false, HX.mk 1 [] [] [1] false, HX.mk 0 [4] [] [] false] ∧ ∃ (s_2 : BdS), [SA.a [Seg.ints (.int .u64) 32 s.11], SA.c (SC.so 1 (0 + Int.toNat (↑s.1 : Int)) 5 (Int.toNat (IntKind.wrap .i64 ((↑s.1 : Int) + (1 : Int))) - Int.toNat (↑s.1 : Int)) s.3 s.4)] = [SA.a [Seg.ints (.int .u64) 32 s_2.2], SA.c (.so 1 s_2.4 5 (List.length s_2.3) s_2.6 s_2.7)] ∧ [SB.rows 52 [.int .i64, .int .i64, .int .i64, .int .i64, .int .i64] 5 s.2 s.3 s.5] = [SB.rows 52 [.int .i64, .int .i64, .int .i64, .int .i64, .int .i64] 5 s_2.5 s_2.6 s_2.8] ∧ ((RecOK (1099511000000 : Int) s_2.1 ∧ toN 32 s_2.2 = Rec.words s_2.1) ∧ AsksOK s_2.3 ∧ List.length s_2.3 ≤ 100 ∧ (s_2.4 + List.length s_2.3 ≤ s_2.5 ∧ s_2.5 ≤ s_2.6) ∧ IsA (fun (i : Nat) => s_2.8 (s_2.4 + i)) s_2.3) ∧ ∀ (x : BdR), (List.length (bD s_2.1 s_2.3) ≤ x.2 ∧ x.2 ≤ x.3) ∧ IsD x.5 (bD s_2.1 s_2.3) ∧ toN 32 x.1 = Rec.words (bDo s_2.1 s_2.3) → drawP Tryd.f6 11 (regOps Tryd.f6 11) 6 [HX.mk 14 [] [] [] false, HX.mk 13 [] [] [7] false, HX.mk 12 [] [6] [] false, HX.mk 10 [] [] [] false, HX.mk 9 [] [] [7] false, HX.mk 8 [] [] [] false, HX.mk 7 [] [] [7] false, HX.mk 6 [] [1, 7] [7] true, HX.mk 11 [] [6] [6] false, HX.mk 5 [] [] [1] false, HX.mk 4 [] [] [] false, HX.mk 3 [] [] [] false, HX.mk 2 [] [] [] false, HX.mk 1 [] [] [1] false, HX.mk 0 [4] [] [] false] ∧ ((List.length (bD (wrTo ((1 : Int) + pickZ a0 (6 : Int)) z1 (min len1 30)) (List.take s.1 (asTo z2 (min len2 12)))) ≤ s.12 ∧ s.13 = s.13) ∧ (0 + List.length (bD s_2.1 s_2.3) ≤ x.2 ∧ x.3 = x.3) ∧ List.length (bD (wrTo ((1 : Int) + pickZ a0 (6 : Int)) z1 (min len1 30)) (List.take s.1 (asTo z2 (min len2 12)))) + List.length (bD s_2.1 s_2.3) ≤ 68719476736) ∧ ∀ (c : Nat), List.length (bD (wrTo ((1 : Int) + pickZ a0 (6 : Int)) z1 (min len1 30)) (List.take s.1 (asTo z2 (min len2 12)))) + List.length (bD s_2.1 s_2.3) ≤ c → ∃ (s' : BfG (wrTo ((1 : Int) + pickZ a0 (6 : Int)) z1 (min len1 30)) (asTo z2 (min len2 12))), ((some (SV.o (SA.c (.p 0 0))) = some (SV.o (SA.c (.p 0 0))) ∧ some (SV.o (SA.c (SC.so 1 0 5 (List.length (asTo z2 (min len2 12))) s.3 s.4))) = some (SV.o (SA.c (SC.so 1 0 5 (List.length (asTo z2 (min len2 12))) s'.3 s'.4))) ∧ some (SV.o (SA.c (.p 2 0))) = some (SV.o (SA.c (.p 2 0))) ∧ some (SV.o (SA.c (SC.so 3 0 6 (List.length (bD (wrTo ((1 : Int) + pickZ a0 (6 : Int)) z1 (min len1 30)) (asTo z2 (min len2 12)))) s.8 s.9))) = some (SV.o (SA.c (SC.so 3 0 6 (List.length (bD (wrTo ((1 : Int) + pickZ a0 (6 : Int)) z1 (min len1 30)) (asTo z2 (min len2 12)))) s'.8 s'.9))) ∧ some (SV.o (SA.c (.v Value.nilIface))) = some (SV.o (SA.c (.v Value.nilIface))) ∧ some (SV.o (SA.c (SC.so 8 0 6 (List.length (bD (wrTo ((1 : Int) + pickZ a0 (6 : Int)) z1 (min len1 30)) (List.take s.1 (asTo z2 (min len2 12)))) + List.length (bD s_2.1 s_2.3)) c s.14))) = some (SV.o (SA.c (SC.so 8 0 6 (List.length (bD (wrTo ((1 : Int) + pickZ a0 (6 : Int)) z1 (min len1 30)) (List.take s'.1 (asTo z2 (min len2 12))))) s'.13 s'.14))) ∧ some (SV.o (SA.c (.p 4 0))) = some (SV.o (SA.c (.p 4 0))) ∧ some (SV.o (SA.c (SC.so 1 0 5 (List.length (asTo z2 (min len2 12))) s.3 s.4))) = some (SV.o (SA.c (SC.so 1 0 5 (List.length (asTo z2 (min len2 12))) s'.3 s'.4))) ∧ some (SV.o (SA.c (SC.v (Value.int .i64 (↑(List.length (asTo z2 (min len2 12))) : Int))))) = some (SV.o (SA.c (SC.v (Value.int .i64 (↑(List.length (asTo z2 (min len2 12))) : Int))))) ∧ some (SV.o (SA.c (SC.v (Value.int .i64 (IntKind.wrap .i64 ((↑s.1 : Int) + (1 : Int))))))) = some (SV.o (SA.c (.v (Value.int .i64 (↑s'.1 : Int))))) ∧ True) ∧ [SB.cells [Seg.ints (.int .u64) 32 (fL (Rec.words (wrTo ((1 : Int) + pickZ a0 (6 : Int)) z1 (min len1 30))))] 44, SB.rows 52 [.int .i64, .int .i64, .int .i64, .int .i64, .int .i64] 5 s_2.5 s_2.6 s_2.8, SB.cells [Seg.ints (.int .u64) 32 s.6] 44, SB.rows 38 [.int .i64, .int .i64, .int .i64, .int .i64, .int .i64, .int .i64] 6 s.7 s.8 s.10, SB.cells [Seg.ints (.int .u64) 32 x.1] 44, SB.rows 38 [.int .i64, .int .i64, .int .i64, .int .i64, .int .i64, .int .i64] 6 (List.length (bD (wrTo ((1 : Int) + pickZ a0 (6 : Int)) z1 (min len1 30)) (List.take s.1 (asTo z2 (min len2 12)))) + List.length (bD s_2.1 s_2.3)) c fun (i j : Nat) => bif Nat.ble (i + 1) (List.length (bD (wrTo ((1 : Int) + pickZ a0 (6 : Int)) z1 (min len1 30)) (List.take s.1 (asTo z2 (min len2 12))))) then s.15 i j else x.5 (0 + (i - List.length (bD (wrTo ((1 : Int) + pickZ a0 (6 : Int)) z1 (min len1 30)) (List.take s.1 (asTo z2 (min len2 12)))))) j] = [SB.cells [Seg.ints (.int .u64) 32 (fL (Rec.words (wrTo ((1 : Int) + pickZ a0 (6 : Int)) z1 (min len1 30))))] 44, SB.rows 52 [.int .i64, .int .i64, .int .i64, .int .i64, .int .i64] 5 s'.2 s'.3 s'.5, SB.cells [Seg.ints (.int .u64) 32 s'.6] 44, SB.rows 38 [.int .i64, .int .i64, .int .i64, .int .i64, .int .i64, .int .i64] 6 s'.7 s'.8 s'.10, SB.cells [Seg.ints (.int .u64) 32 s'.11] 44, SB.rows 38 [.int .i64, .int .i64, .int .i64, .int .i64, .int .i64, .int .i64] 6 s'.12 s'.13 s'.15]) ∧ List.length (asTo z2 (min len2 12)) - s'.1 < List.length (asTo z2 (min len2 12)) - s.1 else ((0 : Int) ≤ (27 : Int) ∧ (27 : Int) < (32 : Int)) ∧ 27 < 32 ∧ ((0 : Int) ≤ (27 : Int) ∧ (27 : Int) < (32 : Int)) ∧ 27 < 32 ∧ bif bif decide ([s.6 0, s.6 1, s.6 2, s.6 3, s.6 4, s.6 5, s.6 6, s.6 7, s.6 8, s.6 9, s.6 10, s.6 11, s.6 12, s.6 13, s.6 14, s.6 15, s.6 16, s.6 17, s.6 18, s.6 19, s.6 20, s.6 21, s.6 22, s.6 23, s.6 24, s.6 25, s.6 26, s.6 27, s.6 28, s.6 29, s.6 30, s.6 31] = [s.11 0, s.11 1, s.11 2, s.11 3, s.11 4, s.11 5, s.11 6, s.11 7, s.11 8, s.11 9, s.11 10, s.11 11, s.11 12, s.11 13, s.11 14, s.11 15, s.11 16, s.11 17, s.11 18, s.11 19, s.11 20, s.11 21, s.11 22, s.11 23, s.11 24, s.11 25, s.11 26, IntKind.wrap .u64 (fL (Rec.words (wrTo ((1 : Int) + pickZ a0 (6 : Int)) z1 (min len1 30))) 27 + (1 : Int)), s.11 28, s.11 29, s.11 30, s.11 31]) then true else false then ∃ (s_2 : EqS), [SA.c (SC.so 3 0 6 (List.length (bD (wrTo ((1 : Int) + pickZ a0 (6 : Int)) z1 (min len1 30)) (asTo z2 (min len2 12)))) s.8 s.9), SA.c (SC.so 5 0 6 (List.length (bD (wrTo ((1 : Int) + pickZ a0 (6 : Int)) z1 (min len1 30)) (List.take s.1 (asTo z2 (min len2 12))))) s.13 s.14)] = [SA.c (.so 3 0 6 (List.length s_2.1) s_2.3 s_2.4), SA.c (.so 5 0 6 (List.length s_2.1) s_2.7 s_2.8)] ∧ [SB.rows 38 [.int .i64, .int .i64, .int .i64, .int .i64, .int .i64, .int .i64] 6 s.7 s.8 s.10, SB.rows 38 [.int .i64, .int .i64, .int .i64, .int .i64, .int .i64, .int .i64] 6 s.12 s.13 s.15] = [SB.rows 38 [.int .i64, .int .i64, .int .i64, .int .i64, .int .i64, .int .i64] 6 s_2.2 s_2.3 s_2.5, SB.rows 38 [.int .i64, .int .i64, .int .i64, .int .i64, .int .i64, .int .i64] 6 s_2.6 s_2.7 s_2.9] ∧ (List.length s_2.1 ≤ 1000 ∧ (List.length s_2.1 ≤ s_2.2 ∧ s_2.2 ≤ s_2.3) ∧ IsD s_2.5 s_2.1 ∧ (List.length s_2.1 ≤ s_2.6 ∧ s_2.6 ≤ s_2.7) ∧ IsD s_2.9 s_2.1) ∧ ∀ (x : Unit), True → SV.o (SA.c (.v (Value.bool true))) = SV.o (SA.c (.v (Value.bool true))) else SV.o (SA.c (.v (Value.bool false))) = SV.o (SA.c (.v (Value.bool true)))) (by kernel_rfl) ?_
  have h1 := pickZ_nonneg a0 6 (by decide)
  have h2 := pickZ_lt a0 6 (by decide)
  have hr := wrTo_ok (1 + pickZ a0 6) z1 (by omega) (by omega) (min len1 30)
  have hv := wrTo_ver (1 + pickZ a0 6) z1 (min len1 30)
  generalize hR : wrTo (1 + pickZ a0 6) z1 (min len1 30) = r at *
  have ho := asTo_ok z2 (min len2 12)
  have hl := asTo_len z2 (min len2 12)
  generalize hL : asTo z2 (min len2 12) = l at *
  have hB : RecOK 1099511000000 r := hr.mono (by omega)
  have hf := toN_fL (Rec.words_len hB)
  have hg := (words_f hB hf).2.1
  refine ⟨trivial, trivial, trivial, ⟨by omega, by omega, rfl, rfl, rfl, w1⟩, ⟨a2, len2, cap2, z2⟩, rfl, rfl, w2, ?_⟩
  rintro ⟨mA, cA, nA, zA⟩ hA
  dsimp only at hA ⊢
  rw [hL] at hA ⊢
  refine ⟨⟨r, fL r.words, l, 0, mA, cA, nA, zA⟩, rfl, rfl, ⟨⟨hB, hf⟩, ho, by show l.length ≤ 100; omega, ⟨by show 0 + l.length ≤ mA; omega, hA.1.2⟩, fun i hi => by show (l.getD i Ask.nil).is (zA (0 + i)); rw [Nat.zero_add]; exact hA.2 i hi⟩, ?_⟩
  rintro ⟨fq, m1, c1, n1, zq⟩ hq
  dsimp only at hq ⊢
  refine ⟨by omega, ⟨⟨0, mA, cA, nA, zA, fq, m1, c1, n1, zq, fL r.words, 0, 0, false, _, Nat.zero_le _, hA, hq, ?_, ⟨⟨Nat.le_refl _, Nat.le_refl _⟩, fun i hi => absurd hi (Nat.not_lt_zero _)⟩⟩, ⟨rfl, rfl, rfl, rfl, rfl, rfl, rfl, rfl, rfl, rfl, trivial⟩, rfl⟩, ?_⟩
  · have e0 : r.at 0 = r := by rw [← hv]; rfl
    show toN 32 (fL r.words) = (r.at 0).words
    rw [e0, hf]
  rintro ⟨i, mA, cA, nA, zA, fq, m1, c1, n1, zq, f, m, c, nn, z, hi, hA, hq, hp, hd⟩
  dsimp only at hi hA hq hp hd ⊢
  have hle := bD_le (l.take i) r
  have hlt2 : (l.take i).length ≤ 12 := by rw [List.length_take]; omega
  have hqk : RecOK 1099511000000 (bR r (l.take i)) := (bR_ok (l := l.take i) hr (fun a h => ho a (List.mem_of_mem_take h))).mono (by omega)
  have hat : RecOK 1099511000000 ((bR r (l.take i)).at i) := hqk.at (by omega) (by omega)
  refine by_dec (fun hlt => ?_) (fun hge => ?_)
  · have hi' : i < l.length := by omega
    have eS : IntKind.wrap .i64 ((i : Int) + 1) = ((i + 1 : Nat) : Int) := sucI (by omega)
    rw [eS, Int.toNat_natCast, Int.toNat_natCast, show i + 1 - i = 1 by omega, Nat.zero_add i]
    have eR : bR r (l.take (i + 1)) = bStep (bR r (l.take i)) (l.getD i Ask.nil) := by rw [take_snoc hi', bR_snoc]
    have eD : bD r (l.take (i + 1)) = bD r (l.take i) ++ bDs (bR r (l.take i)) (l.getD i Ask.nil) := by rw [take_snoc hi', bD_snoc]
    have hs1 := bD_le [l.getD i Ask.nil] (bR r (l.take i))
    rw [bD_one] at hs1
    have e3 : bDo ((bR r (l.take i)).at i) [l.getD i Ask.nil] = (bR r (l.take (i + 1))).at ((i + 1 : Nat) : Int) := by
      unfold bDo
      rw [bR_at, bR_one, ← eR, show ((i + 1 : Nat) : Int) = (i : Int) + 1 by omega]; rfl
    refine ⟨⟨by omega, by omega, by omega, .inl rfl⟩, draw_of (by kernel_rfl), ⟨(bR r (l.take i)).at i, f, [l.getD i Ask.nil], i, mA, cA, nA, zA⟩, rfl, rfl, ⟨⟨hat, hp⟩, fun a h => by rw [List.mem_singleton.1 h]; exact ho.get hi', by show 1 ≤ 100; omega, ⟨by show i + 1 ≤ mA; omega, hA.1.2⟩, fun j hj => ?_⟩, ?_⟩
    · obtain rfl : j = 0 := by have : j < 1 := hj; omega
      exact hA.2 i hi'
    rintro ⟨fx, mx, cx, nx, zx⟩ hx
    dsimp only at hx ⊢
    rw [bD_at, bD_one, e3] at hx
    rw [bD_at, bD_one]
    obtain ⟨hx1, hx2, hx3⟩ := hx
    generalize bDs (bR r (l.take i)) (l.getD i Ask.nil) = d1 at *
    have hs1 : d1.length ≤ 1 := hs1
    have el : (bD r (l.take (i + 1))).length = (bD r (l.take i)).length + d1.length := by rw [eD, List.length_append]
    refine ⟨draw_of (by kernel_rfl), ⟨⟨hd.1.1, rfl⟩, ⟨by omega, rfl⟩, by omega⟩, fun c' hc' => ⟨⟨i + 1, mA, cA, nA, zA, fq, m1, c1, n1, zq, fx, (bD r (l.take i)).length + d1.length, c', nn, _, hi', hA, hq, hx3, ⟨⟨Nat.le_of_eq el, hc'⟩, ?_⟩⟩, ⟨⟨rfl, rfl, rfl, rfl, rfl, congrArg (fun k => some (SV.o (SA.c (SC.so 8 0 6 k c' nn)))) el.symm, rfl, rfl, rfl, rfl, trivial⟩, rfl⟩, by dsimp only; omega⟩⟩
    show IsD _ (bD r (l.take (i + 1)))
    rw [eD]
    exact hd.2.append hx2 (fun j hj k => catT hj) (fun j hj k => catG.trans (by rw [Nat.add_sub_cancel_left, Nat.zero_add]))
  · obtain rfl : i = l.length := by omega
    rw [List.take_length] at hp hd hat hle ⊢
    have hll := bD_le l r
    have ev : IntKind.wrap .u64 (fL r.words 27 + 1) = r.ver + 1 := by rw [hg, hv]; exact wrapU (by omega) (by omega)
    rw [ev]
    refine ⟨⟨by decide, by decide⟩, by decide, ⟨by decide, by decide⟩, by decide, by_tdec (fun _ => ⟨⟨bD r l, m1, c1, n1, zq, m, c, nn, z⟩, rfl, rfl, ⟨by show (bD r l).length ≤ 1000; omega, hq.1, hq.2.1, hd.1, hd.2⟩, fun _ _ => rfl⟩) (fun h => absurd ?_ h)⟩
    show toN 32 fq = toN 32 (fun i => bif Nat.beq i 27 then r.ver + 1 else f i)
    rw [hq.2.2, toN_at hat hp]
    unfold bDo
    rw [bR_ver]; rfl
end Go.Proofs.YtacgihekdmoceaaDoor
