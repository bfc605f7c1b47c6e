/- BatchLegal: the walk of the law. -/
import Derived.Test.YtacgihekdmoceaaDoorLt5
namespace Go.Proofs.YtacgihekdmoceaaDoor
open Go.RowKit
set_option linter.unusedVariables false
set_option maxRecDepth 100000
set_option maxHeartbeats 4000000
def tabBL : Tab := [(3, .one (.int .i64 0) (.int .i64)),
  (4, .one (.bool false) .bool),
  (25, .one (.int .u64 0) (.int .u64)),
  (96, .one (.int .u64 0) (.int .u64)),
  (30, .str [.one (.v (.int .i64 0)), .one (.v (.int .i64 0)), .one (.v (.int .i64 0))] [(0, 1, false), (1, 1, false), (2, 1, false)]),
  (32, .str [.one (.v (.int .i64 0)), .one (.v (.int .i64 0))] [(0, 1, false), (1, 1, false)]),
  (38, .str [.one (.v (.int .i64 0)), .one (.v (.int .i64 0)), .one (.v (.int .i64 0)), .one (.v (.int .i64 0)), .one (.v (.int .i64 0)), .one (.v (.int .i64 0))] [(0, 1, false), (1, 3, true), (4, 2, true)]),
  (28, .one (.slice none 0 0) (.slice 38)),
  (108, .one (.slice none 0 0) (.slice 28)),
  (52, .str [.one (.v (.int .i64 0)), .one (.v (.int .i64 0)), .one (.v (.int .i64 0)), .one (.v (.int .i64 0)), .one (.v (.int .i64 0))] [(0, 1, false), (1, 1, false), (2, 3, true)]),
  (49, .one (.slice none 0 0) (.slice 52)),
  (27, .arr [.ints (.int .u64) 17 (fun _ => 0)] 17 1 false),
  (44, .arr [.ints (.int .u64) 32 (fun _ => 0)] 32 1 false),
  (34, .one (.nilIface) .iface),
  (73, .one (.int .i64 0) (.int .i64))]
theorem tabBL_ok : TabOk Tryd.prog tabBL := .cons (⟨by kernel_rfl, by kernel_rfl, by kernel_rfl, by kernel_rfl, by kernel_rfl⟩) (.cons (⟨by kernel_rfl, by kernel_rfl, by kernel_rfl, by kernel_rfl, by kernel_rfl⟩) (.cons (⟨by kernel_rfl, by kernel_rfl, by kernel_rfl, by kernel_rfl, by kernel_rfl⟩) (.cons (⟨by kernel_rfl, by kernel_rfl, by kernel_rfl, by kernel_rfl, by kernel_rfl⟩) (.cons (⟨by kernel_rfl, by kernel_rfl, by kernel_rfl, by kernel_rfl⟩) (.cons (⟨by kernel_rfl, by kernel_rfl, by kernel_rfl, by kernel_rfl⟩) (.cons (⟨by kernel_rfl, by kernel_rfl, by kernel_rfl, by kernel_rfl⟩) (.cons (⟨by kernel_rfl, by kernel_rfl, by kernel_rfl, by kernel_rfl, by kernel_rfl⟩) (.cons (⟨by kernel_rfl, by kernel_rfl, by kernel_rfl, by kernel_rfl, by kernel_rfl⟩) (.cons (⟨by kernel_rfl, by kernel_rfl, by kernel_rfl, by kernel_rfl⟩) (.cons (⟨by kernel_rfl, by kernel_rfl, by kernel_rfl, by kernel_rfl, by kernel_rfl⟩) (.cons (⟨by kernel_rfl, by kernel_rfl, by kernel_rfl, by kernel_rfl⟩) (.cons (⟨by kernel_rfl, by kernel_rfl, by kernel_rfl, by kernel_rfl⟩) (.cons (⟨by kernel_rfl, by kernel_rfl, by kernel_rfl, by kernel_rfl, by kernel_rfl⟩) (.cons (⟨by kernel_rfl, by kernel_rfl, by kernel_rfl, by kernel_rfl, by kernel_rfl⟩) (TabOk.nil _)))))))))))))))
theorem tabBL_tys : TysOk Tryd.prog tabBL := TysOk.of (by kernel_rfl) (by kernel_rfl)
theorem walk_BatchLegal (a0 : Int) (a1 : Option Addr) (len1 cap1 : Nat) (z1 : Nat → Nat → Int) (a2 : Option Addr) (len2 cap2 : Nat) (z2 : Nat → Nat → Int) (W : World) (hE : ErrType W) (w0 : (Lit.int .i64 a0).wf = true) (w1 : Rws 6 (fun _ => .i64) W a1 len1 cap1 z1) (w2 : Rws 6 (fun _ => .i64) W a2 len2 cap2 z2) :
    Calls Tryd.prog 8 #[.int .i64 a0, .slice a1 len1 cap1, .slice a2 len2 cap2] W fun e w' => e = .returned (.bool true) ∧ Below W.heap.size W w' := by
  refine once_of_run (AG := []) (Γ := [(15, .pure conBatched), (16, .pure conRecorded), (9, .pure conJudged), (11, .pure conKindOf), (30, .pure conRNew), (19, .mem (conAsks W)), (18, .mem conBDo), (31, .mem (conConcat 3 6)), (14, .mem conLegal), (32, .pure conRObject), (33, .pure conRRight)]) Tryd.func8 rfl tabBL_ok tabBL_tys
    (.cons (batched_con W _) (.cons (recorded_con W _) (.cons (judged_con W hE) (.cons (kindOf_con W _) (.cons (rnew_con W _) (.cons (asks_con W) (.cons (bdo_con W _) (.cons (concat_con 3 6 W _) (.cons (legal_con W _) (.cons (robject_con W _) (.cons (rright_con W _) (.nil _ _ _))))))))))))
    [.c (.v (.int .i64 a0)), .c (.r a1 len1 cap1 len1 6 (fun _ => .i64) z1), .c (.r a2 len2 cap2 len2 6 (fun _ => .i64) z2)] (.bool true) 800 rfl ?_ rfl
  refine by_eq (q :=
      True ∧ True ∧ True ∧ True ∧ ((1 : Int) ≤ (1 : Int) + pickZ a0 (6 : Int) ∧ (1 : Int) + pickZ a0 (6 : Int) ≤ (6 : Int)) ∧ drawP Tryd.f8 5 (regOps Tryd.f8 5) 1 [HX.mk 2 [] [2] [] true, HX.mk 8 [] [1] [1] false, HX.mk 1 [] [] [] false, HX.mk 0 [0] [] [] false] ∧ ∃ (s : AskS), [SA.c (.r a1 len1 cap1 len1 6 (fun (x : Nat) => .i64) z1)] = [SA.c (.r s.1 s.2 s.3 s.2 6 (fun (x : Nat) => .i64) s.4)] ∧ ([] : List SB) = [] ∧ Rws 6 (fun (x : Nat) => .i64) W (AskS.a s) (AskS.n s) s.3 s.4 ∧ ∀ (x : LstR), (List.length (asTo s.4 (min s.2 12)) ≤ x.1 ∧ x.1 ≤ x.2) ∧ IsA x.4 (asTo s.4 (min s.2 12)) → drawP Tryd.f8 5 (regOps Tryd.f8 5) 1 [HX.mk 3 [] [2, 3] [] true, HX.mk 2 [] [2] [2] true, HX.mk 8 [] [1] [1] false, HX.mk 1 [] [] [] false, HX.mk 0 [0] [] [] false] ∧ ∃ (s_1 : BdS), [SA.a [Seg.ints (.int .u64) 32 (fL (Rec.words (Rec.new ((1 : Int) + pickZ a0 (6 : Int)))))], SA.c (.so 2 0 5 (List.length (asTo s.4 (min s.2 12))) x.2 x.3)] = [SA.a [Seg.ints (.int .u64) 32 s_1.2], SA.c (.so 2 s_1.4 5 (List.length s_1.3) s_1.6 s_1.7)] ∧ [SB.rows 52 [.int .i64, .int .i64, .int .i64, .int .i64, .int .i64] 5 x.1 x.2 x.4] = [SB.rows 52 [.int .i64, .int .i64, .int .i64, .int .i64, .int .i64] 5 s_1.5 s_1.6 s_1.8] ∧ ((RecOK (1099511000000 : Int) s_1.1 ∧ toN 32 s_1.2 = Rec.words s_1.1) ∧ AsksOK s_1.3 ∧ List.length s_1.3 ≤ 100 ∧ (s_1.4 + List.length s_1.3 ≤ s_1.5 ∧ s_1.5 ≤ s_1.6) ∧ IsA (fun (i : Nat) => s_1.8 (s_1.4 + i)) s_1.3) ∧ ∀ (x : BdR), (List.length (bD s_1.1 s_1.3) ≤ x.2 ∧ x.2 ≤ x.3) ∧ IsD x.5 (bD s_1.1 s_1.3) ∧ toN 32 x.1 = Rec.words (bDo s_1.1 s_1.3) → drawP Tryd.f8 5 (regOps Tryd.f8 5) 1 [HX.mk 11 [] [] [] false, HX.mk 10 [] [] [3] false, HX.mk 9 [] [1] [] false, HX.mk 7 [] [] [] false, HX.mk 6 [] [] [3] false, HX.mk 5 [] [] [] false, HX.mk 4 [] [] [3] false, HX.mk 3 [] [2, 3] [3] true, HX.mk 2 [] [2] [2] true, HX.mk 8 [] [1] [1] false, HX.mk 1 [] [] [] false, HX.mk 0 [0] [] [] false] ∧ drawP Tryd.f8 6 (regOps Tryd.f8 6) 4 [HX.mk 2 [] [5] [] true, HX.mk 8 [] [4] [4] false, HX.mk 1 [] [] [] false, HX.mk 0 [1] [] [] false] ∧ ∃ (s : AskS), [SA.c (.r a2 len2 cap2 len2 6 (fun (x : Nat) => .i64) z2)] = [SA.c (.r s.1 s.2 s.3 s.2 6 (fun (x : Nat) => .i64) s.4)] ∧ ([] : List SB) = [] ∧ Rws 6 (fun (x : Nat) => .i64) W (AskS.a s) (AskS.n s) s.3 s.4 ∧ ∀ (x_1 : LstR), (List.length (asTo s.4 (min s.2 12)) ≤ x_1.1 ∧ x_1.1 ≤ x_1.2) ∧ IsA x_1.4 (asTo s.4 (min s.2 12)) → drawP Tryd.f8 6 (regOps Tryd.f8 6) 4 [HX.mk 3 [] [5, 6] [] true, HX.mk 2 [] [5] [5] true, HX.mk 8 [] [4] [4] false, HX.mk 1 [] [] [] false, HX.mk 0 [1] [] [] false] ∧ ∃ (s_2 : BdS), [SA.a [Seg.ints (.int .u64) 32 x.1], SA.c (SC.so 5 0 5 (List.length (asTo s.4 (min s.2 12))) x_1.2 x_1.3)] = [SA.a [Seg.ints (.int .u64) 32 s_2.2], SA.c (.so 5 s_2.4 5 (List.length s_2.3) s_2.6 s_2.7)] ∧ [SB.rows 52 [.int .i64, .int .i64, .int .i64, .int .i64, .int .i64] 5 x_1.1 x_1.2 x_1.4] = [SB.rows 52 [.int .i64, .int .i64, .int .i64, .int .i64, .int .i64] 5 s_2.5 s_2.6 s_2.8] ∧ ((RecOK (1099511000000 : Int) s_2.1 ∧ toN 32 s_2.2 = Rec.words s_2.1) ∧ AsksOK s_2.3 ∧ List.length s_2.3 ≤ 100 ∧ (s_2.4 + List.length s_2.3 ≤ s_2.5 ∧ s_2.5 ≤ s_2.6) ∧ IsA (fun (i : Nat) => s_2.8 (s_2.4 + i)) s_2.3) ∧ ∀ (x_2 : BdR), (List.length (bD s_2.1 s_2.3) ≤ x_2.2 ∧ x_2.2 ≤ x_2.3) ∧ IsD x_2.5 (bD s_2.1 s_2.3) ∧ toN 32 x_2.1 = Rec.words (bDo s_2.1 s_2.3) → drawP Tryd.f8 6 (regOps Tryd.f8 6) 4 [HX.mk 11 [] [] [] false, HX.mk 10 [] [] [6] false, HX.mk 9 [] [4] [] false, HX.mk 7 [] [] [] false, HX.mk 6 [] [] [6] false, HX.mk 5 [] [] [] false, HX.mk 4 [] [] [6] false, HX.mk 3 [] [5, 6] [6] true, HX.mk 2 [] [5] [5] true, HX.mk 8 [] [4] [4] false, HX.mk 1 [] [] [] false, HX.mk 0 [1] [] [] false] ∧ ∃ (s : CaS), [SA.c (.s 7 0 2 2)] = [SA.c (.s 7 0 2 2)] ∧ [SB.rows 38 [.int .i64, .int .i64, .int .i64, .int .i64, .int .i64, .int .i64] 6 x.2 x.3 x.5, SB.rows 38 [.int .i64, .int .i64, .int .i64, .int .i64, .int .i64, .int .i64] 6 x_2.2 x_2.3 x_2.5, SB.cells [Seg.one (SC.so 3 0 6 (List.length (bD s_1.1 s_1.3)) x.3 x.4), Seg.one (SC.so 6 0 6 (List.length (bD s_2.1 s_2.3)) x_2.3 x_2.4)] 28] = [SB.rows 38 [.int .i64, .int .i64, .int .i64, .int .i64, .int .i64, .int .i64] 6 s.2 s.3 s.5, SB.rows 38 [.int .i64, .int .i64, .int .i64, .int .i64, .int .i64, .int .i64] 6 s.7 s.8 s.10, SB.cells [Seg.one (SC.so 3 0 6 (List.length s.1) s.3 s.4), Seg.one (SC.so 6 0 6 (List.length s.6) s.8 s.9)] 28] ∧ ((List.length s.1 ≤ 100 ∧ (List.length s.1 ≤ s.2 ∧ s.2 ≤ s.3) ∧ IsD s.5 s.1) ∧ List.length s.6 ≤ 100 ∧ (List.length s.6 ≤ s.7 ∧ s.7 ≤ s.8) ∧ IsD s.10 s.6) ∧ ∀ (x_3 : LstR), (List.length (List.append s.1 s.6) ≤ x_3.1 ∧ x_3.1 ≤ x_3.2) ∧ IsD x_3.4 (List.append s.1 s.6) → ∃ (s_3 : LgS), [SA.c (.v (Value.int .i64 ((1 : Int) + pickZ a0 (6 : Int)))), SA.c (SC.so 8 0 6 (List.length (List.append s.1 s.6)) x_3.2 x_3.3)] = [SA.c (.v (Value.int .i64 s_3.1)), SA.c (SC.so 8 s_3.3 6 (List.length s_3.2) s_3.5 s_3.6)] ∧ [SB.rows 38 [.int .i64, .int .i64, .int .i64, .int .i64, .int .i64, .int .i64] 6 x_3.1 x_3.2 x_3.4] = [SB.rows 38 [.int .i64, .int .i64, .int .i64, .int .i64, .int .i64, .int .i64] 6 s_3.4 s_3.5 s_3.7] ∧ (((1 : Int) ≤ s_3.1 ∧ s_3.1 ≤ (6 : Int)) ∧ Legal s_3.1 s_3.2 ∧ List.length s_3.2 ≤ 1000 ∧ (s_3.3 + List.length s_3.2 ≤ s_3.4 ∧ s_3.4 ≤ s_3.5) ∧ IsD (fun (i : Nat) => s_3.7 (s_3.3 + i)) s_3.2) ∧ ∀ (x_4 : Unit), True → 32 = 32 ∧ bif bif decide ([fL (lgC s_3.1 s_3.2 (List.length s_3.2)) 0, fL (lgC s_3.1 s_3.2 (List.length s_3.2)) 1, fL (lgC s_3.1 s_3.2 (List.length s_3.2)) 2, fL (lgC s_3.1 s_3.2 (List.length s_3.2)) 3, fL (lgC s_3.1 s_3.2 (List.length s_3.2)) 4, fL (lgC s_3.1 s_3.2 (List.length s_3.2)) 5, fL (lgC s_3.1 s_3.2 (List.length s_3.2)) 6, fL (lgC s_3.1 s_3.2 (List.length s_3.2)) 7, fL (lgC s_3.1 s_3.2 (List.length s_3.2)) 8, fL (lgC s_3.1 s_3.2 (List.length s_3.2)) 9, fL (lgC s_3.1 s_3.2 (List.length s_3.2)) 10, fL (lgC s_3.1 s_3.2 (List.length s_3.2)) 11, fL (lgC s_3.1 s_3.2 (List.length s_3.2)) 12, fL (lgC s_3.1 s_3.2 (List.length s_3.2)) 13, fL (lgC s_3.1 s_3.2 (List.length s_3.2)) 14, fL (lgC s_3.1 s_3.2 (List.length s_3.2)) 15, fL (lgC s_3.1 s_3.2 (List.length s_3.2)) 16] = [fL (toN 17 fun (i : Nat) => x_2.1 (1 + i)) 0, fL (toN 17 fun (i : Nat) => x_2.1 (1 + i)) 1, fL (toN 17 fun (i : Nat) => x_2.1 (1 + i)) 2, fL (toN 17 fun (i : Nat) => x_2.1 (1 + i)) 3, fL (toN 17 fun (i : Nat) => x_2.1 (1 + i)) 4, fL (toN 17 fun (i : Nat) => x_2.1 (1 + i)) 5, fL (toN 17 fun (i : Nat) => x_2.1 (1 + i)) 6, fL (toN 17 fun (i : Nat) => x_2.1 (1 + i)) 7, fL (toN 17 fun (i : Nat) => x_2.1 (1 + i)) 8, fL (toN 17 fun (i : Nat) => x_2.1 (1 + i)) 9, fL (toN 17 fun (i : Nat) => x_2.1 (1 + i)) 10, fL (toN 17 fun (i : Nat) => x_2.1 (1 + i)) 11, fL (toN 17 fun (i : Nat) => x_2.1 (1 + i)) 12, fL (toN 17 fun (i : Nat) => x_2.1 (1 + i)) 13, fL (toN 17 fun (i : Nat) => x_2.1 (1 + i)) 14, fL (toN 17 fun (i : Nat) => x_2.1 (1 + i)) 15, fL (toN 17 fun (i : Nat) => x_2.1 (1 + i)) 16]) then true else false then ((0 : Int) ≤ (28 : Int) ∧ (28 : Int) < (32 : Int)) ∧ 28 < 32 ∧ List.length (bD s_1.1 s_1.3) ≤ x.3 ∧ List.length (bD s_2.1 s_2.3) ≤ x_2.3 ∧ bif IntKind.wrap .i64 (x_2.1 28) == IntKind.wrap .i64 ((↑(List.length (bD s_1.1 s_1.3)) : Int) + (↑(List.length (bD s_2.1 s_2.3)) : Int)) then (32 = 32 ∧ RecW x_2.1) ∧ drawP Tryd.f8 10 (regOps Tryd.f8 10) 10 [HX.mk 23 [] [] [] false, HX.mk 22 [] [] [] false, HX.mk 21 [] [] [] false, HX.mk 20 [4] [] [] false, HX.mk 19 [] [] [] false, HX.mk 18 [] [] [] false, HX.mk 17 [] [] [] false, HX.mk 16 [] [] [] false, HX.mk 15 [] [] [] false, HX.mk 14 [] [] [6] false, HX.mk 13 [] [] [] false, HX.mk 12 [] [] [3] false, HX.mk 11 [] [] [] false, HX.mk 10 [4] [] [] false, HX.mk 9 [] [] [4] false, HX.mk 8 [] [] [] false, HX.mk 7 [] [] [] false, HX.mk 6 [] [] [] false, HX.mk 5 [] [] [] false, HX.mk 4 [4] [] [] false, HX.mk 3 [9] [] [] false, HX.mk 2 [] [] [] false, HX.mk 1 [] [] [] false, HX.mk 0 [] [] [] false] ∧ SV.o (SA.c (.v (Value.bool true))) = SV.o (SA.c (.v (Value.bool true))) else drawP Tryd.f8 10 (regOps Tryd.f8 10) 10 [HX.mk 23 [] [] [] false, HX.mk 22 [] [] [] false, HX.mk 21 [] [] [] false, HX.mk 20 [] [] [] false, HX.mk 19 [] [] [] false, HX.mk 18 [] [] [] false, HX.mk 17 [] [] [] false, HX.mk 16 [] [] [] false, HX.mk 15 [] [] [] false, HX.mk 14 [] [] [6] false, HX.mk 13 [] [] [] false, HX.mk 12 [] [] [3] false, HX.mk 11 [] [] [] false, HX.mk 10 [4] [] [] false, HX.mk 9 [] [] [4] false, HX.mk 8 [] [] [] false, HX.mk 7 [] [] [] false, HX.mk 6 [] [] [] false, HX.mk 5 [] [] [] false, HX.mk 4 [4] [] [] false, HX.mk 3 [9] [] [] false, HX.mk 2 [] [] [] false, HX.mk 1 [] [] [] false, HX.mk 0 [] [] [] false] ∧ SV.o (SA.c (.v (Value.bool false))) = SV.o (SA.c (.v (Value.bool true))) else drawP Tryd.f8 10 (regOps Tryd.f8 10) 10 [HX.mk 23 [] [] [] false, HX.mk 22 [] [] [] false, HX.mk 21 [] [] [] false, HX.mk 20 [] [] [] false, HX.mk 19 [] [] [] false, HX.mk 18 [] [] [] false, HX.mk 17 [] [] [] false, HX.mk 16 [] [] [] false, HX.mk 15 [] [] [] false, HX.mk 14 [] [] [] false, HX.mk 13 [] [] [] false, HX.mk 12 [] [] [] false, HX.mk 11 [] [] [] false, HX.mk 10 [] [] [] false, HX.mk 9 [] [] [] false, HX.mk 8 [] [] [] false, HX.mk 7 [] [] [] false, HX.mk 6 [] [] [] false, HX.mk 5 [] [] [] false, HX.mk 4 [4] [] [] false, HX.mk 3 [9] [] [] false, HX.mk 2 [] [] [] false, HX.mk 1 [] [] [] false, HX.mk 0 [] [] [] false] ∧ SV.o (SA.c (.v (Value.bool false))) = SV.o (SA.c (.v (Value.bool true)))) (by kernel_rfl) ?_
  have h1 := pickZ_nonneg a0 6 (by decide)
  have h2 := pickZ_lt a0 6 (by decide)
  generalize hk : 1 + pickZ a0 6 = k at *
  have k1 : 1 ≤ k := by omega
  have k6 : k ≤ 6 := by omega
  have hn := RecOK.new k1 k6
  have hB : RecOK 1099511000000 (Rec.new k) := hn.mono (by decide)
  have o1 := asTo_ok z1 (min len1 12)
  have j1 := asTo_len z1 (min len1 12)
  have o2 := asTo_ok z2 (min len2 12)
  have j2 := asTo_len z2 (min len2 12)
  have hz (x : Nat → Nat → Int) (l : List Ask) (h : IsA x l) : IsA (fun i => x (0 + i)) l := fun i hi => by show (l.getD i Ask.nil).is (x (0 + i)); rw [Nat.zero_add]; exact h i hi
  refine ⟨trivial, trivial, trivial, trivial, ⟨k1, k6⟩, draw_of (by kernel_rfl), ⟨a1, len1, cap1, z1⟩, rfl, rfl, w1, ?_⟩
  rintro ⟨mA, cA, nA, zA⟩ hA
  dsimp only at hA ⊢
  generalize asTo z1 (min len1 12) = l1 at *
  have hA1 := hA.1
  refine ⟨draw_of (by kernel_rfl), ⟨Rec.new k, fL (Rec.new k).words, l1, 0, mA, cA, nA, zA⟩, rfl, rfl, ⟨⟨hB, toN_fL (Rec.words_len hB)⟩, o1, by show l1.length ≤ 100; omega, ⟨by show 0 + l1.length ≤ mA; omega, hA.1.2⟩, hz zA l1 hA.2⟩, ?_⟩
  rintro ⟨fq, m1, c1, n1, zq⟩ hq
  dsimp only at hq ⊢
  refine ⟨draw_of (by kernel_rfl), draw_of (by kernel_rfl), ⟨a2, len2, cap2, z2⟩, rfl, rfl, w2, ?_⟩
  rintro ⟨mC, cC, nC, zC⟩ hC
  dsimp only at hC ⊢
  generalize asTo z2 (min len2 12) = l2 at *
  have hC1 := hC.1
  have hr1 : RecOK 1099511000000 (bR (Rec.new k) l1) := (bR_ok hn o1).mono (by omega)
  have hv1 : (bR (Rec.new k) l1).ver = 0 := bR_ver l1 _
  have hq2 : RecOK 1099511000000 (bDo (Rec.new k) l1) := hr1.at (by omega) (by omega)
  have hr2 : RecOK 1099511000000 (bR (bDo (Rec.new k) l1) l2) := ((bR_ok (B := 12) (r := bDo (Rec.new k) l1) (RecOK.at ((bR_ok hn o1).mono (by omega)) (by omega) (by omega)) o2)).mono (by omega)
  have hv2 : (bR (bDo (Rec.new k) l1) l2).ver = 1 := by rw [bR_ver]; show (bR (Rec.new k) l1).ver + 1 = 1; rw [hv1]; rfl
  have hp2 : RecOK 1099511000000 (bDo (bDo (Rec.new k) l1) l2) := hr2.at (by omega) (by omega)
  refine ⟨draw_of (by kernel_rfl), ⟨bDo (Rec.new k) l1, fq, l2, 0, mC, cC, nC, zC⟩, rfl, rfl, ⟨⟨hq2, hq.2.2⟩, o2, by show l2.length ≤ 100; omega, ⟨by show 0 + l2.length ≤ mC; omega, hC.1.2⟩, hz zC l2 hC.2⟩, ?_⟩
  rintro ⟨fp, m2, c2, n2, zp⟩ hp
  dsimp only at hp ⊢
  have d1 := bD_le l1 (Rec.new k)
  have d2 := bD_le l2 (bDo (Rec.new k) l1)
  have hq1 := hq.1
  have hp1 := hp.1
  refine ⟨draw_of (by kernel_rfl), ⟨bD (Rec.new k) l1, m1, c1, n1, zq, bD (bDo (Rec.new k) l1) l2, m2, c2, n2, zp⟩, rfl, rfl, ⟨⟨by show (bD (Rec.new k) l1).length ≤ 100; omega, hq.1, hq.2.1⟩, ⟨by show (bD (bDo (Rec.new k) l1) l2).length ≤ 100; omega, hp.1, hp.2.1⟩⟩, ?_⟩
  rintro ⟨m3, c3, n3, z3⟩ h3
  dsimp only at h3 ⊢
  have g1 := bR_legal (l := []) hn o1 (fun i hi => absurd hi (Nat.not_lt_zero _)) rfl
  rw [List.nil_append] at g1
  have g2 := bR_legal (r := bR (Rec.new k) l1) (m := l2) (l := bD (Rec.new k) l1) hr1 o2 (by rw [bR_kind]; exact g1.1) (by rw [bR_kind]; exact g1.2)
  rw [bR_kind] at g2
  have eb : bD (bR (Rec.new k) l1) l2 = bD (bDo (Rec.new k) l1) l2 := (bD_at l2 (bR (Rec.new k) l1) _).symm
  rw [eb] at g2
  have hL : Legal k (List.append (bD (Rec.new k) l1) (bD (bDo (Rec.new k) l1) l2)) := g2.1
  have hO : lgC k (List.append (bD (Rec.new k) l1) (bD (bDo (Rec.new k) l1) l2)) (List.append (bD (Rec.new k) l1) (bD (bDo (Rec.new k) l1) l2)).length = (bDo (bDo (Rec.new k) l1) l2).obj := by
    refine g2.2.trans ?_
    show _ = (bR ((bR (Rec.new k) l1).at _) l2).obj
    rw [bR_at]; rfl
  have hcnt : (bDo (bDo (Rec.new k) l1) l2).cnt = ((bD (Rec.new k) l1).length : Int) + ((bD (bDo (Rec.new k) l1) l2).length : Int) := by
    show (bR (bDo (Rec.new k) l1) l2).cnt = _
    rw [bR_cnt]
    show (bR (Rec.new k) l1).cnt + _ = _
    rw [bR_cnt]
    show (0 : Int) + _ + _ = _
    omega
  have hl3 : (List.append (bD (Rec.new k) l1) (bD (bDo (Rec.new k) l1) l2)).length = (bD (Rec.new k) l1).length + (bD (bDo (Rec.new k) l1) l2).length := List.length_append
  generalize List.append (bD (Rec.new k) l1) (bD (bDo (Rec.new k) l1) l2) = D at *
  have h31 := h3.1
  refine ⟨⟨k, D, 0, m3, c3, n3, z3⟩, rfl, rfl, ⟨⟨k1, k6⟩, hL, by show D.length ≤ 1000; omega, ⟨by show 0 + D.length ≤ m3; omega, h3.1.2⟩, fun i hi => by show (D.getD i Dd.nil).is (z3 (0 + i)); rw [Nat.zero_add]; exact h3.2 i hi⟩, fun _ _ => ?_⟩
  dsimp only
  rw [hO]
  have hW := RecW.of hp2 (by decide) hp.2.2
  have hobj : toN 17 (fun i => fp (1 + i)) = (bDo (bDo (Rec.new k) l1) l2).obj := (ofW_obj fp).symm.trans (congrArg Rec.obj hW.2)
  have e28 := (words_f hp2 hp.2.2).2.2
  rw [hobj]
  refine ⟨rfl, by_tdec (fun _ => ⟨⟨by decide, by decide⟩, by decide, by omega, by omega, by_beq (fun _ => ⟨⟨rfl, hW.1⟩, draw_of (by kernel_rfl), rfl⟩) (fun h => absurd ?_ h)⟩) (fun h => absurd rfl h)⟩
  rw [e28, hcnt]
end Go.Proofs.YtacgihekdmoceaaDoor
