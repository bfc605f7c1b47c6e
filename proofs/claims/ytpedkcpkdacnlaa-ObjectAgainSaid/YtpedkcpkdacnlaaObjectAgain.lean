/- ObjectAgain: the walk of the law, by the symbolic machine. -/
import Derived.Test.YtpedkcpkdacnlaaObj5
namespace Go.Proofs.Ytpedkcpkdacnlaa
open Go.RowKit
set_option linter.unusedVariables false
set_option maxRecDepth 100000
set_option maxHeartbeats 4000000
def tabAgain : Tab := [(3, .one (.int .i64 0) (.int .i64)),
  (4, .one (.bool false) .bool),
  (26, .str [.one (.v (.int .i64 0)), .one (.v (.int .i64 0))] [(0, 1, false), (1, 1, false)]),
  (30, .str [.one (.v (.int .i64 0)), .one (.v (.int .i64 0)), .one (.v (.int .i64 0))] [(0, 1, false), (1, 1, false), (2, 1, false)]),
  (44, .arr [.ints .u64 17 (fun _ => 0)] 17 1 false),
  (47, .one (.nilIface) .iface),
  (42, .one (.int .u64 0) (.int .u64)),
  (40, .one (.slice none 0 0) (.slice 30))]
theorem tabAgain_ok : TabOk Try.prog tabAgain := .cons (⟨by kernel_rfl, by kernel_rfl, by kernel_rfl, by kernel_rfl, by kernel_rfl⟩) (.cons (⟨by kernel_rfl, by kernel_rfl, by kernel_rfl, by kernel_rfl, by kernel_rfl⟩) (.cons (⟨by kernel_rfl, by kernel_rfl, by kernel_rfl, by kernel_rfl⟩) (.cons (⟨by kernel_rfl, by kernel_rfl, by kernel_rfl, by kernel_rfl⟩) (.cons (⟨by kernel_rfl, by kernel_rfl, by kernel_rfl, by kernel_rfl⟩) (.cons (⟨by kernel_rfl, by kernel_rfl, by kernel_rfl, by kernel_rfl, by kernel_rfl⟩) (.cons (⟨by kernel_rfl, by kernel_rfl, by kernel_rfl, by kernel_rfl, by kernel_rfl⟩) (.cons (⟨by kernel_rfl, by kernel_rfl, by kernel_rfl, by kernel_rfl, by kernel_rfl⟩) (TabOk.nil _))))))))
theorem tabAgain_tys : TysOk Try.prog tabAgain := TysOk.of (by kernel_rfl) (by kernel_rfl)
/-- What holds at each round's head: how far it is, and the object. -/
structure AgainS (kd : Int) (m : Nat) where
  i : Nat
  f : Nat → Int
  hi : i ≤ m
  hf : ObjOK kd (toL f)
def annAgain (kd : Int) (a2 : Option Addr) (len2 cap2 m : Nat) (z2 : Nat → Nat → Int) : Ann where
  σ := AgainS kd m
  I := fun s => ([(0, sv (.int .i64 kd)), (7, .o (.c (.p 0 0))), (8, .o (.c (.p 1 0))), (29, .o (.c (.r a2 m cap2 len2 3 (fun _ => .i64) z2))), (30, sv (.int .i64 m)), (31, sv (.int .i64 s.i))],
    [.cells [.ints .u64 17 s.f] 44, .cells [.ints .u64 17 s.f] 44])
  dec := fun s => m - s.i
theorem walk_ObjectAgain (a0 : Int) (a1 : Option Addr) (len1 cap1 : Nat) (z1 : Nat → Nat → Int) (a2 : Option Addr) (len2 cap2 : Nat) (z2 : Nat → Nat → Int) (W : World) (w0 : (Lit.int .i64 a0).wf = true) (w1 : Rws 3 (fun _ => .i64) W a1 len1 cap1 z1) (w2 : Rws 3 (fun _ => .i64) W a2 len2 cap2 z2) :
    Calls Try.prog 9 #[.int .i64 a0, .slice a1 len1 cap1, .slice a2 len2 cap2] W fun e w' => e = .returned (.bool true) ∧ Below W.heap.size W w' := by
  have hp0 := pickZ_nonneg a0 6 (by decide)
  have hp1 := pickZ_lt a0 6 (by decide)
  refine once_of_run (An := [(0, annAgain (1 + pickZ a0 6) a2 len2 cap2 (min len2 20) z2)]) (Γ := [(33, conThings), (34, conKindOf), (35, conMade z1 a1 len1 cap1), (36, conDoAny)]) Try.func9 rfl tabAgain_ok tabAgain_tys
    (.cons things_con.at (.cons kindOf_con.at (.cons (made_con w1) (.cons doAny_con.at (.nil _ _ _)))))
    [.c (.v (.int .i64 a0)), .c (.v (.slice a1 len1 cap1)), .c (.r a2 len2 cap2 len2 3 (fun _ => .i64) z2)] (Nat.le_of_ble_eq_true rfl) (.bool true) 200 ?_ rfl
  refine by_eq (q :=
      True ∧
        True ∧
          (((1 : Int) ≤ (1 : Int) + pickZ a0 (6 : Int) ∧ (1 : Int) + pickZ a0 (6 : Int) ≤ (6 : Int)) ∧ a1 = a1 ∧ len1 = len1 ∧ cap1 = cap1) ∧
            (((0 : Int) ≤ if (20 : Int) < (↑len2 : Int) then (20 : Int) else (↑len2 : Int)) ∧
                (if (20 : Int) < (↑len2 : Int) then (20 : Int) else (↑len2 : Int)) ≤ (↑cap2 : Int)) ∧
              ∃ (s0 : AgainS ((1 : Int) + pickZ a0 (6 : Int)) (min len2 (20 : Nat))),
                ((some (SV.o (SA.c (SC.v (Value.int IntKind.i64 ((1 : Int) + pickZ a0 (6 : Int)))))) =
                        some (SV.o (SA.c (SC.v (Value.int IntKind.i64 ((1 : Int) + pickZ a0 (6 : Int)))))) ∧
                      some (SV.o (SA.c (SC.p (0 : Nat) (0 : Nat)))) = some (SV.o (SA.c (SC.p (0 : Nat) (0 : Nat)))) ∧
                        some (SV.o (SA.c (SC.p (1 : Nat) (0 : Nat)))) = some (SV.o (SA.c (SC.p (1 : Nat) (0 : Nat)))) ∧
                          some
                                (SV.o
                                  (SA.c
                                    (SC.r a2 (Int.toNat (if (20 : Int) < (↑len2 : Int) then (20 : Int) else (↑len2 : Int))) cap2 len2 (3 : Nat)
                                      (fun (x : Nat) => IntKind.i64) z2))) =
                              some (SV.o (SA.c (SC.r a2 (min len2 (20 : Nat)) cap2 len2 (3 : Nat) (fun (x : Nat) => IntKind.i64) z2))) ∧
                            some
                                  (SV.o
                                    (SA.c (SC.v (Value.int IntKind.i64 (↑(Int.toNat (if (20 : Int) < (↑len2 : Int) then (20 : Int) else (↑len2 : Int))) : Int))))) =
                                some (SV.o (SA.c (SC.v (Value.int IntKind.i64 (↑(min len2 (20 : Nat)) : Int))))) ∧
                              some (SV.o (SA.c (SC.v (Value.int IntKind.i64 (0 : Int))))) = some (SV.o (SA.c (SC.v (Value.int IntKind.i64 (↑s0.1 : Int))))) ∧ True) ∧
                    [SB.cells [Seg.ints IntKind.u64 (17 : Nat) (cf (madeTo ((1 : Int) + pickZ a0 (6 : Int)) z1 (min len1 (30 : Nat))))] (44 : Nat),
                        SB.cells [Seg.ints IntKind.u64 (17 : Nat) (cf (madeTo ((1 : Int) + pickZ a0 (6 : Int)) z1 (min len1 (30 : Nat))))] (44 : Nat)] =
                      [SB.cells [Seg.ints IntKind.u64 (17 : Nat) s0.2] (44 : TypeId), SB.cells [Seg.ints IntKind.u64 (17 : Nat) s0.2] (44 : TypeId)]) ∧
                  ∀ (s : AgainS ((1 : Int) + pickZ a0 (6 : Int)) (min len2 (20 : Nat))),
                    bif decide ((↑s.1 : Int) < (↑(min len2 (20 : Nat)) : Int)) then
                      (Rws (3 : Nat) (fun (x : Nat) => IntKind.i64) W a2 len2 cap2 z2 ∧
                          (0 : Int) ≤ (↑s.1 : Int) ∧ (↑s.1 : Int) < (↑(min len2 (20 : Nat)) : Int) ∧ Int.toNat (↑s.1 : Int) < len2) ∧
                        (Rws (3 : Nat) (fun (x : Nat) => IntKind.i64) W a2 len2 cap2 z2 ∧ Int.toNat (↑s.1 : Int) < len2) ∧
                          ((17 : Nat) = (17 : Nat) ∧ ObjOK ((1 : Int) + pickZ a0 (6 : Int)) (toL s.2)) ∧
                            bif opOk (z2 (Int.toNat (↑s.1 : Int)) (0 : Nat)) (z2 (Int.toNat (↑s.1 : Int)) (1 : Nat)) (z2 (Int.toNat (↑s.1 : Int)) (2 : Nat)) then
                              ((17 : Nat) = (17 : Nat) ∧ ObjOK ((1 : Int) + pickZ a0 (6 : Int)) (toL s.2)) ∧
                                bif opOk (z2 (Int.toNat (↑s.1 : Int)) (0 : Nat)) (z2 (Int.toNat (↑s.1 : Int)) (1 : Nat)) (z2 (Int.toNat (↑s.1 : Int)) (2 : Nat)) then
                                  drawP (11 : Nat) (regOps Try.f9 (11 : Nat)) ∧
                                    bif
                                        bif
                                            bif
                                                (Prod.snd
                                                      (objR ((1 : Int) + pickZ a0 (6 : Int)) (toL s.2) (z2 (Int.toNat (↑s.1 : Int)) (0 : Nat))
                                                        (z2 (Int.toNat (↑s.1 : Int)) (1 : Nat)) (z2 (Int.toNat (↑s.1 : Int)) (2 : Nat)))).1 ==
                                                  (Prod.snd
                                                      (objR ((1 : Int) + pickZ a0 (6 : Int)) (toL s.2) (z2 (Int.toNat (↑s.1 : Int)) (0 : Nat))
                                                        (z2 (Int.toNat (↑s.1 : Int)) (1 : Nat)) (z2 (Int.toNat (↑s.1 : Int)) (2 : Nat)))).1 then
                                              bif
                                                  (Prod.snd
                                                        (objR ((1 : Int) + pickZ a0 (6 : Int)) (toL s.2) (z2 (Int.toNat (↑s.1 : Int)) (0 : Nat))
                                                          (z2 (Int.toNat (↑s.1 : Int)) (1 : Nat)) (z2 (Int.toNat (↑s.1 : Int)) (2 : Nat)))).2 ==
                                                    (Prod.snd
                                                        (objR ((1 : Int) + pickZ a0 (6 : Int)) (toL s.2) (z2 (Int.toNat (↑s.1 : Int)) (0 : Nat))
                                                          (z2 (Int.toNat (↑s.1 : Int)) (1 : Nat)) (z2 (Int.toNat (↑s.1 : Int)) (2 : Nat)))).2 then
                                                true
                                              else false
                                            else false then
                                          false
                                        else true then
                                      SV.o (SA.c (SC.v (Value.bool false))) = SV.o (SA.c (SC.v (Value.bool true)))
                                    else
                                      bif
                                          bif
                                              bif
                                                  decide
                                                    ([cf
                                                          (objR ((1 : Int) + pickZ a0 (6 : Int)) (toL s.2) (z2 (Int.toNat (↑s.1 : Int)) (0 : Nat))
                                                              (z2 (Int.toNat (↑s.1 : Int)) (1 : Nat)) (z2 (Int.toNat (↑s.1 : Int)) (2 : Nat))).1
                                                          (0 : Nat),
                                                        cf
                                                          (objR ((1 : Int) + pickZ a0 (6 : Int)) (toL s.2) (z2 (Int.toNat (↑s.1 : Int)) (0 : Nat))
                                                              (z2 (Int.toNat (↑s.1 : Int)) (1 : Nat)) (z2 (Int.toNat (↑s.1 : Int)) (2 : Nat))).1
                                                          (1 : Nat),
                                                        cf
                                                          (objR ((1 : Int) + pickZ a0 (6 : Int)) (toL s.2) (z2 (Int.toNat (↑s.1 : Int)) (0 : Nat))
                                                              (z2 (Int.toNat (↑s.1 : Int)) (1 : Nat)) (z2 (Int.toNat (↑s.1 : Int)) (2 : Nat))).1
                                                          (2 : Nat),
                                                        cf
                                                          (objR ((1 : Int) + pickZ a0 (6 : Int)) (toL s.2) (z2 (Int.toNat (↑s.1 : Int)) (0 : Nat))
                                                              (z2 (Int.toNat (↑s.1 : Int)) (1 : Nat)) (z2 (Int.toNat (↑s.1 : Int)) (2 : Nat))).1
                                                          (3 : Nat),
                                                        cf
                                                          (objR ((1 : Int) + pickZ a0 (6 : Int)) (toL s.2) (z2 (Int.toNat (↑s.1 : Int)) (0 : Nat))
                                                              (z2 (Int.toNat (↑s.1 : Int)) (1 : Nat)) (z2 (Int.toNat (↑s.1 : Int)) (2 : Nat))).1
                                                          (4 : Nat),
                                                        cf
                                                          (objR ((1 : Int) + pickZ a0 (6 : Int)) (toL s.2) (z2 (Int.toNat (↑s.1 : Int)) (0 : Nat))
                                                              (z2 (Int.toNat (↑s.1 : Int)) (1 : Nat)) (z2 (Int.toNat (↑s.1 : Int)) (2 : Nat))).1
                                                          (5 : Nat),
                                                        cf
                                                          (objR ((1 : Int) + pickZ a0 (6 : Int)) (toL s.2) (z2 (Int.toNat (↑s.1 : Int)) (0 : Nat))
                                                              (z2 (Int.toNat (↑s.1 : Int)) (1 : Nat)) (z2 (Int.toNat (↑s.1 : Int)) (2 : Nat))).1
                                                          (6 : Nat),
                                                        cf
                                                          (objR ((1 : Int) + pickZ a0 (6 : Int)) (toL s.2) (z2 (Int.toNat (↑s.1 : Int)) (0 : Nat))
                                                              (z2 (Int.toNat (↑s.1 : Int)) (1 : Nat)) (z2 (Int.toNat (↑s.1 : Int)) (2 : Nat))).1
                                                          (7 : Nat),
                                                        cf
                                                          (objR ((1 : Int) + pickZ a0 (6 : Int)) (toL s.2) (z2 (Int.toNat (↑s.1 : Int)) (0 : Nat))
                                                              (z2 (Int.toNat (↑s.1 : Int)) (1 : Nat)) (z2 (Int.toNat (↑s.1 : Int)) (2 : Nat))).1
                                                          (8 : Nat),
                                                        cf
                                                          (objR ((1 : Int) + pickZ a0 (6 : Int)) (toL s.2) (z2 (Int.toNat (↑s.1 : Int)) (0 : Nat))
                                                              (z2 (Int.toNat (↑s.1 : Int)) (1 : Nat)) (z2 (Int.toNat (↑s.1 : Int)) (2 : Nat))).1
                                                          (9 : Nat),
                                                        cf
                                                          (objR ((1 : Int) + pickZ a0 (6 : Int)) (toL s.2) (z2 (Int.toNat (↑s.1 : Int)) (0 : Nat))
                                                              (z2 (Int.toNat (↑s.1 : Int)) (1 : Nat)) (z2 (Int.toNat (↑s.1 : Int)) (2 : Nat))).1
                                                          (10 : Nat),
                                                        cf
                                                          (objR ((1 : Int) + pickZ a0 (6 : Int)) (toL s.2) (z2 (Int.toNat (↑s.1 : Int)) (0 : Nat))
                                                              (z2 (Int.toNat (↑s.1 : Int)) (1 : Nat)) (z2 (Int.toNat (↑s.1 : Int)) (2 : Nat))).1
                                                          (11 : Nat),
                                                        cf
                                                          (objR ((1 : Int) + pickZ a0 (6 : Int)) (toL s.2) (z2 (Int.toNat (↑s.1 : Int)) (0 : Nat))
                                                              (z2 (Int.toNat (↑s.1 : Int)) (1 : Nat)) (z2 (Int.toNat (↑s.1 : Int)) (2 : Nat))).1
                                                          (12 : Nat),
                                                        cf
                                                          (objR ((1 : Int) + pickZ a0 (6 : Int)) (toL s.2) (z2 (Int.toNat (↑s.1 : Int)) (0 : Nat))
                                                              (z2 (Int.toNat (↑s.1 : Int)) (1 : Nat)) (z2 (Int.toNat (↑s.1 : Int)) (2 : Nat))).1
                                                          (13 : Nat),
                                                        cf
                                                          (objR ((1 : Int) + pickZ a0 (6 : Int)) (toL s.2) (z2 (Int.toNat (↑s.1 : Int)) (0 : Nat))
                                                              (z2 (Int.toNat (↑s.1 : Int)) (1 : Nat)) (z2 (Int.toNat (↑s.1 : Int)) (2 : Nat))).1
                                                          (14 : Nat),
                                                        cf
                                                          (objR ((1 : Int) + pickZ a0 (6 : Int)) (toL s.2) (z2 (Int.toNat (↑s.1 : Int)) (0 : Nat))
                                                              (z2 (Int.toNat (↑s.1 : Int)) (1 : Nat)) (z2 (Int.toNat (↑s.1 : Int)) (2 : Nat))).1
                                                          (15 : Nat),
                                                        cf
                                                          (objR ((1 : Int) + pickZ a0 (6 : Int)) (toL s.2) (z2 (Int.toNat (↑s.1 : Int)) (0 : Nat))
                                                              (z2 (Int.toNat (↑s.1 : Int)) (1 : Nat)) (z2 (Int.toNat (↑s.1 : Int)) (2 : Nat))).1
                                                          (16 : Nat)] =
                                                      [cf
                                                          (objR ((1 : Int) + pickZ a0 (6 : Int)) (toL s.2) (z2 (Int.toNat (↑s.1 : Int)) (0 : Nat))
                                                              (z2 (Int.toNat (↑s.1 : Int)) (1 : Nat)) (z2 (Int.toNat (↑s.1 : Int)) (2 : Nat))).1
                                                          (0 : Nat),
                                                        cf
                                                          (objR ((1 : Int) + pickZ a0 (6 : Int)) (toL s.2) (z2 (Int.toNat (↑s.1 : Int)) (0 : Nat))
                                                              (z2 (Int.toNat (↑s.1 : Int)) (1 : Nat)) (z2 (Int.toNat (↑s.1 : Int)) (2 : Nat))).1
                                                          (1 : Nat),
                                                        cf
                                                          (objR ((1 : Int) + pickZ a0 (6 : Int)) (toL s.2) (z2 (Int.toNat (↑s.1 : Int)) (0 : Nat))
                                                              (z2 (Int.toNat (↑s.1 : Int)) (1 : Nat)) (z2 (Int.toNat (↑s.1 : Int)) (2 : Nat))).1
                                                          (2 : Nat),
                                                        cf
                                                          (objR ((1 : Int) + pickZ a0 (6 : Int)) (toL s.2) (z2 (Int.toNat (↑s.1 : Int)) (0 : Nat))
                                                              (z2 (Int.toNat (↑s.1 : Int)) (1 : Nat)) (z2 (Int.toNat (↑s.1 : Int)) (2 : Nat))).1
                                                          (3 : Nat),
                                                        cf
                                                          (objR ((1 : Int) + pickZ a0 (6 : Int)) (toL s.2) (z2 (Int.toNat (↑s.1 : Int)) (0 : Nat))
                                                              (z2 (Int.toNat (↑s.1 : Int)) (1 : Nat)) (z2 (Int.toNat (↑s.1 : Int)) (2 : Nat))).1
                                                          (4 : Nat),
                                                        cf
                                                          (objR ((1 : Int) + pickZ a0 (6 : Int)) (toL s.2) (z2 (Int.toNat (↑s.1 : Int)) (0 : Nat))
                                                              (z2 (Int.toNat (↑s.1 : Int)) (1 : Nat)) (z2 (Int.toNat (↑s.1 : Int)) (2 : Nat))).1
                                                          (5 : Nat),
                                                        cf
                                                          (objR ((1 : Int) + pickZ a0 (6 : Int)) (toL s.2) (z2 (Int.toNat (↑s.1 : Int)) (0 : Nat))
                                                              (z2 (Int.toNat (↑s.1 : Int)) (1 : Nat)) (z2 (Int.toNat (↑s.1 : Int)) (2 : Nat))).1
                                                          (6 : Nat),
                                                        cf
                                                          (objR ((1 : Int) + pickZ a0 (6 : Int)) (toL s.2) (z2 (Int.toNat (↑s.1 : Int)) (0 : Nat))
                                                              (z2 (Int.toNat (↑s.1 : Int)) (1 : Nat)) (z2 (Int.toNat (↑s.1 : Int)) (2 : Nat))).1
                                                          (7 : Nat),
                                                        cf
                                                          (objR ((1 : Int) + pickZ a0 (6 : Int)) (toL s.2) (z2 (Int.toNat (↑s.1 : Int)) (0 : Nat))
                                                              (z2 (Int.toNat (↑s.1 : Int)) (1 : Nat)) (z2 (Int.toNat (↑s.1 : Int)) (2 : Nat))).1
                                                          (8 : Nat),
                                                        cf
                                                          (objR ((1 : Int) + pickZ a0 (6 : Int)) (toL s.2) (z2 (Int.toNat (↑s.1 : Int)) (0 : Nat))
                                                              (z2 (Int.toNat (↑s.1 : Int)) (1 : Nat)) (z2 (Int.toNat (↑s.1 : Int)) (2 : Nat))).1
                                                          (9 : Nat),
                                                        cf
                                                          (objR ((1 : Int) + pickZ a0 (6 : Int)) (toL s.2) (z2 (Int.toNat (↑s.1 : Int)) (0 : Nat))
                                                              (z2 (Int.toNat (↑s.1 : Int)) (1 : Nat)) (z2 (Int.toNat (↑s.1 : Int)) (2 : Nat))).1
                                                          (10 : Nat),
                                                        cf
                                                          (objR ((1 : Int) + pickZ a0 (6 : Int)) (toL s.2) (z2 (Int.toNat (↑s.1 : Int)) (0 : Nat))
                                                              (z2 (Int.toNat (↑s.1 : Int)) (1 : Nat)) (z2 (Int.toNat (↑s.1 : Int)) (2 : Nat))).1
                                                          (11 : Nat),
                                                        cf
                                                          (objR ((1 : Int) + pickZ a0 (6 : Int)) (toL s.2) (z2 (Int.toNat (↑s.1 : Int)) (0 : Nat))
                                                              (z2 (Int.toNat (↑s.1 : Int)) (1 : Nat)) (z2 (Int.toNat (↑s.1 : Int)) (2 : Nat))).1
                                                          (12 : Nat),
                                                        cf
                                                          (objR ((1 : Int) + pickZ a0 (6 : Int)) (toL s.2) (z2 (Int.toNat (↑s.1 : Int)) (0 : Nat))
                                                              (z2 (Int.toNat (↑s.1 : Int)) (1 : Nat)) (z2 (Int.toNat (↑s.1 : Int)) (2 : Nat))).1
                                                          (13 : Nat),
                                                        cf
                                                          (objR ((1 : Int) + pickZ a0 (6 : Int)) (toL s.2) (z2 (Int.toNat (↑s.1 : Int)) (0 : Nat))
                                                              (z2 (Int.toNat (↑s.1 : Int)) (1 : Nat)) (z2 (Int.toNat (↑s.1 : Int)) (2 : Nat))).1
                                                          (14 : Nat),
                                                        cf
                                                          (objR ((1 : Int) + pickZ a0 (6 : Int)) (toL s.2) (z2 (Int.toNat (↑s.1 : Int)) (0 : Nat))
                                                              (z2 (Int.toNat (↑s.1 : Int)) (1 : Nat)) (z2 (Int.toNat (↑s.1 : Int)) (2 : Nat))).1
                                                          (15 : Nat),
                                                        cf
                                                          (objR ((1 : Int) + pickZ a0 (6 : Int)) (toL s.2) (z2 (Int.toNat (↑s.1 : Int)) (0 : Nat))
                                                              (z2 (Int.toNat (↑s.1 : Int)) (1 : Nat)) (z2 (Int.toNat (↑s.1 : Int)) (2 : Nat))).1
                                                          (16 : Nat)]) then
                                                true
                                              else false then
                                            false
                                          else true then
                                        SV.o (SA.c (SC.v (Value.bool false))) = SV.o (SA.c (SC.v (Value.bool true)))
                                      else
                                        lateDrawP (14 : Nat) (regOps Try.f9 (14 : Nat)) ∧
                                          (SV.o
                                                  (SA.a
                                                    [Seg.ints IntKind.u64 (17 : Nat)
                                                        (cf
                                                          (objR ((1 : Int) + pickZ a0 (6 : Int)) (toL s.2) (z2 (Int.toNat (↑s.1 : Int)) (0 : Nat))
                                                              (z2 (Int.toNat (↑s.1 : Int)) (1 : Nat)) (z2 (Int.toNat (↑s.1 : Int)) (2 : Nat))).1)]) =
                                                SV.o
                                                  (SA.a
                                                    [Seg.ints IntKind.u64 (17 : Nat)
                                                        (cf
                                                          (objR ((1 : Int) + pickZ a0 (6 : Int)) (toL s.2) (z2 (Int.toNat (↑s.1 : Int)) (0 : Nat))
                                                              (z2 (Int.toNat (↑s.1 : Int)) (1 : Nat)) (z2 (Int.toNat (↑s.1 : Int)) (2 : Nat))).1)]) ∧
                                              True) ∧
                                            True ∧
                                              ∃ (s' : AgainS ((1 : Int) + pickZ a0 (6 : Int)) (min len2 (20 : Nat))),
                                                ((some (SV.o (SA.c (SC.v (Value.int IntKind.i64 ((1 : Int) + pickZ a0 (6 : Int)))))) =
                                                        some (SV.o (SA.c (SC.v (Value.int IntKind.i64 ((1 : Int) + pickZ a0 (6 : Int)))))) ∧
                                                      some (SV.o (SA.c (SC.p (0 : Nat) (0 : Nat)))) = some (SV.o (SA.c (SC.p (0 : Nat) (0 : Nat)))) ∧
                                                        some (SV.o (SA.c (SC.p (1 : Nat) (0 : Nat)))) = some (SV.o (SA.c (SC.p (1 : Nat) (0 : Nat)))) ∧
                                                          some (SV.o (SA.c (SC.r a2 (min len2 (20 : Nat)) cap2 len2 (3 : Nat) (fun (x : Nat) => IntKind.i64) z2))) =
                                                              some
                                                                (SV.o (SA.c (SC.r a2 (min len2 (20 : Nat)) cap2 len2 (3 : Nat) (fun (x : Nat) => IntKind.i64) z2))) ∧
                                                            some (SV.o (SA.c (SC.v (Value.int IntKind.i64 (↑(min len2 (20 : Nat)) : Int))))) =
                                                                some (SV.o (SA.c (SC.v (Value.int IntKind.i64 (↑(min len2 (20 : Nat)) : Int))))) ∧
                                                              some
                                                                    (SV.o
                                                                      (SA.c (SC.v (Value.int IntKind.i64 (IntKind.wrap IntKind.i64 ((↑s.1 : Int) + (1 : Int))))))) =
                                                                  some (SV.o (SA.c (SC.v (Value.int IntKind.i64 (↑s'.1 : Int))))) ∧
                                                                True) ∧
                                                    [SB.cells
                                                          [Seg.ints IntKind.u64 (17 : Nat)
                                                              (cf
                                                                (objR ((1 : Int) + pickZ a0 (6 : Int)) (toL s.2) (z2 (Int.toNat (↑s.1 : Int)) (0 : Nat))
                                                                    (z2 (Int.toNat (↑s.1 : Int)) (1 : Nat)) (z2 (Int.toNat (↑s.1 : Int)) (2 : Nat))).1)]
                                                          (44 : TypeId),
                                                        SB.cells
                                                          [Seg.ints IntKind.u64 (17 : Nat)
                                                              (cf
                                                                (objR ((1 : Int) + pickZ a0 (6 : Int)) (toL s.2) (z2 (Int.toNat (↑s.1 : Int)) (0 : Nat))
                                                                    (z2 (Int.toNat (↑s.1 : Int)) (1 : Nat)) (z2 (Int.toNat (↑s.1 : Int)) (2 : Nat))).1)]
                                                          (44 : TypeId)] =
                                                      [SB.cells [Seg.ints IntKind.u64 (17 : Nat) s'.2] (44 : TypeId),
                                                        SB.cells [Seg.ints IntKind.u64 (17 : Nat) s'.2] (44 : TypeId)]) ∧
                                                  Nat.sub (min len2 (20 : Nat)) s'.1 < Nat.sub (min len2 (20 : Nat)) s.1
                                else drawP (11 : Nat) (regOps Try.f9 (11 : Nat)) ∧ SV.o (SA.c (SC.v (Value.bool false))) = SV.o (SA.c (SC.v (Value.bool true)))
                            else
                              ((17 : Nat) = (17 : Nat) ∧ ObjOK ((1 : Int) + pickZ a0 (6 : Int)) (toL s.2)) ∧
                                bif opOk (z2 (Int.toNat (↑s.1 : Int)) (0 : Nat)) (z2 (Int.toNat (↑s.1 : Int)) (1 : Nat)) (z2 (Int.toNat (↑s.1 : Int)) (2 : Nat)) then
                                  drawP (11 : Nat) (regOps Try.f9 (11 : Nat)) ∧ SV.o (SA.c (SC.v (Value.bool false))) = SV.o (SA.c (SC.v (Value.bool true)))
                                else
                                  drawP (11 : Nat) (regOps Try.f9 (11 : Nat)) ∧
                                    ∃ (s' : AgainS ((1 : Int) + pickZ a0 (6 : Int)) (min len2 (20 : Nat))),
                                      ((some (SV.o (SA.c (SC.v (Value.int IntKind.i64 ((1 : Int) + pickZ a0 (6 : Int)))))) =
                                              some (SV.o (SA.c (SC.v (Value.int IntKind.i64 ((1 : Int) + pickZ a0 (6 : Int)))))) ∧
                                            some (SV.o (SA.c (SC.p (0 : Nat) (0 : Nat)))) = some (SV.o (SA.c (SC.p (0 : Nat) (0 : Nat)))) ∧
                                              some (SV.o (SA.c (SC.p (1 : Nat) (0 : Nat)))) = some (SV.o (SA.c (SC.p (1 : Nat) (0 : Nat)))) ∧
                                                some (SV.o (SA.c (SC.r a2 (min len2 (20 : Nat)) cap2 len2 (3 : Nat) (fun (x : Nat) => IntKind.i64) z2))) =
                                                    some (SV.o (SA.c (SC.r a2 (min len2 (20 : Nat)) cap2 len2 (3 : Nat) (fun (x : Nat) => IntKind.i64) z2))) ∧
                                                  some (SV.o (SA.c (SC.v (Value.int IntKind.i64 (↑(min len2 (20 : Nat)) : Int))))) =
                                                      some (SV.o (SA.c (SC.v (Value.int IntKind.i64 (↑(min len2 (20 : Nat)) : Int))))) ∧
                                                    some (SV.o (SA.c (SC.v (Value.int IntKind.i64 (IntKind.wrap IntKind.i64 ((↑s.1 : Int) + (1 : Int))))))) =
                                                        some (SV.o (SA.c (SC.v (Value.int IntKind.i64 (↑s'.1 : Int))))) ∧
                                                      True) ∧
                                          [SB.cells [Seg.ints IntKind.u64 (17 : Nat) s.2] (44 : TypeId),
                                              SB.cells [Seg.ints IntKind.u64 (17 : Nat) s.2] (44 : TypeId)] =
                                            [SB.cells [Seg.ints IntKind.u64 (17 : Nat) s'.2] (44 : TypeId),
                                              SB.cells [Seg.ints IntKind.u64 (17 : Nat) s'.2] (44 : TypeId)]) ∧
                                        Nat.sub (min len2 (20 : Nat)) s'.1 < Nat.sub (min len2 (20 : Nat)) s.1
                    else SV.o (SA.c (SC.v (Value.bool true))) = SV.o (SA.c (SC.v (Value.bool true)))) (by kernel_rfl) ?_
  have hcap := w2.1
  have h20 : (if (20:Int) < (len2 : Int) then (20:Int) else (len2 : Int)) = ((min len2 20 : Nat) : Int) := by split <;> omega
  have hok := madeTo_ok (1 + pickZ a0 6) z1 (by omega) (by omega) (min len1 30)
  rw [h20, Int.toNat_natCast]
  generalize hm : min len2 20 = m
  refine ⟨trivial, trivial, ⟨⟨by omega, by omega⟩, rfl, rfl, rfl⟩, ⟨by omega, by omega⟩, ⟨0, cf (madeTo (1 + pickZ a0 6) z1 (min len1 30)), Nat.zero_le _, by rw [toL_cf (objOK_len hok)]; exact hok⟩, ⟨⟨rfl, rfl, rfl, rfl, rfl, rfl, trivial⟩, rfl⟩, ?_⟩
  intro s
  refine by_cond (fun hlt => ?_) (fun _ => rfl)
  rw [decide_eq_true_eq] at hlt
  have hi : (s.i : Int).toNat = s.i := by omega
  have hw : IntKind.wrap .i64 ((s.i : Int) + 1) = ((s.i + 1 : Nat) : Int) := by simp only [IntKind.wrap, IntKind.bits, IntKind.signed]; simp; omega
  have hf := s.hf
  rw [hw, hi]
  refine ⟨⟨w2, by omega, by omega, by omega⟩, ⟨w2, by omega⟩, ⟨rfl, hf⟩, ?_⟩
  cases hop : opOk (z2 s.i 0) (z2 s.i 1) (z2 s.i 2) with
  | true =>
    refine by_cond (fun _ => ?_) (fun h => by cases h)
    refine ⟨⟨rfl, hf⟩, ?_⟩
    refine by_cond (fun _ => ?_) (fun h => by cases h)
    refine ⟨draw_of (by kernel_rfl), ?_⟩
    have hok' := objR_ok hf _ _ _ hop
    refine by_cond (fun h => ?_) (fun _ => ?_)
    · simp only [beq_self_eq_true, cond_true, Bool.false_eq_true] at h
    refine by_cond (fun h => ?_) (fun _ => ?_)
    · simp only [decide_true, cond_true, Bool.false_eq_true] at h
    exact ⟨late_of (by kernel_rfl), ⟨rfl, trivial⟩, trivial, ⟨s.i + 1, cf (objR (1 + pickZ a0 6) (toL s.f) (z2 s.i 0) (z2 s.i 1) (z2 s.i 2)).1, by omega, by rw [toL_cf (objOK_len hok')]; exact hok'⟩, ⟨⟨rfl, rfl, rfl, rfl, rfl, rfl, trivial⟩, rfl⟩, by show m - (s.i + 1) < m - s.i; omega⟩
  | false =>
    refine by_cond (fun h => by cases h) (fun _ => ?_)
    refine ⟨⟨rfl, hf⟩, ?_⟩
    refine by_cond (fun h => by cases h) (fun _ => ?_)
    exact ⟨draw_of (by kernel_rfl), ⟨s.i + 1, s.f, by omega, hf⟩, ⟨⟨rfl, rfl, rfl, rfl, rfl, rfl, trivial⟩, rfl⟩, by show m - (s.i + 1) < m - s.i; omega⟩
end Go.Proofs.Ytpedkcpkdacnlaa
