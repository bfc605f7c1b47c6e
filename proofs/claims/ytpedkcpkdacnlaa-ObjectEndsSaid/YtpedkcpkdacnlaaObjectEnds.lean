/- ObjectEnds: the walk of the law, by the symbolic machine. -/
import Derived.Test.YtpedkcpkdacnlaaObj5
namespace Go.Proofs.Ytpedkcpkdacnlaa
open Go.RowKit
set_option linter.unusedVariables false
set_option maxRecDepth 100000
set_option maxHeartbeats 4000000
def tabEnds : Tab := [(3, .one (.int .i64 0) (.int .i64)),
  (4, .one (.bool false) .bool),
  (26, .str [.one (.v (.int .i64 0)), .one (.v (.int .i64 0))] [(0, 1, false), (1, 1, false)]),
  (30, .str [.one (.v (.int .i64 0)), .one (.v (.int .i64 0)), .one (.v (.int .i64 0))] [(0, 1, false), (1, 1, false), (2, 1, false)]),
  (44, .arr [.ints .u64 17 (fun _ => 0)] 17 1 false),
  (47, .one (.nilIface) .iface),
  (42, .one (.int .u64 0) (.int .u64))]
theorem tabEnds_ok : TabOk Try.prog tabEnds := .cons (⟨by kernel_rfl, by kernel_rfl, by kernel_rfl, by kernel_rfl, by kernel_rfl⟩) (.cons (⟨by kernel_rfl, by kernel_rfl, by kernel_rfl, by kernel_rfl, by kernel_rfl⟩) (.cons (⟨by kernel_rfl, by kernel_rfl, by kernel_rfl, by kernel_rfl⟩) (.cons (⟨by kernel_rfl, by kernel_rfl, by kernel_rfl, by kernel_rfl⟩) (.cons (⟨by kernel_rfl, by kernel_rfl, by kernel_rfl, by kernel_rfl⟩) (.cons (⟨by kernel_rfl, by kernel_rfl, by kernel_rfl, by kernel_rfl, by kernel_rfl⟩) (.cons (⟨by kernel_rfl, by kernel_rfl, by kernel_rfl, by kernel_rfl, by kernel_rfl⟩) (TabOk.nil _)))))))
theorem tabEnds_tys : TysOk Try.prog tabEnds := TysOk.of (by kernel_rfl) (by kernel_rfl)
theorem walk_ObjectEnds (a0 : Int) (a1 : Option Addr) (len1 cap1 : Nat) (z1 : Nat → Nat → Int) (a2 : Int) (W : World) (w0 : (Lit.int .i64 a0).wf = true) (w1 : Rws 3 (fun _ => .i64) W a1 len1 cap1 z1) (w2 : (Lit.int .i64 a2).wf = true) :
    Calls Try.prog 10 #[.int .i64 a0, .slice a1 len1 cap1, .int .i64 a2] W fun e w' => e = .returned (.bool true) ∧ Below W.heap.size W w' := by
  have hp0 := pickZ_nonneg a0 4 (by decide)
  have hp1 := pickZ_lt a0 4 (by decide)
  have hv0 := pickZ_nonneg a2 4294967296 (by decide)
  have hv1 := pickZ_lt a2 4294967296 (by decide)
  have hk : IntKind.wrap .i64 (1 + pickZ a0 4) = 1 + pickZ a0 4 := by simp only [IntKind.wrap, IntKind.bits, IntKind.signed]; simp; omega
  refine once_of_run (Γ := [(33, conThings), (24, conPick), (35, conMade z1 a1 len1 cap1), (36, conDo), (37, conSize)]) Try.func10 rfl tabEnds_ok tabEnds_tys
    (.cons things_con.at (.cons pick_con.at (.cons (made_con w1) (.cons do_con.at (.cons size_con.at (.nil _ _ _))))))
    [.c (.v (.int .i64 a0)), .c (.v (.slice a1 len1 cap1)), .c (.v (.int .i64 a2))] (by show (3 : Nat) ≤ 92; decide) (.bool true) 200 ?_ rfl
  refine by_eq (q :=
      True ∧
        ((0 : Int) < (4 : Int) ∧ (4 : Int) ≤ (9223372036854775807 : Int)) ∧
          (((1 : Int) ≤ IntKind.wrap IntKind.i64 ((1 : Int) + pickZ a0 (4 : Int)) ∧ IntKind.wrap IntKind.i64 ((1 : Int) + pickZ a0 (4 : Int)) ≤ (6 : Int)) ∧
              a1 = a1 ∧ len1 = len1 ∧ cap1 = cap1) ∧
            ((17 : Nat) = (17 : Nat) ∧
                ObjOK (IntKind.wrap IntKind.i64 ((1 : Int) + pickZ a0 (4 : Int)))
                  (toL (cf (madeTo (IntKind.wrap IntKind.i64 ((1 : Int) + pickZ a0 (4 : Int))) z1 (min len1 (30 : Nat)))))) ∧
              ((17 : Nat) = (17 : Nat) ∧
                  ObjOK (IntKind.wrap IntKind.i64 ((1 : Int) + pickZ a0 (4 : Int)))
                      (toL (cf (madeTo (IntKind.wrap IntKind.i64 ((1 : Int) + pickZ a0 (4 : Int))) z1 (min len1 (30 : Nat))))) ∧
                    true = true) ∧
                drawP (7 : Nat) (regOps Try.f10 (7 : Nat)) ∧
                  ((0 : Int) < (4294967296 : Int) ∧ (4294967296 : Int) ≤ (9223372036854775807 : Int)) ∧
                    ((17 : Nat) = (17 : Nat) ∧
                        ObjOK (IntKind.wrap IntKind.i64 ((1 : Int) + pickZ a0 (4 : Int)))
                            (toL (cf (madeTo (IntKind.wrap IntKind.i64 ((1 : Int) + pickZ a0 (4 : Int))) z1 (min len1 (30 : Nat))))) ∧
                          opOk (1 : Int) (0 : Int) (pickZ a2 (4294967296 : Int)) = true) ∧
                      bif
                          ((Prod.snd
                                  (objR (IntKind.wrap IntKind.i64 ((1 : Int) + pickZ a0 (4 : Int)))
                                    (toL (cf (madeTo (IntKind.wrap IntKind.i64 ((1 : Int) + pickZ a0 (4 : Int))) z1 (min len1 (30 : Nat))))) (2 : Int) (0 : Int)
                                    (0 : Int))).1 ==
                              (2 : Int)) ==
                            ((Prod.snd
                                  (objR (IntKind.wrap IntKind.i64 ((1 : Int) + pickZ a0 (4 : Int)))
                                    (toL (cf (madeTo (IntKind.wrap IntKind.i64 ((1 : Int) + pickZ a0 (4 : Int))) z1 (min len1 (30 : Nat))))) (6 : Int) (0 : Int)
                                    (0 : Int))).2 ==
                              (0 : Int)) then
                        bif
                            ((Prod.snd
                                    (objR (IntKind.wrap IntKind.i64 ((1 : Int) + pickZ a0 (4 : Int)))
                                      (toL (cf (madeTo (IntKind.wrap IntKind.i64 ((1 : Int) + pickZ a0 (4 : Int))) z1 (min len1 (30 : Nat))))) (1 : Int) (0 : Int)
                                      (pickZ a2 (4294967296 : Int)))).1 ==
                                (3 : Int)) ==
                              ((Prod.snd
                                    (objR (IntKind.wrap IntKind.i64 ((1 : Int) + pickZ a0 (4 : Int)))
                                      (toL (cf (madeTo (IntKind.wrap IntKind.i64 ((1 : Int) + pickZ a0 (4 : Int))) z1 (min len1 (30 : Nat))))) (6 : Int) (0 : Int)
                                      (0 : Int))).2 ==
                                (6 : Int)) then
                          bif
                              (Prod.snd
                                    (objR (IntKind.wrap IntKind.i64 ((1 : Int) + pickZ a0 (4 : Int)))
                                      (toL (cf (madeTo (IntKind.wrap IntKind.i64 ((1 : Int) + pickZ a0 (4 : Int))) z1 (min len1 (30 : Nat))))) (6 : Int) (0 : Int)
                                      (0 : Int))).2 ==
                                (0 : Int) then
                            bif
                                (Prod.snd
                                      (objR (IntKind.wrap IntKind.i64 ((1 : Int) + pickZ a0 (4 : Int)))
                                        (toL (cf (madeTo (IntKind.wrap IntKind.i64 ((1 : Int) + pickZ a0 (4 : Int))) z1 (min len1 (30 : Nat))))) (6 : Int) (0 : Int)
                                        (0 : Int))).2 ==
                                  (6 : Int) then
                              SV.o (SA.c (SC.v (Value.bool true))) = SV.o (SA.c (SC.v (Value.bool true)))
                            else
                              SV.o
                                  (SA.c
                                    (SC.v
                                      (Value.bool
                                        ((Prod.snd
                                              (objR (IntKind.wrap IntKind.i64 ((1 : Int) + pickZ a0 (4 : Int)))
                                                (toL (cf (madeTo (IntKind.wrap IntKind.i64 ((1 : Int) + pickZ a0 (4 : Int))) z1 (min len1 (30 : Nat))))) (1 : Int)
                                                (0 : Int) (pickZ a2 (4294967296 : Int)))).1 ==
                                          (1 : Int))))) =
                                SV.o (SA.c (SC.v (Value.bool true)))
                          else
                            bif
                                (Prod.snd
                                      (objR (IntKind.wrap IntKind.i64 ((1 : Int) + pickZ a0 (4 : Int)))
                                        (toL (cf (madeTo (IntKind.wrap IntKind.i64 ((1 : Int) + pickZ a0 (4 : Int))) z1 (min len1 (30 : Nat))))) (2 : Int) (0 : Int)
                                        (0 : Int))).1 ==
                                  (1 : Int) then
                              bif
                                  (Prod.snd
                                        (objR (IntKind.wrap IntKind.i64 ((1 : Int) + pickZ a0 (4 : Int)))
                                          (toL (cf (madeTo (IntKind.wrap IntKind.i64 ((1 : Int) + pickZ a0 (4 : Int))) z1 (min len1 (30 : Nat))))) (6 : Int) (0 : Int)
                                          (0 : Int))).2 ==
                                    (6 : Int) then
                                SV.o (SA.c (SC.v (Value.bool true))) = SV.o (SA.c (SC.v (Value.bool true)))
                              else
                                SV.o
                                    (SA.c
                                      (SC.v
                                        (Value.bool
                                          ((Prod.snd
                                                (objR (IntKind.wrap IntKind.i64 ((1 : Int) + pickZ a0 (4 : Int)))
                                                  (toL (cf (madeTo (IntKind.wrap IntKind.i64 ((1 : Int) + pickZ a0 (4 : Int))) z1 (min len1 (30 : Nat))))) (1 : Int)
                                                  (0 : Int) (pickZ a2 (4294967296 : Int)))).1 ==
                                            (1 : Int))))) =
                                  SV.o (SA.c (SC.v (Value.bool true)))
                            else SV.o (SA.c (SC.v (Value.bool false))) = SV.o (SA.c (SC.v (Value.bool true)))
                        else SV.o (SA.c (SC.v (Value.bool false))) = SV.o (SA.c (SC.v (Value.bool true)))
                      else SV.o (SA.c (SC.v (Value.bool false))) = SV.o (SA.c (SC.v (Value.bool true)))) (by kernel_rfl) ?_
  rw [hk]
  have hok := madeTo_ok (1 + pickZ a0 4) z1 (by omega) (by omega) (min len1 30)
  rw [toL_cf (objOK_len hok)]
  generalize madeTo (1 + pickZ a0 4) z1 (min len1 30) = c at *
  have hop : opOk 1 0 (pickZ a2 4294967296) = true := decide_eq_true (by omega)
  obtain ⟨e1, e2, e3, e4⟩ := obj_ends hok (by omega) (pickZ a2 4294967296) hv0 (by omega)
  generalize (objR (1 + pickZ a0 4) c 6 0 0).2.2 = n at *
  generalize (objR (1 + pickZ a0 4) c 2 0 0).2.1 = s at *
  generalize (objR (1 + pickZ a0 4) c 1 0 (pickZ a2 4294967296)).2.1 = r at *
  refine ⟨trivial, by omega, ⟨by omega, rfl, rfl, rfl⟩, ⟨rfl, hok⟩, ⟨rfl, hok, rfl⟩, draw_of (by kernel_rfl), by omega, ⟨rfl, hok, hop⟩, ?_⟩
  clear hk hop hok w0 w1 w2
  have b1 : ((s == 2) == (n == 0)) = true := by rw [beq_iff_eq, Bool.eq_iff_iff]; simp only [beq_iff_eq]; exact e1
  have b2 : ((r == 3) == (n == 6)) = true := by rw [beq_iff_eq, Bool.eq_iff_iff]; simp only [beq_iff_eq]; exact e3
  rw [b1, b2]
  simp only [cond_true]
  repeat' (refine by_cond (fun _ => ?_) (fun _ => ?_))
  all_goals simp only [beq_iff_eq, beq_eq_false_iff_ne, ne_eq] at *
  all_goals first | rfl | (exfalso; omega) | (refine svB ?_; rw [beq_iff_eq]; omega)
end Go.Proofs.Ytpedkcpkdacnlaa
