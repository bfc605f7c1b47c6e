/- ObjectWrong: the walk of the law, by the symbolic machine. -/
import Derived.Test.YtpedkcpkdacnlaaObj5
namespace Go.Proofs.Ytpedkcpkdacnlaa
open Go.RowKit
set_option linter.unusedVariables false
set_option maxRecDepth 100000
set_option maxHeartbeats 4000000
def tabWrong : Tab := [(3, .one (.int .i64 0) (.int .i64)),
  (4, .one (.bool false) .bool),
  (26, .str [.one (.v (.int .i64 0)), .one (.v (.int .i64 0))] [(0, 1, false), (1, 1, false)]),
  (30, .str [.one (.v (.int .i64 0)), .one (.v (.int .i64 0)), .one (.v (.int .i64 0))] [(0, 1, false), (1, 1, false), (2, 1, false)]),
  (44, .arr [.ints .u64 17 (fun _ => 0)] 17 1 false),
  (47, .one (.nilIface) .iface),
  (42, .one (.int .u64 0) (.int .u64))]
theorem tabWrong_ok : TabOk Try.prog tabWrong := .cons (⟨by kernel_rfl, by kernel_rfl, by kernel_rfl, by kernel_rfl, by kernel_rfl⟩) (.cons (⟨by kernel_rfl, by kernel_rfl, by kernel_rfl, by kernel_rfl, by kernel_rfl⟩) (.cons (⟨by kernel_rfl, by kernel_rfl, by kernel_rfl, by kernel_rfl⟩) (.cons (⟨by kernel_rfl, by kernel_rfl, by kernel_rfl, by kernel_rfl⟩) (.cons (⟨by kernel_rfl, by kernel_rfl, by kernel_rfl, by kernel_rfl⟩) (.cons (⟨by kernel_rfl, by kernel_rfl, by kernel_rfl, by kernel_rfl, by kernel_rfl⟩) (.cons (⟨by kernel_rfl, by kernel_rfl, by kernel_rfl, by kernel_rfl, by kernel_rfl⟩) (TabOk.nil _)))))))
theorem tabWrong_tys : TysOk Try.prog tabWrong := TysOk.of (by kernel_rfl) (by kernel_rfl)
theorem walk_ObjectWrong (a0 : Int) (a1 : Option Addr) (len1 cap1 : Nat) (z1 : Nat → Nat → Int) (a2_0 a2_1 a2_2 : Int) (W : World) (w0 : (Lit.int .i64 a0).wf = true) (w1 : Rws 3 (fun _ => .i64) W a1 len1 cap1 z1) :
    Calls Try.prog 13 #[.int .i64 a0, .slice a1 len1 cap1, .agg #[.int .i64 a2_0, .int .i64 a2_1, .int .i64 a2_2]] W fun e w' => e = .returned (.bool true) ∧ Below W.heap.size W w' := by
  have hp0 := pickZ_nonneg a0 6 (by decide)
  have hp1 := pickZ_lt a0 6 (by decide)
  cases hop : opOk a2_0 a2_1 a2_2 with
  | false =>
    refine once_of_run (Γ := [(33, conThings), (29, conOpRight), (34, conKindOf), (35, conMade z1 a1 len1 cap1), (36, conDoBad)]) Try.func13 rfl tabWrong_ok tabWrong_tys
      (.cons things_con.at (.cons opRight_con.at (.cons kindOf_con.at (.cons (made_con w1) (.cons doBad_con.at (.nil _ _ _))))))
      [.c (.v (.int .i64 a0)), .c (.v (.slice a1 len1 cap1)), .a [.one (.v (.int .i64 a2_0)), .one (.v (.int .i64 a2_1)), .one (.v (.int .i64 a2_2))]] (Nat.le_of_ble_eq_true rfl) (.bool true) 200 ?_ rfl
    refine by_eq (q :=
        True ∧
          True ∧
            bif bif opOk a2_0 a2_1 a2_2 then false else true then SV.o (SA.c (SC.v (Value.bool true))) = SV.o (SA.c (SC.v (Value.bool true)))
            else
              True ∧
                drawP (6 : Nat) (regOps Try.f13 (6 : Nat)) ∧
                  (((1 : Int) ≤ (1 : Int) + pickZ a0 (6 : Int) ∧ (1 : Int) + pickZ a0 (6 : Int) ≤ (6 : Int)) ∧ a1 = a1 ∧ len1 = len1 ∧ cap1 = cap1) ∧
                    ((17 : Nat) = (17 : Nat) ∧ opOk a2_0 a2_1 a2_2 = false) ∧
                      bif a2_0 == (3 : Int) then
                        bif (1 : Int) + pickZ a0 (6 : Int) != (3 : Int) then SV.o (SA.c (SC.v (Value.bool false))) = SV.o (SA.c (SC.v (Value.bool true)))
                        else
                          bif (1 : Int) + pickZ a0 (6 : Int) == (5 : Int) then
                            bif a2_0 != (6 : Int) then SV.o (SA.c (SC.v (Value.bool false))) = SV.o (SA.c (SC.v (Value.bool true)))
                            else SV.o (SA.c (SC.v (Value.bool false))) = SV.o (SA.c (SC.v (Value.bool true)))
                          else SV.o (SA.c (SC.v (Value.bool false))) = SV.o (SA.c (SC.v (Value.bool true)))
                      else
                        bif a2_0 == (4 : Int) then
                          bif (1 : Int) + pickZ a0 (6 : Int) != (3 : Int) then SV.o (SA.c (SC.v (Value.bool false))) = SV.o (SA.c (SC.v (Value.bool true)))
                          else
                            bif (1 : Int) + pickZ a0 (6 : Int) == (5 : Int) then
                              bif a2_0 != (6 : Int) then
                                bif a2_0 == (4 : Int) then SV.o (SA.c (SC.v (Value.bool false))) = SV.o (SA.c (SC.v (Value.bool true)))
                                else SV.o (SA.c (SC.v (Value.bool false))) = SV.o (SA.c (SC.v (Value.bool true)))
                              else SV.o (SA.c (SC.v (Value.bool false))) = SV.o (SA.c (SC.v (Value.bool true)))
                            else SV.o (SA.c (SC.v (Value.bool false))) = SV.o (SA.c (SC.v (Value.bool true)))
                        else
                          bif (1 : Int) + pickZ a0 (6 : Int) == (5 : Int) then
                            bif a2_0 != (6 : Int) then
                              bif a2_0 == (4 : Int) then SV.o (SA.c (SC.v (Value.bool false))) = SV.o (SA.c (SC.v (Value.bool true)))
                              else SV.o (SA.c (SC.v (Value.bool false))) = SV.o (SA.c (SC.v (Value.bool true)))
                            else SV.o (SA.c (SC.v (Value.bool false))) = SV.o (SA.c (SC.v (Value.bool true)))
                          else SV.o (SA.c (SC.v (Value.bool false))) = SV.o (SA.c (SC.v (Value.bool true)))) (by kernel_rfl) ?_
    simp only [hop, cond_true, cond_false]
    exact ⟨trivial, trivial, trivial⟩
  | true =>
    refine once_of_run (Γ := [(33, conThings), (29, conOpRight), (34, conKindOf), (35, conMade z1 a1 len1 cap1), (36, conDo)]) Try.func13 rfl tabWrong_ok tabWrong_tys
      (.cons things_con.at (.cons opRight_con.at (.cons kindOf_con.at (.cons (made_con w1) (.cons do_con.at (.nil _ _ _))))))
      [.c (.v (.int .i64 a0)), .c (.v (.slice a1 len1 cap1)), .a [.one (.v (.int .i64 a2_0)), .one (.v (.int .i64 a2_1)), .one (.v (.int .i64 a2_2))]] (Nat.le_of_ble_eq_true rfl) (.bool true) 200 ?_ rfl
    refine by_eq (q :=
        True ∧
          True ∧
            bif bif opOk a2_0 a2_1 a2_2 then false else true then SV.o (SA.c (SC.v (Value.bool true))) = SV.o (SA.c (SC.v (Value.bool true)))
            else
              True ∧
                drawP (6 : Nat) (regOps Try.f13 (6 : Nat)) ∧
                  (((1 : Int) ≤ (1 : Int) + pickZ a0 (6 : Int) ∧ (1 : Int) + pickZ a0 (6 : Int) ≤ (6 : Int)) ∧ a1 = a1 ∧ len1 = len1 ∧ cap1 = cap1) ∧
                    ((17 : Nat) = (17 : Nat) ∧
                        ObjOK ((1 : Int) + pickZ a0 (6 : Int)) (toL (cf (madeTo ((1 : Int) + pickZ a0 (6 : Int)) z1 (min len1 (30 : Nat))))) ∧
                          opOk a2_0 a2_1 a2_2 = true) ∧
                      bif a2_0 == (3 : Int) then
                        bif (1 : Int) + pickZ a0 (6 : Int) != (3 : Int) then
                          SV.o
                              (SA.c
                                (SC.v
                                  (Value.bool
                                    (((Prod.snd
                                            (objR ((1 : Int) + pickZ a0 (6 : Int)) (toL (cf (madeTo ((1 : Int) + pickZ a0 (6 : Int)) z1 (min len1 (30 : Nat))))) a2_0
                                              a2_1 a2_2)).1 ==
                                        (5 : Int)) ==
                                      true)))) =
                            SV.o (SA.c (SC.v (Value.bool true)))
                        else
                          bif (1 : Int) + pickZ a0 (6 : Int) == (5 : Int) then
                            bif a2_0 != (6 : Int) then
                              SV.o
                                  (SA.c
                                    (SC.v
                                      (Value.bool
                                        (((Prod.snd
                                                (objR ((1 : Int) + pickZ a0 (6 : Int)) (toL (cf (madeTo ((1 : Int) + pickZ a0 (6 : Int)) z1 (min len1 (30 : Nat)))))
                                                  a2_0 a2_1 a2_2)).1 ==
                                            (5 : Int)) ==
                                          true)))) =
                                SV.o (SA.c (SC.v (Value.bool true)))
                            else
                              SV.o
                                  (SA.c
                                    (SC.v
                                      (Value.bool
                                        (((Prod.snd
                                                (objR ((1 : Int) + pickZ a0 (6 : Int)) (toL (cf (madeTo ((1 : Int) + pickZ a0 (6 : Int)) z1 (min len1 (30 : Nat)))))
                                                  a2_0 a2_1 a2_2)).1 ==
                                            (5 : Int)) ==
                                          false)))) =
                                SV.o (SA.c (SC.v (Value.bool true)))
                          else
                            SV.o
                                (SA.c
                                  (SC.v
                                    (Value.bool
                                      (((Prod.snd
                                              (objR ((1 : Int) + pickZ a0 (6 : Int)) (toL (cf (madeTo ((1 : Int) + pickZ a0 (6 : Int)) z1 (min len1 (30 : Nat))))) a2_0
                                                a2_1 a2_2)).1 ==
                                          (5 : Int)) ==
                                        false)))) =
                              SV.o (SA.c (SC.v (Value.bool true)))
                      else
                        bif a2_0 == (4 : Int) then
                          bif (1 : Int) + pickZ a0 (6 : Int) != (3 : Int) then
                            SV.o
                                (SA.c
                                  (SC.v
                                    (Value.bool
                                      (((Prod.snd
                                              (objR ((1 : Int) + pickZ a0 (6 : Int)) (toL (cf (madeTo ((1 : Int) + pickZ a0 (6 : Int)) z1 (min len1 (30 : Nat))))) a2_0
                                                a2_1 a2_2)).1 ==
                                          (5 : Int)) ==
                                        true)))) =
                              SV.o (SA.c (SC.v (Value.bool true)))
                          else
                            bif (1 : Int) + pickZ a0 (6 : Int) == (5 : Int) then
                              bif a2_0 != (6 : Int) then
                                bif a2_0 == (4 : Int) then
                                  SV.o
                                      (SA.c
                                        (SC.v
                                          (Value.bool
                                            (((Prod.snd
                                                    (objR ((1 : Int) + pickZ a0 (6 : Int)) (toL (cf (madeTo ((1 : Int) + pickZ a0 (6 : Int)) z1 (min len1 (30 : Nat)))))
                                                      a2_0 a2_1 a2_2)).1 ==
                                                (5 : Int)) ==
                                              true)))) =
                                    SV.o (SA.c (SC.v (Value.bool true)))
                                else
                                  SV.o
                                      (SA.c
                                        (SC.v
                                          (Value.bool
                                            (((Prod.snd
                                                    (objR ((1 : Int) + pickZ a0 (6 : Int)) (toL (cf (madeTo ((1 : Int) + pickZ a0 (6 : Int)) z1 (min len1 (30 : Nat)))))
                                                      a2_0 a2_1 a2_2)).1 ==
                                                (5 : Int)) ==
                                              (a2_1 == (0 : Int)))))) =
                                    SV.o (SA.c (SC.v (Value.bool true)))
                              else
                                SV.o
                                    (SA.c
                                      (SC.v
                                        (Value.bool
                                          (((Prod.snd
                                                  (objR ((1 : Int) + pickZ a0 (6 : Int)) (toL (cf (madeTo ((1 : Int) + pickZ a0 (6 : Int)) z1 (min len1 (30 : Nat)))))
                                                    a2_0 a2_1 a2_2)).1 ==
                                              (5 : Int)) ==
                                            false)))) =
                                  SV.o (SA.c (SC.v (Value.bool true)))
                            else
                              SV.o
                                  (SA.c
                                    (SC.v
                                      (Value.bool
                                        (((Prod.snd
                                                (objR ((1 : Int) + pickZ a0 (6 : Int)) (toL (cf (madeTo ((1 : Int) + pickZ a0 (6 : Int)) z1 (min len1 (30 : Nat)))))
                                                  a2_0 a2_1 a2_2)).1 ==
                                            (5 : Int)) ==
                                          false)))) =
                                SV.o (SA.c (SC.v (Value.bool true)))
                        else
                          bif (1 : Int) + pickZ a0 (6 : Int) == (5 : Int) then
                            bif a2_0 != (6 : Int) then
                              bif a2_0 == (4 : Int) then
                                SV.o
                                    (SA.c
                                      (SC.v
                                        (Value.bool
                                          (((Prod.snd
                                                  (objR ((1 : Int) + pickZ a0 (6 : Int)) (toL (cf (madeTo ((1 : Int) + pickZ a0 (6 : Int)) z1 (min len1 (30 : Nat)))))
                                                    a2_0 a2_1 a2_2)).1 ==
                                              (5 : Int)) ==
                                            true)))) =
                                  SV.o (SA.c (SC.v (Value.bool true)))
                              else
                                SV.o
                                    (SA.c
                                      (SC.v
                                        (Value.bool
                                          (((Prod.snd
                                                  (objR ((1 : Int) + pickZ a0 (6 : Int)) (toL (cf (madeTo ((1 : Int) + pickZ a0 (6 : Int)) z1 (min len1 (30 : Nat)))))
                                                    a2_0 a2_1 a2_2)).1 ==
                                              (5 : Int)) ==
                                            (a2_1 == (0 : Int)))))) =
                                  SV.o (SA.c (SC.v (Value.bool true)))
                            else
                              SV.o
                                  (SA.c
                                    (SC.v
                                      (Value.bool
                                        (((Prod.snd
                                                (objR ((1 : Int) + pickZ a0 (6 : Int)) (toL (cf (madeTo ((1 : Int) + pickZ a0 (6 : Int)) z1 (min len1 (30 : Nat)))))
                                                  a2_0 a2_1 a2_2)).1 ==
                                            (5 : Int)) ==
                                          false)))) =
                                SV.o (SA.c (SC.v (Value.bool true)))
                          else
                            SV.o
                                (SA.c
                                  (SC.v
                                    (Value.bool
                                      (((Prod.snd
                                              (objR ((1 : Int) + pickZ a0 (6 : Int)) (toL (cf (madeTo ((1 : Int) + pickZ a0 (6 : Int)) z1 (min len1 (30 : Nat))))) a2_0
                                                a2_1 a2_2)).1 ==
                                          (5 : Int)) ==
                                        false)))) =
                              SV.o (SA.c (SC.v (Value.bool true)))) (by kernel_rfl) ?_
    have hok := madeTo_ok (1 + pickZ a0 6) z1 (by omega) (by omega) (min len1 30)
    simp only [hop, cond_true, cond_false]
    rw [toL_cf (objOK_len hok)]
    generalize madeTo (1 + pickZ a0 6) z1 (min len1 30) = c at *
    have hlaw := (obj_law hok a2_0 a2_1 a2_2 hop).2.2
    generalize (objR (1 + pickZ a0 6) c a2_0 a2_1 a2_2).2.1 = s at *
    refine ⟨trivial, trivial, trivial, draw_of (by kernel_rfl), ⟨by omega, trivial, trivial, trivial⟩, ⟨trivial, hok, trivial⟩, ?_⟩
    clear hok hop w0 w1
    repeat' (refine by_cond (fun _ => ?_) (fun _ => ?_))
    all_goals (refine svB ?_; rw [beq_iff_eq, Bool.eq_iff_iff])
    all_goals simp only [beq_iff_eq, beq_eq_false_iff_ne, ne_eq, bne_iff_ne, bne_eq_false_iff_eq, Bool.false_eq_true, iff_false, iff_true] at *
    all_goals omega
end Go.Proofs.Ytpedkcpkdacnlaa
