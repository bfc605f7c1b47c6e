/- ObjectSize: the walk of the law, by the symbolic machine. -/
import Derived.Test.YtpedkcpkdacnlaaObj5
namespace Go.Proofs.Ytpedkcpkdacnlaa
open Go.RowKit
set_option linter.unusedVariables false
set_option maxRecDepth 100000
set_option maxHeartbeats 4000000
def tabSize : Tab := [(3, .one (.int .i64 0) (.int .i64)),
  (4, .one (.bool false) .bool),
  (26, .str [.one (.v (.int .i64 0)), .one (.v (.int .i64 0))] [(0, 1, false), (1, 1, false)]),
  (30, .str [.one (.v (.int .i64 0)), .one (.v (.int .i64 0)), .one (.v (.int .i64 0))] [(0, 1, false), (1, 1, false), (2, 1, false)]),
  (44, .arr [.ints .u64 17 (fun _ => 0)] 17 1 false),
  (47, .one (.nilIface) .iface),
  (42, .one (.int .u64 0) (.int .u64))]
theorem tabSize_ok : TabOk Try.prog tabSize := .cons (⟨by kernel_rfl, by kernel_rfl, by kernel_rfl, by kernel_rfl, by kernel_rfl⟩) (.cons (⟨by kernel_rfl, by kernel_rfl, by kernel_rfl, by kernel_rfl, by kernel_rfl⟩) (.cons (⟨by kernel_rfl, by kernel_rfl, by kernel_rfl, by kernel_rfl⟩) (.cons (⟨by kernel_rfl, by kernel_rfl, by kernel_rfl, by kernel_rfl⟩) (.cons (⟨by kernel_rfl, by kernel_rfl, by kernel_rfl, by kernel_rfl⟩) (.cons (⟨by kernel_rfl, by kernel_rfl, by kernel_rfl, by kernel_rfl, by kernel_rfl⟩) (.cons (⟨by kernel_rfl, by kernel_rfl, by kernel_rfl, by kernel_rfl, by kernel_rfl⟩) (TabOk.nil _)))))))
theorem tabSize_tys : TysOk Try.prog tabSize := TysOk.of (by kernel_rfl)
theorem walk_ObjectSize (a0 : Int) (a1 : Option Addr) (len1 cap1 : Nat) (z1 : Nat → Nat → Int) (a2_0 a2_1 a2_2 : Int) (W : World) (w0 : (Lit.int .i64 a0).wf = true) (w1 : Rws 3 (fun _ => .i64) W a1 len1 cap1 z1) :
    Calls Try.prog 12 #[.int .i64 a0, .slice a1 len1 cap1, .agg #[.int .i64 a2_0, .int .i64 a2_1, .int .i64 a2_2]] W fun e w' => e = .returned (.bool true) ∧ Below W.heap.size W w' := by
  have hp0 := pickZ_nonneg a0 5 (by decide)
  have hp1 := pickZ_lt a0 5 (by decide)
  have hk : IntKind.wrap .i64 (1 + pickZ a0 5) = 1 + pickZ a0 5 := by simp only [IntKind.wrap, IntKind.bits, IntKind.signed]; simp; omega
  cases hop : opOk a2_0 a2_1 a2_2 with
  | false =>
    refine once_of_run (Γ := [(33, conThings), (24, conPick), (35, conMade z1 a1 len1 cap1), (36, conDoBad), (37, conSize), (29, conOpRight)]) Try.func12 rfl tabSize_ok tabSize_tys
      (.cons things_con.at (.cons pick_con.at (.cons (made_con w1) (.cons doBad_con.at (.cons size_con.at (.cons opRight_con.at (.nil _ _ _)))))))
      [.c (.v (.int .i64 a0)), .c (.v (.slice a1 len1 cap1)), .a [.one (.v (.int .i64 a2_0)), .one (.v (.int .i64 a2_1)), .one (.v (.int .i64 a2_2))]] (by show (3 : Nat) ≤ 117; decide) (.bool true) 200 ?_ rfl
    refine by_eq (q :=
        True ∧
          ((0 : Int) < (5 : Int) ∧ (5 : Int) ≤ (9223372036854775807 : Int)) ∧
            (((1 : Int) ≤ IntKind.wrap IntKind.i64 ((1 : Int) + pickZ a0 (5 : Int)) ∧ IntKind.wrap IntKind.i64 ((1 : Int) + pickZ a0 (5 : Int)) ≤ (6 : Int)) ∧
                a1 = a1 ∧ len1 = len1 ∧ cap1 = cap1) ∧
              ((17 : Nat) = (17 : Nat) ∧
                  ObjOK (IntKind.wrap IntKind.i64 ((1 : Int) + pickZ a0 (5 : Int)))
                    (toL (cf (madeTo (IntKind.wrap IntKind.i64 ((1 : Int) + pickZ a0 (5 : Int))) z1 (min len1 (30 : Nat)))))) ∧
                ((17 : Nat) = (17 : Nat) ∧ opOk a2_0 a2_1 a2_2 = false) ∧
                  True ∧ SV.o (SA.c (SC.v (Value.bool (bif opOk a2_0 a2_1 a2_2 then false else true)))) = SV.o (SA.c (SC.v (Value.bool true)))) (by kernel_rfl) ?_
    rw [hk]
    have hok := madeTo_ok (1 + pickZ a0 5) z1 (by omega) (by omega) (min len1 30)
    rw [toL_cf (objOK_len hok), hop]
    exact ⟨trivial, by omega, ⟨by omega, rfl, rfl, rfl⟩, ⟨rfl, hok⟩, ⟨rfl, rfl⟩, trivial, rfl⟩
  | true =>
    refine once_of_run (Γ := [(33, conThings), (24, conPick), (35, conMade z1 a1 len1 cap1), (36, conDo), (37, conSize), (29, conOpRight)]) Try.func12 rfl tabSize_ok tabSize_tys
      (.cons things_con.at (.cons pick_con.at (.cons (made_con w1) (.cons do_con.at (.cons size_con.at (.cons opRight_con.at (.nil _ _ _)))))))
      [.c (.v (.int .i64 a0)), .c (.v (.slice a1 len1 cap1)), .a [.one (.v (.int .i64 a2_0)), .one (.v (.int .i64 a2_1)), .one (.v (.int .i64 a2_2))]] (by show (3 : Nat) ≤ 117; decide) (.bool true) 200 ?_ rfl
    refine by_eq (q :=
        True ∧
          ((0 : Int) < (5 : Int) ∧ (5 : Int) ≤ (9223372036854775807 : Int)) ∧
            (((1 : Int) ≤ IntKind.wrap IntKind.i64 ((1 : Int) + pickZ a0 (5 : Int)) ∧ IntKind.wrap IntKind.i64 ((1 : Int) + pickZ a0 (5 : Int)) ≤ (6 : Int)) ∧
                a1 = a1 ∧ len1 = len1 ∧ cap1 = cap1) ∧
              ((17 : Nat) = (17 : Nat) ∧
                  ObjOK (IntKind.wrap IntKind.i64 ((1 : Int) + pickZ a0 (5 : Int)))
                    (toL (cf (madeTo (IntKind.wrap IntKind.i64 ((1 : Int) + pickZ a0 (5 : Int))) z1 (min len1 (30 : Nat)))))) ∧
                ((17 : Nat) = (17 : Nat) ∧
                    ObjOK (IntKind.wrap IntKind.i64 ((1 : Int) + pickZ a0 (5 : Int)))
                        (toL (cf (madeTo (IntKind.wrap IntKind.i64 ((1 : Int) + pickZ a0 (5 : Int))) z1 (min len1 (30 : Nat))))) ∧
                      opOk a2_0 a2_1 a2_2 = true) ∧
                  ((17 : Nat) = (17 : Nat) ∧
                      ObjOK (IntKind.wrap IntKind.i64 ((1 : Int) + pickZ a0 (5 : Int)))
                        (toL
                          (cf
                            (objR (IntKind.wrap IntKind.i64 ((1 : Int) + pickZ a0 (5 : Int)))
                                (toL (cf (madeTo (IntKind.wrap IntKind.i64 ((1 : Int) + pickZ a0 (5 : Int))) z1 (min len1 (30 : Nat))))) a2_0 a2_1 a2_2).1))) ∧
                    bif
                        decide
                          ((Prod.snd
                                (objR (IntKind.wrap IntKind.i64 ((1 : Int) + pickZ a0 (5 : Int)))
                                  (toL (cf (madeTo (IntKind.wrap IntKind.i64 ((1 : Int) + pickZ a0 (5 : Int))) z1 (min len1 (30 : Nat))))) (6 : Int) (0 : Int)
                                  (0 : Int))).2 <
                            (0 : Int)) then
                      SV.o (SA.c (SC.v (Value.bool false))) = SV.o (SA.c (SC.v (Value.bool true)))
                    else
                      bif
                          decide
                            ((Prod.snd
                                  (objR (IntKind.wrap IntKind.i64 ((1 : Int) + pickZ a0 (5 : Int)))
                                    (toL (cf (madeTo (IntKind.wrap IntKind.i64 ((1 : Int) + pickZ a0 (5 : Int))) z1 (min len1 (30 : Nat))))) (6 : Int) (0 : Int)
                                    (0 : Int))).2 >
                              (6 : Int)) then
                        SV.o (SA.c (SC.v (Value.bool false))) = SV.o (SA.c (SC.v (Value.bool true)))
                      else
                        bif
                            decide
                              ((Prod.snd
                                    (objR (IntKind.wrap IntKind.i64 ((1 : Int) + pickZ a0 (5 : Int)))
                                      (toL
                                        (cf
                                          (objR (IntKind.wrap IntKind.i64 ((1 : Int) + pickZ a0 (5 : Int)))
                                              (toL (cf (madeTo (IntKind.wrap IntKind.i64 ((1 : Int) + pickZ a0 (5 : Int))) z1 (min len1 (30 : Nat))))) a2_0 a2_1
                                              a2_2).1))
                                      (6 : Int) (0 : Int) (0 : Int))).2 <
                                (0 : Int)) then
                          SV.o (SA.c (SC.v (Value.bool false))) = SV.o (SA.c (SC.v (Value.bool true)))
                        else
                          bif
                              decide
                                ((Prod.snd
                                      (objR (IntKind.wrap IntKind.i64 ((1 : Int) + pickZ a0 (5 : Int)))
                                        (toL
                                          (cf
                                            (objR (IntKind.wrap IntKind.i64 ((1 : Int) + pickZ a0 (5 : Int)))
                                                (toL (cf (madeTo (IntKind.wrap IntKind.i64 ((1 : Int) + pickZ a0 (5 : Int))) z1 (min len1 (30 : Nat))))) a2_0 a2_1
                                                a2_2).1))
                                        (6 : Int) (0 : Int) (0 : Int))).2 >
                                  (6 : Int)) then
                            SV.o (SA.c (SC.v (Value.bool false))) = SV.o (SA.c (SC.v (Value.bool true)))
                          else
                            bif
                                (Prod.snd
                                      (objR (IntKind.wrap IntKind.i64 ((1 : Int) + pickZ a0 (5 : Int)))
                                        (toL (cf (madeTo (IntKind.wrap IntKind.i64 ((1 : Int) + pickZ a0 (5 : Int))) z1 (min len1 (30 : Nat))))) a2_0 a2_1 a2_2)).1 !=
                                  (1 : Int) then
                              SV.o
                                  (SA.c
                                    (SC.v
                                      (Value.bool
                                        ((Prod.snd
                                              (objR (IntKind.wrap IntKind.i64 ((1 : Int) + pickZ a0 (5 : Int)))
                                                (toL
                                                  (cf
                                                    (objR (IntKind.wrap IntKind.i64 ((1 : Int) + pickZ a0 (5 : Int)))
                                                        (toL (cf (madeTo (IntKind.wrap IntKind.i64 ((1 : Int) + pickZ a0 (5 : Int))) z1 (min len1 (30 : Nat))))) a2_0
                                                        a2_1 a2_2).1))
                                                (6 : Int) (0 : Int) (0 : Int))).2 ==
                                          (Prod.snd
                                              (objR (IntKind.wrap IntKind.i64 ((1 : Int) + pickZ a0 (5 : Int)))
                                                (toL (cf (madeTo (IntKind.wrap IntKind.i64 ((1 : Int) + pickZ a0 (5 : Int))) z1 (min len1 (30 : Nat))))) (6 : Int)
                                                (0 : Int) (0 : Int))).2)))) =
                                SV.o (SA.c (SC.v (Value.bool true)))
                            else
                              bif a2_0 == (5 : Int) then
                                SV.o
                                    (SA.c
                                      (SC.v
                                        (Value.bool
                                          ((Prod.snd
                                                (objR (IntKind.wrap IntKind.i64 ((1 : Int) + pickZ a0 (5 : Int)))
                                                  (toL
                                                    (cf
                                                      (objR (IntKind.wrap IntKind.i64 ((1 : Int) + pickZ a0 (5 : Int)))
                                                          (toL (cf (madeTo (IntKind.wrap IntKind.i64 ((1 : Int) + pickZ a0 (5 : Int))) z1 (min len1 (30 : Nat))))) a2_0
                                                          a2_1 a2_2).1))
                                                  (6 : Int) (0 : Int) (0 : Int))).2 ==
                                            (Prod.snd
                                                (objR (IntKind.wrap IntKind.i64 ((1 : Int) + pickZ a0 (5 : Int)))
                                                  (toL (cf (madeTo (IntKind.wrap IntKind.i64 ((1 : Int) + pickZ a0 (5 : Int))) z1 (min len1 (30 : Nat))))) (6 : Int)
                                                  (0 : Int) (0 : Int))).2)))) =
                                  SV.o (SA.c (SC.v (Value.bool true)))
                              else
                                bif a2_0 == (6 : Int) then
                                  SV.o
                                      (SA.c
                                        (SC.v
                                          (Value.bool
                                            ((Prod.snd
                                                  (objR (IntKind.wrap IntKind.i64 ((1 : Int) + pickZ a0 (5 : Int)))
                                                    (toL
                                                      (cf
                                                        (objR (IntKind.wrap IntKind.i64 ((1 : Int) + pickZ a0 (5 : Int)))
                                                            (toL (cf (madeTo (IntKind.wrap IntKind.i64 ((1 : Int) + pickZ a0 (5 : Int))) z1 (min len1 (30 : Nat)))))
                                                            a2_0 a2_1 a2_2).1))
                                                    (6 : Int) (0 : Int) (0 : Int))).2 ==
                                              (Prod.snd
                                                  (objR (IntKind.wrap IntKind.i64 ((1 : Int) + pickZ a0 (5 : Int)))
                                                    (toL (cf (madeTo (IntKind.wrap IntKind.i64 ((1 : Int) + pickZ a0 (5 : Int))) z1 (min len1 (30 : Nat))))) (6 : Int)
                                                    (0 : Int) (0 : Int))).2)))) =
                                    SV.o (SA.c (SC.v (Value.bool true)))
                                else
                                  bif a2_0 == (2 : Int) then
                                    SV.o
                                        (SA.c
                                          (SC.v
                                            (Value.bool
                                              ((Prod.snd
                                                    (objR (IntKind.wrap IntKind.i64 ((1 : Int) + pickZ a0 (5 : Int)))
                                                      (toL
                                                        (cf
                                                          (objR (IntKind.wrap IntKind.i64 ((1 : Int) + pickZ a0 (5 : Int)))
                                                              (toL (cf (madeTo (IntKind.wrap IntKind.i64 ((1 : Int) + pickZ a0 (5 : Int))) z1 (min len1 (30 : Nat)))))
                                                              a2_0 a2_1 a2_2).1))
                                                      (6 : Int) (0 : Int) (0 : Int))).2 ==
                                                IntKind.wrap IntKind.i64
                                                  ((Prod.snd
                                                        (objR (IntKind.wrap IntKind.i64 ((1 : Int) + pickZ a0 (5 : Int)))
                                                          (toL (cf (madeTo (IntKind.wrap IntKind.i64 ((1 : Int) + pickZ a0 (5 : Int))) z1 (min len1 (30 : Nat)))))
                                                          (6 : Int) (0 : Int) (0 : Int))).2 -
                                                    (1 : Int)))))) =
                                      SV.o (SA.c (SC.v (Value.bool true)))
                                  else
                                    bif a2_0 == (4 : Int) then
                                      SV.o
                                          (SA.c
                                            (SC.v
                                              (Value.bool
                                                ((Prod.snd
                                                      (objR (IntKind.wrap IntKind.i64 ((1 : Int) + pickZ a0 (5 : Int)))
                                                        (toL
                                                          (cf
                                                            (objR (IntKind.wrap IntKind.i64 ((1 : Int) + pickZ a0 (5 : Int)))
                                                                (toL (cf (madeTo (IntKind.wrap IntKind.i64 ((1 : Int) + pickZ a0 (5 : Int))) z1 (min len1 (30 : Nat)))))
                                                                a2_0 a2_1 a2_2).1))
                                                        (6 : Int) (0 : Int) (0 : Int))).2 ==
                                                  IntKind.wrap IntKind.i64
                                                    ((Prod.snd
                                                          (objR (IntKind.wrap IntKind.i64 ((1 : Int) + pickZ a0 (5 : Int)))
                                                            (toL (cf (madeTo (IntKind.wrap IntKind.i64 ((1 : Int) + pickZ a0 (5 : Int))) z1 (min len1 (30 : Nat)))))
                                                            (6 : Int) (0 : Int) (0 : Int))).2 -
                                                      (1 : Int)))))) =
                                        SV.o (SA.c (SC.v (Value.bool true)))
                                    else
                                      bif
                                          (Prod.snd
                                                (objR (IntKind.wrap IntKind.i64 ((1 : Int) + pickZ a0 (5 : Int)))
                                                  (toL
                                                    (cf
                                                      (objR (IntKind.wrap IntKind.i64 ((1 : Int) + pickZ a0 (5 : Int)))
                                                          (toL (cf (madeTo (IntKind.wrap IntKind.i64 ((1 : Int) + pickZ a0 (5 : Int))) z1 (min len1 (30 : Nat))))) a2_0
                                                          a2_1 a2_2).1))
                                                  (6 : Int) (0 : Int) (0 : Int))).2 ==
                                            IntKind.wrap IntKind.i64
                                              ((Prod.snd
                                                    (objR (IntKind.wrap IntKind.i64 ((1 : Int) + pickZ a0 (5 : Int)))
                                                      (toL (cf (madeTo (IntKind.wrap IntKind.i64 ((1 : Int) + pickZ a0 (5 : Int))) z1 (min len1 (30 : Nat))))) (6 : Int)
                                                      (0 : Int) (0 : Int))).2 +
                                                (1 : Int)) then
                                        SV.o (SA.c (SC.v (Value.bool true))) = SV.o (SA.c (SC.v (Value.bool true)))
                                      else
                                        bif IntKind.wrap IntKind.i64 ((1 : Int) + pickZ a0 (5 : Int)) == (5 : Int) then
                                          SV.o
                                              (SA.c
                                                (SC.v
                                                  (Value.bool
                                                    ((Prod.snd
                                                          (objR (IntKind.wrap IntKind.i64 ((1 : Int) + pickZ a0 (5 : Int)))
                                                            (toL
                                                              (cf
                                                                (objR (IntKind.wrap IntKind.i64 ((1 : Int) + pickZ a0 (5 : Int)))
                                                                    (toL
                                                                      (cf
                                                                        (madeTo (IntKind.wrap IntKind.i64 ((1 : Int) + pickZ a0 (5 : Int))) z1 (min len1 (30 : Nat)))))
                                                                    a2_0 a2_1 a2_2).1))
                                                            (6 : Int) (0 : Int) (0 : Int))).2 ==
                                                      (Prod.snd
                                                          (objR (IntKind.wrap IntKind.i64 ((1 : Int) + pickZ a0 (5 : Int)))
                                                            (toL (cf (madeTo (IntKind.wrap IntKind.i64 ((1 : Int) + pickZ a0 (5 : Int))) z1 (min len1 (30 : Nat)))))
                                                            (6 : Int) (0 : Int) (0 : Int))).2)))) =
                                            SV.o (SA.c (SC.v (Value.bool true)))
                                        else SV.o (SA.c (SC.v (Value.bool false))) = SV.o (SA.c (SC.v (Value.bool true)))) (by kernel_rfl) ?_
    rw [hk]
    have hok := madeTo_ok (1 + pickZ a0 5) z1 (by omega) (by omega) (min len1 30)
    rw [toL_cf (objOK_len hok)]
    generalize madeTo (1 + pickZ a0 5) z1 (min len1 30) = c at *
    have hok2 := objR_ok hok a2_0 a2_1 a2_2 hop
    have hsz := obj_size hok (by omega) a2_0 a2_1 a2_2 hop
    unfold sizeO at hsz
    rw [toL_cf (objOK_len hok2)]
    generalize (objR (1 + pickZ a0 5) c a2_0 a2_1 a2_2).1 = d at *
    generalize (objR (1 + pickZ a0 5) c 6 0 0).2.2 = n at *
    generalize (objR (1 + pickZ a0 5) d 6 0 0).2.2 = m at *
    generalize (objR (1 + pickZ a0 5) c a2_0 a2_1 a2_2).2.1 = s at *
    have wm : IntKind.wrap .i64 (n - 1) = n - 1 := by simp only [IntKind.wrap, IntKind.bits, IntKind.signed]; simp; omega
    have wp : IntKind.wrap .i64 (n + 1) = n + 1 := by simp only [IntKind.wrap, IntKind.bits, IntKind.signed]; simp; omega
    rw [wm, wp]
    have ho := hop
    unfold opOk at ho
    rw [decide_eq_true_eq] at ho
    refine ⟨trivial, by omega, ⟨by omega, rfl, rfl, rfl⟩, ⟨rfl, hok⟩, ⟨rfl, hok, hop⟩, ⟨rfl, hok2⟩, ?_⟩
    clear hk hop hok hok2 w0 w1 wm wp
    repeat' (refine by_cond (fun _ => ?_) (fun _ => ?_))
    all_goals simp only [decide_eq_true_eq, decide_eq_false_iff_not, beq_iff_eq, beq_eq_false_iff_ne, bne_iff_ne, ne_eq, bne_eq_false_iff_eq] at *
    all_goals first | rfl | (exfalso; omega) | (refine svB ?_; rw [beq_iff_eq]; omega)
end Go.Proofs.Ytpedkcpkdacnlaa
