/- Laws and walks that the proof leans on, gathered: WordLaws, LaidTab. -/
import Derived.Test.YtncnoblecnelaaaDoorRows
import Derived.ProofKit
import Derived.LaidMore
import Derived.LaidLaws
import Derived.OpenShut
import Derived.Stop.Joined
import Derived.Test.YtncnoblecnelaaaDoorWd2
section
namespace Go.Proofs.YtncnoblecnelaaaDoor
open Go.RowKit
set_option linter.unusedVariables false
set_option maxRecDepth 100000
set_option maxHeartbeats 4000000
abbrev ΓW : Gam := [(9, .pure conWorded), (10, .pure conPick), (12, .pure conGet), (11, .pure conSet), (13, .pure conBit), (14, .pure conFlip), (15, .pure conCount), (16, .pure conFirst)]
theorem ΓW_ok {W : World} (hW : TabLies W) : GamOk Tryd.prog W (fun _ => False) ΓW :=
  .cons (worded_con hW) (.cons (pick_con W _) (.cons (get_con W _) (.cons (set_con W _) (.cons (bit_con W _) (.cons (flip_con W _) (.cons (count_con W _) (.cons (first_con hW) (.nil _ _ _))))))))
theorem walk_WordSame (a0 a1 a2 : Int) (W : World) (hW : TabLies W) (w0 : U64 a0) :
    Calls Tryd.prog 4 #[.int .u64 a0, .int .i64 a1, .int .i64 a2] W fun e w' => e = .returned (.bool true) ∧ Below W.heap.size W w' := by
  refine once_of_run (AG := []) (Γ := ΓW) Tryd.func4 rfl tabW_ok tabW_tys (ΓW_ok hW) [uA a0, iA a1, iA a2] (.bool true) 200 rfl ?_ rfl
  refine by_eq (q :=
      True ∧
        ((0 : Int) < (64 : Int) ∧ (64 : Int) ≤ (9223372036854775807 : Int)) ∧
          ((0 : Int) < IntKind.wrap IntKind.i64 ((64 : Int) - pickZ a1 (64 : Int)) ∧
              IntKind.wrap IntKind.i64 ((64 : Int) - pickZ a1 (64 : Int)) ≤ (9223372036854775807 : Int)) ∧
            (U64 a0 ∧
                rightW (pickZ a1 (64 : Int)) (IntKind.wrap IntKind.i64 ((1 : Int) + pickZ a2 (IntKind.wrap IntKind.i64 ((64 : Int) - pickZ a1 (64 : Int))))) = true) ∧
              (U64 a0 ∧
                  U64
                      (getZ a0 (pickZ a1 (64 : Int))
                        (IntKind.wrap IntKind.i64 ((1 : Int) + pickZ a2 (IntKind.wrap IntKind.i64 ((64 : Int) - pickZ a1 (64 : Int)))))) ∧
                    rightW (pickZ a1 (64 : Int)) (IntKind.wrap IntKind.i64 ((1 : Int) + pickZ a2 (IntKind.wrap IntKind.i64 ((64 : Int) - pickZ a1 (64 : Int))))) =
                      true) ∧
                bif
                    fitZ (IntKind.wrap IntKind.i64 ((1 : Int) + pickZ a2 (IntKind.wrap IntKind.i64 ((64 : Int) - pickZ a1 (64 : Int)))))
                      (getZ a0 (pickZ a1 (64 : Int))
                        (IntKind.wrap IntKind.i64 ((1 : Int) + pickZ a2 (IntKind.wrap IntKind.i64 ((64 : Int) - pickZ a1 (64 : Int)))))) then
                  SV.o
                      (SA.c
                        (SC.v
                          (Value.bool
                            (setZ a0 (pickZ a1 (64 : Int))
                                (IntKind.wrap IntKind.i64 ((1 : Int) + pickZ a2 (IntKind.wrap IntKind.i64 ((64 : Int) - pickZ a1 (64 : Int)))))
                                (getZ a0 (pickZ a1 (64 : Int))
                                  (IntKind.wrap IntKind.i64 ((1 : Int) + pickZ a2 (IntKind.wrap IntKind.i64 ((64 : Int) - pickZ a1 (64 : Int)))))) ==
                              a0)))) =
                    SV.o (SA.c (SC.v (Value.bool true)))
                else SV.o (SA.c (SC.v (Value.bool false))) = SV.o (SA.c (SC.v (Value.bool true)))) (by kernel_rfl) ?_
  have q0 := pickZ_nonneg a1 64 (by decide)
  have q1 := pickZ_lt a1 64 (by decide)
  generalize pickZ a1 64 = a at *
  rw [wrap_i64 (x := 64 - a) (by omega)]
  have p0 := pickZ_nonneg a2 (64 - a) (by omega)
  have p1 := pickZ_lt a2 (64 - a) (by omega)
  generalize pickZ a2 (64 - a) = p at *
  rw [wrap_i64 (x := 1 + p) (by omega)]
  have hr : rightW a (1 + p) = true := rightW_of (by omega)
  rw [getZ_fit, setZ_getZ w0]
  exact ⟨trivial, by omega, by omega, ⟨w0, hr⟩, ⟨w0, getZ_u w0 _ _, hr⟩, svB (by simp)⟩
theorem walk_WordBack (a0 a1 a2 a3 a4 : Int) (W : World) (hW : TabLies W) (w0 : U64 a0) (w3 : U64 a3) :
    Calls Tryd.prog 3 #[.int .u64 a0, .int .i64 a1, .int .i64 a2, .int .u64 a3, .int .i64 a4] W fun e w' => e = .returned (.bool true) ∧ Below W.heap.size W w' := by
  refine once_of_run (AG := []) (Γ := ΓW) Tryd.func3 rfl tabW_ok tabW_tys (ΓW_ok hW) [uA a0, iA a1, iA a2, uA a3, iA a4] (.bool true) 200 rfl ?_ rfl
  refine by_eq (q :=
      True ∧
        ((0 : Int) < (64 : Int) ∧ (64 : Int) ≤ (9223372036854775807 : Int)) ∧
          ((0 : Int) < IntKind.wrap IntKind.i64 ((64 : Int) - pickZ a1 (64 : Int)) ∧
              IntKind.wrap IntKind.i64 ((64 : Int) - pickZ a1 (64 : Int)) ≤ (9223372036854775807 : Int)) ∧
            (U64 a0 ∧
                U64 a3 ∧
                  rightW (pickZ a1 (64 : Int)) (IntKind.wrap IntKind.i64 ((1 : Int) + pickZ a2 (IntKind.wrap IntKind.i64 ((64 : Int) - pickZ a1 (64 : Int))))) =
                    true) ∧
              bif fitZ (IntKind.wrap IntKind.i64 ((1 : Int) + pickZ a2 (IntKind.wrap IntKind.i64 ((64 : Int) - pickZ a1 (64 : Int))))) a3 then
                (U64
                      (setZ a0 (pickZ a1 (64 : Int)) (IntKind.wrap IntKind.i64 ((1 : Int) + pickZ a2 (IntKind.wrap IntKind.i64 ((64 : Int) - pickZ a1 (64 : Int)))))
                        a3) ∧
                    rightW (pickZ a1 (64 : Int)) (IntKind.wrap IntKind.i64 ((1 : Int) + pickZ a2 (IntKind.wrap IntKind.i64 ((64 : Int) - pickZ a1 (64 : Int))))) =
                      true) ∧
                  ((0 : Int) < (64 : Int) ∧ (64 : Int) ≤ (9223372036854775807 : Int)) ∧
                    bif
                        getZ
                            (setZ a0 (pickZ a1 (64 : Int))
                              (IntKind.wrap IntKind.i64 ((1 : Int) + pickZ a2 (IntKind.wrap IntKind.i64 ((64 : Int) - pickZ a1 (64 : Int))))) a3)
                            (pickZ a1 (64 : Int)) (IntKind.wrap IntKind.i64 ((1 : Int) + pickZ a2 (IntKind.wrap IntKind.i64 ((64 : Int) - pickZ a1 (64 : Int))))) ==
                          a3 then
                      bif decide (pickZ a4 (64 : Int) ≥ pickZ a1 (64 : Int)) then
                        bif
                            decide
                              (pickZ a4 (64 : Int) <
                                IntKind.wrap IntKind.i64
                                  (pickZ a1 (64 : Int) +
                                    IntKind.wrap IntKind.i64 ((1 : Int) + pickZ a2 (IntKind.wrap IntKind.i64 ((64 : Int) - pickZ a1 (64 : Int)))))) then
                          SV.o (SA.c (SC.v (Value.bool true))) = SV.o (SA.c (SC.v (Value.bool true)))
                        else
                          U64
                              (setZ a0 (pickZ a1 (64 : Int))
                                (IntKind.wrap IntKind.i64 ((1 : Int) + pickZ a2 (IntKind.wrap IntKind.i64 ((64 : Int) - pickZ a1 (64 : Int))))) a3) ∧
                            U64 a0 ∧
                              SV.o
                                  (SA.c
                                    (SC.v
                                      (Value.bool
                                        (bitZ
                                            (setZ a0 (pickZ a1 (64 : Int))
                                              (IntKind.wrap IntKind.i64 ((1 : Int) + pickZ a2 (IntKind.wrap IntKind.i64 ((64 : Int) - pickZ a1 (64 : Int))))) a3)
                                            (pickZ a4 (64 : Int)) ==
                                          bitZ a0 (pickZ a4 (64 : Int)))))) =
                                SV.o (SA.c (SC.v (Value.bool true)))
                      else
                        U64
                            (setZ a0 (pickZ a1 (64 : Int))
                              (IntKind.wrap IntKind.i64 ((1 : Int) + pickZ a2 (IntKind.wrap IntKind.i64 ((64 : Int) - pickZ a1 (64 : Int))))) a3) ∧
                          U64 a0 ∧
                            SV.o
                                (SA.c
                                  (SC.v
                                    (Value.bool
                                      (bitZ
                                          (setZ a0 (pickZ a1 (64 : Int))
                                            (IntKind.wrap IntKind.i64 ((1 : Int) + pickZ a2 (IntKind.wrap IntKind.i64 ((64 : Int) - pickZ a1 (64 : Int))))) a3)
                                          (pickZ a4 (64 : Int)) ==
                                        bitZ a0 (pickZ a4 (64 : Int)))))) =
                              SV.o (SA.c (SC.v (Value.bool true)))
                    else SV.o (SA.c (SC.v (Value.bool false))) = SV.o (SA.c (SC.v (Value.bool true)))
              else
                bif decide (IntKind.wrap IntKind.i64 ((1 : Int) + pickZ a2 (IntKind.wrap IntKind.i64 ((64 : Int) - pickZ a1 (64 : Int)))) < (64 : Int)) then
                  (0 : Int) ≤ IntKind.wrap IntKind.i64 ((1 : Int) + pickZ a2 (IntKind.wrap IntKind.i64 ((64 : Int) - pickZ a1 (64 : Int)))) ∧
                    SV.o
                        (SA.c
                          (SC.v
                            (Value.bool
                              (Int.fdiv a3
                                  ((2 : Int) ^
                                    min (Int.toNat (IntKind.wrap IntKind.i64 ((1 : Int) + pickZ a2 (IntKind.wrap IntKind.i64 ((64 : Int) - pickZ a1 (64 : Int))))))
                                      (64 : Nat)) !=
                                (0 : Int))))) =
                      SV.o (SA.c (SC.v (Value.bool true)))
                else SV.o (SA.c (SC.v (Value.bool false))) = SV.o (SA.c (SC.v (Value.bool true)))) (by kernel_rfl) ?_
  have q0 := pickZ_nonneg a1 64 (by decide)
  have q1 := pickZ_lt a1 64 (by decide)
  generalize pickZ a1 64 = a at *
  rw [wrap_i64 (x := 64 - a) (by omega)]
  have p0 := pickZ_nonneg a2 (64 - a) (by omega)
  have p1 := pickZ_lt a2 (64 - a) (by omega)
  generalize pickZ a2 (64 - a) = p at *
  rw [wrap_i64 (x := 1 + p) (by omega)]
  have hr : rightW a (1 + p) = true := rightW_of (by omega)
  refine ⟨trivial, by omega, by omega, ⟨w0, w3, hr⟩, by_cond (fun hf => ?_) (fun hf => ?_)⟩
  · have hs := setZ_u w0 w3 hr hf
    have hb := fun i h => bitZ_setZ (w := a0) (i := i) w3 hr hf h
    rw [getZ_setZ w3 hf]
    refine ⟨⟨hs, hr⟩, by omega, ?_⟩
    rw [show (a3 == a3) = true by simp, wrap_i64 (x := a + (1 + p)) (by omega), cond_true]
    refine by_cond (fun h1 => by_cond (fun h2 => rfl) (fun h2 => ⟨hs, w0, svB ?_⟩)) (fun h1 => ⟨hs, w0, svB ?_⟩)
    · rw [hb _ (.inr (by have := of_decide_eq_false h2; omega))]; simp
    · rw [hb _ (.inl (by have := of_decide_eq_false h1; omega))]; simp
  · have hu := unfit w3 (by omega) hf
    rw [decide_eq_true (show 1 + p < 64 by omega)]
    exact ⟨by omega, svB hu.2⟩
theorem walk_WordFlips (a0 a1 : Int) (W : World) (hW : TabLies W) (w0 : U64 a0) :
    Calls Tryd.prog 5 #[.int .u64 a0, .int .i64 a1] W fun e w' => e = .returned (.bool true) ∧ Below W.heap.size W w' := by
  refine once_of_run (AG := []) (Γ := ΓW) Tryd.func5 rfl tabW_ok tabW_tys (ΓW_ok hW) [uA a0, iA a1] (.bool true) 200 rfl ?_ rfl
  refine by_eq (q :=
      True ∧
        ((0 : Int) < (64 : Int) ∧ (64 : Int) ≤ (9223372036854775807 : Int)) ∧
          U64 a0 ∧
            U64 a0 ∧
              bif bitZ a0 (pickZ a1 (64 : Int)) then
                U64 (flipZ a0 (pickZ a1 (64 : Int))) ∧
                  bif flipZ (flipZ a0 (pickZ a1 (64 : Int))) (pickZ a1 (64 : Int)) == a0 then
                    U64 (flipZ a0 (pickZ a1 (64 : Int))) ∧
                      U64 a0 ∧
                        bif bif bitZ (flipZ a0 (pickZ a1 (64 : Int))) (pickZ a1 (64 : Int)) == bitZ a0 (pickZ a1 (64 : Int)) then false else true then
                          U64 (flipZ a0 (pickZ a1 (64 : Int))) ∧
                            U64 a0 ∧
                              SV.o (SA.c (SC.v (Value.bool (cntZ (flipZ a0 (pickZ a1 (64 : Int))) == IntKind.wrap IntKind.i64 (cntZ a0 + (-1 : Int)))))) =
                                SV.o (SA.c (SC.v (Value.bool true)))
                        else SV.o (SA.c (SC.v (Value.bool false))) = SV.o (SA.c (SC.v (Value.bool true)))
                  else SV.o (SA.c (SC.v (Value.bool false))) = SV.o (SA.c (SC.v (Value.bool true)))
              else
                U64 (flipZ a0 (pickZ a1 (64 : Int))) ∧
                  bif flipZ (flipZ a0 (pickZ a1 (64 : Int))) (pickZ a1 (64 : Int)) == a0 then
                    U64 (flipZ a0 (pickZ a1 (64 : Int))) ∧
                      U64 a0 ∧
                        bif bif bitZ (flipZ a0 (pickZ a1 (64 : Int))) (pickZ a1 (64 : Int)) == bitZ a0 (pickZ a1 (64 : Int)) then false else true then
                          U64 (flipZ a0 (pickZ a1 (64 : Int))) ∧
                            U64 a0 ∧
                              SV.o (SA.c (SC.v (Value.bool (cntZ (flipZ a0 (pickZ a1 (64 : Int))) == IntKind.wrap IntKind.i64 (cntZ a0 + (1 : Int)))))) =
                                SV.o (SA.c (SC.v (Value.bool true)))
                        else SV.o (SA.c (SC.v (Value.bool false))) = SV.o (SA.c (SC.v (Value.bool true)))
                  else SV.o (SA.c (SC.v (Value.bool false))) = SV.o (SA.c (SC.v (Value.bool true)))) (by kernel_rfl) ?_
  have q0 := pickZ_nonneg a1 64 (by decide)
  have q1 := pickZ_lt a1 64 (by decide)
  generalize pickZ a1 64 = a at *
  have hf := flipZ_u w0 (a := a) (by omega)
  have hc := cntZ_flipZ w0 (a := a) (by omega)
  have hr := cntZ_range a0
  rw [flipZ_flipZ w0 (by omega), bitZ_flipZ w0 (by omega), hc, show (a0 == a0) = true by simp]
  refine ⟨trivial, by omega, w0, w0, ?_⟩
  cases bitZ a0 a
  · exact ⟨hf, hf, w0, hf, w0, svB (by rw [wrap_i64 (by omega)]; simp)⟩
  · exact ⟨hf, hf, w0, hf, w0, svB (by rw [wrap_i64 (by omega)]; simp)⟩
theorem walk_WordParts (a0 a1 : Int) (W : World) (hW : TabLies W) (w0 : U64 a0) :
    Calls Tryd.prog 6 #[.int .u64 a0, .int .i64 a1] W fun e w' => e = .returned (.bool true) ∧ Below W.heap.size W w' := by
  refine once_of_run (AG := []) (Γ := ΓW) Tryd.func6 rfl tabW_ok tabW_tys (ΓW_ok hW) [uA a0, iA a1] (.bool true) 200 rfl ?_ rfl
  refine by_eq (q :=
      True ∧
        ((0 : Int) < (63 : Int) ∧ (63 : Int) ≤ (9223372036854775807 : Int)) ∧
          (U64 a0 ∧ rightW (0 : Int) (IntKind.wrap IntKind.i64 ((1 : Int) + pickZ a1 (63 : Int))) = true) ∧
            (U64 a0 ∧
                rightW (IntKind.wrap IntKind.i64 ((1 : Int) + pickZ a1 (63 : Int)))
                    (IntKind.wrap IntKind.i64 ((64 : Int) - IntKind.wrap IntKind.i64 ((1 : Int) + pickZ a1 (63 : Int)))) =
                  true) ∧
              U64 (getZ a0 (0 : Int) (IntKind.wrap IntKind.i64 ((1 : Int) + pickZ a1 (63 : Int)))) ∧
                bif getZ a0 (0 : Int) (IntKind.wrap IntKind.i64 ((1 : Int) + pickZ a1 (63 : Int))) == (0 : Int) then
                  bif
                      getZ a0 (IntKind.wrap IntKind.i64 ((1 : Int) + pickZ a1 (63 : Int)))
                          (IntKind.wrap IntKind.i64 ((64 : Int) - IntKind.wrap IntKind.i64 ((1 : Int) + pickZ a1 (63 : Int)))) !=
                        (0 : Int) then
                    U64
                        (getZ a0 (IntKind.wrap IntKind.i64 ((1 : Int) + pickZ a1 (63 : Int)))
                          (IntKind.wrap IntKind.i64 ((64 : Int) - IntKind.wrap IntKind.i64 ((1 : Int) + pickZ a1 (63 : Int))))) ∧
                      U64 a0 ∧
                        U64 (getZ a0 (0 : Int) (IntKind.wrap IntKind.i64 ((1 : Int) + pickZ a1 (63 : Int)))) ∧
                          U64
                              (getZ a0 (IntKind.wrap IntKind.i64 ((1 : Int) + pickZ a1 (63 : Int)))
                                (IntKind.wrap IntKind.i64 ((64 : Int) - IntKind.wrap IntKind.i64 ((1 : Int) + pickZ a1 (63 : Int))))) ∧
                            bif
                                cntZ a0 ==
                                  IntKind.wrap IntKind.i64
                                    (cntZ (getZ a0 (0 : Int) (IntKind.wrap IntKind.i64 ((1 : Int) + pickZ a1 (63 : Int)))) +
                                      cntZ
                                        (getZ a0 (IntKind.wrap IntKind.i64 ((1 : Int) + pickZ a1 (63 : Int)))
                                          (IntKind.wrap IntKind.i64 ((64 : Int) - IntKind.wrap IntKind.i64 ((1 : Int) + pickZ a1 (63 : Int)))))) then
                              U64 a0 ∧
                                bif
                                    fstZ a0 ==
                                      IntKind.wrap IntKind.i64
                                        (IntKind.wrap IntKind.i64 ((1 : Int) + pickZ a1 (63 : Int)) +
                                          fstZ
                                            (getZ a0 (IntKind.wrap IntKind.i64 ((1 : Int) + pickZ a1 (63 : Int)))
                                              (IntKind.wrap IntKind.i64 ((64 : Int) - IntKind.wrap IntKind.i64 ((1 : Int) + pickZ a1 (63 : Int)))))) then
                                  U64 a0 ∧ SV.o (SA.c (SC.v (Value.bool ((a0 == (0 : Int)) == decide (fstZ a0 < (0 : Int)))))) = SV.o (SA.c (SC.v (Value.bool true)))
                                else SV.o (SA.c (SC.v (Value.bool false))) = SV.o (SA.c (SC.v (Value.bool true)))
                            else SV.o (SA.c (SC.v (Value.bool false))) = SV.o (SA.c (SC.v (Value.bool true)))
                  else
                    U64 a0 ∧
                      U64 (getZ a0 (0 : Int) (IntKind.wrap IntKind.i64 ((1 : Int) + pickZ a1 (63 : Int)))) ∧
                        U64
                            (getZ a0 (IntKind.wrap IntKind.i64 ((1 : Int) + pickZ a1 (63 : Int)))
                              (IntKind.wrap IntKind.i64 ((64 : Int) - IntKind.wrap IntKind.i64 ((1 : Int) + pickZ a1 (63 : Int))))) ∧
                          bif
                              cntZ a0 ==
                                IntKind.wrap IntKind.i64
                                  (cntZ (getZ a0 (0 : Int) (IntKind.wrap IntKind.i64 ((1 : Int) + pickZ a1 (63 : Int)))) +
                                    cntZ
                                      (getZ a0 (IntKind.wrap IntKind.i64 ((1 : Int) + pickZ a1 (63 : Int)))
                                        (IntKind.wrap IntKind.i64 ((64 : Int) - IntKind.wrap IntKind.i64 ((1 : Int) + pickZ a1 (63 : Int)))))) then
                            U64 a0 ∧
                              bif fstZ a0 == fstZ (getZ a0 (0 : Int) (IntKind.wrap IntKind.i64 ((1 : Int) + pickZ a1 (63 : Int)))) then
                                U64 a0 ∧ SV.o (SA.c (SC.v (Value.bool ((a0 == (0 : Int)) == decide (fstZ a0 < (0 : Int)))))) = SV.o (SA.c (SC.v (Value.bool true)))
                              else SV.o (SA.c (SC.v (Value.bool false))) = SV.o (SA.c (SC.v (Value.bool true)))
                          else SV.o (SA.c (SC.v (Value.bool false))) = SV.o (SA.c (SC.v (Value.bool true)))
                else
                  U64 a0 ∧
                    U64 (getZ a0 (0 : Int) (IntKind.wrap IntKind.i64 ((1 : Int) + pickZ a1 (63 : Int)))) ∧
                      U64
                          (getZ a0 (IntKind.wrap IntKind.i64 ((1 : Int) + pickZ a1 (63 : Int)))
                            (IntKind.wrap IntKind.i64 ((64 : Int) - IntKind.wrap IntKind.i64 ((1 : Int) + pickZ a1 (63 : Int))))) ∧
                        bif
                            cntZ a0 ==
                              IntKind.wrap IntKind.i64
                                (cntZ (getZ a0 (0 : Int) (IntKind.wrap IntKind.i64 ((1 : Int) + pickZ a1 (63 : Int)))) +
                                  cntZ
                                    (getZ a0 (IntKind.wrap IntKind.i64 ((1 : Int) + pickZ a1 (63 : Int)))
                                      (IntKind.wrap IntKind.i64 ((64 : Int) - IntKind.wrap IntKind.i64 ((1 : Int) + pickZ a1 (63 : Int)))))) then
                          U64 a0 ∧
                            bif fstZ a0 == fstZ (getZ a0 (0 : Int) (IntKind.wrap IntKind.i64 ((1 : Int) + pickZ a1 (63 : Int)))) then
                              U64 a0 ∧ SV.o (SA.c (SC.v (Value.bool ((a0 == (0 : Int)) == decide (fstZ a0 < (0 : Int)))))) = SV.o (SA.c (SC.v (Value.bool true)))
                            else SV.o (SA.c (SC.v (Value.bool false))) = SV.o (SA.c (SC.v (Value.bool true)))
                        else SV.o (SA.c (SC.v (Value.bool false))) = SV.o (SA.c (SC.v (Value.bool true)))) (by kernel_rfl) ?_
  have q0 := pickZ_nonneg a1 63 (by decide)
  have q1 := pickZ_lt a1 63 (by decide)
  generalize pickZ a1 63 = p at *
  rw [wrap_i64 (x := 1 + p) (by omega)]
  generalize ha : 1 + p = a at *
  rw [wrap_i64 (x := 64 - a) (by omega)]
  have hc := cntZ_parts w0 (a := a) (by omega)
  obtain ⟨f1, f2, f3, f4, f5⟩ := fstZ_parts w0 (a := a) (by omega)
  have u1 := getZ_u w0 0 a
  have u2 := getZ_u w0 a (64 - a)
  have c1 := cntZ_range (getZ a0 0 a)
  have c2 := cntZ_range (getZ a0 a (64 - a))
  rw [hc, wrap_i64 (x := cntZ _ + cntZ _) (by omega), show ∀ x : Int, (x == x) = true by simp]
  have fin : (a0 == 0) = decide (fstZ a0 < 0) := by
    by_cases h : a0 = 0
    · have := (f4 h).2
      rw [decide_eq_true (by omega)]; simpa using h
    · have := f5 h
      rw [decide_eq_false (by omega)]; simpa using h
  rw [fin]
  refine ⟨trivial, by omega, ⟨w0, rightW_of (by omega)⟩, ⟨w0, rightW_of (by omega)⟩, u1, by_cond (fun h => ?_) (fun h => ?_)⟩
  · have h := eq_of_beq h
    refine by_cond (fun h2 => ?_) (fun h2 => ?_)
    · have h2 : getZ a0 a (64 - a) ≠ 0 := by simpa using h2
      have e := f2 h h2
      have hne : a0 ≠ 0 := fun h0 => by have := (f4 h0).1; have := (f4 h0).2; have hz := f5; rw [h0] at h2; exact h2 (by simp [getZ, getN])
      have := f5 hne
      rw [wrap_i64 (by omega), ← e]
      exact ⟨u2, w0, u1, u2, w0, by rw [show (fstZ a0 == fstZ a0) = true by simp]; exact ⟨w0, svB (by simp)⟩⟩
    · have h2 : getZ a0 a (64 - a) = 0 := by simpa using h2
      have h0 := f3 h h2
      have e := (f4 h0).2
      rw [h, show fstZ 0 = -1 from rfl, e]
      exact ⟨w0, by decide, u2, w0, w0, svB (by simp)⟩
  · have h : getZ a0 0 a ≠ 0 := by simpa using h
    rw [f1 h]
    exact ⟨w0, u1, u2, w0, by rw [show (fstZ (getZ a0 0 a) == fstZ (getZ a0 0 a)) = true by simp]; exact ⟨w0, svB (by simp)⟩⟩
theorem walk_WordOrder (a0 a1 a2 a3 a4 a5 : Int) (W : World) (hW : TabLies W) (w0 : U64 a0) (w4 : U64 a4) (w5 : U64 a5) :
    Calls Tryd.prog 7 #[.int .u64 a0, .int .i64 a1, .int .i64 a2, .int .i64 a3, .int .u64 a4, .int .u64 a5] W fun e w' => e = .returned (.bool true) ∧ Below W.heap.size W w' := by
  refine once_of_run (AG := []) (Γ := ΓW) Tryd.func7 rfl tabW_ok tabW_tys (ΓW_ok hW) [uA a0, iA a1, iA a2, iA a3, uA a4, uA a5] (.bool true) 200 rfl ?_ rfl
  refine by_eq (q :=
      True ∧
        ((0 : Int) < (63 : Int) ∧ (63 : Int) ≤ (9223372036854775807 : Int)) ∧
          ((0 : Int) < IntKind.wrap IntKind.i64 ((1 : Int) + pickZ a1 (63 : Int)) ∧
              IntKind.wrap IntKind.i64 ((1 : Int) + pickZ a1 (63 : Int)) ≤ (9223372036854775807 : Int)) ∧
            ((0 : Int) < IntKind.wrap IntKind.i64 ((64 : Int) - IntKind.wrap IntKind.i64 ((1 : Int) + pickZ a1 (63 : Int))) ∧
                IntKind.wrap IntKind.i64 ((64 : Int) - IntKind.wrap IntKind.i64 ((1 : Int) + pickZ a1 (63 : Int))) ≤ (9223372036854775807 : Int)) ∧
              (U64 a0 ∧
                  U64 a4 ∧
                    rightW
                        (IntKind.wrap IntKind.i64
                          (IntKind.wrap IntKind.i64 ((1 : Int) + pickZ a1 (63 : Int)) -
                            IntKind.wrap IntKind.i64 ((1 : Int) + pickZ a2 (IntKind.wrap IntKind.i64 ((1 : Int) + pickZ a1 (63 : Int))))))
                        (IntKind.wrap IntKind.i64 ((1 : Int) + pickZ a2 (IntKind.wrap IntKind.i64 ((1 : Int) + pickZ a1 (63 : Int))))) =
                      true) ∧
                bif fitZ (IntKind.wrap IntKind.i64 ((1 : Int) + pickZ a2 (IntKind.wrap IntKind.i64 ((1 : Int) + pickZ a1 (63 : Int))))) a4 then
                  (U64 a0 ∧
                      U64 a5 ∧
                        rightW (IntKind.wrap IntKind.i64 ((1 : Int) + pickZ a1 (63 : Int)))
                            (IntKind.wrap IntKind.i64
                              ((1 : Int) + pickZ a3 (IntKind.wrap IntKind.i64 ((64 : Int) - IntKind.wrap IntKind.i64 ((1 : Int) + pickZ a1 (63 : Int)))))) =
                          true) ∧
                    bif
                        fitZ
                          (IntKind.wrap IntKind.i64
                            ((1 : Int) + pickZ a3 (IntKind.wrap IntKind.i64 ((64 : Int) - IntKind.wrap IntKind.i64 ((1 : Int) + pickZ a1 (63 : Int))))))
                          a5 then
                      (U64
                            (setZ a0
                              (IntKind.wrap IntKind.i64
                                (IntKind.wrap IntKind.i64 ((1 : Int) + pickZ a1 (63 : Int)) -
                                  IntKind.wrap IntKind.i64 ((1 : Int) + pickZ a2 (IntKind.wrap IntKind.i64 ((1 : Int) + pickZ a1 (63 : Int))))))
                              (IntKind.wrap IntKind.i64 ((1 : Int) + pickZ a2 (IntKind.wrap IntKind.i64 ((1 : Int) + pickZ a1 (63 : Int))))) a4) ∧
                          U64 a5 ∧
                            rightW (IntKind.wrap IntKind.i64 ((1 : Int) + pickZ a1 (63 : Int)))
                                (IntKind.wrap IntKind.i64
                                  ((1 : Int) + pickZ a3 (IntKind.wrap IntKind.i64 ((64 : Int) - IntKind.wrap IntKind.i64 ((1 : Int) + pickZ a1 (63 : Int)))))) =
                              true) ∧
                        bif
                            fitZ
                              (IntKind.wrap IntKind.i64
                                ((1 : Int) + pickZ a3 (IntKind.wrap IntKind.i64 ((64 : Int) - IntKind.wrap IntKind.i64 ((1 : Int) + pickZ a1 (63 : Int))))))
                              a5 then
                          (U64
                                (setZ a0 (IntKind.wrap IntKind.i64 ((1 : Int) + pickZ a1 (63 : Int)))
                                  (IntKind.wrap IntKind.i64
                                    ((1 : Int) + pickZ a3 (IntKind.wrap IntKind.i64 ((64 : Int) - IntKind.wrap IntKind.i64 ((1 : Int) + pickZ a1 (63 : Int))))))
                                  a5) ∧
                              U64 a4 ∧
                                rightW
                                    (IntKind.wrap IntKind.i64
                                      (IntKind.wrap IntKind.i64 ((1 : Int) + pickZ a1 (63 : Int)) -
                                        IntKind.wrap IntKind.i64 ((1 : Int) + pickZ a2 (IntKind.wrap IntKind.i64 ((1 : Int) + pickZ a1 (63 : Int))))))
                                    (IntKind.wrap IntKind.i64 ((1 : Int) + pickZ a2 (IntKind.wrap IntKind.i64 ((1 : Int) + pickZ a1 (63 : Int))))) =
                                  true) ∧
                            bif fitZ (IntKind.wrap IntKind.i64 ((1 : Int) + pickZ a2 (IntKind.wrap IntKind.i64 ((1 : Int) + pickZ a1 (63 : Int))))) a4 then
                              SV.o
                                  (SA.c
                                    (SC.v
                                      (Value.bool
                                        (setZ
                                            (setZ a0
                                              (IntKind.wrap IntKind.i64
                                                (IntKind.wrap IntKind.i64 ((1 : Int) + pickZ a1 (63 : Int)) -
                                                  IntKind.wrap IntKind.i64 ((1 : Int) + pickZ a2 (IntKind.wrap IntKind.i64 ((1 : Int) + pickZ a1 (63 : Int))))))
                                              (IntKind.wrap IntKind.i64 ((1 : Int) + pickZ a2 (IntKind.wrap IntKind.i64 ((1 : Int) + pickZ a1 (63 : Int))))) a4)
                                            (IntKind.wrap IntKind.i64 ((1 : Int) + pickZ a1 (63 : Int)))
                                            (IntKind.wrap IntKind.i64
                                              ((1 : Int) +
                                                pickZ a3 (IntKind.wrap IntKind.i64 ((64 : Int) - IntKind.wrap IntKind.i64 ((1 : Int) + pickZ a1 (63 : Int))))))
                                            a5 ==
                                          setZ
                                            (setZ a0 (IntKind.wrap IntKind.i64 ((1 : Int) + pickZ a1 (63 : Int)))
                                              (IntKind.wrap IntKind.i64
                                                ((1 : Int) +
                                                  pickZ a3 (IntKind.wrap IntKind.i64 ((64 : Int) - IntKind.wrap IntKind.i64 ((1 : Int) + pickZ a1 (63 : Int))))))
                                              a5)
                                            (IntKind.wrap IntKind.i64
                                              (IntKind.wrap IntKind.i64 ((1 : Int) + pickZ a1 (63 : Int)) -
                                                IntKind.wrap IntKind.i64 ((1 : Int) + pickZ a2 (IntKind.wrap IntKind.i64 ((1 : Int) + pickZ a1 (63 : Int))))))
                                            (IntKind.wrap IntKind.i64 ((1 : Int) + pickZ a2 (IntKind.wrap IntKind.i64 ((1 : Int) + pickZ a1 (63 : Int))))) a4)))) =
                                SV.o (SA.c (SC.v (Value.bool true)))
                            else SV.o (SA.c (SC.v (Value.bool false))) = SV.o (SA.c (SC.v (Value.bool true)))
                        else
                          (U64
                                (setZ a0 (IntKind.wrap IntKind.i64 ((1 : Int) + pickZ a1 (63 : Int)))
                                  (IntKind.wrap IntKind.i64
                                    ((1 : Int) + pickZ a3 (IntKind.wrap IntKind.i64 ((64 : Int) - IntKind.wrap IntKind.i64 ((1 : Int) + pickZ a1 (63 : Int))))))
                                  a5) ∧
                              U64 a4 ∧
                                rightW
                                    (IntKind.wrap IntKind.i64
                                      (IntKind.wrap IntKind.i64 ((1 : Int) + pickZ a1 (63 : Int)) -
                                        IntKind.wrap IntKind.i64 ((1 : Int) + pickZ a2 (IntKind.wrap IntKind.i64 ((1 : Int) + pickZ a1 (63 : Int))))))
                                    (IntKind.wrap IntKind.i64 ((1 : Int) + pickZ a2 (IntKind.wrap IntKind.i64 ((1 : Int) + pickZ a1 (63 : Int))))) =
                                  true) ∧
                            bif fitZ (IntKind.wrap IntKind.i64 ((1 : Int) + pickZ a2 (IntKind.wrap IntKind.i64 ((1 : Int) + pickZ a1 (63 : Int))))) a4 then
                              SV.o (SA.c (SC.v (Value.bool false))) = SV.o (SA.c (SC.v (Value.bool true)))
                            else SV.o (SA.c (SC.v (Value.bool false))) = SV.o (SA.c (SC.v (Value.bool true)))
                    else SV.o (SA.c (SC.v (Value.bool true))) = SV.o (SA.c (SC.v (Value.bool true)))
                else
                  (U64 a0 ∧
                      U64 a5 ∧
                        rightW (IntKind.wrap IntKind.i64 ((1 : Int) + pickZ a1 (63 : Int)))
                            (IntKind.wrap IntKind.i64
                              ((1 : Int) + pickZ a3 (IntKind.wrap IntKind.i64 ((64 : Int) - IntKind.wrap IntKind.i64 ((1 : Int) + pickZ a1 (63 : Int)))))) =
                          true) ∧
                    bif
                        fitZ
                          (IntKind.wrap IntKind.i64
                            ((1 : Int) + pickZ a3 (IntKind.wrap IntKind.i64 ((64 : Int) - IntKind.wrap IntKind.i64 ((1 : Int) + pickZ a1 (63 : Int))))))
                          a5 then
                      SV.o (SA.c (SC.v (Value.bool true))) = SV.o (SA.c (SC.v (Value.bool true)))
                    else SV.o (SA.c (SC.v (Value.bool true))) = SV.o (SA.c (SC.v (Value.bool true)))) (by kernel_rfl) ?_
  have q0 := pickZ_nonneg a1 63 (by decide)
  have q1 := pickZ_lt a1 63 (by decide)
  generalize pickZ a1 63 = p at *
  rw [wrap_i64 (x := 1 + p) (by omega)]
  generalize ha : 1 + p = a at *
  rw [wrap_i64 (x := 64 - a) (by omega)]
  have p0 := pickZ_nonneg a2 a (by omega)
  have p1 := pickZ_lt a2 a (by omega)
  generalize pickZ a2 a = q at *
  rw [wrap_i64 (x := 1 + q) (by omega)]
  generalize hn : 1 + q = n at *
  rw [wrap_i64 (x := a - n) (by omega)]
  have s0 := pickZ_nonneg a3 (64 - a) (by omega)
  have s1 := pickZ_lt a3 (64 - a) (by omega)
  generalize pickZ a3 (64 - a) = t at *
  rw [wrap_i64 (x := 1 + t) (by omega)]
  generalize hm : 1 + t = m at *
  have r1 : rightW (a - n) n = true := rightW_of (by omega)
  have r2 : rightW a m = true := rightW_of (by omega)
  refine ⟨trivial, by omega, by omega, by omega, ⟨w0, w4, r1⟩, by_cond (fun f1 => ⟨⟨w0, w5, r2⟩, by_cond (fun f2 => ?_) (fun f2 => rfl)⟩) (fun f1 => ⟨⟨w0, w5, r2⟩, by_cond (fun _ => rfl) (fun _ => rfl)⟩)⟩
  refine ⟨⟨setZ_u w0 w4 r1 f1, w5, r2⟩, ?_⟩
  rw [f2]
  refine ⟨⟨setZ_u w0 w5 r2 f2, w4, r1⟩, ?_⟩
  rw [f1]
  refine svB ?_
  rw [setZ_setZ w4 w5 (by omega) (by omega) f1 f2]; simp
theorem walk_WordCuts (a0 a1 a2 a3 a4 : Int) (W : World) (hW : TabLies W) (w0 : U64 a0) :
    Calls Tryd.prog 8 #[.int .u64 a0, .int .i64 a1, .int .i64 a2, .int .i64 a3, .int .i64 a4] W fun e w' => e = .returned (.bool true) ∧ Below W.heap.size W w' := by
  refine once_of_run (AG := []) (Γ := ΓW) Tryd.func8 rfl tabW_ok tabW_tys (ΓW_ok hW) [uA a0, iA a1, iA a2, iA a3, iA a4] (.bool true) 200 rfl ?_ rfl
  refine by_eq (q :=
      True ∧
        ((0 : Int) < (64 : Int) ∧ (64 : Int) ≤ (9223372036854775807 : Int)) ∧
          ((0 : Int) < IntKind.wrap IntKind.i64 ((64 : Int) - pickZ a1 (64 : Int)) ∧
              IntKind.wrap IntKind.i64 ((64 : Int) - pickZ a1 (64 : Int)) ≤ (9223372036854775807 : Int)) ∧
            ((0 : Int) < IntKind.wrap IntKind.i64 ((1 : Int) + pickZ a2 (IntKind.wrap IntKind.i64 ((64 : Int) - pickZ a1 (64 : Int)))) ∧
                IntKind.wrap IntKind.i64 ((1 : Int) + pickZ a2 (IntKind.wrap IntKind.i64 ((64 : Int) - pickZ a1 (64 : Int)))) ≤ (9223372036854775807 : Int)) ∧
              ((0 : Int) <
                    IntKind.wrap IntKind.i64
                      (IntKind.wrap IntKind.i64 ((1 : Int) + pickZ a2 (IntKind.wrap IntKind.i64 ((64 : Int) - pickZ a1 (64 : Int)))) -
                        pickZ a3 (IntKind.wrap IntKind.i64 ((1 : Int) + pickZ a2 (IntKind.wrap IntKind.i64 ((64 : Int) - pickZ a1 (64 : Int)))))) ∧
                  IntKind.wrap IntKind.i64
                      (IntKind.wrap IntKind.i64 ((1 : Int) + pickZ a2 (IntKind.wrap IntKind.i64 ((64 : Int) - pickZ a1 (64 : Int)))) -
                        pickZ a3 (IntKind.wrap IntKind.i64 ((1 : Int) + pickZ a2 (IntKind.wrap IntKind.i64 ((64 : Int) - pickZ a1 (64 : Int)))))) ≤
                    (9223372036854775807 : Int)) ∧
                (U64 a0 ∧
                    rightW (pickZ a1 (64 : Int)) (IntKind.wrap IntKind.i64 ((1 : Int) + pickZ a2 (IntKind.wrap IntKind.i64 ((64 : Int) - pickZ a1 (64 : Int))))) =
                      true) ∧
                  (U64
                        (getZ a0 (pickZ a1 (64 : Int))
                          (IntKind.wrap IntKind.i64 ((1 : Int) + pickZ a2 (IntKind.wrap IntKind.i64 ((64 : Int) - pickZ a1 (64 : Int)))))) ∧
                      rightW (pickZ a3 (IntKind.wrap IntKind.i64 ((1 : Int) + pickZ a2 (IntKind.wrap IntKind.i64 ((64 : Int) - pickZ a1 (64 : Int))))))
                          (IntKind.wrap IntKind.i64
                            ((1 : Int) +
                              pickZ a4
                                (IntKind.wrap IntKind.i64
                                  (IntKind.wrap IntKind.i64 ((1 : Int) + pickZ a2 (IntKind.wrap IntKind.i64 ((64 : Int) - pickZ a1 (64 : Int)))) -
                                    pickZ a3 (IntKind.wrap IntKind.i64 ((1 : Int) + pickZ a2 (IntKind.wrap IntKind.i64 ((64 : Int) - pickZ a1 (64 : Int))))))))) =
                        true) ∧
                    (U64 a0 ∧
                        rightW
                            (IntKind.wrap IntKind.i64
                              (pickZ a1 (64 : Int) +
                                pickZ a3 (IntKind.wrap IntKind.i64 ((1 : Int) + pickZ a2 (IntKind.wrap IntKind.i64 ((64 : Int) - pickZ a1 (64 : Int)))))))
                            (IntKind.wrap IntKind.i64
                              ((1 : Int) +
                                pickZ a4
                                  (IntKind.wrap IntKind.i64
                                    (IntKind.wrap IntKind.i64 ((1 : Int) + pickZ a2 (IntKind.wrap IntKind.i64 ((64 : Int) - pickZ a1 (64 : Int)))) -
                                      pickZ a3 (IntKind.wrap IntKind.i64 ((1 : Int) + pickZ a2 (IntKind.wrap IntKind.i64 ((64 : Int) - pickZ a1 (64 : Int))))))))) =
                          true) ∧
                      SV.o
                          (SA.c
                            (SC.v
                              (Value.bool
                                (getZ
                                    (getZ a0 (pickZ a1 (64 : Int))
                                      (IntKind.wrap IntKind.i64 ((1 : Int) + pickZ a2 (IntKind.wrap IntKind.i64 ((64 : Int) - pickZ a1 (64 : Int))))))
                                    (pickZ a3 (IntKind.wrap IntKind.i64 ((1 : Int) + pickZ a2 (IntKind.wrap IntKind.i64 ((64 : Int) - pickZ a1 (64 : Int))))))
                                    (IntKind.wrap IntKind.i64
                                      ((1 : Int) +
                                        pickZ a4
                                          (IntKind.wrap IntKind.i64
                                            (IntKind.wrap IntKind.i64 ((1 : Int) + pickZ a2 (IntKind.wrap IntKind.i64 ((64 : Int) - pickZ a1 (64 : Int)))) -
                                              pickZ a3
                                                (IntKind.wrap IntKind.i64 ((1 : Int) + pickZ a2 (IntKind.wrap IntKind.i64 ((64 : Int) - pickZ a1 (64 : Int))))))))) ==
                                  getZ a0
                                    (IntKind.wrap IntKind.i64
                                      (pickZ a1 (64 : Int) +
                                        pickZ a3 (IntKind.wrap IntKind.i64 ((1 : Int) + pickZ a2 (IntKind.wrap IntKind.i64 ((64 : Int) - pickZ a1 (64 : Int)))))))
                                    (IntKind.wrap IntKind.i64
                                      ((1 : Int) +
                                        pickZ a4
                                          (IntKind.wrap IntKind.i64
                                            (IntKind.wrap IntKind.i64 ((1 : Int) + pickZ a2 (IntKind.wrap IntKind.i64 ((64 : Int) - pickZ a1 (64 : Int)))) -
                                              pickZ a3
                                                (IntKind.wrap IntKind.i64
                                                  ((1 : Int) + pickZ a2 (IntKind.wrap IntKind.i64 ((64 : Int) - pickZ a1 (64 : Int))))))))))))) =
                        SV.o (SA.c (SC.v (Value.bool true)))) (by kernel_rfl) ?_
  have q0 := pickZ_nonneg a1 64 (by decide)
  have q1 := pickZ_lt a1 64 (by decide)
  generalize pickZ a1 64 = a at *
  rw [wrap_i64 (x := 64 - a) (by omega)]
  have p0 := pickZ_nonneg a2 (64 - a) (by omega)
  have p1 := pickZ_lt a2 (64 - a) (by omega)
  generalize pickZ a2 (64 - a) = p at *
  rw [wrap_i64 (x := 1 + p) (by omega)]
  generalize hn : 1 + p = n at *
  have s0 := pickZ_nonneg a3 n (by omega)
  have s1 := pickZ_lt a3 n (by omega)
  generalize pickZ a3 n = i at *
  rw [wrap_i64 (x := n - i) (by omega)]
  have t0 := pickZ_nonneg a4 (n - i) (by omega)
  have t1 := pickZ_lt a4 (n - i) (by omega)
  generalize pickZ a4 (n - i) = k at *
  rw [wrap_i64 (x := 1 + k) (by omega), wrap_i64 (x := a + i) (by omega), getZ_getZ (by omega) (by omega) (by omega) (by omega)]
  exact ⟨trivial, by omega, by omega, by omega, by omega, ⟨w0, rightW_of (by omega)⟩, ⟨getZ_u w0 _ _, rightW_of (by omega)⟩, ⟨w0, rightW_of (by omega)⟩, svB (by simp)⟩
end Go.Proofs.YtncnoblecnelaaaDoor
end
section
namespace Go.Proofs.YtncnoblecnelaaaDoor
open Go.ChangeShapes Go.WideShapes Go.ChangeAt Go.WideMaps Go.WideElems Go.RowKit
theorem lOwn : ownKnob Tryd.prog.godebug = none := by kernel_rfl
theorem lTab : Tryd.prog.globalNamed "math/bits.deBruijn64tab" = some 0 := by kernel_rfl
theorem tTab : (Tryd.prog.globals[0]?).map (·.type) = some 41 := by kernel_rfl
abbrev laidL : List (String × DataW Unit) := [("math/bits.deBruijn64tab", Rows.laid_math_bits_deBruijn64tab)]
theorem door_met (os : Os) (args : Array Value) : laidMetH Tryd.prog laidL ((World.doorLaid Tryd.prog 400 os).forCall (fun _ _ => 0) ⟨#[], args, []⟩).memory :=
  laidMetH_of_parts3 (fuel := 8) (laidMet_of_run' 8 (by kernel_rfl) (by kernel_rfl)) (by kernel_rfl) (by kernel_rfl)
theorem bruijn_data : (Rows.laid_math_bits_deBruijn64tab : DataW Unit) = .agg (bruijn.map fun z => .lit (.int .u8 z)) := rfl
theorem tab_of_laid {W : World} (h : laidMetH Tryd.prog laidL W) : TabLies W := by
  rw [MakeChecks.laidMetH_plain _ _ _ (by kernel_rfl)] at h
  obtain ⟨ps, ⟨g0, t0, cs0, f0, p0, q0, hg0, ht0, hv0, hd0, _, _⟩, _, _⟩ := h
  obtain rfl := Option.some.inj (lTab.symm.trans hg0)
  obtain rfl := Option.some.inj (tTab.symm.trans ht0)
  obtain ⟨xs, m1, rfl, hx1, hlen, hn, hel⟩ := DataW.trod_array Tryd.underlying41 hd0
  have c5 : Tryd.prog.cellsOf 5 = 1 := by kernel_rfl
  rw [c5] at hel
  simp only [Prod.mk.injEq] at hx1
  have hx := hx1.1
  rw [bruijn_data, DataW.agg.injEq] at hx
  intro i hi
  have h0 := hel i hi
  obtain ⟨x, hxi⟩ : ∃ x, xs[i]? = some x := ⟨_, List.getElem?_eq_getElem (by omega)⟩
  rw [hxi] at h0
  obtain ⟨k, e1, e2, _⟩ := DataW.trod_int Tryd.underlying5 h0
  have e3 := congrArg (fun l => l[i]?) hx
  simp only [List.getElem?_map, hxi, Option.map_some, e2] at e3
  have e4 : bruijn.getD i 0 = k := by
    rw [List.getD_eq_getElem?_getD]
    cases hb : bruijn[i]? with
    | none => rw [hb] at e3; simp at e3
    | some z => rw [hb] at e3; simp at e3; simp [e3]
  have := World.var?_cell hg0 hv0 i
  rw [e4, this]
  have e5 := congrArg (fun l => l[0]?) e1
  simpa using e5
theorem u64_wf {a : Int} (h : (Lit.int .u64 a).wf = true) : U64 a := by
  simp only [Lit.wf, IntKind.min, IntKind.max, IntKind.bits, IntKind.signed] at h
  simp at h; unfold U64; omega
end Go.Proofs.YtncnoblecnelaaaDoor
end
