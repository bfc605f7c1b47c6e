/- RecordTwice: the walk of the law. -/
import Derived.Test.YtacgihekdmoceaaRc4
namespace Go.Proofs.Ytacgihekdmoceaa
open Go.RowKit
set_option linter.unusedVariables false
set_option maxRecDepth 100000
set_option maxHeartbeats 4000000
theorem walk_RecordTwice (a0 : Int) (a1 : Option Addr) (len1 cap1 : Nat) (z1 : Nat → Nat → Int) (a2 : Int) (u0 u1 u2 q0 q1 q2 : Int) (W : World) (w0 : (Lit.int .i64 a0).wf = true) (w1 : Rws 6 (fun _ => .i64) W a1 len1 cap1 z1) (w2 : (Lit.int .i64 a2).wf = true) :
    Calls Try.prog 4 #[.int .i64 a0, .slice a1 len1 cap1, .int .i64 a2, .agg #[.int .i64 u0, .int .i64 u1, .int .i64 u2], .agg #[.int .i64 q0, .int .i64 q1, .int .i64 q2]] W fun e w' => e = .returned (.bool true) ∧ Below W.heap.size W w' := by
  refine once_of_run (AG := []) (Γ := [(7, .pure conRecorded), (13, .pure conOpRight), (9, .pure conKindOf), (8, .pure (conWritten W)), (11, .pure conPick), (10, .pure conRDone)]) Try.func4 rfl tabK_ok tabK_tys
    (.cons (recorded_con W _) (.cons (opRight_con W _) (.cons (kindOf_con W _) (.cons (written_con W) (.cons (pick_con W _) (.cons (rdone_con W _) (.nil _ _ _)))))))
    [.c (.v (.int .i64 a0)), .c (.r a1 len1 cap1 len1 6 (fun _ => .i64) z1), .c (.v (.int .i64 a2)), .a [.one (.v (.int .i64 u0)), .one (.v (.int .i64 u1)), .one (.v (.int .i64 u2))], .a [.one (.v (.int .i64 q0)), .one (.v (.int .i64 q1)), .one (.v (.int .i64 q2))]] (.bool true) 400 rfl ?_ rfl
  refine by_eq (q :=
      True ∧ True ∧ bif bif opOk u0 u1 u2 then false else true then SV.o (SA.c (.v (Value.bool true))) = SV.o (SA.c (.v (Value.bool true))) else True ∧ bif bif opOk q0 q1 q2 then false else true then SV.o (SA.c (.v (Value.bool true))) = SV.o (SA.c (.v (Value.bool true))) else True ∧ ((1 : Int) ≤ (1 : Int) + pickZ a0 (6 : Int) ∧ (1 : Int) + pickZ a0 (6 : Int) ≤ (6 : Int) ∧ len1 = len1 ∧ 6 = 6 ∧ (AllI fun (x : Nat) => .i64) ∧ Rws 6 (fun (x : Nat) => .i64) W a1 len1 cap1 z1) ∧ ((0 : Int) < (4 : Int) ∧ (4 : Int) ≤ (9223372036854775807 : Int)) ∧ (32 = 32 ∧ RecW (fL (Rec.words (wrTo ((1 : Int) + pickZ a0 (6 : Int)) z1 (min len1 30)))) ∧ (0 : Int) ≤ pickZ a2 (4 : Int) ∧ pickZ a2 (4 : Int) < (4 : Int)) ∧ bif opOk u0 u1 u2 then (32 = 32 ∧ RecW (fL (Rec.words (Rec.done (Rec.ofW (toN 32 (fL (Rec.words (wrTo ((1 : Int) + pickZ a0 (6 : Int)) z1 (min len1 30)))))) (Int.toNat (pickZ a2 (4 : Int))) u0 u1 u2))) ∧ (0 : Int) ≤ pickZ a2 (4 : Int) ∧ pickZ a2 (4 : Int) < (4 : Int)) ∧ bif opOk q0 q1 q2 then ((0 : Int) ≤ (26 : Int) ∧ (26 : Int) < (32 : Int)) ∧ 26 < 32 ∧ ((0 : Int) ≤ (26 : Int) ∧ (26 : Int) < (32 : Int)) ∧ 26 < 32 ∧ bif fL (Rec.words (Rec.done (Rec.ofW (toN 32 (fL (Rec.words (Rec.done (Rec.ofW (toN 32 (fL (Rec.words (wrTo ((1 : Int) + pickZ a0 (6 : Int)) z1 (min len1 30)))))) (Int.toNat (pickZ a2 (4 : Int))) u0 u1 u2))))) (Int.toNat (pickZ a2 (4 : Int))) q0 q1 q2)) 26 == fL (Rec.words (wrTo ((1 : Int) + pickZ a0 (6 : Int)) z1 (min len1 30))) 26 then ((0 : Int) ≤ (28 : Int) ∧ (28 : Int) < (32 : Int)) ∧ 28 < 32 ∧ ((0 : Int) ≤ (28 : Int) ∧ (28 : Int) < (32 : Int)) ∧ 28 < 32 ∧ bif fL (Rec.words (Rec.done (Rec.ofW (toN 32 (fL (Rec.words (Rec.done (Rec.ofW (toN 32 (fL (Rec.words (wrTo ((1 : Int) + pickZ a0 (6 : Int)) z1 (min len1 30)))))) (Int.toNat (pickZ a2 (4 : Int))) u0 u1 u2))))) (Int.toNat (pickZ a2 (4 : Int))) q0 q1 q2)) 28 == IntKind.wrap .u64 (fL (Rec.words (wrTo ((1 : Int) + pickZ a0 (6 : Int)) z1 (min len1 30))) 28 + (2 : Int)) then ((0 : Int) ≤ (27 : Int) ∧ (27 : Int) < (32 : Int)) ∧ 27 < 32 ∧ ((0 : Int) ≤ (27 : Int) ∧ (27 : Int) < (32 : Int)) ∧ 27 < 32 ∧ SV.o (SA.c (SC.v (Value.bool (fL (Rec.words (Rec.done (Rec.ofW (toN 32 (fL (Rec.words (Rec.done (Rec.ofW (toN 32 (fL (Rec.words (wrTo ((1 : Int) + pickZ a0 (6 : Int)) z1 (min len1 30)))))) (Int.toNat (pickZ a2 (4 : Int))) u0 u1 u2))))) (Int.toNat (pickZ a2 (4 : Int))) q0 q1 q2)) 27 == fL (Rec.words (wrTo ((1 : Int) + pickZ a0 (6 : Int)) z1 (min len1 30))) 27)))) = SV.o (SA.c (.v (Value.bool true))) else SV.o (SA.c (.v (Value.bool false))) = SV.o (SA.c (.v (Value.bool true))) else SV.o (SA.c (.v (Value.bool false))) = SV.o (SA.c (.v (Value.bool true))) else SV.o (SA.c (.v (Value.bool false))) = SV.o (SA.c (.v (Value.bool true))) else (32 = 32 ∧ (RecW fun (x : Nat) => (0 : Int)) ∧ (0 : Int) ≤ pickZ a2 (4 : Int) ∧ pickZ a2 (4 : Int) < (4 : Int)) ∧ bif opOk q0 q1 q2 then SV.o (SA.c (.v (Value.bool false))) = SV.o (SA.c (.v (Value.bool true))) else SV.o (SA.c (.v (Value.bool false))) = SV.o (SA.c (.v (Value.bool true)))) (by kernel_rfl) ?_
  have h1 := pickZ_nonneg a0 6 (by decide)
  have h2 := pickZ_lt a0 6 (by decide)
  have p0 := pickZ_nonneg a2 4 (by decide)
  have p4 := pickZ_lt a2 4 (by decide)
  have hr := wrTo_ok (1 + pickZ a0 6) z1 (by omega) (by omega) (min len1 30)
  have hk : ((min len1 30 : Nat) : Int) ≤ 30 := by omega
  generalize hR : wrTo (1 + pickZ a0 6) z1 (min len1 30) = r at *
  have hf := rec_fL hr (by omega)
  have hT := pick4 a2
  generalize hTT : (pickZ a2 4).toNat = T at *
  rw [hf.2]
  refine ⟨trivial, trivial, by_nb (fun _ => rfl) (fun ho => ⟨trivial, by_nb (fun _ => rfl) (fun hq => ⟨trivial, ⟨by omega, by omega, rfl, rfl, rfl, w1⟩, ⟨by decide, by decide⟩, ⟨rfl, hf.1, p0, p4⟩, ?_⟩)⟩)⟩
  have hd := hr.done T hT u0 u1 u2 ho
  have hf2 := rec_fL hd (by omega)
  rw [hf2.2]
  have he := hd.done T hT q0 q1 q2 hq
  have hc := fL_cnt _ (objOK_len he.ok) he.a4 he.w4
  have hc2 := fL_cnt _ (objOK_len hr.ok) hr.a4 hr.w4
  have c0 := hr.c0
  have c1 := hr.c1
  rw [hc.1, hc.2.1, hc.2.2, hc2.1, hc2.2.1, hc2.2.2]
  refine by_cond (fun _ => ⟨⟨rfl, hf2.1, p0, p4⟩, by_cond (fun _ => ⟨⟨by decide, by decide⟩, by decide, ⟨by decide, by decide⟩, by decide, by_beq (fun _ => ⟨⟨by decide, by decide⟩, by decide, ⟨by decide, by decide⟩, by decide, by_beq (fun _ => ⟨⟨by decide, by decide⟩, by decide, ⟨by decide, by decide⟩, by decide, svB (beq_iff_eq.2 rfl)⟩) (fun h => absurd ?_ h)⟩) (fun h => absurd ?_ h)⟩) (fun h => absurd (hq.symm.trans h) (by decide))⟩) (fun h => absurd (ho.symm.trans h) (by decide))
  · rw [wrapU (by omega) (by omega)]; show r.cnt + 1 + 1 = r.cnt + 2; omega
  · exact togFlip_twice r.tog T hT hr.g0 hr.g1
end Go.Proofs.Ytacgihekdmoceaa
