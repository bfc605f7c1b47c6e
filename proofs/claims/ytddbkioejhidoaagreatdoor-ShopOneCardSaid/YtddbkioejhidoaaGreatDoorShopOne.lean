/- ShopOne: the walk of the law. -/
import Derived.Test.YtddbkioejhidoaaGreatDoorSk6
namespace Go.Proofs.YtddbkioejhidoaaGreatDoor
open Go.RowKit
set_option linter.unusedVariables false
set_option maxRecDepth 100000
set_option maxHeartbeats 4000000
structure OneG where
 i : Nat
 F : List Nat
 hi : i <= 4
def annOne (z : Sh) : Ann where
 σ := OneG
 I g := ([(5, .o (.c (.p 0 0))), (6, sv (.int .i64 (cntH z g.i : Nat))), (7, sv (.int .i64 g.i))], [.abs (Qz shM ShS.z ShS.good z) g.F])
 dec g := 4 - g.i
 pi env _ := [blkE env 5]
 nz := []
theorem walk_ShopOne (a0 : Int) (a1 : Option Addr) (len1 cap1 : Nat) (z1 : Nat -> Nat -> Int) (W : World) (hE : ErrType W) (w0 : (Lit.int .i64 a0).wf = true) (w1 : MvIn W a1 len1 cap1 z1) :
   Calls Tryz.prog 8 #[.int .i64 a0, .slice a1 len1 cap1] W fun e w' => e = .returned (.bool true) /\ Below W.heap.size W w' := by
 refine Qo4 (AG := [(8, [(0, annOne (Qak (1 + Qgm a0 6) (mvL z1 len1)))])]) (Γ := [(34, .pure QgK), (35, .inl Tryz.f35 (Tryz.f35.body.getD .skip)), (19, .pure Qfs), (36, .inl Tryz.f36 (Tryz.f36.body.getD .skip)), (76, .mem (Qiq W)), (38, .mem Qio.sh)]) Tryz.func8 rfl Qf Qc
   (.cons (shops_con W _) (.cons (⟨by kernel_rfl, rfl, rfl⟩) (.cons (QpI W _) (.cons (⟨by kernel_rfl, rfl, rfl⟩) (.cons (play_con W) (.cons (doesH W _) (.nil _ _ _)))))))
   [.c (.v (.int .i64 a0)), .c (.r a1 len1 cap1 len1 7 mvK z1)] (.bool true) 400 rfl ?_ rfl
 refine Qj (q := True /\ bif bif decide ((↑len1 : Int) <= (120 : Int)) then false else true then SV.o (aB true) = SV.o (aB true) else True /\ ∃ (s : PlS), [aI ((1 : Int) + Qgm a0 (6 : Int)), SA.c (.r a1 len1 cap1 len1 7 (fun (j : Nat) => bif Nat.beq j 6 then .u64 else .i64) z1)] = [aI s.1, SA.c (.r s.2 s.3 s.4 s.3 7 (fun (j : Nat) => bif Nat.beq j 6 then .u64 else .i64) s.5)] /\ eN /\ (((1 : Int) <= s.1 /\ s.1 <= (6 : Int)) /\ s.3 <= 3000 /\ Rws 7 mvK W (PlS.a s) (PlS.n s) s.4 s.5 /\ ∀ (i : Nat), i < s.3 -> U64 (s.5 i 6)) /\ ∀ (x : List Nat), True -> (∃ (s0 : Ann.σ (annOne (Qak ((1 : Int) + Qgm a0 (6 : Int)) (mvL z1 len1)))), (eS (aP 0 0) (aP 0 0) /\ eS (aI 0) (aI (↑(cntH (Qak ((1 : Int) + Qgm a0 (6 : Int)) (mvL z1 len1)) s0.1) : Int)) /\ eS (aI 0) (aI ↑s0.1) /\ True) /\ [SB.abs (Qz shM ShS.z ShS.good (Qak s.1 (mvL s.5 s.3))) x] = [SB.abs (Qz shM ShS.z ShS.good (Qak ((1 : Int) + Qgm a0 (6 : Int)) (mvL z1 len1))) s0.2]) /\ ∀ (s : OneG), bif decide ((↑s.1 : Int) < (4 : Int)) then ∃ (s_1 : Sh × Nat × List Nat), [aP 0 0, aI ↑s.1] = [aP 0 0, aI (↑s_1.2.1 : Int)] /\ [SB.abs (Qz shM ShS.z ShS.good (Qak ((1 : Int) + Qgm a0 (6 : Int)) (mvL z1 len1))) s.2] = [SB.abs (Qz shM ShS.z ShS.good s_1.1) s_1.2.2] /\ s_1.2.1 < 4 /\ ∀ (x : List Nat × Unit), True -> bif decide ((Sh.w s_1.1 s_1.2.1).2 >= (4 : Int)) then bif decide ((Sh.w s_1.1 s_1.2.1).2 <= (15 : Int)) then ∃ (s' : OneG), ((eS (aP 0 0) (aP 0 0) /\ eS (aI (IntKind.wrap .i64 ((↑(cntH (Qak ((1 : Int) + Qgm a0 (6 : Int)) (mvL z1 len1)) s.1) : Int) + (1 : Int)))) (aI (↑(cntH (Qak ((1 : Int) + Qgm a0 (6 : Int)) (mvL z1 len1)) s'.1) : Int)) /\ eS (aI (IntKind.wrap .i64 ((↑s.1 : Int) + (1 : Int)))) (aI ↑s'.1) /\ True) /\ [SB.abs (Qz shM ShS.z ShS.good s_1.1) x.1] = [SB.abs (Qz shM ShS.z ShS.good (Qak ((1 : Int) + Qgm a0 (6 : Int)) (mvL z1 len1))) s'.2]) /\ 4 - s'.1 < 4 - s.1 else ∃ (s' : OneG), ((eS (aP 0 0) (aP 0 0) /\ eS (aI (↑(cntH (Qak ((1 : Int) + Qgm a0 (6 : Int)) (mvL z1 len1)) s.1) : Int)) (aI (↑(cntH (Qak ((1 : Int) + Qgm a0 (6 : Int)) (mvL z1 len1)) s'.1) : Int)) /\ eS (aI (IntKind.wrap .i64 ((↑s.1 : Int) + (1 : Int)))) (aI ↑s'.1) /\ True) /\ [SB.abs (Qz shM ShS.z ShS.good s_1.1) x.1] = [SB.abs (Qz shM ShS.z ShS.good (Qak ((1 : Int) + Qgm a0 (6 : Int)) (mvL z1 len1))) s'.2]) /\ 4 - s'.1 < 4 - s.1 else ∃ (s' : OneG), ((eS (aP 0 0) (aP 0 0) /\ eS (aI (↑(cntH (Qak ((1 : Int) + Qgm a0 (6 : Int)) (mvL z1 len1)) s.1) : Int)) (aI (↑(cntH (Qak ((1 : Int) + Qgm a0 (6 : Int)) (mvL z1 len1)) s'.1) : Int)) /\ eS (aI (IntKind.wrap .i64 ((↑s.1 : Int) + (1 : Int)))) (aI ↑s'.1) /\ True) /\ [SB.abs (Qz shM ShS.z ShS.good s_1.1) x.1] = [SB.abs (Qz shM ShS.z ShS.good (Qak ((1 : Int) + Qgm a0 (6 : Int)) (mvL z1 len1))) s'.2]) /\ 4 - s'.1 < 4 - s.1 else SV.o (aB (decide ((↑(cntH (Qak ((1 : Int) + Qgm a0 (6 : Int)) (mvL z1 len1)) s.1) : Int) <= (1 : Int)))) = SV.o (aB true)) (by kernel_rfl) ?_
 have k1 : 1 <= 1 + Qgm a0 6 := by have := Qen a0 6 (by decide); omega
 have k6 : 1 + Qgm a0 6 <= 6 := by have := QiS a0 6 (by decide); omega
 generalize 1 + Qgm a0 6 = K at k1 k6 ⊢
 refine ⟨trivial, Qmx (fun _ => rfl) (fun hh => ⟨trivial, ⟨K, a1, len1, cap1, z1⟩, rfl, rfl, ⟨⟨k1, k6⟩, (by show len1 <= 3000; omega), w1.1, w1.2⟩, fun x _ => ?_⟩)⟩
 obtain ⟨g, F, hs⟩ := Qjb k1 k6 len1 (mvL z1 len1) (Qo9 z1 len1) (by omega)
 have hs2 : (Qak K (mvL z1 len1)).steps <= 120000 := by omega
 have hL := F.lens (by omega)
 have hT := F.steps0
 have hI := F.i
 generalize Qak K (mvL z1 len1) = Z at *
 refine ⟨⟨⟨0, x, by decide⟩, ⟨rfl, rfl, rfl, trivial⟩, rfl⟩, ?_⟩
 rintro ⟨i, G, hi⟩
 dsimp only
 have hc := Qpt (z := Z) i
 refine Qp (fun hlt => ⟨(Z, i, G), rfl, rfl, (by show i < 4; omega), fun y _ => ?_⟩) (fun hge => ?_)
 · have hi1 : i + 1 <= 4 := by omega
   have e0 (h : ¬ (4 <= (Z.w i).does /\ (Z.w i).does <= 15)) : cntH Z i = cntH Z (i + 1) := by simp only [cntH]; rw [if_neg h]; rfl
   have e1 (h : 4 <= (Z.w i).does /\ (Z.w i).does <= 15) : cntH Z (i + 1) = cntH Z i + 1 := by simp only [cntH]; rw [if_pos h]
   refine Qp (fun h4 => Qp (fun h15 => ?_) (fun h15 => ?_)) (fun h4 => ?_)
   · exact ⟨⟨i + 1, y.1, hi1⟩, ⟨⟨rfl, svI (by rw [sucI (by omega)]; exact congrArg Nat.cast (e1 ⟨h4, h15⟩).symm), svI (sucI (by omega)), trivial⟩, rfl⟩, by dsimp only; omega⟩
   · exact ⟨⟨i + 1, y.1, hi1⟩, ⟨⟨rfl, svI (congrArg Nat.cast (e0 (fun h => h15 h.2))), svI (sucI (by omega)), trivial⟩, rfl⟩, by dsimp only; omega⟩
   · exact ⟨⟨i + 1, y.1, hi1⟩, ⟨⟨rfl, svI (congrArg Nat.cast (e0 (fun h => h4 h.1))), svI (sucI (by omega)), trivial⟩, rfl⟩, by dsimp only; omega⟩
 · obtain rfl : i = 4 := by omega
   have := hI.one
   exact svB (decide_eq_true (by omega))
end Go.Proofs.YtddbkioejhidoaaGreatDoor
