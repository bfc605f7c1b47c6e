/- ShopAhead: the walk of the law. -/
import Derived.Test.YtddbkioejhidoaaGreatDoorSk6
namespace Go.Proofs.YtddbkioejhidoaaGreatDoor
open Go.RowKit
set_option linter.unusedVariables false
set_option maxRecDepth 100000
set_option maxHeartbeats 4000000
structure IdlG (z : Sh) (P : Wk -> Prop) where
 i : Nat
 F : List Nat
 hi : i <= 4
 h : ∀ u, u < i -> P (z.w u)
def annIdl (z : Sh) (P : Wk -> Prop) (ex : Env) (sp st : Nat) : Ann where
 σ := IdlG z P
 I g := (ex ++ [(sp, .o (.c (.p 0 0))), (st, sv (.int .i64 g.i))], [.abs (Qz shM ShS.z ShS.good z) g.F])
 dec g := 4 - g.i
 pi env _ := [blkE env sp]
 nz := []
theorem walk_ShopAhead (a0 : Int) (a1 : Option Addr) (len1 cap1 : Nat) (z1 : Nat -> Nat -> Int) (a2 : Int) (W : World) (hE : ErrType W) (w0 : (Lit.int .i64 a0).wf = true) (w1 : MvIn W a1 len1 cap1 z1) (w2 : (Lit.int .u64 a2).wf = true) :
   Calls Tryz.prog 13 #[.int .i64 a0, .slice a1 len1 cap1, .int .u64 a2] W fun e w' => e = .returned (.bool true) /\ Below W.heap.size W w' := by
 refine Qo4 (AG := [(13, [(0, annIdl (Qak (1 + Qgm a0 6) (mvL z1 len1)) (fun w => w.does ≠ 12 /\ w.does ≠ 13) [(2, sv (.int .u64 a2))] 7 8)])]) (Γ := [(34, .pure QgK), (35, .inl Tryz.f35 (Tryz.f35.body.getD .skip)), (19, .pure Qfs), (36, .inl Tryz.f36 (Tryz.f36.body.getD .skip)), (76, .mem (Qiq W)), (38, .mem Qio.sh), (45, .mem recC.sh), (43, .mem ddsC.sh), (42, .mem verC.sh), (50, .mem craC.sh), (51, .mem Qfu)]) Tryz.func13 rfl Qf Qc
   (.cons (shops_con W _) (.cons (⟨by kernel_rfl, rfl, rfl⟩) (.cons (QpI W _) (.cons (⟨by kernel_rfl, rfl, rfl⟩) (.cons (play_con W) (.cons (doesH W _) (.cons (recH W _) (.cons (ddsH W _) (.cons (verH W _) (.cons (craH W _) (.cons (eqrD_con W _) (.nil _ _ _))))))))))))
   [.c (.v (.int .i64 a0)), .c (.r a1 len1 cap1 len1 7 mvK z1), .c (.v (.int .u64 a2))] (.bool true) 400 rfl ?_ rfl
 refine Qj (q := True /\ bif bif decide ((↑len1 : Int) <= (120 : Int)) then false else true then SV.o (aB true) = SV.o (aB true) else True /\ ∃ (s : PlS), [aI ((1 : Int) + Qgm a0 (6 : Int)), SA.c (.r a1 len1 cap1 len1 7 (fun (j : Nat) => bif Nat.beq j 6 then .u64 else .i64) z1)] = [aI s.1, SA.c (.r s.2 s.3 s.4 s.3 7 (fun (j : Nat) => bif Nat.beq j 6 then .u64 else .i64) s.5)] /\ eN /\ (((1 : Int) <= s.1 /\ s.1 <= (6 : Int)) /\ s.3 <= 3000 /\ Rws 7 mvK W (PlS.a s) (PlS.n s) s.4 s.5 /\ ∀ (i : Nat), i < s.3 -> U64 (s.5 i 6)) /\ ∀ (x : List Nat), True -> (∃ (s0 : Ann.σ (annIdl (Qak ((1 : Int) + Qgm a0 (6 : Int)) (mvL z1 len1)) (fun (w : Wk) => Wk.does w ≠ (12 : Int) /\ Wk.does w ≠ (13 : Int)) [(2, sv (Value.int .u64 a2))] 7 8)), (eS (aU a2) (aU a2) /\ eS (aP 0 0) (aP 0 0) /\ eS (aI 0) (aI ↑s0.1) /\ True) /\ [SB.abs (Qz shM ShS.z ShS.good (Qak s.1 (mvL s.5 s.3))) x] = [SB.abs (Qz shM ShS.z ShS.good (Qak ((1 : Int) + Qgm a0 (6 : Int)) (mvL z1 len1))) s0.2]) /\ ∀ (s : IdlG (Qak ((1 : Int) + Qgm a0 (6 : Int)) (mvL z1 len1)) fun (w : Wk) => w.2 ≠ (12 : Int) /\ w.2 ≠ (13 : Int)), bif decide ((↑s.1 : Int) < (4 : Int)) then ∃ (s_1 : Sh × Nat × List Nat), [aP 0 0, aI ↑s.1] = [aP 0 0, aI (↑s_1.2.1 : Int)] /\ [SB.abs (Qz shM ShS.z ShS.good (Qak ((1 : Int) + Qgm a0 (6 : Int)) (mvL z1 len1))) s.2] = [SB.abs (Qz shM ShS.z ShS.good s_1.1) s_1.2.2] /\ s_1.2.1 < 4 /\ ∀ (x : List Nat × Unit), True -> bif (Sh.w s_1.1 s_1.2.1).2 == (12 : Int) then SV.o (aB true) = SV.o (aB true) else bif (Sh.w s_1.1 s_1.2.1).2 == (13 : Int) then SV.o (aB true) = SV.o (aB true) else ∃ (s' : IdlG (Qak ((1 : Int) + Qgm a0 (6 : Int)) (mvL z1 len1)) fun (w : Wk) => w.2 ≠ (12 : Int) /\ w.2 ≠ (13 : Int)), ((eS (aU a2) (aU a2) /\ eS (aP 0 0) (aP 0 0) /\ eS (aI (IntKind.wrap .i64 ((↑s.1 : Int) + (1 : Int)))) (aI ↑s'.1) /\ True) /\ [SB.abs (Qz shM ShS.z ShS.good s_1.1) x.1] = [SB.abs (Qz shM ShS.z ShS.good (Qak ((1 : Int) + Qgm a0 (6 : Int)) (mvL z1 len1))) s'.2]) /\ 4 - s'.1 < 4 - s.1 else ∃ (s_1 : Sh × Unit × List Nat), [aP 0 0] = [aP 0 0] /\ [SB.abs (Qz shM ShS.z ShS.good (Qak ((1 : Int) + Qgm a0 (6 : Int)) (mvL z1 len1))) s.2] = [SB.abs (Qz shM ShS.z ShS.good s_1.1) s_1.2.2] /\ List.length s_1.1.7 <= 1000000000 /\ ∀ (x : List Nat × RwR), (List.length s_1.1.7 <= x.2.1 /\ x.2.1 <= x.2.2) /\ IsR 6 Dd.at Dd.nil x.2.4 (List.map (fun (self : Vd) => self.2) s_1.1.7) -> ∃ (s : Sh × Unit × List Nat), [aP 0 0] = [aP 0 0] /\ [SB.abs (Qz shM ShS.z ShS.good s_1.1) x.1] = [SB.abs (Qz shM ShS.z ShS.good s.1) s.2.2] /\ ((0 : Int) <= (Sh.s s.1).1 0 /\ (Sh.s s.1).1 0 < (1000000000 : Int)) /\ ∀ (x_1 : List Nat × Unit), True -> ∃ (s_2 : Sh × Unit × List Nat), [aP 0 0] = [aP 0 0] /\ [SB.abs (Qz shM ShS.z ShS.good s.1) x_1.1] = [SB.abs (Qz shM ShS.z ShS.good s_2.1) s_2.2.2] /\ ((0 : Int) <= (Sh.s s_2.1).1 0 /\ (Sh.s s_2.1).1 0 < (1000000000 : Int)) /\ ∀ (x_2 : List Nat × Unit), True -> ∃ (s_3 : Sh × Int × List Nat), [aP 0 0, aU a2] = [aP 0 0, aU s_3.2.1] /\ [SB.abs (Qz shM ShS.z ShS.good s_2.1) x_2.1] = [SB.abs (Qz shM ShS.z ShS.good s_3.1) s_3.2.2] /\ QkG s_3.1 s_3.2.1 /\ ∀ (x_3 : List Nat × Unit), True -> dP Tryz.f13 16 3 [⟨1, [], [0, 3], [], true⟩, xF 2 1, xF 0 0] /\ ∃ (s_4 : Sh × Unit × List Nat), [aP 0 0] = [aP 0 0] /\ [SB.abs (Qz shM ShS.z ShS.good (Sh.crash s_3.1 s_3.2.1)) x_3.1] = [SB.abs (Qz shM ShS.z ShS.good s_4.1) s_4.2.2] /\ List.length s_4.1.7 <= 1000000000 /\ ∀ (x_4 : List Nat × RwR), (List.length s_4.1.7 <= x_4.2.1 /\ x_4.2.1 <= x_4.2.2) /\ IsR 6 Dd.at Dd.nil x_4.2.4 (List.map (fun (self : Vd) => self.2) s_4.1.7) -> ∃ (s_5 : EqRS Dd), [SA.c (.so 3 0 6 (List.length s_4.1.7) x_4.2.2 x_4.2.3), SA.c (.so 1 0 6 (List.length s_1.1.7) x.2.2 x.2.3)] = [SA.c (.so 3 0 6 (List.length s_5.1) s_5.3 s_5.4), SA.c (.so 1 0 6 (List.length s_5.1) s_5.7 s_5.8)] /\ [wkD x_4.2.1 x_4.2.2 x_4.2.4, wkD x.2.1 x.2.2 x.2.4] = [wkD s_5.2 s_5.3 s_5.5, wkD s_5.6 s_5.7 s_5.9] /\ (List.length s_5.1 <= 1000000000 /\ (List.length s_5.1 <= s_5.2 /\ s_5.2 <= s_5.3) /\ IsR 6 Dd.at Dd.nil s_5.5 s_5.1 /\ (List.length s_5.1 <= s_5.6 /\ s_5.6 <= s_5.7) /\ IsR 6 Dd.at Dd.nil s_5.9 s_5.1) /\ ∀ (x : Unit), True -> dP Tryz.f13 16 3 [⟨6, [], [0], [], true⟩, xE 7, xF 5 0, xE 4, ⟨3, [], [3, 1], [], false⟩, ⟨1, [], [0, 3], [3], true⟩, xF 2 1, xF 0 0] /\ ∃ (s_6 : Sh × Unit × List Nat), [aP 0 0] = [aP 0 0] /\ [SB.abs (Qz shM ShS.z ShS.good s_4.1) x_4.1] = [SB.abs (Qz shM ShS.z ShS.good s_6.1) s_6.2.2] /\ ((0 : Int) <= (Sh.s s_6.1).1 0 /\ (Sh.s s_6.1).1 0 < (1000000000 : Int)) /\ ∀ (x : List Nat × Unit), True -> bif (Sh.s s_6.1).1 0 == (Sh.s s.1).1 0 then dP Tryz.f13 16 3 [⟨12, [], [0], [], true⟩, xR 13 2, xF 11 0, xE 10, xE 9, xE 8, ⟨6, [], [0], [], true⟩, xE 7, xF 5 0, xE 4, ⟨3, [], [3, 1], [], false⟩, ⟨1, [], [0, 3], [3], true⟩, xF 2 1, xF 0 0] /\ ∃ (s : Sh × Unit × List Nat), [aP 0 0] = [aP 0 0] /\ [SB.abs (Qz shM ShS.z ShS.good s_6.1) x.1] = [SB.abs (Qz shM ShS.z ShS.good s.1) s.2.2] /\ ((0 : Int) <= (Sh.s s.1).1 0 /\ (Sh.s s.1).1 0 < (1000000000 : Int)) /\ ∀ (x : List Nat × Unit), True -> dP Tryz.f13 16 3 [xE 16, xE 15, xE 14, ⟨12, [], [0], [], true⟩, xR 13 2, xF 11 0, xE 10, xE 9, xE 8, ⟨6, [], [0], [], true⟩, xE 7, xF 5 0, xE 4, ⟨3, [], [3, 1], [], false⟩, ⟨1, [], [0, 3], [3], true⟩, xF 2 1, xF 0 0] /\ SV.o (aB (bif decide ([Sh.cur s.1 0, Sh.cur s.1 1, Sh.cur s.1 2, Sh.cur s.1 3, Sh.cur s.1 4, Sh.cur s.1 5, Sh.cur s.1 6, Sh.cur s.1 7, Sh.cur s.1 8, Sh.cur s.1 9, Sh.cur s.1 10, Sh.cur s.1 11, Sh.cur s.1 12, Sh.cur s.1 13, Sh.cur s.1 14, Sh.cur s.1 15, Sh.cur s.1 16, Sh.cur s.1 17, Sh.cur s.1 18, Sh.cur s.1 19, Sh.cur s.1 20, Sh.cur s.1 21, Sh.cur s.1 22, Sh.cur s.1 23, Sh.cur s.1 24, Sh.cur s.1 25, Sh.cur s.1 26, Sh.cur s.1 27, Sh.cur s.1 28, Sh.cur s.1 29, Sh.cur s.1 30, Sh.cur s.1 31] = [Sh.cur s_2.1 0, Sh.cur s_2.1 1, Sh.cur s_2.1 2, Sh.cur s_2.1 3, Sh.cur s_2.1 4, Sh.cur s_2.1 5, Sh.cur s_2.1 6, Sh.cur s_2.1 7, Sh.cur s_2.1 8, Sh.cur s_2.1 9, Sh.cur s_2.1 10, Sh.cur s_2.1 11, Sh.cur s_2.1 12, Sh.cur s_2.1 13, Sh.cur s_2.1 14, Sh.cur s_2.1 15, Sh.cur s_2.1 16, Sh.cur s_2.1 17, Sh.cur s_2.1 18, Sh.cur s_2.1 19, Sh.cur s_2.1 20, Sh.cur s_2.1 21, Sh.cur s_2.1 22, Sh.cur s_2.1 23, Sh.cur s_2.1 24, Sh.cur s_2.1 25, Sh.cur s_2.1 26, Sh.cur s_2.1 27, Sh.cur s_2.1 28, Sh.cur s_2.1 29, Sh.cur s_2.1 30, Sh.cur s_2.1 31]) then true else false)) = SV.o (aB true) else dP Tryz.f13 16 3 [xE 16, xE 15, xE 14, xE 12, xE 13, xE 11, xE 10, xE 9, xE 8, ⟨6, [], [0], [], true⟩, xE 7, xF 5 0, xE 4, ⟨3, [], [3, 1], [], false⟩, ⟨1, [], [0, 3], [3], true⟩, xF 2 1, xF 0 0] /\ SV.o (aB false) = SV.o (aB true)) (by kernel_rfl) ?_
 have k1 : 1 <= 1 + Qgm a0 6 := by have := Qen a0 6 (by decide); omega
 have k6 : 1 + Qgm a0 6 <= 6 := by have := QiS a0 6 (by decide); omega
 generalize 1 + Qgm a0 6 = K at k1 k6 ⊢
 refine ⟨trivial, Qmx (fun _ => rfl) (fun hh => ⟨trivial, ⟨K, a1, len1, cap1, z1⟩, rfl, rfl, ⟨⟨k1, k6⟩, (by show len1 <= 3000; omega), w1.1, w1.2⟩, fun x _ => ?_⟩)⟩
 obtain ⟨g, F, hs⟩ := Qjb k1 k6 len1 (mvL z1 len1) (Qo9 z1 len1) (by omega)
 have hs2 : (Qak K (mvL z1 len1)).steps <= 120000 := by omega
 have hL := F.lens (by omega)
 have hT := F.steps0
 have hI := F.i
 generalize Qak K (mvL z1 len1) = Z at *
 have hu : U64 a2 := wfU w2
 have hv := F.ver (by omega)
 refine ⟨⟨⟨0, x, by decide, fun u h => absurd h (Nat.not_lt_zero _)⟩, ⟨rfl, rfl, rfl, trivial⟩, rfl⟩, ?_⟩
 rintro ⟨i, G, hi, hp⟩
 dsimp only
 refine Qp (fun hlt => ⟨(Z, i, G), rfl, rfl, (by show i < 4; omega), fun y _ => Q7 (fun _ => rfl) (fun h12 => Q7 (fun _ => rfl) (fun h13 => ⟨⟨i + 1, y.1, by omega, fun u hu' => ?_⟩, ⟨⟨rfl, rfl, svI (sucI (by omega)), trivial⟩, rfl⟩, by dsimp only; omega⟩))⟩) (fun hge => ?_)
 · by_cases e : u = i
   · subst e; exact ⟨h12, h13⟩
   · exact hp u (by omega)
 obtain rfl : i = 4 := by omega
 obtain ⟨c1, c2, c3⟩ := F.ahead (fun u hu => hp u hu) a2
 obtain ⟨g2, F2⟩ := QnQ F a2
 have hcr := F.craOK (by omega) hu
 obtain ⟨Y, hY⟩ : ∃ Y, Y = Z.crash a2 := ⟨_, rfl⟩
 rw [<- hY] at c1 c2 c3
 have hv2 : 0 <= Y.s.now 0 /\ Y.s.now 0 < 1000000000 := by rw [c2]; exact hv
 refine ⟨(Z, (), G), rfl, rfl, hL.2, fun y hy => ⟨(Z, (), y.1), rfl, rfl, hv, fun y1 _ => ⟨(Z, (), y1.1), rfl, rfl, hv, fun y2 _ => ⟨(Z, a2, y2.1), rfl, rfl, hcr, fun y3 _ => ⟨Qd (by kernel_rfl), (Y, (), y3.1), rfl, abGo y3.1 hY.symm, (by show Y.deeds.length <= 1000000000; rw [c1]; exact hL.2), ?_⟩⟩⟩⟩⟩
 dsimp only
 rw [c1]
 intro y5 hy5
 refine ⟨eqDs Z.deeds y5.2 y.2, eqDs_args _ _ _ _ _, rfl, eqDs_pre hL.2 hy5 hy, fun _ _ => ⟨Qd (by kernel_rfl), (Y, (), y5.1), rfl, rfl, hv2, fun y6 _ => Q7 (fun _ => ⟨Qd (by kernel_rfl), (Y, (), y6.1), rfl, rfl, hv2, fun _ _ => ⟨Qd (by kernel_rfl), svB ?_⟩⟩) (fun h => absurd c2 h)⟩⟩
 dsimp only
 rw [c3 0 (by decide), c3 1 (by decide), c3 2 (by decide), c3 3 (by decide), c3 4 (by decide), c3 5 (by decide), c3 6 (by decide), c3 7 (by decide), c3 8 (by decide), c3 9 (by decide), c3 10 (by decide), c3 11 (by decide), c3 12 (by decide), c3 13 (by decide), c3 14 (by decide), c3 15 (by decide), c3 16 (by decide), c3 17 (by decide), c3 18 (by decide), c3 19 (by decide), c3 20 (by decide), c3 21 (by decide), c3 22 (by decide), c3 23 (by decide), c3 24 (by decide), c3 25 (by decide), c3 26 (by decide), c3 27 (by decide), c3 28 (by decide), c3 29 (by decide), c3 30 (by decide), c3 31 (by decide)]
 rw [decide_eq_true rfl]; rfl
end Go.Proofs.YtddbkioejhidoaaGreatDoor
