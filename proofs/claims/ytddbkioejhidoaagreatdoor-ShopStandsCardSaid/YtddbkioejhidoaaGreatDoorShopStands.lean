/- ShopStands: the walk of the law. -/
import Derived.Test.YtddbkioejhidoaaGreatDoorSk6
namespace Go.Proofs.YtddbkioejhidoaaGreatDoor
open Go.RowKit
set_option linter.unusedVariables false
set_option maxRecDepth 100000
set_option maxHeartbeats 4000000
theorem walk_ShopStands (a0 : Int) (a1 : Option Addr) (len1 cap1 : Nat) (z1 : Nat -> Nat -> Int) (W : World) (hE : ErrType W) (w0 : (Lit.int .i64 a0).wf = true) (w1 : MvIn W a1 len1 cap1 z1) :
   Calls Tryz.prog 10 #[.int .i64 a0, .slice a1 len1 cap1] W fun e w' => e = .returned (.bool true) /\ Below W.heap.size W w' := by
 refine Qo4 (AG := []) (Γ := [(34, .pure QgK), (35, .inl Tryz.f35 (Tryz.f35.body.getD .skip)), (19, .pure Qfs), (36, .inl Tryz.f36 (Tryz.f36.body.getD .skip)), (76, .mem (Qiq W)), (45, .mem recC.sh), (42, .mem verC.sh), (43, .mem ddsC.sh), (44, .pure Qdd), (46, .pure QN), (47, .pure QcL)]) Tryz.func10 rfl Qf Qc
   (.cons (shops_con W _) (.cons (⟨by kernel_rfl, rfl, rfl⟩) (.cons (QpI W _) (.cons (⟨by kernel_rfl, rfl, rfl⟩) (.cons (play_con W) (.cons (recH W _) (.cons (verH W _) (.cons (ddsH W _) (.cons (Qoq W _) (.cons (Qd1 W _) (.cons (Qhg W _) (.nil _ _ _))))))))))))
   [.c (.v (.int .i64 a0)), .c (.r a1 len1 cap1 len1 7 mvK z1)] (.bool true) 400 rfl ?_ rfl
 refine Qj (q := True /\ True /\ bif bif decide ((↑len1 : Int) <= (120 : Int)) then false else true then SV.o (aB true) = SV.o (aB true) else True /\ ∃ (s : PlS), [aI ((1 : Int) + Qgm a0 (6 : Int)), SA.c (.r a1 len1 cap1 len1 7 (fun (j : Nat) => bif Nat.beq j 6 then .u64 else .i64) z1)] = [aI s.1, SA.c (.r s.2 s.3 s.4 s.3 7 (fun (j : Nat) => bif Nat.beq j 6 then .u64 else .i64) s.5)] /\ eN /\ (((1 : Int) <= s.1 /\ s.1 <= (6 : Int)) /\ s.3 <= 3000 /\ Rws 7 mvK W (PlS.a s) (PlS.n s) s.4 s.5 /\ ∀ (i : Nat), i < s.3 -> U64 (s.5 i 6)) /\ ∀ (x : List Nat), True -> ∃ (s_1 : Sh × Unit × List Nat), [aP 0 0] = [aP 0 0] /\ [SB.abs (Qz shM ShS.z ShS.good (Qak s.1 (mvL s.5 s.3))) x] = [SB.abs (Qz shM ShS.z ShS.good s_1.1) s_1.2.2] /\ ((0 : Int) <= (Sh.s s_1.1).1 0 /\ (Sh.s s_1.1).1 0 < (1000000000 : Int)) /\ ∀ (x : List Nat × Unit), True -> (32 = 32 /\ RecW fun (j : Nat) => bif decide (j < 32) then Sh.cur s_1.1 j else (0 : Int)) /\ (iR (27 : Int) (32 : Int)) /\ 27 < 32 /\ dP Tryz.f10 9 2 [⟨7, [], [0], [], true⟩, xF 6 0, xE 5, xR 4 1, xF 3 1, xE 2, xE 1, xR 0 1] /\ ∃ (s : Sh × Unit × List Nat), [aP 0 0] = [aP 0 0] /\ [SB.abs (Qz shM ShS.z ShS.good s_1.1) x.1] = [SB.abs (Qz shM ShS.z ShS.good s.1) s.2.2] /\ ((0 : Int) <= (Sh.s s.1).1 0 /\ (Sh.s s.1).1 0 < (1000000000 : Int)) /\ ∀ (x : List Nat × Unit), True -> bif IntKind.wrap .i64 (Sh.cur s_1.1 27) == (Sh.s s.1).1 0 then (iR (28 : Int) (32 : Int)) /\ 28 < 32 /\ dP Tryz.f10 9 2 [⟨15, [], [0, 2], [], true⟩, xF 14 0, xE 13, xR 12 1, xF 11 1, xE 10, xE 9, xE 8, ⟨7, [], [0], [], true⟩, xF 6 0, xE 5, xR 4 1, xF 3 1, xE 2, xE 1, xR 0 1] /\ ∃ (s_2 : Sh × Unit × List Nat), [aP 0 0] = [aP 0 0] /\ [SB.abs (Qz shM ShS.z ShS.good s.1) x.1] = [SB.abs (Qz shM ShS.z ShS.good s_2.1) s_2.2.2] /\ List.length s_2.1.7 <= 1000000000 /\ ∀ (x : List Nat × RwR), (List.length s_2.1.7 <= x.2.1 /\ x.2.1 <= x.2.2) /\ IsR 6 Dd.at Dd.nil x.2.4 (List.map (fun (self : Vd) => self.2) s_2.1.7) -> List.length s_2.1.7 <= x.2.2 /\ bif IntKind.wrap .i64 (Sh.cur s_1.1 28) == (↑(List.length s_2.1.7) : Int) then (32 = 32 /\ ((0 : Int) <= bif true then Sh.cur s_1.1 0 else (0 : Int)) /\ (bif true then Sh.cur s_1.1 0 else (0 : Int)) <= (6 : Int)) /\ True /\ dP Tryz.f10 9 2 [xE 26, xE 25, xE 24, xE 23, xE 22, xE 21, xR 20 1, xE 19, xE 18, xE 17, xE 16, ⟨15, [], [0, 2], [2], true⟩, xF 14 0, xE 13, xR 12 1, xF 11 1, xE 10, xE 9, xE 8, ⟨7, [], [0], [], true⟩, xF 6 0, xE 5, xR 4 1, xF 3 1, xE 2, xE 1, xR 0 1] /\ SV.o (aB (Sh.cur s_1.1 0 == (1 : Int) + Qgm a0 (6 : Int))) = SV.o (aB true) else dP Tryz.f10 9 2 [xE 26, xE 25, xE 24, xE 23, xE 22, xE 21, xE 20, xE 19, xE 18, xE 17, xE 16, ⟨15, [], [0, 2], [2], true⟩, xF 14 0, xE 13, xR 12 1, xF 11 1, xE 10, xE 9, xE 8, ⟨7, [], [0], [], true⟩, xF 6 0, xE 5, xR 4 1, xF 3 1, xE 2, xE 1, xR 0 1] /\ SV.o (aB false) = SV.o (aB true) else dP Tryz.f10 9 2 [xE 26, xE 25, xE 24, xE 23, xE 22, xE 21, xE 20, xE 19, xE 18, xE 17, xE 16, xE 15, xE 14, xE 13, xE 12, xE 11, xE 10, xE 9, xE 8, ⟨7, [], [0], [], true⟩, xF 6 0, xE 5, xR 4 1, xF 3 1, xE 2, xE 1, xR 0 1] /\ SV.o (aB false) = SV.o (aB true)) (by kernel_rfl) ?_
 have k1 : 1 <= 1 + Qgm a0 6 := by have := Qen a0 6 (by decide); omega
 have k6 : 1 + Qgm a0 6 <= 6 := by have := QiS a0 6 (by decide); omega
 generalize 1 + Qgm a0 6 = K at k1 k6 ⊢
 refine ⟨trivial, trivial, Qmx (fun _ => rfl) (fun hh => ⟨trivial, ⟨K, a1, len1, cap1, z1⟩, rfl, rfl, ⟨⟨k1, k6⟩, (by show len1 <= 3000; omega), w1.1, w1.2⟩, fun x _ => ?_⟩)⟩
 obtain ⟨g, F, hs⟩ := Qjb k1 k6 len1 (mvL z1 len1) (Qo9 z1 len1) (by omega)
 have hs2 : (Qak K (mvL z1 len1)).steps <= 120000 := by omega
 have hL := F.lens (by omega)
 have hT := F.steps0
 have hI := F.i
 generalize Qak K (mvL z1 len1) = Z at *
 have hv := F.ver (by omega)
 have hS := hI.gl.sumR
 have hcb := hI.gl.cb
 have hB : (Z.deeds.length : Int) <= 1099511627776 := by omega
 have hcur : ∀ j, j < 32 -> Z.cur j = fL g.R.words j := fun j hj => F.cur hj
 have hR := (RecW.of hS.ok hB (f := fun j => bif decide (j < 32) then Z.cur j else 0) (QeW hS.ok (fun j hj => by show (bif decide (j < 32) then Z.cur j else 0) = _; rw [decide_eq_true hj]; exact hcur j hj))).1
 have hc := Qow g.R (XR hS.ok.ok) hS.ok.a4 hS.ok.w4
 have c0 : Z.cur 0 = K := (hcur 0 (by decide)).trans hS.kind
 have c27 : Z.cur 27 = Z.s.now 0 := (hcur 27 (by decide)).trans (hc.2.1.trans (hI.gl.verR.trans hI.gl.now0.symm))
 have c28 : Z.cur 28 = (Z.deeds.length : Int) := (hcur 28 (by decide)).trans (hc.1.trans hS.cnt)
 refine ⟨(Z, (), x), rfl, rfl, hv, fun y _ => ⟨⟨rfl, hR⟩, ⟨by decide, by decide⟩, by decide, Qd (by kernel_rfl), (Z, (), y.1), rfl, rfl, hv, fun y2 _ => Q7 (fun _ => ⟨⟨by decide, by decide⟩, by decide, Qd (by kernel_rfl), (Z, (), y2.1), rfl, rfl, hL.2, fun y3 hy3 => ⟨Nat.le_trans hy3.1.1 hy3.1.2, Q7 (fun _ => ⟨⟨rfl, ?_, ?_⟩, trivial, Qd (by kernel_rfl), svB (beq_iff_eq.2 c0)⟩) (fun h => absurd ?_ h)⟩⟩) (fun h => absurd ?_ h)⟩⟩
 · show 0 <= Z.cur 0; rw [c0]; omega
 · show Z.cur 0 <= 6; rw [c0]; omega
 · show IntKind.wrap .i64 (Z.cur 28) = (Z.deeds.length : Int)
   rw [c28]; exact QC (by omega) (by omega)
 · show IntKind.wrap .i64 (Z.cur 27) = Z.s.now 0
   rw [c27]; exact QC (by omega) (by omega)
end Go.Proofs.YtddbkioejhidoaaGreatDoor
