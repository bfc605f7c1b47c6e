/- ShopMasks: the walk of the law. -/
import Derived.Test.YtddbkioejhidoaaGreatDoorSk6
namespace Go.Proofs.YtddbkioejhidoaaGreatDoor
open Go.RowKit
set_option linter.unusedVariables false
set_option maxRecDepth 100000
set_option maxHeartbeats 4000000
/-- Of what lands only the first nine bits count. -/
theorem masks_bit {a b : Int} (ha : U64 a) (hb : U64 b) : U64 (bits .or .u64 a (IntKind.wrap .u64 (b * (512 : Int)))) /\ ∀ k : Nat, k < 9 -> bits .or .u64 a (IntKind.wrap .u64 (b * (512 : Int))) / 2 ^ k % 2 = a / 2 ^ k % 2 := by
 obtain ⟨x, rfl⟩ := Int.eq_ofNat_of_zero_le ha.1
 obtain ⟨y, rfl⟩ := Int.eq_ofNat_of_zero_le hb.1
 have hx : x < 2 ^ 64 := by have := ha.2; omega
 have e : IntKind.wrap .u64 ((y : Int) * (512 : Int)) = ((y * 512 % 18446744073709551616 : Nat) : Int) := by
   simp only [IntKind.wrap, IntKind.bits, IntKind.signed]; simp
 have hy : y * 512 % 18446744073709551616 < 2 ^ 64 := Nat.mod_lt _ (by decide)
 rw [e, Qiv hx hy]
 refine ⟨⟨by omega, by have := Nat.or_lt_two_pow hx hy; omega⟩, fun k hk => ?_⟩
 have key : (x ||| y * 512 % 18446744073709551616) / 2 ^ k % 2 = x / 2 ^ k % 2 := by
   have h1 : ∀ n : Nat, n / 2 ^ k % 2 = (n.testBit k).toNat := fun n => by rw [Nat.toNat_testBit]
   rw [h1, h1, Nat.testBit_or]
   have h2 : (y * 512 % 18446744073709551616).testBit k = false := by
     rw [show (18446744073709551616 : Nat) = 2 ^ 64 from rfl, Nat.testBit_mod_two_pow, show (512 : Nat) = 2 ^ 9 from rfl, Nat.mul_comm, Nat.testBit_two_pow_mul]
     simp; omega
   rw [h2, Bool.or_false]
 have h3 := congrArg (Nat.cast : Nat -> Int) key
 push_cast at h3 ⊢
 exact h3
theorem walk_ShopMasks (a0 : Int) (a1 : Option Addr) (len1 cap1 : Nat) (z1 : Nat -> Nat -> Int) (a2 : Int) (a3 : Int) (W : World) (hE : ErrType W) (w0 : (Lit.int .i64 a0).wf = true) (w1 : MvIn W a1 len1 cap1 z1) (w2 : (Lit.int .u64 a2).wf = true) (w3 : (Lit.int .u64 a3).wf = true) :
   Calls Tryz.prog 12 #[.int .i64 a0, .slice a1 len1 cap1, .int .u64 a2, .int .u64 a3] W fun e w' => e = .returned (.bool true) /\ Below W.heap.size W w' := by
 refine Qo4 (AG := []) (Γ := [(34, .pure QgK), (35, .inl Tryz.f35 (Tryz.f35.body.getD .skip)), (19, .pure Qfs), (36, .inl Tryz.f36 (Tryz.f36.body.getD .skip)), (76, .mem (Qiq W)), (45, .mem recC.sh), (43, .mem ddsC.sh), (42, .mem verC.sh), (50, .mem craC.sh), (51, .mem Qfu)]) Tryz.func12 rfl Qf Qc
   (.cons (shops_con W _) (.cons (⟨by kernel_rfl, rfl, rfl⟩) (.cons (QpI W _) (.cons (⟨by kernel_rfl, rfl, rfl⟩) (.cons (play_con W) (.cons (recH W _) (.cons (ddsH W _) (.cons (verH W _) (.cons (craH W _) (.cons (eqrD_con W _) (.nil _ _ _)))))))))))
   [.c (.v (.int .i64 a0)), .c (.r a1 len1 cap1 len1 7 mvK z1), .c (.v (.int .u64 a2)), .c (.v (.int .u64 a3))] (.bool true) 400 rfl ?_ rfl
 refine Qj (q := True /\ bif bif decide ((↑len1 : Int) <= (120 : Int)) then false else true then SV.o (aB true) = SV.o (aB true) else True /\ ∃ (s : PlS), [aI ((1 : Int) + Qgm a0 (6 : Int)), SA.c (.r a1 len1 cap1 len1 7 (fun (j : Nat) => bif Nat.beq j 6 then .u64 else .i64) z1)] = [aI s.1, SA.c (.r s.2 s.3 s.4 s.3 7 (fun (j : Nat) => bif Nat.beq j 6 then .u64 else .i64) s.5)] /\ eN /\ (((1 : Int) <= s.1 /\ s.1 <= (6 : Int)) /\ s.3 <= 3000 /\ Rws 7 mvK W (PlS.a s) (PlS.n s) s.4 s.5 /\ ∀ (i : Nat), i < s.3 -> U64 (s.5 i 6)) /\ ∀ (x : List Nat), True -> ∃ (s_1 : PlS), [aI ((1 : Int) + Qgm a0 (6 : Int)), SA.c (.r a1 len1 cap1 len1 7 (fun (j : Nat) => bif Nat.beq j 6 then .u64 else .i64) z1)] = [aI s_1.1, SA.c (.r s_1.2 s_1.3 s_1.4 s_1.3 7 (fun (j : Nat) => bif Nat.beq j 6 then .u64 else .i64) s_1.5)] /\ eN /\ (((1 : Int) <= s_1.1 /\ s_1.1 <= (6 : Int)) /\ s_1.3 <= 3000 /\ Rws 7 mvK W (PlS.a s_1) (PlS.n s_1) s_1.4 s_1.5 /\ ∀ (i : Nat), i < s_1.3 -> U64 (s_1.5 i 6)) /\ ∀ (x_1 : List Nat), True -> ∃ (s_2 : Sh × Int × List Nat), [aP 0 0, aU a2] = [aP 0 0, aU s_2.2.1] /\ [SB.abs (Qz shM ShS.z ShS.good (Qak s.1 (mvL s.5 s.3))) x] = [SB.abs (Qz shM ShS.z ShS.good s_2.1) s_2.2.2] /\ QkG s_2.1 s_2.2.1 /\ ∀ (x : List Nat × Unit), True -> (0 : Int) <= (9 : Int) /\ ∃ (s : Sh × Int × List Nat), [aP 1 0, aU (bits BinOp.or .u64 a2 (IntKind.wrap .u64 (a3 * (512 : Int))))] = [aP 1 0, aU s.2.1] /\ [SB.abs (Qz shM ShS.z ShS.good (Qak s_1.1 (mvL s_1.5 s_1.3))) x_1] = [SB.abs (Qz shM ShS.z ShS.good s.1) s.2.2] /\ QkG s.1 s.2.1 /\ ∀ (x_2 : List Nat × Unit), True -> ∃ (s_3 : Sh × Unit × List Nat), [aP 0 0] = [aP 0 0] /\ [SB.abs (Qz shM ShS.z ShS.good (Sh.crash s_2.1 s_2.2.1)) x.1] = [SB.abs (Qz shM ShS.z ShS.good s_3.1) s_3.2.2] /\ ((0 : Int) <= (Sh.s s_3.1).1 0 /\ (Sh.s s_3.1).1 0 < (1000000000 : Int)) /\ ∀ (x : List Nat × Unit), True -> ∃ (s_4 : Sh × Unit × List Nat), [aP 1 0] = [aP 1 0] /\ [SB.abs (Qz shM ShS.z ShS.good (Sh.crash s.1 s.2.1)) x_2.1] = [SB.abs (Qz shM ShS.z ShS.good s_4.1) s_4.2.2] /\ ((0 : Int) <= (Sh.s s_4.1).1 0 /\ (Sh.s s_4.1).1 0 < (1000000000 : Int)) /\ ∀ (x_3 : List Nat × Unit), True -> bif bif decide ([Sh.cur s_3.1 0, Sh.cur s_3.1 1, Sh.cur s_3.1 2, Sh.cur s_3.1 3, Sh.cur s_3.1 4, Sh.cur s_3.1 5, Sh.cur s_3.1 6, Sh.cur s_3.1 7, Sh.cur s_3.1 8, Sh.cur s_3.1 9, Sh.cur s_3.1 10, Sh.cur s_3.1 11, Sh.cur s_3.1 12, Sh.cur s_3.1 13, Sh.cur s_3.1 14, Sh.cur s_3.1 15, Sh.cur s_3.1 16, Sh.cur s_3.1 17, Sh.cur s_3.1 18, Sh.cur s_3.1 19, Sh.cur s_3.1 20, Sh.cur s_3.1 21, Sh.cur s_3.1 22, Sh.cur s_3.1 23, Sh.cur s_3.1 24, Sh.cur s_3.1 25, Sh.cur s_3.1 26, Sh.cur s_3.1 27, Sh.cur s_3.1 28, Sh.cur s_3.1 29, Sh.cur s_3.1 30, Sh.cur s_3.1 31] = [Sh.cur s_4.1 0, Sh.cur s_4.1 1, Sh.cur s_4.1 2, Sh.cur s_4.1 3, Sh.cur s_4.1 4, Sh.cur s_4.1 5, Sh.cur s_4.1 6, Sh.cur s_4.1 7, Sh.cur s_4.1 8, Sh.cur s_4.1 9, Sh.cur s_4.1 10, Sh.cur s_4.1 11, Sh.cur s_4.1 12, Sh.cur s_4.1 13, Sh.cur s_4.1 14, Sh.cur s_4.1 15, Sh.cur s_4.1 16, Sh.cur s_4.1 17, Sh.cur s_4.1 18, Sh.cur s_4.1 19, Sh.cur s_4.1 20, Sh.cur s_4.1 21, Sh.cur s_4.1 22, Sh.cur s_4.1 23, Sh.cur s_4.1 24, Sh.cur s_4.1 25, Sh.cur s_4.1 26, Sh.cur s_4.1 27, Sh.cur s_4.1 28, Sh.cur s_4.1 29, Sh.cur s_4.1 30, Sh.cur s_4.1 31]) then true else false then ∃ (s : Sh × Unit × List Nat), [aP 0 0] = [aP 0 0] /\ [SB.abs (Qz shM ShS.z ShS.good s_3.1) x.1] = [SB.abs (Qz shM ShS.z ShS.good s.1) s.2.2] /\ List.length s.1.7 <= 1000000000 /\ ∀ (x : List Nat × RwR), (List.length s.1.7 <= x.2.1 /\ x.2.1 <= x.2.2) /\ IsR 6 Dd.at Dd.nil x.2.4 (List.map (fun (self : Vd) => self.2) s.1.7) -> ∃ (s_5 : Sh × Unit × List Nat), [aP 1 0] = [aP 1 0] /\ [SB.abs (Qz shM ShS.z ShS.good s_4.1) x_3.1] = [SB.abs (Qz shM ShS.z ShS.good s_5.1) s_5.2.2] /\ List.length s_5.1.7 <= 1000000000 /\ ∀ (x_4 : List Nat × RwR), (List.length s_5.1.7 <= x_4.2.1 /\ x_4.2.1 <= x_4.2.2) /\ IsR 6 Dd.at Dd.nil x_4.2.4 (List.map (fun (self : Vd) => self.2) s_5.1.7) -> ∃ (s_6 : EqRS Dd), [SA.c (.so 2 0 6 (List.length s.1.7) x.2.2 x.2.3), SA.c (.so 3 0 6 (List.length s_5.1.7) x_4.2.2 x_4.2.3)] = [SA.c (.so 2 0 6 (List.length s_6.1) s_6.3 s_6.4), SA.c (.so 3 0 6 (List.length s_6.1) s_6.7 s_6.8)] /\ [SB.rows 60 kI6 6 x.2.1 x.2.2 x.2.4, SB.rows 60 kI6 6 x_4.2.1 x_4.2.2 x_4.2.4] = [SB.rows 60 kI6 6 s_6.2 s_6.3 s_6.5, SB.rows 60 kI6 6 s_6.6 s_6.7 s_6.9] /\ (List.length s_6.1 <= 1000000000 /\ (List.length s_6.1 <= s_6.2 /\ s_6.2 <= s_6.3) /\ IsR 6 Dd.at Dd.nil s_6.5 s_6.1 /\ (List.length s_6.1 <= s_6.6 /\ s_6.6 <= s_6.7) /\ IsR 6 Dd.at Dd.nil s_6.9 s_6.1) /\ ∀ (x_5 : Unit), True -> ∃ (s_7 : Sh × Unit × List Nat), [aP 0 0] = [aP 0 0] /\ [SB.abs (Qz shM ShS.z ShS.good s.1) x.1] = [SB.abs (Qz shM ShS.z ShS.good s_7.1) s_7.2.2] /\ ((0 : Int) <= (Sh.s s_7.1).1 0 /\ (Sh.s s_7.1).1 0 < (1000000000 : Int)) /\ ∀ (x : List Nat × Unit), True -> ∃ (s : Sh × Unit × List Nat), [aP 1 0] = [aP 1 0] /\ [SB.abs (Qz shM ShS.z ShS.good s_5.1) x_4.1] = [SB.abs (Qz shM ShS.z ShS.good s.1) s.2.2] /\ ((0 : Int) <= (Sh.s s.1).1 0 /\ (Sh.s s.1).1 0 < (1000000000 : Int)) /\ ∀ (x : List Nat × Unit), True -> SV.o (aB ((Sh.s s_7.1).1 0 == (Sh.s s.1).1 0)) = SV.o (aB true) else SV.o (aB false) = SV.o (aB true)) (by kernel_rfl) ?_
 have k1 : 1 <= 1 + Qgm a0 6 := by have := Qen a0 6 (by decide); omega
 have k6 : 1 + Qgm a0 6 <= 6 := by have := QiS a0 6 (by decide); omega
 generalize 1 + Qgm a0 6 = K at k1 k6 ⊢
 have hu : U64 a2 := wfU w2
 have hu3 : U64 a3 := wfU w3
 refine ⟨trivial, Qmx (fun _ => rfl) (fun hh => ⟨trivial, ⟨K, a1, len1, cap1, z1⟩, rfl, rfl, ⟨⟨k1, k6⟩, (by show len1 <= 3000; omega), w1.1, w1.2⟩, fun x _ => ⟨⟨K, a1, len1, cap1, z1⟩, rfl, rfl, ⟨⟨k1, k6⟩, (by show len1 <= 3000; omega), w1.1, w1.2⟩, fun x1 _ => ?_⟩⟩)⟩
 obtain ⟨g, F, hs⟩ := Qjb k1 k6 len1 (mvL z1 len1) (Qo9 z1 len1) (by omega)
 have hs2 : (Qak K (mvL z1 len1)).steps <= 120000 := by omega
 dsimp only
 generalize Qak K (mvL z1 len1) = Z at *
 obtain ⟨m1, m2⟩ := masks_bit hu hu3
 obtain ⟨g2, F2⟩ := QnQ F a2
 have hst : (Z.crash a2).steps = Z.steps + 1 := rfl
 have hL2 := F2.lens (by omega)
 have hv2 := F2.ver (by omega)
 have hcr := F.craOK (by omega) hu
 have hcr2 := F.craOK (by omega) m1
 have hE : Z.crash (bits .or .u64 a2 (IntKind.wrap .u64 (a3 * (512 : Int)))) = Z.crash a2 := Qpl m2
 generalize bits .or .u64 a2 (IntKind.wrap .u64 (a3 * (512 : Int))) = L at *
 obtain ⟨Y, hY⟩ : ∃ Y, Y = Z.crash a2 := ⟨_, rfl⟩
 rw [<- hY] at hE hL2 hv2
 refine ⟨(Z, a2, x), rfl, rfl, hcr, fun y _ => ⟨by decide, (Z, L, x1), rfl, rfl, hcr2, fun y2 _ => ⟨(Y, (), y.1), rfl, abGo y.1 hY.symm, hv2, fun y3 _ => ⟨(Y, (), y2.1), rfl, abGo y2.1 hE, hv2, fun y4 _ => by_tdec (fun _ => ⟨(Y, (), y3.1), rfl, rfl, hL2.2, fun y5 hy5 => ⟨(Y, (), y4.1), rfl, rfl, hL2.2, fun y6 hy6 => ⟨eqDs Y.deeds y5.2 y6.2, eqDs_args _ _ _ _ _, rfl, eqDs_pre hL2.2 hy5 hy6, fun _ _ => ⟨(Y, (), y5.1), rfl, rfl, hv2, fun y7 _ => ⟨(Y, (), y6.1), rfl, rfl, hv2, fun _ _ => svB (beq_iff_eq.2 rfl)⟩⟩⟩⟩⟩) (fun hne => absurd rfl hne)⟩⟩⟩⟩
end Go.Proofs.YtddbkioejhidoaaGreatDoor
