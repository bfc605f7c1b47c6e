/- What the proof leans on, gathered. -/
import Derived.Test.YtddbkioejhidoaaGreatDoorSk3
namespace Go.Proofs.YtddbkioejhidoaaGreatDoor
set_option linter.unusedVariables false
set_option maxRecDepth 100000
set_option maxHeartbeats 8000000
section
open Go.RowKit
structure WlS where
 s : WkS
 m : Nat -> Int
 t : Sto
abbrev WlS.z (s : WlS) : WSt := ⟨s.s.w, s.m, s.t⟩
abbrev wkM (x y : Nat) (s : WkS) (z : WSt) : List SB := [wkC x y z.w s.ca s.na s.cd s.nd, ramB z.m, stoB z.s, wkA s.ma s.ca s.za, wkD s.md s.cd s.zd]
def Q5 (d : Int) : MCon := dcon WlS (fun s => s.s.w.does = d /\ s.s.w.th < 4 /\ (0 <= s.s.w.v /\ s.s.w.v < 18446744073709551616) /\ (0 <= s.s.w.seen 0 /\ s.s.w.seen 0 < 16) /\ (0 <= s.s.w.seen 2 /\ s.s.w.seen 2 <= 9223372036854775807) /\ U64 (s.s.w.seen 1) /\
   (s.s.w.does = 21 -> (s.m 1 = s.s.w.v /\ Qn (s.s.w.seen 0) s.s.w.th = s.s.w.tog) -> Xa (s.s.w.seen 1 / 4294967296 % 4294967296) (s.s.w.seen 1 % 4294967296) = true))
 (fun s => [.c (.p 0 0), .c (.p 1 0), .c (.p 2 0)]) (fun s => wkM 3 4 s.s s.z) (fun s => sv (.bool (Q1 s.z).2)) (fun s => wkM 3 4 s.s (Q1 s.z).1) 5 Qcd
theorem QjV : (Con.mem (Q5 17)).holds Tryz.prog 66 := by
 intro w0 S
 refine Qb (Γ := [(30, .mem Q3), (26, .mem QI), (90, .pure Xt), (83, .pure QbA)]) (fun _ => noW) Tryz.func66 rfl (by kernel_rfl) Qf Qc (fun w S' _ _ => .cons (Xs w S') (.cons (QL w S') (.cons (Xw w S') (.cons (QbS w S') (.nil _ _ _))))) (Q5 17) (fun _ => []) (fun x0 h s x => ⟨rfl, trivial⟩) (fun s ρ w _ _ _ => Qh w _) [] (Qm 5) 400 ?_
 rintro ⟨⟨⟨th, does, k, key, x, tog, said, i, v, r, asks, deeds, seen, oc, ov, whn⟩, ma, ca, na, za, md, cd, nd, zd⟩, m, t⟩ W ⟨h0, h1, h2, h3, h4, h5, h6⟩ -
 refine ⟨rfl, ?_⟩
 dsimp only at h0 h1 h2 h3 h4 h5 h6
 subst h0
 refine Qj (q := ∃ (s : Qa0), [aP 1 0, aI 1] = [aP 1 0, aI s.2] /\ [ramB m] = [ramB s.1] /\ (iR s.2 (16 : Int)) /\ ∀ (x_1 : Unit), True -> endN (Q5 (17 : Int)) [] (Qm 5) (WlS.mk (WkS.mk (Wk.mk th (17 : Int) k key x tog said i v r asks deeds seen oc ov whn) ma ca na za md cd nd zd) m t) (SV.o (aB false)) [SB.cells [sI ↑th, sI 18, sI k, sI key, sI x, sI tog, sB said, sI i, sU (s.1 (Int.toNat s.2)), nU 32 r, sS 3 0 5 (List.length asks) ca na, sS 4 0 6 (List.length deeds) cd nd, nU 3 seen, sI oc, sI ov, sI whn] 42, ramB s.1, stoB (WlS.t (WlS.mk (WkS.mk (Wk.mk th (17 : Int) k key x tog said i v r asks deeds seen oc ov whn) ma ca na za md cd nd zd) m t)), wkA ma ca za, wkD md cd zd]) (by kernel_rfl) ?_
 exact ⟨⟨m, 1⟩, rfl, rfl, ⟨(by decide : (0 : Int) <= 1), (by decide : (1 : Int) < 16)⟩, fun _ _ => ⟨(), trivial, rfl, rfl⟩⟩
theorem QjU : (Con.mem (Q5 18)).holds Tryz.prog 66 := by
 intro w0 S
 refine Qb (Γ := [(30, .mem Q3), (26, .mem QI), (90, .pure Xt), (83, .pure QbA)]) (fun _ => noW) Tryz.func66 rfl (by kernel_rfl) Qf Qc (fun w S' _ _ => .cons (Xs w S') (.cons (QL w S') (.cons (Xw w S') (.cons (QbS w S') (.nil _ _ _))))) (Q5 18) (fun _ => []) (fun x0 h s x => ⟨rfl, trivial⟩) (fun s ρ w _ _ _ => Qh w _) [] (Qm 5) 400 ?_
 rintro ⟨⟨⟨th, does, k, key, x, tog, said, i, v, r, asks, deeds, seen, oc, ov, whn⟩, ma, ca, na, za, md, cd, nd, zd⟩, m, t⟩ W ⟨h0, h1, h2, h3, h4, h5, h6⟩ -
 refine ⟨rfl, ?_⟩
 dsimp only at h0 h1 h2 h3 h4 h5 h6
 subst h0
 refine Qj (q := (iR v (18446744073709551616 : Int)) /\ ∃ (s : Qt), [aP 2 0, aI (IntKind.wrap .i64 ((↑(Qq v) : Int) + (26 : Int)))] = [aP 2 0, aI s.2] /\ [stoB (WlS.t (WlS.mk (WkS.mk (Wk.mk th (18 : Int) k key x tog said i v r asks deeds seen oc ov whn) ma ca na za md cd nd zd) m t))] = [stoB (Qt.s s)] /\ (iR s.2 (72 : Int)) /\ ∀ (x_1 : Unit), True -> (iR (0 : Int) (3 : Int)) /\ 0 < 3 /\ dP Tryz.f66 5 5 [⟨15, [], [0], [3, 4], false⟩, xF 14 0, xF 13 0, xF 12 0, xE 11, xE 10, xE 9, ⟨8, [], [2], [], false⟩, xE 7, xE 6, xR 5 0, xF 4 0, xF 3 0, xF 2 0, xF 1 2, xF 0 0] /\ endN (Q5 (18 : Int)) [] (Qm 5) (WlS.mk (WkS.mk (Wk.mk th (18 : Int) k key x tog said i v r asks deeds seen oc ov whn) ma ca na za md cd nd zd) m t) (SV.o (aB false)) [SB.cells [sI ↑th, sI 19, sI k, sI key, sI x, sI tog, sB said, sI i, sU v, nU 32 r, sS 3 0 5 (List.length asks) ca na, sS 4 0 6 (List.length deeds) cd nd, nU 3 fun (i : Nat) => bif Nat.beq i 0 then (Qt.s s).1 (Int.toNat s.2) else seen i, sI oc, sI ov, sI whn] 42, ramB m, stoB (Qt.s s), wkA ma ca za, wkD md cd zd]) (by kernel_rfl) ?_
 have hb : Qq v <= 40 := by unfold Qq; omega
 have e : IntKind.wrap .i64 ((Qq v : Int) + 26) = ((Qq v + 26 : Nat) : Int) := by rw [QC (by omega) (by omega)]; omega
 rw [e]
 exact ⟨h2, ⟨t, ((Qq v + 26 : Nat) : Int)⟩, rfl, rfl, ⟨(by omega : (0 : Int) <= ((Qq v + 26 : Nat) : Int)), (by omega : ((Qq v + 26 : Nat) : Int) < 72)⟩, fun _ _ => ⟨⟨by decide, by decide⟩, by decide, Qd (by kernel_rfl), (), trivial, rfl, rfl⟩⟩
theorem QjT : (Con.mem (Q5 19)).holds Tryz.prog 66 := by
 intro w0 S
 refine Qb (Γ := [(30, .mem Q3), (26, .mem QI), (90, .pure Xt), (83, .pure QbA)]) (fun _ => noW) Tryz.func66 rfl (by kernel_rfl) Qf Qc (fun w S' _ _ => .cons (Xs w S') (.cons (QL w S') (.cons (Xw w S') (.cons (QbS w S') (.nil _ _ _))))) (Q5 19) (fun _ => []) (fun x0 h s x => ⟨rfl, trivial⟩) (fun s ρ w _ _ _ => Qh w _) [] (Qm 5) 400 ?_
 rintro ⟨⟨⟨th, does, k, key, x, tog, said, i, v, r, asks, deeds, seen, oc, ov, whn⟩, ma, ca, na, za, md, cd, nd, zd⟩, m, t⟩ W ⟨h0, h1, h2, h3, h4, h5, h6⟩ -
 refine ⟨rfl, ?_⟩
 dsimp only at h0 h1 h2 h3 h4 h5 h6
 subst h0
 refine Qj (q := (iR v (18446744073709551616 : Int)) /\ ∃ (s : Qt), [aP 2 0, aI (IntKind.wrap .i64 (IntKind.wrap .i64 ((↑(Qq v) : Int) + (18 : Int)) + (↑th : Int)))] = [aP 2 0, aI s.2] /\ [stoB (WlS.t (WlS.mk (WkS.mk (Wk.mk th (19 : Int) k key x tog said i v r asks deeds seen oc ov whn) ma ca na za md cd nd zd) m t))] = [stoB (Qt.s s)] /\ (iR s.2 (72 : Int)) /\ ∀ (x_1 : Unit), True -> (iR (1 : Int) (3 : Int)) /\ 1 < 3 /\ dP Tryz.f66 7 5 [⟨20, [], [0], [3, 4], false⟩, xF 19 0, xF 18 0, xF 17 0, xE 16, xE 15, xE 14, ⟨13, [], [2], [], false⟩, xE 12, xR 11 0, xF 10 0, xF 9 0, xF 8 0, xE 7, xE 6, xR 5 0, xF 4 0, xF 3 0, xF 2 0, xF 1 2, xF 0 0] /\ endN (Q5 (19 : Int)) [] (Qm 5) (WlS.mk (WkS.mk (Wk.mk th (19 : Int) k key x tog said i v r asks deeds seen oc ov whn) ma ca na za md cd nd zd) m t) (SV.o (aB false)) [SB.cells [sI ↑th, sI 20, sI k, sI key, sI x, sI tog, sB said, sI i, sU v, nU 32 r, sS 3 0 5 (List.length asks) ca na, sS 4 0 6 (List.length deeds) cd nd, nU 3 fun (i : Nat) => bif Nat.beq i 1 then (Qt.s s).1 (Int.toNat s.2) else seen i, sI oc, sI ov, sI whn] 42, ramB m, stoB (Qt.s s), wkA ma ca za, wkD md cd zd]) (by kernel_rfl) ?_
 have hb : Qq v <= 40 := by unfold Qq; omega
 have e : IntKind.wrap .i64 (IntKind.wrap .i64 ((Qq v : Int) + 18) + (th : Int)) = ((Qq v + 18 + th : Nat) : Int) := by rw [QC (x := (Qq v : Int) + 18) (by omega) (by omega), QC (by omega) (by omega)]; omega
 rw [e]
 exact ⟨h2, ⟨t, ((Qq v + 18 + th : Nat) : Int)⟩, rfl, rfl, ⟨(by omega : (0 : Int) <= ((Qq v + 18 + th : Nat) : Int)), (by omega : ((Qq v + 18 + th : Nat) : Int) < 72)⟩, fun _ _ => ⟨⟨by decide, by decide⟩, by decide, Qd (by kernel_rfl), (), trivial, rfl, rfl⟩⟩
theorem QjS : (Con.mem (Q5 20)).holds Tryz.prog 66 := by
 intro w0 S
 refine Qb (Γ := [(30, .mem Q3), (26, .mem QI), (90, .pure Xt), (83, .pure QbA)]) (fun _ => noW) Tryz.func66 rfl (by kernel_rfl) Qf Qc (fun w S' _ _ => .cons (Xs w S') (.cons (QL w S') (.cons (Xw w S') (.cons (QbS w S') (.nil _ _ _))))) (Q5 20) (fun _ => []) (fun x0 h s x => ⟨rfl, trivial⟩) (fun s ρ w _ _ _ => Qh w _) [] (Qm 5) 400 ?_
 rintro ⟨⟨⟨th, does, k, key, x, tog, said, i, v, r, asks, deeds, seen, oc, ov, whn⟩, ma, ca, na, za, md, cd, nd, zd⟩, m, t⟩ W ⟨h0, h1, h2, h3, h4, h5, h6⟩ -
 refine ⟨rfl, ?_⟩
 dsimp only at h0 h1 h2 h3 h4 h5 h6
 subst h0
 refine Qj (q := (iR v (18446744073709551616 : Int)) /\ ∃ (s : Qt), [aP 2 0, aI (IntKind.wrap .i64 (IntKind.wrap .i64 ((↑(Qq v) : Int) + (22 : Int)) + (↑th : Int)))] = [aP 2 0, aI s.2] /\ [stoB (WlS.t (WlS.mk (WkS.mk (Wk.mk th (20 : Int) k key x tog said i v r asks deeds seen oc ov whn) ma ca na za md cd nd zd) m t))] = [stoB (Qt.s s)] /\ (iR s.2 (72 : Int)) /\ ∀ (x_1 : Unit), True -> (iR (2 : Int) (3 : Int)) /\ 2 < 3 /\ dP Tryz.f66 9 5 [⟨20, [], [0], [3, 4], false⟩, xF 19 0, xF 18 0, xF 17 0, xE 16, xE 15, xE 14, ⟨13, [], [2], [], false⟩, xE 12, xR 11 0, xF 10 0, xF 9 0, xF 8 0, xE 7, xE 6, xR 5 0, xF 4 0, xF 3 0, xF 2 0, xF 1 2, xF 0 0] /\ endN (Q5 (20 : Int)) [] (Qm 5) (WlS.mk (WkS.mk (Wk.mk th (20 : Int) k key x tog said i v r asks deeds seen oc ov whn) ma ca na za md cd nd zd) m t) (SV.o (aB false)) [SB.cells [sI ↑th, sI 21, sI k, sI key, sI x, sI tog, sB said, sI i, sU v, nU 32 r, sS 3 0 5 (List.length asks) ca na, sS 4 0 6 (List.length deeds) cd nd, nU 3 fun (i : Nat) => bif Nat.beq i 2 then (Qt.s s).1 (Int.toNat s.2) else seen i, sI oc, sI ov, sI whn] 42, ramB m, stoB (Qt.s s), wkA ma ca za, wkD md cd zd]) (by kernel_rfl) ?_
 have hb : Qq v <= 40 := by unfold Qq; omega
 have e : IntKind.wrap .i64 (IntKind.wrap .i64 ((Qq v : Int) + 22) + (th : Int)) = ((Qq v + 22 + th : Nat) : Int) := by rw [QC (x := (Qq v : Int) + 22) (by omega) (by omega), QC (by omega) (by omega)]; omega
 rw [e]
 exact ⟨h2, ⟨t, ((Qq v + 22 + th : Nat) : Int)⟩, rfl, rfl, ⟨(by omega : (0 : Int) <= ((Qq v + 22 + th : Nat) : Int)), (by omega : ((Qq v + 22 + th : Nat) : Int) < 72)⟩, fun _ _ => ⟨⟨by decide, by decide⟩, by decide, Qd (by kernel_rfl), (), trivial, rfl, rfl⟩⟩
theorem QjR : (Con.mem (Q5 21)).holds Tryz.prog 66 := by
 intro w0 S
 refine Qb (Γ := [(30, .mem Q3), (26, .mem QI), (90, .pure Xt), (83, .pure QbA)]) (fun _ => noW) Tryz.func66 rfl (by kernel_rfl) Qf Qc (fun w S' _ _ => .cons (Xs w S') (.cons (QL w S') (.cons (Xw w S') (.cons (QbS w S') (.nil _ _ _))))) (Q5 21) (fun _ => []) (fun x0 h s x => ⟨rfl, trivial⟩) (fun s ρ w _ _ _ => Qh w _) [] (Qm 5) 400 ?_
 rintro ⟨⟨⟨th, does, k, key, x, tog, said, i, v, r, asks, deeds, seen, oc, ov, whn⟩, ma, ca, na, za, md, cd, nd, zd⟩, m, t⟩ W ⟨h0, h1, h2, h3, h4, h5, h6⟩ -
 refine ⟨rfl, ?_⟩
 dsimp only at h0 h1 h2 h3 h4 h5 h6
 subst h0
 refine Qj (q := ∃ (s : Qa0), [aP 1 0, aI 1] = [aP 1 0, aI s.2] /\ [ramB m] = [ramB s.1] /\ (iR s.2 (16 : Int)) /\ ∀ (x_1 : Unit), True -> bif s.1 (Int.toNat s.2) == v then (iR (0 : Int) (3 : Int)) /\ 0 < 3 /\ (0 : Int) <= (↑th : Int) /\ dP Tryz.f66 12 5 [xE 24, xE 23, xR 22 0, xF 21 0, xF 20 0, xF 19 0, xE 18, xE 17, xE 16, xR 15 0, xF 14 0, xF 13 0, xF 12 0, xR 11 0, xF 10 0, xF 9 0, xF 8 0, xF 7 0, xE 6, xE 5, xR 4 0, xF 3 0, xF 2 0, xF 1 0, xE 0] /\ bif IntKind.wrap .i64 (bits BinOp.and .u64 (Int.fdiv (seen 0) ((2 : Int) ^ min (Int.toNat (↑th : Int)) 64)) (1 : Int)) == tog then (iR (1 : Int) (3 : Int)) /\ 1 < 3 /\ U64 (seen 1) /\ bif Xa (seen 1 / (4294967296 : Int) % (4294967296 : Int)) (seen 1 % (4294967296 : Int)) then (iR (2 : Int) (3 : Int)) /\ 2 < 3 /\ endN (Q5 (21 : Int)) [] (Qm 5) (WlS.mk (WkS.mk (Wk.mk th (21 : Int) k key x tog said i v r asks deeds seen oc ov whn) ma ca na za md cd nd zd) m t) (SV.o (aB true)) [SB.cells [sI ↑th, sI 0, sI k, sI key, sI x, sI tog, sB said, sI i, sU v, nU 32 r, sS 3 0 5 (List.length asks) ca na, sS 4 0 6 (List.length deeds) cd nd, nU 3 seen, sI (seen 1 / (4294967296 : Int) % (4294967296 : Int)), sI (seen 1 % (4294967296 : Int)), sI (IntKind.wrap .i64 (seen 2))] 42, ramB s.1, stoB (WlS.t (WlS.mk (WkS.mk (Wk.mk th (21 : Int) k key x tog said i v r asks deeds seen oc ov whn) ma ca na za md cd nd zd) m t)), wkA ma ca za, wkD md cd zd] else (iR (2 : Int) (3 : Int)) /\ 2 < 3 /\ endN (Q5 (21 : Int)) [] (Qm 5) (WlS.mk (WkS.mk (Wk.mk th (21 : Int) k key x tog said i v r asks deeds seen oc ov whn) ma ca na za md cd nd zd) m t) (SV.o (aB true)) [SB.cells [sI ↑th, sI 0, sI k, sI key, sI x, sI tog, sB said, sI i, sU v, nU 32 r, sS 3 0 5 (List.length asks) ca na, sS 4 0 6 (List.length deeds) cd nd, nU 3 seen, sI 0, sI 0, sI (IntKind.wrap .i64 (seen 2))] 42, ramB s.1, stoB (WlS.t (WlS.mk (WkS.mk (Wk.mk th (21 : Int) k key x tog said i v r asks deeds seen oc ov whn) ma ca na za md cd nd zd) m t)), wkA ma ca za, wkD md cd zd] else bif bif said then false else true then endN (Q5 (21 : Int)) [] (Qm 5) (WlS.mk (WkS.mk (Wk.mk th (21 : Int) k key x tog said i v r asks deeds seen oc ov whn) ma ca na za md cd nd zd) m t) (SV.o (aB false)) [SB.cells [sI ↑th, sI 1, sI k, sI key, sI x, sI tog, sB said, sI i, sU v, nU 32 r, sS 3 0 5 (List.length asks) ca na, sS 4 0 6 (List.length deeds) cd nd, nU 3 seen, sI oc, sI ov, sI whn] 42, ramB s.1, stoB (WlS.t (WlS.mk (WkS.mk (Wk.mk th (21 : Int) k key x tog said i v r asks deeds seen oc ov whn) ma ca na za md cd nd zd) m t)), wkA ma ca za, wkD md cd zd] else endN (Q5 (21 : Int)) [] (Qm 5) (WlS.mk (WkS.mk (Wk.mk th (21 : Int) k key x tog said i v r asks deeds seen oc ov whn) ma ca na za md cd nd zd) m t) (SV.o (aB false)) [SB.cells [sI ↑th, sI 3, sI k, sI key, sI x, sI tog, sB said, sI i, sU v, nU 32 r, sS 3 0 5 (List.length asks) ca na, sS 4 0 6 (List.length deeds) cd nd, nU 3 seen, sI oc, sI ov, sI whn] 42, ramB s.1, stoB (WlS.t (WlS.mk (WkS.mk (Wk.mk th (21 : Int) k key x tog said i v r asks deeds seen oc ov whn) ma ca na za md cd nd zd) m t)), wkA ma ca za, wkD md cd zd] else dP Tryz.f66 12 5 [xE 24, xE 23, xE 22, xE 21, xE 20, xE 19, xE 18, xE 17, xE 16, xE 15, xE 14, xE 13, xE 12, xE 11, xE 10, xE 9, xE 8, xE 7, xE 6, xE 5, xR 4 0, xF 3 0, xF 2 0, xF 1 0, xE 0] /\ bif bif said then false else true then endN (Q5 (21 : Int)) [] (Qm 5) (WlS.mk (WkS.mk (Wk.mk th (21 : Int) k key x tog said i v r asks deeds seen oc ov whn) ma ca na za md cd nd zd) m t) (SV.o (aB false)) [SB.cells [sI ↑th, sI 1, sI k, sI key, sI x, sI tog, sB said, sI i, sU v, nU 32 r, sS 3 0 5 (List.length asks) ca na, sS 4 0 6 (List.length deeds) cd nd, nU 3 seen, sI oc, sI ov, sI whn] 42, ramB s.1, stoB (WlS.t (WlS.mk (WkS.mk (Wk.mk th (21 : Int) k key x tog said i v r asks deeds seen oc ov whn) ma ca na za md cd nd zd) m t)), wkA ma ca za, wkD md cd zd] else endN (Q5 (21 : Int)) [] (Qm 5) (WlS.mk (WkS.mk (Wk.mk th (21 : Int) k key x tog said i v r asks deeds seen oc ov whn) ma ca na za md cd nd zd) m t) (SV.o (aB false)) [SB.cells [sI ↑th, sI 3, sI k, sI key, sI x, sI tog, sB said, sI i, sU v, nU 32 r, sS 3 0 5 (List.length asks) ca na, sS 4 0 6 (List.length deeds) cd nd, nU 3 seen, sI oc, sI ov, sI whn] 42, ramB s.1, stoB (WlS.t (WlS.mk (WkS.mk (Wk.mk th (21 : Int) k key x tog said i v r asks deeds seen oc ov whn) ma ca na za md cd nd zd) m t)), wkA ma ca za, wkD md cd zd]) (by kernel_rfl) ?_
 have eb : IntKind.wrap .i64 (bits BinOp.and .u64 (Int.fdiv (seen 0) (2 ^ min (Int.toNat (th : Int)) 64)) 1) = Qn (seen 0) th := by
   have := QgC (w := seen 0) (a := (th : Int)) (n := 1) ⟨by omega, by omega⟩ (by unfold Qb7; exact decide_eq_true (by omega))
   rw [show QfH 1 = 1 from rfl] at this
   rw [this]
   have hs : (seen 0).toNat < 16 := by omega
   have ht : ((seen 0).toNat : Int) = seen 0 := by omega
   have hg : getZ (seen 0) (th : Int) 1 = Qn (seen 0) th := by
     unfold getZ Qn getN
     rw [Int.toNat_natCast]
     rcases (show th = 0 \/ th = 1 \/ th = 2 \/ th = 3 by omega) with rfl | rfl | rfl | rfl <;> (simp only [Int.toNat_one, Nat.pow_one, Nat.reducePow, Int.reducePow]; omega)
   rw [hg]
   unfold Qn
   exact QC (by omega) (by omega)
 have e2 : IntKind.wrap .i64 (seen 2) = seen 2 := QC (by omega) h4.2
 rw [eb, e2]
 refine ⟨⟨m, 1⟩, rfl, rfl, ⟨(by decide : (0 : Int) <= 1), (by decide : (1 : Int) < 16)⟩, fun _ _ => ?_⟩
 show bif m 1 == v then _ else _
 refine Q7 (fun ev => ?_) (fun ev => ?_)
 · refine ⟨⟨by decide, by decide⟩, by decide, by omega, Qd (by kernel_rfl), Q7 (fun eg => ?_) (fun eg => ?_)⟩
   · have ha := h6 rfl ⟨ev, eg⟩
     have hl : Q1 ⟨⟨th, 21, k, key, x, tog, said, i, v, r, asks, deeds, seen, oc, ov, whn⟩, m, t⟩ = (⟨⟨th, 0, k, key, x, tog, said, i, v, r, asks, deeds, seen, seen 1 / 4294967296 % 4294967296, seen 1 % 4294967296, seen 2⟩, m, t⟩, true) := by
       rw [Qhq _ rfl, if_pos ⟨ev, eg⟩]
     refine ⟨⟨by decide, by decide⟩, by decide, h5, Q0 (fun _ => ⟨⟨by decide, by decide⟩, by decide, (), trivial, ?_, ?_⟩) (fun h => absurd (ha.symm.trans h) (by decide))⟩
     · show _ = sv (.bool (Q1 _).2)
       rw [hl]
     · show _ = wkM 3 4 _ (Q1 _).1
       rw [hl]; rfl
   · have hl (b : Bool) : Q1 ⟨⟨th, 21, k, key, x, tog, b, i, v, r, asks, deeds, seen, oc, ov, whn⟩, m, t⟩ = (⟨⟨th, if b then 3 else 1, k, key, x, tog, b, i, v, r, asks, deeds, seen, oc, ov, whn⟩, m, t⟩, false) := by
       rw [Qhq _ rfl, if_neg (fun h => eg h.2)]
     refine Xu (fun hs => ⟨(), trivial, ?_, ?_⟩) (fun hs => ⟨(), trivial, ?_, ?_⟩) <;> subst hs
     · show _ = sv (.bool (Q1 _).2)
       rw [hl]
     · show _ = wkM 3 4 _ (Q1 _).1
       rw [hl]; rfl
     · show _ = sv (.bool (Q1 _).2)
       rw [hl]
     · show _ = wkM 3 4 _ (Q1 _).1
       rw [hl]; rfl
 · have hl (b : Bool) : Q1 ⟨⟨th, 21, k, key, x, tog, b, i, v, r, asks, deeds, seen, oc, ov, whn⟩, m, t⟩ = (⟨⟨th, if b then 3 else 1, k, key, x, tog, b, i, v, r, asks, deeds, seen, oc, ov, whn⟩, m, t⟩, false) := by
     rw [Qhq _ rfl, if_neg (fun h => ev h.1)]
   refine ⟨Qd (by kernel_rfl), Xu (fun hs => ⟨(), trivial, ?_, ?_⟩) (fun hs => ⟨(), trivial, ?_, ?_⟩)⟩ <;> subst hs
   · show _ = sv (.bool (Q1 _).2)
     rw [hl]
   · show _ = wkM 3 4 _ (Q1 _).1
     rw [hl]; rfl
   · show _ = sv (.bool (Q1 _).2)
     rw [hl]
   · show _ = wkM 3 4 _ (Q1 _).1
     rw [hl]; rfl
abbrev recA (f : Nat -> Int) : SA := .a [.ints (.int .u64) 32 f]
abbrev recB (f : Nat -> Int) : SB := .cells [.ints (.int .u64) 32 f] 35
abbrev errA (n : Int) : SA := .c (.v (.iface 108 (.int .i64 n)))
def Qcp : PCon := ⟨fun args => match args with
 | [.c (.v (.int .i64 k))] => 1 <= k /\ k <= 6
 | _ => False, fun args => match args with
 | [.c (.v (.int .i64 k))] => .t [recA (fL (Rec.new k).words), nilE]
 | _ => sv undef, fun _ => none⟩
theorem QiP : (Con.pure Qcp).holds Tryz.prog 59 := by
 refine QD (Γ := [(73, .pure Qn2)]) Tryz.func59 rfl (by kernel_rfl) Qf Qc (fun W => .cons (is_con W _) (.nil _ _ _)) Qcp (fun _ => []) 400 ?_
 intro W args hp
 unfold Qcp at hp; dsimp only at hp; split at hp
 case h_2 => exact hp.elim
 rename_i k
 refine ⟨rfl, ?_⟩
 refine Qj (q := True /\ bif bif decide ((1 : Int) <= k /\ k <= (6 : Int)) then false else true then endP Qcp [aI k] (SV.t [SA.a [nU 32 zF], SA.c (.v (.iface 108 (Value.int .i64 (1 : Int))))]) [] else endP Qcp [aI k] (SV.t [SA.a [nU 32 fun (i : Nat) => bif Nat.beq i 0 then IntKind.wrap .u64 k else (0 : Int)], SA.c (.v Value.nilIface)]) []) (by kernel_rfl) ?_
 refine ⟨trivial, Xu (fun h => absurd (show decide (1 <= k /\ k <= 6) = true from decide_eq_true hp) (by rw [h]; decide)) (fun _ => ⟨rfl, fun ρ => ?_⟩)⟩
 have e : ∀ i, i < 32 -> (fun i => bif Nat.beq i 0 then k else 0) i = fL (Rec.new k).words i := fun i hi => by
   cases i with
   | zero => rfl
   | succ j => rw [show (Rec.new k).words = k :: List.replicate 31 0 from rfl, Qae, QeL]; rfl
 simp only [PCon.out, Qcp, SV.den, List.map_cons, List.map_nil]
 rw [QaG (by omega) (by omega), Qax e]; rfl
def QcL : PCon := ⟨fun args => match args with
 | [.a [.ints (.int .u64) n f]] => n = 32 /\ 0 <= f 0 /\ f 0 <= 6
 | _ => False, fun args => match args with
 | [.a [.ints (.int .u64) n f]] => sv (.int .i64 (f 0))
 | _ => sv undef, fun _ => none⟩
theorem Qhg : (Con.pure QcL).holds Tryz.prog 47 := by
 refine QD (Γ := []) Tryz.func47 rfl (by kernel_rfl) Qf Qc (fun W => .nil _ _ _) QcL (fun _ => []) 400 ?_
 intro W args hp
 unfold QcL at hp; dsimp only at hp; split at hp
 case h_2 => exact hp.elim
 rename_i n f
 obtain ⟨rfl, h0, h6⟩ := hp
 refine ⟨rfl, ?_⟩
 refine Qj (q := (iR (0 : Int) (32 : Int)) /\ 0 < 32 /\ endP QcL [SA.a [nU 32 f]] (SV.o (aI (IntKind.wrap .i64 (if (4294967296 : Int) < f 0 then (4294967296 : Int) else f 0)))) []) (by kernel_rfl) ?_
 refine ⟨⟨by decide, by decide⟩, by decide, rfl, fun ρ => ?_⟩
 rw [if_neg (by omega), QC (by omega) (by omega)]; rfl
def Qa6 : PCon := ⟨fun args => match args with
 | [.a [.ints (.int .u64) n f]] => n = 32
 | _ => False, fun args => match args with
 | [.a [.ints (.int .u64) n f]] => .o (QdL (fL (toN 17 (fun i => f (1 + i)))))
 | _ => sv undef, fun _ => none⟩
theorem Qe3 : (Con.pure Qa6).holds Tryz.prog 82 := by
 refine QD (Γ := []) Tryz.func82 rfl (by kernel_rfl) Qf Qc (fun W => .nil _ _ _) Qa6 (fun _ => []) 400 ?_
 intro W args hp
 unfold Qa6 at hp; dsimp only at hp; split at hp
 case h_2 => exact hp.elim
 rename_i n f
 subst hp
 refine ⟨rfl, ?_⟩
 refine Qj (q := ((0 : Int) <= (1 : Int) /\ (1 : Int) <= (18 : Int) /\ (18 : Int) <= (32 : Int)) /\ endP Qa6 [SA.a [nU 32 f]] (SV.o (SA.a [nU 17 fun (i : Nat) => f (1 + i)])) []) (by kernel_rfl) ?_
 exact ⟨⟨by decide, by decide, by decide⟩, rfl, fun ρ => Qax fun i hi => (Qes (n := 17) (f := fun i => f (1 + i)) hi).symm⟩
def Xb : PCon := ⟨fun args => match args with
 | [.a [.ints (.int .u64) n f], .c (.v (.int .i64 t))] => n = 32 /\ 0 <= t /\ t < 4 /\ 0 <= f 26 /\ f 26 < 16
 | _ => False, fun args => match args with
 | [.a [.ints (.int .u64) n f], .c (.v (.int .i64 t))] => sv (.int .i64 (Qn (f 26) t.toNat))
 | _ => sv undef, fun _ => none⟩
theorem Qau : (Con.pure Xb).holds Tryz.prog 80 := by
 refine QD (Γ := [(115, .pure Qjf)]) Tryz.func80 rfl (by kernel_rfl) Qf Qc (fun W => .cons (QpA W _) (.nil _ _ _)) Xb (fun _ => []) 400 ?_
 intro W args hp
 unfold Xb at hp; dsimp only at hp; split at hp
 case h_2 => exact hp.elim
 rename_i n f t
 obtain ⟨rfl, h0, h4, g0, g16⟩ := hp
 refine ⟨rfl, ?_⟩
 refine Qj (q := bif decide (t < (0 : Int)) then endP Xb [SA.a [nU 32 f], aI t] (SV.o (aI 0)) [] else bif decide (t >= (4 : Int)) then endP Xb [SA.a [nU 32 f], aI t] (SV.o (aI 0)) [] else (iR (26 : Int) (32 : Int)) /\ 26 < 32 /\ U64 (f 26) /\ bif bif bitZ (f 26) t then false else true then endP Xb [SA.a [nU 32 f], aI t] (SV.o (aI 0)) [] else endP Xb [SA.a [nU 32 f], aI t] (SV.o (aI 1)) []) (by kernel_rfl) ?_
 obtain ⟨T, rfl⟩ := Int.eq_ofNat_of_zero_le h0
 refine Qp (fun h => absurd h (by omega)) (fun _ => Qp (fun h => absurd h (by omega)) (fun _ => ⟨⟨by decide, by decide⟩, by decide, ⟨g0, by omega⟩, ?_⟩))
 rw [Qof g0 g16 (by omega)]
 have h01 := QkK (f 26) T
 refine Xu (fun h => ⟨rfl, fun ρ => ?_⟩) (fun h => ⟨rfl, fun ρ => ?_⟩)
 · show Value.int .i64 0 = Value.int .i64 (Qn (f 26) T)
   have : ¬ Qn (f 26) T = 1 := by simpa using h
   rw [show Qn (f 26) T = 0 by omega]
 · show Value.int .i64 1 = Value.int .i64 (Qn (f 26) T)
   rw [show Qn (f 26) T = 1 by simpa using h]
def Xi : PCon := ⟨fun args => match args with
 | [.a [.ints (.int .u64) n f], .c (.v (.int .i64 t))] => n = 32 /\ 0 <= t /\ t < 4 /\ U64 (f (18 + t.toNat)) /\ 0 <= f (22 + t.toNat) /\ f (22 + t.toNat) <= 9223372036854775807
 | _ => False, fun args => match args with
 | [.a [.ints (.int .u64) n f], .c (.v (.int .i64 t))] => .t [ansA (f (18 + t.toNat) / 4294967296 % 4294967296) (f (18 + t.toNat) % 4294967296), .c (.v (.int .i64 (f (22 + t.toNat)))), nilE]
 | _ => sv undef, fun args => match args with
 | [.a [.ints (.int .u64) n f], .c (.v (.int .i64 t))] => some (Xa (f (18 + t.toNat) / 4294967296 % 4294967296) (f (18 + t.toNat) % 4294967296), .t [ansA 0 0, .c (.v (.int .i64 0)), errA 8])
 | _ => none⟩
theorem Qc3 : (Con.pure Xi).holds Tryz.prog 79 := by
 refine QD (Γ := [(83, .pure QbA)]) Tryz.func79 rfl (by kernel_rfl) Qf Qc (fun W => .cons (QbS W _) (.nil _ _ _)) Xi (fun _ => []) 400 ?_
 intro W args hp
 unfold Xi at hp; dsimp only at hp; split at hp
 case h_2 => exact hp.elim
 rename_i n f t
 obtain ⟨rfl, h0, h4, hu, w0, w1⟩ := hp
 refine ⟨rfl, ?_⟩
 refine Qj (q := bif decide (t < (0 : Int)) then endP Xi [SA.a [nU 32 f], aI t] (SV.t [SA.a [sI 0, sI 0], aI 0, SA.c (.v (.iface 108 (Value.int .i64 (2 : Int))))]) [] else bif decide (t >= (4 : Int)) then endP Xi [SA.a [nU 32 f], aI t] (SV.t [SA.a [sI 0, sI 0], aI 0, SA.c (.v (.iface 108 (Value.int .i64 (2 : Int))))]) [] else ((0 : Int) <= IntKind.wrap .i64 ((18 : Int) + t) /\ IntKind.wrap .i64 ((18 : Int) + t) < (32 : Int)) /\ Int.toNat (IntKind.wrap .i64 ((18 : Int) + t)) < 32 /\ U64 (f (Int.toNat (IntKind.wrap .i64 ((18 : Int) + t)))) /\ bif Xa (f (Int.toNat (IntKind.wrap .i64 ((18 : Int) + t))) / (4294967296 : Int) % (4294967296 : Int)) (f (Int.toNat (IntKind.wrap .i64 ((18 : Int) + t))) % (4294967296 : Int)) then ((0 : Int) <= IntKind.wrap .i64 ((22 : Int) + t) /\ IntKind.wrap .i64 ((22 : Int) + t) < (32 : Int)) /\ Int.toNat (IntKind.wrap .i64 ((22 : Int) + t)) < 32 /\ dP Tryz.f79 6 3 [xE 8, xE 7, ⟨6, [], [1], [], false⟩, xE 5, xR 4 0, xF 3 0, xE 2, xE 1, xR 0 2] /\ endP Xi [SA.a [nU 32 f], aI t] (SV.t [SA.a [sI (f (Int.toNat (IntKind.wrap .i64 ((18 : Int) + t))) / (4294967296 : Int) % (4294967296 : Int)), sI (f (Int.toNat (IntKind.wrap .i64 ((18 : Int) + t))) % (4294967296 : Int))], aI (IntKind.wrap .i64 (f (Int.toNat (IntKind.wrap .i64 ((22 : Int) + t))))), SA.c (.v Value.nilIface)]) [] else endP Xi [SA.a [nU 32 f], aI t] (SV.t [SA.a [sI 0, sI 0], aI 0, SA.c (.v (.iface 108 (Value.int .i64 (8 : Int))))]) []) (by kernel_rfl) ?_
 obtain ⟨T, rfl⟩ := Int.eq_ofNat_of_zero_le h0
 rw [Int.toNat_natCast] at hu w0 w1
 have e1 : IntKind.wrap .i64 ((18 : Int) + (T : Int)) = ((18 + T : Nat) : Int) := by rw [QC (by omega) (by omega)]; omega
 have e2 : IntKind.wrap .i64 ((22 : Int) + (T : Int)) = ((22 + T : Nat) : Int) := by rw [QC (by omega) (by omega)]; omega
 rw [e1, e2, Int.toNat_natCast, Int.toNat_natCast, QC (x := f (22 + T)) (by omega) (by omega)]
 refine Qp (fun h => absurd h (by omega)) (fun _ => Qp (fun h => absurd h (by omega)) (fun _ => ⟨⟨by omega, by omega⟩, by omega, hu, Q0 (fun h => ⟨⟨by omega, by omega⟩, by omega, Qd (by kernel_rfl), rfl, fun ρ => ?_⟩) (fun h => ⟨rfl, fun ρ => ?_⟩)⟩))
 · simp only [PCon.out, Xi, Int.toNat_natCast, h, cond_true]; rfl
 · simp only [PCon.out, Xi, Int.toNat_natCast, h, cond_false]
def QN : PCon := ⟨fun args => match args with
 | [.a [.ints (.int .u64) n f]] => n = 32 /\ RecW f
 | _ => False, fun _ => sv (.bool true), fun _ => none⟩
structure RoG where
 t : Nat
 ht : t <= 4
structure RiG where
 t : Nat
 u : Nat
 ht : t < 4
 hu : u <= t
def annO (f : Nat -> Int) : Ann where
 σ := RoG
 I g := ([(1, .o (.c (.p 0 0))), (3, sv (.int .u64 (f 28))), (35, sv (.int .i64 g.t))], [recB f])
 dec g := 4 - g.t
 pi _ _ := [0]
 nz := []
def annI (f : Nat -> Int) : Ann where
 rel := some fun a b => b.t = a.t
 σ := RiG
 I g := ([(1, .o (.c (.p 0 0))), (3, sv (.int .u64 (f 28))), (6, sv (.int .u64 (f (22 + g.t)))), (35, sv (.int .i64 g.t)), (69, sv (.int .i64 g.t)), (70, sv (.int .i64 g.u))], [recB f])
 dec g := g.t - g.u
 pi _ _ := [0]
 nz := []
def agRR : List SA -> List (Nat × Anns)
 | [.a [.ints (.int .u64) n f]] => [(46, [(0, annO f), (2, annI f)])]
 | _ => []
theorem Qd1 : (Con.pure QN).holds Tryz.prog 46 := by
 refine QD (Γ := [(47, .pure QcL), (82, .pure Qa6), (81, .pure QdE), (83, .pure QbA)]) Tryz.func46 rfl (by kernel_rfl) Qf Qc
   (fun W => .cons (Qhg W _) (.cons (Qe3 W _) (.cons (Qhh W _) (.cons (QbS W _) (.nil _ _ _))))) QN agRR 600 ?_
 intro W args hp
 unfold QN at hp; dsimp only at hp; split at hp
 case h_2 => exact hp.elim
 rename_i n f
 obtain ⟨rfl, h⟩ := hp
 refine ⟨rfl, ?_⟩
 refine Qj (q := (iR (28 : Int) (32 : Int)) /\ 28 < 32 /\ (32 = 32 /\ (0 : Int) <= f 0 /\ f 0 <= (6 : Int)) /\ 32 = 32 /\ (17 = 17 /\ ObjForm (f 0) (toN 17 (fL (toN 17 fun (i : Nat) => f (1 + i))))) /\ bif bif Qap (f 0) (toN 17 (fL (toN 17 fun (i : Nat) => f (1 + i)))) then false else true then dP Tryz.f46 2 1 [xE 20, xE 19, xE 18, xE 17, xE 16, xE 15, xE 14, xE 13, xE 12, xE 11, xE 10, xE 9, xE 8, xE 7, xE 6, xE 5, xE 4, xE 3, xR 2 0, xE 1, xR 0 0] /\ endP QN [SA.a [nU 32 f]] (SV.o (aB false)) [] else (iR (26 : Int) (32 : Int)) /\ 26 < 32 /\ (0 : Int) <= (4 : Int) /\ bif Int.fdiv (f 26) (16 : Int) != (0 : Int) then dP Tryz.f46 2 1 [xE 20, xE 19, xE 18, xE 17, xE 16, xE 15, xE 14, xE 13, xE 12, xE 11, xE 10, xE 9, xR 8 0, xF 7 0, xE 6, xE 5, xE 4, xE 3, xR 2 0, xE 1, xR 0 0] /\ endP QN [SA.a [nU 32 f]] (SV.o (aB false)) [] else bif decide (f 28 > (1099511627776 : Int)) then dP Tryz.f46 2 1 [xE 20, xE 19, xE 18, xE 17, xE 16, xE 15, xE 14, xE 13, xE 12, xE 11, xE 10, xE 9, xR 8 0, xF 7 0, xE 6, xE 5, xE 4, xE 3, xR 2 0, xE 1, xR 0 0] /\ endP QN [SA.a [nU 32 f]] (SV.o (aB false)) [] else (iR (27 : Int) (32 : Int)) /\ 27 < 32 /\ dP Tryz.f46 2 1 [xE 20, xE 19, xR 18 0, xF 17 0, xE 16, xE 15, xE 14, xE 13, xE 12, xE 11, xE 10, xE 9, xR 8 0, xF 7 0, xE 6, xE 5, xE 4, xE 3, xR 2 0, xE 1, xR 0 0] /\ bif decide (f 27 > (1099511627776 : Int)) then endP QN [SA.a [nU 32 f]] (SV.o (aB false)) [] else (∃ (s0 : Ann.σ (annO f)), (eS (aP 0 0) (aP 0 0) /\ eS (aU (f 28)) (aU (f 28)) /\ eS (aI 0) (aI ↑s0.1) /\ True) /\ [SB.cells [nU 32 f] 35] = [SB.cells [nU 32 f] 35]) /\ ∀ (s : RoG), bif decide ((↑s.1 : Int) < (4 : Int)) then ((0 : Int) <= IntKind.wrap .i64 ((18 : Int) + (↑s.1 : Int)) /\ IntKind.wrap .i64 ((18 : Int) + (↑s.1 : Int)) < (32 : Int)) /\ Int.toNat (IntKind.wrap .i64 ((18 : Int) + (↑s.1 : Int))) < 32 /\ ((0 : Int) <= IntKind.wrap .i64 ((22 : Int) + (↑s.1 : Int)) /\ IntKind.wrap .i64 ((22 : Int) + (↑s.1 : Int)) < (32 : Int)) /\ Int.toNat (IntKind.wrap .i64 ((22 : Int) + (↑s.1 : Int))) < 32 /\ dP Tryz.f46 7 1 [xE 9, xE 8, xR 7 0, xF 6 0, xE 5, xE 4, xR 3 0, xF 2 0, xE 1, xE 0] /\ U64 (f (Int.toNat (IntKind.wrap .i64 ((18 : Int) + (↑s.1 : Int))))) /\ bif Xa (f (Int.toNat (IntKind.wrap .i64 ((18 : Int) + (↑s.1 : Int)))) / (4294967296 : Int) % (4294967296 : Int)) (f (Int.toNat (IntKind.wrap .i64 ((18 : Int) + (↑s.1 : Int)))) % (4294967296 : Int)) then bif decide (f (Int.toNat (IntKind.wrap .i64 ((22 : Int) + (↑s.1 : Int)))) > f 28) then endP QN [SA.a [nU 32 f]] (SV.o (aB false)) [] else bif bif (f (Int.toNat (IntKind.wrap .i64 ((18 : Int) + (↑s.1 : Int)))) == (0 : Int)) == (f (Int.toNat (IntKind.wrap .i64 ((22 : Int) + (↑s.1 : Int)))) == (0 : Int)) then false else true then endP QN [SA.a [nU 32 f]] (SV.o (aB false)) [] else ∃ (s0 : RiG), ((eS (aP 0 0) (aP 0 0) /\ eS (aU (f 28)) (aU (f 28)) /\ eS (aU (f (Int.toNat (IntKind.wrap .i64 ((22 : Int) + (↑s.1 : Int)))))) (aU (f (22 + s0.1))) /\ eS (aI ↑s.1) (aI ↑s0.1) /\ eS (aI ↑s.1) (aI ↑s0.1) /\ eS (aI 0) (aI ↑s0.2) /\ True) /\ [SB.cells [nU 32 f] 35] = [SB.cells [nU 32 f] 35]) /\ s0.1 = s0.1 /\ ∀ (s_1 : RiG), s_1.1 = s0.1 -> bif decide ((↑s_1.2 : Int) < (↑s_1.1 : Int)) then bif f (22 + s_1.1) != (0 : Int) then ((0 : Int) <= IntKind.wrap .i64 ((22 : Int) + (↑s_1.2 : Int)) /\ IntKind.wrap .i64 ((22 : Int) + (↑s_1.2 : Int)) < (32 : Int)) /\ Int.toNat (IntKind.wrap .i64 ((22 : Int) + (↑s_1.2 : Int))) < 32 /\ bif f (Int.toNat (IntKind.wrap .i64 ((22 : Int) + (↑s_1.2 : Int)))) == f (22 + s_1.1) then endP QN [SA.a [nU 32 f]] (SV.o (aB false)) [] else ∃ (s' : RiG), ((eS (aP 0 0) (aP 0 0) /\ eS (aU (f 28)) (aU (f 28)) /\ eS (aU (f (22 + s_1.1))) (aU (f (22 + s'.1))) /\ eS (aI ↑s_1.1) (aI ↑s'.1) /\ eS (aI ↑s_1.1) (aI ↑s'.1) /\ eS (aI (IntKind.wrap .i64 ((↑s_1.2 : Int) + (1 : Int)))) (aI ↑s'.2) /\ True) /\ [SB.cells [nU 32 f] 35] = [SB.cells [nU 32 f] 35]) /\ s'.1 = s0.1 /\ s'.1 - s'.2 < s_1.1 - s_1.2 else ∃ (s' : RiG), ((eS (aP 0 0) (aP 0 0) /\ eS (aU (f 28)) (aU (f 28)) /\ eS (aU (f (22 + s_1.1))) (aU (f (22 + s'.1))) /\ eS (aI ↑s_1.1) (aI ↑s'.1) /\ eS (aI ↑s_1.1) (aI ↑s'.1) /\ eS (aI (IntKind.wrap .i64 ((↑s_1.2 : Int) + (1 : Int)))) (aI ↑s'.2) /\ True) /\ [SB.cells [nU 32 f] 35] = [SB.cells [nU 32 f] 35]) /\ s'.1 = s0.1 /\ s'.1 - s'.2 < s_1.1 - s_1.2 else ∃ (s' : RoG), ((eS (aP 0 0) (aP 0 0) /\ eS (aU (f 28)) (aU (f 28)) /\ eS (aI (IntKind.wrap .i64 ((↑s_1.1 : Int) + (1 : Int)))) (aI ↑s'.1) /\ True) /\ [SB.cells [nU 32 f] 35] = [SB.cells [nU 32 f] 35]) /\ 4 - s'.1 < 4 - s.1 else bif f (Int.toNat (IntKind.wrap .i64 ((18 : Int) + (↑s.1 : Int)))) != (0 : Int) then endP QN [SA.a [nU 32 f]] (SV.o (aB false)) [] else bif decide (f (Int.toNat (IntKind.wrap .i64 ((22 : Int) + (↑s.1 : Int)))) > f 28) then endP QN [SA.a [nU 32 f]] (SV.o (aB false)) [] else bif bif (f (Int.toNat (IntKind.wrap .i64 ((18 : Int) + (↑s.1 : Int)))) == (0 : Int)) == (f (Int.toNat (IntKind.wrap .i64 ((22 : Int) + (↑s.1 : Int)))) == (0 : Int)) then false else true then endP QN [SA.a [nU 32 f]] (SV.o (aB false)) [] else ∃ (s0 : RiG), ((eS (aP 0 0) (aP 0 0) /\ eS (aU (f 28)) (aU (f 28)) /\ eS (aU (f (Int.toNat (IntKind.wrap .i64 ((22 : Int) + (↑s.1 : Int)))))) (aU (f (22 + s0.1))) /\ eS (aI ↑s.1) (aI ↑s0.1) /\ eS (aI ↑s.1) (aI ↑s0.1) /\ eS (aI 0) (aI ↑s0.2) /\ True) /\ [SB.cells [nU 32 f] 35] = [SB.cells [nU 32 f] 35]) /\ s0.1 = s0.1 /\ ∀ (s_1 : RiG), s_1.1 = s0.1 -> bif decide ((↑s_1.2 : Int) < (↑s_1.1 : Int)) then bif f (22 + s_1.1) != (0 : Int) then ((0 : Int) <= IntKind.wrap .i64 ((22 : Int) + (↑s_1.2 : Int)) /\ IntKind.wrap .i64 ((22 : Int) + (↑s_1.2 : Int)) < (32 : Int)) /\ Int.toNat (IntKind.wrap .i64 ((22 : Int) + (↑s_1.2 : Int))) < 32 /\ bif f (Int.toNat (IntKind.wrap .i64 ((22 : Int) + (↑s_1.2 : Int)))) == f (22 + s_1.1) then endP QN [SA.a [nU 32 f]] (SV.o (aB false)) [] else ∃ (s' : RiG), ((eS (aP 0 0) (aP 0 0) /\ eS (aU (f 28)) (aU (f 28)) /\ eS (aU (f (22 + s_1.1))) (aU (f (22 + s'.1))) /\ eS (aI ↑s_1.1) (aI ↑s'.1) /\ eS (aI ↑s_1.1) (aI ↑s'.1) /\ eS (aI (IntKind.wrap .i64 ((↑s_1.2 : Int) + (1 : Int)))) (aI ↑s'.2) /\ True) /\ [SB.cells [nU 32 f] 35] = [SB.cells [nU 32 f] 35]) /\ s'.1 = s0.1 /\ s'.1 - s'.2 < s_1.1 - s_1.2 else ∃ (s' : RiG), ((eS (aP 0 0) (aP 0 0) /\ eS (aU (f 28)) (aU (f 28)) /\ eS (aU (f (22 + s_1.1))) (aU (f (22 + s'.1))) /\ eS (aI ↑s_1.1) (aI ↑s'.1) /\ eS (aI ↑s_1.1) (aI ↑s'.1) /\ eS (aI (IntKind.wrap .i64 ((↑s_1.2 : Int) + (1 : Int)))) (aI ↑s'.2) /\ True) /\ [SB.cells [nU 32 f] 35] = [SB.cells [nU 32 f] 35]) /\ s'.1 = s0.1 /\ s'.1 - s'.2 < s_1.1 - s_1.2 else ∃ (s' : RoG), ((eS (aP 0 0) (aP 0 0) /\ eS (aU (f 28)) (aU (f 28)) /\ eS (aI (IntKind.wrap .i64 ((↑s_1.1 : Int) + (1 : Int)))) (aI ↑s'.1) /\ True) /\ [SB.cells [nU 32 f] 35] = [SB.cells [nU 32 f] 35]) /\ 4 - s'.1 < 4 - s.1 else ((0 : Int) <= (29 : Int) /\ (29 : Int) <= (32 : Int) /\ (32 : Int) <= (32 : Int)) /\ (iR (0 : Int) (3 : Int)) /\ 29 < 32 /\ bif f 29 != (0 : Int) then endP QN [SA.a [nU 32 f]] (SV.o (aB false)) [] else (iR (1 : Int) (3 : Int)) /\ 30 < 32 /\ bif f 30 != (0 : Int) then endP QN [SA.a [nU 32 f]] (SV.o (aB false)) [] else (iR (2 : Int) (3 : Int)) /\ 31 < 32 /\ bif f 31 != (0 : Int) then endP QN [SA.a [nU 32 f]] (SV.o (aB false)) [] else endP QN [SA.a [nU 32 f]] (SV.o (aB true)) []) (by kernel_rfl) ?_
 obtain ⟨t29, t30, t31⟩ := h.tail
 have hR := h.1
 have k1 := hR.k1
 have k6 := hR.k6
 have c1 := hR.c1
 have v1 := hR.v1
 have g0 := hR.g0
 have g1 := hR.g1
 rw [Qgo] at k1 k6
 rw [Qfb] at c1
 rw [Qlr] at v1
 rw [Qif] at g0 g1
 have hok : QcQ (f 0) (toN 17 fun i => f (1 + i)) := hR.ok
 have hrv : Qap (f 0) (toN 17 fun i => f (1 + i)) = true := by
   unfold Qap
   cases h4 : (f 0 == 4)
   · rfl
   · have h4 := eq_of_beq h4
     obtain ⟨l, e, l6, -, hh⟩ := ObjForm.list (.inl hok) (by omega) (by omega)
     simp only [cond_true]
     rw [e, Qfh]; exact (Qhv l).2 ⟨hh h4 hok, l6⟩
 have each (t : Nat) (ht : t < 4) : U64 (f (18 + t)) /\ ((f (18 + t) = 0 /\ f (22 + t) = 0) \/ (Xa (f (18 + t) / 4294967296 % 4294967296) (f (18 + t) % 4294967296) = true /\ f (18 + t) ≠ 0 /\ 1 <= f (22 + t) /\ f (22 + t) <= f 28)) := by
   have := hR.each t ht
   rw [Qo6 f t ht, Qie f t ht, Qfb] at this
   rcases this with ⟨a, b⟩ | ⟨⟨c, v, hA, e⟩, b, d⟩
   · exact ⟨⟨by omega, by omega⟩, .inl ⟨a, b⟩⟩
   · have hw := Qgc hA
     rw [<- e] at hw
     exact ⟨⟨by omega, by omega⟩, .inr ⟨by rw [hw.1, hw.2.1]; exact (QbQ c v).2 hA, by omega, b, d⟩⟩
 have once (t u : Nat) (ht : t < 4) (hu : u < t) (hn : f (22 + t) ≠ 0) : f (22 + u) ≠ f (22 + t) := by
   have := hR.once t u ht hu
   rw [Qie f t ht, Qie f u (by omega)] at this
   exact this hn
 have wa (t : Nat) (ht : t < 4) : IntKind.wrap .i64 ((18 : Int) + (t : Int)) = ((18 + t : Nat) : Int) := by rw [QC (by omega) (by omega)]; omega
 have ww (t : Nat) (ht : t < 4) : IntKind.wrap .i64 ((22 : Int) + (t : Int)) = ((22 + t : Nat) : Int) := by rw [QC (by omega) (by omega)]; omega
 rw [Qa9 (Qa8 17 _), hrv, t29, t30, t31, show Int.fdiv (f 26) 16 = 0 by rw [Int.fdiv_eq_ediv_of_nonneg _ (by decide)]; omega]
 have hlast : ∀ (t : Nat), t < 4 -> ∀ M, M = [recB f] -> ∃ s' : RoG, ((some (SV.o (SA.c (.p 0 0))) = some (SV.o (SA.c (.p 0 0))) /\ some (sv (.int .u64 (f 28))) = some (sv (.int .u64 (f 28))) /\ some (sv (.int .i64 (IntKind.wrap .i64 ((t : Int) + 1)))) = some (sv (.int .i64 s'.t)) /\ True) /\ M = [recB f]) /\ 4 - s'.t < 4 - t :=
   fun t ht M hM => ⟨⟨t + 1, by omega⟩, ⟨⟨rfl, rfl, svI (sucI (by omega)), trivial⟩, hM⟩, by dsimp only; omega⟩
 refine ⟨⟨by decide, by decide⟩, by decide, ⟨rfl, by omega, by omega⟩, rfl, ⟨rfl, .inl hok⟩, Xu (fun h => by cases h) (fun _ => ⟨⟨by decide, by decide⟩, by decide, by decide, QB (fun h => absurd rfl h) (fun _ => Qp (fun h => absurd h (by omega)) (fun _ => ⟨⟨by decide, by decide⟩, by decide, Qd (by kernel_rfl), Qp (fun h => absurd h (by omega)) (fun _ => ⟨⟨⟨0, by omega⟩, ⟨rfl, rfl, rfl, trivial⟩, rfl⟩, ?_⟩)⟩))⟩)⟩
 rintro ⟨t, ht⟩
 dsimp only
 refine Qp (fun hlt => ?_) (fun _ => ⟨⟨by decide, by decide, by decide⟩, ⟨by decide, by decide⟩, by decide, QB (fun h => absurd rfl h) (fun _ => ⟨⟨by decide, by decide⟩, by decide, QB (fun h => absurd rfl h) (fun _ => ⟨⟨by decide, by decide⟩, by decide, QB (fun h => absurd rfl h) (fun _ => ⟨rfl, fun ρ => rfl⟩)⟩)⟩)⟩)
 have ht4 : t < 4 := by omega
 obtain ⟨hu, he⟩ := each t ht4
 rw [wa t ht4, ww t ht4, Int.toNat_natCast, Int.toNat_natCast]
 refine ⟨⟨by omega, by omega⟩, by omega, ⟨by omega, by omega⟩, by omega, Qd (by kernel_rfl), hu, ?_⟩
 rcases he with ⟨a0, b0⟩ | ⟨ha, a0, b0, b1⟩
 · rw [a0, b0]
   refine Q0 (fun h => absurd h (by decide)) (fun _ => QB (fun h => absurd rfl h) (fun _ => Qp (fun h => absurd h (by have := hR.c0; rw [Qfb] at this; omega)) (fun _ => Xu (fun h => by cases h) (fun _ => ?_))))
   refine ⟨⟨t, 0, ht4, by omega⟩, ⟨⟨rfl, rfl, by rw [b0], rfl, rfl, rfl, trivial⟩, rfl⟩, rfl, ?_⟩
   rintro ⟨t', u, ht', hu'⟩ (rfl : t' = t)
   dsimp only
   rw [b0]
   refine Qp (fun hlt2 => QB (fun h => absurd rfl h) (fun _ => ?_)) (fun _ => hlast _ ht4 _ rfl)
   exact ⟨⟨t', u + 1, ht', by omega⟩, ⟨⟨rfl, rfl, by rw [b0], rfl, rfl, svI (sucI (by omega)), trivial⟩, rfl⟩, rfl, by dsimp only; omega⟩
 · refine Q0 (fun _ => ?_) (fun h => absurd (ha.symm.trans h) (by decide))
   refine Qp (fun h => absurd h (by omega)) (fun _ => Xu (fun h => ?_) (fun _ => ?_))
   · rw [show (f (18 + t) == 0) = false from beq_eq_false_iff_ne.2 a0, show (f (22 + t) == 0) = false from beq_eq_false_iff_ne.2 (by omega)] at h
     cases h
   refine ⟨⟨t, 0, ht4, by omega⟩, ⟨⟨rfl, rfl, rfl, rfl, rfl, rfl, trivial⟩, rfl⟩, rfl, ?_⟩
   rintro ⟨t', u, ht', hu'⟩ (rfl : t' = t)
   dsimp only
   refine Qp (fun hlt2 => QB (fun _ => ?_) (fun h => absurd h (by omega))) (fun _ => hlast _ ht4 _ rfl)
   rw [ww u (by omega), Int.toNat_natCast]
   refine ⟨⟨by omega, by omega⟩, by omega, Q7 (fun h => absurd h (once t' u ht' (by omega) (by omega))) (fun _ => ?_)⟩
   exact ⟨⟨t', u + 1, ht', by omega⟩, ⟨⟨rfl, rfl, rfl, rfl, rfl, svI (sucI (by omega)), trivial⟩, rfl⟩, rfl, by dsimp only; omega⟩
def Q9 : PCon := ⟨fun args => match args with
 | [.a [.ints (.int .u64) n f], .c (.v (.int .i64 t)), .a [.one (.v (.int .i64 k)), .one (.v (.int .i64 key)), .one (.v (.int .i64 x))]] => n = 32 /\ RecW f /\ 0 <= t /\ t < 4
 | _ => False, fun args => match args with
 | [.a [.ints (.int .u64) n f], .c (.v (.int .i64 t)), .a [.one (.v (.int .i64 k)), .one (.v (.int .i64 key)), .one (.v (.int .i64 x))]] => .t [recA (fL ((Rec.ofW (toN 32 f)).done t.toNat k key x).words), nilE]
 | _ => sv undef, fun args => match args with
 | [.a [.ints (.int .u64) n f], .c (.v (.int .i64 t)), .a [.one (.v (.int .i64 k)), .one (.v (.int .i64 key)), .one (.v (.int .i64 x))]] => some (opOk k key x, .t [recA (fun _ => 0), errA 1])
 | _ => none⟩
theorem Qdn (f g : Nat -> Int) (T : Nat) (t k key x : Int) (ht : t.toNat = T) (ho : opOk k key x = true) (M : List SB) (hg : ∀ i, i < 32 -> g i = fL ((Rec.ofW (toN 32 f)).done T k key x).words i) :
   endP Q9 [recA f, .c (.v (.int .i64 t)), opA k key x] (.t [recA g, .c (.v .nilIface)]) M := by
 refine ⟨rfl, fun ρ => ?_⟩
 subst ht
 simp only [PCon.out, Q9, ho, cond_true, SV.den, List.map_cons, List.map_nil]
 rw [Qax hg]; rfl
theorem Qhj : (Con.pure Q9).holds Tryz.prog 78 := by
 refine QD (Γ := [(46, .pure QN), (47, .pure QcL), (82, .pure Qa6), (74, .pure QaK), (113, .pure QdH), (114, .pure QgR)]) Tryz.func78 rfl (by kernel_rfl) Qf Qc
   (fun W => .cons (Qd1 W _) (.cons (Qhg W _) (.cons (Qe3 W _) (.cons (do_con W _) (.cons (QkE W _) (.cons (QnM W _) (.nil _ _ _))))))) Q9 (fun _ => []) 600 ?_
 intro W args hp
 unfold Q9 at hp; dsimp only at hp; split at hp
 case h_2 => exact hp.elim
 rename_i n f t k key x
 obtain ⟨rfl, h, h0, h4⟩ := hp
 refine ⟨rfl, ?_⟩
 have hR := h.1
 have k1 := hR.k1
 have k6 := hR.k6
 have c0 := hR.c0
 have c1 := hR.c1
 have g0 := hR.g0
 have g1 := hR.g1
 rw [Qgo] at k1 k6
 rw [Qfb] at c0 c1
 rw [Qif] at g0 g1
 have hok : QcQ (f 0) (toN 17 fun i => f (1 + i)) := hR.ok
 have ht : t = 0 \/ t = 1 \/ t = 2 \/ t = 3 := by omega
 rcases ht with rfl | rfl | rfl | rfl
 ·
   refine Qj (q := (32 = 32 /\ RecW f) /\ (32 = 32 /\ (0 : Int) <= f 0 /\ f 0 <= (6 : Int)) /\ 32 = 32 /\ (17 = 17 /\ QcQ (f 0) (toN 17 (fL (toN 17 fun (i : Nat) => f (1 + i))))) /\ bif opOk k key x then dP Tryz.f78 5 3 [xE 14, ⟨13, [], [4], [], false⟩, ⟨12, [], [3], [], false⟩, ⟨11, [], [4], [4], false⟩, ⟨10, [], [3], [3], false⟩, xE 9, xE 8, xE 7, xE 6, xE 5, xR 4 1, xE 3, xR 2 0, xE 1, xR 0 0] /\ ((0 : Int) <= (1 : Int) /\ (1 : Int) <= (32 : Int) /\ (32 : Int) <= (32 : Int)) /\ ((0 : Int) <= (0 : Int) /\ (0 : Int) <= (17 : Int) /\ (17 : Int) <= (17 : Int)) /\ dP Tryz.f78 8 5 [⟨2, [3], [0], [], false⟩, xF 1 3, xF 0 0] /\ QU (Prod.snd (objR (f 0) (toN 17 (fL (toN 17 fun (i : Nat) => f (1 + i)))) k key x)).1 (Prod.snd (objR (f 0) (toN 17 (fL (toN 17 fun (i : Nat) => f (1 + i)))) k key x)).2 /\ (iR (18 : Int) (32 : Int)) /\ 18 < 32 /\ (iR (28 : Int) (32 : Int)) /\ 28 < 32 /\ (iR (28 : Int) (32 : Int)) /\ 28 < 32 /\ (iR (28 : Int) (32 : Int)) /\ 28 < 32 /\ (iR (22 : Int) (32 : Int)) /\ 22 < 32 /\ (iR (26 : Int) (32 : Int)) /\ 26 < 32 /\ U64 (f 26) /\ (iR (26 : Int) (32 : Int)) /\ 26 < 32 /\ endP Q9 [SA.a [nU 32 f], aI 0, SA.a [sI k, sI key, sI x]] (SV.t [SA.a [nU 32 fun (i : Nat) => bif Nat.beq i 26 then QcP (f 26) (0 : Int) else bif Nat.beq i 22 then IntKind.wrap .u64 (f 28 + (1 : Int)) else bif Nat.beq i 28 then IntKind.wrap .u64 (f 28 + (1 : Int)) else bif Nat.beq i 18 then ansW (Prod.snd (objR (f 0) (toN 17 (fL (toN 17 fun (i : Nat) => f (1 + i)))) k key x)).1 (Prod.snd (objR (f 0) (toN 17 (fL (toN 17 fun (i : Nat) => f (1 + i)))) k key x)).2 else bif match Nat.ble 1 i with | false => false | true => Nat.ble i 17 then fL (objR (f 0) (toN 17 (fL (toN 17 fun (i : Nat) => f (1 + i)))) k key x).1 (match i with | 0 => 0 | Nat.succ a => a) else f i], SA.c (.v Value.nilIface)]) [] else dP Tryz.f78 5 3 [xE 14, ⟨13, [], [4], [], false⟩, ⟨12, [], [3], [], false⟩, ⟨11, [], [4], [4], false⟩, ⟨10, [], [3], [3], false⟩, xE 9, xE 8, xE 7, xE 6, xE 5, xR 4 1, xE 3, xR 2 0, xE 1, xR 0 0] /\ endP Q9 [SA.a [nU 32 f], aI 0, SA.a [sI k, sI key, sI x]] (SV.t [SA.a [nU 32 zF], SA.c (.v (.iface 108 (Value.int .i64 (1 : Int))))]) []) (by kernel_rfl) ?_
   refine ⟨⟨rfl, h⟩, ⟨rfl, by omega, by omega⟩, rfl, ⟨rfl, by rw [Qa9 (Qa8 17 _)]; exact hok⟩, ?_⟩
   rw [Qa9 (Qa8 17 _)]
   refine Q0 (fun ho => ?_) (fun ho => ⟨Qd (by kernel_rfl), rfl, fun ρ => ?_⟩)
   · have hA := (Qc6 hok k key x ho).1
     rw [QaG (x := f 28 + 1) (by omega) (by omega)]
     refine ⟨Qd (by kernel_rfl), ⟨by decide, by decide, by decide⟩, ⟨by decide, by decide, by decide⟩, Qd (by kernel_rfl), hA, ?_⟩
     repeat (first | refine ⟨by decide, ?_⟩ | refine ⟨⟨g0, by omega⟩, ?_⟩)
     exact Qdn f _ 0 0 k key x rfl ho _ (fun i hi => QeO h 0 (by decide) k key x ho i hi)
   · simp only [PCon.out, Q9, ho, cond_false]
 ·
   refine Qj (q := (32 = 32 /\ RecW f) /\ (32 = 32 /\ (0 : Int) <= f 0 /\ f 0 <= (6 : Int)) /\ 32 = 32 /\ (17 = 17 /\ QcQ (f 0) (toN 17 (fL (toN 17 fun (i : Nat) => f (1 + i))))) /\ bif opOk k key x then dP Tryz.f78 5 3 [xE 14, ⟨13, [], [4], [], false⟩, ⟨12, [], [3], [], false⟩, ⟨11, [], [4], [4], false⟩, ⟨10, [], [3], [3], false⟩, xE 9, xE 8, xE 7, xE 6, xE 5, xR 4 1, xE 3, xR 2 0, xE 1, xR 0 0] /\ ((0 : Int) <= (1 : Int) /\ (1 : Int) <= (32 : Int) /\ (32 : Int) <= (32 : Int)) /\ ((0 : Int) <= (0 : Int) /\ (0 : Int) <= (17 : Int) /\ (17 : Int) <= (17 : Int)) /\ dP Tryz.f78 8 5 [⟨2, [3], [0], [], false⟩, xF 1 3, xF 0 0] /\ QU (Prod.snd (objR (f 0) (toN 17 (fL (toN 17 fun (i : Nat) => f (1 + i)))) k key x)).1 (Prod.snd (objR (f 0) (toN 17 (fL (toN 17 fun (i : Nat) => f (1 + i)))) k key x)).2 /\ (iR (19 : Int) (32 : Int)) /\ 19 < 32 /\ (iR (28 : Int) (32 : Int)) /\ 28 < 32 /\ (iR (28 : Int) (32 : Int)) /\ 28 < 32 /\ (iR (28 : Int) (32 : Int)) /\ 28 < 32 /\ (iR (23 : Int) (32 : Int)) /\ 23 < 32 /\ (iR (26 : Int) (32 : Int)) /\ 26 < 32 /\ U64 (f 26) /\ (iR (26 : Int) (32 : Int)) /\ 26 < 32 /\ endP Q9 [SA.a [nU 32 f], aI 1, SA.a [sI k, sI key, sI x]] (SV.t [SA.a [nU 32 fun (i : Nat) => bif Nat.beq i 26 then QcP (f 26) (1 : Int) else bif Nat.beq i 23 then IntKind.wrap .u64 (f 28 + (1 : Int)) else bif Nat.beq i 28 then IntKind.wrap .u64 (f 28 + (1 : Int)) else bif Nat.beq i 19 then ansW (Prod.snd (objR (f 0) (toN 17 (fL (toN 17 fun (i : Nat) => f (1 + i)))) k key x)).1 (Prod.snd (objR (f 0) (toN 17 (fL (toN 17 fun (i : Nat) => f (1 + i)))) k key x)).2 else bif match Nat.ble 1 i with | false => false | true => Nat.ble i 17 then fL (objR (f 0) (toN 17 (fL (toN 17 fun (i : Nat) => f (1 + i)))) k key x).1 (match i with | 0 => 0 | Nat.succ a => a) else f i], SA.c (.v Value.nilIface)]) [] else dP Tryz.f78 5 3 [xE 14, ⟨13, [], [4], [], false⟩, ⟨12, [], [3], [], false⟩, ⟨11, [], [4], [4], false⟩, ⟨10, [], [3], [3], false⟩, xE 9, xE 8, xE 7, xE 6, xE 5, xR 4 1, xE 3, xR 2 0, xE 1, xR 0 0] /\ endP Q9 [SA.a [nU 32 f], aI 1, SA.a [sI k, sI key, sI x]] (SV.t [SA.a [nU 32 zF], SA.c (.v (.iface 108 (Value.int .i64 (1 : Int))))]) []) (by kernel_rfl) ?_
   refine ⟨⟨rfl, h⟩, ⟨rfl, by omega, by omega⟩, rfl, ⟨rfl, by rw [Qa9 (Qa8 17 _)]; exact hok⟩, ?_⟩
   rw [Qa9 (Qa8 17 _)]
   refine Q0 (fun ho => ?_) (fun ho => ⟨Qd (by kernel_rfl), rfl, fun ρ => ?_⟩)
   · have hA := (Qc6 hok k key x ho).1
     rw [QaG (x := f 28 + 1) (by omega) (by omega)]
     refine ⟨Qd (by kernel_rfl), ⟨by decide, by decide, by decide⟩, ⟨by decide, by decide, by decide⟩, Qd (by kernel_rfl), hA, ?_⟩
     repeat (first | refine ⟨by decide, ?_⟩ | refine ⟨⟨g0, by omega⟩, ?_⟩)
     exact Qdn f _ 1 1 k key x rfl ho _ (fun i hi => QeO h 1 (by decide) k key x ho i hi)
   · simp only [PCon.out, Q9, ho, cond_false]
 ·
   refine Qj (q := (32 = 32 /\ RecW f) /\ (32 = 32 /\ (0 : Int) <= f 0 /\ f 0 <= (6 : Int)) /\ 32 = 32 /\ (17 = 17 /\ QcQ (f 0) (toN 17 (fL (toN 17 fun (i : Nat) => f (1 + i))))) /\ bif opOk k key x then dP Tryz.f78 5 3 [xE 14, ⟨13, [], [4], [], false⟩, ⟨12, [], [3], [], false⟩, ⟨11, [], [4], [4], false⟩, ⟨10, [], [3], [3], false⟩, xE 9, xE 8, xE 7, xE 6, xE 5, xR 4 1, xE 3, xR 2 0, xE 1, xR 0 0] /\ ((0 : Int) <= (1 : Int) /\ (1 : Int) <= (32 : Int) /\ (32 : Int) <= (32 : Int)) /\ ((0 : Int) <= (0 : Int) /\ (0 : Int) <= (17 : Int) /\ (17 : Int) <= (17 : Int)) /\ dP Tryz.f78 8 5 [⟨2, [3], [0], [], false⟩, xF 1 3, xF 0 0] /\ QU (Prod.snd (objR (f 0) (toN 17 (fL (toN 17 fun (i : Nat) => f (1 + i)))) k key x)).1 (Prod.snd (objR (f 0) (toN 17 (fL (toN 17 fun (i : Nat) => f (1 + i)))) k key x)).2 /\ (iR (20 : Int) (32 : Int)) /\ 20 < 32 /\ (iR (28 : Int) (32 : Int)) /\ 28 < 32 /\ (iR (28 : Int) (32 : Int)) /\ 28 < 32 /\ (iR (28 : Int) (32 : Int)) /\ 28 < 32 /\ (iR (24 : Int) (32 : Int)) /\ 24 < 32 /\ (iR (26 : Int) (32 : Int)) /\ 26 < 32 /\ U64 (f 26) /\ (iR (26 : Int) (32 : Int)) /\ 26 < 32 /\ endP Q9 [SA.a [nU 32 f], aI 2, SA.a [sI k, sI key, sI x]] (SV.t [SA.a [nU 32 fun (i : Nat) => bif Nat.beq i 26 then QcP (f 26) (2 : Int) else bif Nat.beq i 24 then IntKind.wrap .u64 (f 28 + (1 : Int)) else bif Nat.beq i 28 then IntKind.wrap .u64 (f 28 + (1 : Int)) else bif Nat.beq i 20 then ansW (Prod.snd (objR (f 0) (toN 17 (fL (toN 17 fun (i : Nat) => f (1 + i)))) k key x)).1 (Prod.snd (objR (f 0) (toN 17 (fL (toN 17 fun (i : Nat) => f (1 + i)))) k key x)).2 else bif match Nat.ble 1 i with | false => false | true => Nat.ble i 17 then fL (objR (f 0) (toN 17 (fL (toN 17 fun (i : Nat) => f (1 + i)))) k key x).1 (match i with | 0 => 0 | Nat.succ a => a) else f i], SA.c (.v Value.nilIface)]) [] else dP Tryz.f78 5 3 [xE 14, ⟨13, [], [4], [], false⟩, ⟨12, [], [3], [], false⟩, ⟨11, [], [4], [4], false⟩, ⟨10, [], [3], [3], false⟩, xE 9, xE 8, xE 7, xE 6, xE 5, xR 4 1, xE 3, xR 2 0, xE 1, xR 0 0] /\ endP Q9 [SA.a [nU 32 f], aI 2, SA.a [sI k, sI key, sI x]] (SV.t [SA.a [nU 32 zF], SA.c (.v (.iface 108 (Value.int .i64 (1 : Int))))]) []) (by kernel_rfl) ?_
   refine ⟨⟨rfl, h⟩, ⟨rfl, by omega, by omega⟩, rfl, ⟨rfl, by rw [Qa9 (Qa8 17 _)]; exact hok⟩, ?_⟩
   rw [Qa9 (Qa8 17 _)]
   refine Q0 (fun ho => ?_) (fun ho => ⟨Qd (by kernel_rfl), rfl, fun ρ => ?_⟩)
   · have hA := (Qc6 hok k key x ho).1
     rw [QaG (x := f 28 + 1) (by omega) (by omega)]
     refine ⟨Qd (by kernel_rfl), ⟨by decide, by decide, by decide⟩, ⟨by decide, by decide, by decide⟩, Qd (by kernel_rfl), hA, ?_⟩
     repeat (first | refine ⟨by decide, ?_⟩ | refine ⟨⟨g0, by omega⟩, ?_⟩)
     exact Qdn f _ 2 2 k key x rfl ho _ (fun i hi => QeO h 2 (by decide) k key x ho i hi)
   · simp only [PCon.out, Q9, ho, cond_false]
 ·
   refine Qj (q := (32 = 32 /\ RecW f) /\ (32 = 32 /\ (0 : Int) <= f 0 /\ f 0 <= (6 : Int)) /\ 32 = 32 /\ (17 = 17 /\ QcQ (f 0) (toN 17 (fL (toN 17 fun (i : Nat) => f (1 + i))))) /\ bif opOk k key x then dP Tryz.f78 5 3 [xE 14, ⟨13, [], [4], [], false⟩, ⟨12, [], [3], [], false⟩, ⟨11, [], [4], [4], false⟩, ⟨10, [], [3], [3], false⟩, xE 9, xE 8, xE 7, xE 6, xE 5, xR 4 1, xE 3, xR 2 0, xE 1, xR 0 0] /\ ((0 : Int) <= (1 : Int) /\ (1 : Int) <= (32 : Int) /\ (32 : Int) <= (32 : Int)) /\ ((0 : Int) <= (0 : Int) /\ (0 : Int) <= (17 : Int) /\ (17 : Int) <= (17 : Int)) /\ dP Tryz.f78 8 5 [⟨2, [3], [0], [], false⟩, xF 1 3, xF 0 0] /\ QU (Prod.snd (objR (f 0) (toN 17 (fL (toN 17 fun (i : Nat) => f (1 + i)))) k key x)).1 (Prod.snd (objR (f 0) (toN 17 (fL (toN 17 fun (i : Nat) => f (1 + i)))) k key x)).2 /\ (iR (21 : Int) (32 : Int)) /\ 21 < 32 /\ (iR (28 : Int) (32 : Int)) /\ 28 < 32 /\ (iR (28 : Int) (32 : Int)) /\ 28 < 32 /\ (iR (28 : Int) (32 : Int)) /\ 28 < 32 /\ (iR (25 : Int) (32 : Int)) /\ 25 < 32 /\ (iR (26 : Int) (32 : Int)) /\ 26 < 32 /\ U64 (f 26) /\ (iR (26 : Int) (32 : Int)) /\ 26 < 32 /\ endP Q9 [SA.a [nU 32 f], aI 3, SA.a [sI k, sI key, sI x]] (SV.t [SA.a [nU 32 fun (i : Nat) => bif Nat.beq i 26 then QcP (f 26) (3 : Int) else bif Nat.beq i 25 then IntKind.wrap .u64 (f 28 + (1 : Int)) else bif Nat.beq i 28 then IntKind.wrap .u64 (f 28 + (1 : Int)) else bif Nat.beq i 21 then ansW (Prod.snd (objR (f 0) (toN 17 (fL (toN 17 fun (i : Nat) => f (1 + i)))) k key x)).1 (Prod.snd (objR (f 0) (toN 17 (fL (toN 17 fun (i : Nat) => f (1 + i)))) k key x)).2 else bif match Nat.ble 1 i with | false => false | true => Nat.ble i 17 then fL (objR (f 0) (toN 17 (fL (toN 17 fun (i : Nat) => f (1 + i)))) k key x).1 (match i with | 0 => 0 | Nat.succ a => a) else f i], SA.c (.v Value.nilIface)]) [] else dP Tryz.f78 5 3 [xE 14, ⟨13, [], [4], [], false⟩, ⟨12, [], [3], [], false⟩, ⟨11, [], [4], [4], false⟩, ⟨10, [], [3], [3], false⟩, xE 9, xE 8, xE 7, xE 6, xE 5, xR 4 1, xE 3, xR 2 0, xE 1, xR 0 0] /\ endP Q9 [SA.a [nU 32 f], aI 3, SA.a [sI k, sI key, sI x]] (SV.t [SA.a [nU 32 zF], SA.c (.v (.iface 108 (Value.int .i64 (1 : Int))))]) []) (by kernel_rfl) ?_
   refine ⟨⟨rfl, h⟩, ⟨rfl, by omega, by omega⟩, rfl, ⟨rfl, by rw [Qa9 (Qa8 17 _)]; exact hok⟩, ?_⟩
   rw [Qa9 (Qa8 17 _)]
   refine Q0 (fun ho => ?_) (fun ho => ⟨Qd (by kernel_rfl), rfl, fun ρ => ?_⟩)
   · have hA := (Qc6 hok k key x ho).1
     rw [QaG (x := f 28 + 1) (by omega) (by omega)]
     refine ⟨Qd (by kernel_rfl), ⟨by decide, by decide, by decide⟩, ⟨by decide, by decide, by decide⟩, Qd (by kernel_rfl), hA, ?_⟩
     repeat (first | refine ⟨by decide, ?_⟩ | refine ⟨⟨g0, by omega⟩, ?_⟩)
     exact Qdn f _ 3 3 k key x rfl ho _ (fun i hi => QeO h 3 (by decide) k key x ho i hi)
   · simp only [PCon.out, Q9, ho, cond_false]
def QgL : PCon := ⟨fun args => match args with
 | [.c (.v (.int .i64 a)), .c (.v (.int .i64 n))] => 0 < n /\ n <= 9223372036854775807
 | _ => False, fun args => match args with
 | [.c (.v (.int .i64 a)), .c (.v (.int .i64 n))] => sv (.int .i64 (Qgm a n))
 | _ => sv undef, fun _ => none⟩
theorem Qne : (Con.pure QgL).holds Tryz.prog 20 := by
 refine Qx (AG := []) (Γ := []) Tryz.func20 rfl (by kernel_rfl) Qf Qc (fun _ => GamOk.nil _ _ _) QgL 400 ?_
 intro W args hp
 unfold QgL at hp; dsimp only at hp; split at hp
 case h_2 => exact hp.elim
 rename_i a n
 refine ⟨rfl, ?_⟩
 refine Qj (q := IntKind.wrap .u64 n ≠ (0 : Int) /\ SV.o (aI (IntKind.wrap .i64 (Int.tmod (IntKind.wrap .u64 a) (IntKind.wrap .u64 n)))) = SV.o (aI (Qgm a n)) /\ true = true) (by kernel_rfl) ?_
 have := Qnd a n hp
 exact ⟨this.1, by rw [this.2], rfl⟩
def Qfs : PCon := ⟨fun args => match args with
 | [.c (.v (.int .i64 a))] => True
 | _ => False, fun args => match args with
 | [.c (.v (.int .i64 a))] => sv (.int .i64 (1 + Qgm a 6))
 | _ => sv undef, fun _ => none⟩
theorem QpI : (Con.pure Qfs).holds Tryz.prog 19 := by
 refine Qx (AG := []) (Γ := [(20, .pure QgL)]) Tryz.func19 rfl (by kernel_rfl) Qf Qc (fun W => .cons (Qne W _) (.nil _ _ _)) Qfs 400 ?_
 intro W args hp
 unfold Qfs at hp; dsimp only at hp; split at hp
 case h_2 => exact hp.elim
 rename_i a
 refine ⟨rfl, ?_⟩
 refine Qj (q := ((0 : Int) < (6 : Int) /\ (6 : Int) <= (9223372036854775807 : Int)) /\ SV.o (aI (IntKind.wrap .i64 ((1 : Int) + Qgm a (6 : Int)))) = SV.o (aI ((1 : Int) + Qgm a (6 : Int))) /\ true = true) (by kernel_rfl) ?_
 have h1 := Qen a 6 (by decide)
 have h2 := QiS a 6 (by decide)
 exact ⟨⟨by decide, by decide⟩, by rw [QC (by omega) (by omega)], rfl⟩
def QhJ : PCon := ⟨fun args => match args with
 | [.c (.v (.int .i64 a))] => True
 | _ => False, fun args => match args with
 | [.c (.v (.int .i64 a))] => .o (opA 1 0 a)
 | _ => sv undef, fun _ => none⟩
theorem Qll : (Con.pure QhJ).holds Tryz.prog 27 := by
 refine Qx (AG := []) (Γ := []) Tryz.func27 rfl (by kernel_rfl) Qf Qc (fun _ => GamOk.nil _ _ _) QhJ 400 ?_
 intro W args hp
 unfold QhJ at hp; dsimp only at hp; split at hp
 case h_2 => exact hp.elim
 rename_i a
 refine ⟨rfl, ?_⟩
 refine Qj (q := SV.o (SA.a [sI 1, sI 0, sI a]) = SV.o (SA.a [sI 1, sI 0, sI a]) /\ true = true) (by kernel_rfl) ?_
 exact ⟨rfl, rfl⟩
def Qdd : PCon := ⟨fun args => match args with
 | [] => True
 | _ => False, fun _ => sv (.bool true), fun _ => none⟩
theorem Qoq : (Con.pure Qdd).holds Tryz.prog 44 := by
 refine Qx (AG := []) (Γ := [(59, .pure Qcp), (27, .pure QhJ), (78, .pure Q9), (79, .pure Xi), (46, .pure QN), (80, .pure Xb)]) Tryz.func44 rfl (by kernel_rfl) Qf Qc
   (fun W => .cons (QiP W _) (.cons (Qll W _) (.cons (Qhj W _) (.cons (Qc3 W _) (.cons (Qd1 W _) (.cons (Qau W _) (.nil _ _ _))))))) Qdd 400 ?_
 intro W args hp
 unfold Qdd at hp; dsimp only at hp; split at hp
 case h_2 => exact hp.elim
 refine ⟨rfl, ?_⟩
 refine Qj (q := ((1 : Int) <= (1 : Int) /\ (1 : Int) <= (6 : Int)) /\ True /\ (32 = 32 /\ RecW (fL (Rec.words (Rec.new (1 : Int)))) /\ (0 : Int) <= (2 : Int) /\ (2 : Int) < (4 : Int)) /\ dP Tryz.f44 2 1 [xE 8, ⟨7, [], [1], [], false⟩, ⟨6, [], [1], [1], false⟩, xE 5, xE 4, xE 3, xE 2, xE 1, xR 0 0] /\ (32 = 32 /\ (0 : Int) <= (2 : Int) /\ (2 : Int) < (4 : Int) /\ U64 (4294967296 : Int) /\ (0 : Int) <= (1 : Int) /\ (1 : Int) <= (9223372036854775807 : Int)) /\ (32 = 32 /\ RecW (fL (Rec.words (Rec.new (1 : Int))))) /\ (32 = 32 /\ RecW (fL (Rec.words (Rec.done (Rec.ofW (toN 32 (fL (Rec.words (Rec.new (1 : Int)))))) 2 (1 : Int) (0 : Int) (9 : Int))))) /\ (32 = 32 /\ (0 : Int) <= (2 : Int) /\ (2 : Int) < (4 : Int) /\ (0 : Int) <= (4 : Int) /\ (4 : Int) < (16 : Int)) /\ (32 = 32 /\ (0 : Int) <= (2 : Int) /\ (2 : Int) < (4 : Int) /\ (0 : Int) <= (0 : Int) /\ (0 : Int) < (16 : Int)) /\ SV.o (aB true) = SV.o (aB true) /\ true = true) (by kernel_rfl) ?_
 have r0 := Qor (RecOK.new (kind := 1) (by decide) (by decide)) (by decide)
 have r1 := Qor ((RecOK.new (kind := 1) (by decide) (by decide)).done 2 (by decide) 1 0 9 (by decide)) (by decide)
 rw [r0.2]
 exact ⟨⟨by decide, by decide⟩, trivial, ⟨rfl, r0.1, by decide, by decide⟩, Qd (by kernel_rfl), ⟨rfl, by decide, by decide, ⟨by decide, by decide⟩, by decide, by decide⟩, ⟨rfl, r0.1⟩, ⟨rfl, r1.1⟩, ⟨rfl, by decide, by decide, by decide, by decide⟩, ⟨rfl, by decide, by decide, by decide, by decide⟩, rfl, rfl⟩
abbrev QoW (m c : Nat) (z : Nat -> Nat -> Int) : SB := .rows 154 [.int .i64, .int .i64, .int .i64, .int .i64, .int .i64] 5 m c z
abbrev rowsD (m c : Nat) (z : Nat -> Nat -> Int) : SB := .rows 60 [.int .i64, .int .i64, .int .i64, .int .i64, .int .i64, .int .i64] 6 m c z
abbrev nzD (t : Nat) : NZ := .tmp t 60 6 [.int .i64, .int .i64, .int .i64, .int .i64, .int .i64, .int .i64]
def Qb5 : PCon := ⟨fun args => match args with
 | [.a [.ints (.int .u64) n f], .a [.one (.v (.int .i64 t)), .one (.v (.int .i64 g)), .one (.v (.int .i64 a)), .one (.v (.int .i64 b)), .one (.v (.int .i64 c))]] => n = 32 /\ 0 <= t /\ t < 4 /\ (g = 0 \/ g = 1) /\ 0 <= f 26 /\ f 26 < 16
 | _ => False, fun args => match args with
 | [.a [.ints (.int .u64) n f], .a [.one (.v (.int .i64 t)), .one (.v (.int .i64 g)), .one (.v (.int .i64 a)), .one (.v (.int .i64 b)), .one (.v (.int .i64 c))]] => .t [.c (.v (.bool (Qn (f 26) t.toNat != g))), nilE]
 | _ => sv undef, fun _ => none⟩
theorem Qnh : (Con.pure Qb5).holds Tryz.prog 136 := by
 refine QD (Γ := [(80, .pure Xb)]) Tryz.func136 rfl (by kernel_rfl) Qf Qc (fun W => .cons (Qau W _) (.nil _ _ _)) Qb5 (fun _ => []) 400 ?_
 intro W args hp
 unfold Qb5 at hp; dsimp only at hp; split at hp
 case h_2 => exact hp.elim
 rename_i n f t g a b c
 obtain ⟨rfl, h0, h4, hg, f0, f1⟩ := hp
 refine ⟨rfl, ?_⟩
 refine Qj (q := bif decide (t < (0 : Int)) then endP Qb5 [SA.a [nU 32 f], SA.a [sI t, sI g, sI a, sI b, sI c]] (SV.t [aB false, SA.c (.v (.iface 108 (Value.int .i64 (2 : Int))))]) [] else bif decide (t >= (4 : Int)) then endP Qb5 [SA.a [nU 32 f], SA.a [sI t, sI g, sI a, sI b, sI c]] (SV.t [aB false, SA.c (.v (.iface 108 (Value.int .i64 (2 : Int))))]) [] else bif g != (0 : Int) then bif g != (1 : Int) then endP Qb5 [SA.a [nU 32 f], SA.a [sI t, sI g, sI a, sI b, sI c]] (SV.t [aB false, SA.c (.v (.iface 108 (Value.int .i64 (1 : Int))))]) [] else (32 = 32 /\ (0 : Int) <= t /\ t < (4 : Int) /\ (0 : Int) <= f 26 /\ f 26 < (16 : Int)) /\ dP Tryz.f136 5 2 [xE 8, xE 7, xE 6, xR 5 1, xF 4 1, xE 3, xR 2 1, xF 1 1, xR 0 0] /\ endP Qb5 [SA.a [nU 32 f], SA.a [sI t, sI g, sI a, sI b, sI c]] (SV.t [aB (Qn (f 26) (Int.toNat t) != g), SA.c (.v Value.nilIface)]) [] else (32 = 32 /\ (0 : Int) <= t /\ t < (4 : Int) /\ (0 : Int) <= f 26 /\ f 26 < (16 : Int)) /\ dP Tryz.f136 5 2 [xE 8, xE 7, xE 6, xR 5 1, xF 4 1, xE 3, xR 2 1, xF 1 1, xR 0 0] /\ endP Qb5 [SA.a [nU 32 f], SA.a [sI t, sI g, sI a, sI b, sI c]] (SV.t [aB (Qn (f 26) (Int.toNat t) != g), SA.c (.v Value.nilIface)]) []) (by kernel_rfl) ?_
 have hd : (32 = 32 /\ 0 <= t /\ t < 4 /\ 0 <= f 26 /\ f 26 < 16) := ⟨rfl, h0, h4, f0, f1⟩
 refine Qp (fun h => absurd h (by omega)) (fun _ => Qp (fun h => absurd h (by omega)) (fun _ => QB (fun h => QB (fun h => absurd hg (by omega)) (fun _ => ?_)) (fun _ => ?_)))
 · exact ⟨hd, Qd (by kernel_rfl), rfl, fun ρ => rfl⟩
 · exact ⟨hd, Qd (by kernel_rfl), rfl, fun ρ => rfl⟩
theorem OldOk.none (w : World) {ρ : Nat -> Nat} {k : Nat} : OldOk w w (feet (denM ρ k [])) := fun sz ks a m c z w' h k => h.below (k.below (Nat.le_refl _) (fun g ⟨e, he, _⟩ => absurd he List.not_mem_nil))
structure BdS where
 r : Rec
 f : Nat -> Int
 l : List Ask
 lo : Nat
 m : Nat
 c : Nat
 nn : Bool
 z : Nat -> Nat -> Int
structure BdR where
 f : Nat -> Int
 m : Nat
 c : Nat
 nn : Bool
 z : Nat -> Nat -> Int
abbrev BdS.pre (s : BdS) : Prop := (RecOK 1099511000000 s.r /\ toN 32 s.f = s.r.words) /\ AsksOK s.l /\ s.l.length <= 100 /\ (s.lo + s.l.length <= s.m /\ s.m <= s.c) /\ IsA (fun i => s.z (s.lo + i)) s.l
def Qjg : MCon where
 σ := BdS
 χ := BdR
 pre s := s.pre
 args s := [recA s.f, .c (.so 0 s.lo 5 s.l.length s.c s.nn)]
 mem s := [QoW s.m s.c s.z]
 ok s x := ((bD s.r s.l).length <= x.m /\ x.m <= x.c) /\ IsD x.z (bD s.r s.l) /\ toN 32 x.f = (bDo s.r s.l).words
 val s x := .t [recA x.f, .c (.so 1 0 6 (bD s.r s.l).length x.c x.nn), nilE]
 mem' s x := [QoW s.m s.c s.z, rowsD x.m x.c x.z]
 k := 1
 len := 2
 det := none
 find args M := some (blkA args)
structure BdG (s : BdS) where
 i : Nat
 f : Nat -> Int
 m : Nat
 c : Nat
 nn : Bool
 z : Nat -> Nat -> Int
 hi : i <= s.l.length
 hf : toN 32 f = (bR s.r (s.l.take i)).words
 hm : (bD s.r (s.l.take i)).length <= m /\ m <= c
 hz : IsD z (bD s.r (s.l.take i))
def QoG (s : BdS) : Ann where
 σ := BdG s
 I g := ([(2, .o (.c (.p 1 0))), (4, .o (.c (.p 2 0))), (7, .o (.c (.so 3 0 6 (bD s.r (s.l.take g.i)).length g.c g.nn))), (20, .o (.c (.so 0 s.lo 5 s.l.length s.c s.nn))), (21, sv (.int .i64 s.l.length)), (22, sv (.int .i64 g.i))], [QoW s.m s.c s.z, recB g.f, recB (fun _ => 0), rowsD g.m g.c g.z])
 dec g := s.l.length - g.i
 pi env _ := [0, blkE env 2, blkE env 4, blkE env 7]
 nz := [nzD 7]
def rpB : SV -> List SB -> List Nat := fun x M => match x with
 | .t [_, .c (.so b _ _ _ _ _), _] => [0, b]
 | _ => []
theorem QpB : (Con.mem Qjg).holds Tryz.prog 119 := by
 intro w0 S
 refine Qb (Γ := [(46, .pure QN), (136, .pure Qb5), (78, .pure Q9), (79, .pure Xi)]) (fun _ => noW) Tryz.func119 rfl (by kernel_rfl) Qf Qc
   (fun w S' _ _ => .cons (Qd1 w _) (.cons (Qnh w _) (.cons (Qhj w _) (.cons (Qc3 w _) (.nil _ _ _))))) Qjg (fun s => [(119, [(0, QoG s)])]) (fun x0 h => by cases h) (fun s ρ w _ _ _ => Qh w _) [nzD 1] rpB 400 ?_
 rintro ⟨r, f, l, lo, m, c, nn, z⟩ w ⟨⟨hr, hf⟩, ha, h3, ⟨hm, hc⟩, hz⟩ -
 refine ⟨rfl, ?_⟩
 dsimp only at hr hf ha h3 hm hc hz
 refine Qj (q := (32 = 32 /\ RecW f) /\ List.length l <= c /\ (∃ (s0 : Ann.σ (QoG (BdS.mk r f l lo m c nn z))), (eS (aP 1 0) (aP 1 0) /\ eS (aP 2 0) (aP 2 0) /\ eS (SA.c (.so 3 0 6 0 0 false)) (SA.c (.so 3 0 6 (List.length (bD r (List.take s0.1 l))) s0.4 s0.5)) /\ eS (SA.c (.so 0 lo 5 (List.length l) c nn)) (SA.c (.so 0 lo 5 (List.length l) c nn)) /\ eS (aI (↑(List.length l) : Int)) (aI (↑(List.length l) : Int)) /\ eS (aI 0) (aI ↑s0.1) /\ True) /\ [SB.rows 154 kI5 5 m c z, SB.cells [nU 32 f] 35, SB.cells [nU 32 zF] 35, SB.rows 60 kI6 6 0 0 fun (x x_1 : Nat) => (0 : Int)] = [SB.rows 154 kI5 5 m c z, SB.cells [nU 32 s0.2] 35, SB.cells [nU 32 zF] 35, SB.rows 60 kI6 6 s0.3 s0.4 s0.6]) /\ ∀ (s : BdG (BdS.mk r f l lo m c nn z)), bif decide ((↑s.1 : Int) < (↑(List.length l) : Int)) then ((0 : Int) <= (↑s.1 : Int) /\ (↑s.1 : Int) < (↑(List.length l) : Int) /\ lo + List.length l <= c) /\ lo + Int.toNat (↑s.1 : Int) < m /\ (32 = 32 /\ (0 : Int) <= z (lo + Int.toNat (↑s.1 : Int)) 0 /\ z (lo + Int.toNat (↑s.1 : Int)) 0 < (4 : Int) /\ (z (lo + Int.toNat (↑s.1 : Int)) 1 = (0 : Int) \/ z (lo + Int.toNat (↑s.1 : Int)) 1 = (1 : Int)) /\ (0 : Int) <= s.2 26 /\ s.2 26 < (16 : Int)) /\ bif bif Qn (s.2 26) (Int.toNat (z (lo + Int.toNat (↑s.1 : Int)) 0)) != z (lo + Int.toNat (↑s.1 : Int)) 1 then false else true then ∃ (s' : BdG (BdS.mk r f l lo m c nn z)), ((eS (aP 1 0) (aP 1 0) /\ eS (aP 2 0) (aP 2 0) /\ eS (SA.c (.so 3 0 6 (List.length (bD r (List.take s.1 l))) s.4 s.5)) (SA.c (.so 3 0 6 (List.length (bD r (List.take s'.1 l))) s'.4 s'.5)) /\ eS (SA.c (.so 0 lo 5 (List.length l) c nn)) (SA.c (.so 0 lo 5 (List.length l) c nn)) /\ eS (aI (↑(List.length l) : Int)) (aI (↑(List.length l) : Int)) /\ eS (aI (IntKind.wrap .i64 ((↑s.1 : Int) + (1 : Int)))) (aI ↑s'.1) /\ True) /\ [SB.rows 154 kI5 5 m c z, SB.cells [nU 32 s.2] 35, SB.cells [nU 32 zF] 35, SB.rows 60 kI6 6 s.3 s.4 s.6] = [SB.rows 154 kI5 5 m c z, SB.cells [nU 32 s'.2] 35, SB.cells [nU 32 zF] 35, SB.rows 60 kI6 6 s'.3 s'.4 s'.6]) /\ List.length l - s'.1 < List.length l - s.1 else (32 = 32 /\ RecW s.2 /\ (0 : Int) <= z (lo + Int.toNat (↑s.1 : Int)) 0 /\ z (lo + Int.toNat (↑s.1 : Int)) 0 < (4 : Int)) /\ bif opOk (z (lo + Int.toNat (↑s.1 : Int)) 2) (z (lo + Int.toNat (↑s.1 : Int)) 3) (z (lo + Int.toNat (↑s.1 : Int)) 4) then (32 = 32 /\ (0 : Int) <= z (lo + Int.toNat (↑s.1 : Int)) 0 /\ z (lo + Int.toNat (↑s.1 : Int)) 0 < (4 : Int) /\ U64 (fL (Rec.words (Rec.done (Rec.ofW (toN 32 s.2)) (Int.toNat (z (lo + Int.toNat (↑s.1 : Int)) 0)) (z (lo + Int.toNat (↑s.1 : Int)) 2) (z (lo + Int.toNat (↑s.1 : Int)) 3) (z (lo + Int.toNat (↑s.1 : Int)) 4))) (18 + Int.toNat (z (lo + Int.toNat (↑s.1 : Int)) 0))) /\ (0 : Int) <= fL (Rec.words (Rec.done (Rec.ofW (toN 32 s.2)) (Int.toNat (z (lo + Int.toNat (↑s.1 : Int)) 0)) (z (lo + Int.toNat (↑s.1 : Int)) 2) (z (lo + Int.toNat (↑s.1 : Int)) 3) (z (lo + Int.toNat (↑s.1 : Int)) 4))) (22 + Int.toNat (z (lo + Int.toNat (↑s.1 : Int)) 0)) /\ fL (Rec.words (Rec.done (Rec.ofW (toN 32 s.2)) (Int.toNat (z (lo + Int.toNat (↑s.1 : Int)) 0)) (z (lo + Int.toNat (↑s.1 : Int)) 2) (z (lo + Int.toNat (↑s.1 : Int)) 3) (z (lo + Int.toNat (↑s.1 : Int)) 4))) (22 + Int.toNat (z (lo + Int.toNat (↑s.1 : Int)) 0)) <= (9223372036854775807 : Int)) /\ bif Xa (fL (Rec.words (Rec.done (Rec.ofW (toN 32 s.2)) (Int.toNat (z (lo + Int.toNat (↑s.1 : Int)) 0)) (z (lo + Int.toNat (↑s.1 : Int)) 2) (z (lo + Int.toNat (↑s.1 : Int)) 3) (z (lo + Int.toNat (↑s.1 : Int)) 4))) (18 + Int.toNat (z (lo + Int.toNat (↑s.1 : Int)) 0)) / (4294967296 : Int) % (4294967296 : Int)) (fL (Rec.words (Rec.done (Rec.ofW (toN 32 s.2)) (Int.toNat (z (lo + Int.toNat (↑s.1 : Int)) 0)) (z (lo + Int.toNat (↑s.1 : Int)) 2) (z (lo + Int.toNat (↑s.1 : Int)) 3) (z (lo + Int.toNat (↑s.1 : Int)) 4))) (18 + Int.toNat (z (lo + Int.toNat (↑s.1 : Int)) 0)) % (4294967296 : Int)) then ((List.length (bD r (List.take s.1 l)) <= s.3 /\ s.4 = s.4) /\ (1 <= 1 /\ 1 = 1) /\ List.length (bD r (List.take s.1 l)) + 1 <= 68719476736) /\ ∀ (c_1 : Nat), List.length (bD r (List.take s.1 l)) + 1 <= c_1 -> ∃ (s' : BdG (BdS.mk r f l lo m c nn z)), ((eS (aP 1 0) (aP 1 0) /\ eS (aP 2 0) (aP 2 0) /\ eS (SA.c (.so 7 0 6 (List.length (bD r (List.take s.1 l)) + 1) c_1 s.5)) (SA.c (.so 7 0 6 (List.length (bD r (List.take s'.1 l))) s'.4 s'.5)) /\ eS (SA.c (.so 0 lo 5 (List.length l) c nn)) (SA.c (.so 0 lo 5 (List.length l) c nn)) /\ eS (aI (↑(List.length l) : Int)) (aI (↑(List.length l) : Int)) /\ eS (aI (IntKind.wrap .i64 ((↑s.1 : Int) + (1 : Int)))) (aI ↑s'.1) /\ True) /\ [SB.rows 154 kI5 5 m c z, SB.cells [nU 32 (fL (Rec.words (Rec.done (Rec.ofW (toN 32 s.2)) (Int.toNat (z (lo + Int.toNat (↑s.1 : Int)) 0)) (z (lo + Int.toNat (↑s.1 : Int)) 2) (z (lo + Int.toNat (↑s.1 : Int)) 3) (z (lo + Int.toNat (↑s.1 : Int)) 4))))] 35, SB.cells [nU 32 zF] 35, SB.rows 60 kI6 6 (List.length (bD r (List.take s.1 l)) + 1) c_1 fun (i j : Nat) => bif Nat.ble (i + 1) (List.length (bD r (List.take s.1 l))) then s.6 i j else match List.get?Internal (match List.get?Internal [[z (lo + Int.toNat (↑s.1 : Int)) 0, z (lo + Int.toNat (↑s.1 : Int)) 2, z (lo + Int.toNat (↑s.1 : Int)) 3, z (lo + Int.toNat (↑s.1 : Int)) 4, fL (Rec.words (Rec.done (Rec.ofW (toN 32 s.2)) (Int.toNat (z (lo + Int.toNat (↑s.1 : Int)) 0)) (z (lo + Int.toNat (↑s.1 : Int)) 2) (z (lo + Int.toNat (↑s.1 : Int)) 3) (z (lo + Int.toNat (↑s.1 : Int)) 4))) (18 + Int.toNat (z (lo + Int.toNat (↑s.1 : Int)) 0)) / (4294967296 : Int) % (4294967296 : Int), fL (Rec.words (Rec.done (Rec.ofW (toN 32 s.2)) (Int.toNat (z (lo + Int.toNat (↑s.1 : Int)) 0)) (z (lo + Int.toNat (↑s.1 : Int)) 2) (z (lo + Int.toNat (↑s.1 : Int)) 3) (z (lo + Int.toNat (↑s.1 : Int)) 4))) (18 + Int.toNat (z (lo + Int.toNat (↑s.1 : Int)) 0)) % (4294967296 : Int)]] (0 + (i - List.length (bD r (List.take s.1 l)))) with | some x => x | none => []) j with | some x => x | none => (0 : Int)] = [SB.rows 154 kI5 5 m c z, SB.cells [nU 32 s'.2] 35, SB.cells [nU 32 zF] 35, SB.rows 60 kI6 6 s'.3 s'.4 s'.6]) /\ List.length l - s'.1 < List.length l - s.1 else ((List.length (bD r (List.take s.1 l)) <= s.3 /\ s.4 = s.4) /\ (1 <= 1 /\ 1 = 1) /\ List.length (bD r (List.take s.1 l)) + 1 <= 68719476736) /\ ∀ (c_1 : Nat), List.length (bD r (List.take s.1 l)) + 1 <= c_1 -> ∃ (s' : BdG (BdS.mk r f l lo m c nn z)), ((eS (aP 1 0) (aP 1 0) /\ eS (aP 2 0) (aP 2 0) /\ eS (SA.c (.so 7 0 6 (List.length (bD r (List.take s.1 l)) + 1) c_1 s.5)) (SA.c (.so 7 0 6 (List.length (bD r (List.take s'.1 l))) s'.4 s'.5)) /\ eS (SA.c (.so 0 lo 5 (List.length l) c nn)) (SA.c (.so 0 lo 5 (List.length l) c nn)) /\ eS (aI (↑(List.length l) : Int)) (aI (↑(List.length l) : Int)) /\ eS (aI (IntKind.wrap .i64 ((↑s.1 : Int) + (1 : Int)))) (aI ↑s'.1) /\ True) /\ [SB.rows 154 kI5 5 m c z, SB.cells [nU 32 (fL (Rec.words (Rec.done (Rec.ofW (toN 32 s.2)) (Int.toNat (z (lo + Int.toNat (↑s.1 : Int)) 0)) (z (lo + Int.toNat (↑s.1 : Int)) 2) (z (lo + Int.toNat (↑s.1 : Int)) 3) (z (lo + Int.toNat (↑s.1 : Int)) 4))))] 35, SB.cells [nU 32 zF] 35, SB.rows 60 kI6 6 (List.length (bD r (List.take s.1 l)) + 1) c_1 fun (i j : Nat) => bif Nat.ble (i + 1) (List.length (bD r (List.take s.1 l))) then s.6 i j else match List.get?Internal (match List.get?Internal [[z (lo + Int.toNat (↑s.1 : Int)) 0, z (lo + Int.toNat (↑s.1 : Int)) 2, z (lo + Int.toNat (↑s.1 : Int)) 3, z (lo + Int.toNat (↑s.1 : Int)) 4, (0 : Int), (0 : Int)]] (0 + (i - List.length (bD r (List.take s.1 l)))) with | some x => x | none => []) j with | some x => x | none => (0 : Int)] = [SB.rows 154 kI5 5 m c z, SB.cells [nU 32 s'.2] 35, SB.cells [nU 32 zF] 35, SB.rows 60 kI6 6 s'.3 s'.4 s'.6]) /\ List.length l - s'.1 < List.length l - s.1 else QdV (Oper.mk (some 57) (Op.call (Call.mk (Callee.value (Operand.func 71)) #[Operand.tmp 56] #[49])) 108 "batch.go:42" #[Edge.mk 1 Ground.data] none) else (iR (27 : Int) (32 : Int)) /\ 27 < 32 /\ (iR (27 : Int) (32 : Int)) /\ 27 < 32 /\ endN Qjg [nzD 1] rpB (BdS.mk r f l lo m c nn z) (SV.t [SA.a [nU 32 fun (i : Nat) => bif Nat.beq i 27 then IntKind.wrap .u64 (s.2 27 + (1 : Int)) else s.2 i], SA.c (.so 3 0 6 (List.length (bD r (List.take s.1 l))) s.4 s.5), SA.c (.v Value.nilIface)]) [SB.rows 154 kI5 5 m c z, SB.cells [nU 32 fun (i : Nat) => bif Nat.beq i 27 then IntKind.wrap .u64 (s.2 27 + (1 : Int)) else s.2 i] 35, SB.cells [nU 32 fun (i : Nat) => bif Nat.beq i 27 then IntKind.wrap .u64 (s.2 27 + (1 : Int)) else s.2 i] 35, SB.rows 60 kI6 6 s.3 s.4 s.6]) (by kernel_rfl) ?_
 have hW0 := RecW.of hr (by decide) hf
 refine ⟨⟨rfl, hW0.1⟩, by omega, ⟨⟨0, f, 0, 0, false, _, Nat.zero_le _, hf, ⟨Nat.le_refl _, Nat.le_refl _⟩, fun i hi => absurd hi (Nat.not_lt_zero _)⟩, ⟨rfl, rfl, rfl, rfl, rfl, rfl, trivial⟩, rfl⟩, ?_⟩
 rintro ⟨i, f1, m1, c1, n1, z1, hi, hf1, hm1, hz1⟩
 dsimp only at hi hf1 hm1 hz1 ⊢
 have hle := Qoj (l.take i) r
 have hlt2 : (l.take i).length <= 100 := by rw [List.length_take]; omega
 have hq : RecOK 1099511000100 (bR r (l.take i)) := (QpD (l := l.take i) hr (fun a h => ha a (List.mem_of_mem_take h))).mono (by omega)
 have hv : (bR r (l.take i)).ver = r.ver := QhS _ _
 have hW := RecW.of hq (by decide) hf1
 obtain ⟨e26, e27, -⟩ := QoJ hq hf1
 have g0 := hq.g0
 have g1 := hq.g1
 have v0 := hq.v0
 have v1 := hq.v1
 refine Qp (fun hlt => ?_) (fun hge => ?_)
 · have hi' : i < l.length := by omega
   have eR : bR r (l.take (i + 1)) = Xz (bR r (l.take i)) (l.getD i Ask.nil) := by rw [Qg3 hi', QpC]
   have eD : bD r (l.take (i + 1)) = bD r (l.take i) ++ bDs (bR r (l.take i)) (l.getD i Ask.nil) := by rw [Qg3 hi', QpE]
   obtain ⟨a0, a1, a2, a3, a4⟩ := hz i hi'
   have hak := ha.get hi'
   dsimp only at a0 a1 a2 a3 a4
   generalize l.getD i Ask.nil = a at *
   have ht := hak.1
   rw [Int.toNat_natCast, a0, a1, a2, a3, a4, Int.toNat_natCast, hW.2, e26]
   refine ⟨⟨by omega, by omega, by omega⟩, by omega, ⟨rfl, by omega, by omega, hak.2.1, by omega, by omega⟩, Xu (fun ho => ?_) (fun ho => ?_)⟩
   · have hs := Qf9 (r := bR r (l.take i)) (a := a) ho
     rw [hs.1] at eR
     rw [hs.2, List.append_nil] at eD
     exact ⟨⟨i + 1, f1, m1, c1, n1, z1, hi', eR ▸ hf1, eD ▸ hm1, eD ▸ hz1⟩, ⟨⟨rfl, rfl, congrArg (fun k => some (SV.o (SA.c (SC.so 3 0 6 k c1 n1)))) (congrArg List.length eD).symm, rfl, rfl, svI (sucI (by omega)), trivial⟩, rfl⟩, by dsimp only; omega⟩
   · have ho' : bOpen (bR r (l.take i)) a = true := ho
     have hd := hq.done a.t ht a.k a.key a.x hak.2.2
     have bT := QfS hd (by decide) a.t ht
     have hT := Qmi hq (by decide) a.t ht a.k a.key a.x hak.2.2
     have hs : Xz (bR r (l.take i)) a = (bR r (l.take i)).done a.t a.k a.key a.x := by unfold Xz; rw [ho']; rfl
     have hds : bDs (bR r (l.take i)) a = [Qei (bR r (l.take i)) a] := by unfold bDs; rw [ho']; rfl
     rw [hs] at eR
     rw [hds] at eD
     have el : (bD r (l.take (i + 1))).length = (bD r (l.take i)).length + 1 := by rw [eD, List.length_append]; rfl
     refine ⟨⟨rfl, hW.1, by omega, by omega⟩, Q0 (fun _ => ?_) (fun h => absurd (hak.2.2.symm.trans h) (by decide))⟩
     refine ⟨⟨rfl, by omega, by omega, bT⟩, Q0 (fun _ => ?_) (fun h => absurd (hT.2.2.symm.trans h) (by decide))⟩
     refine ⟨⟨⟨hm1.1, rfl⟩, ⟨Nat.le_refl _, rfl⟩, by omega⟩, fun c' hc' => ⟨⟨i + 1, _, (bD r (l.take i)).length + 1, c', n1, _, hi', (Qa9 (Rec.words_len hd)).trans (by rw [eR]), ⟨by show (bD r (l.take (i + 1))).length <= _; omega, hc'⟩, ?_⟩, ⟨⟨rfl, rfl, congrArg (fun k => some (SV.o (SA.c (SC.so 7 0 6 k c' n1)))) el.symm, rfl, rfl, svI (sucI (by omega)), trivial⟩, rfl⟩, by dsimp only; omega⟩⟩
     show IsD _ (bD r (l.take (i + 1)))
     rw [eD]
     refine hz1.snoc (fun j hj k => catT hj) ⟨?_, ?_, ?_, ?_, ?_, ?_⟩
     · exact catF.trans (by rw [Nat.sub_self]; rfl)
     · exact catF.trans (by rw [Nat.sub_self]; rfl)
     · exact catF.trans (by rw [Nat.sub_self]; rfl)
     · exact catF.trans (by rw [Nat.sub_self]; rfl)
     · exact catF.trans (by rw [Nat.sub_self]; exact hT.1)
     · exact catF.trans (by rw [Nat.sub_self]; exact hT.2.1)
 · obtain rfl : i = l.length := by omega
   rw [List.take_length] at hf1 hm1 hz1 hq e27 v0 v1 ⊢
   rw [e27, QaG (x := (bR r l).ver + 1) (by omega) (by omega)]
   refine ⟨⟨by decide, by decide⟩, by decide, ⟨by decide, by decide⟩, by decide, ?_⟩
   exact Qi (x' := .t [recA (fun i => bif Nat.beq i 27 then (bR r l).ver + 1 else f1 i), .c (.so 3 0 6 (bD r l).length c1 n1), nilE]) rfl ⟨_, m1, c1, n1, z1⟩ ⟨hm1, hz1, toN_at hq hf1 _⟩ rfl rfl rfl
def WkS.good (s : WkS) : Prop := (s.w.asks.length <= s.ma /\ s.ma <= s.ca) /\ IsA s.za s.w.asks /\ (s.w.deeds.length <= s.md /\ s.md <= s.cd) /\ IsD s.zd s.w.deeds
def rpW (n : Nat) : SV -> List SB -> List Nat := fun _ M => match getB M 0 with
 | .cells l _ => match segGet l 41, segGet l 42 with
   | some (.so x _ _ _ _ _), some (.so y _ _ _ _ _) => upN 0 n ++ [x, y]
   | _, _ => []
 | _ => []
def QdI : MCon where
 σ := WkS
 χ := WkS
 pre s := s.w.th < 4 /\ s.good /\ (s.w.does = 8 -> s.w.allOK)
 args s := [.c (.p 0 0)]
 mem s := [wkC 1 2 s.w s.ca s.na s.cd s.nd, wkA s.ma s.ca s.za, wkD s.md s.cd s.zd]
 ok s x := x.w.sim s.w.all /\ x.good
 val _ _ := .t []
 mem' s x := [wkC 1 2 x.w x.ca x.na x.cd x.nd, wkA x.ma x.ca x.za, wkD x.md x.cd x.zd]
 k := 1
 len := 3
 det := none
 find := Qcd
theorem QgY : (Con.mem QdI).holds Tryz.prog 92 := by
 intro w0 S
 refine Qb (Γ := [(119, .mem Qjg), (79, .pure Xi)]) (fun _ => noW) Tryz.func92 rfl (by kernel_rfl) Qf Qc (fun w S' _ _ => .cons (QpB w S') (.cons (Qc3 w S') (.nil _ _ _))) QdI (fun _ => []) (fun x0 h => by cases h) (fun s ρ w _ _ _ => Qh w _) [] (rpW 1) 400 ?_
 rintro ⟨⟨th, does, k, key, x, tog, said, i, v, r, asks, deeds, seen, oc, ov, whn⟩, ma, ca, na, za, md, cd, nd, zd⟩ W ⟨h0, h1, h2⟩ -
 refine ⟨rfl, ?_⟩
 dsimp only at h0 h1 h2
 refine Qj (q := bif does == (8 : Int) then dP Tryz.f92 1 3 [⟨10, [], [1, 3], [], true⟩, ⟨9, [0], [], [1], false⟩, xF 8 0, xF 7 0, xF 6 0, xR 5 0, xF 4 0, xF 3 0, xF 2 0, xF 1 0, xF 0 0] /\ ∃ (s : BdS), [SA.a [nU 32 r], SA.c (.so 1 0 5 (List.length asks) ca na)] = [SA.a [nU 32 s.2], SA.c (.so 1 s.4 5 (List.length s.3) s.6 s.7)] /\ [wkA ma ca za] = [wkA s.5 s.6 s.8] /\ ((RecOK (1099511000000 : Int) s.1 /\ toN 32 s.2 = Rec.words s.1) /\ AsksOK s.3 /\ List.length s.3 <= 100 /\ (s.4 + List.length s.3 <= s.5 /\ s.5 <= s.6) /\ IsA (fun (i : Nat) => s.8 (s.4 + i)) s.3) /\ ∀ (x_1 : BdR), (List.length (bD s.1 s.3) <= x_1.2 /\ x_1.2 <= x_1.3) /\ IsD x_1.5 (bD s.1 s.3) /\ toN 32 x_1.1 = Rec.words (bDo s.1 s.3) -> dP Tryz.f92 1 3 [⟨20, [], [0], [1, 3], false⟩, xF 19 0, xF 18 0, ⟨17, [], [0], [1, 2], false⟩, xF 16 0, xF 15 0, xE 14, xF 13 3, xE 12, xF 11 3, ⟨10, [], [1, 3], [3], true⟩, ⟨9, [0], [], [1], false⟩, xF 8 0, xF 7 0, xF 6 0, xR 5 0, xF 4 0, xF 3 0, xF 2 0, xF 1 0, xF 0 0] /\ (32 = 32 /\ (0 : Int) <= (↑th : Int) /\ (↑th : Int) < (4 : Int) /\ U64 (x_1.1 (18 + Int.toNat (↑th : Int))) /\ (0 : Int) <= x_1.1 (22 + Int.toNat (↑th : Int)) /\ x_1.1 (22 + Int.toNat (↑th : Int)) <= (9223372036854775807 : Int)) /\ bif Xa (x_1.1 (18 + Int.toNat (↑th : Int)) / (4294967296 : Int) % (4294967296 : Int)) (x_1.1 (18 + Int.toNat (↑th : Int)) % (4294967296 : Int)) then dP Tryz.f92 2 4 [⟨20, [], [0], [1, 3], false⟩, xF 19 0, xF 18 0, ⟨17, [], [0], [1, 3], false⟩, xF 16 0, xF 15 0, xE 14, xE 13, xE 12, xE 11, xE 10, xR 9 0, xF 8 0, xF 7 0, xF 6 0, xR 5 0, xF 4 0, xF 3 0, xF 2 0, xF 1 0, xF 0 0] /\ endN QdI [] (rpW 1) (WkS.mk (Wk.mk th does k key x tog said i v r asks deeds seen oc ov whn) ma ca na za md cd nd zd) (SV.t []) [SB.cells [sI ↑th, sI does, sI k, sI key, sI x, sI tog, sB said, sI i, sU v, nU 32 x_1.1, sS 1 0 5 (List.length asks) ca na, sS 3 0 6 (List.length (bD s.1 s.3)) x_1.3 x_1.4, nU 3 seen, sI (x_1.1 (18 + Int.toNat (↑th : Int)) / (4294967296 : Int) % (4294967296 : Int)), sI (x_1.1 (18 + Int.toNat (↑th : Int)) % (4294967296 : Int)), sI (x_1.1 (22 + Int.toNat (↑th : Int)))] 42, wkA s.5 s.6 s.8, wkD md cd zd, wkD x_1.2 x_1.3 x_1.5] else dP Tryz.f92 2 4 [⟨20, [], [0], [1, 3], false⟩, xF 19 0, xF 18 0, ⟨17, [], [0], [1, 3], false⟩, xF 16 0, xF 15 0, xE 14, xE 13, xE 12, xE 11, xE 10, xR 9 0, xF 8 0, xF 7 0, xF 6 0, xR 5 0, xF 4 0, xF 3 0, xF 2 0, xF 1 0, xF 0 0] /\ endN QdI [] (rpW 1) (WkS.mk (Wk.mk th does k key x tog said i v r asks deeds seen oc ov whn) ma ca na za md cd nd zd) (SV.t []) [SB.cells [sI ↑th, sI does, sI k, sI key, sI x, sI tog, sB said, sI i, sU v, nU 32 x_1.1, sS 1 0 5 (List.length asks) ca na, sS 3 0 6 (List.length (bD s.1 s.3)) x_1.3 x_1.4, nU 3 seen, sI 0, sI 0, sI 0] 42, wkA s.5 s.6 s.8, wkD md cd zd, wkD x_1.2 x_1.3 x_1.5] else endN QdI [] (rpW 1) (WkS.mk (Wk.mk th does k key x tog said i v r asks deeds seen oc ov whn) ma ca na za md cd nd zd) (SV.t []) [SB.cells [sI ↑th, sI does, sI k, sI key, sI x, sI tog, sB said, sI i, sU v, nU 32 r, sS 1 0 5 (List.length asks) ca na, sS 2 0 6 (List.length deeds) cd nd, nU 3 seen, sI oc, sI ov, sI whn] 42, wkA ma ca za, wkD md cd zd]) (by kernel_rfl) ?_
 refine Q7 (fun h8 => ?_) (fun hn => ?_)
 · subst h8
   obtain ⟨ha, hl, q, hq, hv, hr⟩ := h2 rfl
   obtain ⟨⟨ga, gb⟩, gc, ⟨gd, ge⟩, gf⟩ := h1
   dsimp only at ha hl hr ga gb gc gd ge gf
   have z0 : IsA (fun i => za (0 + i)) asks := by simp only [Nat.zero_add]; exact gc
   have hb := QpD hq ha
   have v0 := hq.v0
   have hd : RecOK 1099511000100 (bDo q asks) := (hb.mono (by omega)).at (by rw [QhS]; omega) (by rw [QhS]; omega)
   refine ⟨Qd (by kernel_rfl), ⟨q, r, asks, 0, ma, ca, na, za⟩, rfl, rfl, ⟨⟨hq, hr⟩, ha, (by omega : asks.length <= 100), ⟨(by omega : 0 + asks.length <= ma), gb⟩, z0⟩, ?_⟩
   rintro ⟨f, m1, c1, n1, z1⟩ ⟨hm, hz, hf⟩
   dsimp only at hm hz hf ⊢
   obtain ⟨t0, t1, t2, t3⟩ := Qna hd (by decide) hf th h0
   have e (i : Nat) (hi : i < 32) : fL (bDo q asks).words i = f i := by rw [<- hf, Qes hi]
   have eq : Qlf r = q := QiQ hq (by decide) hr
   have hall (b : Int) (c : Int) (d : Int) (hb : b = f (18 + th) / 4294967296 % 4294967296) (hc : c = f (18 + th) % 4294967296) (hdd : d = f (22 + th)) :
       (⟨th, 8, k, key, x, tog, said, i, v, f, asks, bD q asks, seen, b, c, d⟩ : Wk).sim (Wk.all ⟨th, 8, k, key, x, tog, said, i, v, r, asks, deeds, seen, oc, ov, whn⟩) := by
     unfold Wk.all
     rw [if_pos rfl]
     dsimp only
     rw [eq, e (18 + th) (by omega), e (22 + th) (by omega), <- hb, <- hc, <- hdd]
     exact ⟨rfl, hf.trans (Qa9 (Rec.words_len hd)).symm⟩
   have t0' : U64 (f (18 + Int.toNat (th : Int))) := t0
   refine ⟨Qd (by kernel_rfl), ⟨rfl, by omega, by omega, t0, t1, t2⟩, Q0 (fun ho => ?_) (fun ho => ?_)⟩
   · exact ⟨Qd (by kernel_rfl), Qi rfl ⟨⟨th, 8, k, key, x, tog, said, i, v, f, asks, bD q asks, seen, f (18 + th) / 4294967296 % 4294967296, f (18 + th) % 4294967296, f (22 + th)⟩, ma, ca, na, za, m1, c1, n1, z1⟩ ⟨hall _ _ _ rfl rfl rfl, ⟨ga, gb⟩, gc, hm, hz⟩ rfl rfl rfl⟩
   · have t4 := t3 ho
     exact ⟨Qd (by kernel_rfl), Qi rfl ⟨⟨th, 8, k, key, x, tog, said, i, v, f, asks, bD q asks, seen, 0, 0, 0⟩, ma, ca, na, za, m1, c1, n1, z1⟩ ⟨hall _ _ _ (by rw [t4.1]; rfl) (by rw [t4.1]; rfl) t4.2.symm, ⟨ga, gb⟩, gc, hm, hz⟩ rfl rfl rfl⟩
 · exact Qi rfl ⟨⟨th, does, k, key, x, tog, said, i, v, r, asks, deeds, seen, oc, ov, whn⟩, ma, ca, na, za, md, cd, nd, zd⟩ ⟨by rw [Wk.all_not hn]; exact Wk.sim_rfl _, h1⟩ rfl rfl rfl
theorem Qni {k key x : Int} (h : opOk k key x = true) : bits BinOp.or .u64 (bits BinOp.or .u64 (IntKind.wrap .u64 (IntKind.wrap .u64 k * 281474976710656)) (IntKind.wrap .u64 (IntKind.wrap .u64 key * 4294967296))) (IntKind.wrap .u64 x) = opW k key x := by
 simp only [opOk, decide_eq_true_eq] at h
 rw [QaG (x := k) (by omega) (by omega), QaG (x := key) (by omega) (by omega), QaG (x := x) (by omega) (by omega), QaG (x := k * 281474976710656) (by omega) (by omega), QaG (x := key * 4294967296) (by omega) (by omega)]
 obtain ⟨a, rfl⟩ := Int.eq_ofNat_of_zero_le (show 0 <= k by omega)
 obtain ⟨b, rfl⟩ := Int.eq_ofNat_of_zero_le (show 0 <= key by omega)
 obtain ⟨c, rfl⟩ := Int.eq_ofNat_of_zero_le (show 0 <= x by omega)
 have e1 : (a : Int) * 281474976710656 = ((a * 281474976710656 : Nat) : Int) := by omega
 have e2 : (b : Int) * 4294967296 = ((b * 4294967296 : Nat) : Int) := by omega
 have h1 := Nat.two_pow_add_eq_or_of_lt (i := 48) (b := b * 4294967296) (by omega) a
 have h2 := Nat.two_pow_add_eq_or_of_lt (i := 32) (b := c) (by omega) (65536 * a + b)
 have h3 : a * 281474976710656 ||| b * 4294967296 = 4294967296 * (65536 * a + b) := by
   rw [show a * 281474976710656 = 2 ^ 48 * a by omega, <- h1]; omega
 rw [e1, e2, Qiv (by omega) (by omega), h3, Qiv (by omega) (by omega), show 4294967296 * (65536 * a + b) = 2 ^ 32 * (65536 * a + b) by omega, <- h2]
 unfold opW
 omega
theorem Ql0 {w : Int} (h : U64 w) : getZ w 48 16 = w / 281474976710656 % 65536 := by
 obtain ⟨x, rfl, hx⟩ := h.nat
 show ((x / 281474976710656 % 65536 : Nat) : Int) = _
 omega
theorem QnK {w : Int} (h : U64 w) : getZ w 32 16 = w / 4294967296 % 65536 := by
 obtain ⟨x, rfl, hx⟩ := h.nat
 show ((x / 4294967296 % 65536 : Nat) : Int) = _
 omega
def Qcn : PCon := ⟨fun args => match args with
 | [.a [.one (.v (.int .i64 k)), .one (.v (.int .i64 key)), .one (.v (.int .i64 x))]] => opOk k key x = true
 | _ => False, fun args => match args with
 | [.a [.one (.v (.int .i64 k)), .one (.v (.int .i64 key)), .one (.v (.int .i64 x))]] => .t [uA (opW k key x), nilE]
 | _ => sv undef, fun _ => none⟩
theorem Qgd : (Con.pure Qcn).holds Tryz.prog 88 := by
 refine QD (Γ := [(22, .pure XM)]) Tryz.func88 rfl (by kernel_rfl) Qf Qc (fun W => .cons (Qaw W _) (.nil _ _ _)) Qcn (fun _ => []) 400 ?_
 intro W args hp
 unfold Qcn at hp; dsimp only at hp; split at hp
 case h_2 => exact hp.elim
 rename_i k key x
 refine ⟨rfl, ?_⟩
 refine Qj (q := True /\ bif bif opOk k key x then false else true then endP Qcn [SA.a [sI k, sI key, sI x]] (SV.t [aU 0, SA.c (.v (.iface 108 (Value.int .i64 (1 : Int))))]) [] else (0 : Int) <= (48 : Int) /\ (0 : Int) <= (32 : Int) /\ endP Qcn [SA.a [sI k, sI key, sI x]] (SV.t [aU (bits BinOp.or .u64 (bits BinOp.or .u64 (IntKind.wrap .u64 (IntKind.wrap .u64 k * (281474976710656 : Int))) (IntKind.wrap .u64 (IntKind.wrap .u64 key * (4294967296 : Int)))) (IntKind.wrap .u64 x)), SA.c (.v Value.nilIface)]) []) (by kernel_rfl) ?_
 rw [Qni hp]
 exact ⟨trivial, Xu (fun h => absurd (hp.symm.trans h) (by decide)) (fun _ => ⟨by decide, by decide, rfl, fun ρ => rfl⟩)⟩
def QgO : PCon := ⟨fun args => match args with
 | [.c (.v (.int .u64 w))] => 0 <= w /\ w < 18446744073709551616 /\ opOk (w / 281474976710656 % 65536) (w / 4294967296 % 65536) (w % 4294967296) = true
 | _ => False, fun args => match args with
 | [.c (.v (.int .u64 w))] => .t [opA (w / 281474976710656 % 65536) (w / 4294967296 % 65536) (w % 4294967296), nilE]
 | _ => sv undef, fun _ => none⟩
theorem QiW : (Con.pure QgO).holds Tryz.prog 93 := by
 refine QD (Γ := [(22, .pure XM), (117, .pure QhK)]) Tryz.func93 rfl (by kernel_rfl) Qf Qc (fun W => .cons (Qaw W _) (.cons (QlZ W _) (.nil _ _ _))) QgO (fun _ => []) 400 ?_
 intro W args hp
 unfold QgO at hp; dsimp only at hp; split at hp
 case h_2 => exact hp.elim
 rename_i w
 obtain ⟨h0, h1, h2⟩ := hp
 refine ⟨rfl, ?_⟩
 refine Qj (q := (U64 w /\ true = true) /\ (U64 w /\ true = true) /\ (U64 w /\ true = true) /\ True /\ bif bif opOk (IntKind.wrap .i64 (getZ w (48 : Int) (16 : Int))) (IntKind.wrap .i64 (getZ w (32 : Int) (16 : Int))) (IntKind.wrap .i64 (getZ w (0 : Int) (32 : Int))) then false else true then endP QgO [aU w] (SV.t [SA.a [sI 0, sI 0, sI 0], SA.c (.v (.iface 108 (Value.int .i64 (3 : Int))))]) [] else endP QgO [aU w] (SV.t [SA.a [sI (IntKind.wrap .i64 (getZ w (48 : Int) (16 : Int))), sI (IntKind.wrap .i64 (getZ w (32 : Int) (16 : Int))), sI (IntKind.wrap .i64 (getZ w (0 : Int) (32 : Int)))], SA.c (.v Value.nilIface)]) []) (by kernel_rfl) ?_
 have hU : U64 w := ⟨h0, by omega⟩
 rw [Ql0 hU, QnK hU, Ql1 hU, QC (x := w / 281474976710656 % 65536) (by omega) (by omega), QC (x := w / 4294967296 % 65536) (by omega) (by omega), QC (x := w % 4294967296) (by omega) (by omega)]
 exact ⟨⟨hU, rfl⟩, ⟨hU, rfl⟩, ⟨hU, rfl⟩, trivial, Xu (fun h => absurd (h2.symm.trans h) (by decide)) (fun _ => ⟨rfl, fun ρ => rfl⟩)⟩
def Ql2 (z : WSt) : Prop := 0 <= z.w.i /\ z.w.i < 32 /\ (0 <= z.w.v /\ z.w.v < 18446744073709551616) /\
 (z.w.does = 6 -> z.w.i < 4 /\ (0 <= z.w.r 26 /\ z.w.r 26 < 16) /\ (0 <= z.m (3 + 2 * z.w.i.toNat) /\ z.m (3 + 2 * z.w.i.toNat) <= 2) /\ z.w.allOK) /\
 (z.w.does = 7 -> z.w.i < 4 /\ (0 <= z.m (2 + 2 * z.w.i.toNat) /\ z.m (2 + 2 * z.w.i.toNat) < 18446744073709551616) /\ (∃ l a, z.w.asks = l ++ [a]) /\
   Wk.allOK { z.w with asks := Xq z.w.asks (z.m (2 + 2 * z.w.i.toNat) / 281474976710656 % 65536) (z.m (2 + 2 * z.w.i.toNat) / 4294967296 % 65536) (z.m (2 + 2 * z.w.i.toNat) % 4294967296) })
abbrev nzW : NZ := .blk 0 41 154 5 [.int .i64, .int .i64, .int .i64, .int .i64, .int .i64]
def XB (d : Int) : MCon where
 σ := WlS
 χ := WkS
 pre s := s.s.w.does = d /\ s.s.w.th < 4 /\ s.s.good /\ Ql2 s.z
 args s := [.c (.p 0 0), .c (.p 1 0), .c (.p 2 0)]
 mem s := wkM 3 4 s.s s.z
 ok s x := x.w.sim (Qay s.z).w /\ x.good
 val _ _ := .t []
 mem' s x := wkM 3 4 x ⟨x.w, s.m, s.t⟩
 k := 3
 len := 5
 det := none
 find := Qcd
theorem Qoo {s0 s1 s2 s3 s4 s5 s6 s7 s8 s9 s11 s12 s13 s14 s15 : Seg} {x lo sz n m c T : Nat} {nn : Bool} (h : n = m) :
   SB.cells [s0, s1, s2, s3, s4, s5, s6, s7, s8, s9, .one (.so x lo sz n c nn), s11, s12, s13, s14, s15] T = SB.cells [s0, s1, s2, s3, s4, s5, s6, s7, s8, s9, .one (.so x lo sz m c nn), s11, s12, s13, s14, s15] T := by rw [h]
theorem l3 {α : Type} {a b c a' b' c' : α} (h0 : a = a') (h1 : b = b') (h2 : c = c') : [a, b, c] = [a', b', c'] := by rw [h0, h1, h2]
theorem l5 {α : Type} {a b c d e a' b' c' d' e' : α} (h0 : a = a') (h1 : b = b') (h2 : c = c') (h3 : d = d') (h4 : e = e') : [a, b, c, d, e] = [a', b', c', d', e'] := by rw [h0, h1, h2, h3, h4]
theorem nbeqF {a b : Nat} (h : a ≠ b) : Nat.beq a b = false := by
 cases hb : Nat.beq a b
 · rfl
 · exact absurd (Nat.eq_of_beq_eq_true hb) h
theorem Qlx {a b : Nat} (h : a = b) : Nat.beq a b = true := by subst h; exact Nat.beq_refl a
theorem Qdu {w : Wk} {ma ca : Nat} {na : Bool} {za : Nat -> Nat -> Int} {md cd : Nat} {nd : Bool} {zd : Nat -> Nat -> Int} (n d : Int) (h : (⟨w, ma, ca, na, za, md, cd, nd, zd⟩ : WkS).good) : (⟨w.next n d, ma, ca, na, za, md, cd, nd, zd⟩ : WkS).good := by
 unfold Wk.next; split <;> exact h
theorem Qh4 {w : Wk} (n d : Int) (h : w.th < 4) : (w.next n d).th < 4 := by
 unfold Wk.next; split <;> exact h
theorem Qej {w : Wk} (n d : Int) (h : w.allOK) : (w.next n d).allOK := by
 unfold Wk.next; split <;> exact h
theorem Ql6 : (Con.mem (XB 4)).holds Tryz.prog 63 := by
 intro w0 S
 refine Qb (Γ := [(30, .mem Q3), (26, .mem QI), (90, .pure Xt), (91, .mem Qan), (80, .pure Xb), (93, .pure QgO), (92, .mem QdI)]) (fun _ => noW) Tryz.func63 rfl (by kernel_rfl) Qf Qc (fun w S' _ _ => .cons (Xs w S') (.cons (QL w S') (.cons (Xw w S') (.cons (QaC w S') (.cons (Qau w S') (.cons (QiW w S') (.cons (QgY w S') (.nil _ _ _)))))))) (XB 4) (fun _ => []) (fun x0 h => by cases h) (fun s ρ w _ _ _ => Qh w _) [nzW] (rpW 3) 400 ?_
 rintro ⟨⟨⟨th, does, k, key, x, tog, said, i, v, r, asks, deeds, seen, oc, ov, whn⟩, ma, ca, na, za, md, cd, nd, zd⟩, m, t⟩ W ⟨h0, h1, h2, h3, h4, h5, h6, h7⟩ -
 refine ⟨rfl, ?_⟩
 dsimp only at h0 h1 h3 h4 h5 h6 h7
 subst h0
 refine Qj (q := ∃ (s : Qa0), [aP 1 0, aI 1] = [aP 1 0, aI s.2] /\ [ramB m] = [ramB s.1] /\ (iR s.2 (16 : Int)) /\ ∀ (x_1 : Unit), True -> endN (XB (4 : Int)) [nzW] (rpW 3) (WlS.mk (WkS.mk (Wk.mk th (4 : Int) k key x tog said i v r asks deeds seen oc ov whn) ma ca na za md cd nd zd) m t) (SV.t []) [SB.cells [sI ↑th, sI 5, sI k, sI key, sI x, sI tog, sB said, sI 0, sU (s.1 (Int.toNat s.2)), nU 32 r, Seg.one (.v (.slice none 0 0)), sS 4 0 6 (List.length deeds) cd nd, nU 3 seen, sI oc, sI ov, sI whn] 42, ramB s.1, stoB (WlS.t (WlS.mk (WkS.mk (Wk.mk th (4 : Int) k key x tog said i v r asks deeds seen oc ov whn) ma ca na za md cd nd zd) m t)), wkA ma ca za, wkD md cd zd]) (by kernel_rfl) ?_
 obtain ⟨ga, gb, gc⟩ := h2
 exact ⟨⟨m, 1⟩, rfl, rfl, ⟨(by decide : (0 : Int) <= 1), (by decide : (1 : Int) < 16)⟩, fun _ _ => Qi rfl ⟨⟨th, 5, k, key, x, tog, said, 0, m 1, r, [], deeds, seen, oc, ov, whn⟩, 0, 0, false, fun _ _ => 0, md, cd, nd, zd⟩ ⟨⟨rfl, rfl⟩, ⟨⟨Nat.le_refl _, Nat.le_refl _⟩, fun i hi => absurd hi (Nat.not_lt_zero _), gc⟩⟩ rfl rfl rfl⟩
theorem Ql5 : (Con.mem (XB 5)).holds Tryz.prog 63 := by
 intro w0 S
 refine Qb (Γ := [(30, .mem Q3), (26, .mem QI), (90, .pure Xt), (91, .mem Qan), (80, .pure Xb), (93, .pure QgO), (92, .mem QdI)]) (fun _ => noW) Tryz.func63 rfl (by kernel_rfl) Qf Qc (fun w S' _ _ => .cons (Xs w S') (.cons (QL w S') (.cons (Xw w S') (.cons (QaC w S') (.cons (Qau w S') (.cons (QiW w S') (.cons (QgY w S') (.nil _ _ _)))))))) (XB 5) (fun _ => []) (fun x0 h => by cases h) (fun s ρ w _ _ _ => Qh w _) [] (rpW 3) 400 ?_
 rintro ⟨⟨⟨th, does, k, key, x, tog, said, i, v, r, asks, deeds, seen, oc, ov, whn⟩, ma, ca, na, za, md, cd, nd, zd⟩, m, t⟩ W ⟨h0, h1, h2, h3, h4, h5, h6, h7⟩ -
 refine ⟨rfl, ?_⟩
 dsimp only at h0 h1 h3 h4 h5 h6 h7
 subst h0
 refine Qj (q := (iR v (18446744073709551616 : Int)) /\ ∃ (s : Qt), [aP 2 0, aI (IntKind.wrap .i64 ((↑(Qq v) : Int) + i))] = [aP 2 0, aI s.2] /\ [stoB (WlS.t (WlS.mk (WkS.mk (Wk.mk th (5 : Int) k key x tog said i v r asks deeds seen oc ov whn) ma ca na za md cd nd zd) m t))] = [stoB (Qt.s s)] /\ (iR s.2 (72 : Int)) /\ ∀ (x_1 : Unit), True -> (iR i (32 : Int)) /\ Int.toNat i < 32 /\ dP Tryz.f63 5 5 [⟨23, [], [0], [3, 4], false⟩, xF 22 0, xF 21 0, xF 20 0, xE 19, xE 18, xE 17, ⟨16, [], [2], [], false⟩, xE 15, xR 14 0, xF 13 0, xF 12 0, xF 11 0, xE 10, xR 9 0, xF 8 0, xF 7 0, xF 6 0, xF 5 2, xR 4 0, xF 3 0, xF 2 0, xF 1 0, xF 0 0] /\ ∃ (s_1 : WnS), [aP 0 0, aI 32, aI 6] = [aP 0 0, aI s_1.2, aI s_1.3] /\ [SB.cells [sI ↑th, sI 5, sI k, sI key, sI x, sI tog, sB said, sI i, sU v, nU 32 fun (i_1 : Nat) => bif Nat.beq i_1 (Int.toNat i) then (Qt.s s).1 (Int.toNat s.2) else r i_1, sS 3 0 5 (List.length asks) ca na, sS 4 0 6 (List.length deeds) cd nd, nU 3 seen, sI oc, sI ov, sI whn] 42, wkA ma ca za, wkD md cd zd] = [wkC 3 4 (WkS.w (WnS.s s_1)) (WnS.s s_1).3 (WnS.s s_1).4 (WnS.s s_1).7 (WnS.s s_1).8, wkA (WnS.s s_1).2 (WnS.s s_1).3 (WnS.s s_1).5, wkD (WnS.s s_1).6 (WnS.s s_1).7 (WnS.s s_1).9] /\ ((0 : Int) <= (WkS.w (WnS.s s_1)).8 /\ (WkS.w (WnS.s s_1)).8 < (1000 : Int)) /\ ∀ (x_2 : Unit), True -> endN (XB (5 : Int)) [] (rpW 3) (WlS.mk (WkS.mk (Wk.mk th (5 : Int) k key x tog said i v r asks deeds seen oc ov whn) ma ca na za md cd nd zd) m t) (SV.t []) [wkC 3 4 (Wk.next (WkS.w (WnS.s s_1)) (WnS.n s_1) (WnS.d s_1)) (WnS.s s_1).3 (WnS.s s_1).4 (WnS.s s_1).7 (WnS.s s_1).8, ramB m, stoB (Qt.s s), wkA (WnS.s s_1).2 (WnS.s s_1).3 (WnS.s s_1).5, wkD (WnS.s s_1).6 (WnS.s s_1).7 (WnS.s s_1).9]) (by kernel_rfl) ?_
 have hb : Qq v = 8 \/ Qq v = 40 := by unfold Qq; omega
 have e : IntKind.wrap .i64 ((Qq v : Int) + i) = ((Qq v + i.toNat : Nat) : Int) := by rw [QC (by omega) (by omega)]; omega
 have e2 : (0 : Int) <= ((Qq v + i.toNat : Nat) : Int) := by omega
 have e3 : ((Qq v + i.toNat : Nat) : Int) < 72 := by omega
 have e5 : i < 1000 := by omega
 rw [e]
 exact ⟨h5, ⟨t, ((Qq v + i.toNat : Nat) : Int)⟩, rfl, rfl, ⟨e2, e3⟩, fun _ _ => ⟨⟨h3, h4⟩, by omega, Qd (by kernel_rfl), ⟨⟨⟨th, 5, k, key, x, tog, said, i, v, putF r i.toNat (t.now (Qq v + i.toNat)), asks, deeds, seen, oc, ov, whn⟩, ma, ca, na, za, md, cd, nd, zd⟩, 32, 6⟩, rfl, rfl, ⟨h3, e5⟩, fun _ _ => Qi rfl ⟨Wk.next ⟨th, 5, k, key, x, tog, said, i, v, putF r i.toNat (t.now (Qq v + i.toNat)), asks, deeds, seen, oc, ov, whn⟩ 32 6, ma, ca, na, za, md, cd, nd, zd⟩ ⟨⟨rfl, rfl⟩, Qdu 32 6 h2⟩ rfl rfl rfl⟩⟩
theorem Ql4 : (Con.mem (XB 6)).holds Tryz.prog 63 := by
 intro w0 S
 refine Qb (Γ := [(30, .mem Q3), (26, .mem QI), (90, .pure Xt), (91, .mem Qan), (80, .pure Xb), (93, .pure QgO), (92, .mem QdI)]) (fun _ => noW) Tryz.func63 rfl (by kernel_rfl) Qf Qc (fun w S' _ _ => .cons (Xs w S') (.cons (QL w S') (.cons (Xw w S') (.cons (QaC w S') (.cons (Qau w S') (.cons (QiW w S') (.cons (QgY w S') (.nil _ _ _)))))))) (XB 6) (fun _ => []) (fun x0 h => by cases h) (fun s ρ w _ _ _ => Qh w _) [] (rpW 3) 400 ?_
 rintro ⟨⟨⟨th, does, k, key, x, tog, said, i, v, r, asks, deeds, seen, oc, ov, whn⟩, ma, ca, na, za, md, cd, nd, zd⟩, m, t⟩ W ⟨h0, h1, h2, h3, h4, h5, h6, h7⟩ -
 refine ⟨rfl, ?_⟩
 dsimp only at h0 h1 h3 h4 h5 h6 h7
 subst h0
 refine Qj (q := ∃ (s : Qa0), [aP 1 0, aI (IntKind.wrap .i64 (IntKind.wrap .i64 ((2 : Int) + IntKind.wrap .i64 ((2 : Int) * i)) + (1 : Int)))] = [aP 1 0, aI s.2] /\ [ramB m] = [ramB s.1] /\ (iR s.2 (16 : Int)) /\ ∀ (x_1 : Unit), True -> bif s.1 (Int.toNat s.2) != (0 : Int) then (32 = 32 /\ (0 : Int) <= i /\ i < (4 : Int) /\ (0 : Int) <= r 26 /\ r 26 < (16 : Int)) /\ dP Tryz.f63 9 5 [xE 16, xE 15, xE 14, xR 13 0, xF 12 0, xF 11 0, xF 10 0, xR 9 0, xF 8 0, xF 7 0, xF 6 0, xE 5, xE 4, xE 3, xE 2, xE 1, xE 0] /\ bif IntKind.wrap .i64 (IntKind.wrap .u64 (s.1 (Int.toNat s.2) - (1 : Int))) != Qn (r 26) (Int.toNat i) then dP Tryz.f63 10 5 [⟨14, [5], [3, 6], [], true⟩, ⟨13, [], [5], [5], false⟩, xE 12, xE 11, xE 10, xE 9, xR 8 0, xF 7 0, xF 6 0, xF 5 0, ⟨4, [0], [], [3], false⟩, xF 3 0, xF 2 0, xF 1 0, xF 0 0] /\ ((List.length asks <= ma /\ ca = ca) /\ (1 <= 1 /\ 1 = 1) /\ List.length asks + 1 <= 68719476736) /\ ∀ (c : Nat), List.length asks + 1 <= c -> dP Tryz.f63 10 5 [⟨17, [], [0], [6, 4], false⟩, xF 16 0, xF 15 0, ⟨14, [5], [3, 6], [6], true⟩, ⟨13, [], [5], [5], false⟩, xE 12, xE 11, xE 10, xE 9, xR 8 0, xF 7 0, xF 6 0, xF 5 0, ⟨4, [0], [], [3], false⟩, xF 3 0, xF 2 0, xF 1 0, xF 0 0] /\ endN (XB (6 : Int)) [] (rpW 3) (WlS.mk (WkS.mk (Wk.mk th (6 : Int) k key x tog said i v r asks deeds seen oc ov whn) ma ca na za md cd nd zd) m t) (SV.t []) [SB.cells [sI ↑th, sI 7, sI k, sI key, sI x, sI tog, sB said, sI i, sU v, nU 32 r, sS 6 0 5 (List.length asks + 1) c na, sS 4 0 6 (List.length deeds) cd nd, nU 3 seen, sI oc, sI ov, sI whn] 42, ramB s.1, stoB (WlS.t (WlS.mk (WkS.mk (Wk.mk th (6 : Int) k key x tog said i v r asks deeds seen oc ov whn) ma ca na za md cd nd zd) m t)), SB.gone, wkD md cd zd, wkA 1 1 fun (i_1 j : Nat) => match List.get?Internal (match List.get?Internal [[i, IntKind.wrap .i64 (IntKind.wrap .u64 (s.1 (Int.toNat s.2) - (1 : Int))), (0 : Int), (0 : Int), (0 : Int)]] i_1 with | some x => x | none => []) j with | some x => x | none => (0 : Int), wkA (List.length asks + 1) c fun (i_1 j : Nat) => bif Nat.ble (i_1 + 1) (List.length asks) then za i_1 j else match List.get?Internal (match List.get?Internal [[i, IntKind.wrap .i64 (IntKind.wrap .u64 (s.1 (Int.toNat s.2) - (1 : Int))), (0 : Int), (0 : Int), (0 : Int)]] (0 + (i_1 - List.length asks)) with | some x => x | none => []) j with | some x => x | none => (0 : Int)] else ∃ (s_1 : WnS), [aP 0 0, aI 4, aI 8] = [aP 0 0, aI s_1.2, aI s_1.3] /\ [SB.cells [sI ↑th, sI 6, sI k, sI key, sI x, sI tog, sB said, sI i, sU v, nU 32 r, sS 3 0 5 (List.length asks) ca na, sS 4 0 6 (List.length deeds) cd nd, nU 3 seen, sI oc, sI ov, sI whn] 42, wkA ma ca za, wkD md cd zd] = [wkC 3 4 (WkS.w (WnS.s s_1)) (WnS.s s_1).3 (WnS.s s_1).4 (WnS.s s_1).7 (WnS.s s_1).8, wkA (WnS.s s_1).2 (WnS.s s_1).3 (WnS.s s_1).5, wkD (WnS.s s_1).6 (WnS.s s_1).7 (WnS.s s_1).9] /\ ((0 : Int) <= (WkS.w (WnS.s s_1)).8 /\ (WkS.w (WnS.s s_1)).8 < (1000 : Int)) /\ ∀ (x_2 : Unit), True -> ∃ (s_2 : WkS), [aP 0 0] = [aP 0 0] /\ [wkC 3 4 (Wk.next (WkS.w (WnS.s s_1)) (WnS.n s_1) (WnS.d s_1)) (WnS.s s_1).3 (WnS.s s_1).4 (WnS.s s_1).7 (WnS.s s_1).8, wkA (WnS.s s_1).2 (WnS.s s_1).3 (WnS.s s_1).5, wkD (WnS.s s_1).6 (WnS.s s_1).7 (WnS.s s_1).9] = [wkC 3 4 (WkS.w s_2) s_2.3 s_2.4 s_2.7 s_2.8, wkA s_2.2 s_2.3 s_2.5, wkD s_2.6 s_2.7 s_2.9] /\ ((WkS.w s_2).1 < 4 /\ ((List.length (WkS.w s_2).11 <= s_2.2 /\ s_2.2 <= s_2.3) /\ IsA s_2.5 (WkS.w s_2).11 /\ (List.length (WkS.w s_2).12 <= s_2.6 /\ s_2.6 <= s_2.7) /\ IsD s_2.9 (WkS.w s_2).12) /\ ((WkS.w s_2).2 = (8 : Int) -> Wk.allOK s_2.1)) /\ ∀ (x_3 : WkS), Wk.sim x_3.1 (Wk.all s_2.1) /\ (List.length (WkS.w x_3).11 <= x_3.2 /\ x_3.2 <= x_3.3) /\ IsA x_3.5 (WkS.w x_3).11 /\ (List.length (WkS.w x_3).12 <= x_3.6 /\ x_3.6 <= x_3.7) /\ IsD x_3.9 (WkS.w x_3).12 -> endN (XB (6 : Int)) [] (rpW 3) (WlS.mk (WkS.mk (Wk.mk th (6 : Int) k key x tog said i v r asks deeds seen oc ov whn) ma ca na za md cd nd zd) m t) (SV.t []) [wkC 5 6 (WkS.w x_3) x_3.3 x_3.4 x_3.7 x_3.8, ramB s.1, stoB (WlS.t (WlS.mk (WkS.mk (Wk.mk th (6 : Int) k key x tog said i v r asks deeds seen oc ov whn) ma ca na za md cd nd zd) m t)), SB.gone, SB.gone, wkA x_3.2 x_3.3 x_3.5, wkD x_3.6 x_3.7 x_3.9] else dP Tryz.f63 9 5 [xE 16, xE 15, xE 14, xE 13, xE 12, xE 11, xE 10, xE 9, xE 8, xE 7, xE 6, xE 5, xE 4, xE 3, xE 2, xE 1, xE 0] /\ ∃ (s_1 : WnS), [aP 0 0, aI 4, aI 8] = [aP 0 0, aI s_1.2, aI s_1.3] /\ [SB.cells [sI ↑th, sI 6, sI k, sI key, sI x, sI tog, sB said, sI i, sU v, nU 32 r, sS 3 0 5 (List.length asks) ca na, sS 4 0 6 (List.length deeds) cd nd, nU 3 seen, sI oc, sI ov, sI whn] 42, wkA ma ca za, wkD md cd zd] = [wkC 3 4 (WkS.w (WnS.s s_1)) (WnS.s s_1).3 (WnS.s s_1).4 (WnS.s s_1).7 (WnS.s s_1).8, wkA (WnS.s s_1).2 (WnS.s s_1).3 (WnS.s s_1).5, wkD (WnS.s s_1).6 (WnS.s s_1).7 (WnS.s s_1).9] /\ ((0 : Int) <= (WkS.w (WnS.s s_1)).8 /\ (WkS.w (WnS.s s_1)).8 < (1000 : Int)) /\ ∀ (x_2 : Unit), True -> ∃ (s_2 : WkS), [aP 0 0] = [aP 0 0] /\ [wkC 3 4 (Wk.next (WkS.w (WnS.s s_1)) (WnS.n s_1) (WnS.d s_1)) (WnS.s s_1).3 (WnS.s s_1).4 (WnS.s s_1).7 (WnS.s s_1).8, wkA (WnS.s s_1).2 (WnS.s s_1).3 (WnS.s s_1).5, wkD (WnS.s s_1).6 (WnS.s s_1).7 (WnS.s s_1).9] = [wkC 3 4 (WkS.w s_2) s_2.3 s_2.4 s_2.7 s_2.8, wkA s_2.2 s_2.3 s_2.5, wkD s_2.6 s_2.7 s_2.9] /\ ((WkS.w s_2).1 < 4 /\ ((List.length (WkS.w s_2).11 <= s_2.2 /\ s_2.2 <= s_2.3) /\ IsA s_2.5 (WkS.w s_2).11 /\ (List.length (WkS.w s_2).12 <= s_2.6 /\ s_2.6 <= s_2.7) /\ IsD s_2.9 (WkS.w s_2).12) /\ ((WkS.w s_2).2 = (8 : Int) -> Wk.allOK s_2.1)) /\ ∀ (x_3 : WkS), Wk.sim x_3.1 (Wk.all s_2.1) /\ (List.length (WkS.w x_3).11 <= x_3.2 /\ x_3.2 <= x_3.3) /\ IsA x_3.5 (WkS.w x_3).11 /\ (List.length (WkS.w x_3).12 <= x_3.6 /\ x_3.6 <= x_3.7) /\ IsD x_3.9 (WkS.w x_3).12 -> endN (XB (6 : Int)) [] (rpW 3) (WlS.mk (WkS.mk (Wk.mk th (6 : Int) k key x tog said i v r asks deeds seen oc ov whn) ma ca na za md cd nd zd) m t) (SV.t []) [wkC 5 6 (WkS.w x_3) x_3.3 x_3.4 x_3.7 x_3.8, ramB s.1, stoB (WlS.t (WlS.mk (WkS.mk (Wk.mk th (6 : Int) k key x tog said i v r asks deeds seen oc ov whn) ma ca na za md cd nd zd) m t)), SB.gone, SB.gone, wkA x_3.2 x_3.3 x_3.5, wkD x_3.6 x_3.7 x_3.9]) (by kernel_rfl) ?_
 obtain ⟨h8, ⟨r0, r1⟩, ⟨m0, m1⟩, ha⟩ := h6 rfl
 have e : IntKind.wrap .i64 (IntKind.wrap .i64 (2 + IntKind.wrap .i64 (2 * i)) + 1) = ((3 + 2 * i.toNat : Nat) : Int) := by rw [QC (x := 2 * i) (by omega) (by omega), QC (x := 2 + 2 * i) (by omega) (by omega), QC (by omega) (by omega)]; omega
 have e2 : (0 : Int) <= ((3 + 2 * i.toNat : Nat) : Int) := by omega
 have e3 : ((3 + 2 * i.toNat : Nat) : Int) < 16 := by omega
 have e5 : i < 1000 := by omega
 have hth : th < 4 := h1
 have hl : asks.length <= 4 := ha.2.1
 have hg := h2
 rw [e]
 have hshut (hn : ¬(m (3 + 2 * i.toNat) ≠ 0 /\ m (3 + 2 * i.toNat) - 1 ≠ Qn (r 26) i.toNat)) : Qay ⟨⟨th, 6, k, key, x, tog, said, i, v, r, asks, deeds, seen, oc, ov, whn⟩, m, t⟩ = ⟨(Wk.next ⟨th, 6, k, key, x, tog, said, i, v, r, asks, deeds, seen, oc, ov, whn⟩ 4 8).all, m, t⟩ := by
   unfold Qay
   rw [if_neg (by show ¬(6 : Int) = 4; decide), if_neg (by show ¬(6 : Int) = 5; decide), if_pos rfl, if_neg hn]
 refine ⟨⟨m, ((3 + 2 * i.toNat : Nat) : Int)⟩, rfl, rfl, ⟨e2, e3⟩, fun _ _ => ?_⟩
 show bif m (3 + 2 * i.toNat) != 0 then _ else _
 refine QB (fun hm => ?_) (fun hm => ?_)
 · have e6 : IntKind.wrap .i64 (IntKind.wrap .u64 (m (3 + 2 * i.toNat) - 1)) = m (3 + 2 * i.toNat) - 1 := by rw [QaG (x := m (3 + 2 * i.toNat) - 1) (by omega) (by omega), QC (by omega) (by omega)]
   refine ⟨⟨rfl, h3, h8, r0, r1⟩, Qd (by kernel_rfl), ?_⟩
   show bif IntKind.wrap .i64 (IntKind.wrap .u64 (m (3 + 2 * i.toNat) - 1)) != Qn (r 26) i.toNat then _ else _
   rw [e6]
   refine QB (fun ho => ?_) (fun ho => ?_)
   · obtain ⟨⟨ga, gb⟩, gc, gd⟩ := h2
     have hopen : Qay ⟨⟨th, 6, k, key, x, tog, said, i, v, r, asks, deeds, seen, oc, ov, whn⟩, m, t⟩ = ⟨⟨th, 7, k, key, x, tog, said, i, v, r, asks ++ [⟨i.toNat, m (3 + 2 * i.toNat) - 1, 0, 0, 0⟩], deeds, seen, oc, ov, whn⟩, m, t⟩ := by
       unfold Qay
       rw [if_neg (by show ¬(6 : Int) = 4; decide), if_neg (by show ¬(6 : Int) = 5; decide), if_pos rfl, if_pos ⟨hm, ho⟩]
     have el : asks.length + 1 = (asks ++ [⟨i.toNat, m (3 + 2 * i.toNat) - 1, 0, 0, 0⟩] : List Ask).length := by rw [List.length_append]; rfl
     refine ⟨Qd (by kernel_rfl), ⟨⟨ga, rfl⟩, ⟨Nat.le_refl _, rfl⟩, by omega⟩, fun c hc => ⟨Qd (by kernel_rfl), Qi rfl ⟨⟨th, 7, k, key, x, tog, said, i, v, r, asks ++ [⟨i.toNat, m (3 + 2 * i.toNat) - 1, 0, 0, 0⟩], deeds, seen, oc, ov, whn⟩, asks.length + 1, c, na, _, md, cd, nd, zd⟩ ⟨by show Wk.sim _ (Qay ⟨⟨th, 6, k, key, x, tog, said, i, v, r, asks, deeds, seen, oc, ov, whn⟩, m, t⟩).w; rw [hopen]; exact Wk.sim_rfl _, ⟨⟨by rw [<- el]; exact Nat.le_refl _, hc⟩, ?_, gd⟩⟩ rfl rfl (l5 (Qoo el) rfl rfl rfl rfl)⟩⟩
     refine IsA.snoc gc (fun j hj k => catT hj) ⟨?_, ?_, ?_, ?_, ?_⟩
     · refine catF.trans ?_
       rw [Nat.sub_self]; show i = (i.toNat : Int); omega
     · refine catF.trans ?_
       rw [Nat.sub_self]; exact e6
     all_goals exact catF.trans (by rw [Nat.sub_self]; rfl)
   · refine ⟨⟨⟨⟨th, 6, k, key, x, tog, said, i, v, r, asks, deeds, seen, oc, ov, whn⟩, ma, ca, na, za, md, cd, nd, zd⟩, 4, 8⟩, rfl, rfl, ⟨h3, e5⟩, fun _ _ => ⟨⟨Wk.next ⟨th, 6, k, key, x, tog, said, i, v, r, asks, deeds, seen, oc, ov, whn⟩ 4 8, ma, ca, na, za, md, cd, nd, zd⟩, rfl, rfl, ⟨Qh4 4 8 hth, Qdu 4 8 hg, fun _ => Qej 4 8 ha⟩, ?_⟩⟩
     rintro ⟨w2, ma2, ca2, na2, za2, md2, cd2, nd2, zd2⟩ ⟨hs, hg2⟩
     exact Qi rfl ⟨w2, ma2, ca2, na2, za2, md2, cd2, nd2, zd2⟩ ⟨by show Wk.sim _ (Qay ⟨⟨th, 6, k, key, x, tog, said, i, v, r, asks, deeds, seen, oc, ov, whn⟩, m, t⟩).w; rw [hshut (fun h => h.2 ho)]; exact hs, hg2⟩ rfl rfl rfl
 · refine ⟨Qd (by kernel_rfl), ⟨⟨⟨th, 6, k, key, x, tog, said, i, v, r, asks, deeds, seen, oc, ov, whn⟩, ma, ca, na, za, md, cd, nd, zd⟩, 4, 8⟩, rfl, rfl, ⟨h3, e5⟩, fun _ _ => ⟨⟨Wk.next ⟨th, 6, k, key, x, tog, said, i, v, r, asks, deeds, seen, oc, ov, whn⟩ 4 8, ma, ca, na, za, md, cd, nd, zd⟩, rfl, rfl, ⟨Qh4 4 8 hth, Qdu 4 8 hg, fun _ => Qej 4 8 ha⟩, ?_⟩⟩
   rintro ⟨w2, ma2, ca2, na2, za2, md2, cd2, nd2, zd2⟩ ⟨hs, hg2⟩
   exact Qi rfl ⟨w2, ma2, ca2, na2, za2, md2, cd2, nd2, zd2⟩ ⟨by show Wk.sim _ (Qay ⟨⟨th, 6, k, key, x, tog, said, i, v, r, asks, deeds, seen, oc, ov, whn⟩, m, t⟩).w; rw [hshut (fun h => h.1 hm)]; exact hs, hg2⟩ rfl rfl rfl
theorem Ql3 : (Con.mem (XB 7)).holds Tryz.prog 63 := by
 intro w0 S
 refine Qb (Γ := [(30, .mem Q3), (26, .mem QI), (90, .pure Xt), (91, .mem Qan), (80, .pure Xb), (93, .pure QgO), (92, .mem QdI)]) (fun _ => noW) Tryz.func63 rfl (by kernel_rfl) Qf Qc (fun w S' _ _ => .cons (Xs w S') (.cons (QL w S') (.cons (Xw w S') (.cons (QaC w S') (.cons (Qau w S') (.cons (QiW w S') (.cons (QgY w S') (.nil _ _ _)))))))) (XB 7) (fun _ => []) (fun x0 h => by cases h) (fun s ρ w _ _ _ => Qh w _) [] (rpW 3) 400 ?_
 rintro ⟨⟨⟨th, does, k, key, x, tog, said, i, v, r, asks, deeds, seen, oc, ov, whn⟩, ma, ca, na, za, md, cd, nd, zd⟩, m, t⟩ W ⟨h0, h1, h2, h3, h4, h5, h6, h7⟩ -
 refine ⟨rfl, ?_⟩
 dsimp only at h0 h1 h3 h4 h5 h6 h7
 subst h0
 refine Qj (q := ∃ (s : Qa0), [aP 1 0, aI (IntKind.wrap .i64 ((2 : Int) + IntKind.wrap .i64 ((2 : Int) * i)))] = [aP 1 0, aI s.2] /\ [ramB m] = [ramB s.1] /\ (iR s.2 (16 : Int)) /\ ∀ (x_1 : Unit), True -> List.length asks <= ca /\ ((0 : Int) <= s.1 (Int.toNat s.2) /\ s.1 (Int.toNat s.2) < (18446744073709551616 : Int) /\ opOk (s.1 (Int.toNat s.2) / (281474976710656 : Int) % (65536 : Int)) (s.1 (Int.toNat s.2) / (4294967296 : Int) % (65536 : Int)) (s.1 (Int.toNat s.2) % (4294967296 : Int)) = true) /\ ((0 : Int) <= IntKind.wrap .i64 ((↑(List.length asks) : Int) - (1 : Int)) /\ IntKind.wrap .i64 ((↑(List.length asks) : Int) - (1 : Int)) < (↑(List.length asks) : Int) /\ 0 + List.length asks <= ca) /\ 0 + Int.toNat (IntKind.wrap .i64 ((↑(List.length asks) : Int) - (1 : Int))) < ma /\ dP Tryz.f63 16 5 [⟨17, [], [3], [], false⟩, xF 16 3, xF 15 3, xE 14, xE 13, xE 12, xE 11, xE 10, xE 9, xE 8, ⟨7, [0], [], [3], false⟩, xF 6 0, xF 5 0, xF 4 0, ⟨3, [0], [], [3], false⟩, xF 2 0, xF 1 0, xF 0 0] /\ ∃ (s_1 : WnS), [aP 0 0, aI 4, aI 8] = [aP 0 0, aI s_1.2, aI s_1.3] /\ [SB.cells [sI ↑th, sI 6, sI k, sI key, sI x, sI tog, sB said, sI i, sU v, nU 32 r, sS 3 0 5 (List.length asks) ca na, sS 4 0 6 (List.length deeds) cd nd, nU 3 seen, sI oc, sI ov, sI whn] 42, wkA ma ca fun (i j : Nat) => bif match Nat.beq i (0 + Int.toNat (IntKind.wrap .i64 ((↑(List.length asks) : Int) - (1 : Int)))) with | false => false | true => match Nat.ble 2 j with | false => false | true => Nat.ble j 4 then match List.get?Internal [s.1 (Int.toNat s.2) / (281474976710656 : Int) % (65536 : Int), s.1 (Int.toNat s.2) / (4294967296 : Int) % (65536 : Int), s.1 (Int.toNat s.2) % (4294967296 : Int)] (match match j with | 0 => 0 | Nat.succ a => a with | 0 => 0 | Nat.succ a => a) with | some x => x | none => (0 : Int) else za i j, wkD md cd zd] = [wkC 3 4 (WkS.w (WnS.s s_1)) (WnS.s s_1).3 (WnS.s s_1).4 (WnS.s s_1).7 (WnS.s s_1).8, wkA (WnS.s s_1).2 (WnS.s s_1).3 (WnS.s s_1).5, wkD (WnS.s s_1).6 (WnS.s s_1).7 (WnS.s s_1).9] /\ ((0 : Int) <= (WkS.w (WnS.s s_1)).8 /\ (WkS.w (WnS.s s_1)).8 < (1000 : Int)) /\ ∀ (x_2 : Unit), True -> ∃ (s_2 : WkS), [aP 0 0] = [aP 0 0] /\ [wkC 3 4 (Wk.next (WkS.w (WnS.s s_1)) (WnS.n s_1) (WnS.d s_1)) (WnS.s s_1).3 (WnS.s s_1).4 (WnS.s s_1).7 (WnS.s s_1).8, wkA (WnS.s s_1).2 (WnS.s s_1).3 (WnS.s s_1).5, wkD (WnS.s s_1).6 (WnS.s s_1).7 (WnS.s s_1).9] = [wkC 3 4 (WkS.w s_2) s_2.3 s_2.4 s_2.7 s_2.8, wkA s_2.2 s_2.3 s_2.5, wkD s_2.6 s_2.7 s_2.9] /\ ((WkS.w s_2).1 < 4 /\ ((List.length (WkS.w s_2).11 <= s_2.2 /\ s_2.2 <= s_2.3) /\ IsA s_2.5 (WkS.w s_2).11 /\ (List.length (WkS.w s_2).12 <= s_2.6 /\ s_2.6 <= s_2.7) /\ IsD s_2.9 (WkS.w s_2).12) /\ ((WkS.w s_2).2 = (8 : Int) -> Wk.allOK s_2.1)) /\ ∀ (x_3 : WkS), Wk.sim x_3.1 (Wk.all s_2.1) /\ (List.length (WkS.w x_3).11 <= x_3.2 /\ x_3.2 <= x_3.3) /\ IsA x_3.5 (WkS.w x_3).11 /\ (List.length (WkS.w x_3).12 <= x_3.6 /\ x_3.6 <= x_3.7) /\ IsD x_3.9 (WkS.w x_3).12 -> endN (XB (7 : Int)) [] (rpW 3) (WlS.mk (WkS.mk (Wk.mk th (7 : Int) k key x tog said i v r asks deeds seen oc ov whn) ma ca na za md cd nd zd) m t) (SV.t []) [wkC 5 6 (WkS.w x_3) x_3.3 x_3.4 x_3.7 x_3.8, ramB s.1, stoB (WlS.t (WlS.mk (WkS.mk (Wk.mk th (7 : Int) k key x tog said i v r asks deeds seen oc ov whn) ma ca na za md cd nd zd) m t)), SB.gone, SB.gone, wkA x_3.2 x_3.3 x_3.5, wkD x_3.6 x_3.7 x_3.9]) (by kernel_rfl) ?_
 obtain ⟨h8, ⟨m0, m1⟩, ⟨l, a, hla⟩, ha⟩ := h7 rfl
 have e : IntKind.wrap .i64 (2 + IntKind.wrap .i64 (2 * i)) = ((2 + 2 * i.toNat : Nat) : Int) := by rw [QC (x := 2 * i) (by omega) (by omega), QC (by omega) (by omega)]; omega
 have e2 : (0 : Int) <= ((2 + 2 * i.toNat : Nat) : Int) := by omega
 have e3 : ((2 + 2 * i.toNat : Nat) : Int) < 16 := by omega
 have e5 : i < 1000 := by omega
 have hth : th < 4 := h1
 have hll : asks.length = l.length + 1 := by rw [hla, List.length_append]; rfl
 have hsl := Qbr l a (m (2 + 2 * i.toNat) / 281474976710656 % 65536) (m (2 + 2 * i.toNat) / 4294967296 % 65536) (m (2 + 2 * i.toNat) % 4294967296)
 rw [<- hla] at hsl
 have el : asks.length = (Xq asks (m (2 + 2 * i.toNat) / 281474976710656 % 65536) (m (2 + 2 * i.toNat) / 4294967296 % 65536) (m (2 + 2 * i.toNat) % 4294967296)).length := by rw [hsl, List.length_append]; exact hll
 have hop : opOk (m (2 + 2 * i.toNat) / 281474976710656 % 65536) (m (2 + 2 * i.toNat) / 4294967296 % 65536) (m (2 + 2 * i.toNat) % 4294967296) = true :=
   (ha.1 ⟨a.t, a.g, m (2 + 2 * i.toNat) / 281474976710656 % 65536, m (2 + 2 * i.toNat) / 4294967296 % 65536, m (2 + 2 * i.toNat) % 4294967296⟩ (by show _ ∈ Xq _ _ _ _; rw [hsl]; exact List.mem_append_right _ List.mem_cons_self)).2.2
 have hl4 : asks.length <= 4 := by rw [el]; exact ha.2.1
 have e6 : IntKind.wrap .i64 ((asks.length : Int) - 1) = (l.length : Int) := by rw [QC (by omega) (by omega)]; omega
 obtain ⟨⟨ga, gb⟩, gc, gd⟩ := h2
 dsimp only at ga gb gc gd
 have hgath : Qay ⟨⟨th, 7, k, key, x, tog, said, i, v, r, asks, deeds, seen, oc, ov, whn⟩, m, t⟩ = ⟨(Wk.next ⟨th, 6, k, key, x, tog, said, i, v, r, Xq asks (m (2 + 2 * i.toNat) / 281474976710656 % 65536) (m (2 + 2 * i.toNat) / 4294967296 % 65536) (m (2 + 2 * i.toNat) % 4294967296), deeds, seen, oc, ov, whn⟩ 4 8).all, m, t⟩ := by
   unfold Qay
   rw [if_neg (by show ¬(7 : Int) = 4; decide), if_neg (by show ¬(7 : Int) = 5; decide), if_neg (by show ¬(7 : Int) = 6; decide)]
 rw [e, e6]
 have hg (z' : Nat -> Nat -> Int) (hz : ∀ j, j < l.length -> ∀ q, z' j q = za j q) (h0 : z' l.length 0 = za l.length 0) (h1 : z' l.length 1 = za l.length 1) (h2 : z' l.length 2 = m (2 + 2 * i.toNat) / 281474976710656 % 65536) (h3 : z' l.length 3 = m (2 + 2 * i.toNat) / 4294967296 % 65536) (h4 : z' l.length 4 = m (2 + 2 * i.toNat) % 4294967296) :
     (⟨⟨th, 6, k, key, x, tog, said, i, v, r, Xq asks (m (2 + 2 * i.toNat) / 281474976710656 % 65536) (m (2 + 2 * i.toNat) / 4294967296 % 65536) (m (2 + 2 * i.toNat) % 4294967296), deeds, seen, oc, ov, whn⟩, ma, ca, na, z', md, cd, nd, zd⟩ : WkS).good := by
   refine ⟨⟨by show (Xq _ _ _ _).length <= _; rw [<- el]; exact ga, gb⟩, ?_, gd⟩
   show IsA z' (Xq _ _ _ _)
   rw [hsl]
   rw [hla] at gc
   have g2 := gc l.length (by rw [List.length_append]; exact Nat.lt_succ_self _)
   rw [show (l ++ [a]).getD l.length Ask.nil = a by simp [List.getD_eq_getElem?_getD]] at g2
   have gl : IsA za l := fun j hj => by
     have := gc j (by rw [List.length_append]; exact Nat.lt_succ_of_lt hj)
     rw [show (l ++ [a]).getD j Ask.nil = l.getD j Ask.nil by simp [List.getD_eq_getElem?_getD, List.getElem?_append_left hj]] at this
     exact this
   exact IsA.snoc gl hz ⟨h0.trans g2.1, h1.trans g2.2.1, h2, h3, h4⟩
 refine ⟨⟨m, ((2 + 2 * i.toNat : Nat) : Int)⟩, rfl, rfl, ⟨e2, e3⟩, fun _ _ => ⟨by omega, ⟨m0, m1, hop⟩, ⟨by omega, by omega, by omega⟩, by omega, Qd (by kernel_rfl), ⟨⟨⟨th, 6, k, key, x, tog, said, i, v, r, Xq asks (m (2 + 2 * i.toNat) / 281474976710656 % 65536) (m (2 + 2 * i.toNat) / 4294967296 % 65536) (m (2 + 2 * i.toNat) % 4294967296), deeds, seen, oc, ov, whn⟩, ma, ca, na, _, md, cd, nd, zd⟩, 4, 8⟩, rfl, l3 (Qoo el) rfl rfl, ⟨h3, e5⟩, fun _ _ => ⟨⟨Wk.next ⟨th, 6, k, key, x, tog, said, i, v, r, Xq asks (m (2 + 2 * i.toNat) / 281474976710656 % 65536) (m (2 + 2 * i.toNat) / 4294967296 % 65536) (m (2 + 2 * i.toNat) % 4294967296), deeds, seen, oc, ov, whn⟩ 4 8, ma, ca, na, _, md, cd, nd, zd⟩, rfl, rfl, ⟨Qh4 4 8 hth, Qdu 4 8 (hg _ ?_ ?_ ?_ ?_ ?_ ?_), fun _ => Qej 4 8 ha⟩, ?_⟩⟩⟩
 · intro j hj q
   show (bif (match Nat.beq j (0 + l.length) with | false => false | true => _) then _ else za j q) = za j q
   rw [show Nat.beq j (0 + l.length) = false from nbeqF (by omega)]
   rfl
 · show (bif (match Nat.beq l.length (0 + l.length) with | false => false | true => _) then _ else za l.length 0) = za l.length 0
   rw [show Nat.beq l.length (0 + l.length) = true from Qlx (by omega)]
   rfl
 · show (bif (match Nat.beq l.length (0 + l.length) with | false => false | true => _) then _ else za l.length 1) = za l.length 1
   rw [show Nat.beq l.length (0 + l.length) = true from Qlx (by omega)]
   rfl
 · show (bif (match Nat.beq l.length (0 + l.length) with | false => false | true => _) then _ else za l.length 2) = _
   rw [show Nat.beq l.length (0 + l.length) = true from Qlx (by omega)]
   rfl
 · show (bif (match Nat.beq l.length (0 + l.length) with | false => false | true => _) then _ else za l.length 3) = _
   rw [show Nat.beq l.length (0 + l.length) = true from Qlx (by omega)]
   rfl
 · show (bif (match Nat.beq l.length (0 + l.length) with | false => false | true => _) then _ else za l.length 4) = _
   rw [show Nat.beq l.length (0 + l.length) = true from Qlx (by omega)]
   rfl
 rintro ⟨w2, ma2, ca2, na2, za2, md2, cd2, nd2, zd2⟩ ⟨hs, hg2⟩
 exact Qi rfl ⟨w2, ma2, ca2, na2, za2, md2, cd2, nd2, zd2⟩ ⟨by show Wk.sim _ (Qay ⟨⟨th, 7, k, key, x, tog, said, i, v, r, asks, deeds, seen, oc, ov, whn⟩, m, t⟩).w; rw [hgath]; exact hs, hg2⟩ rfl rfl rfl
def QaS (d : Int) : MCon := dcon WlS (fun s => s.s.w.does = d /\ 0 <= s.s.w.v /\ s.s.w.v < 1000000000) (fun s => [.c (.p 0 0), .c (.p 1 0)]) (fun s => [wkC 2 3 s.s.w s.s.ca s.s.na s.s.cd s.s.nd, ramB s.m, wkA s.s.ma s.s.ca s.s.za, wkD s.s.md s.s.cd s.s.zd])
 (fun s => sv (.bool (Qbo s.z).2)) (fun s => [wkC 2 3 (Qbo s.z).1.w s.s.ca s.s.na s.s.cd s.s.nd, ramB (Qbo s.z).1.m, wkA s.s.ma s.s.ca s.s.za, wkD s.s.md s.s.cd s.s.zd]) 4 Qcd
theorem Qku : (Con.mem (QaS 14)).holds Tryz.prog 65 := by
 intro w0 S
 refine Qb (Γ := [(87, .mem Xh)]) (fun _ => noW) Tryz.func65 rfl (by kernel_rfl) Qf Qc (fun w S' _ _ => .cons (XW w S') (.nil _ _ _)) (QaS 14) (fun _ => []) (fun x0 h s x => ⟨rfl, trivial⟩) (fun s ρ w _ _ _ => Qh w _) [] (Qm 4) 400 ?_
 rintro ⟨⟨⟨th, does, k, key, x, tog, said, i, v, r, asks, deeds, seen, oc, ov, whn⟩, ma, ca, na, za, md, cd, nd, zd⟩, m, t⟩ W ⟨h0, h1, h2⟩ -
 refine ⟨rfl, ?_⟩
 dsimp only at h0 h1 h2
 subst h0
 refine Qj (q := ∃ (s : QaZ), [aP 1 0, aI 1, aU (IntKind.wrap .u64 (v + (1 : Int)))] = [aP 1 0, aI s.2, aU s.3] /\ [ramB m] = [ramB s.1] /\ (iR s.2 (16 : Int)) /\ ∀ (x_1 : Unit), True -> endN (QaS (14 : Int)) [] (Qm 4) (WlS.mk (WkS.mk (Wk.mk th (14 : Int) k key x tog said i v r asks deeds seen oc ov whn) ma ca na za md cd nd zd) m t) (SV.o (aB false)) [SB.cells [sI ↑th, sI 15, sI k, sI key, sI x, sI tog, sB said, sI i, sU v, nU 32 r, sS 2 0 5 (List.length asks) ca na, sS 3 0 6 (List.length deeds) cd nd, nU 3 seen, sI oc, sI ov, sI whn] 42, ramB (putF s.1 (Int.toNat s.2) s.3), wkA ma ca za, wkD md cd zd]) (by kernel_rfl) ?_
 rw [QaG (x := v + 1) (by omega) (by omega)]
 exact ⟨⟨m, 1, v + 1⟩, rfl, rfl, ⟨(by decide : (0 : Int) <= 1), (by decide : (1 : Int) < 16)⟩, fun _ _ => ⟨(), trivial, rfl, rfl⟩⟩
theorem Qkt : (Con.mem (QaS 15)).holds Tryz.prog 65 := by
 intro w0 S
 refine Qb (Γ := [(87, .mem Xh)]) (fun _ => noW) Tryz.func65 rfl (by kernel_rfl) Qf Qc (fun w S' _ _ => .cons (XW w S') (.nil _ _ _)) (QaS 15) (fun _ => []) (fun x0 h s x => ⟨rfl, trivial⟩) (fun s ρ w _ _ _ => Qh w _) [] (Qm 4) 400 ?_
 rintro ⟨⟨⟨th, does, k, key, x, tog, said, i, v, r, asks, deeds, seen, oc, ov, whn⟩, ma, ca, na, za, md, cd, nd, zd⟩, m, t⟩ W ⟨h0, h1, h2⟩ -
 refine ⟨rfl, ?_⟩
 dsimp only at h0 h1 h2
 subst h0
 refine Qj (q := ∃ (s : QaZ), [aP 1 0, aI 0, aU 0] = [aP 1 0, aI s.2, aU s.3] /\ [ramB m] = [ramB s.1] /\ (iR s.2 (16 : Int)) /\ ∀ (x_1 : Unit), True -> endN (QaS (15 : Int)) [] (Qm 4) (WlS.mk (WkS.mk (Wk.mk th (15 : Int) k key x tog said i v r asks deeds seen oc ov whn) ma ca na za md cd nd zd) m t) (SV.o (aB false)) [SB.cells [sI ↑th, sI 16, sI k, sI key, sI x, sI tog, sB said, sI i, sU v, nU 32 r, sS 2 0 5 (List.length asks) ca na, sS 3 0 6 (List.length deeds) cd nd, nU 3 seen, sI oc, sI ov, sI whn] 42, ramB (putF s.1 (Int.toNat s.2) s.3), wkA ma ca za, wkD md cd zd]) (by kernel_rfl) ?_
 exact ⟨⟨m, 0, 0⟩, rfl, rfl, ⟨(by decide : (0 : Int) <= 0), (by decide : (0 : Int) < 16)⟩, fun _ _ => ⟨(), trivial, rfl, rfl⟩⟩
theorem Qks : (Con.mem (QaS 16)).holds Tryz.prog 65 := by
 intro w0 S
 refine Qb (Γ := [(87, .mem Xh)]) (fun _ => noW) Tryz.func65 rfl (by kernel_rfl) Qf Qc (fun w S' _ _ => .cons (XW w S') (.nil _ _ _)) (QaS 16) (fun _ => []) (fun x0 h s x => ⟨rfl, trivial⟩) (fun s ρ w _ _ _ => Qh w _) [] (Qm 4) 400 ?_
 rintro ⟨⟨⟨th, does, k, key, x, tog, said, i, v, r, asks, deeds, seen, oc, ov, whn⟩, ma, ca, na, za, md, cd, nd, zd⟩, m, t⟩ W ⟨h0, h1, h2⟩ -
 refine ⟨rfl, ?_⟩
 dsimp only at h0 h1 h2
 subst h0
 refine Qj (q := endN (QaS (16 : Int)) [] (Qm 4) (WlS.mk (WkS.mk (Wk.mk th (16 : Int) k key x tog said i v r asks deeds seen oc ov whn) ma ca na za md cd nd zd) m t) (SV.o (aB true)) [SB.cells [sI ↑th, sI 0, sI k, sI key, sI x, sI tog, sB said, sI i, sU v, nU 32 r, sS 2 0 5 (List.length asks) ca na, sS 3 0 6 (List.length deeds) cd nd, nU 3 seen, sI oc, sI ov, sI whn] 42, ramB m, wkA ma ca za, wkD md cd zd]) (by kernel_rfl) ?_
 exact ⟨(), trivial, rfl, rfl⟩
def QbL (d : Int) : MCon := dcon WlS (fun s => s.s.w.does = d /\ s.s.w.th < 4 /\ opOk s.s.w.k s.s.w.key s.s.w.x = true /\ (s.s.w.tog = 0 \/ s.s.w.tog = 1)) (fun s => [.c (.p 0 0), .c (.p 1 0)]) (fun s => [wkC 2 3 s.s.w s.s.ca s.s.na s.s.cd s.s.nd, ramB s.m, wkA s.s.ma s.s.ca s.s.za, wkD s.s.md s.s.cd s.s.zd])
 (fun s => .t []) (fun s => [wkC 2 3 (sayP s.z).w s.s.ca s.s.na s.s.cd s.s.nd, ramB (sayP s.z).m, wkA s.s.ma s.s.ca s.s.za, wkD s.s.md s.s.cd s.s.zd]) 4 Qcd
theorem Qm6 : (Con.mem (QbL 1)).holds Tryz.prog 62 := by
 intro w0 S
 refine Qb (Γ := [(87, .mem Xh), (89, .mem XL), (88, .pure Qcn)]) (fun _ => noW) Tryz.func62 rfl (by kernel_rfl) Qf Qc (fun w S' _ _ => .cons (XW w S') (.cons (Qc4 w S') (.cons (Qgd w S') (.nil _ _ _)))) (QbL 1) (fun _ => []) (fun x0 h s x => ⟨rfl, trivial⟩) (fun s ρ w _ _ _ => Qh w _) [] (Qm 4) 400 ?_
 rintro ⟨⟨⟨th, does, k, key, x, tog, said, i, v, r, asks, deeds, seen, oc, ov, whn⟩, ma, ca, na, za, md, cd, nd, zd⟩, m, t⟩ W ⟨h0, h1, h2, h3⟩ -
 refine ⟨rfl, ?_⟩
 dsimp only at h0 h1 h2 h3
 subst h0
 refine Qj (q := opOk k key x = true /\ ∃ (s : QaZ), [aP 1 0, aI (IntKind.wrap .i64 ((2 : Int) + IntKind.wrap .i64 ((2 : Int) * (↑th : Int)))), aU (opW k key x)] = [aP 1 0, aI s.2, aU s.3] /\ [ramB m] = [ramB s.1] /\ (iR s.2 (16 : Int)) /\ ∀ (x_1 : Unit), True -> endN (QbL (1 : Int)) [] (Qm 4) (WlS.mk (WkS.mk (Wk.mk th (1 : Int) k key x tog said i v r asks deeds seen oc ov whn) ma ca na za md cd nd zd) m t) (SV.t []) [SB.cells [sI ↑th, sI 2, sI k, sI key, sI x, sI tog, sB said, sI i, sU v, nU 32 r, sS 2 0 5 (List.length asks) ca na, sS 3 0 6 (List.length deeds) cd nd, nU 3 seen, sI oc, sI ov, sI whn] 42, ramB (putF s.1 (Int.toNat s.2) s.3), wkA ma ca za, wkD md cd zd]) (by kernel_rfl) ?_
 have e : IntKind.wrap .i64 (2 + IntKind.wrap .i64 (2 * (th : Int))) = ((2 + 2 * th : Nat) : Int) := by rw [QC (x := 2 * (th : Int)) (by omega) (by omega), QC (by omega) (by omega)]; omega
 rw [e]
 exact ⟨h2, ⟨m, ((2 + 2 * th : Nat) : Int), opW k key x⟩, rfl, rfl, ⟨(by omega : (0 : Int) <= ((2 + 2 * th : Nat) : Int)), (by omega : ((2 + 2 * th : Nat) : Int) < 16)⟩, fun _ _ => ⟨(), trivial, rfl, rfl⟩⟩
theorem Qm5 : (Con.mem (QbL 2)).holds Tryz.prog 62 := by
 intro w0 S
 refine Qb (Γ := [(87, .mem Xh), (89, .mem XL), (88, .pure Qcn)]) (fun _ => noW) Tryz.func62 rfl (by kernel_rfl) Qf Qc (fun w S' _ _ => .cons (XW w S') (.cons (Qc4 w S') (.cons (Qgd w S') (.nil _ _ _)))) (QbL 2) (fun _ => []) (fun x0 h s x => ⟨rfl, trivial⟩) (fun s ρ w _ _ _ => Qh w _) [] (Qm 4) 400 ?_
 rintro ⟨⟨⟨th, does, k, key, x, tog, said, i, v, r, asks, deeds, seen, oc, ov, whn⟩, ma, ca, na, za, md, cd, nd, zd⟩, m, t⟩ W ⟨h0, h1, h2, h3⟩ -
 refine ⟨rfl, ?_⟩
 dsimp only at h0 h1 h2 h3
 subst h0
 refine Qj (q := ∃ (s : QaZ), [aP 1 0, aI (IntKind.wrap .i64 (IntKind.wrap .i64 ((2 : Int) + IntKind.wrap .i64 ((2 : Int) * (↑th : Int))) + (1 : Int))), aU (IntKind.wrap .u64 (IntKind.wrap .u64 tog + (1 : Int)))] = [aP 1 0, aI s.2, aU s.3] /\ [ramB m] = [ramB s.1] /\ (iR s.2 (16 : Int)) /\ ∀ (x_1 : Unit), True -> dP Tryz.f62 5 4 [⟨14, [], [1], [], false⟩, xE 13, xE 12, xR 11 0, xF 10 0, xF 9 0, xF 8 0, xE 7, xE 6, xE 5, xR 4 0, xF 3 0, xF 2 0, xF 1 0, xF 0 1] /\ endN (QbL (2 : Int)) [] (Qm 4) (WlS.mk (WkS.mk (Wk.mk th (2 : Int) k key x tog said i v r asks deeds seen oc ov whn) ma ca na za md cd nd zd) m t) (SV.t []) [SB.cells [sI ↑th, sI 3, sI k, sI key, sI x, sI tog, sB true, sI i, sU v, nU 32 r, sS 2 0 5 (List.length asks) ca na, sS 3 0 6 (List.length deeds) cd nd, nU 3 seen, sI oc, sI ov, sI whn] 42, ramB (putF s.1 (Int.toNat s.2) s.3), wkA ma ca za, wkD md cd zd]) (by kernel_rfl) ?_
 have e : IntKind.wrap .i64 (IntKind.wrap .i64 (2 + IntKind.wrap .i64 (2 * (th : Int))) + 1) = ((3 + 2 * th : Nat) : Int) := by rw [QC (x := 2 * (th : Int)) (by omega) (by omega), QC (x := 2 + 2 * (th : Int)) (by omega) (by omega), QC (by omega) (by omega)]; omega
 have e2 : IntKind.wrap .u64 (IntKind.wrap .u64 tog + 1) = tog + 1 := by rw [QaG (x := tog) (by omega) (by omega)]; exact QaG (by omega) (by omega)
 rw [e, e2]
 exact ⟨⟨m, ((3 + 2 * th : Nat) : Int), tog + 1⟩, rfl, rfl, ⟨(by omega : (0 : Int) <= ((3 + 2 * th : Nat) : Int)), (by omega : ((3 + 2 * th : Nat) : Int) < 16)⟩, fun _ _ => ⟨Qd (by kernel_rfl), (), trivial, rfl, rfl⟩⟩
theorem Qm4 : (Con.mem (QbL 3)).holds Tryz.prog 62 := by
 intro w0 S
 refine Qb (Γ := [(87, .mem Xh), (89, .mem XL), (88, .pure Qcn)]) (fun _ => noW) Tryz.func62 rfl (by kernel_rfl) Qf Qc (fun w S' _ _ => .cons (XW w S') (.cons (Qc4 w S') (.cons (Qgd w S') (.nil _ _ _)))) (QbL 3) (fun _ => []) (fun x0 h s x => ⟨rfl, trivial⟩) (fun s ρ w _ _ _ => Qh w _) [] (Qm 4) 400 ?_
 rintro ⟨⟨⟨th, does, k, key, x, tog, said, i, v, r, asks, deeds, seen, oc, ov, whn⟩, ma, ca, na, za, md, cd, nd, zd⟩, m, t⟩ W ⟨h0, h1, h2, h3⟩ -
 refine ⟨rfl, ?_⟩
 dsimp only at h0 h1 h2 h3
 subst h0
 refine Qj (q := ∃ (s : QcO), [aP 1 0, aI 0, aU 0, aU (IntKind.wrap .u64 (IntKind.wrap .u64 (↑th : Int) + (1 : Int)))] = [aP 1 0, aI s.2, aU s.3, aU s.4] /\ [ramB m] = [ramB s.1] /\ (iR s.2 (16 : Int)) /\ ∀ (x_1 : Unit), True -> bif bif s.1 (Int.toNat s.2) == s.3 then false else true then endN (QbL (3 : Int)) [] (Qm 4) (WlS.mk (WkS.mk (Wk.mk th (3 : Int) k key x tog said i v r asks deeds seen oc ov whn) ma ca na za md cd nd zd) m t) (SV.t []) [SB.cells [sI ↑th, sI 17, sI k, sI key, sI x, sI tog, sB said, sI i, sU v, nU 32 r, sS 2 0 5 (List.length asks) ca na, sS 3 0 6 (List.length deeds) cd nd, nU 3 seen, sI oc, sI ov, sI whn] 42, ramB (bif s.1 (Int.toNat s.2) == s.3 then putF s.1 (Int.toNat s.2) s.4 else s.1), wkA ma ca za, wkD md cd zd] else endN (QbL (3 : Int)) [] (Qm 4) (WlS.mk (WkS.mk (Wk.mk th (3 : Int) k key x tog said i v r asks deeds seen oc ov whn) ma ca na za md cd nd zd) m t) (SV.t []) [SB.cells [sI ↑th, sI 4, sI k, sI key, sI x, sI tog, sB said, sI i, sU v, nU 32 r, sS 2 0 5 (List.length asks) ca na, sS 3 0 6 (List.length deeds) cd nd, nU 3 seen, sI oc, sI ov, sI whn] 42, ramB (bif s.1 (Int.toNat s.2) == s.3 then putF s.1 (Int.toNat s.2) s.4 else s.1), wkA ma ca za, wkD md cd zd]) (by kernel_rfl) ?_
 have e2 : IntKind.wrap .u64 (IntKind.wrap .u64 (th : Int) + 1) = (th : Int) + 1 := by rw [QaG (x := (th : Int)) (by omega) (by omega)]; exact QaG (by omega) (by omega)
 rw [e2]
 refine ⟨⟨m, 0, 0, (th : Int) + 1⟩, rfl, rfl, ⟨(by decide : (0 : Int) <= 0), (by decide : (0 : Int) < 16)⟩, fun _ _ => ?_⟩
 show bif bif m 0 == 0 then false else true then _ else _
 refine QhN (fun h => ⟨(), trivial, rfl, ?_⟩) (fun h => ⟨(), trivial, rfl, ?_⟩)
 · have hl : sayP ⟨⟨th, 3, k, key, x, tog, said, i, v, r, asks, deeds, seen, oc, ov, whn⟩, m, t⟩ = ⟨⟨th, 17, k, key, x, tog, said, i, v, r, asks, deeds, seen, oc, ov, whn⟩, m, t⟩ := by
     rw [say3 _ rfl, if_neg h]
   show [_, ramB (bif m 0 == 0 then putF m 0 ((th : Int) + 1) else m), _, _] = [wkC 2 3 (sayP _).w ca na cd nd, ramB (sayP _).m, _, _]
   rw [hl, show (m 0 == 0) = false from beq_eq_false_iff_ne.2 h]; rfl
 · have hl : sayP ⟨⟨th, 3, k, key, x, tog, said, i, v, r, asks, deeds, seen, oc, ov, whn⟩, m, t⟩ = ⟨⟨th, 4, k, key, x, tog, said, i, v, r, asks, deeds, seen, oc, ov, whn⟩, putF m 0 ((th : Int) + 1), t⟩ := by
     rw [say3 _ rfl, if_pos h]
   show [_, ramB (bif m 0 == 0 then putF m 0 ((th : Int) + 1) else m), _, _] = [wkC 2 3 (sayP _).w ca na cd nd, ramB (sayP _).m, _, _]
   rw [hl, show (m 0 == 0) = true from beq_iff_eq.2 h]; rfl
def QR (d : Int) : MCon := dcon WlS (fun s => s.s.w.does = d /\ s.s.w.th < 4 /\ (0 <= s.s.w.v /\ s.s.w.v < 1000000000) /\ (0 <= s.s.w.i /\ s.s.w.i < 32 /\ (d = 9 -> s.s.w.i < 4)) /\ (0 <= s.t.fl /\ s.t.fl < 1000000000) /\ (0 <= s.t.fe /\ s.t.fe < 1000000000)) (fun s => [.c (.p 0 0), .c (.p 1 0)]) (fun s => [wkC 2 3 s.s.w s.s.ca s.s.na s.s.cd s.s.nd, stoB s.t, wkA s.s.ma s.s.ca s.s.za, wkD s.s.md s.s.cd s.s.zd])
 (fun s => .t []) (fun s => [wkC 2 3 (XQ s.z).w s.s.ca s.s.na s.s.cd s.s.nd, stoB (XQ s.z).s, wkA s.s.ma s.s.ca s.s.za, wkD s.s.md s.s.cd s.s.zd]) 4 Qcd
theorem QlJ : (Con.mem (QR 8)).holds Tryz.prog 64 := by
 intro w0 S
 refine Qb (Γ := [(61, .mem Xo), (94, .mem QX), (95, .mem Xe), (90, .pure Xt), (91, .mem Qan)]) (fun _ => noW) Tryz.func64 rfl (by kernel_rfl) Qf Qc (fun w S' _ _ => .cons (XU w S') (.cons (XY w S') (.cons (XZ w S') (.cons (Xw w S') (.cons (QaC w S') (.nil _ _ _)))))) (QR 8) (fun _ => []) (fun x0 h s x => ⟨rfl, trivial⟩) (fun s ρ w _ _ _ => Qh w _) [] (Qm 4) 400 ?_
 rintro ⟨⟨⟨th, does, k, key, x, tog, said, i, v, r, asks, deeds, seen, oc, ov, whn⟩, ma, ca, na, za, md, cd, nd, zd⟩, m, t⟩ W ⟨h0, h1, h2, h3, h4, h5⟩ -
 refine ⟨rfl, ?_⟩
 dsimp only at h0 h1 h2 h3 h4 h5
 subst h0
 refine Qj (q := ((0 : Int) <= IntKind.wrap .u64 (v + (1 : Int)) /\ IntKind.wrap .u64 (v + (1 : Int)) < (18446744073709551616 : Int)) /\ (iR i (32 : Int)) /\ Int.toNat i < 32 /\ ∃ (s : Xf), [aP 1 0, aI (IntKind.wrap .i64 ((↑(Qq (IntKind.wrap .u64 (v + (1 : Int)))) : Int) + i)), aU (r (Int.toNat i))] = [aP 1 0, aI s.2, aU s.3] /\ [stoB t] = [stoB (Xf.s s)] /\ (iR s.2 (72 : Int)) /\ ∀ (x_1 : Unit), True -> dP Tryz.f64 2 4 [⟨21, [], [1], [], false⟩, xR 20 0, xF 19 0, xF 18 0, xF 17 0, xR 16 0, xF 15 0, xF 14 0, xF 13 0, xF 12 0, xE 11, xR 10 0, xF 9 0, xF 8 0, xF 7 0, xE 6, xE 5, xR 4 0, xF 3 0, xF 2 0, xF 1 0, xF 0 1] /\ ∃ (s_1 : WnS), [aP 0 0, aI 32, aI 9] = [aP 0 0, aI s_1.2, aI s_1.3] /\ [SB.cells [sI ↑th, sI 8, sI k, sI key, sI x, sI tog, sB said, sI i, sU v, nU 32 r, sS 2 0 5 (List.length asks) ca na, sS 3 0 6 (List.length deeds) cd nd, nU 3 seen, sI oc, sI ov, sI whn] 42, wkA ma ca za, wkD md cd zd] = [wkC 2 3 (WkS.w (WnS.s s_1)) (WnS.s s_1).3 (WnS.s s_1).4 (WnS.s s_1).7 (WnS.s s_1).8, wkA (WnS.s s_1).2 (WnS.s s_1).3 (WnS.s s_1).5, wkD (WnS.s s_1).6 (WnS.s s_1).7 (WnS.s s_1).9] /\ ((0 : Int) <= (WkS.w (WnS.s s_1)).8 /\ (WkS.w (WnS.s s_1)).8 < (1000 : Int)) /\ ∀ (x_2 : Unit), True -> endN (QR (8 : Int)) [] (Qm 4) (WlS.mk (WkS.mk (Wk.mk th (8 : Int) k key x tog said i v r asks deeds seen oc ov whn) ma ca na za md cd nd zd) m t) (SV.t []) [wkC 2 3 (Wk.next (WkS.w (WnS.s s_1)) (WnS.n s_1) (WnS.d s_1)) (WnS.s s_1).3 (WnS.s s_1).4 (WnS.s s_1).7 (WnS.s s_1).8, stoB (Sto.save (Xf.s s) (Int.toNat (Xf.a s)) (Xf.x s)), wkA (WnS.s s_1).2 (WnS.s s_1).3 (WnS.s s_1).5, wkD (WnS.s s_1).6 (WnS.s s_1).7 (WnS.s s_1).9]) (by kernel_rfl) ?_
 have hv : IntKind.wrap .u64 (v + 1) = v + 1 := QaG (by omega) (by omega)
 have hb : Qq (v + 1) = 8 \/ Qq (v + 1) = 40 := by unfold Qq; omega
 have e : IntKind.wrap .i64 ((Qq (v + 1) : Int) + i) = ((Qq (v + 1) + i.toNat : Nat) : Int) := by rw [QC (by omega) (by omega)]; omega
 have e2 : (0 : Int) <= ((Qq (v + 1) + i.toNat : Nat) : Int) := by omega
 have e3 : ((Qq (v + 1) + i.toNat : Nat) : Int) < 72 := by omega
 have e4 : (0 : Int) <= i := by omega
 have e5 : i < 1000 := by omega
 rw [hv, e]
 exact ⟨⟨by omega, by omega⟩, ⟨by omega, by omega⟩, by omega, ⟨t, ((Qq (v + 1) + i.toNat : Nat) : Int), r i.toNat⟩, rfl, rfl, ⟨e2, e3⟩, fun _ _ => ⟨Qd (by kernel_rfl), ⟨⟨⟨th, 8, k, key, x, tog, said, i, v, r, asks, deeds, seen, oc, ov, whn⟩, ma, ca, na, za, md, cd, nd, zd⟩, 32, 9⟩, rfl, rfl, ⟨e4, e5⟩, fun _ _ => ⟨(), trivial, rfl, rfl⟩⟩⟩
theorem QlI : (Con.mem (QR 9)).holds Tryz.prog 64 := by
 intro w0 S
 refine Qb (Γ := [(61, .mem Xo), (94, .mem QX), (95, .mem Xe), (90, .pure Xt), (91, .mem Qan)]) (fun _ => noW) Tryz.func64 rfl (by kernel_rfl) Qf Qc (fun w S' _ _ => .cons (XU w S') (.cons (XY w S') (.cons (XZ w S') (.cons (Xw w S') (.cons (QaC w S') (.nil _ _ _)))))) (QR 9) (fun _ => []) (fun x0 h s x => ⟨rfl, trivial⟩) (fun s ρ w _ _ _ => Qh w _) [] (Qm 4) 400 ?_
 rintro ⟨⟨⟨th, does, k, key, x, tog, said, i, v, r, asks, deeds, seen, oc, ov, whn⟩, ma, ca, na, za, md, cd, nd, zd⟩, m, t⟩ W ⟨h0, h1, h2, h3, h4, h5⟩ -
 refine ⟨rfl, ?_⟩
 dsimp only at h0 h1 h2 h3 h4 h5
 subst h0
 refine Qj (q := ((0 : Int) <= IntKind.wrap .u64 (v + (1 : Int)) /\ IntKind.wrap .u64 (v + (1 : Int)) < (18446744073709551616 : Int)) /\ (8 : Int) ≠ (0 : Int) /\ ∃ (s : QQ), [aP 1 0, aI ↑th, aI (IntKind.wrap .i64 (IntKind.wrap .i64 (Int.tdiv (↑(Qq (IntKind.wrap .u64 (v + (1 : Int)))) : Int) (8 : Int)) + i))] = [aP 1 0, aI s.2, aI s.3] /\ [stoB t] = [stoB (QQ.s s)] /\ ((iR s.2 (4 : Int)) /\ (iR s.3 (9 : Int)) /\ (0 : Int) <= (QQ.s s).4 /\ (QQ.s s).4 < (1000000000 : Int)) /\ ∀ (x_1 : Unit), True -> dP Tryz.f64 5 4 [⟨17, [], [1], [], false⟩, xE 16, xR 15 0, xF 14 0, xF 13 0, xF 12 0, xE 11, xE 10, xE 9, xR 8 0, xF 7 0, xF 6 0, xF 5 0, xR 4 0, xF 3 0, xF 2 0, xF 1 0, xF 0 1] /\ ∃ (s_1 : WnS), [aP 0 0, aI 4, aI 10] = [aP 0 0, aI s_1.2, aI s_1.3] /\ [SB.cells [sI ↑th, sI 9, sI k, sI key, sI x, sI tog, sB said, sI i, sU v, nU 32 r, sS 2 0 5 (List.length asks) ca na, sS 3 0 6 (List.length deeds) cd nd, nU 3 seen, sI oc, sI ov, sI whn] 42, wkA ma ca za, wkD md cd zd] = [wkC 2 3 (WkS.w (WnS.s s_1)) (WnS.s s_1).3 (WnS.s s_1).4 (WnS.s s_1).7 (WnS.s s_1).8, wkA (WnS.s s_1).2 (WnS.s s_1).3 (WnS.s s_1).5, wkD (WnS.s s_1).6 (WnS.s s_1).7 (WnS.s s_1).9] /\ ((0 : Int) <= (WkS.w (WnS.s s_1)).8 /\ (WkS.w (WnS.s s_1)).8 < (1000 : Int)) /\ ∀ (x_2 : Unit), True -> endN (QR (9 : Int)) [] (Qm 4) (WlS.mk (WkS.mk (Wk.mk th (9 : Int) k key x tog said i v r asks deeds seen oc ov whn) ma ca na za md cd nd zd) m t) (SV.t []) [wkC 2 3 (Wk.next (WkS.w (WnS.s s_1)) (WnS.n s_1) (WnS.d s_1)) (WnS.s s_1).3 (WnS.s s_1).4 (WnS.s s_1).7 (WnS.s s_1).8, stoB (Sto.flush (QQ.s s) (Int.toNat (QQ.t s)) (Int.toNat (QQ.l s))), wkA (WnS.s s_1).2 (WnS.s s_1).3 (WnS.s s_1).5, wkD (WnS.s s_1).6 (WnS.s s_1).7 (WnS.s s_1).9]) (by kernel_rfl) ?_
 have hv : IntKind.wrap .u64 (v + 1) = v + 1 := QaG (by omega) (by omega)
 have hb : Qq (v + 1) = 8 \/ Qq (v + 1) = 40 := by unfold Qq; omega
 have hi := h3.2.2 rfl
 have e : IntKind.wrap .i64 (IntKind.wrap .i64 (Int.tdiv (Qq (v + 1) : Int) 8) + i) = ((Qq (v + 1) / 8 + i.toNat : Nat) : Int) := by
   rw [Int.tdiv_eq_ediv_of_nonneg (by omega), QC (x := (Qq (v + 1) : Int) / 8) (by omega) (by omega), QC (by omega) (by omega)]; omega
 have e0 : (0 : Int) <= th := by omega
 have e1 : (th : Int) < 4 := by omega
 have e2 : (0 : Int) <= ((Qq (v + 1) / 8 + i.toNat : Nat) : Int) := by omega
 have e3 : ((Qq (v + 1) / 8 + i.toNat : Nat) : Int) < 9 := by omega
 have e4 : (0 : Int) <= i := by omega
 have e5 : i < 1000 := by omega
 rw [hv, e]
 exact ⟨⟨by omega, by omega⟩, by decide, ⟨t, th, ((Qq (v + 1) / 8 + i.toNat : Nat) : Int)⟩, rfl, rfl, ⟨⟨e0, e1⟩, ⟨e2, e3⟩, h4⟩, fun _ _ => ⟨Qd (by kernel_rfl), ⟨⟨⟨th, 9, k, key, x, tog, said, i, v, r, asks, deeds, seen, oc, ov, whn⟩, ma, ca, na, za, md, cd, nd, zd⟩, 4, 10⟩, rfl, rfl, ⟨e4, e5⟩, fun _ _ => ⟨(), trivial, rfl, rfl⟩⟩⟩
theorem Qj3 : (Con.mem (QR 10)).holds Tryz.prog 64 := by
 intro w0 S
 refine Qb (Γ := [(61, .mem Xo), (94, .mem QX), (95, .mem Xe), (90, .pure Xt), (91, .mem Qan)]) (fun _ => noW) Tryz.func64 rfl (by kernel_rfl) Qf Qc (fun w S' _ _ => .cons (XU w S') (.cons (XY w S') (.cons (XZ w S') (.cons (Xw w S') (.cons (QaC w S') (.nil _ _ _)))))) (QR 10) (fun _ => []) (fun x0 h s x => ⟨rfl, trivial⟩) (fun s ρ w _ _ _ => Qh w _) [] (Qm 4) 400 ?_
 rintro ⟨⟨⟨th, does, k, key, x, tog, said, i, v, r, asks, deeds, seen, oc, ov, whn⟩, ma, ca, na, za, md, cd, nd, zd⟩, m, t⟩ W ⟨h0, h1, h2, h3, h4, h5⟩ -
 refine ⟨rfl, ?_⟩
 dsimp only at h0 h1 h2 h3 h4 h5
 subst h0
 refine Qj (q := ∃ (s : QW), [aP 1 0, aI ↑th] = [aP 1 0, aI s.2] /\ [stoB t] = [stoB (QW.s s)] /\ ((iR s.2 (4 : Int)) /\ (0 : Int) <= (QW.s s).5 /\ (QW.s s).5 < (1000000000 : Int)) /\ ∀ (x_1 : Unit), True -> endN (QR (10 : Int)) [] (Qm 4) (WlS.mk (WkS.mk (Wk.mk th (10 : Int) k key x tog said i v r asks deeds seen oc ov whn) ma ca na za md cd nd zd) m t) (SV.t []) [SB.cells [sI ↑th, sI 11, sI k, sI key, sI x, sI tog, sB said, sI i, sU v, nU 32 r, sS 2 0 5 (List.length asks) ca na, sS 3 0 6 (List.length deeds) cd nd, nU 3 seen, sI oc, sI ov, sI whn] 42, stoB (Sto.fence (QW.s s) (Int.toNat (QW.t s))), wkA ma ca za, wkD md cd zd]) (by kernel_rfl) ?_
 have e0 : (0 : Int) <= th := by omega
 have e1 : (th : Int) < 4 := by omega
 exact ⟨⟨t, (th : Int)⟩, rfl, rfl, ⟨⟨e0, e1⟩, h5⟩, fun _ _ => ⟨(), trivial, rfl, rfl⟩⟩
theorem Qj2 : (Con.mem (QR 11)).holds Tryz.prog 64 := by
 intro w0 S
 refine Qb (Γ := [(61, .mem Xo), (94, .mem QX), (95, .mem Xe), (90, .pure Xt), (91, .mem Qan)]) (fun _ => noW) Tryz.func64 rfl (by kernel_rfl) Qf Qc (fun w S' _ _ => .cons (XU w S') (.cons (XY w S') (.cons (XZ w S') (.cons (Xw w S') (.cons (QaC w S') (.nil _ _ _)))))) (QR 11) (fun _ => []) (fun x0 h s x => ⟨rfl, trivial⟩) (fun s ρ w _ _ _ => Qh w _) [] (Qm 4) 400 ?_
 rintro ⟨⟨⟨th, does, k, key, x, tog, said, i, v, r, asks, deeds, seen, oc, ov, whn⟩, ma, ca, na, za, md, cd, nd, zd⟩, m, t⟩ W ⟨h0, h1, h2, h3, h4, h5⟩ -
 refine ⟨rfl, ?_⟩
 dsimp only at h0 h1 h2 h3 h4 h5
 subst h0
 refine Qj (q := ∃ (s : Xf), [aP 1 0, aI 0, aU (IntKind.wrap .u64 (v + (1 : Int)))] = [aP 1 0, aI s.2, aU s.3] /\ [stoB t] = [stoB (Xf.s s)] /\ (iR s.2 (72 : Int)) /\ ∀ (x_1 : Unit), True -> endN (QR (11 : Int)) [] (Qm 4) (WlS.mk (WkS.mk (Wk.mk th (11 : Int) k key x tog said i v r asks deeds seen oc ov whn) ma ca na za md cd nd zd) m t) (SV.t []) [SB.cells [sI ↑th, sI 12, sI k, sI key, sI x, sI tog, sB said, sI i, sU v, nU 32 r, sS 2 0 5 (List.length asks) ca na, sS 3 0 6 (List.length deeds) cd nd, nU 3 seen, sI oc, sI ov, sI whn] 42, stoB (Sto.save (Xf.s s) (Int.toNat (Xf.a s)) (Xf.x s)), wkA ma ca za, wkD md cd zd]) (by kernel_rfl) ?_
 have hv : IntKind.wrap .u64 (v + 1) = v + 1 := QaG (by omega) (by omega)
 rw [hv]
 exact ⟨⟨t, 0, v + 1⟩, rfl, rfl, ⟨(by decide : (0 : Int) <= 0), (by decide : (0 : Int) < 72)⟩, fun _ _ => ⟨(), trivial, rfl, rfl⟩⟩
theorem Qj1 : (Con.mem (QR 12)).holds Tryz.prog 64 := by
 intro w0 S
 refine Qb (Γ := [(61, .mem Xo), (94, .mem QX), (95, .mem Xe), (90, .pure Xt), (91, .mem Qan)]) (fun _ => noW) Tryz.func64 rfl (by kernel_rfl) Qf Qc (fun w S' _ _ => .cons (XU w S') (.cons (XY w S') (.cons (XZ w S') (.cons (Xw w S') (.cons (QaC w S') (.nil _ _ _)))))) (QR 12) (fun _ => []) (fun x0 h s x => ⟨rfl, trivial⟩) (fun s ρ w _ _ _ => Qh w _) [] (Qm 4) 400 ?_
 rintro ⟨⟨⟨th, does, k, key, x, tog, said, i, v, r, asks, deeds, seen, oc, ov, whn⟩, ma, ca, na, za, md, cd, nd, zd⟩, m, t⟩ W ⟨h0, h1, h2, h3, h4, h5⟩ -
 refine ⟨rfl, ?_⟩
 dsimp only at h0 h1 h2 h3 h4 h5
 subst h0
 refine Qj (q := ∃ (s : QQ), [aP 1 0, aI ↑th, aI 0] = [aP 1 0, aI s.2, aI s.3] /\ [stoB t] = [stoB (QQ.s s)] /\ ((iR s.2 (4 : Int)) /\ (iR s.3 (9 : Int)) /\ (0 : Int) <= (QQ.s s).4 /\ (QQ.s s).4 < (1000000000 : Int)) /\ ∀ (x_1 : Unit), True -> endN (QR (12 : Int)) [] (Qm 4) (WlS.mk (WkS.mk (Wk.mk th (12 : Int) k key x tog said i v r asks deeds seen oc ov whn) ma ca na za md cd nd zd) m t) (SV.t []) [SB.cells [sI ↑th, sI 13, sI k, sI key, sI x, sI tog, sB said, sI i, sU v, nU 32 r, sS 2 0 5 (List.length asks) ca na, sS 3 0 6 (List.length deeds) cd nd, nU 3 seen, sI oc, sI ov, sI whn] 42, stoB (Sto.flush (QQ.s s) (Int.toNat (QQ.t s)) (Int.toNat (QQ.l s))), wkA ma ca za, wkD md cd zd]) (by kernel_rfl) ?_
 have e0 : (0 : Int) <= th := by omega
 have e1 : (th : Int) < 4 := by omega
 exact ⟨⟨t, th, 0⟩, rfl, rfl, ⟨⟨e0, e1⟩, ⟨(by decide : (0 : Int) <= 0), (by decide : (0 : Int) < 9)⟩, h4⟩, fun _ _ => ⟨(), trivial, rfl, rfl⟩⟩
theorem Qj0 : (Con.mem (QR 13)).holds Tryz.prog 64 := by
 intro w0 S
 refine Qb (Γ := [(61, .mem Xo), (94, .mem QX), (95, .mem Xe), (90, .pure Xt), (91, .mem Qan)]) (fun _ => noW) Tryz.func64 rfl (by kernel_rfl) Qf Qc (fun w S' _ _ => .cons (XU w S') (.cons (XY w S') (.cons (XZ w S') (.cons (Xw w S') (.cons (QaC w S') (.nil _ _ _)))))) (QR 13) (fun _ => []) (fun x0 h s x => ⟨rfl, trivial⟩) (fun s ρ w _ _ _ => Qh w _) [] (Qm 4) 400 ?_
 rintro ⟨⟨⟨th, does, k, key, x, tog, said, i, v, r, asks, deeds, seen, oc, ov, whn⟩, ma, ca, na, za, md, cd, nd, zd⟩, m, t⟩ W ⟨h0, h1, h2, h3, h4, h5⟩ -
 refine ⟨rfl, ?_⟩
 dsimp only at h0 h1 h2 h3 h4 h5
 subst h0
 refine Qj (q := ∃ (s : QW), [aP 1 0, aI ↑th] = [aP 1 0, aI s.2] /\ [stoB t] = [stoB (QW.s s)] /\ ((iR s.2 (4 : Int)) /\ (0 : Int) <= (QW.s s).5 /\ (QW.s s).5 < (1000000000 : Int)) /\ ∀ (x_1 : Unit), True -> endN (QR (13 : Int)) [] (Qm 4) (WlS.mk (WkS.mk (Wk.mk th (13 : Int) k key x tog said i v r asks deeds seen oc ov whn) ma ca na za md cd nd zd) m t) (SV.t []) [SB.cells [sI ↑th, sI 14, sI k, sI key, sI x, sI tog, sB said, sI i, sU v, nU 32 r, sS 2 0 5 (List.length asks) ca na, sS 3 0 6 (List.length deeds) cd nd, nU 3 seen, sI oc, sI ov, sI whn] 42, stoB (Sto.fence (QW.s s) (Int.toNat (QW.t s))), wkA ma ca za, wkD md cd zd]) (by kernel_rfl) ?_
 have e0 : (0 : Int) <= th := by omega
 have e1 : (th : Int) < 4 := by omega
 exact ⟨⟨t, (th : Int)⟩, rfl, rfl, ⟨⟨e0, e1⟩, h5⟩, fun _ _ => ⟨(), trivial, rfl, rfl⟩⟩
def Qba (z : WSt) : Prop := (0 <= z.w.does /\ z.w.does <= 21) /\
 (z.w.does <= 3 -> opOk z.w.k z.w.key z.w.x = true /\ (z.w.tog = 0 \/ z.w.tog = 1)) /\
 (4 <= z.w.does /\ z.w.does <= 7 -> Ql2 z) /\
 (8 <= z.w.does /\ z.w.does <= 13 -> (0 <= z.w.v /\ z.w.v < 1000000000) /\ (0 <= z.w.i /\ z.w.i < 32 /\ (z.w.does = 9 -> z.w.i < 4)) /\ (0 <= z.s.fl /\ z.s.fl < 1000000000) /\ (0 <= z.s.fe /\ z.s.fe < 1000000000)) /\
 (14 <= z.w.does /\ z.w.does <= 16 -> 0 <= z.w.v /\ z.w.v < 1000000000) /\
 (17 <= z.w.does -> (0 <= z.w.v /\ z.w.v < 18446744073709551616) /\ (0 <= z.w.seen 0 /\ z.w.seen 0 < 16) /\ (0 <= z.w.seen 2 /\ z.w.seen 2 <= 9223372036854775807) /\ U64 (z.w.seen 1) /\
   (z.w.does = 21 -> (z.m 1 = z.w.v /\ Qn (z.w.seen 0) z.w.th = z.w.tog) -> Xa (z.w.seen 1 / 4294967296 % 4294967296) (z.w.seen 1 % 4294967296) = true))
def Qpq : MCon where
 σ := WlS
 χ := WkS
 pre s := s.s.w.th < 4 /\ s.s.good /\ Qba s.z
 args s := [.c (.p 0 0), .c (.p 1 0), .c (.p 2 0)]
 mem s := wkM 3 4 s.s s.z
 ok s x := x.w.sim (Qg s.z).1.w /\ x.good
 val s x := sv (.bool (Qg s.z).2)
 mem' s x := wkM 3 4 x ⟨x.w, (Qg s.z).1.m, (Qg s.z).1.s⟩
 k := 3
 len := 5
 det := none
 find := Qcd
def Qk (d : Int) : MCon where
 σ := WlS
 χ := WkS
 pre s := s.s.w.does = d /\ s.s.w.th < 4 /\ s.s.good /\ Qba s.z
 args s := [.c (.p 0 0), .c (.p 1 0), .c (.p 2 0)]
 mem s := wkM 3 4 s.s s.z
 ok s x := x.w.sim (Qg s.z).1.w /\ x.good
 val s x := sv (.bool (Qg s.z).2)
 mem' s x := wkM 3 4 x ⟨x.w, (Qg s.z).1.m, (Qg s.z).1.s⟩
 k := 3
 len := 5
 det := none
 find := Qcd
theorem Qa3 (z : WSt) : (XQ z).w.asks = z.w.asks /\ (XQ z).w.deeds = z.w.deeds := by
 unfold XQ Wk.next
 repeat' split
 all_goals exact ⟨rfl, rfl⟩
theorem Qe0 (z : WSt) : (sayP z).w.asks = z.w.asks /\ (sayP z).w.deeds = z.w.deeds := by
 unfold sayP
 repeat' split
 all_goals exact ⟨rfl, rfl⟩
theorem sayP_s (z : WSt) : (sayP z).s = z.s := by
 unfold sayP
 repeat' split
 all_goals rfl
theorem Qi8 (z : WSt) : (Qay z).m = z.m /\ (Qay z).s = z.s := by
 unfold Qay
 repeat' split
 all_goals exact ⟨rfl, rfl⟩
theorem Qec (z : WSt) : (Qbo z).1.w.asks = z.w.asks /\ (Qbo z).1.w.deeds = z.w.deeds := by
 unfold Qbo
 repeat' split
 all_goals exact ⟨rfl, rfl⟩
theorem QbE (z : WSt) : (Q1 z).1.w.asks = z.w.asks /\ (Q1 z).1.w.deeds = z.w.deeds := by
 unfold Q1
 repeat' split
 all_goals exact ⟨rfl, rfl⟩
theorem QY {w w' : Wk} {ma ca : Nat} {na : Bool} {za : Nat -> Nat -> Int} {md cd : Nat} {nd : Bool} {zd : Nat -> Nat -> Int} (h : (⟨w, ma, ca, na, za, md, cd, nd, zd⟩ : WkS).good) (e : w'.asks = w.asks /\ w'.deeds = w.deeds) : (⟨w', ma, ca, na, za, md, cd, nd, zd⟩ : WkS).good := by
 unfold WkS.good at *
 dsimp only at *
 rw [e.1, e.2]; exact h
theorem Qg7 : (Con.mem (Qk 0)).holds Tryz.prog 24 := by
 intro w0 S
 refine Qb (Γ := []) (fun _ => noW) Tryz.func24 rfl (by kernel_rfl) Qf Qc (fun w S' _ _ => .nil _ _ _) (Qk 0) (fun _ => []) (fun x0 h => by cases h) (fun s ρ w _ _ _ => Qh w _) [] (rpW 3) 400 ?_
 rintro ⟨⟨⟨th, does, k, key, x, tog, said, i, v, r, asks, deeds, seen, oc, ov, whn⟩, ma, ca, na, za, md, cd, nd, zd⟩, m, t⟩ W ⟨h0, h1, h2, h3⟩ -
 refine ⟨rfl, ?_⟩
 dsimp only at h0 h1
 subst h0
 refine Qj (q := endN (Qk (0 : Int)) [] (rpW 3) (WlS.mk (WkS.mk (Wk.mk th (0 : Int) k key x tog said i v r asks deeds seen oc ov whn) ma ca na za md cd nd zd) m t) (SV.o (aB false)) [SB.cells [sI ↑th, sI 0, sI k, sI key, sI x, sI tog, sB said, sI i, sU v, nU 32 r, sS 3 0 5 (List.length asks) ca na, sS 4 0 6 (List.length deeds) cd nd, nU 3 seen, sI oc, sI ov, sI whn] 42, ramB m, stoB (WlS.t (WlS.mk (WkS.mk (Wk.mk th (0 : Int) k key x tog said i v r asks deeds seen oc ov whn) ma ca na za md cd nd zd) m t)), wkA ma ca za, wkD md cd zd]) (by kernel_rfl) ?_
 exact Qi rfl ⟨⟨th, 0, k, key, x, tog, said, i, v, r, asks, deeds, seen, oc, ov, whn⟩, ma, ca, na, za, md, cd, nd, zd⟩ ⟨⟨rfl, rfl⟩, h2⟩ rfl rfl rfl
theorem Qk4 : (Con.mem (Qk 1)).holds Tryz.prog 24 := by
 intro w0 S
 refine Qb (Γ := [(62, .mem (QbL 1))]) (fun _ => noW) Tryz.func24 rfl (by kernel_rfl) Qf Qc (fun w S' _ _ => .cons (Qm6 w S') (.nil _ _ _)) (Qk 1) (fun _ => []) (fun x0 h => by cases h) (fun s ρ w _ _ _ => Qh w _) [] (rpW 3) 400 ?_
 rintro ⟨⟨⟨th, does, k, key, x, tog, said, i, v, r, asks, deeds, seen, oc, ov, whn⟩, ma, ca, na, za, md, cd, nd, zd⟩, m, t⟩ W ⟨h0, h1, h2, h3⟩ -
 refine ⟨rfl, ?_⟩
 dsimp only at h0 h1
 subst h0
 refine Qj (q := ∃ (s : WlS), [aP 0 0, aP 1 0] = [aP 0 0, aP 1 0] /\ [SB.cells [sI ↑th, sI 1, sI k, sI key, sI x, sI tog, sB said, sI i, sU v, nU 32 r, sS 3 0 5 (List.length asks) ca na, sS 4 0 6 (List.length deeds) cd nd, nU 3 seen, sI oc, sI ov, sI whn] 42, ramB m, wkA ma ca za, wkD md cd zd] = [wkC 3 4 (WkS.w (WlS.s s)) (WlS.s s).3 (WlS.s s).4 (WlS.s s).7 (WlS.s s).8, ramB s.2, wkA (WlS.s s).2 (WlS.s s).3 (WlS.s s).5, wkD (WlS.s s).6 (WlS.s s).7 (WlS.s s).9] /\ ((WkS.w (WlS.s s)).2 = (1 : Int) /\ (WkS.w (WlS.s s)).1 < 4 /\ opOk (WkS.w (WlS.s s)).3 (WkS.w (WlS.s s)).4 (WkS.w (WlS.s s)).5 = true /\ ((WkS.w (WlS.s s)).6 = (0 : Int) \/ (WkS.w (WlS.s s)).6 = (1 : Int))) /\ ∀ (x_1 : Unit), True -> endN (Qk (1 : Int)) [] (rpW 3) (WlS.mk (WkS.mk (Wk.mk th (1 : Int) k key x tog said i v r asks deeds seen oc ov whn) ma ca na za md cd nd zd) m t) (SV.o (aB false)) [wkC 3 4 (WSt.w (sayP (WlS.z s))) (WlS.s s).3 (WlS.s s).4 (WlS.s s).7 (WlS.s s).8, ramB (sayP (WlS.z s)).2, stoB (WlS.t (WlS.mk (WkS.mk (Wk.mk th (1 : Int) k key x tog said i v r asks deeds seen oc ov whn) ma ca na za md cd nd zd) m t)), wkA (WlS.s s).2 (WlS.s s).3 (WlS.s s).5, wkD (WlS.s s).6 (WlS.s s).7 (WlS.s s).9]) (by kernel_rfl) ?_
 obtain ⟨-, h5, -, -, -, -⟩ := h3
 have h6 := h5 (by show (1 : Int) <= 3; decide)
 exact ⟨⟨⟨⟨th, 1, k, key, x, tog, said, i, v, r, asks, deeds, seen, oc, ov, whn⟩, ma, ca, na, za, md, cd, nd, zd⟩, m, t⟩, rfl, rfl, ⟨rfl, h1, h6⟩, fun _ _ => Qi rfl ⟨(sayP ⟨⟨th, 1, k, key, x, tog, said, i, v, r, asks, deeds, seen, oc, ov, whn⟩, m, t⟩).w, ma, ca, na, za, md, cd, nd, zd⟩ ⟨⟨rfl, rfl⟩, QY h2 (Qe0 _)⟩ rfl rfl rfl⟩
theorem Qk3 : (Con.mem (Qk 2)).holds Tryz.prog 24 := by
 intro w0 S
 refine Qb (Γ := [(62, .mem (QbL 2))]) (fun _ => noW) Tryz.func24 rfl (by kernel_rfl) Qf Qc (fun w S' _ _ => .cons (Qm5 w S') (.nil _ _ _)) (Qk 2) (fun _ => []) (fun x0 h => by cases h) (fun s ρ w _ _ _ => Qh w _) [] (rpW 3) 400 ?_
 rintro ⟨⟨⟨th, does, k, key, x, tog, said, i, v, r, asks, deeds, seen, oc, ov, whn⟩, ma, ca, na, za, md, cd, nd, zd⟩, m, t⟩ W ⟨h0, h1, h2, h3⟩ -
 refine ⟨rfl, ?_⟩
 dsimp only at h0 h1
 subst h0
 refine Qj (q := ∃ (s : WlS), [aP 0 0, aP 1 0] = [aP 0 0, aP 1 0] /\ [SB.cells [sI ↑th, sI 2, sI k, sI key, sI x, sI tog, sB said, sI i, sU v, nU 32 r, sS 3 0 5 (List.length asks) ca na, sS 4 0 6 (List.length deeds) cd nd, nU 3 seen, sI oc, sI ov, sI whn] 42, ramB m, wkA ma ca za, wkD md cd zd] = [wkC 3 4 (WkS.w (WlS.s s)) (WlS.s s).3 (WlS.s s).4 (WlS.s s).7 (WlS.s s).8, ramB s.2, wkA (WlS.s s).2 (WlS.s s).3 (WlS.s s).5, wkD (WlS.s s).6 (WlS.s s).7 (WlS.s s).9] /\ ((WkS.w (WlS.s s)).2 = (2 : Int) /\ (WkS.w (WlS.s s)).1 < 4 /\ opOk (WkS.w (WlS.s s)).3 (WkS.w (WlS.s s)).4 (WkS.w (WlS.s s)).5 = true /\ ((WkS.w (WlS.s s)).6 = (0 : Int) \/ (WkS.w (WlS.s s)).6 = (1 : Int))) /\ ∀ (x_1 : Unit), True -> endN (Qk (2 : Int)) [] (rpW 3) (WlS.mk (WkS.mk (Wk.mk th (2 : Int) k key x tog said i v r asks deeds seen oc ov whn) ma ca na za md cd nd zd) m t) (SV.o (aB false)) [wkC 3 4 (WSt.w (sayP (WlS.z s))) (WlS.s s).3 (WlS.s s).4 (WlS.s s).7 (WlS.s s).8, ramB (sayP (WlS.z s)).2, stoB (WlS.t (WlS.mk (WkS.mk (Wk.mk th (2 : Int) k key x tog said i v r asks deeds seen oc ov whn) ma ca na za md cd nd zd) m t)), wkA (WlS.s s).2 (WlS.s s).3 (WlS.s s).5, wkD (WlS.s s).6 (WlS.s s).7 (WlS.s s).9]) (by kernel_rfl) ?_
 obtain ⟨-, h5, -, -, -, -⟩ := h3
 have h6 := h5 (by show (2 : Int) <= 3; decide)
 exact ⟨⟨⟨⟨th, 2, k, key, x, tog, said, i, v, r, asks, deeds, seen, oc, ov, whn⟩, ma, ca, na, za, md, cd, nd, zd⟩, m, t⟩, rfl, rfl, ⟨rfl, h1, h6⟩, fun _ _ => Qi rfl ⟨(sayP ⟨⟨th, 2, k, key, x, tog, said, i, v, r, asks, deeds, seen, oc, ov, whn⟩, m, t⟩).w, ma, ca, na, za, md, cd, nd, zd⟩ ⟨⟨rfl, rfl⟩, QY h2 (Qe0 _)⟩ rfl rfl rfl⟩
theorem Qk2 : (Con.mem (Qk 3)).holds Tryz.prog 24 := by
 intro w0 S
 refine Qb (Γ := [(62, .mem (QbL 3))]) (fun _ => noW) Tryz.func24 rfl (by kernel_rfl) Qf Qc (fun w S' _ _ => .cons (Qm4 w S') (.nil _ _ _)) (Qk 3) (fun _ => []) (fun x0 h => by cases h) (fun s ρ w _ _ _ => Qh w _) [] (rpW 3) 400 ?_
 rintro ⟨⟨⟨th, does, k, key, x, tog, said, i, v, r, asks, deeds, seen, oc, ov, whn⟩, ma, ca, na, za, md, cd, nd, zd⟩, m, t⟩ W ⟨h0, h1, h2, h3⟩ -
 refine ⟨rfl, ?_⟩
 dsimp only at h0 h1
 subst h0
 refine Qj (q := ∃ (s : WlS), [aP 0 0, aP 1 0] = [aP 0 0, aP 1 0] /\ [SB.cells [sI ↑th, sI 3, sI k, sI key, sI x, sI tog, sB said, sI i, sU v, nU 32 r, sS 3 0 5 (List.length asks) ca na, sS 4 0 6 (List.length deeds) cd nd, nU 3 seen, sI oc, sI ov, sI whn] 42, ramB m, wkA ma ca za, wkD md cd zd] = [wkC 3 4 (WkS.w (WlS.s s)) (WlS.s s).3 (WlS.s s).4 (WlS.s s).7 (WlS.s s).8, ramB s.2, wkA (WlS.s s).2 (WlS.s s).3 (WlS.s s).5, wkD (WlS.s s).6 (WlS.s s).7 (WlS.s s).9] /\ ((WkS.w (WlS.s s)).2 = (3 : Int) /\ (WkS.w (WlS.s s)).1 < 4 /\ opOk (WkS.w (WlS.s s)).3 (WkS.w (WlS.s s)).4 (WkS.w (WlS.s s)).5 = true /\ ((WkS.w (WlS.s s)).6 = (0 : Int) \/ (WkS.w (WlS.s s)).6 = (1 : Int))) /\ ∀ (x_1 : Unit), True -> endN (Qk (3 : Int)) [] (rpW 3) (WlS.mk (WkS.mk (Wk.mk th (3 : Int) k key x tog said i v r asks deeds seen oc ov whn) ma ca na za md cd nd zd) m t) (SV.o (aB false)) [wkC 3 4 (WSt.w (sayP (WlS.z s))) (WlS.s s).3 (WlS.s s).4 (WlS.s s).7 (WlS.s s).8, ramB (sayP (WlS.z s)).2, stoB (WlS.t (WlS.mk (WkS.mk (Wk.mk th (3 : Int) k key x tog said i v r asks deeds seen oc ov whn) ma ca na za md cd nd zd) m t)), wkA (WlS.s s).2 (WlS.s s).3 (WlS.s s).5, wkD (WlS.s s).6 (WlS.s s).7 (WlS.s s).9]) (by kernel_rfl) ?_
 obtain ⟨-, h5, -, -, -, -⟩ := h3
 have h6 := h5 (by show (3 : Int) <= 3; decide)
 exact ⟨⟨⟨⟨th, 3, k, key, x, tog, said, i, v, r, asks, deeds, seen, oc, ov, whn⟩, ma, ca, na, za, md, cd, nd, zd⟩, m, t⟩, rfl, rfl, ⟨rfl, h1, h6⟩, fun _ _ => Qi rfl ⟨(sayP ⟨⟨th, 3, k, key, x, tog, said, i, v, r, asks, deeds, seen, oc, ov, whn⟩, m, t⟩).w, ma, ca, na, za, md, cd, nd, zd⟩ ⟨⟨rfl, rfl⟩, QY h2 (Qe0 _)⟩ rfl rfl (l5 rfl rfl (congrArg stoB (sayP_s ⟨⟨th, 3, k, key, x, tog, said, i, v, r, asks, deeds, seen, oc, ov, whn⟩, m, t⟩).symm) rfl rfl)⟩
theorem Qk1 : (Con.mem (Qk 4)).holds Tryz.prog 24 := by
 intro w0 S
 refine Qb (Γ := [(63, .mem (XB 4))]) (fun _ => noW) Tryz.func24 rfl (by kernel_rfl) Qf Qc (fun w S' _ _ => .cons (Ql6 w S') (.nil _ _ _)) (Qk 4) (fun _ => []) (fun x0 h => by cases h) (fun s ρ w _ _ _ => Qh w _) [] (rpW 3) 400 ?_
 rintro ⟨⟨⟨th, does, k, key, x, tog, said, i, v, r, asks, deeds, seen, oc, ov, whn⟩, ma, ca, na, za, md, cd, nd, zd⟩, m, t⟩ W ⟨h0, h1, h2, h3⟩ -
 refine ⟨rfl, ?_⟩
 dsimp only at h0 h1
 subst h0
 refine Qj (q := ∃ (s : WlS), [aP 0 0, aP 1 0, aP 2 0] = [aP 0 0, aP 1 0, aP 2 0] /\ [SB.cells [sI ↑th, sI 4, sI k, sI key, sI x, sI tog, sB said, sI i, sU v, nU 32 r, sS 3 0 5 (List.length asks) ca na, sS 4 0 6 (List.length deeds) cd nd, nU 3 seen, sI oc, sI ov, sI whn] 42, ramB m, stoB (WlS.t (WlS.mk (WkS.mk (Wk.mk th (4 : Int) k key x tog said i v r asks deeds seen oc ov whn) ma ca na za md cd nd zd) m t)), wkA ma ca za, wkD md cd zd] = [wkC 3 4 (WkS.w (WlS.s s)) (WlS.s s).3 (WlS.s s).4 (WlS.s s).7 (WlS.s s).8, ramB s.2, stoB (WlS.t s), wkA (WlS.s s).2 (WlS.s s).3 (WlS.s s).5, wkD (WlS.s s).6 (WlS.s s).7 (WlS.s s).9] /\ ((WkS.w (WlS.s s)).2 = (4 : Int) /\ (WkS.w (WlS.s s)).1 < 4 /\ ((List.length (WkS.w (WlS.s s)).11 <= (WlS.s s).2 /\ (WlS.s s).2 <= (WlS.s s).3) /\ IsA (WlS.s s).5 (WkS.w (WlS.s s)).11 /\ (List.length (WkS.w (WlS.s s)).12 <= (WlS.s s).6 /\ (WlS.s s).6 <= (WlS.s s).7) /\ IsD (WlS.s s).9 (WkS.w (WlS.s s)).12) /\ (0 : Int) <= (WkS.w (WlS.s s)).8 /\ (WkS.w (WlS.s s)).8 < (32 : Int) /\ ((0 : Int) <= (WkS.w (WlS.s s)).9 /\ (WkS.w (WlS.s s)).9 < (18446744073709551616 : Int)) /\ ((WkS.w (WlS.s s)).2 = (6 : Int) -> (WkS.w (WlS.s s)).8 < (4 : Int) /\ ((0 : Int) <= (WkS.w (WlS.s s)).10 26 /\ (WkS.w (WlS.s s)).10 26 < (16 : Int)) /\ ((0 : Int) <= s.2 (3 + 2 * Int.toNat (WkS.w (WlS.s s)).8) /\ s.2 (3 + 2 * Int.toNat (WkS.w (WlS.s s)).8) <= (2 : Int)) /\ Wk.allOK (WlS.s s).1) /\ ((WkS.w (WlS.s s)).2 = (7 : Int) -> (WkS.w (WlS.s s)).8 < (4 : Int) /\ ((0 : Int) <= s.2 (2 + 2 * Int.toNat (WkS.w (WlS.s s)).8) /\ s.2 (2 + 2 * Int.toNat (WkS.w (WlS.s s)).8) < (18446744073709551616 : Int)) /\ (∃ (l : List Ask), ∃ (a : Ask), (WkS.w (WlS.s s)).11 = List.append l [a]) /\ Wk.allOK (Wk.mk (WkS.w (WlS.s s)).1 (WkS.w (WlS.s s)).2 (WkS.w (WlS.s s)).3 (WkS.w (WlS.s s)).4 (WkS.w (WlS.s s)).5 (WkS.w (WlS.s s)).6 (WkS.w (WlS.s s)).7 (WkS.w (WlS.s s)).8 (WkS.w (WlS.s s)).9 (WkS.w (WlS.s s)).10 (Xq (WkS.w (WlS.s s)).11 (s.2 (2 + 2 * Int.toNat (WkS.w (WlS.s s)).8) / (281474976710656 : Int) % (65536 : Int)) (s.2 (2 + 2 * Int.toNat (WkS.w (WlS.s s)).8) / (4294967296 : Int) % (65536 : Int)) (s.2 (2 + 2 * Int.toNat (WkS.w (WlS.s s)).8) % (4294967296 : Int))) (WkS.w (WlS.s s)).12 (WkS.w (WlS.s s)).13 (WkS.w (WlS.s s)).14 (WkS.w (WlS.s s)).15 (WkS.w (WlS.s s)).16))) /\ ∀ (x_1 : WkS), Wk.sim x_1.1 (Qay (WlS.z s)).1 /\ (List.length (WkS.w x_1).11 <= x_1.2 /\ x_1.2 <= x_1.3) /\ IsA x_1.5 (WkS.w x_1).11 /\ (List.length (WkS.w x_1).12 <= x_1.6 /\ x_1.6 <= x_1.7) /\ IsD x_1.9 (WkS.w x_1).12 -> endN (Qk (4 : Int)) [] (rpW 3) (WlS.mk (WkS.mk (Wk.mk th (4 : Int) k key x tog said i v r asks deeds seen oc ov whn) ma ca na za md cd nd zd) m t) (SV.o (aB false)) [wkC 5 6 (WkS.w x_1) x_1.3 x_1.4 x_1.7 x_1.8, ramB s.2, stoB (WlS.t s), SB.gone, SB.gone, wkA x_1.2 x_1.3 x_1.5, wkD x_1.6 x_1.7 x_1.9]) (by kernel_rfl) ?_
 obtain ⟨-, -, h5, -⟩ := h3
 refine ⟨⟨⟨⟨th, 4, k, key, x, tog, said, i, v, r, asks, deeds, seen, oc, ov, whn⟩, ma, ca, na, za, md, cd, nd, zd⟩, m, t⟩, rfl, rfl, ⟨rfl, h1, h2, h5 ⟨by show (4 : Int) <= 4; decide, by show (4 : Int) <= 7; decide⟩⟩, ?_⟩
 rintro ⟨w2, ma2, ca2, na2, za2, md2, cd2, nd2, zd2⟩ ⟨hs, hg2⟩
 exact Qi rfl ⟨w2, ma2, ca2, na2, za2, md2, cd2, nd2, zd2⟩ ⟨hs, hg2⟩ rfl rfl rfl
theorem Qk0 : (Con.mem (Qk 5)).holds Tryz.prog 24 := by
 intro w0 S
 refine Qb (Γ := [(63, .mem (XB 5))]) (fun _ => noW) Tryz.func24 rfl (by kernel_rfl) Qf Qc (fun w S' _ _ => .cons (Ql5 w S') (.nil _ _ _)) (Qk 5) (fun _ => []) (fun x0 h => by cases h) (fun s ρ w _ _ _ => Qh w _) [] (rpW 3) 400 ?_
 rintro ⟨⟨⟨th, does, k, key, x, tog, said, i, v, r, asks, deeds, seen, oc, ov, whn⟩, ma, ca, na, za, md, cd, nd, zd⟩, m, t⟩ W ⟨h0, h1, h2, h3⟩ -
 refine ⟨rfl, ?_⟩
 dsimp only at h0 h1
 subst h0
 refine Qj (q := ∃ (s : WlS), [aP 0 0, aP 1 0, aP 2 0] = [aP 0 0, aP 1 0, aP 2 0] /\ [SB.cells [sI ↑th, sI 5, sI k, sI key, sI x, sI tog, sB said, sI i, sU v, nU 32 r, sS 3 0 5 (List.length asks) ca na, sS 4 0 6 (List.length deeds) cd nd, nU 3 seen, sI oc, sI ov, sI whn] 42, ramB m, stoB (WlS.t (WlS.mk (WkS.mk (Wk.mk th (5 : Int) k key x tog said i v r asks deeds seen oc ov whn) ma ca na za md cd nd zd) m t)), wkA ma ca za, wkD md cd zd] = [wkC 3 4 (WkS.w (WlS.s s)) (WlS.s s).3 (WlS.s s).4 (WlS.s s).7 (WlS.s s).8, ramB s.2, stoB (WlS.t s), wkA (WlS.s s).2 (WlS.s s).3 (WlS.s s).5, wkD (WlS.s s).6 (WlS.s s).7 (WlS.s s).9] /\ ((WkS.w (WlS.s s)).2 = (5 : Int) /\ (WkS.w (WlS.s s)).1 < 4 /\ ((List.length (WkS.w (WlS.s s)).11 <= (WlS.s s).2 /\ (WlS.s s).2 <= (WlS.s s).3) /\ IsA (WlS.s s).5 (WkS.w (WlS.s s)).11 /\ (List.length (WkS.w (WlS.s s)).12 <= (WlS.s s).6 /\ (WlS.s s).6 <= (WlS.s s).7) /\ IsD (WlS.s s).9 (WkS.w (WlS.s s)).12) /\ (0 : Int) <= (WkS.w (WlS.s s)).8 /\ (WkS.w (WlS.s s)).8 < (32 : Int) /\ ((0 : Int) <= (WkS.w (WlS.s s)).9 /\ (WkS.w (WlS.s s)).9 < (18446744073709551616 : Int)) /\ ((WkS.w (WlS.s s)).2 = (6 : Int) -> (WkS.w (WlS.s s)).8 < (4 : Int) /\ ((0 : Int) <= (WkS.w (WlS.s s)).10 26 /\ (WkS.w (WlS.s s)).10 26 < (16 : Int)) /\ ((0 : Int) <= s.2 (3 + 2 * Int.toNat (WkS.w (WlS.s s)).8) /\ s.2 (3 + 2 * Int.toNat (WkS.w (WlS.s s)).8) <= (2 : Int)) /\ Wk.allOK (WlS.s s).1) /\ ((WkS.w (WlS.s s)).2 = (7 : Int) -> (WkS.w (WlS.s s)).8 < (4 : Int) /\ ((0 : Int) <= s.2 (2 + 2 * Int.toNat (WkS.w (WlS.s s)).8) /\ s.2 (2 + 2 * Int.toNat (WkS.w (WlS.s s)).8) < (18446744073709551616 : Int)) /\ (∃ (l : List Ask), ∃ (a : Ask), (WkS.w (WlS.s s)).11 = List.append l [a]) /\ Wk.allOK (Wk.mk (WkS.w (WlS.s s)).1 (WkS.w (WlS.s s)).2 (WkS.w (WlS.s s)).3 (WkS.w (WlS.s s)).4 (WkS.w (WlS.s s)).5 (WkS.w (WlS.s s)).6 (WkS.w (WlS.s s)).7 (WkS.w (WlS.s s)).8 (WkS.w (WlS.s s)).9 (WkS.w (WlS.s s)).10 (Xq (WkS.w (WlS.s s)).11 (s.2 (2 + 2 * Int.toNat (WkS.w (WlS.s s)).8) / (281474976710656 : Int) % (65536 : Int)) (s.2 (2 + 2 * Int.toNat (WkS.w (WlS.s s)).8) / (4294967296 : Int) % (65536 : Int)) (s.2 (2 + 2 * Int.toNat (WkS.w (WlS.s s)).8) % (4294967296 : Int))) (WkS.w (WlS.s s)).12 (WkS.w (WlS.s s)).13 (WkS.w (WlS.s s)).14 (WkS.w (WlS.s s)).15 (WkS.w (WlS.s s)).16))) /\ ∀ (x_1 : WkS), Wk.sim x_1.1 (Qay (WlS.z s)).1 /\ (List.length (WkS.w x_1).11 <= x_1.2 /\ x_1.2 <= x_1.3) /\ IsA x_1.5 (WkS.w x_1).11 /\ (List.length (WkS.w x_1).12 <= x_1.6 /\ x_1.6 <= x_1.7) /\ IsD x_1.9 (WkS.w x_1).12 -> endN (Qk (5 : Int)) [] (rpW 3) (WlS.mk (WkS.mk (Wk.mk th (5 : Int) k key x tog said i v r asks deeds seen oc ov whn) ma ca na za md cd nd zd) m t) (SV.o (aB false)) [wkC 5 6 (WkS.w x_1) x_1.3 x_1.4 x_1.7 x_1.8, ramB s.2, stoB (WlS.t s), SB.gone, SB.gone, wkA x_1.2 x_1.3 x_1.5, wkD x_1.6 x_1.7 x_1.9]) (by kernel_rfl) ?_
 obtain ⟨-, -, h5, -⟩ := h3
 refine ⟨⟨⟨⟨th, 5, k, key, x, tog, said, i, v, r, asks, deeds, seen, oc, ov, whn⟩, ma, ca, na, za, md, cd, nd, zd⟩, m, t⟩, rfl, rfl, ⟨rfl, h1, h2, h5 ⟨by show (4 : Int) <= 5; decide, by show (5 : Int) <= 7; decide⟩⟩, ?_⟩
 rintro ⟨w2, ma2, ca2, na2, za2, md2, cd2, nd2, zd2⟩ ⟨hs, hg2⟩
 exact Qi rfl ⟨w2, ma2, ca2, na2, za2, md2, cd2, nd2, zd2⟩ ⟨hs, hg2⟩ rfl rfl rfl
theorem QkZ : (Con.mem (Qk 6)).holds Tryz.prog 24 := by
 intro w0 S
 refine Qb (Γ := [(63, .mem (XB 6))]) (fun _ => noW) Tryz.func24 rfl (by kernel_rfl) Qf Qc (fun w S' _ _ => .cons (Ql4 w S') (.nil _ _ _)) (Qk 6) (fun _ => []) (fun x0 h => by cases h) (fun s ρ w _ _ _ => Qh w _) [] (rpW 3) 400 ?_
 rintro ⟨⟨⟨th, does, k, key, x, tog, said, i, v, r, asks, deeds, seen, oc, ov, whn⟩, ma, ca, na, za, md, cd, nd, zd⟩, m, t⟩ W ⟨h0, h1, h2, h3⟩ -
 refine ⟨rfl, ?_⟩
 dsimp only at h0 h1
 subst h0
 refine Qj (q := ∃ (s : WlS), [aP 0 0, aP 1 0, aP 2 0] = [aP 0 0, aP 1 0, aP 2 0] /\ [SB.cells [sI ↑th, sI 6, sI k, sI key, sI x, sI tog, sB said, sI i, sU v, nU 32 r, sS 3 0 5 (List.length asks) ca na, sS 4 0 6 (List.length deeds) cd nd, nU 3 seen, sI oc, sI ov, sI whn] 42, ramB m, stoB (WlS.t (WlS.mk (WkS.mk (Wk.mk th (6 : Int) k key x tog said i v r asks deeds seen oc ov whn) ma ca na za md cd nd zd) m t)), wkA ma ca za, wkD md cd zd] = [wkC 3 4 (WkS.w (WlS.s s)) (WlS.s s).3 (WlS.s s).4 (WlS.s s).7 (WlS.s s).8, ramB s.2, stoB (WlS.t s), wkA (WlS.s s).2 (WlS.s s).3 (WlS.s s).5, wkD (WlS.s s).6 (WlS.s s).7 (WlS.s s).9] /\ ((WkS.w (WlS.s s)).2 = (6 : Int) /\ (WkS.w (WlS.s s)).1 < 4 /\ ((List.length (WkS.w (WlS.s s)).11 <= (WlS.s s).2 /\ (WlS.s s).2 <= (WlS.s s).3) /\ IsA (WlS.s s).5 (WkS.w (WlS.s s)).11 /\ (List.length (WkS.w (WlS.s s)).12 <= (WlS.s s).6 /\ (WlS.s s).6 <= (WlS.s s).7) /\ IsD (WlS.s s).9 (WkS.w (WlS.s s)).12) /\ (0 : Int) <= (WkS.w (WlS.s s)).8 /\ (WkS.w (WlS.s s)).8 < (32 : Int) /\ ((0 : Int) <= (WkS.w (WlS.s s)).9 /\ (WkS.w (WlS.s s)).9 < (18446744073709551616 : Int)) /\ ((WkS.w (WlS.s s)).2 = (6 : Int) -> (WkS.w (WlS.s s)).8 < (4 : Int) /\ ((0 : Int) <= (WkS.w (WlS.s s)).10 26 /\ (WkS.w (WlS.s s)).10 26 < (16 : Int)) /\ ((0 : Int) <= s.2 (3 + 2 * Int.toNat (WkS.w (WlS.s s)).8) /\ s.2 (3 + 2 * Int.toNat (WkS.w (WlS.s s)).8) <= (2 : Int)) /\ Wk.allOK (WlS.s s).1) /\ ((WkS.w (WlS.s s)).2 = (7 : Int) -> (WkS.w (WlS.s s)).8 < (4 : Int) /\ ((0 : Int) <= s.2 (2 + 2 * Int.toNat (WkS.w (WlS.s s)).8) /\ s.2 (2 + 2 * Int.toNat (WkS.w (WlS.s s)).8) < (18446744073709551616 : Int)) /\ (∃ (l : List Ask), ∃ (a : Ask), (WkS.w (WlS.s s)).11 = List.append l [a]) /\ Wk.allOK (Wk.mk (WkS.w (WlS.s s)).1 (WkS.w (WlS.s s)).2 (WkS.w (WlS.s s)).3 (WkS.w (WlS.s s)).4 (WkS.w (WlS.s s)).5 (WkS.w (WlS.s s)).6 (WkS.w (WlS.s s)).7 (WkS.w (WlS.s s)).8 (WkS.w (WlS.s s)).9 (WkS.w (WlS.s s)).10 (Xq (WkS.w (WlS.s s)).11 (s.2 (2 + 2 * Int.toNat (WkS.w (WlS.s s)).8) / (281474976710656 : Int) % (65536 : Int)) (s.2 (2 + 2 * Int.toNat (WkS.w (WlS.s s)).8) / (4294967296 : Int) % (65536 : Int)) (s.2 (2 + 2 * Int.toNat (WkS.w (WlS.s s)).8) % (4294967296 : Int))) (WkS.w (WlS.s s)).12 (WkS.w (WlS.s s)).13 (WkS.w (WlS.s s)).14 (WkS.w (WlS.s s)).15 (WkS.w (WlS.s s)).16))) /\ ∀ (x_1 : WkS), Wk.sim x_1.1 (Qay (WlS.z s)).1 /\ (List.length (WkS.w x_1).11 <= x_1.2 /\ x_1.2 <= x_1.3) /\ IsA x_1.5 (WkS.w x_1).11 /\ (List.length (WkS.w x_1).12 <= x_1.6 /\ x_1.6 <= x_1.7) /\ IsD x_1.9 (WkS.w x_1).12 -> endN (Qk (6 : Int)) [] (rpW 3) (WlS.mk (WkS.mk (Wk.mk th (6 : Int) k key x tog said i v r asks deeds seen oc ov whn) ma ca na za md cd nd zd) m t) (SV.o (aB false)) [wkC 5 6 (WkS.w x_1) x_1.3 x_1.4 x_1.7 x_1.8, ramB s.2, stoB (WlS.t s), SB.gone, SB.gone, wkA x_1.2 x_1.3 x_1.5, wkD x_1.6 x_1.7 x_1.9]) (by kernel_rfl) ?_
 obtain ⟨-, -, h5, -⟩ := h3
 refine ⟨⟨⟨⟨th, 6, k, key, x, tog, said, i, v, r, asks, deeds, seen, oc, ov, whn⟩, ma, ca, na, za, md, cd, nd, zd⟩, m, t⟩, rfl, rfl, ⟨rfl, h1, h2, h5 ⟨by show (4 : Int) <= 6; decide, by show (6 : Int) <= 7; decide⟩⟩, ?_⟩
 rintro ⟨w2, ma2, ca2, na2, za2, md2, cd2, nd2, zd2⟩ ⟨hs, hg2⟩
 exact Qi rfl ⟨w2, ma2, ca2, na2, za2, md2, cd2, nd2, zd2⟩ ⟨hs, hg2⟩ rfl rfl (l5 rfl (congrArg ramB (Qi8 ⟨⟨th, 6, k, key, x, tog, said, i, v, r, asks, deeds, seen, oc, ov, whn⟩, m, t⟩).1.symm) (congrArg stoB (Qi8 ⟨⟨th, 6, k, key, x, tog, said, i, v, r, asks, deeds, seen, oc, ov, whn⟩, m, t⟩).2.symm) rfl rfl)
theorem QkY : (Con.mem (Qk 7)).holds Tryz.prog 24 := by
 intro w0 S
 refine Qb (Γ := [(63, .mem (XB 7))]) (fun _ => noW) Tryz.func24 rfl (by kernel_rfl) Qf Qc (fun w S' _ _ => .cons (Ql3 w S') (.nil _ _ _)) (Qk 7) (fun _ => []) (fun x0 h => by cases h) (fun s ρ w _ _ _ => Qh w _) [] (rpW 3) 400 ?_
 rintro ⟨⟨⟨th, does, k, key, x, tog, said, i, v, r, asks, deeds, seen, oc, ov, whn⟩, ma, ca, na, za, md, cd, nd, zd⟩, m, t⟩ W ⟨h0, h1, h2, h3⟩ -
 refine ⟨rfl, ?_⟩
 dsimp only at h0 h1
 subst h0
 refine Qj (q := ∃ (s : WlS), [aP 0 0, aP 1 0, aP 2 0] = [aP 0 0, aP 1 0, aP 2 0] /\ [SB.cells [sI ↑th, sI 7, sI k, sI key, sI x, sI tog, sB said, sI i, sU v, nU 32 r, sS 3 0 5 (List.length asks) ca na, sS 4 0 6 (List.length deeds) cd nd, nU 3 seen, sI oc, sI ov, sI whn] 42, ramB m, stoB (WlS.t (WlS.mk (WkS.mk (Wk.mk th (7 : Int) k key x tog said i v r asks deeds seen oc ov whn) ma ca na za md cd nd zd) m t)), wkA ma ca za, wkD md cd zd] = [wkC 3 4 (WkS.w (WlS.s s)) (WlS.s s).3 (WlS.s s).4 (WlS.s s).7 (WlS.s s).8, ramB s.2, stoB (WlS.t s), wkA (WlS.s s).2 (WlS.s s).3 (WlS.s s).5, wkD (WlS.s s).6 (WlS.s s).7 (WlS.s s).9] /\ ((WkS.w (WlS.s s)).2 = (7 : Int) /\ (WkS.w (WlS.s s)).1 < 4 /\ ((List.length (WkS.w (WlS.s s)).11 <= (WlS.s s).2 /\ (WlS.s s).2 <= (WlS.s s).3) /\ IsA (WlS.s s).5 (WkS.w (WlS.s s)).11 /\ (List.length (WkS.w (WlS.s s)).12 <= (WlS.s s).6 /\ (WlS.s s).6 <= (WlS.s s).7) /\ IsD (WlS.s s).9 (WkS.w (WlS.s s)).12) /\ (0 : Int) <= (WkS.w (WlS.s s)).8 /\ (WkS.w (WlS.s s)).8 < (32 : Int) /\ ((0 : Int) <= (WkS.w (WlS.s s)).9 /\ (WkS.w (WlS.s s)).9 < (18446744073709551616 : Int)) /\ ((WkS.w (WlS.s s)).2 = (6 : Int) -> (WkS.w (WlS.s s)).8 < (4 : Int) /\ ((0 : Int) <= (WkS.w (WlS.s s)).10 26 /\ (WkS.w (WlS.s s)).10 26 < (16 : Int)) /\ ((0 : Int) <= s.2 (3 + 2 * Int.toNat (WkS.w (WlS.s s)).8) /\ s.2 (3 + 2 * Int.toNat (WkS.w (WlS.s s)).8) <= (2 : Int)) /\ Wk.allOK (WlS.s s).1) /\ ((WkS.w (WlS.s s)).2 = (7 : Int) -> (WkS.w (WlS.s s)).8 < (4 : Int) /\ ((0 : Int) <= s.2 (2 + 2 * Int.toNat (WkS.w (WlS.s s)).8) /\ s.2 (2 + 2 * Int.toNat (WkS.w (WlS.s s)).8) < (18446744073709551616 : Int)) /\ (∃ (l : List Ask), ∃ (a : Ask), (WkS.w (WlS.s s)).11 = List.append l [a]) /\ Wk.allOK (Wk.mk (WkS.w (WlS.s s)).1 (WkS.w (WlS.s s)).2 (WkS.w (WlS.s s)).3 (WkS.w (WlS.s s)).4 (WkS.w (WlS.s s)).5 (WkS.w (WlS.s s)).6 (WkS.w (WlS.s s)).7 (WkS.w (WlS.s s)).8 (WkS.w (WlS.s s)).9 (WkS.w (WlS.s s)).10 (Xq (WkS.w (WlS.s s)).11 (s.2 (2 + 2 * Int.toNat (WkS.w (WlS.s s)).8) / (281474976710656 : Int) % (65536 : Int)) (s.2 (2 + 2 * Int.toNat (WkS.w (WlS.s s)).8) / (4294967296 : Int) % (65536 : Int)) (s.2 (2 + 2 * Int.toNat (WkS.w (WlS.s s)).8) % (4294967296 : Int))) (WkS.w (WlS.s s)).12 (WkS.w (WlS.s s)).13 (WkS.w (WlS.s s)).14 (WkS.w (WlS.s s)).15 (WkS.w (WlS.s s)).16))) /\ ∀ (x_1 : WkS), Wk.sim x_1.1 (Qay (WlS.z s)).1 /\ (List.length (WkS.w x_1).11 <= x_1.2 /\ x_1.2 <= x_1.3) /\ IsA x_1.5 (WkS.w x_1).11 /\ (List.length (WkS.w x_1).12 <= x_1.6 /\ x_1.6 <= x_1.7) /\ IsD x_1.9 (WkS.w x_1).12 -> endN (Qk (7 : Int)) [] (rpW 3) (WlS.mk (WkS.mk (Wk.mk th (7 : Int) k key x tog said i v r asks deeds seen oc ov whn) ma ca na za md cd nd zd) m t) (SV.o (aB false)) [wkC 5 6 (WkS.w x_1) x_1.3 x_1.4 x_1.7 x_1.8, ramB s.2, stoB (WlS.t s), SB.gone, SB.gone, wkA x_1.2 x_1.3 x_1.5, wkD x_1.6 x_1.7 x_1.9]) (by kernel_rfl) ?_
 obtain ⟨-, -, h5, -⟩ := h3
 refine ⟨⟨⟨⟨th, 7, k, key, x, tog, said, i, v, r, asks, deeds, seen, oc, ov, whn⟩, ma, ca, na, za, md, cd, nd, zd⟩, m, t⟩, rfl, rfl, ⟨rfl, h1, h2, h5 ⟨by show (4 : Int) <= 7; decide, by show (7 : Int) <= 7; decide⟩⟩, ?_⟩
 rintro ⟨w2, ma2, ca2, na2, za2, md2, cd2, nd2, zd2⟩ ⟨hs, hg2⟩
 exact Qi rfl ⟨w2, ma2, ca2, na2, za2, md2, cd2, nd2, zd2⟩ ⟨hs, hg2⟩ rfl rfl rfl
theorem QkX : (Con.mem (Qk 8)).holds Tryz.prog 24 := by
 intro w0 S
 refine Qb (Γ := [(64, .mem (QR 8))]) (fun _ => noW) Tryz.func24 rfl (by kernel_rfl) Qf Qc (fun w S' _ _ => .cons (QlJ w S') (.nil _ _ _)) (Qk 8) (fun _ => []) (fun x0 h => by cases h) (fun s ρ w _ _ _ => Qh w _) [] (rpW 3) 400 ?_
 rintro ⟨⟨⟨th, does, k, key, x, tog, said, i, v, r, asks, deeds, seen, oc, ov, whn⟩, ma, ca, na, za, md, cd, nd, zd⟩, m, t⟩ W ⟨h0, h1, h2, h3⟩ -
 refine ⟨rfl, ?_⟩
 dsimp only at h0 h1
 subst h0
 refine Qj (q := ∃ (s : WlS), [aP 0 0, aP 2 0] = [aP 0 0, aP 2 0] /\ [SB.cells [sI ↑th, sI 8, sI k, sI key, sI x, sI tog, sB said, sI i, sU v, nU 32 r, sS 3 0 5 (List.length asks) ca na, sS 4 0 6 (List.length deeds) cd nd, nU 3 seen, sI oc, sI ov, sI whn] 42, stoB (WlS.t (WlS.mk (WkS.mk (Wk.mk th (8 : Int) k key x tog said i v r asks deeds seen oc ov whn) ma ca na za md cd nd zd) m t)), wkA ma ca za, wkD md cd zd] = [wkC 3 4 (WkS.w (WlS.s s)) (WlS.s s).3 (WlS.s s).4 (WlS.s s).7 (WlS.s s).8, stoB (WlS.t s), wkA (WlS.s s).2 (WlS.s s).3 (WlS.s s).5, wkD (WlS.s s).6 (WlS.s s).7 (WlS.s s).9] /\ ((WkS.w (WlS.s s)).2 = (8 : Int) /\ (WkS.w (WlS.s s)).1 < 4 /\ ((0 : Int) <= (WkS.w (WlS.s s)).9 /\ (WkS.w (WlS.s s)).9 < (1000000000 : Int)) /\ ((0 : Int) <= (WkS.w (WlS.s s)).8 /\ (WkS.w (WlS.s s)).8 < (32 : Int) /\ ((8 : Int) = (9 : Int) -> (WkS.w (WlS.s s)).8 < (4 : Int))) /\ ((0 : Int) <= (WlS.t s).4 /\ (WlS.t s).4 < (1000000000 : Int)) /\ (0 : Int) <= (WlS.t s).5 /\ (WlS.t s).5 < (1000000000 : Int)) /\ ∀ (x_1 : Unit), True -> endN (Qk (8 : Int)) [] (rpW 3) (WlS.mk (WkS.mk (Wk.mk th (8 : Int) k key x tog said i v r asks deeds seen oc ov whn) ma ca na za md cd nd zd) m t) (SV.o (aB false)) [wkC 3 4 (WSt.w (XQ (WlS.z s))) (WlS.s s).3 (WlS.s s).4 (WlS.s s).7 (WlS.s s).8, ramB m, stoB (WSt.s (XQ (WlS.z s))), wkA (WlS.s s).2 (WlS.s s).3 (WlS.s s).5, wkD (WlS.s s).6 (WlS.s s).7 (WlS.s s).9]) (by kernel_rfl) ?_
 obtain ⟨-, -, -, h5, -, -⟩ := h3
 have h6 := h5 ⟨by show (8 : Int) <= 8; decide, by show (8 : Int) <= 13; decide⟩
 exact ⟨⟨⟨⟨th, 8, k, key, x, tog, said, i, v, r, asks, deeds, seen, oc, ov, whn⟩, ma, ca, na, za, md, cd, nd, zd⟩, m, t⟩, rfl, rfl, ⟨rfl, h1, h6⟩, fun _ _ => Qi rfl ⟨(XQ ⟨⟨th, 8, k, key, x, tog, said, i, v, r, asks, deeds, seen, oc, ov, whn⟩, m, t⟩).w, ma, ca, na, za, md, cd, nd, zd⟩ ⟨⟨rfl, rfl⟩, QY h2 (Qa3 _)⟩ rfl rfl rfl⟩
theorem QkW : (Con.mem (Qk 9)).holds Tryz.prog 24 := by
 intro w0 S
 refine Qb (Γ := [(64, .mem (QR 9))]) (fun _ => noW) Tryz.func24 rfl (by kernel_rfl) Qf Qc (fun w S' _ _ => .cons (QlI w S') (.nil _ _ _)) (Qk 9) (fun _ => []) (fun x0 h => by cases h) (fun s ρ w _ _ _ => Qh w _) [] (rpW 3) 400 ?_
 rintro ⟨⟨⟨th, does, k, key, x, tog, said, i, v, r, asks, deeds, seen, oc, ov, whn⟩, ma, ca, na, za, md, cd, nd, zd⟩, m, t⟩ W ⟨h0, h1, h2, h3⟩ -
 refine ⟨rfl, ?_⟩
 dsimp only at h0 h1
 subst h0
 refine Qj (q := ∃ (s : WlS), [aP 0 0, aP 2 0] = [aP 0 0, aP 2 0] /\ [SB.cells [sI ↑th, sI 9, sI k, sI key, sI x, sI tog, sB said, sI i, sU v, nU 32 r, sS 3 0 5 (List.length asks) ca na, sS 4 0 6 (List.length deeds) cd nd, nU 3 seen, sI oc, sI ov, sI whn] 42, stoB (WlS.t (WlS.mk (WkS.mk (Wk.mk th (9 : Int) k key x tog said i v r asks deeds seen oc ov whn) ma ca na za md cd nd zd) m t)), wkA ma ca za, wkD md cd zd] = [wkC 3 4 (WkS.w (WlS.s s)) (WlS.s s).3 (WlS.s s).4 (WlS.s s).7 (WlS.s s).8, stoB (WlS.t s), wkA (WlS.s s).2 (WlS.s s).3 (WlS.s s).5, wkD (WlS.s s).6 (WlS.s s).7 (WlS.s s).9] /\ ((WkS.w (WlS.s s)).2 = (9 : Int) /\ (WkS.w (WlS.s s)).1 < 4 /\ ((0 : Int) <= (WkS.w (WlS.s s)).9 /\ (WkS.w (WlS.s s)).9 < (1000000000 : Int)) /\ ((0 : Int) <= (WkS.w (WlS.s s)).8 /\ (WkS.w (WlS.s s)).8 < (32 : Int) /\ ((9 : Int) = (9 : Int) -> (WkS.w (WlS.s s)).8 < (4 : Int))) /\ ((0 : Int) <= (WlS.t s).4 /\ (WlS.t s).4 < (1000000000 : Int)) /\ (0 : Int) <= (WlS.t s).5 /\ (WlS.t s).5 < (1000000000 : Int)) /\ ∀ (x_1 : Unit), True -> endN (Qk (9 : Int)) [] (rpW 3) (WlS.mk (WkS.mk (Wk.mk th (9 : Int) k key x tog said i v r asks deeds seen oc ov whn) ma ca na za md cd nd zd) m t) (SV.o (aB false)) [wkC 3 4 (WSt.w (XQ (WlS.z s))) (WlS.s s).3 (WlS.s s).4 (WlS.s s).7 (WlS.s s).8, ramB m, stoB (WSt.s (XQ (WlS.z s))), wkA (WlS.s s).2 (WlS.s s).3 (WlS.s s).5, wkD (WlS.s s).6 (WlS.s s).7 (WlS.s s).9]) (by kernel_rfl) ?_
 obtain ⟨-, -, -, h5, -, -⟩ := h3
 have h6 := h5 ⟨by show (8 : Int) <= 9; decide, by show (9 : Int) <= 13; decide⟩
 exact ⟨⟨⟨⟨th, 9, k, key, x, tog, said, i, v, r, asks, deeds, seen, oc, ov, whn⟩, ma, ca, na, za, md, cd, nd, zd⟩, m, t⟩, rfl, rfl, ⟨rfl, h1, h6⟩, fun _ _ => Qi rfl ⟨(XQ ⟨⟨th, 9, k, key, x, tog, said, i, v, r, asks, deeds, seen, oc, ov, whn⟩, m, t⟩).w, ma, ca, na, za, md, cd, nd, zd⟩ ⟨⟨rfl, rfl⟩, QY h2 (Qa3 _)⟩ rfl rfl rfl⟩
theorem QjF : (Con.mem (Qk 10)).holds Tryz.prog 24 := by
 intro w0 S
 refine Qb (Γ := [(64, .mem (QR 10))]) (fun _ => noW) Tryz.func24 rfl (by kernel_rfl) Qf Qc (fun w S' _ _ => .cons (Qj3 w S') (.nil _ _ _)) (Qk 10) (fun _ => []) (fun x0 h => by cases h) (fun s ρ w _ _ _ => Qh w _) [] (rpW 3) 400 ?_
 rintro ⟨⟨⟨th, does, k, key, x, tog, said, i, v, r, asks, deeds, seen, oc, ov, whn⟩, ma, ca, na, za, md, cd, nd, zd⟩, m, t⟩ W ⟨h0, h1, h2, h3⟩ -
 refine ⟨rfl, ?_⟩
 dsimp only at h0 h1
 subst h0
 refine Qj (q := ∃ (s : WlS), [aP 0 0, aP 2 0] = [aP 0 0, aP 2 0] /\ [SB.cells [sI ↑th, sI 10, sI k, sI key, sI x, sI tog, sB said, sI i, sU v, nU 32 r, sS 3 0 5 (List.length asks) ca na, sS 4 0 6 (List.length deeds) cd nd, nU 3 seen, sI oc, sI ov, sI whn] 42, stoB (WlS.t (WlS.mk (WkS.mk (Wk.mk th (10 : Int) k key x tog said i v r asks deeds seen oc ov whn) ma ca na za md cd nd zd) m t)), wkA ma ca za, wkD md cd zd] = [wkC 3 4 (WkS.w (WlS.s s)) (WlS.s s).3 (WlS.s s).4 (WlS.s s).7 (WlS.s s).8, stoB (WlS.t s), wkA (WlS.s s).2 (WlS.s s).3 (WlS.s s).5, wkD (WlS.s s).6 (WlS.s s).7 (WlS.s s).9] /\ ((WkS.w (WlS.s s)).2 = (10 : Int) /\ (WkS.w (WlS.s s)).1 < 4 /\ ((0 : Int) <= (WkS.w (WlS.s s)).9 /\ (WkS.w (WlS.s s)).9 < (1000000000 : Int)) /\ ((0 : Int) <= (WkS.w (WlS.s s)).8 /\ (WkS.w (WlS.s s)).8 < (32 : Int) /\ ((10 : Int) = (9 : Int) -> (WkS.w (WlS.s s)).8 < (4 : Int))) /\ ((0 : Int) <= (WlS.t s).4 /\ (WlS.t s).4 < (1000000000 : Int)) /\ (0 : Int) <= (WlS.t s).5 /\ (WlS.t s).5 < (1000000000 : Int)) /\ ∀ (x_1 : Unit), True -> endN (Qk (10 : Int)) [] (rpW 3) (WlS.mk (WkS.mk (Wk.mk th (10 : Int) k key x tog said i v r asks deeds seen oc ov whn) ma ca na za md cd nd zd) m t) (SV.o (aB false)) [wkC 3 4 (WSt.w (XQ (WlS.z s))) (WlS.s s).3 (WlS.s s).4 (WlS.s s).7 (WlS.s s).8, ramB m, stoB (WSt.s (XQ (WlS.z s))), wkA (WlS.s s).2 (WlS.s s).3 (WlS.s s).5, wkD (WlS.s s).6 (WlS.s s).7 (WlS.s s).9]) (by kernel_rfl) ?_
 obtain ⟨-, -, -, h5, -, -⟩ := h3
 have h6 := h5 ⟨by show (8 : Int) <= 10; decide, by show (10 : Int) <= 13; decide⟩
 exact ⟨⟨⟨⟨th, 10, k, key, x, tog, said, i, v, r, asks, deeds, seen, oc, ov, whn⟩, ma, ca, na, za, md, cd, nd, zd⟩, m, t⟩, rfl, rfl, ⟨rfl, h1, h6⟩, fun _ _ => Qi rfl ⟨(XQ ⟨⟨th, 10, k, key, x, tog, said, i, v, r, asks, deeds, seen, oc, ov, whn⟩, m, t⟩).w, ma, ca, na, za, md, cd, nd, zd⟩ ⟨⟨rfl, rfl⟩, QY h2 (Qa3 _)⟩ rfl rfl rfl⟩
theorem QjE : (Con.mem (Qk 11)).holds Tryz.prog 24 := by
 intro w0 S
 refine Qb (Γ := [(64, .mem (QR 11))]) (fun _ => noW) Tryz.func24 rfl (by kernel_rfl) Qf Qc (fun w S' _ _ => .cons (Qj2 w S') (.nil _ _ _)) (Qk 11) (fun _ => []) (fun x0 h => by cases h) (fun s ρ w _ _ _ => Qh w _) [] (rpW 3) 400 ?_
 rintro ⟨⟨⟨th, does, k, key, x, tog, said, i, v, r, asks, deeds, seen, oc, ov, whn⟩, ma, ca, na, za, md, cd, nd, zd⟩, m, t⟩ W ⟨h0, h1, h2, h3⟩ -
 refine ⟨rfl, ?_⟩
 dsimp only at h0 h1
 subst h0
 refine Qj (q := ∃ (s : WlS), [aP 0 0, aP 2 0] = [aP 0 0, aP 2 0] /\ [SB.cells [sI ↑th, sI 11, sI k, sI key, sI x, sI tog, sB said, sI i, sU v, nU 32 r, sS 3 0 5 (List.length asks) ca na, sS 4 0 6 (List.length deeds) cd nd, nU 3 seen, sI oc, sI ov, sI whn] 42, stoB (WlS.t (WlS.mk (WkS.mk (Wk.mk th (11 : Int) k key x tog said i v r asks deeds seen oc ov whn) ma ca na za md cd nd zd) m t)), wkA ma ca za, wkD md cd zd] = [wkC 3 4 (WkS.w (WlS.s s)) (WlS.s s).3 (WlS.s s).4 (WlS.s s).7 (WlS.s s).8, stoB (WlS.t s), wkA (WlS.s s).2 (WlS.s s).3 (WlS.s s).5, wkD (WlS.s s).6 (WlS.s s).7 (WlS.s s).9] /\ ((WkS.w (WlS.s s)).2 = (11 : Int) /\ (WkS.w (WlS.s s)).1 < 4 /\ ((0 : Int) <= (WkS.w (WlS.s s)).9 /\ (WkS.w (WlS.s s)).9 < (1000000000 : Int)) /\ ((0 : Int) <= (WkS.w (WlS.s s)).8 /\ (WkS.w (WlS.s s)).8 < (32 : Int) /\ ((11 : Int) = (9 : Int) -> (WkS.w (WlS.s s)).8 < (4 : Int))) /\ ((0 : Int) <= (WlS.t s).4 /\ (WlS.t s).4 < (1000000000 : Int)) /\ (0 : Int) <= (WlS.t s).5 /\ (WlS.t s).5 < (1000000000 : Int)) /\ ∀ (x_1 : Unit), True -> endN (Qk (11 : Int)) [] (rpW 3) (WlS.mk (WkS.mk (Wk.mk th (11 : Int) k key x tog said i v r asks deeds seen oc ov whn) ma ca na za md cd nd zd) m t) (SV.o (aB false)) [wkC 3 4 (WSt.w (XQ (WlS.z s))) (WlS.s s).3 (WlS.s s).4 (WlS.s s).7 (WlS.s s).8, ramB m, stoB (WSt.s (XQ (WlS.z s))), wkA (WlS.s s).2 (WlS.s s).3 (WlS.s s).5, wkD (WlS.s s).6 (WlS.s s).7 (WlS.s s).9]) (by kernel_rfl) ?_
 obtain ⟨-, -, -, h5, -, -⟩ := h3
 have h6 := h5 ⟨by show (8 : Int) <= 11; decide, by show (11 : Int) <= 13; decide⟩
 exact ⟨⟨⟨⟨th, 11, k, key, x, tog, said, i, v, r, asks, deeds, seen, oc, ov, whn⟩, ma, ca, na, za, md, cd, nd, zd⟩, m, t⟩, rfl, rfl, ⟨rfl, h1, h6⟩, fun _ _ => Qi rfl ⟨(XQ ⟨⟨th, 11, k, key, x, tog, said, i, v, r, asks, deeds, seen, oc, ov, whn⟩, m, t⟩).w, ma, ca, na, za, md, cd, nd, zd⟩ ⟨⟨rfl, rfl⟩, QY h2 (Qa3 _)⟩ rfl rfl rfl⟩
theorem QjD : (Con.mem (Qk 12)).holds Tryz.prog 24 := by
 intro w0 S
 refine Qb (Γ := [(64, .mem (QR 12))]) (fun _ => noW) Tryz.func24 rfl (by kernel_rfl) Qf Qc (fun w S' _ _ => .cons (Qj1 w S') (.nil _ _ _)) (Qk 12) (fun _ => []) (fun x0 h => by cases h) (fun s ρ w _ _ _ => Qh w _) [] (rpW 3) 400 ?_
 rintro ⟨⟨⟨th, does, k, key, x, tog, said, i, v, r, asks, deeds, seen, oc, ov, whn⟩, ma, ca, na, za, md, cd, nd, zd⟩, m, t⟩ W ⟨h0, h1, h2, h3⟩ -
 refine ⟨rfl, ?_⟩
 dsimp only at h0 h1
 subst h0
 refine Qj (q := ∃ (s : WlS), [aP 0 0, aP 2 0] = [aP 0 0, aP 2 0] /\ [SB.cells [sI ↑th, sI 12, sI k, sI key, sI x, sI tog, sB said, sI i, sU v, nU 32 r, sS 3 0 5 (List.length asks) ca na, sS 4 0 6 (List.length deeds) cd nd, nU 3 seen, sI oc, sI ov, sI whn] 42, stoB (WlS.t (WlS.mk (WkS.mk (Wk.mk th (12 : Int) k key x tog said i v r asks deeds seen oc ov whn) ma ca na za md cd nd zd) m t)), wkA ma ca za, wkD md cd zd] = [wkC 3 4 (WkS.w (WlS.s s)) (WlS.s s).3 (WlS.s s).4 (WlS.s s).7 (WlS.s s).8, stoB (WlS.t s), wkA (WlS.s s).2 (WlS.s s).3 (WlS.s s).5, wkD (WlS.s s).6 (WlS.s s).7 (WlS.s s).9] /\ ((WkS.w (WlS.s s)).2 = (12 : Int) /\ (WkS.w (WlS.s s)).1 < 4 /\ ((0 : Int) <= (WkS.w (WlS.s s)).9 /\ (WkS.w (WlS.s s)).9 < (1000000000 : Int)) /\ ((0 : Int) <= (WkS.w (WlS.s s)).8 /\ (WkS.w (WlS.s s)).8 < (32 : Int) /\ ((12 : Int) = (9 : Int) -> (WkS.w (WlS.s s)).8 < (4 : Int))) /\ ((0 : Int) <= (WlS.t s).4 /\ (WlS.t s).4 < (1000000000 : Int)) /\ (0 : Int) <= (WlS.t s).5 /\ (WlS.t s).5 < (1000000000 : Int)) /\ ∀ (x_1 : Unit), True -> endN (Qk (12 : Int)) [] (rpW 3) (WlS.mk (WkS.mk (Wk.mk th (12 : Int) k key x tog said i v r asks deeds seen oc ov whn) ma ca na za md cd nd zd) m t) (SV.o (aB false)) [wkC 3 4 (WSt.w (XQ (WlS.z s))) (WlS.s s).3 (WlS.s s).4 (WlS.s s).7 (WlS.s s).8, ramB m, stoB (WSt.s (XQ (WlS.z s))), wkA (WlS.s s).2 (WlS.s s).3 (WlS.s s).5, wkD (WlS.s s).6 (WlS.s s).7 (WlS.s s).9]) (by kernel_rfl) ?_
 obtain ⟨-, -, -, h5, -, -⟩ := h3
 have h6 := h5 ⟨by show (8 : Int) <= 12; decide, by show (12 : Int) <= 13; decide⟩
 exact ⟨⟨⟨⟨th, 12, k, key, x, tog, said, i, v, r, asks, deeds, seen, oc, ov, whn⟩, ma, ca, na, za, md, cd, nd, zd⟩, m, t⟩, rfl, rfl, ⟨rfl, h1, h6⟩, fun _ _ => Qi rfl ⟨(XQ ⟨⟨th, 12, k, key, x, tog, said, i, v, r, asks, deeds, seen, oc, ov, whn⟩, m, t⟩).w, ma, ca, na, za, md, cd, nd, zd⟩ ⟨⟨rfl, rfl⟩, QY h2 (Qa3 _)⟩ rfl rfl rfl⟩
theorem QjC : (Con.mem (Qk 13)).holds Tryz.prog 24 := by
 intro w0 S
 refine Qb (Γ := [(64, .mem (QR 13))]) (fun _ => noW) Tryz.func24 rfl (by kernel_rfl) Qf Qc (fun w S' _ _ => .cons (Qj0 w S') (.nil _ _ _)) (Qk 13) (fun _ => []) (fun x0 h => by cases h) (fun s ρ w _ _ _ => Qh w _) [] (rpW 3) 400 ?_
 rintro ⟨⟨⟨th, does, k, key, x, tog, said, i, v, r, asks, deeds, seen, oc, ov, whn⟩, ma, ca, na, za, md, cd, nd, zd⟩, m, t⟩ W ⟨h0, h1, h2, h3⟩ -
 refine ⟨rfl, ?_⟩
 dsimp only at h0 h1
 subst h0
 refine Qj (q := ∃ (s : WlS), [aP 0 0, aP 2 0] = [aP 0 0, aP 2 0] /\ [SB.cells [sI ↑th, sI 13, sI k, sI key, sI x, sI tog, sB said, sI i, sU v, nU 32 r, sS 3 0 5 (List.length asks) ca na, sS 4 0 6 (List.length deeds) cd nd, nU 3 seen, sI oc, sI ov, sI whn] 42, stoB (WlS.t (WlS.mk (WkS.mk (Wk.mk th (13 : Int) k key x tog said i v r asks deeds seen oc ov whn) ma ca na za md cd nd zd) m t)), wkA ma ca za, wkD md cd zd] = [wkC 3 4 (WkS.w (WlS.s s)) (WlS.s s).3 (WlS.s s).4 (WlS.s s).7 (WlS.s s).8, stoB (WlS.t s), wkA (WlS.s s).2 (WlS.s s).3 (WlS.s s).5, wkD (WlS.s s).6 (WlS.s s).7 (WlS.s s).9] /\ ((WkS.w (WlS.s s)).2 = (13 : Int) /\ (WkS.w (WlS.s s)).1 < 4 /\ ((0 : Int) <= (WkS.w (WlS.s s)).9 /\ (WkS.w (WlS.s s)).9 < (1000000000 : Int)) /\ ((0 : Int) <= (WkS.w (WlS.s s)).8 /\ (WkS.w (WlS.s s)).8 < (32 : Int) /\ ((13 : Int) = (9 : Int) -> (WkS.w (WlS.s s)).8 < (4 : Int))) /\ ((0 : Int) <= (WlS.t s).4 /\ (WlS.t s).4 < (1000000000 : Int)) /\ (0 : Int) <= (WlS.t s).5 /\ (WlS.t s).5 < (1000000000 : Int)) /\ ∀ (x_1 : Unit), True -> endN (Qk (13 : Int)) [] (rpW 3) (WlS.mk (WkS.mk (Wk.mk th (13 : Int) k key x tog said i v r asks deeds seen oc ov whn) ma ca na za md cd nd zd) m t) (SV.o (aB false)) [wkC 3 4 (WSt.w (XQ (WlS.z s))) (WlS.s s).3 (WlS.s s).4 (WlS.s s).7 (WlS.s s).8, ramB m, stoB (WSt.s (XQ (WlS.z s))), wkA (WlS.s s).2 (WlS.s s).3 (WlS.s s).5, wkD (WlS.s s).6 (WlS.s s).7 (WlS.s s).9]) (by kernel_rfl) ?_
 obtain ⟨-, -, -, h5, -, -⟩ := h3
 have h6 := h5 ⟨by show (8 : Int) <= 13; decide, by show (13 : Int) <= 13; decide⟩
 exact ⟨⟨⟨⟨th, 13, k, key, x, tog, said, i, v, r, asks, deeds, seen, oc, ov, whn⟩, ma, ca, na, za, md, cd, nd, zd⟩, m, t⟩, rfl, rfl, ⟨rfl, h1, h6⟩, fun _ _ => Qi rfl ⟨(XQ ⟨⟨th, 13, k, key, x, tog, said, i, v, r, asks, deeds, seen, oc, ov, whn⟩, m, t⟩).w, ma, ca, na, za, md, cd, nd, zd⟩ ⟨⟨rfl, rfl⟩, QY h2 (Qa3 _)⟩ rfl rfl rfl⟩
theorem QjB : (Con.mem (Qk 14)).holds Tryz.prog 24 := by
 intro w0 S
 refine Qb (Γ := [(65, .mem (QaS 14))]) (fun _ => noW) Tryz.func24 rfl (by kernel_rfl) Qf Qc (fun w S' _ _ => .cons (Qku w S') (.nil _ _ _)) (Qk 14) (fun _ => []) (fun x0 h => by cases h) (fun s ρ w _ _ _ => Qh w _) [] (rpW 3) 400 ?_
 rintro ⟨⟨⟨th, does, k, key, x, tog, said, i, v, r, asks, deeds, seen, oc, ov, whn⟩, ma, ca, na, za, md, cd, nd, zd⟩, m, t⟩ W ⟨h0, h1, h2, h3⟩ -
 refine ⟨rfl, ?_⟩
 dsimp only at h0 h1
 subst h0
 refine Qj (q := ∃ (s : WlS), [aP 0 0, aP 1 0] = [aP 0 0, aP 1 0] /\ [SB.cells [sI ↑th, sI 14, sI k, sI key, sI x, sI tog, sB said, sI i, sU v, nU 32 r, sS 3 0 5 (List.length asks) ca na, sS 4 0 6 (List.length deeds) cd nd, nU 3 seen, sI oc, sI ov, sI whn] 42, ramB m, wkA ma ca za, wkD md cd zd] = [wkC 3 4 (WkS.w (WlS.s s)) (WlS.s s).3 (WlS.s s).4 (WlS.s s).7 (WlS.s s).8, ramB s.2, wkA (WlS.s s).2 (WlS.s s).3 (WlS.s s).5, wkD (WlS.s s).6 (WlS.s s).7 (WlS.s s).9] /\ ((WkS.w (WlS.s s)).2 = (14 : Int) /\ (0 : Int) <= (WkS.w (WlS.s s)).9 /\ (WkS.w (WlS.s s)).9 < (1000000000 : Int)) /\ ∀ (x_1 : Unit), True -> endN (Qk (14 : Int)) [] (rpW 3) (WlS.mk (WkS.mk (Wk.mk th (14 : Int) k key x tog said i v r asks deeds seen oc ov whn) ma ca na za md cd nd zd) m t) (SV.o (aB (Qbo (WlS.z s)).2)) [wkC 3 4 (WSt.w (Prod.fst (Qbo (WlS.z s)))) (WlS.s s).3 (WlS.s s).4 (WlS.s s).7 (WlS.s s).8, ramB (Prod.fst (Qbo (WlS.z s))).2, stoB (WlS.t (WlS.mk (WkS.mk (Wk.mk th (14 : Int) k key x tog said i v r asks deeds seen oc ov whn) ma ca na za md cd nd zd) m t)), wkA (WlS.s s).2 (WlS.s s).3 (WlS.s s).5, wkD (WlS.s s).6 (WlS.s s).7 (WlS.s s).9]) (by kernel_rfl) ?_
 obtain ⟨-, -, -, -, h5, -⟩ := h3
 have h6 := h5 ⟨by show (14 : Int) <= 14; decide, by show (14 : Int) <= 16; decide⟩
 exact ⟨⟨⟨⟨th, 14, k, key, x, tog, said, i, v, r, asks, deeds, seen, oc, ov, whn⟩, ma, ca, na, za, md, cd, nd, zd⟩, m, t⟩, rfl, rfl, ⟨rfl, h6⟩, fun _ _ => Qi rfl ⟨(Qbo ⟨⟨th, 14, k, key, x, tog, said, i, v, r, asks, deeds, seen, oc, ov, whn⟩, m, t⟩).1.w, ma, ca, na, za, md, cd, nd, zd⟩ ⟨⟨rfl, rfl⟩, QY h2 (Qec _)⟩ rfl rfl rfl⟩
theorem QjA : (Con.mem (Qk 15)).holds Tryz.prog 24 := by
 intro w0 S
 refine Qb (Γ := [(65, .mem (QaS 15))]) (fun _ => noW) Tryz.func24 rfl (by kernel_rfl) Qf Qc (fun w S' _ _ => .cons (Qkt w S') (.nil _ _ _)) (Qk 15) (fun _ => []) (fun x0 h => by cases h) (fun s ρ w _ _ _ => Qh w _) [] (rpW 3) 400 ?_
 rintro ⟨⟨⟨th, does, k, key, x, tog, said, i, v, r, asks, deeds, seen, oc, ov, whn⟩, ma, ca, na, za, md, cd, nd, zd⟩, m, t⟩ W ⟨h0, h1, h2, h3⟩ -
 refine ⟨rfl, ?_⟩
 dsimp only at h0 h1
 subst h0
 refine Qj (q := ∃ (s : WlS), [aP 0 0, aP 1 0] = [aP 0 0, aP 1 0] /\ [SB.cells [sI ↑th, sI 15, sI k, sI key, sI x, sI tog, sB said, sI i, sU v, nU 32 r, sS 3 0 5 (List.length asks) ca na, sS 4 0 6 (List.length deeds) cd nd, nU 3 seen, sI oc, sI ov, sI whn] 42, ramB m, wkA ma ca za, wkD md cd zd] = [wkC 3 4 (WkS.w (WlS.s s)) (WlS.s s).3 (WlS.s s).4 (WlS.s s).7 (WlS.s s).8, ramB s.2, wkA (WlS.s s).2 (WlS.s s).3 (WlS.s s).5, wkD (WlS.s s).6 (WlS.s s).7 (WlS.s s).9] /\ ((WkS.w (WlS.s s)).2 = (15 : Int) /\ (0 : Int) <= (WkS.w (WlS.s s)).9 /\ (WkS.w (WlS.s s)).9 < (1000000000 : Int)) /\ ∀ (x_1 : Unit), True -> endN (Qk (15 : Int)) [] (rpW 3) (WlS.mk (WkS.mk (Wk.mk th (15 : Int) k key x tog said i v r asks deeds seen oc ov whn) ma ca na za md cd nd zd) m t) (SV.o (aB (Qbo (WlS.z s)).2)) [wkC 3 4 (WSt.w (Prod.fst (Qbo (WlS.z s)))) (WlS.s s).3 (WlS.s s).4 (WlS.s s).7 (WlS.s s).8, ramB (Prod.fst (Qbo (WlS.z s))).2, stoB (WlS.t (WlS.mk (WkS.mk (Wk.mk th (15 : Int) k key x tog said i v r asks deeds seen oc ov whn) ma ca na za md cd nd zd) m t)), wkA (WlS.s s).2 (WlS.s s).3 (WlS.s s).5, wkD (WlS.s s).6 (WlS.s s).7 (WlS.s s).9]) (by kernel_rfl) ?_
 obtain ⟨-, -, -, -, h5, -⟩ := h3
 have h6 := h5 ⟨by show (14 : Int) <= 15; decide, by show (15 : Int) <= 16; decide⟩
 exact ⟨⟨⟨⟨th, 15, k, key, x, tog, said, i, v, r, asks, deeds, seen, oc, ov, whn⟩, ma, ca, na, za, md, cd, nd, zd⟩, m, t⟩, rfl, rfl, ⟨rfl, h6⟩, fun _ _ => Qi rfl ⟨(Qbo ⟨⟨th, 15, k, key, x, tog, said, i, v, r, asks, deeds, seen, oc, ov, whn⟩, m, t⟩).1.w, ma, ca, na, za, md, cd, nd, zd⟩ ⟨⟨rfl, rfl⟩, QY h2 (Qec _)⟩ rfl rfl rfl⟩
theorem Qjz : (Con.mem (Qk 16)).holds Tryz.prog 24 := by
 intro w0 S
 refine Qb (Γ := [(65, .mem (QaS 16))]) (fun _ => noW) Tryz.func24 rfl (by kernel_rfl) Qf Qc (fun w S' _ _ => .cons (Qks w S') (.nil _ _ _)) (Qk 16) (fun _ => []) (fun x0 h => by cases h) (fun s ρ w _ _ _ => Qh w _) [] (rpW 3) 400 ?_
 rintro ⟨⟨⟨th, does, k, key, x, tog, said, i, v, r, asks, deeds, seen, oc, ov, whn⟩, ma, ca, na, za, md, cd, nd, zd⟩, m, t⟩ W ⟨h0, h1, h2, h3⟩ -
 refine ⟨rfl, ?_⟩
 dsimp only at h0 h1
 subst h0
 refine Qj (q := ∃ (s : WlS), [aP 0 0, aP 1 0] = [aP 0 0, aP 1 0] /\ [SB.cells [sI ↑th, sI 16, sI k, sI key, sI x, sI tog, sB said, sI i, sU v, nU 32 r, sS 3 0 5 (List.length asks) ca na, sS 4 0 6 (List.length deeds) cd nd, nU 3 seen, sI oc, sI ov, sI whn] 42, ramB m, wkA ma ca za, wkD md cd zd] = [wkC 3 4 (WkS.w (WlS.s s)) (WlS.s s).3 (WlS.s s).4 (WlS.s s).7 (WlS.s s).8, ramB s.2, wkA (WlS.s s).2 (WlS.s s).3 (WlS.s s).5, wkD (WlS.s s).6 (WlS.s s).7 (WlS.s s).9] /\ ((WkS.w (WlS.s s)).2 = (16 : Int) /\ (0 : Int) <= (WkS.w (WlS.s s)).9 /\ (WkS.w (WlS.s s)).9 < (1000000000 : Int)) /\ ∀ (x_1 : Unit), True -> endN (Qk (16 : Int)) [] (rpW 3) (WlS.mk (WkS.mk (Wk.mk th (16 : Int) k key x tog said i v r asks deeds seen oc ov whn) ma ca na za md cd nd zd) m t) (SV.o (aB (Qbo (WlS.z s)).2)) [wkC 3 4 (WSt.w (Prod.fst (Qbo (WlS.z s)))) (WlS.s s).3 (WlS.s s).4 (WlS.s s).7 (WlS.s s).8, ramB (Prod.fst (Qbo (WlS.z s))).2, stoB (WlS.t (WlS.mk (WkS.mk (Wk.mk th (16 : Int) k key x tog said i v r asks deeds seen oc ov whn) ma ca na za md cd nd zd) m t)), wkA (WlS.s s).2 (WlS.s s).3 (WlS.s s).5, wkD (WlS.s s).6 (WlS.s s).7 (WlS.s s).9]) (by kernel_rfl) ?_
 obtain ⟨-, -, -, -, h5, -⟩ := h3
 have h6 := h5 ⟨by show (14 : Int) <= 16; decide, by show (16 : Int) <= 16; decide⟩
 exact ⟨⟨⟨⟨th, 16, k, key, x, tog, said, i, v, r, asks, deeds, seen, oc, ov, whn⟩, ma, ca, na, za, md, cd, nd, zd⟩, m, t⟩, rfl, rfl, ⟨rfl, h6⟩, fun _ _ => Qi rfl ⟨(Qbo ⟨⟨th, 16, k, key, x, tog, said, i, v, r, asks, deeds, seen, oc, ov, whn⟩, m, t⟩).1.w, ma, ca, na, za, md, cd, nd, zd⟩ ⟨⟨rfl, rfl⟩, QY h2 (Qec _)⟩ rfl rfl rfl⟩
theorem Qjy : (Con.mem (Qk 17)).holds Tryz.prog 24 := by
 intro w0 S
 refine Qb (Γ := [(66, .mem (Q5 17))]) (fun _ => noW) Tryz.func24 rfl (by kernel_rfl) Qf Qc (fun w S' _ _ => .cons (QjV w S') (.nil _ _ _)) (Qk 17) (fun _ => []) (fun x0 h => by cases h) (fun s ρ w _ _ _ => Qh w _) [] (rpW 3) 400 ?_
 rintro ⟨⟨⟨th, does, k, key, x, tog, said, i, v, r, asks, deeds, seen, oc, ov, whn⟩, ma, ca, na, za, md, cd, nd, zd⟩, m, t⟩ W ⟨h0, h1, h2, h3⟩ -
 refine ⟨rfl, ?_⟩
 dsimp only at h0 h1
 subst h0
 refine Qj (q := ∃ (s : WlS), [aP 0 0, aP 1 0, aP 2 0] = [aP 0 0, aP 1 0, aP 2 0] /\ [SB.cells [sI ↑th, sI 17, sI k, sI key, sI x, sI tog, sB said, sI i, sU v, nU 32 r, sS 3 0 5 (List.length asks) ca na, sS 4 0 6 (List.length deeds) cd nd, nU 3 seen, sI oc, sI ov, sI whn] 42, ramB m, stoB (WlS.t (WlS.mk (WkS.mk (Wk.mk th (17 : Int) k key x tog said i v r asks deeds seen oc ov whn) ma ca na za md cd nd zd) m t)), wkA ma ca za, wkD md cd zd] = [wkC 3 4 (WkS.w (WlS.s s)) (WlS.s s).3 (WlS.s s).4 (WlS.s s).7 (WlS.s s).8, ramB s.2, stoB (WlS.t s), wkA (WlS.s s).2 (WlS.s s).3 (WlS.s s).5, wkD (WlS.s s).6 (WlS.s s).7 (WlS.s s).9] /\ ((WkS.w (WlS.s s)).2 = (17 : Int) /\ (WkS.w (WlS.s s)).1 < 4 /\ ((0 : Int) <= (WkS.w (WlS.s s)).9 /\ (WkS.w (WlS.s s)).9 < (18446744073709551616 : Int)) /\ ((0 : Int) <= (WkS.w (WlS.s s)).13 0 /\ (WkS.w (WlS.s s)).13 0 < (16 : Int)) /\ ((0 : Int) <= (WkS.w (WlS.s s)).13 2 /\ (WkS.w (WlS.s s)).13 2 <= (9223372036854775807 : Int)) /\ U64 ((WkS.w (WlS.s s)).13 1) /\ ((WkS.w (WlS.s s)).2 = (21 : Int) -> s.2 1 = (WkS.w (WlS.s s)).9 /\ Qn ((WkS.w (WlS.s s)).13 0) (WkS.w (WlS.s s)).1 = (WkS.w (WlS.s s)).6 -> Xa ((WkS.w (WlS.s s)).13 1 / (4294967296 : Int) % (4294967296 : Int)) ((WkS.w (WlS.s s)).13 1 % (4294967296 : Int)) = true)) /\ ∀ (x_1 : Unit), True -> endN (Qk (17 : Int)) [] (rpW 3) (WlS.mk (WkS.mk (Wk.mk th (17 : Int) k key x tog said i v r asks deeds seen oc ov whn) ma ca na za md cd nd zd) m t) (SV.o (aB (Q1 (WlS.z s)).2)) [wkC 3 4 (WSt.w (Prod.fst (Q1 (WlS.z s)))) (WlS.s s).3 (WlS.s s).4 (WlS.s s).7 (WlS.s s).8, ramB (Prod.fst (Q1 (WlS.z s))).2, stoB (WSt.s (Prod.fst (Q1 (WlS.z s)))), wkA (WlS.s s).2 (WlS.s s).3 (WlS.s s).5, wkD (WlS.s s).6 (WlS.s s).7 (WlS.s s).9]) (by kernel_rfl) ?_
 obtain ⟨-, -, -, -, -, h5⟩ := h3
 have h6 := h5 (by show (17 : Int) <= 17; decide)
 exact ⟨⟨⟨⟨th, 17, k, key, x, tog, said, i, v, r, asks, deeds, seen, oc, ov, whn⟩, ma, ca, na, za, md, cd, nd, zd⟩, m, t⟩, rfl, rfl, ⟨rfl, h1, h6⟩, fun _ _ => Qi rfl ⟨(Q1 ⟨⟨th, 17, k, key, x, tog, said, i, v, r, asks, deeds, seen, oc, ov, whn⟩, m, t⟩).1.w, ma, ca, na, za, md, cd, nd, zd⟩ ⟨⟨rfl, rfl⟩, QY h2 (QbE _)⟩ rfl rfl rfl⟩
theorem Qjx : (Con.mem (Qk 18)).holds Tryz.prog 24 := by
 intro w0 S
 refine Qb (Γ := [(66, .mem (Q5 18))]) (fun _ => noW) Tryz.func24 rfl (by kernel_rfl) Qf Qc (fun w S' _ _ => .cons (QjU w S') (.nil _ _ _)) (Qk 18) (fun _ => []) (fun x0 h => by cases h) (fun s ρ w _ _ _ => Qh w _) [] (rpW 3) 400 ?_
 rintro ⟨⟨⟨th, does, k, key, x, tog, said, i, v, r, asks, deeds, seen, oc, ov, whn⟩, ma, ca, na, za, md, cd, nd, zd⟩, m, t⟩ W ⟨h0, h1, h2, h3⟩ -
 refine ⟨rfl, ?_⟩
 dsimp only at h0 h1
 subst h0
 refine Qj (q := ∃ (s : WlS), [aP 0 0, aP 1 0, aP 2 0] = [aP 0 0, aP 1 0, aP 2 0] /\ [SB.cells [sI ↑th, sI 18, sI k, sI key, sI x, sI tog, sB said, sI i, sU v, nU 32 r, sS 3 0 5 (List.length asks) ca na, sS 4 0 6 (List.length deeds) cd nd, nU 3 seen, sI oc, sI ov, sI whn] 42, ramB m, stoB (WlS.t (WlS.mk (WkS.mk (Wk.mk th (18 : Int) k key x tog said i v r asks deeds seen oc ov whn) ma ca na za md cd nd zd) m t)), wkA ma ca za, wkD md cd zd] = [wkC 3 4 (WkS.w (WlS.s s)) (WlS.s s).3 (WlS.s s).4 (WlS.s s).7 (WlS.s s).8, ramB s.2, stoB (WlS.t s), wkA (WlS.s s).2 (WlS.s s).3 (WlS.s s).5, wkD (WlS.s s).6 (WlS.s s).7 (WlS.s s).9] /\ ((WkS.w (WlS.s s)).2 = (18 : Int) /\ (WkS.w (WlS.s s)).1 < 4 /\ ((0 : Int) <= (WkS.w (WlS.s s)).9 /\ (WkS.w (WlS.s s)).9 < (18446744073709551616 : Int)) /\ ((0 : Int) <= (WkS.w (WlS.s s)).13 0 /\ (WkS.w (WlS.s s)).13 0 < (16 : Int)) /\ ((0 : Int) <= (WkS.w (WlS.s s)).13 2 /\ (WkS.w (WlS.s s)).13 2 <= (9223372036854775807 : Int)) /\ U64 ((WkS.w (WlS.s s)).13 1) /\ ((WkS.w (WlS.s s)).2 = (21 : Int) -> s.2 1 = (WkS.w (WlS.s s)).9 /\ Qn ((WkS.w (WlS.s s)).13 0) (WkS.w (WlS.s s)).1 = (WkS.w (WlS.s s)).6 -> Xa ((WkS.w (WlS.s s)).13 1 / (4294967296 : Int) % (4294967296 : Int)) ((WkS.w (WlS.s s)).13 1 % (4294967296 : Int)) = true)) /\ ∀ (x_1 : Unit), True -> endN (Qk (18 : Int)) [] (rpW 3) (WlS.mk (WkS.mk (Wk.mk th (18 : Int) k key x tog said i v r asks deeds seen oc ov whn) ma ca na za md cd nd zd) m t) (SV.o (aB (Q1 (WlS.z s)).2)) [wkC 3 4 (WSt.w (Prod.fst (Q1 (WlS.z s)))) (WlS.s s).3 (WlS.s s).4 (WlS.s s).7 (WlS.s s).8, ramB (Prod.fst (Q1 (WlS.z s))).2, stoB (WSt.s (Prod.fst (Q1 (WlS.z s)))), wkA (WlS.s s).2 (WlS.s s).3 (WlS.s s).5, wkD (WlS.s s).6 (WlS.s s).7 (WlS.s s).9]) (by kernel_rfl) ?_
 obtain ⟨-, -, -, -, -, h5⟩ := h3
 have h6 := h5 (by show (17 : Int) <= 18; decide)
 exact ⟨⟨⟨⟨th, 18, k, key, x, tog, said, i, v, r, asks, deeds, seen, oc, ov, whn⟩, ma, ca, na, za, md, cd, nd, zd⟩, m, t⟩, rfl, rfl, ⟨rfl, h1, h6⟩, fun _ _ => Qi rfl ⟨(Q1 ⟨⟨th, 18, k, key, x, tog, said, i, v, r, asks, deeds, seen, oc, ov, whn⟩, m, t⟩).1.w, ma, ca, na, za, md, cd, nd, zd⟩ ⟨⟨rfl, rfl⟩, QY h2 (QbE _)⟩ rfl rfl rfl⟩
theorem Qjw : (Con.mem (Qk 19)).holds Tryz.prog 24 := by
 intro w0 S
 refine Qb (Γ := [(66, .mem (Q5 19))]) (fun _ => noW) Tryz.func24 rfl (by kernel_rfl) Qf Qc (fun w S' _ _ => .cons (QjT w S') (.nil _ _ _)) (Qk 19) (fun _ => []) (fun x0 h => by cases h) (fun s ρ w _ _ _ => Qh w _) [] (rpW 3) 400 ?_
 rintro ⟨⟨⟨th, does, k, key, x, tog, said, i, v, r, asks, deeds, seen, oc, ov, whn⟩, ma, ca, na, za, md, cd, nd, zd⟩, m, t⟩ W ⟨h0, h1, h2, h3⟩ -
 refine ⟨rfl, ?_⟩
 dsimp only at h0 h1
 subst h0
 refine Qj (q := ∃ (s : WlS), [aP 0 0, aP 1 0, aP 2 0] = [aP 0 0, aP 1 0, aP 2 0] /\ [SB.cells [sI ↑th, sI 19, sI k, sI key, sI x, sI tog, sB said, sI i, sU v, nU 32 r, sS 3 0 5 (List.length asks) ca na, sS 4 0 6 (List.length deeds) cd nd, nU 3 seen, sI oc, sI ov, sI whn] 42, ramB m, stoB (WlS.t (WlS.mk (WkS.mk (Wk.mk th (19 : Int) k key x tog said i v r asks deeds seen oc ov whn) ma ca na za md cd nd zd) m t)), wkA ma ca za, wkD md cd zd] = [wkC 3 4 (WkS.w (WlS.s s)) (WlS.s s).3 (WlS.s s).4 (WlS.s s).7 (WlS.s s).8, ramB s.2, stoB (WlS.t s), wkA (WlS.s s).2 (WlS.s s).3 (WlS.s s).5, wkD (WlS.s s).6 (WlS.s s).7 (WlS.s s).9] /\ ((WkS.w (WlS.s s)).2 = (19 : Int) /\ (WkS.w (WlS.s s)).1 < 4 /\ ((0 : Int) <= (WkS.w (WlS.s s)).9 /\ (WkS.w (WlS.s s)).9 < (18446744073709551616 : Int)) /\ ((0 : Int) <= (WkS.w (WlS.s s)).13 0 /\ (WkS.w (WlS.s s)).13 0 < (16 : Int)) /\ ((0 : Int) <= (WkS.w (WlS.s s)).13 2 /\ (WkS.w (WlS.s s)).13 2 <= (9223372036854775807 : Int)) /\ U64 ((WkS.w (WlS.s s)).13 1) /\ ((WkS.w (WlS.s s)).2 = (21 : Int) -> s.2 1 = (WkS.w (WlS.s s)).9 /\ Qn ((WkS.w (WlS.s s)).13 0) (WkS.w (WlS.s s)).1 = (WkS.w (WlS.s s)).6 -> Xa ((WkS.w (WlS.s s)).13 1 / (4294967296 : Int) % (4294967296 : Int)) ((WkS.w (WlS.s s)).13 1 % (4294967296 : Int)) = true)) /\ ∀ (x_1 : Unit), True -> endN (Qk (19 : Int)) [] (rpW 3) (WlS.mk (WkS.mk (Wk.mk th (19 : Int) k key x tog said i v r asks deeds seen oc ov whn) ma ca na za md cd nd zd) m t) (SV.o (aB (Q1 (WlS.z s)).2)) [wkC 3 4 (WSt.w (Prod.fst (Q1 (WlS.z s)))) (WlS.s s).3 (WlS.s s).4 (WlS.s s).7 (WlS.s s).8, ramB (Prod.fst (Q1 (WlS.z s))).2, stoB (WSt.s (Prod.fst (Q1 (WlS.z s)))), wkA (WlS.s s).2 (WlS.s s).3 (WlS.s s).5, wkD (WlS.s s).6 (WlS.s s).7 (WlS.s s).9]) (by kernel_rfl) ?_
 obtain ⟨-, -, -, -, -, h5⟩ := h3
 have h6 := h5 (by show (17 : Int) <= 19; decide)
 exact ⟨⟨⟨⟨th, 19, k, key, x, tog, said, i, v, r, asks, deeds, seen, oc, ov, whn⟩, ma, ca, na, za, md, cd, nd, zd⟩, m, t⟩, rfl, rfl, ⟨rfl, h1, h6⟩, fun _ _ => Qi rfl ⟨(Q1 ⟨⟨th, 19, k, key, x, tog, said, i, v, r, asks, deeds, seen, oc, ov, whn⟩, m, t⟩).1.w, ma, ca, na, za, md, cd, nd, zd⟩ ⟨⟨rfl, rfl⟩, QY h2 (QbE _)⟩ rfl rfl rfl⟩
theorem Qjv : (Con.mem (Qk 20)).holds Tryz.prog 24 := by
 intro w0 S
 refine Qb (Γ := [(66, .mem (Q5 20))]) (fun _ => noW) Tryz.func24 rfl (by kernel_rfl) Qf Qc (fun w S' _ _ => .cons (QjS w S') (.nil _ _ _)) (Qk 20) (fun _ => []) (fun x0 h => by cases h) (fun s ρ w _ _ _ => Qh w _) [] (rpW 3) 400 ?_
 rintro ⟨⟨⟨th, does, k, key, x, tog, said, i, v, r, asks, deeds, seen, oc, ov, whn⟩, ma, ca, na, za, md, cd, nd, zd⟩, m, t⟩ W ⟨h0, h1, h2, h3⟩ -
 refine ⟨rfl, ?_⟩
 dsimp only at h0 h1
 subst h0
 refine Qj (q := ∃ (s : WlS), [aP 0 0, aP 1 0, aP 2 0] = [aP 0 0, aP 1 0, aP 2 0] /\ [SB.cells [sI ↑th, sI 20, sI k, sI key, sI x, sI tog, sB said, sI i, sU v, nU 32 r, sS 3 0 5 (List.length asks) ca na, sS 4 0 6 (List.length deeds) cd nd, nU 3 seen, sI oc, sI ov, sI whn] 42, ramB m, stoB (WlS.t (WlS.mk (WkS.mk (Wk.mk th (20 : Int) k key x tog said i v r asks deeds seen oc ov whn) ma ca na za md cd nd zd) m t)), wkA ma ca za, wkD md cd zd] = [wkC 3 4 (WkS.w (WlS.s s)) (WlS.s s).3 (WlS.s s).4 (WlS.s s).7 (WlS.s s).8, ramB s.2, stoB (WlS.t s), wkA (WlS.s s).2 (WlS.s s).3 (WlS.s s).5, wkD (WlS.s s).6 (WlS.s s).7 (WlS.s s).9] /\ ((WkS.w (WlS.s s)).2 = (20 : Int) /\ (WkS.w (WlS.s s)).1 < 4 /\ ((0 : Int) <= (WkS.w (WlS.s s)).9 /\ (WkS.w (WlS.s s)).9 < (18446744073709551616 : Int)) /\ ((0 : Int) <= (WkS.w (WlS.s s)).13 0 /\ (WkS.w (WlS.s s)).13 0 < (16 : Int)) /\ ((0 : Int) <= (WkS.w (WlS.s s)).13 2 /\ (WkS.w (WlS.s s)).13 2 <= (9223372036854775807 : Int)) /\ U64 ((WkS.w (WlS.s s)).13 1) /\ ((WkS.w (WlS.s s)).2 = (21 : Int) -> s.2 1 = (WkS.w (WlS.s s)).9 /\ Qn ((WkS.w (WlS.s s)).13 0) (WkS.w (WlS.s s)).1 = (WkS.w (WlS.s s)).6 -> Xa ((WkS.w (WlS.s s)).13 1 / (4294967296 : Int) % (4294967296 : Int)) ((WkS.w (WlS.s s)).13 1 % (4294967296 : Int)) = true)) /\ ∀ (x_1 : Unit), True -> endN (Qk (20 : Int)) [] (rpW 3) (WlS.mk (WkS.mk (Wk.mk th (20 : Int) k key x tog said i v r asks deeds seen oc ov whn) ma ca na za md cd nd zd) m t) (SV.o (aB (Q1 (WlS.z s)).2)) [wkC 3 4 (WSt.w (Prod.fst (Q1 (WlS.z s)))) (WlS.s s).3 (WlS.s s).4 (WlS.s s).7 (WlS.s s).8, ramB (Prod.fst (Q1 (WlS.z s))).2, stoB (WSt.s (Prod.fst (Q1 (WlS.z s)))), wkA (WlS.s s).2 (WlS.s s).3 (WlS.s s).5, wkD (WlS.s s).6 (WlS.s s).7 (WlS.s s).9]) (by kernel_rfl) ?_
 obtain ⟨-, -, -, -, -, h5⟩ := h3
 have h6 := h5 (by show (17 : Int) <= 20; decide)
 exact ⟨⟨⟨⟨th, 20, k, key, x, tog, said, i, v, r, asks, deeds, seen, oc, ov, whn⟩, ma, ca, na, za, md, cd, nd, zd⟩, m, t⟩, rfl, rfl, ⟨rfl, h1, h6⟩, fun _ _ => Qi rfl ⟨(Q1 ⟨⟨th, 20, k, key, x, tog, said, i, v, r, asks, deeds, seen, oc, ov, whn⟩, m, t⟩).1.w, ma, ca, na, za, md, cd, nd, zd⟩ ⟨⟨rfl, rfl⟩, QY h2 (QbE _)⟩ rfl rfl rfl⟩
theorem Qju : (Con.mem (Qk 21)).holds Tryz.prog 24 := by
 intro w0 S
 refine Qb (Γ := [(66, .mem (Q5 21))]) (fun _ => noW) Tryz.func24 rfl (by kernel_rfl) Qf Qc (fun w S' _ _ => .cons (QjR w S') (.nil _ _ _)) (Qk 21) (fun _ => []) (fun x0 h => by cases h) (fun s ρ w _ _ _ => Qh w _) [] (rpW 3) 400 ?_
 rintro ⟨⟨⟨th, does, k, key, x, tog, said, i, v, r, asks, deeds, seen, oc, ov, whn⟩, ma, ca, na, za, md, cd, nd, zd⟩, m, t⟩ W ⟨h0, h1, h2, h3⟩ -
 refine ⟨rfl, ?_⟩
 dsimp only at h0 h1
 subst h0
 refine Qj (q := ∃ (s : WlS), [aP 0 0, aP 1 0, aP 2 0] = [aP 0 0, aP 1 0, aP 2 0] /\ [SB.cells [sI ↑th, sI 21, sI k, sI key, sI x, sI tog, sB said, sI i, sU v, nU 32 r, sS 3 0 5 (List.length asks) ca na, sS 4 0 6 (List.length deeds) cd nd, nU 3 seen, sI oc, sI ov, sI whn] 42, ramB m, stoB (WlS.t (WlS.mk (WkS.mk (Wk.mk th (21 : Int) k key x tog said i v r asks deeds seen oc ov whn) ma ca na za md cd nd zd) m t)), wkA ma ca za, wkD md cd zd] = [wkC 3 4 (WkS.w (WlS.s s)) (WlS.s s).3 (WlS.s s).4 (WlS.s s).7 (WlS.s s).8, ramB s.2, stoB (WlS.t s), wkA (WlS.s s).2 (WlS.s s).3 (WlS.s s).5, wkD (WlS.s s).6 (WlS.s s).7 (WlS.s s).9] /\ ((WkS.w (WlS.s s)).2 = (21 : Int) /\ (WkS.w (WlS.s s)).1 < 4 /\ ((0 : Int) <= (WkS.w (WlS.s s)).9 /\ (WkS.w (WlS.s s)).9 < (18446744073709551616 : Int)) /\ ((0 : Int) <= (WkS.w (WlS.s s)).13 0 /\ (WkS.w (WlS.s s)).13 0 < (16 : Int)) /\ ((0 : Int) <= (WkS.w (WlS.s s)).13 2 /\ (WkS.w (WlS.s s)).13 2 <= (9223372036854775807 : Int)) /\ U64 ((WkS.w (WlS.s s)).13 1) /\ ((WkS.w (WlS.s s)).2 = (21 : Int) -> s.2 1 = (WkS.w (WlS.s s)).9 /\ Qn ((WkS.w (WlS.s s)).13 0) (WkS.w (WlS.s s)).1 = (WkS.w (WlS.s s)).6 -> Xa ((WkS.w (WlS.s s)).13 1 / (4294967296 : Int) % (4294967296 : Int)) ((WkS.w (WlS.s s)).13 1 % (4294967296 : Int)) = true)) /\ ∀ (x_1 : Unit), True -> endN (Qk (21 : Int)) [] (rpW 3) (WlS.mk (WkS.mk (Wk.mk th (21 : Int) k key x tog said i v r asks deeds seen oc ov whn) ma ca na za md cd nd zd) m t) (SV.o (aB (Q1 (WlS.z s)).2)) [wkC 3 4 (WSt.w (Prod.fst (Q1 (WlS.z s)))) (WlS.s s).3 (WlS.s s).4 (WlS.s s).7 (WlS.s s).8, ramB (Prod.fst (Q1 (WlS.z s))).2, stoB (WSt.s (Prod.fst (Q1 (WlS.z s)))), wkA (WlS.s s).2 (WlS.s s).3 (WlS.s s).5, wkD (WlS.s s).6 (WlS.s s).7 (WlS.s s).9]) (by kernel_rfl) ?_
 obtain ⟨-, -, -, -, -, h5⟩ := h3
 have h6 := h5 (by show (17 : Int) <= 21; decide)
 exact ⟨⟨⟨⟨th, 21, k, key, x, tog, said, i, v, r, asks, deeds, seen, oc, ov, whn⟩, ma, ca, na, za, md, cd, nd, zd⟩, m, t⟩, rfl, rfl, ⟨rfl, h1, h6⟩, fun _ _ => Qi rfl ⟨(Q1 ⟨⟨th, 21, k, key, x, tog, said, i, v, r, asks, deeds, seen, oc, ov, whn⟩, m, t⟩).1.w, ma, ca, na, za, md, cd, nd, zd⟩ ⟨⟨rfl, rfl⟩, QY h2 (QbE _)⟩ rfl rfl rfl⟩
theorem Qm0 : (Con.mem Qpq).holds Tryz.prog 24 := by
 intro w0 S
 refine ⟨(Qg7 w0 S).1, fun x0 h => absurd h (by intro h; cases h), fun ρ s w hp hk hm => ?_⟩
 have hd : s.s.w.does = 0 \/ s.s.w.does = 1 \/ s.s.w.does = 2 \/ s.s.w.does = 3 \/ s.s.w.does = 4 \/ s.s.w.does = 5 \/ s.s.w.does = 6 \/ s.s.w.does = 7 \/ s.s.w.does = 8 \/ s.s.w.does = 9 \/ s.s.w.does = 10 \/ s.s.w.does = 11 \/ s.s.w.does = 12 \/ s.s.w.does = 13 \/ s.s.w.does = 14 \/ s.s.w.does = 15 \/ s.s.w.does = 16 \/ s.s.w.does = 17 \/ s.s.w.does = 18 \/ s.s.w.does = 19 \/ s.s.w.does = 20 \/ s.s.w.does = 21 := by
   have := hp.2.2.1
   show s.z.w.does = 0 \/ s.z.w.does = 1 \/ s.z.w.does = 2 \/ s.z.w.does = 3 \/ s.z.w.does = 4 \/ s.z.w.does = 5 \/ s.z.w.does = 6 \/ s.z.w.does = 7 \/ s.z.w.does = 8 \/ s.z.w.does = 9 \/ s.z.w.does = 10 \/ s.z.w.does = 11 \/ s.z.w.does = 12 \/ s.z.w.does = 13 \/ s.z.w.does = 14 \/ s.z.w.does = 15 \/ s.z.w.does = 16 \/ s.z.w.does = 17 \/ s.z.w.does = 18 \/ s.z.w.does = 19 \/ s.z.w.does = 20 \/ s.z.w.does = 21
   omega
 rcases hd with h | h | h | h | h | h | h | h | h | h | h | h | h | h | h | h | h | h | h | h | h | h
 · exact (Qg7 w0 S).2.2 ρ s w ⟨h, hp⟩ hk hm
 · exact (Qk4 w0 S).2.2 ρ s w ⟨h, hp⟩ hk hm
 · exact (Qk3 w0 S).2.2 ρ s w ⟨h, hp⟩ hk hm
 · exact (Qk2 w0 S).2.2 ρ s w ⟨h, hp⟩ hk hm
 · exact (Qk1 w0 S).2.2 ρ s w ⟨h, hp⟩ hk hm
 · exact (Qk0 w0 S).2.2 ρ s w ⟨h, hp⟩ hk hm
 · exact (QkZ w0 S).2.2 ρ s w ⟨h, hp⟩ hk hm
 · exact (QkY w0 S).2.2 ρ s w ⟨h, hp⟩ hk hm
 · exact (QkX w0 S).2.2 ρ s w ⟨h, hp⟩ hk hm
 · exact (QkW w0 S).2.2 ρ s w ⟨h, hp⟩ hk hm
 · exact (QjF w0 S).2.2 ρ s w ⟨h, hp⟩ hk hm
 · exact (QjE w0 S).2.2 ρ s w ⟨h, hp⟩ hk hm
 · exact (QjD w0 S).2.2 ρ s w ⟨h, hp⟩ hk hm
 · exact (QjC w0 S).2.2 ρ s w ⟨h, hp⟩ hk hm
 · exact (QjB w0 S).2.2 ρ s w ⟨h, hp⟩ hk hm
 · exact (QjA w0 S).2.2 ρ s w ⟨h, hp⟩ hk hm
 · exact (Qjz w0 S).2.2 ρ s w ⟨h, hp⟩ hk hm
 · exact (Qjy w0 S).2.2 ρ s w ⟨h, hp⟩ hk hm
 · exact (Qjx w0 S).2.2 ρ s w ⟨h, hp⟩ hk hm
 · exact (Qjw w0 S).2.2 ρ s w ⟨h, hp⟩ hk hm
 · exact (Qjv w0 S).2.2 ρ s w ⟨h, hp⟩ hk hm
 · exact (Qju w0 S).2.2 ρ s w ⟨h, hp⟩ hk hm
end
section
def lgC (k : Int) (l : List Dd) : Nat -> List Int
 | 0 => List.replicate 17 0
 | i + 1 => (objR k (lgC k l i) (l.getD i Dd.nil).k (l.getD i Dd.nil).key (l.getD i Dd.nil).x).1
structure LgB (k : Int) (l : List Dd) (i : Nat) : Prop where
 op : opOk (l.getD i Dd.nil).k (l.getD i Dd.nil).key (l.getD i Dd.nil).x = true
 c : (objR k (lgC k l i) (l.getD i Dd.nil).k (l.getD i Dd.nil).key (l.getD i Dd.nil).x).2.1 = (l.getD i Dd.nil).c
 v : (objR k (lgC k l i) (l.getD i Dd.nil).k (l.getD i Dd.nil).key (l.getD i Dd.nil).x).2.2 = (l.getD i Dd.nil).v
def Legal (k : Int) (l : List Dd) : Prop := ∀ i, i < l.length -> LgB k l i
theorem lgC_ok {k : Int} {l : List Dd} (h1 : 1 <= k) (h6 : k <= 6) (h : Legal k l) : ∀ i, i <= l.length -> QcQ k (lgC k l i)
 | 0, _ => QfU k h1 h6
 | i + 1, hi => Qls (lgC_ok h1 h6 h i (by omega)) _ _ _ (h i hi).op
theorem Qck {α : Type} {l m : List α} {d : α} {i : Nat} (h : i < l.length) : (l ++ m).getD i d = l.getD i d := by
 simp only [List.getD_eq_getElem?_getD, List.getElem?_append_left h]
theorem Qf1 {α : Type} {l m : List α} {d : α} {i : Nat} : (l ++ m).getD (l.length + i) d = m.getD i d := by
 simp only [List.getD_eq_getElem?_getD, List.getElem?_append_right (Nat.le_add_right _ _), Nat.add_sub_cancel_left]
theorem QcF (k : Int) (l m : List Dd) : ∀ i, i <= l.length -> lgC k (l ++ m) i = lgC k l i
 | 0, _ => rfl
 | i + 1, hi => by simp only [lgC]; rw [QcF k l m i (by omega), Qck hi]
theorem LgB.left {k : Int} {l m : List Dd} {i : Nat} (hi : i < l.length) (h : LgB k l i) : LgB k (l ++ m) i :=
 ⟨by rw [Qck hi]; exact h.op, by rw [Qck hi, QcF k l m i (by omega)]; exact h.c, by rw [Qck hi, QcF k l m i (by omega)]; exact h.v⟩
theorem Legal.snoc {k : Int} {l : List Dd} {d : Dd} (h : Legal k l) (ho : opOk d.k d.key d.x = true) (hc : (objR k (lgC k l l.length) d.k d.key d.x).2.1 = d.c) (hv : (objR k (lgC k l l.length) d.k d.key d.x).2.2 = d.v) :
   Legal k (l ++ [d]) /\ lgC k (l ++ [d]) (l ++ [d]).length = (objR k (lgC k l l.length) d.k d.key d.x).1 := by
 have e : (l ++ [d]).getD l.length Dd.nil = d := by have := Qf1 (l := l) (m := [d]) (d := Dd.nil) (i := 0); rw [Nat.add_zero] at this; exact this
 refine ⟨fun i hi => ?_, ?_⟩
 · rw [List.length_append, List.length_singleton] at hi
   by_cases h1 : i < l.length
   · exact (h i h1).left h1
   · obtain rfl : i = l.length := by omega
     exact ⟨by rw [e]; exact ho, by rw [e, QcF k l [d] _ (Nat.le_refl _)]; exact hc, by rw [e, QcF k l [d] _ (Nat.le_refl _)]; exact hv⟩
 · rw [List.length_append, List.length_singleton]
   simp only [lgC]
   rw [e, QcF k l [d] _ (Nat.le_refl _)]
theorem Qix {B : Int} {r : Rec} {a : Ask} {l : List Dd} (h : RecOK B r) (ha : a.ok) (hl : Legal r.kind l) (hc : lgC r.kind l l.length = r.obj) :
   Legal r.kind (l ++ bDs r a) /\ lgC r.kind (l ++ bDs r a) (l ++ bDs r a).length = (Xz r a).obj := by
 unfold bDs Xz
 cases bOpen r a
 · rw [cond_false, cond_false, List.append_nil]; exact ⟨hl, hc⟩
 · rw [cond_true, cond_true]
   have := hl.snoc (d := Qei r a) ha.2.2 (by rw [hc]; rfl) (by rw [hc]; rfl)
   refine ⟨this.1, this.2.trans ?_⟩
   rw [hc]; rfl
theorem QmE (r : Rec) (a : Ask) : (Xz r a).cnt = r.cnt + (bDs r a).length := by
 unfold Xz bDs
 cases bOpen r a
 · rw [cond_false, cond_false]; simp
 · rfl
structure Vd where
 ver : Int
 d : Dd
def Vd.nil : Vd := ⟨0, Dd.nil⟩
structure Ev where
 kind : Int
 t : Int
 k : Int
 key : Int
 x : Int
 c : Int
 v : Int
 whn : Int
 step : Int
def Ev.nil : Ev := ⟨0, 0, 0, 0, 0, 0, 0, 0, 0⟩
def setF {α : Type} (f : Nat -> α) (t : Nat) (x : α) : Nat -> α := fun i => bif Nat.beq i t then x else f i
theorem Ql {α : Type} (f : Nat -> α) (t : Nat) (x : α) : setF f t x t = x := by unfold setF; rw [Nat.beq_refl t]; rfl
theorem Xl {α : Type} (f : Nat -> α) {t u : Nat} (x : α) (h : u ≠ t) : setF f t x u = f u := by
 unfold setF
 cases hb : Nat.beq u t
 · rfl
 · exact absurd (Nat.eq_of_beq_eq_true hb) h
structure Sh where
 m : Nat -> Int
 s : Sto
 w : Nat -> Wk
 tog : Nat -> Int
 steps : Int
 hist : List Ev
 deeds : List Vd
def Wk.new (t : Nat) : Wk := ⟨t, 0, 0, 0, 0, 0, false, 0, 0, fun _ => 0, [], [], fun _ => 0, 0, 0, 0⟩
def Qr (lands : Int) (s : Sto) : Nat -> Int := fun i => bif decide (i < 72) && decide (lands / 2 ^ (i / 8) % 2 = 1) then s.now i else s.good i
def Sto.crash (s : Sto) (lands : Int) : Sto := { s with now := Qr lands s, good := Qr lands s, want := fun _ => 0 }
def Sto.evict (s : Sto) (l : Nat) : Sto := { s with good := fun i => bif decide (i / 8 = l) then s.now i else s.good i }
def Sh.new (k : Int) : Sh := ⟨fun _ => 0, { Sto.new with now := XP k 32, good := XP k 32 }, Wk.new, fun _ => 0, 0, [], []⟩
def Sh.called (z : Sh) (t : Nat) (k key x : Int) : Sh := { z with w := setF z.w t (Wk.call (z.w t).th k key x (1 - z.tog t) false), steps := z.steps + 1, hist := z.hist ++ [⟨1, t, k, key, x, 0, 0, 0, z.steps + 1⟩] }
def Sh.call (z : Sh) (t : Nat) (k key x : Int) : Sh := if (z.w t).does = 0 /\ opOk k key x = true then z.called t k key x else z
def Sh.wst (z : Sh) (t : Nat) : WSt := ⟨z.w t, z.m, z.s⟩
def Sh.moved (z : Sh) (t : Nat) (r : WSt) : Sh := { z with m := r.m, s := r.s, w := setF z.w t r.w, steps := z.steps + 1 }
def Sh.counted (z : Sh) (l : List Dd) : Sh := { z with deeds := z.deeds ++ l.map (Vd.mk (z.s.now 0)) }
def Sh.answered (z : Sh) (t : Nat) (w : Wk) : Sh := { z with tog := putF z.tog t w.tog, hist := z.hist ++ [⟨2, t, w.k, w.key, w.x, w.oc, w.ov, w.whn, z.steps⟩] }
def Sh.stepped (z : Sh) (t : Nat) : Sh :=
 let r := Qg (z.wst t)
 let z1 := z.moved t r.1
 let z2 := if (z.w t).does = 11 then z1.counted r.1.w.deeds else z1
 if r.2 then z2.answered t r.1.w else z2
def Sh.step (z : Sh) (t : Nat) : Sh := if (z.w t).does = 0 then z else z.stepped t
def Sh.run (z : Sh) (t : Nat) : Nat -> Sh
 | 0 => z
 | n + 1 => (z.step t).run t n
def Sh.ran (z : Sh) (t : Nat) : Nat -> Nat
 | 0 => 0
 | n + 1 => if (z.w t).does = 0 then 0 else (z.step t).ran t n + 1
def Sh.evict (z : Sh) (l : Int) : Sh := if 0 <= l /\ l < 9 then { z with s := z.s.evict l.toNat } else z
def upTo (v : Int) (l : List Vd) : List Vd := (l.reverse.dropWhile fun d => decide (v < d.ver)).reverse
def Wk.again (w : Wk) : Wk := if w.does = 0 then w else Wk.call w.th w.k w.key w.x w.tog true
def Sh.crash (z : Sh) (lands : Int) : Sh :=
 let s := z.s.crash lands
 { z with m := putF (fun _ => 0) 1 (s.now 0), s := s, w := fun t => (z.w t).again, steps := z.steps + 1, hist := z.hist ++ [⟨3, 0, 0, 0, 0, 0, 0, 0, z.steps + 1⟩], deeds := upTo (s.now 0) z.deeds }
def Sh.cur (z : Sh) : Nat -> Int := fun i => z.s.now (Qq (z.s.now 0) + i)
def cntT (t : Nat) (D : List Vd) : Nat := D.countP fun d => d.d.t == t
def LastD (D : List Vd) (t : Nat) (a n : Int) : Prop :=
 (cntT t D = 0 /\ a = 0 /\ n = 0) \/ ∃ i : Nat, n = (i : Int) + 1 /\ i < D.length /\ (D.getD i Vd.nil).d.t = t /\ QU (D.getD i Vd.nil).d.c (D.getD i Vd.nil).d.v /\ a = ansW (D.getD i Vd.nil).d.c (D.getD i Vd.nil).d.v /\ ∀ j, i < j -> j < D.length -> (D.getD j Vd.nil).d.t ≠ t
structure Sum (K : Int) (R : Rec) (D : List Vd) : Prop where
 ok : RecOK D.length R
 kind : R.kind = K
 cnt : R.cnt = D.length
 legal : Legal K (D.map Vd.d)
 obj : lgC K (D.map Vd.d) D.length = R.obj
 th : ∀ d ∈ D, d.d.t < 4
 each : ∀ t, t < 4 -> LastD D t (R.ans.getD t 0) (R.whn.getD t 0)
 bit : ∀ t, t < 4 -> Qn R.tog t = (cntT t D : Int) % 2
theorem Sum.new {K : Int} (h1 : 1 <= K) (h6 : K <= 6) : Sum K (Rec.new K) [] where
 ok := RecOK.new h1 h6
 kind := rfl
 cnt := rfl
 legal := fun i hi => absurd hi (Nat.not_lt_zero _)
 obj := rfl
 th := fun d hd => by cases hd
 each := fun t ht => .inl ⟨rfl, by
   rcases (show t = 0 \/ t = 1 \/ t = 2 \/ t = 3 by omega) with rfl | rfl | rfl | rfl <;> exact ⟨rfl, rfl⟩⟩
 bit := fun t ht => by
   rcases (show t = 0 \/ t = 1 \/ t = 2 \/ t = 3 by omega) with rfl | rfl | rfl | rfl <;> rfl
theorem QhL (t : Nat) (D : List Vd) (d : Vd) : cntT t (D ++ [d]) = cntT t D + (if d.d.t = t then 1 else 0) := by
 unfold cntT
 rw [List.countP_append, List.countP_singleton]
 by_cases h : d.d.t = t
 · rw [if_pos h, if_pos (by simpa using h)]
 · rw [if_neg h, if_neg (by simpa using h)]
theorem LastD.snoc {D : List Vd} {t : Nat} {a n : Int} (h : LastD D t a n) {d : Vd} (hd : d.d.t ≠ t) : LastD (D ++ [d]) t a n := by
 rcases h with ⟨h0, h1⟩ | ⟨i, h1, h2, h3, h4, h5, h6⟩
 · exact .inl ⟨by rw [QhL, h0, if_neg hd], h1⟩
 · have e : (D ++ [d]).getD i Vd.nil = D.getD i Vd.nil := Qck h2
   refine .inr ⟨i, h1, by rw [List.length_append]; omega, by rw [e]; exact h3, by rw [e]; exact h4, by rw [e]; exact h5, fun j hj hl => ?_⟩
   rcases getD_snoc (d := Vd.nil) hl with ⟨a, b⟩ | ⟨a, b⟩
   · rw [b]; exact h6 j hj a
   · rw [b]; exact hd
theorem Sum.snoc {K : Int} {R : Rec} {D : List Vd} (h : Sum K R D) {a : Ask} (ha : a.ok) (ho : bOpen R a = true) (v : Int) : Sum K (Xz R a) (D ++ [⟨v, Qei R a⟩]) := by
 have e1 : Xz R a = R.done a.t a.k a.key a.x := by unfold Xz; rw [ho]; rfl
 have ed : bDs R a = [Qei R a] := by unfold bDs; rw [ho]; rfl
 have hk := h.kind
 have hA := (Qc6 h.ok.ok a.k a.key a.x ha.2.2).1
 have hlen : (D ++ [(⟨v, Qei R a⟩ : Vd)]).length = D.length + 1 := by rw [List.length_append]; rfl
 have hc : ((D ++ [(⟨v, Qei R a⟩ : Vd)]).length : Int) = D.length + 1 := by rw [hlen]; omega
 have hl := Qix (l := D.map Vd.d) h.ok ha (by rw [hk]; exact h.legal) (by rw [hk, List.length_map]; exact h.obj)
 rw [ed, hk] at hl
 have em : (D ++ [(⟨v, Qei R a⟩ : Vd)]).map Vd.d = D.map Vd.d ++ [Qei R a] := by rw [List.map_append]; rfl
 have eg : (D ++ [(⟨v, Qei R a⟩ : Vd)]).getD D.length Vd.nil = ⟨v, Qei R a⟩ := by
   have := Qf1 (l := D) (m := [(⟨v, Qei R a⟩ : Vd)]) (d := Vd.nil) (i := 0); rw [Nat.add_zero] at this; exact this
 refine ⟨by rw [hc]; exact QdP h.ok ha, by rw [QkC]; exact hk, by rw [QmE, ed, h.cnt, hc]; rfl, by rw [em]; exact hl.1, ?_, fun d hd => ?_, fun t ht => ?_, fun t ht => ?_⟩
 · rw [em]
   have := hl.2
   rw [List.length_append, List.length_map] at this
   rw [hlen]; exact this
 · rcases List.mem_append.1 hd with hd | hd
   · exact h.th d hd
   · obtain rfl := List.mem_singleton.1 hd; exact ha.1
 · rw [e1]
   show LastD _ t ((R.ans.set a.t _).getD t 0) ((R.whn.set a.t _).getD t 0)
   rw [QaJ _ _ _ _ (by rw [h.ok.a4]; exact ha.1), QaJ _ _ _ _ (by rw [h.ok.w4]; exact ha.1)]
   by_cases et : t = a.t
   · rw [if_pos et, if_pos et]
     exact .inr ⟨D.length, by rw [h.cnt], by rw [hlen]; omega, by rw [eg]; exact et.symm, by rw [eg]; exact hA, by rw [eg]; rfl, fun j h1 h2 => by omega⟩
   · rw [if_neg et, if_neg et]
     exact (h.each t ht).snoc (fun e => et e.symm)
 · have h1 := QdQ h.ok ha t ht
   have h2 := h.bit t ht
   have h3 := h.bit a.t ha.1
   rw [h1, QhL]
   have hb : Qn R.tog a.t ≠ a.g := by simpa [bOpen] using ho
   by_cases et : t = a.t
   · subst et
     rw [if_pos rfl]
     show a.g = ((cntT a.t D + (if a.t = a.t then 1 else 0) : Nat) : Int) % 2
     rw [if_pos rfl]
     have := ha.2.1; omega
   · rw [if_neg et]
     show _ = ((cntT t D + (if a.t = t then 1 else 0) : Nat) : Int) % 2
     rw [if_neg (fun e => et e.symm)]; exact h2
theorem Sum.batch {K : Int} (v : Int) : ∀ {m : List Ask} {R : Rec} {D : List Vd}, Sum K R D -> AsksOK m -> Sum K (bR R m) (D ++ (bD R m).map (Vd.mk v))
 | [], R, D, h, _ => by simp only [bD, bR, List.map_nil, List.append_nil]; exact h
 | a :: m, R, D, h, ha => by
   show Sum K (bR (Xz R a) m) (D ++ (bDs R a ++ bD (Xz R a) m).map (Vd.mk v))
   cases ho : bOpen R a
   · have hs := Qf9 ho
     rw [hs.1, hs.2]; exact Sum.batch v h ha.tail
   · have h1 := h.snoc (ha a List.mem_cons_self) ho v
     have ed : bDs R a = [Qei R a] := by unfold bDs; rw [ho]; rfl
     have := Sum.batch v (m := m) h1 ha.tail
     rw [ed, List.map_append, <- List.append_assoc]; exact this
theorem Sum.at {K : Int} {R : Rec} {D : List Vd} (h : Sum K R D) {v : Int} (h0 : 0 <= v) (h1 : v <= 1099511627776) : Sum K (R.at v) D :=
 ⟨h.ok.at h0 h1, h.kind, h.cnt, h.legal, h.obj, h.th, h.each, h.bit⟩
theorem QgX : ∀ {m : List Ask} {B : Int} {R : Rec}, RecOK B R -> AsksOK m -> ∀ t, t < 4 -> (∀ a ∈ m, a.t ≠ t) -> (bR R m).ans.getD t 0 = R.ans.getD t 0 /\ (bR R m).whn.getD t 0 = R.whn.getD t 0 /\ Qn (bR R m).tog t = Qn R.tog t
 | [], _, _, _, _, _, _, _ => ⟨rfl, rfl, rfl⟩
 | a :: m, B, R, h, ha, t, ht, hn => by
   have h1 := QgX (m := m) (QdP h (ha a List.mem_cons_self)) ha.tail t ht (fun b hb => hn b (List.mem_cons_of_mem _ hb))
   have h2 := QdQ h (ha a List.mem_cons_self) t ht
   have hne : t ≠ a.t := fun e => hn a List.mem_cons_self e.symm
   rw [if_neg hne] at h2
   have h3 : (Xz R a).ans.getD t 0 = R.ans.getD t 0 /\ (Xz R a).whn.getD t 0 = R.whn.getD t 0 := by
     unfold Xz
     cases bOpen R a
     · exact ⟨rfl, rfl⟩
     · show (R.ans.set a.t _).getD t 0 = _ /\ (R.whn.set a.t _).getD t 0 = _
       have ha1 := (ha a List.mem_cons_self).1
       rw [QaJ _ _ _ _ (by rw [h.a4]; exact ha1), QaJ _ _ _ _ (by rw [h.w4]; exact ha1), if_neg hne, if_neg hne]
       exact ⟨rfl, rfl⟩
   exact ⟨h1.1.trans h3.1, h1.2.1.trans h3.2, h1.2.2.trans h2⟩
structure Gh where
 V : Int
 R : Rec
 dv : Int
 Q : Rec
 n : Nat
def HasRec (f : Nat -> Int) (v : Int) (R : Rec) : Prop := ∀ i, i < 32 -> f (Qq v + i) = fL R.words i
def SlotOK (f : Nat -> Int) (b : Nat) : Prop := (0 <= f (b + 26) /\ f (b + 26) < 16) /\ ∀ t, t < 4 -> U64 (f (b + 18 + t)) /\ 0 <= f (b + 22 + t) /\ f (b + 22 + t) <= 9223372036854775807
def SlotsOK (f : Nat -> Int) : Prop := SlotOK f 8 /\ SlotOK f 40
structure Glob (K : Int) (z : Sh) (g : Gh) : Prop where
 k1 : 1 <= K
 k6 : K <= 6
 v0 : 0 <= g.dv
 vd : g.V = g.dv \/ g.V = g.dv + 1
 now0 : z.s.now 0 = g.V
 good0 : z.s.good 0 = g.dv \/ z.s.good 0 = g.V
 done : z.m 1 = g.dv
 same : g.V = g.dv -> g.R = g.Q /\ g.n = z.deeds.length
 sumR : Sum K g.R z.deeds
 verR : g.R.ver = g.V
 topR : ∀ d ∈ z.deeds, d.ver <= g.V
 nle : g.n <= z.deeds.length
 sumQ : Sum K g.Q (z.deeds.take g.n)
 verQ : g.Q.ver = g.dv
 topQ : ∀ d ∈ z.deeds.take g.n, d.ver <= g.dv
 lateQ : ∀ d ∈ z.deeds.drop g.n, d.ver = g.dv + 1
 nowR : HasRec z.s.now g.V g.R
 goodR : HasRec z.s.good g.V g.R
 nowQ : HasRec z.s.now g.dv g.Q
 goodQ : HasRec z.s.good g.dv g.Q
 rNow : SlotsOK z.s.now
 rGood : SlotsOK z.s.good
 vb : g.V <= z.steps
 cb : (z.deeds.length : Int) <= 4 * z.steps
 fl0 : 0 <= z.s.fl
 fl1 : z.s.fl <= z.steps
 fe0 : 0 <= z.s.fe
 fe1 : z.s.fe <= z.steps
structure Told (R : Rec) (t : Nat) (w : Wk) : Prop where
 bit : Qn R.tog t = w.tog
 ok : QU w.oc w.ov
 ans : R.ans.getD t 0 = ansW w.oc w.ov
 whn : R.whn.getD t 0 = w.whn
structure ThB (g : Gh) (t : Nat) (w : Wk) (tg mo ms : Int) : Prop where
 th : w.th = t
 d0 : 0 <= w.does
 d21 : w.does <= 21
 tg01 : tg = 0 \/ tg = 1
 one : tg = 1 -> g.Q.whn.getD t 0 ≠ 0
 v0 : 0 <= w.v
 v1 : w.v <= g.dv
 ii : w.does <= 4 \/ 10 <= w.does -> w.i = 0
 se0 : 0 <= w.seen 0 /\ w.seen 0 < 16
 se1 : U64 (w.seen 1)
 se2 : 0 <= w.seen 2 /\ w.seen 2 <= 9223372036854775807
 idle : w.does = 0 -> Qn g.R.tog t = tg /\ Qn g.Q.tog t = tg /\ (ms = 0 \/ ms = tg + 1)
 op : w.does ≠ 0 -> opOk w.k w.key w.x = true
 tog : w.does ≠ 0 -> w.tog = 1 - tg
 qr : w.does ≠ 0 -> Qn g.Q.tog t = w.tog -> Qn g.R.tog t = w.tog
 uns : w.does ≠ 0 -> w.said = false -> ms = 0 \/ (ms = tg + 1 /\ Qn g.R.tog t = tg /\ Qn g.Q.tog t = tg)
 sai : w.does ≠ 0 -> w.said = true -> ms = w.tog + 1 /\ mo = opW w.k w.key w.x
 two : w.does = 2 -> mo = opW w.k w.key w.x
 s12 : w.does = 1 \/ w.does = 2 -> w.said = false
 s3 : 3 <= w.does -> w.does <= 16 -> w.said = true
 lk2 : 19 <= w.does -> w.v = g.dv -> w.seen 0 = g.Q.tog
 lk3 : 20 <= w.does -> w.v = g.dv -> w.seen 1 = g.Q.ans.getD t 0
 lk4 : 21 <= w.does -> w.v = g.dv -> w.seen 2 = g.Q.whn.getD t 0
 rep : w.does = 16 -> Told g.Q t w /\ Told g.R t w
structure Want (W : Nat -> Wk) (R : Rec) (a : Ask) : Prop where
 t4 : a.t < 4
 act : (W a.t).does ≠ 0
 said : (W a.t).said = true
 tog : (W a.t).tog = a.g
 k : (W a.t).k = a.k
 key : (W a.t).key = a.key
 x : (W a.t).x = a.x
 opn : Qn R.tog a.t ≠ a.g
structure Gath (W : Nat -> Wk) (R : Rec) (h : Nat) (l : List Ask) (i : Nat) : Prop where
 asc : l.Pairwise (fun a b => a.t < b.t)
 lt : ∀ a ∈ l, a.t < i
 want : ∀ a ∈ l, Want W R a
 own : h < i -> Qn R.tog h = (W h).tog \/ ∃ a ∈ l, a.t = h
def Xx (w : Wk) : Prop := 4 <= w.does /\ w.does <= 15
structure HoldOK (g : Gh) (h : Nat) (W : Nat -> Wk) (s : Sto) : Prop where
 ver : (W h).does ≠ 4 -> (W h).does <= 14 -> (W h).v = g.dv
 low : (W h).does <= 11 \/ (W h).does = 15 -> g.V = g.dv
 mid : 12 <= (W h).does -> (W h).does <= 14 -> g.V = g.dv + 1
 i0 : (W h).does <= 9 -> 0 <= (W h).i
 i5 : (W h).does = 5 -> (W h).i < 32 /\ (W h).asks = [] /\ ∀ j : Nat, (j : Int) < (W h).i -> (W h).r j = fL g.R.words j
 i6 : (W h).does = 6 -> (W h).i < 4 /\ (∀ j, j < 32 -> (W h).r j = fL g.R.words j) /\ Gath W g.R h (W h).asks (W h).i.toNat
 i7 : (W h).does = 7 -> (W h).i < 4 /\ (∀ j, j < 32 -> (W h).r j = fL g.R.words j) /\ ∃ l, (W h).asks = l ++ [⟨(W h).i.toNat, (W (W h).i.toNat).tog, 0, 0, 0⟩] /\ Gath W g.R h l (W h).i.toNat /\
   (W (W h).i.toNat).does ≠ 0 /\ (W (W h).i.toNat).said = true /\ Qn g.R.tog (W h).i.toNat ≠ (W (W h).i.toNat).tog
 nx : 8 <= (W h).does -> (W h).does <= 11 -> Gath W g.R h (W h).asks 4 /\ (W h).deeds = bD g.R (W h).asks /\ (∀ j, j < 32 -> (W h).r j = fL (bDo g.R (W h).asks).words j) /\ Told (bDo g.R (W h).asks) h (W h)
 i8 : (W h).does = 8 -> (W h).i < 32 /\ ∀ j : Nat, (j : Int) < (W h).i -> s.now (Qq (g.V + 1) + j) = fL (bDo g.R (W h).asks).words j
 i9 : (W h).does = 9 -> (W h).i < 4 /\ HasRec s.now (g.V + 1) (bDo g.R (W h).asks) /\ ∀ l : Nat, (l : Int) < (W h).i -> s.want (9 * h + (Qq (g.V + 1) / 8 + l)) ≠ 0
 i10 : (W h).does = 10 -> HasRec s.now (g.V + 1) (bDo g.R (W h).asks) /\ ∀ l : Nat, l < 4 -> s.want (9 * h + (Qq (g.V + 1) / 8 + l)) ≠ 0
 i11 : (W h).does = 11 -> HasRec s.now (g.V + 1) (bDo g.R (W h).asks) /\ HasRec s.good (g.V + 1) (bDo g.R (W h).asks)
 told : 12 <= (W h).does -> (W h).does <= 15 -> Told g.R h (W h)
 i13 : (W h).does = 13 -> s.want (9 * h) ≠ 0
 i14 : 14 <= (W h).does -> (W h).does <= 15 -> s.good 0 = g.V
structure ShInv (K : Int) (z : Sh) (g : Gh) : Prop where
 gl : Glob K z g
 th : ∀ t, t < 4 -> ThB g t (z.w t) (z.tog t) (z.m (2 + 2 * t)) (z.m (3 + 2 * t))
 lk : (z.m 0 = 0 /\ ∀ t : Nat, t < 4 -> ¬ Xx (z.w t)) \/ ∃ h : Nat, h < 4 /\ z.m 0 = (h : Int) + 1 /\ Xx (z.w h) /\ ∀ t : Nat, t < 4 -> t ≠ h -> ¬ Xx (z.w t)
 mid : g.V = g.dv + 1 -> ∃ h, h < 4 /\ 12 <= (z.w h).does /\ (z.w h).does <= 14
 ho : ∀ h, h < 4 -> Xx (z.w h) -> HoldOK g h z.w z.s
def QkF (R : Rec) (t : Nat) (w w' : Wk) : Prop := w.does ≠ 0 -> w.said = true -> Qn R.tog t ≠ w.tog -> w'.does ≠ 0 /\ w'.said = true /\ w'.tog = w.tog /\ w'.k = w.k /\ w'.key = w.key /\ w'.x = w.x
theorem Want.other {W : Nat -> Wk} {R : Rec} {a : Ask} (H : Want W R a) {t : Nat} {w' : Wk} (hk : QkF R t (W t) w') : Want (setF W t w') R a := by
 by_cases e : a.t = t
 · have h1 := hk (by rw [<- e]; exact H.act) (by rw [<- e]; exact H.said) (by rw [<- e, H.tog]; exact H.opn)
   have e2 : setF W t w' a.t = w' := by rw [e]; exact Ql W t w'
   refine ⟨H.t4, ?_, ?_, ?_, ?_, ?_, ?_, H.opn⟩ <;> rw [e2]
   · exact h1.1
   · exact h1.2.1
   · rw [h1.2.2.1, <- e]; exact H.tog
   · rw [h1.2.2.2.1, <- e]; exact H.k
   · rw [h1.2.2.2.2.1, <- e]; exact H.key
   · rw [h1.2.2.2.2.2, <- e]; exact H.x
 · have e2 : setF W t w' a.t = W a.t := Xl W w' e
   exact ⟨H.t4, by rw [e2]; exact H.act, by rw [e2]; exact H.said, by rw [e2]; exact H.tog, by rw [e2]; exact H.k, by rw [e2]; exact H.key, by rw [e2]; exact H.x, H.opn⟩
theorem Gath.other {W : Nat -> Wk} {R : Rec} {h : Nat} {l : List Ask} {i : Nat} (H : Gath W R h l i) {t : Nat} {w' : Wk} (hk : QkF R t (W t) w') (ho : h = t -> w'.tog = (W t).tog) : Gath (setF W t w') R h l i := by
 refine ⟨H.asc, H.lt, fun a ha => (H.want a ha).other hk, fun hi => ?_⟩
 have e : (setF W t w' h).tog = (W h).tog := by
   by_cases e : h = t
   · subst e; rw [Ql]; exact ho rfl
   · rw [Xl W w' e]
 rw [e]; exact H.own hi
theorem HoldOK.other {g : Gh} {h : Nat} {W : Nat -> Wk} {s : Sto} (H : HoldOK g h W s) {t : Nat} (ht : h ≠ t) {w' : Wk} (hk : QkF g.R t (W t) w') : HoldOK g h (setF W t w') s := by
 have e : setF W t w' h = W h := Xl W w' ht
 refine ⟨?_, ?_, ?_, ?_, ?_, ?_, ?_, ?_, ?_, ?_, ?_, ?_, ?_, ?_, ?_⟩ <;> rw [e]
 · exact H.ver
 · exact H.low
 · exact H.mid
 · exact H.i0
 · exact H.i5
 · intro hd
   have := H.i6 hd
   exact ⟨this.1, this.2.1, this.2.2.other hk (fun e => absurd e ht)⟩
 · intro hd
   obtain ⟨h1, h2, l, h3, h4, h5, h6, h7⟩ := H.i7 hd
   by_cases ei : (W h).i.toNat = t
   · have hq := hk (by rw [<- ei]; exact h5) (by rw [<- ei]; exact h6) (by rw [<- ei]; exact h7)
     have e2 : setF W t w' (W h).i.toNat = w' := by rw [ei]; exact Ql W t w'
     have e3 : w'.tog = (W (W h).i.toNat).tog := by rw [hq.2.2.1, ei]
     exact ⟨h1, h2, l, by rw [e2, e3]; exact h3, h4.other hk (fun e => absurd e ht), by rw [e2]; exact hq.1, by rw [e2]; exact hq.2.1, by rw [e2, e3]; exact h7⟩
   · have e2 : setF W t w' (W h).i.toNat = W (W h).i.toNat := Xl W w' ei
     exact ⟨h1, h2, l, by rw [e2]; exact h3, h4.other hk (fun e => absurd e ht), by rw [e2]; exact h5, by rw [e2]; exact h6, by rw [e2]; exact h7⟩
 · intro a b
   have := H.nx a b
   exact ⟨this.1.other hk (fun e => absurd e ht), this.2⟩
 · exact H.i8
 · exact H.i9
 · exact H.i10
 · exact H.i11
 · exact H.told
 · exact H.i13
 · exact H.i14
def LockOK (m0 : Int) (W : Nat -> Wk) : Prop := (m0 = 0 /\ ∀ t : Nat, t < 4 -> ¬ Xx (W t)) \/ ∃ h : Nat, h < 4 /\ m0 = (h : Int) + 1 /\ Xx (W h) /\ ∀ t : Nat, t < 4 -> t ≠ h -> ¬ Xx (W t)
theorem LockOK.keep {m0 : Int} {W : Nat -> Wk} (H : LockOK m0 W) {t : Nat} {w' : Wk} (hh : Xx w' ↔ Xx (W t)) : LockOK m0 (setF W t w') := by
 have e (u : Nat) : Xx (setF W t w' u) ↔ Xx (W u) := by
   by_cases e : u = t
   · subst e; rw [Ql]; exact hh
   · rw [Xl W w' e]
 rcases H with ⟨h1, h2⟩ | ⟨h, h1, h2, h3, h4⟩
 · exact .inl ⟨h1, fun u hu hx => h2 u hu ((e u).1 hx)⟩
 · exact .inr ⟨h, h1, h2, (e h).2 h3, fun u hu hne hx => h4 u hu hne ((e u).1 hx)⟩
theorem LockOK.one {m0 : Int} {W : Nat -> Wk} (H : LockOK m0 W) {t : Nat} (ht : t < 4) (h : Xx (W t)) : m0 = (t : Int) + 1 /\ ∀ u, u < 4 -> u ≠ t -> ¬ Xx (W u) := by
 rcases H with ⟨h1, h2⟩ | ⟨u, h1, h2, h3, h4⟩
 · exact absurd h (h2 t ht)
 · by_cases e : t = u
   · subst e; exact ⟨h2, h4⟩
   · exact absurd h (h4 t ht e)
theorem ShInv.local {K : Int} {z : Sh} {g : Gh} (H : ShInv K z g) {t : Nat} (ht : t < 4) {w' : Wk} {m' : Nat -> Int} {st : Int} {hs : List Ev} (hst : z.steps <= st)
   (h1 : m' 1 = z.m 1) (hm : ∀ u, u < 4 -> u ≠ t -> m' (2 + 2 * u) = z.m (2 + 2 * u) /\ m' (3 + 2 * u) = z.m (3 + 2 * u))
   (tg' : Int) (hb : ThB g t w' tg' (m' (2 + 2 * t)) (m' (3 + 2 * t)))
   (hk : QkF g.R t (z.w t) w') (hl : LockOK (m' 0) (setF z.w t w')) (hd : ¬ (12 <= (z.w t).does /\ (z.w t).does <= 14))
   (ho : Xx w' -> HoldOK g t (setF z.w t w') z.s) : ShInv K { z with w := setF z.w t w', m := m', tog := putF z.tog t tg', steps := st, hist := hs } g := by
 refine ⟨?_, fun u hu => ?_, hl, fun hv => ?_, fun u hu hh => ?_⟩
 · have G := H.gl
   exact ⟨G.k1, G.k6, G.v0, G.vd, G.now0, G.good0, h1.trans G.done, G.same, G.sumR, G.verR, G.topR, G.nle, G.sumQ, G.verQ, G.topQ, G.lateQ, G.nowR, G.goodR, G.nowQ, G.goodQ, G.rNow, G.rGood, Int.le_trans G.vb hst, by have := G.cb; dsimp only; omega, G.fl0, Int.le_trans G.fl1 hst, G.fe0, Int.le_trans G.fe1 hst⟩
 · show ThB g u (setF z.w t w' u) (putF z.tog t tg' u) (m' (2 + 2 * u)) (m' (3 + 2 * u))
   by_cases e : u = t
   · subst e; rw [Ql, Xd]; exact hb
   · rw [Xl z.w w' e, Qv z.tog tg' e, (hm u hu e).1, (hm u hu e).2]; exact H.th u hu
 · obtain ⟨h, h4, a, b⟩ := H.mid hv
   have e : h ≠ t := fun e => hd (by rw [<- e]; exact ⟨a, b⟩)
   exact ⟨h, h4, by show 12 <= (setF z.w t w' h).does; rw [Xl z.w w' e]; exact a, by show (setF z.w t w' h).does <= 14; rw [Xl z.w w' e]; exact b⟩
 · show HoldOK g u (setF z.w t w') z.s
   by_cases e : u = t
   · subst e
     exact ho (by have : Xx (setF z.w u w' u) := hh; rw [Ql] at this; exact this)
   · have h2 : Xx (setF z.w t w' u) := hh
     rw [Xl z.w w' e] at h2
     exact (H.ho u hu h2).other e hk
theorem Qhk (f : Nat -> Int) (t : Nat) : putF f t (f t) = f := funext fun i => by
 by_cases e : i = t
 · subst e; rw [Xd]
 · rw [Qv f _ e]
end
section
theorem QE {z : Sh} {t : Nat} {r : WSt} (hd : (z.w t).does ≠ 11) (e : Qg (z.wst t) = (r, false)) : z.stepped t = z.moved t r := by
 unfold Sh.stepped
 rw [e]
 dsimp only
 rw [if_neg hd]; rfl
theorem QcZ {z : Sh} {t : Nat} {r : WSt} (hd : (z.w t).does ≠ 11) (e : Qg (z.wst t) = (r, true)) : z.stepped t = (z.moved t r).answered t r.w := by
 unfold Sh.stepped
 rw [e]
 dsimp only
 rw [if_neg hd]; rfl
theorem ShInv.moved {K : Int} {z : Sh} {g : Gh} (H : ShInv K z g) {t : Nat} (ht : t < 4) {w' : Wk} {m' : Nat -> Int} (h1 : m' 1 = z.m 1) (hm : ∀ u, u < 4 -> u ≠ t -> m' (2 + 2 * u) = z.m (2 + 2 * u) /\ m' (3 + 2 * u) = z.m (3 + 2 * u))
   (hb : ThB g t w' (z.tog t) (m' (2 + 2 * t)) (m' (3 + 2 * t))) (hk : QkF g.R t (z.w t) w') (hl : LockOK (m' 0) (setF z.w t w')) (hd : ¬ (12 <= (z.w t).does /\ (z.w t).does <= 14))
   (ho : Xx w' -> HoldOK g t (setF z.w t w') z.s) : ShInv K (z.moved t ⟨w', m', z.s⟩) g := by
 have := H.local ht (st := z.steps + 1) (hs := z.hist) (by omega) h1 hm (z.tog t) hb hk hl hd ho
 rw [Qhk] at this; exact this
theorem ThB.busy {g : Gh} {t : Nat} {w w' : Wk} {tg mo ms : Int} (T : ThB g t w tg mo ms) (h3 : 3 <= w.does) (h15 : w.does <= 15) (e : w'.th = w.th /\ w'.tog = w.tog /\ w'.said = w.said /\ w'.k = w.k /\ w'.key = w.key /\ w'.x = w.x /\ w'.seen = w.seen) (hv : 0 <= w'.v /\ w'.v <= g.dv) {d : Int} (hd : w'.does = d) (hi : d <= 4 \/ 10 <= d -> w'.i = 0) (k3 : 3 <= d) (k15 : d <= 15) : ThB g t w' tg mo ms := by
 subst hd
 obtain ⟨e1, e2, e3, e4, e5, e6, e7⟩ := e
 exact
   { th := e1.trans T.th, d0 := by omega, d21 := by omega, tg01 := T.tg01, one := T.one, v0 := hv.1, v1 := hv.2, ii := hi, se0 := by rw [e7]; exact T.se0, se1 := by rw [e7]; exact T.se1, se2 := by rw [e7]; exact T.se2
     idle := by intros; omega
     op := fun _ => by rw [e4, e5, e6]; exact T.op (by omega)
     tog := fun _ => by rw [e2]; exact T.tog (by omega)
     qr := fun _ => by rw [e2]; exact T.qr (by omega)
     uns := fun _ hs => by rw [e3, T.s3 h3 (by omega)] at hs; cases hs
     sai := fun _ hs => by rw [e2, e4, e5, e6]; exact T.sai (by omega) (by rw [<- e3]; exact hs)
     two := by intros; omega
     s12 := by intros; omega
     s3 := fun _ _ => by rw [e3]; exact T.s3 h3 (by omega)
     lk2 := by intros; omega
     lk3 := by intros; omega
     lk4 := by intros; omega
     rep := by intros; omega }
section
variable {g : Gh} {h : Nat} {W : Nat -> Wk} {s : Sto}
theorem hold4 (hd : (W h).does = 4) (hV : g.V = g.dv) (hi : 0 <= (W h).i) : HoldOK g h W s := by
 exact { ver := by intros; omega, low := fun _ => hV, mid := by intros; omega, i0 := fun _ => hi, i5 := by intros; omega, i6 := by intros; omega, i7 := by intros; omega, nx := by intros; omega, i8 := by intros; omega, i9 := by intros; omega, i10 := by intros; omega, i11 := by intros; omega, told := by intros; omega, i13 := by intros; omega, i14 := by intros; omega }
theorem hold5 (hd : (W h).does = 5) (hV : g.V = g.dv) (hv : (W h).v = g.dv) (hi : 0 <= (W h).i) (h5 : (W h).i < 32 /\ (W h).asks = [] /\ ∀ j : Nat, (j : Int) < (W h).i -> (W h).r j = fL g.R.words j) : HoldOK g h W s := by
 exact { ver := fun _ _ => hv, low := fun _ => hV, mid := by intros; omega, i0 := fun _ => hi, i5 := fun _ => h5, i6 := by intros; omega, i7 := by intros; omega, nx := by intros; omega, i8 := by intros; omega, i9 := by intros; omega, i10 := by intros; omega, i11 := by intros; omega, told := by intros; omega, i13 := by intros; omega, i14 := by intros; omega }
theorem hold6 (hd : (W h).does = 6) (hV : g.V = g.dv) (hv : (W h).v = g.dv) (hi : 0 <= (W h).i) (h6 : (W h).i < 4 /\ (∀ j, j < 32 -> (W h).r j = fL g.R.words j) /\ Gath W g.R h (W h).asks (W h).i.toNat) : HoldOK g h W s := by
 exact { ver := fun _ _ => hv, low := fun _ => hV, mid := by intros; omega, i0 := fun _ => hi, i5 := by intros; omega, i6 := fun _ => h6, i7 := by intros; omega, nx := by intros; omega, i8 := by intros; omega, i9 := by intros; omega, i10 := by intros; omega, i11 := by intros; omega, told := by intros; omega, i13 := by intros; omega, i14 := by intros; omega }
theorem hold7 (hd : (W h).does = 7) (hV : g.V = g.dv) (hv : (W h).v = g.dv) (hi : 0 <= (W h).i) (h7 : (W h).i < 4 /\ (∀ j, j < 32 -> (W h).r j = fL g.R.words j) /\ ∃ l, (W h).asks = l ++ [⟨(W h).i.toNat, (W (W h).i.toNat).tog, 0, 0, 0⟩] /\ Gath W g.R h l (W h).i.toNat /\
   (W (W h).i.toNat).does ≠ 0 /\ (W (W h).i.toNat).said = true /\ Qn g.R.tog (W h).i.toNat ≠ (W (W h).i.toNat).tog) : HoldOK g h W s := by
 exact { ver := fun _ _ => hv, low := fun _ => hV, mid := by intros; omega, i0 := fun _ => hi, i5 := by intros; omega, i6 := by intros; omega, i7 := fun _ => h7, nx := by intros; omega, i8 := by intros; omega, i9 := by intros; omega, i10 := by intros; omega, i11 := by intros; omega, told := by intros; omega, i13 := by intros; omega, i14 := by intros; omega }
abbrev QdR (g : Gh) (h : Nat) (W : Nat -> Wk) : Prop := Gath W g.R h (W h).asks 4 /\ (W h).deeds = bD g.R (W h).asks /\ (∀ j, j < 32 -> (W h).r j = fL (bDo g.R (W h).asks).words j) /\ Told (bDo g.R (W h).asks) h (W h)
theorem hold8 (hd : (W h).does = 8) (hV : g.V = g.dv) (hv : (W h).v = g.dv) (hi : 0 <= (W h).i) (hn : QdR g h W) (h8 : (W h).i < 32 /\ ∀ j : Nat, (j : Int) < (W h).i -> s.now (Qq (g.V + 1) + j) = fL (bDo g.R (W h).asks).words j) : HoldOK g h W s := by
 exact { ver := fun _ _ => hv, low := fun _ => hV, mid := by intros; omega, i0 := fun _ => hi, i5 := by intros; omega, i6 := by intros; omega, i7 := by intros; omega, nx := fun _ _ => hn, i8 := fun _ => h8, i9 := by intros; omega, i10 := by intros; omega, i11 := by intros; omega, told := by intros; omega, i13 := by intros; omega, i14 := by intros; omega }
theorem hold9 (hd : (W h).does = 9) (hV : g.V = g.dv) (hv : (W h).v = g.dv) (hi : 0 <= (W h).i) (hn : QdR g h W) (h9 : (W h).i < 4 /\ HasRec s.now (g.V + 1) (bDo g.R (W h).asks) /\ ∀ l : Nat, (l : Int) < (W h).i -> s.want (9 * h + (Qq (g.V + 1) / 8 + l)) ≠ 0) : HoldOK g h W s := by
 exact { ver := fun _ _ => hv, low := fun _ => hV, mid := by intros; omega, i0 := fun _ => hi, i5 := by intros; omega, i6 := by intros; omega, i7 := by intros; omega, nx := fun _ _ => hn, i8 := by intros; omega, i9 := fun _ => h9, i10 := by intros; omega, i11 := by intros; omega, told := by intros; omega, i13 := by intros; omega, i14 := by intros; omega }
theorem hold10 (hd : (W h).does = 10) (hV : g.V = g.dv) (hv : (W h).v = g.dv) (hn : QdR g h W) (h10 : HasRec s.now (g.V + 1) (bDo g.R (W h).asks) /\ ∀ l : Nat, l < 4 -> s.want (9 * h + (Qq (g.V + 1) / 8 + l)) ≠ 0) : HoldOK g h W s := by
 exact { ver := fun _ _ => hv, low := fun _ => hV, mid := by intros; omega, i0 := by intros; omega, i5 := by intros; omega, i6 := by intros; omega, i7 := by intros; omega, nx := fun _ _ => hn, i8 := by intros; omega, i9 := by intros; omega, i10 := fun _ => h10, i11 := by intros; omega, told := by intros; omega, i13 := by intros; omega, i14 := by intros; omega }
theorem hold11 (hd : (W h).does = 11) (hV : g.V = g.dv) (hv : (W h).v = g.dv) (hn : QdR g h W) (h11 : HasRec s.now (g.V + 1) (bDo g.R (W h).asks) /\ HasRec s.good (g.V + 1) (bDo g.R (W h).asks)) : HoldOK g h W s := by
 exact { ver := fun _ _ => hv, low := fun _ => hV, mid := by intros; omega, i0 := by intros; omega, i5 := by intros; omega, i6 := by intros; omega, i7 := by intros; omega, nx := fun _ _ => hn, i8 := by intros; omega, i9 := by intros; omega, i10 := by intros; omega, i11 := fun _ => h11, told := by intros; omega, i13 := by intros; omega, i14 := by intros; omega }
theorem hold12 (hd : (W h).does = 12) (hV : g.V = g.dv + 1) (hv : (W h).v = g.dv) (ht : Told g.R h (W h)) : HoldOK g h W s := by
 exact { ver := fun _ _ => hv, low := by intros; omega, mid := fun _ _ => hV, i0 := by intros; omega, i5 := by intros; omega, i6 := by intros; omega, i7 := by intros; omega, nx := by intros; omega, i8 := by intros; omega, i9 := by intros; omega, i10 := by intros; omega, i11 := by intros; omega, told := fun _ _ => ht, i13 := by intros; omega, i14 := by intros; omega }
theorem hold13 (hd : (W h).does = 13) (hV : g.V = g.dv + 1) (hv : (W h).v = g.dv) (ht : Told g.R h (W h)) (hw : s.want (9 * h) ≠ 0) : HoldOK g h W s := by
 exact { ver := fun _ _ => hv, low := by intros; omega, mid := fun _ _ => hV, i0 := by intros; omega, i5 := by intros; omega, i6 := by intros; omega, i7 := by intros; omega, nx := by intros; omega, i8 := by intros; omega, i9 := by intros; omega, i10 := by intros; omega, i11 := by intros; omega, told := fun _ _ => ht, i13 := fun _ => hw, i14 := by intros; omega }
theorem hold14 (hd : (W h).does = 14) (hV : g.V = g.dv + 1) (hv : (W h).v = g.dv) (ht : Told g.R h (W h)) (hg : s.good 0 = g.V) : HoldOK g h W s := by
 exact { ver := fun _ _ => hv, low := by intros; omega, mid := fun _ _ => hV, i0 := by intros; omega, i5 := by intros; omega, i6 := by intros; omega, i7 := by intros; omega, nx := by intros; omega, i8 := by intros; omega, i9 := by intros; omega, i10 := by intros; omega, i11 := by intros; omega, told := fun _ _ => ht, i13 := by intros; omega, i14 := fun _ _ => hg }
theorem hold15 (hd : (W h).does = 15) (hV : g.V = g.dv) (ht : Told g.R h (W h)) (hg : s.good 0 = g.V) : HoldOK g h W s := by
 exact { ver := by intros; omega, low := fun _ => hV, mid := by intros; omega, i0 := by intros; omega, i5 := by intros; omega, i6 := by intros; omega, i7 := by intros; omega, nx := by intros; omega, i8 := by intros; omega, i9 := by intros; omega, i10 := by intros; omega, i11 := by intros; omega, told := fun _ _ => ht, i13 := by intros; omega, i14 := fun _ _ => hg }
end
theorem ThB.go {g : Gh} {t : Nat} {w w' : Wk} {tg mo ms mo' ms' : Int} (T : ThB g t w tg mo ms) (hn : w.does ≠ 0) {d : Int} (hd : w'.does = d) (h0 : 0 < d /\ d <= 21) (e : w'.th = w.th /\ w'.tog = w.tog /\ w'.k = w.k /\ w'.key = w.key /\ w'.x = w.x) (hv : 0 <= w'.v /\ w'.v <= g.dv) (ii : d <= 4 \/ 10 <= d -> w'.i = 0)
   (se : (0 <= w'.seen 0 /\ w'.seen 0 < 16) /\ U64 (w'.seen 1) /\ 0 <= w'.seen 2 /\ w'.seen 2 <= 9223372036854775807)
   (uns : w'.said = false -> ms' = 0 \/ (ms' = tg + 1 /\ Qn g.R.tog t = tg /\ Qn g.Q.tog t = tg)) (sai : w'.said = true -> ms' = w.tog + 1 /\ mo' = opW w.k w.key w.x)
   (two : d = 2 -> mo' = opW w.k w.key w.x) (s12 : d = 1 \/ d = 2 -> w'.said = false) (s3 : 3 <= d -> d <= 16 -> w'.said = true)
   (lk2 : 19 <= d -> w'.v = g.dv -> w'.seen 0 = g.Q.tog) (lk3 : 20 <= d -> w'.v = g.dv -> w'.seen 1 = g.Q.ans.getD t 0) (lk4 : 21 <= d -> w'.v = g.dv -> w'.seen 2 = g.Q.whn.getD t 0) (rep : d = 16 -> Told g.Q t w' /\ Told g.R t w') : ThB g t w' tg mo' ms' := by
 subst hd
 obtain ⟨e1, e2, e4, e5, e6⟩ := e
 exact
   { th := e1.trans T.th, d0 := by omega, d21 := by omega, tg01 := T.tg01, one := T.one, v0 := hv.1, v1 := hv.2, ii := ii, se0 := se.1, se1 := se.2.1, se2 := se.2.2
     idle := by intros; omega
     op := fun _ => by rw [e4, e5, e6]; exact T.op hn
     tog := fun _ => by rw [e2]; exact T.tog hn
     qr := fun _ => by rw [e2]; exact T.qr hn
     uns := fun _ => uns
     sai := fun _ hs => by rw [e2, e4, e5, e6]; exact sai hs
     two := fun h => by rw [e4, e5, e6]; exact two h
     s12 := s12
     s3 := s3
     lk2 := lk2
     lk3 := lk3
     lk4 := lk4
     rep := rep }
theorem ThB.se {g : Gh} {t : Nat} {w : Wk} {tg mo ms : Int} (T : ThB g t w tg mo ms) : (0 <= w.seen 0 /\ w.seen 0 < 16) /\ U64 (w.seen 1) /\ 0 <= w.seen 2 /\ w.seen 2 <= 9223372036854775807 := ⟨T.se0, T.se1, T.se2⟩
theorem Qu {w : Wk} {d : Int} (hd : w.does = d) (h : d < 4 \/ 15 < d) : ¬ Xx w := fun hh => by
 have := hh.1
 have := hh.2
 omega
theorem Qy {R : Rec} {t : Nat} {w w' : Wk} {d : Int} (hd : w'.does = d) (h : d ≠ 0) (e : w'.tog = w.tog /\ w'.said = w.said /\ w'.k = w.k /\ w'.key = w.key /\ w'.x = w.x) : QkF R t w w' :=
 fun _ hs _ => ⟨by rw [hd]; exact h, e.2.1.trans hs, e.1, e.2.2.1, e.2.2.2.1, e.2.2.2.2⟩
section
variable {K : Int} {z : Sh} {g : Gh} {t : Nat}
theorem QnC (H : ShInv K z g) (ht : t < 4) (hd : (z.w t).does = 1) : ShInv K (z.stepped t) g := by
 have T := H.th t ht
 have hth := T.th
 have e : Qg (z.wst t) = (⟨{ z.w t with does := 2 }, putF z.m (2 + 2 * t) (opW (z.w t).k (z.w t).key (z.w t).x), z.s⟩, false) := by
   simp [Qg, sayP, Sh.wst, hd, hth]
 rw [QE (by omega) e]
 have hs := T.s12 (.inl hd)
 refine H.moved ht (Qv _ _ (by omega)) (fun u hu hne => ⟨Qv _ _ (by omega), Qv _ _ (by omega)⟩) ?_ (fun _ hs' => by rw [hs] at hs'; cases hs') ?_ (by omega) (fun hh => absurd hh (Qu (d := 2) rfl (.inl (by decide))))
 · rw [Xd, Qv _ _ (show 3 + 2 * t ≠ 2 + 2 * t by omega)]
   exact T.go (by omega) (d := 2) rfl ⟨by decide, by decide⟩ ⟨rfl, rfl, rfl, rfl, rfl⟩ ⟨T.v0, T.v1⟩ (fun _ => T.ii (by omega)) T.se (T.uns (by omega)) (fun h => by have h : (z.w t).said = true := h; rw [hs] at h; cases h) (fun _ => rfl) (fun _ => hs) (fun h => absurd h (by decide)) (fun h => absurd h (by decide)) (fun h => absurd h (by decide)) (fun h => absurd h (by decide)) (fun h => absurd h (by decide))
 · rw [Qv _ _ (by omega)]
   exact LockOK.keep H.lk ⟨fun h => absurd h (Qu (d := 2) rfl (.inl (by decide))), fun h => absurd h (Qu hd (.inl (by decide)))⟩
theorem QnB (H : ShInv K z g) (ht : t < 4) (hd : (z.w t).does = 2) : ShInv K (z.stepped t) g := by
 have T := H.th t ht
 have hth := T.th
 have e : Qg (z.wst t) = (⟨{ z.w t with said := true, does := 3 }, putF z.m (3 + 2 * t) ((z.w t).tog + 1), z.s⟩, false) := by
   simp [Qg, sayP, Sh.wst, hd, hth]
 rw [QE (by omega) e]
 have hs := T.s12 (.inr hd)
 refine H.moved ht (Qv _ _ (by omega)) (fun u hu hne => ⟨Qv _ _ (by omega), Qv _ _ (by omega)⟩) ?_ (fun _ hs' => by rw [hs] at hs'; cases hs') ?_ (by omega) (fun hh => absurd hh (Qu (d := 3) rfl (.inl (by decide))))
 · rw [Xd, Qv _ _ (show 2 + 2 * t ≠ 3 + 2 * t by omega)]
   exact T.go (by omega) (d := 3) rfl ⟨by decide, by decide⟩ ⟨rfl, rfl, rfl, rfl, rfl⟩ ⟨T.v0, T.v1⟩ (fun _ => T.ii (by omega)) T.se (fun h => by cases h) (fun _ => ⟨rfl, T.two hd⟩) (fun h => absurd h (by decide)) (fun h => absurd h (by decide)) (fun _ _ => rfl) (fun h => absurd h (by decide)) (fun h => absurd h (by decide)) (fun h => absurd h (by decide)) (fun h => absurd h (by decide))
 · rw [Qv _ _ (by omega)]
   exact LockOK.keep H.lk ⟨fun h => absurd h (Qu (d := 3) rfl (.inl (by decide))), fun h => absurd h (Qu hd (.inl (by decide)))⟩
theorem QnA (H : ShInv K z g) (ht : t < 4) (hd : (z.w t).does = 3) : ShInv K (z.stepped t) g := by
 have T := H.th t ht
 have hth := T.th
 have hs := T.s3 (by omega) (by omega)
 by_cases h0 : z.m 0 = 0
 · have e : Qg (z.wst t) = (⟨{ z.w t with does := 4 }, putF z.m 0 ((t : Int) + 1), z.s⟩, false) := by
     simp [Qg, sayP, Sh.wst, hd, hth, h0]
   rw [QE (by omega) e]
   have hfree : ∀ u, u < 4 -> ¬ Xx (z.w u) := by
     rcases H.lk with ⟨-, h⟩ | ⟨h, -, h2, -⟩
     · exact h
     · omega
   refine H.moved ht (Qv _ _ (by omega)) (fun u hu hne => ⟨Qv _ _ (by omega), Qv _ _ (by omega)⟩) ?_ (Qy (d := 4) rfl (by decide) ⟨rfl, rfl, rfl, rfl, rfl⟩) ?_ (by omega) (fun hh => ?_)
   · rw [Qv _ _ (show 2 + 2 * t ≠ 0 by omega), Qv _ _ (show 3 + 2 * t ≠ 0 by omega)]
     exact T.go (by omega) (d := 4) rfl ⟨by decide, by decide⟩ ⟨rfl, rfl, rfl, rfl, rfl⟩ ⟨T.v0, T.v1⟩ (fun _ => T.ii (by omega)) T.se (T.uns (by omega)) (T.sai (by omega)) (fun h => absurd h (by decide)) (fun h => absurd h (by decide)) (fun _ _ => hs) (fun h => absurd h (by decide)) (fun h => absurd h (by decide)) (fun h => absurd h (by decide)) (fun h => absurd h (by decide))
   · rw [Xd]
     refine .inr ⟨t, ht, rfl, by rw [Ql]; exact ⟨by show (4 : Int) <= 4; decide, by show (4 : Int) <= 15; decide⟩, fun u hu hne => ?_⟩
     rw [Xl _ _ hne]; exact hfree u hu
   · have hV : g.V = g.dv := by
       rcases H.gl.vd with h | h
       · exact h
       · obtain ⟨u, hu, a, b⟩ := H.mid h
         exact absurd ⟨by omega, by omega⟩ (hfree u hu)
     exact hold4 (by rw [Ql]) hV (by rw [Ql]; exact Int.le_of_eq (T.ii (by omega)).symm)
 · have e : Qg (z.wst t) = (⟨{ z.w t with does := 17 }, z.m, z.s⟩, false) := by
     simp [Qg, sayP, Sh.wst, hd, hth, h0]
   rw [QE (by omega) e]
   refine H.moved ht rfl (fun u hu hne => ⟨rfl, rfl⟩) ?_ (Qy (d := 17) rfl (by decide) ⟨rfl, rfl, rfl, rfl, rfl⟩) ?_ (by omega) (fun hh => absurd hh (Qu (d := 17) rfl (.inr (by decide))))
   · exact T.go (by omega) (d := 17) rfl ⟨by decide, by decide⟩ ⟨rfl, rfl, rfl, rfl, rfl⟩ ⟨T.v0, T.v1⟩ (fun _ => T.ii (by omega)) T.se (T.uns (by omega)) (T.sai (by omega)) (fun h => absurd h (by decide)) (fun h => absurd h (by decide)) (fun _ h => absurd h (by decide)) (fun h => absurd h (by decide)) (fun h => absurd h (by decide)) (fun h => absurd h (by decide)) (fun h => absurd h (by decide))
   · exact LockOK.keep H.lk ⟨fun h => absurd h (Qu (d := 17) rfl (.inr (by decide))), fun h => absurd h (Qu hd (.inl (by decide)))⟩
theorem Sum.told {D : List Vd} {R : Rec} (h : Sum K R D) (ht : t < 4) (hb : Qn R.tog t = 1 \/ R.whn.getD t 0 ≠ 0) : ∃ c v, QU c v /\ R.ans.getD t 0 = ansW c v /\ R.whn.getD t 0 ≠ 0 := by
 rcases h.each t ht with ⟨h0, h1, h2⟩ | ⟨i, h1, h2, h3, h4, h5, -⟩
 · rcases hb with hb | hb
   · rw [h.bit t ht, h0] at hb; exact absurd hb (by decide)
   · exact absurd h2 hb
 · exact ⟨_, _, h4, h5, by omega⟩
theorem ShInv.toldQ (H : ShInv K z g) (ht : t < 4) (hn : (z.w t).does ≠ 0) (hb : Qn g.Q.tog t = (z.w t).tog) : ∃ c v, QU c v /\ g.Q.ans.getD t 0 = ansW c v /\ g.Q.whn.getD t 0 ≠ 0 := by
 have T := H.th t ht
 refine H.gl.sumQ.told ht ?_
 have := T.tog hn
 rcases T.tg01 with h | h
 · exact .inl (by omega)
 · exact .inr (T.one h)
theorem Qcb {B : Int} {R : Rec} (h : RecOK B R) : fL R.words 26 = R.tog := (Qow R (XR h.ok) h.a4 h.w4).2.2
theorem SlotsOK.at {f : Nat -> Int} (h : SlotsOK f) (v : Int) : SlotOK f (Qq v) := by
 have hb : Qq v = 8 \/ Qq v = 40 := by unfold Qq; omega
 rcases hb with e | e <;> rw [e]
 · exact h.1
 · exact h.2
theorem Qka (H : ShInv K z g) (ht : t < 4) (hd : (z.w t).does = 17) : ShInv K (z.stepped t) g := by
 have T := H.th t ht
 have e : Qg (z.wst t) = (⟨{ z.w t with v := z.m 1, does := 18 }, z.m, z.s⟩, false) := by
   simp [Qg, Q1, Sh.wst, hd]
 rw [QE (by omega) e]
 refine H.moved ht rfl (fun u hu hne => ⟨rfl, rfl⟩) ?_ (Qy (d := 18) rfl (by decide) ⟨rfl, rfl, rfl, rfl, rfl⟩) ?_ (by omega) (fun hh => absurd hh (Qu (d := 18) rfl (.inr (by decide))))
 · have hv : 0 <= z.m 1 /\ z.m 1 <= g.dv := by rw [H.gl.done]; exact ⟨H.gl.v0, Int.le_refl _⟩
   exact T.go (by omega) (d := 18) rfl ⟨by decide, by decide⟩ ⟨rfl, rfl, rfl, rfl, rfl⟩ hv (fun _ => T.ii (by omega)) T.se (T.uns (by omega)) (T.sai (by omega)) (fun h => absurd h (by decide)) (fun h => absurd h (by decide)) (fun _ h => absurd h (by decide)) (fun h => absurd h (by decide)) (fun h => absurd h (by decide)) (fun h => absurd h (by decide)) (fun h => absurd h (by decide))
 · exact LockOK.keep H.lk ⟨fun h => absurd h (Qu (d := 18) rfl (.inr (by decide))), fun h => absurd h (Qu hd (.inr (by decide)))⟩
theorem Qj9 (H : ShInv K z g) (ht : t < 4) (hd : (z.w t).does = 18) : ShInv K (z.stepped t) g := by
 have T := H.th t ht
 have e : Qg (z.wst t) = (⟨{ z.w t with seen := putF (z.w t).seen 0 (z.s.now (Qq (z.w t).v + 26)), does := 19 }, z.m, z.s⟩, false) := by
   simp [Qg, Q1, Sh.wst, hd]
 rw [QE (by omega) e]
 refine H.moved ht rfl (fun u hu hne => ⟨rfl, rfl⟩) ?_ (Qy (d := 19) rfl (by decide) ⟨rfl, rfl, rfl, rfl, rfl⟩) ?_ (by omega) (fun hh => absurd hh (Qu (d := 19) rfl (.inr (by decide))))
 · refine T.go (by omega) (d := 19) rfl ⟨by decide, by decide⟩ ⟨rfl, rfl, rfl, rfl, rfl⟩ ⟨T.v0, T.v1⟩ (fun _ => T.ii (by omega)) ?_ (T.uns (by omega)) (T.sai (by omega)) (fun h => absurd h (by decide)) (fun h => absurd h (by decide)) (fun _ h => absurd h (by decide)) (fun _ hv => ?_) (fun h => absurd h (by decide)) (fun h => absurd h (by decide)) (fun h => absurd h (by decide))
   · dsimp only
     rw [Xd, Qv _ _ (by decide), Qv _ _ (by decide)]
     exact ⟨(H.gl.rNow.at _).1, T.se1, T.se2⟩
   · dsimp only at hv ⊢
     rw [Xd, hv, H.gl.nowQ 26 (by decide), Qcb H.gl.sumQ.ok]
 · exact LockOK.keep H.lk ⟨fun h => absurd h (Qu (d := 19) rfl (.inr (by decide))), fun h => absurd h (Qu hd (.inr (by decide)))⟩
theorem Qj8 (H : ShInv K z g) (ht : t < 4) (hd : (z.w t).does = 19) : ShInv K (z.stepped t) g := by
 have T := H.th t ht
 have hth := T.th
 have e : Qg (z.wst t) = (⟨{ z.w t with seen := putF (z.w t).seen 1 (z.s.now (Qq (z.w t).v + 18 + t)), does := 20 }, z.m, z.s⟩, false) := by
   simp [Qg, Q1, Sh.wst, hd, hth]
 rw [QE (by omega) e]
 refine H.moved ht rfl (fun u hu hne => ⟨rfl, rfl⟩) ?_ (Qy (d := 20) rfl (by decide) ⟨rfl, rfl, rfl, rfl, rfl⟩) ?_ (by omega) (fun hh => absurd hh (Qu (d := 20) rfl (.inr (by decide))))
 · refine T.go (by omega) (d := 20) rfl ⟨by decide, by decide⟩ ⟨rfl, rfl, rfl, rfl, rfl⟩ ⟨T.v0, T.v1⟩ (fun _ => T.ii (by omega)) ?_ (T.uns (by omega)) (T.sai (by omega)) (fun h => absurd h (by decide)) (fun h => absurd h (by decide)) (fun _ h => absurd h (by decide)) (fun _ hv => ?_) (fun _ hv => ?_) (fun h => absurd h (by decide)) (fun h => absurd h (by decide))
   · dsimp only
     rw [Qv _ _ (by decide), Xd, Qv _ _ (by decide)]
     exact ⟨T.se0, ((H.gl.rNow.at _).2 t ht).1, T.se2⟩
   · dsimp only at hv ⊢
     rw [Qv _ _ (by decide)]; exact T.lk2 (by omega) hv
   · dsimp only at hv ⊢
     rw [Xd, hv, Nat.add_assoc, H.gl.nowQ (18 + t) (by omega), Qgb H.gl.sumQ.ok t ht]; rfl
 · exact LockOK.keep H.lk ⟨fun h => absurd h (Qu (d := 20) rfl (.inr (by decide))), fun h => absurd h (Qu hd (.inr (by decide)))⟩
theorem Qj7 (H : ShInv K z g) (ht : t < 4) (hd : (z.w t).does = 20) : ShInv K (z.stepped t) g := by
 have T := H.th t ht
 have hth := T.th
 have e : Qg (z.wst t) = (⟨{ z.w t with seen := putF (z.w t).seen 2 (z.s.now (Qq (z.w t).v + 22 + t)), does := 21 }, z.m, z.s⟩, false) := by
   simp [Qg, Q1, Sh.wst, hd, hth]
 rw [QE (by omega) e]
 refine H.moved ht rfl (fun u hu hne => ⟨rfl, rfl⟩) ?_ (Qy (d := 21) rfl (by decide) ⟨rfl, rfl, rfl, rfl, rfl⟩) ?_ (by omega) (fun hh => absurd hh (Qu (d := 21) rfl (.inr (by decide))))
 · refine T.go (by omega) (d := 21) rfl ⟨by decide, by decide⟩ ⟨rfl, rfl, rfl, rfl, rfl⟩ ⟨T.v0, T.v1⟩ (fun _ => T.ii (by omega)) ?_ (T.uns (by omega)) (T.sai (by omega)) (fun h => absurd h (by decide)) (fun h => absurd h (by decide)) (fun _ h => absurd h (by decide)) (fun _ hv => ?_) (fun _ hv => ?_) (fun _ hv => ?_) (fun h => absurd h (by decide))
   · dsimp only
     rw [Qv _ _ (by decide), Qv _ _ (by decide), Xd]
     exact ⟨T.se0, T.se1, ((H.gl.rNow.at _).2 t ht).2⟩
   · dsimp only at hv ⊢
     rw [Qv _ _ (by decide)]; exact T.lk2 (by omega) hv
   · dsimp only at hv ⊢
     rw [Qv _ _ (by decide)]; exact T.lk3 (by omega) hv
   · dsimp only at hv ⊢
     rw [Xd, hv, Nat.add_assoc, H.gl.nowQ (22 + t) (by omega), Qga H.gl.sumQ.ok t ht]; rfl
 · exact LockOK.keep H.lk ⟨fun h => absurd h (Qu (d := 21) rfl (.inr (by decide))), fun h => absurd h (Qu hd (.inr (by decide)))⟩
theorem ShInv.answer (H : ShInv K z g) (ht : t < 4) (hn : (z.w t).does ≠ 0) (hh : ¬ Xx (z.w t)) (hb : Qn g.Q.tog t = (z.w t).tog) {w' : Wk} (e0 : w'.does = 0) (e : w'.th = (z.w t).th /\ w'.tog = (z.w t).tog /\ w'.seen = (z.w t).seen /\ w'.v = (z.w t).v /\ w'.i = (z.w t).i) (hi : (z.w t).i = 0) :
   ShInv K ((z.moved t ⟨w', z.m, z.s⟩).answered t w') g := by
 have T := H.th t ht
 obtain ⟨e1, e2, e3, e4, e5⟩ := e
 have hr := T.qr hn hb
 have hg := T.tog hn
 obtain ⟨c, v, -, -, hw⟩ := H.toldQ ht hn hb
 have := H.local ht (w' := w') (m' := z.m) (st := z.steps + 1) (hs := z.hist ++ [⟨2, t, w'.k, w'.key, w'.x, w'.oc, w'.ov, w'.whn, z.steps + 1⟩]) (by omega) rfl (fun u hu hne => ⟨rfl, rfl⟩) w'.tog ?_ (fun _ _ h => absurd hr h) (LockOK.keep H.lk ⟨fun h => absurd h (Qu e0 (.inl (by decide))), fun h => absurd h hh⟩) (fun h => hh ⟨by omega, by omega⟩) (fun h => absurd h (Qu e0 (.inl (by decide))))
 · exact this
 · exact
     { th := e1.trans T.th, d0 := by omega, d21 := by omega
       tg01 := by have := T.tg01; omega
       one := fun _ => hw
       v0 := by rw [e4]; exact T.v0
       v1 := by rw [e4]; exact T.v1
       ii := fun _ => e5.trans hi
       se0 := by rw [e3]; exact T.se0
       se1 := by rw [e3]; exact T.se1
       se2 := by rw [e3]; exact T.se2
       idle := fun _ => by
         refine ⟨by rw [e2]; exact hr, by rw [e2]; exact hb, ?_⟩
         cases hs : (z.w t).said
         · rcases T.uns hn hs with h | ⟨-, -, h⟩
           · exact .inl h
           · exact absurd hb (by omega)
         · rw [e2]; exact .inr (T.sai hn hs).1
       op := by intros; omega
       tog := by intros; omega
       qr := by intros; omega
       uns := by intros; omega
       sai := by intros; omega
       two := by intros; omega
       s12 := by intros; omega
       s3 := by intros; omega
       lk2 := by intros; omega
       lk3 := by intros; omega
       lk4 := by intros; omega
       rep := by intros; omega }
theorem Qj6 (H : ShInv K z g) (ht : t < 4) (hd : (z.w t).does = 21) : ShInv K (z.stepped t) g := by
 have T := H.th t ht
 have hth := T.th
 by_cases hc : z.m 1 = (z.w t).v /\ Qn ((z.w t).seen 0) t = (z.w t).tog
 · have e : Qg (z.wst t) = (⟨{ z.w t with oc := (z.w t).seen 1 / 4294967296 % 4294967296, ov := (z.w t).seen 1 % 4294967296, whn := (z.w t).seen 2, does := 0 }, z.m, z.s⟩, true) := by
     have h1 : (z.wst t).m 1 = (z.wst t).w.v /\ Qn ((z.wst t).w.seen 0) (z.wst t).w.th = (z.wst t).w.tog := ⟨hc.1, by show Qn ((z.w t).seen 0) (z.w t).th = _; rw [hth]; exact hc.2⟩
     have h2 : Qg (z.wst t) = Q1 (z.wst t) := by simp [Qg, Sh.wst, hd]
     rw [h2, Qhq _ hd, if_pos h1]; rfl
   rw [QcZ (by omega) e]
   have hv : (z.w t).v = g.dv := by rw [<- hc.1]; exact H.gl.done
   refine H.answer ht (by omega) (Qu hd (.inr (by decide))) ?_ rfl ⟨rfl, rfl, rfl, rfl, rfl⟩ (T.ii (by omega))
   rw [<- T.lk2 (by omega) hv]; exact hc.2
 · have e : Qg (z.wst t) = (⟨{ z.w t with does := if (z.w t).said then 3 else 1 }, z.m, z.s⟩, false) := by
     have h1 : ¬ ((z.wst t).m 1 = (z.wst t).w.v /\ Qn ((z.wst t).w.seen 0) (z.wst t).w.th = (z.wst t).w.tog) := fun h => hc ⟨h.1, by have h2 : Qn ((z.w t).seen 0) (z.w t).th = _ := h.2; rw [hth] at h2; exact h2⟩
     have h2 : Qg (z.wst t) = Q1 (z.wst t) := by simp [Qg, Sh.wst, hd]
     rw [h2, Qhq _ hd, if_neg h1]; rfl
   rw [QE (by omega) e]
   cases hs : (z.w t).said
   · rw [if_neg (by decide)]
     refine H.moved ht rfl (fun u hu hne => ⟨rfl, rfl⟩) ?_ (Qy (d := 1) rfl (by decide) ⟨rfl, rfl, rfl, rfl, rfl⟩) ?_ (by omega) (fun hh => absurd hh (Qu (d := 1) rfl (.inl (by decide))))
     · exact T.go (by omega) (d := 1) rfl ⟨by decide, by decide⟩ ⟨rfl, rfl, rfl, rfl, rfl⟩ ⟨T.v0, T.v1⟩ (fun _ => T.ii (by omega)) T.se (T.uns (by omega)) (T.sai (by omega)) (fun h => absurd h (by decide)) (fun _ => hs) (fun h => absurd h (by decide)) (fun h => absurd h (by decide)) (fun h => absurd h (by decide)) (fun h => absurd h (by decide)) (fun h => absurd h (by decide))
     · exact LockOK.keep H.lk ⟨fun h => absurd h (Qu (d := 1) rfl (.inl (by decide))), fun h => absurd h (Qu hd (.inr (by decide)))⟩
   · rw [if_pos rfl]
     refine H.moved ht rfl (fun u hu hne => ⟨rfl, rfl⟩) ?_ (Qy (d := 3) rfl (by decide) ⟨rfl, rfl, rfl, rfl, rfl⟩) ?_ (by omega) (fun hh => absurd hh (Qu (d := 3) rfl (.inl (by decide))))
     · exact T.go (by omega) (d := 3) rfl ⟨by decide, by decide⟩ ⟨rfl, rfl, rfl, rfl, rfl⟩ ⟨T.v0, T.v1⟩ (fun _ => T.ii (by omega)) T.se (T.uns (by omega)) (T.sai (by omega)) (fun h => absurd h (by decide)) (fun h => absurd h (by decide)) (fun _ _ => hs) (fun h => absurd h (by decide)) (fun h => absurd h (by decide)) (fun h => absurd h (by decide)) (fun h => absurd h (by decide))
     · exact LockOK.keep H.lk ⟨fun h => absurd h (Qu (d := 3) rfl (.inl (by decide))), fun h => absurd h (Qu hd (.inr (by decide)))⟩
theorem QlM (H : ShInv K z g) (ht : t < 4) (hd : (z.w t).does = 16) : ShInv K (z.stepped t) g := by
 have T := H.th t ht
 have e : Qg (z.wst t) = (⟨{ z.w t with does := 0 }, z.m, z.s⟩, true) := by
   simp [Qg, Qbo, Sh.wst, hd]
 rw [QcZ (by omega) e]
 exact H.answer ht (by omega) (Qu hd (.inr (by decide))) (T.rep hd).1.bit rfl ⟨rfl, rfl, rfl, rfl, rfl⟩ (T.ii (by omega))
end
end
section
theorem QmG : ∀ {l : List Ask} {lo n : Nat}, l.Pairwise (fun a b => a.t < b.t) -> (∀ a ∈ l, lo <= a.t /\ a.t < n) -> l.length <= n - lo
 | [], _, _, _, _ => Nat.zero_le _
 | a :: l, lo, n, h, hb => by
   rw [List.pairwise_cons] at h
   have h1 := hb a List.mem_cons_self
   have := QmG (lo := a.t + 1) (n := n) h.2 (fun b hm => ⟨h.1 b hm, (hb b (List.mem_cons_of_mem _ hm)).2⟩)
   rw [List.length_cons]; omega
theorem Sum.whn_iff {K : Int} {R : Rec} {D : List Vd} (h : Sum K R D) {t : Nat} (ht : t < 4) : R.whn.getD t 0 ≠ 0 ↔ cntT t D ≠ 0 := by
 rcases h.each t ht with ⟨h0, h1, h2⟩ | ⟨i, h1, h2, h3, h4, h5, -⟩
 · exact ⟨fun h => absurd h2 h, fun h => absurd h0 h⟩
 · refine ⟨fun _ h => ?_, fun _ => by omega⟩
   unfold cntT at h
   rw [List.countP_eq_zero] at h
   rw [List.getD_eq_getElem?_getD, List.getElem?_eq_getElem h2] at h3
   exact h _ (List.getElem_mem h2) (by simpa using h3)
theorem Qiu (t : Nat) (D E : List Vd) : cntT t (D ++ E) = cntT t D + cntT t E := by unfold cntT; exact List.countP_append
theorem Sum.whn_mono {K : Int} {R R' : Rec} {D E : List Vd} (h : Sum K R D) (h' : Sum K R' (D ++ E)) {t : Nat} (ht : t < 4) (hw : R.whn.getD t 0 ≠ 0) : R'.whn.getD t 0 ≠ 0 := by
 rw [h'.whn_iff ht, Qiu]
 have := (h.whn_iff ht).1 hw
 omega
section
variable {K : Int} {z : Sh} {g : Gh} {t : Nat}
theorem Want.okA (H : ShInv K z g) {R : Rec} {a : Ask} (h : Want z.w R a) : a.ok := by
 have T := H.th a.t h.t4
 refine ⟨h.t4, ?_, ?_⟩
 · have h1 := T.tog h.act
   have h2 := T.tg01
   rw [h.tog] at h1
   omega
 · have := T.op h.act
   rw [h.k, h.key, h.x] at this; exact this
theorem Gath.okA (H : ShInv K z g) {R : Rec} {h : Nat} {l : List Ask} {i : Nat} (hg : Gath z.w R h l i) : AsksOK l := fun a ha => (hg.want a ha).okA H
theorem Gath.len {W : Nat -> Wk} {R : Rec} {h : Nat} {l : List Ask} {i : Nat} (hg : Gath W R h l i) : l.length <= i :=
 QmG (lo := 0) hg.asc (fun a ha => ⟨Nat.zero_le _, hg.lt a ha⟩)
theorem Gath.mine (H : ShInv K z g) {R : Rec} {D : List Vd} (hR : Sum K R D) (ht : t < 4) {l : List Ask} (hg : Gath z.w R t l 4) : Qn (bR R l).tog t = (z.w t).tog := by
 have hok := hg.okA H
 by_cases h : ∃ a ∈ l, a.t = t
 · obtain ⟨a, ha, e⟩ := h
   have h1 := Qiy hR.ok hok (hg.asc.imp (fun h => Nat.ne_of_lt h)) a ha
   have h2 : Qn (bR R l).tog a.t = a.g := by simpa [bOpen] using h1
   rw [<- e, h2]; exact ((hg.want a ha).tog).symm
 · rcases hg.own ht with h1 | h1
   · rw [(QgX hR.ok hok t ht (fun a ha e => h ⟨a, ha, e⟩)).2.2]; exact h1
   · exact absurd h1 h
theorem Glob.next (G : Glob K z g) (hs : z.steps < 100000000) {l : List Ask} (hok : AsksOK l) : Sum K (bDo g.R l) (z.deeds ++ (bD g.R l).map (Vd.mk (g.V + 1))) /\ (bDo g.R l).ver = g.V + 1 := by
 have h1 := G.sumR.batch (g.V + 1) hok
 have h2 := QhS l g.R
 have h3 := G.verR
 have h4 := G.vb
 have h5 := G.v0
 have h6 := G.vd
 refine ⟨h1.at (by omega) (by omega), ?_⟩
 show (bR g.R l).ver + 1 = _
 omega
theorem QeW {f : Nat -> Int} {R : Rec} {B : Int} (h : RecOK B R) (e : ∀ j, j < 32 -> f j = fL R.words j) : toN 32 f = R.words :=
 (Qdg e).trans (Qa9 (Rec.words_len h))
theorem Qhw (H : ShInv K z g) (ht : t < 4) (hs : z.steps < 100000000) {w0 : Wk} (hd : 6 <= (z.w t).does) (hd2 : (z.w t).does <= 7) (hV : g.V = g.dv) (hv : (z.w t).v = g.dv) (hi : 0 <= (z.w t).i) (hi4 : (z.w t).i < 4) (hr : ∀ j, j < 32 -> (z.w t).r j = fL g.R.words j)
   {l : List Ask} (h0 : w0 = { z.w t with asks := l, does := 6 }) (hG : Gath z.w g.R t l ((z.w t).i.toNat + 1)) : ShInv K (z.moved t ⟨(Wk.next w0 4 8).all, z.m, z.s⟩) g := by
 have T := H.th t ht
 have hth := T.th
 subst h0
 have hho : Xx (z.w t) := ⟨by omega, by omega⟩
 unfold Wk.next
 by_cases e4 : (z.w t).i + 1 = 4
 · rw [if_pos (by exact e4)]
   have hrec : Qlf (z.w t).r = g.R := QiQ H.gl.sumR.ok (by have := H.gl.cb; omega) (QeW H.gl.sumR.ok hr)
   unfold Wk.all
   rw [if_pos rfl]
   dsimp only
   rw [hrec]
   have hG4 : Gath z.w g.R t l 4 := by rw [show (4 : Nat) = (z.w t).i.toNat + 1 by omega]; exact hG
   have hok := hG4.okA H
   have hN := (H.gl.next hs hok).1
   have hbit : Qn (bDo g.R l).tog t = (z.w t).tog := hG4.mine H H.gl.sumR ht
   have htold : ∃ c v, QU c v /\ (bDo g.R l).ans.getD t 0 = ansW c v /\ (bDo g.R l).whn.getD t 0 ≠ 0 := by
     refine hN.told ht ?_
     have h1 := T.tog (by omega)
     rcases T.tg01 with h | h
     · exact .inl (by rw [hbit]; omega)
     · refine .inr (H.gl.sumR.whn_mono hN ht ?_)
       rw [(H.gl.same hV).1]; exact T.one h
   obtain ⟨c, v, hA, ha, -⟩ := htold
   have hc := Qgc hA
   refine H.moved ht rfl (fun u hu hne => ⟨rfl, rfl⟩) ?_ (Qy (d := 8) rfl (by decide) ⟨rfl, rfl, rfl, rfl, rfl⟩) (LockOK.keep H.lk ⟨fun _ => hho, fun _ => ⟨by show (4 : Int) <= 8; decide, by show (8 : Int) <= 15; decide⟩⟩) (by omega) (fun hh => ?_)
   · exact T.busy (by omega) (by omega) ⟨rfl, rfl, rfl, rfl, rfl, rfl, rfl⟩ ⟨T.v0, T.v1⟩ (d := 8) rfl (fun h => absurd h (by decide)) (by decide) (by decide)
   · refine hold8 (by rw [Ql]) hV (by rw [Ql]; exact hv) (by rw [Ql]; exact Int.le_refl 0) ⟨?_, ?_, ?_, ?_⟩ ?_
     · rw [Ql]
       exact hG4.other (Qy (d := 8) rfl (by decide) ⟨rfl, rfl, rfl, rfl, rfl⟩) (fun _ => rfl)
     · rw [Ql]
     · rw [Ql]; exact fun j _ => rfl
     · rw [Ql]
       have ew : fL (bDo g.R l).words (18 + t) = ansW c v := (Qgb hN.ok t ht).trans ha
       refine ⟨hbit, ?_, ?_, ?_⟩
       · show QU (fL (bDo g.R l).words (18 + (z.w t).th) / 4294967296 % 4294967296) (fL (bDo g.R l).words (18 + (z.w t).th) % 4294967296)
         rw [hth, ew, hc.1, hc.2.1]; exact hA
       · show _ = ansW (fL (bDo g.R l).words (18 + (z.w t).th) / 4294967296 % 4294967296) (fL (bDo g.R l).words (18 + (z.w t).th) % 4294967296)
         rw [hth, ew, hc.1, hc.2.1]; exact ha
       · show _ = fL (bDo g.R l).words (22 + (z.w t).th)
         rw [hth, Qga hN.ok t ht]; rfl
     · rw [Ql]
       exact ⟨by show (0 : Int) < 32; decide, fun j hj => by have hj : (j : Int) < 0 := hj; omega⟩
 · rw [if_neg (by exact e4), Wk.all_not (by show (6 : Int) ≠ 8; decide)]
   refine H.moved ht rfl (fun u hu hne => ⟨rfl, rfl⟩) ?_ (Qy (d := 6) rfl (by decide) ⟨rfl, rfl, rfl, rfl, rfl⟩) (LockOK.keep H.lk ⟨fun _ => hho, fun _ => ⟨by show (4 : Int) <= 6; decide, by show (6 : Int) <= 15; decide⟩⟩) (by omega) (fun hh => ?_)
   · exact T.busy (by omega) (by omega) ⟨rfl, rfl, rfl, rfl, rfl, rfl, rfl⟩ ⟨T.v0, T.v1⟩ (d := 6) rfl (fun h => absurd h (by decide)) (by decide) (by decide)
   · refine hold6 (by rw [Ql]) hV (by rw [Ql]; exact hv) (by rw [Ql]; show 0 <= (z.w t).i + 1; omega) ?_
     rw [Ql]
     refine ⟨by show (z.w t).i + 1 < 4; omega, hr, ?_⟩
     show Gath _ g.R t l ((z.w t).i + 1).toNat
     rw [show ((z.w t).i + 1).toNat = (z.w t).i.toNat + 1 by omega]
     exact hG.other (Qy (d := 6) rfl (by decide) ⟨rfl, rfl, rfl, rfl, rfl⟩) (fun _ => rfl)
theorem QlS (H : ShInv K z g) (ht : t < 4) (hd : (z.w t).does = 4) : ShInv K (z.stepped t) g := by
 have T := H.th t ht
 have hho : Xx (z.w t) := ⟨by omega, by omega⟩
 have O := H.ho t ht hho
 have hV := O.low (.inl (by omega))
 have e : Qg (z.wst t) = (⟨{ z.w t with v := z.m 1, i := 0, does := 5, asks := [] }, z.m, z.s⟩, false) := by
   simp [Qg, Qay, Sh.wst, hd]
 rw [QE (by omega) e]
 have hv : 0 <= z.m 1 /\ z.m 1 <= g.dv := by rw [H.gl.done]; exact ⟨H.gl.v0, Int.le_refl _⟩
 refine H.moved ht rfl (fun u hu hne => ⟨rfl, rfl⟩) ?_ (Qy (d := 5) rfl (by decide) ⟨rfl, rfl, rfl, rfl, rfl⟩) (LockOK.keep H.lk ⟨fun _ => hho, fun _ => ⟨by show (4 : Int) <= 5; decide, by show (5 : Int) <= 15; decide⟩⟩) (by omega) (fun hh => ?_)
 · exact T.busy (by omega) (by omega) ⟨rfl, rfl, rfl, rfl, rfl, rfl, rfl⟩ hv (d := 5) rfl (fun h => absurd h (by decide)) (by decide) (by decide)
 · refine hold5 (by rw [Ql]) hV (by rw [Ql]; exact H.gl.done) (by rw [Ql]; exact Int.le_refl 0) ?_
   rw [Ql]
   exact ⟨by show (0 : Int) < 32; decide, rfl, fun j hj => by have hj : (j : Int) < 0 := hj; omega⟩
theorem QlR (H : ShInv K z g) (ht : t < 4) (hd : (z.w t).does = 5) : ShInv K (z.stepped t) g := by
 have T := H.th t ht
 have hho : Xx (z.w t) := ⟨by omega, by omega⟩
 have O := H.ho t ht hho
 have hV := O.low (.inl (by omega))
 have hv := O.ver (by omega) (by omega)
 have hi := O.i0 (by omega)
 obtain ⟨h32, has, hr⟩ := O.i5 hd
 have e : Qg (z.wst t) = (⟨Wk.next { z.w t with r := putF (z.w t).r (z.w t).i.toNat (z.s.now (Qq (z.w t).v + (z.w t).i.toNat)) } 32 6, z.m, z.s⟩, false) := by
   simp [Qg, Qay, Sh.wst, hd]
 rw [QE (by omega) e]
 have hr' : ∀ j : Nat, (j : Int) < (z.w t).i + 1 -> putF (z.w t).r (z.w t).i.toNat (z.s.now (Qq (z.w t).v + (z.w t).i.toNat)) j = fL g.R.words j := fun j hj => by
   by_cases ej : j = (z.w t).i.toNat
   · subst ej
     rw [Xd, hv, <- hV]
     exact H.gl.nowR _ (by omega)
   · rw [Qv _ _ ej]; exact hr j (by omega)
 unfold Wk.next
 by_cases e4 : (z.w t).i + 1 = 32
 · rw [if_pos (by exact e4)]
   refine H.moved ht rfl (fun u hu hne => ⟨rfl, rfl⟩) ?_ (Qy (d := 6) rfl (by decide) ⟨rfl, rfl, rfl, rfl, rfl⟩) (LockOK.keep H.lk ⟨fun _ => hho, fun _ => ⟨by show (4 : Int) <= 6; decide, by show (6 : Int) <= 15; decide⟩⟩) (by omega) (fun hh => ?_)
   · exact T.busy (by omega) (by omega) ⟨rfl, rfl, rfl, rfl, rfl, rfl, rfl⟩ ⟨T.v0, T.v1⟩ (d := 6) rfl (fun h => absurd h (by decide)) (by decide) (by decide)
   · refine hold6 (by rw [Ql]) hV (by rw [Ql]; exact hv) (by rw [Ql]; exact Int.le_refl 0) ?_
     rw [Ql]
     refine ⟨by show (0 : Int) < 4; decide, fun j hj => hr' j (by omega), ?_⟩
     show Gath _ g.R t (z.w t).asks 0
     rw [has]
     exact ⟨List.Pairwise.nil, fun a ha => (by cases ha), fun a ha => (by cases ha), fun h => absurd h (Nat.not_lt_zero _)⟩
 · rw [if_neg (by exact e4)]
   refine H.moved ht rfl (fun u hu hne => ⟨rfl, rfl⟩) ?_ (Qy (d := 5) hd (by decide) ⟨rfl, rfl, rfl, rfl, rfl⟩) (LockOK.keep H.lk ⟨fun _ => hho, fun _ => ⟨by show (4 : Int) <= (z.w t).does; omega, by show (z.w t).does <= 15; omega⟩⟩) (by omega) (fun hh => ?_)
   · exact T.busy (by omega) (by omega) ⟨rfl, rfl, rfl, rfl, rfl, rfl, rfl⟩ ⟨T.v0, T.v1⟩ (d := 5) hd (fun h => absurd h (by decide)) (by decide) (by decide)
   · refine hold5 (by rw [Ql]; exact hd) hV (by rw [Ql]; exact hv) (by rw [Ql]; show 0 <= (z.w t).i + 1; omega) ?_
     rw [Ql]
     exact ⟨by show (z.w t).i + 1 < 32; omega, has, hr'⟩
theorem ShInv.wants (H : ShInv K z g) {u : Nat} (hu : u < 4) (h0 : z.m (3 + 2 * u) ≠ 0) (h1 : z.m (3 + 2 * u) - 1 ≠ Qn g.R.tog u) : (z.w u).does ≠ 0 /\ (z.w u).said = true /\ z.m (3 + 2 * u) - 1 = (z.w u).tog /\ z.m (2 + 2 * u) = opW (z.w u).k (z.w u).key (z.w u).x := by
 have T := H.th u hu
 have hn : (z.w u).does ≠ 0 := fun h => by
   obtain ⟨a, -, b⟩ := T.idle h
   rcases b with b | b <;> omega
 cases hs : (z.w u).said
 · rcases T.uns hn hs with h | ⟨h, h2, -⟩
   · exact absurd h h0
   · exact absurd h2 (by omega)
 · have := T.sai hn hs
   exact ⟨hn, rfl, by omega, this.2⟩
theorem QlQ (H : ShInv K z g) (ht : t < 4) (hs : z.steps < 100000000) (hd : (z.w t).does = 6) : ShInv K (z.stepped t) g := by
 have T := H.th t ht
 have hho : Xx (z.w t) := ⟨by omega, by omega⟩
 have O := H.ho t ht hho
 have hV := O.low (.inl (by omega))
 have hv := O.ver (by omega) (by omega)
 have hi := O.i0 (by omega)
 obtain ⟨h4, hr, hG⟩ := O.i6 hd
 have h26 : (z.w t).r 26 = g.R.tog := (hr 26 (by decide)).trans (Qcb H.gl.sumR.ok)
 have hu : (z.w t).i.toNat < 4 := by omega
 by_cases hc : z.m (3 + 2 * (z.w t).i.toNat) ≠ 0 /\ z.m (3 + 2 * (z.w t).i.toNat) - 1 ≠ Qn ((z.w t).r 26) (z.w t).i.toNat
 · have e : Qg (z.wst t) = (⟨{ z.w t with asks := (z.w t).asks ++ [⟨(z.w t).i.toNat, z.m (3 + 2 * (z.w t).i.toNat) - 1, 0, 0, 0⟩], does := 7 }, z.m, z.s⟩, false) := by
     have h2 : Qg (z.wst t) = (Qay (z.wst t), false) := by simp [Qg, Sh.wst, hd]
     rw [h2]
     unfold Qay
     rw [if_neg (by show ¬ (z.w t).does = 4; omega), if_neg (by show ¬ (z.w t).does = 5; omega), if_pos (by exact hd), if_pos (by exact hc)]; rfl
   rw [QE (by omega) e]
   obtain ⟨w1, w2, w3, w4⟩ := H.wants hu hc.1 (by rw [<- h26]; exact hc.2)
   refine H.moved ht rfl (fun u hu hne => ⟨rfl, rfl⟩) ?_ (Qy (d := 7) rfl (by decide) ⟨rfl, rfl, rfl, rfl, rfl⟩) (LockOK.keep H.lk ⟨fun _ => hho, fun _ => ⟨by show (4 : Int) <= 7; decide, by show (7 : Int) <= 15; decide⟩⟩) (by omega) (fun hh => ?_)
   · exact T.busy (by omega) (by omega) ⟨rfl, rfl, rfl, rfl, rfl, rfl, rfl⟩ ⟨T.v0, T.v1⟩ (d := 7) rfl (fun h => absurd h (by decide)) (by decide) (by decide)
   · generalize hw' : ({ z.w t with asks := (z.w t).asks ++ [⟨(z.w t).i.toNat, z.m (3 + 2 * (z.w t).i.toNat) - 1, 0, 0, 0⟩], does := 7 } : Wk) = w'
     have f1 : w'.does = 7 /\ w'.v = (z.w t).v /\ w'.i = (z.w t).i /\ w'.r = (z.w t).r /\ w'.asks = (z.w t).asks ++ [⟨(z.w t).i.toNat, z.m (3 + 2 * (z.w t).i.toNat) - 1, 0, 0, 0⟩] /\ w'.tog = (z.w t).tog /\ w'.said = (z.w t).said /\ w'.k = (z.w t).k /\ w'.key = (z.w t).key /\ w'.x = (z.w t).x := by
       subst hw'; exact ⟨rfl, rfl, rfl, rfl, rfl, rfl, rfl, rfl, rfl, rfl⟩
     obtain ⟨f1, f2, f3, f4, f5, f6, f7, f8, f9, f10⟩ := f1
     have key : (setF z.w t w' (z.w t).i.toNat).does ≠ 0 /\ (setF z.w t w' (z.w t).i.toNat).said = true /\ (setF z.w t w' (z.w t).i.toNat).tog = (z.w (z.w t).i.toNat).tog := by
       by_cases eu : (z.w t).i.toNat = t
       · rw [eu, Ql, f1, f6, f7]
         rw [eu] at w2
         exact ⟨by decide, w2, rfl⟩
       · rw [Xl _ _ eu]; exact ⟨w1, w2, rfl⟩
     refine hold7 (by rw [Ql]; exact f1) hV (by rw [Ql, f2]; exact hv) (by rw [Ql, f3]; exact hi) ?_
     rw [Ql, f3, f4, f5, key.2.2]
     exact ⟨h4, hr, (z.w t).asks, by rw [w3], hG.other (Qy f1 (by decide) ⟨f6, f7, f8, f9, f10⟩) (fun _ => f6), key.1, key.2.1, by rw [<- w3, <- h26]; exact fun h => hc.2 h.symm⟩
 · have e : Qg (z.wst t) = (⟨(Wk.next (z.w t) 4 8).all, z.m, z.s⟩, false) := by
     have h2 : Qg (z.wst t) = (Qay (z.wst t), false) := by simp [Qg, Sh.wst, hd]
     rw [h2]
     unfold Qay
     rw [if_neg (by show ¬ (z.w t).does = 4; omega), if_neg (by show ¬ (z.w t).does = 5; omega), if_pos (by exact hd), if_neg (by exact hc)]; rfl
   rw [QE (by omega) e]
   have h0 : z.w t = { z.w t with asks := (z.w t).asks, does := 6 } := by rw [<- hd]
   refine Qhw H ht hs (by omega) (by omega) hV hv hi h4 hr h0 ⟨hG.asc, fun a ha => Nat.lt_succ_of_lt (hG.lt a ha), hG.want, fun hlt => ?_⟩
   by_cases eu : (z.w t).i.toNat = t
   · refine .inl ?_
     have h1 := T.sai (by omega) (T.s3 (by omega) (by omega))
     have h2 := T.tog (by omega)
     have h3 := T.tg01
     rw [h26, eu] at hc
     refine Classical.byContradiction fun hne => hc ⟨by omega, fun h => hne (by omega)⟩
   · exact hG.own (by omega)
theorem QlP (H : ShInv K z g) (ht : t < 4) (hs : z.steps < 100000000) (hd : (z.w t).does = 7) : ShInv K (z.stepped t) g := by
 have T := H.th t ht
 have hho : Xx (z.w t) := ⟨by omega, by omega⟩
 have O := H.ho t ht hho
 have hV := O.low (.inl (by omega))
 have hv := O.ver (by omega) (by omega)
 have hi := O.i0 (by omega)
 obtain ⟨h4, hr, l, hl, hG, w1, w2, w3⟩ := O.i7 hd
 have hu : (z.w t).i.toNat < 4 := by omega
 have U := H.th _ hu
 have hop := QiT (U.op w1)
 have hmo := (U.sai w1 w2).2
 have e : Qg (z.wst t) = (⟨(Wk.next { z.w t with asks := l ++ [⟨(z.w t).i.toNat, (z.w (z.w t).i.toNat).tog, (z.w (z.w t).i.toNat).k, (z.w (z.w t).i.toNat).key, (z.w (z.w t).i.toNat).x⟩], does := 6 } 4 8).all, z.m, z.s⟩, false) := by
   have h2 : Qg (z.wst t) = (Qay (z.wst t), false) := by simp [Qg, Sh.wst, hd]
   rw [h2]
   unfold Qay
   rw [if_neg (by show ¬ (z.w t).does = 4; omega), if_neg (by show ¬ (z.w t).does = 5; omega), if_neg (by show ¬ (z.w t).does = 6; omega)]
   show ((⟨(Wk.next { z.w t with asks := Xq (z.w t).asks (z.m (2 + 2 * (z.w t).i.toNat) / 281474976710656 % 65536) (z.m (2 + 2 * (z.w t).i.toNat) / 4294967296 % 65536) (z.m (2 + 2 * (z.w t).i.toNat) % 4294967296), does := 6 } 4 8).all, z.m, z.s⟩ : WSt), false) = _
   rw [hl, Qbr, hmo, hop.1, hop.2.1, hop.2.2.1]
 rw [QE (by omega) e]
 refine Qhw H ht hs (by omega) (by omega) hV hv hi h4 hr rfl ⟨?_, fun a ha => ?_, fun a ha => ?_, fun hlt => ?_⟩
 · exact List.pairwise_append.2 ⟨hG.asc, List.pairwise_singleton _ _, fun a ha b hb => by obtain rfl := List.mem_singleton.1 hb; exact hG.lt a ha⟩
 · rcases List.mem_append.1 ha with ha | ha
   · exact Nat.lt_succ_of_lt (hG.lt a ha)
   · obtain rfl := List.mem_singleton.1 ha; exact Nat.lt_succ_self _
 · rcases List.mem_append.1 ha with ha | ha
   · exact hG.want a ha
   · obtain rfl := List.mem_singleton.1 ha; exact ⟨hu, w1, w2, rfl, rfl, rfl, rfl, w3⟩
 · by_cases eu : (z.w t).i.toNat = t
   · exact .inr ⟨_, List.mem_append_right _ (List.mem_singleton.2 rfl), eu⟩
   · rcases hG.own (by omega) with h | ⟨a, ha, h⟩
     · exact .inl h
     · exact .inr ⟨a, List.mem_append_left _ ha, h⟩
end
end
end Go.Proofs.YtddbkioejhidoaaGreatDoor
