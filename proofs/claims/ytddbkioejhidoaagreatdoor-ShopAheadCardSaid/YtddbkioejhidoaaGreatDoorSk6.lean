/- What the proof leans on, gathered. -/
import Derived.Test.YtddbkioejhidoaaGreatDoorRows
import Derived.Test.YtddbkioejhidoaaGreatDoorProg
import Derived.ChangeVars
import Derived.JoinedOf
import Derived.RowKit
import Derived.LaidLaws
import Derived.LaidHandle
import Derived.Stop.Joined
import Derived.Deep.Slices
import Derived.Deep.Fields
import Derived.ChangeSame
import Derived.ProofKit
import Derived.Test.YtddbkioejhidoaaGreatDoorSk5
namespace Go.Proofs.YtddbkioejhidoaaGreatDoor
set_option linter.unusedVariables false
set_option maxRecDepth 100000
set_option maxHeartbeats 8000000
section
open Go.RowKit
theorem craH : (Con.mem craC.sh).holds Tryz.prog 50 := fun w0 S => craC.lift (Qpm w0 S) (by decide) (fun x _ => Xc x) (fun _ => rfl) (fun _ _ _ _ _ _ _ _ => ⟨rfl, rfl, rfl, rfl⟩)
structure PlS where
 k : Int
 a : Option Addr
 n : Nat
 c : Nat
 z : Nat -> Nat -> Int
def Qiq (W : World) : MCon where
 σ := PlS
 χ := List Nat
 pre s := (1 <= s.k /\ s.k <= 6) /\ s.n <= 3000 /\ Rws 7 mvK W s.a s.n s.c s.z /\ ∀ i, i < s.n -> U64 (s.z i 6)
 args s := [.c (.v (.int .i64 s.k)), .c (.r s.a s.n s.c s.n 7 mvK s.z)]
 mem s := []
 ok s x := True
 val s x := .t [.c (.p 0 0), .c (.v .nilIface)]
 mem' s x := [.abs (Qz shM ShS.z ShS.good (Qak s.k (mvL s.z s.n))) x]
 k := 0
 len := 1
 det := none
 find args M := some []
structure PlG (s : PlS) where
 i : Nat
 F : List Nat
 hi : i <= s.n
def QmJ (s : PlS) : Ann where
 σ := PlG s
 I g := ([(6, .o (.c (.p 0 0))), (18, .o (.c (.r s.a s.n s.c s.n 7 mvK s.z))), (19, sv (.int .i64 s.n)), (20, sv (.int .i64 g.i))], [.abs (Qz shM ShS.z ShS.good (Qak s.k (mvL s.z g.i))) g.F])
 dec g := s.n - g.i
 pi env _ := [blkE env 6]
 nz := []
theorem CallOK.of {K : Int} {z : Sh} {g : Gh} (F : FinI K z g) (hs : z.steps < 100000000) : CallOK z := ⟨F.steps0, hs, (F.lens hs).1, fun t ht => (F.i.th t ht).tg01⟩
theorem StpOK.of {K : Int} {z : Sh} {g : Gh} {t : Nat} (F : FinI K z g) (ht : t < 4) (hs : z.steps < 100000000) : StpOK z t := ⟨ht, F.stOK ht hs, fun hn => Qjs F.i ht (by have := F.i.gl.vb; omega) hn⟩
theorem RunOK.of {K : Int} {z : Sh} {g : Gh} {t : Nat} (F : FinI K z g) (ht : t < 4) (hs : z.steps < 90000000) (n : Int) : RunOK z t n := ⟨fun h0 h1 k hk => by
 obtain ⟨g', F'⟩ := Qja ht k F (by omega)
 have := (Qdl t k z).2
 have S := StpOK.of F' ht (by omega)
 exact ⟨S.ok, S.pre⟩⟩
theorem play_con (W : World) : (Con.mem (Qiq W)).holdsAt Tryz.prog W (fun _ => False) 76 := by
 refine Qb (Γ := [(75, .mem Qis), (39, .mem callA.sh), (40, .mem Qld.sh), (112, .mem evC.sh), (50, .mem craC.sh)]) (fun w => w) Tryz.func76 rfl (by kernel_rfl) Qf Qc (fun w S' _ _ => .cons (newH w _) (.cons (callH w _) (.cons (runH w _) (.cons (evH w _) (.cons (craH w _) (.nil _ _ _)))))) (Qiq W) (fun s => [(76, [(0, QmJ s)])]) (fun x0 h => by cases h)
   (fun s ρ w _ _ _ => OldOk.none w) [] (fun x M => match x with
   | .t [.c (.p b _), _] => [b]
   | _ => []) 600 ?_
 rintro ⟨k, a, n, c, z⟩ w ⟨⟨h1, h6⟩, hn, hr, hu⟩ hK
 refine ⟨rfl, ?_⟩
 have hr := Rws.below hr (hK.below (Nat.le_refl _) (fun _ h => h.elim))
 refine Qj (q := ∃ (s : NewS), [aI k] = [aI s.1] /\ eN /\ ((1 : Int) <= s.1 /\ s.1 <= (6 : Int)) /\ ∀ (x : List Nat), True -> (∃ (s0 : Ann.σ (QmJ (PlS.mk k a n c z))), (eS (aP 0 0) (aP 0 0) /\ eS (SA.c (.r a n c n 7 (fun (j : Nat) => bif Nat.beq j 6 then .u64 else .i64) z)) (SA.c (.r a n c n 7 (fun (j : Nat) => bif Nat.beq j 6 then .u64 else .i64) z)) /\ eS (aI ↑n) (aI ↑n) /\ eS (aI 0) (aI ↑s0.1) /\ True) /\ [SB.abs (Qz shM ShS.z ShS.good (Sh.new s.1)) x] = [SB.abs (Qz shM ShS.z ShS.good (Qak k (mvL z s0.1))) s0.2]) /\ ∀ (s : PlG (PlS.mk k a n c z)), bif decide ((↑s.1 : Int) < (↑n : Int)) then (Rws 7 mvK w a n c z /\ (0 : Int) <= (↑s.1 : Int) /\ (↑s.1 : Int) < (↑n : Int) /\ Int.toNat (↑s.1 : Int) < n) /\ (Rws 7 (fun (j : Nat) => bif Nat.beq j 6 then .u64 else .i64) w a n c z /\ Int.toNat (↑s.1 : Int) < n) /\ bif z (Int.toNat (↑s.1 : Int)) 0 == (1 : Int) then ∃ (s_1 : Sh × (Int × OpA) × List Nat), [aP 0 0, aI (z (Int.toNat (↑s.1 : Int)) 1), SA.a [sI (z (Int.toNat (↑s.1 : Int)) 2), sI (z (Int.toNat (↑s.1 : Int)) 3), sI (z (Int.toNat (↑s.1 : Int)) 4)]] = [aP 0 0, aI s_1.2.1.1, SA.a [sI s_1.2.1.2.1, sI s_1.2.1.2.2, sI s_1.2.1.2.3]] /\ [SB.abs (Qz shM ShS.z ShS.good (Qak k (mvL z s.1))) s.2] = [SB.abs (Qz shM ShS.z ShS.good s_1.1) s_1.2.2] /\ CallOK s_1.1 /\ ∀ (x : List Nat × Unit), True -> ∃ (s' : PlG (PlS.mk k a n c z)), ((eS (aP 0 0) (aP 0 0) /\ eS (SA.c (.r a n c n 7 (fun (j : Nat) => bif Nat.beq j 6 then .u64 else .i64) z)) (SA.c (.r a n c n 7 (fun (j : Nat) => bif Nat.beq j 6 then .u64 else .i64) z)) /\ eS (aI ↑n) (aI ↑n) /\ eS (aI (IntKind.wrap .i64 ((↑s.1 : Int) + (1 : Int)))) (aI ↑s'.1) /\ True) /\ [SB.abs (Qz shM ShS.z ShS.good (bif inT s_1.2.1.1 then Sh.call s_1.1 (Int.toNat s_1.2.1.1) s_1.2.1.2.1 s_1.2.1.2.2 s_1.2.1.2.3 else s_1.1)) x.1] = [SB.abs (Qz shM ShS.z ShS.good (Qak k (mvL z s'.1))) s'.2]) /\ n - s'.1 < n - s.1 else bif z (Int.toNat (↑s.1 : Int)) 0 == (2 : Int) then ∃ (s_1 : Sh × (Int × Int) × List Nat), [aP 0 0, aI (z (Int.toNat (↑s.1 : Int)) 1), aI (z (Int.toNat (↑s.1 : Int)) 5)] = [aP 0 0, aI s_1.2.1.1, aI s_1.2.1.2] /\ [SB.abs (Qz shM ShS.z ShS.good (Qak k (mvL z s.1))) s.2] = [SB.abs (Qz shM ShS.z ShS.good s_1.1) s_1.2.2] /\ (inT s_1.2.1.1 = true -> RunOK s_1.1 (Int.toNat s_1.2.1.1) s_1.2.1.2) /\ ∀ (x : List Nat × Unit), True -> ∃ (s' : PlG (PlS.mk k a n c z)), ((eS (aP 0 0) (aP 0 0) /\ eS (SA.c (.r a n c n 7 (fun (j : Nat) => bif Nat.beq j 6 then .u64 else .i64) z)) (SA.c (.r a n c n 7 (fun (j : Nat) => bif Nat.beq j 6 then .u64 else .i64) z)) /\ eS (aI ↑n) (aI ↑n) /\ eS (aI (IntKind.wrap .i64 ((↑s.1 : Int) + (1 : Int)))) (aI ↑s'.1) /\ True) /\ [SB.abs (Qz shM ShS.z ShS.good (Sh.runA s_1.1 s_1.2.1.1 s_1.2.1.2)) x.1] = [SB.abs (Qz shM ShS.z ShS.good (Qak k (mvL z s'.1))) s'.2]) /\ n - s'.1 < n - s.1 else bif z (Int.toNat (↑s.1 : Int)) 0 == (3 : Int) then ∃ (s_1 : Sh × Int × List Nat), [aP 0 0, aI (z (Int.toNat (↑s.1 : Int)) 5)] = [aP 0 0, aI s_1.2.1] /\ [SB.abs (Qz shM ShS.z ShS.good (Qak k (mvL z s.1))) s.2] = [SB.abs (Qz shM ShS.z ShS.good s_1.1) s_1.2.2] /\ True /\ ∀ (x : List Nat × Unit), True -> ∃ (s' : PlG (PlS.mk k a n c z)), ((eS (aP 0 0) (aP 0 0) /\ eS (SA.c (.r a n c n 7 (fun (j : Nat) => bif Nat.beq j 6 then .u64 else .i64) z)) (SA.c (.r a n c n 7 (fun (j : Nat) => bif Nat.beq j 6 then .u64 else .i64) z)) /\ eS (aI ↑n) (aI ↑n) /\ eS (aI (IntKind.wrap .i64 ((↑s.1 : Int) + (1 : Int)))) (aI ↑s'.1) /\ True) /\ [SB.abs (Qz shM ShS.z ShS.good (Sh.evict s_1.1 s_1.2.1)) x.1] = [SB.abs (Qz shM ShS.z ShS.good (Qak k (mvL z s'.1))) s'.2]) /\ n - s'.1 < n - s.1 else bif z (Int.toNat (↑s.1 : Int)) 0 == (4 : Int) then ∃ (s_1 : Sh × Int × List Nat), [aP 0 0, aU (z (Int.toNat (↑s.1 : Int)) 6)] = [aP 0 0, aU s_1.2.1] /\ [SB.abs (Qz shM ShS.z ShS.good (Qak k (mvL z s.1))) s.2] = [SB.abs (Qz shM ShS.z ShS.good s_1.1) s_1.2.2] /\ QkG s_1.1 s_1.2.1 /\ ∀ (x : List Nat × Unit), True -> ∃ (s' : PlG (PlS.mk k a n c z)), ((eS (aP 0 0) (aP 0 0) /\ eS (SA.c (.r a n c n 7 (fun (j : Nat) => bif Nat.beq j 6 then .u64 else .i64) z)) (SA.c (.r a n c n 7 (fun (j : Nat) => bif Nat.beq j 6 then .u64 else .i64) z)) /\ eS (aI ↑n) (aI ↑n) /\ eS (aI (IntKind.wrap .i64 ((↑s.1 : Int) + (1 : Int)))) (aI ↑s'.1) /\ True) /\ [SB.abs (Qz shM ShS.z ShS.good (Sh.crash s_1.1 s_1.2.1)) x.1] = [SB.abs (Qz shM ShS.z ShS.good (Qak k (mvL z s'.1))) s'.2]) /\ n - s'.1 < n - s.1 else ∃ (s' : PlG (PlS.mk k a n c z)), ((eS (aP 0 0) (aP 0 0) /\ eS (SA.c (.r a n c n 7 (fun (j : Nat) => bif Nat.beq j 6 then .u64 else .i64) z)) (SA.c (.r a n c n 7 (fun (j : Nat) => bif Nat.beq j 6 then .u64 else .i64) z)) /\ eS (aI ↑n) (aI ↑n) /\ eS (aI (IntKind.wrap .i64 ((↑s.1 : Int) + (1 : Int)))) (aI ↑s'.1) /\ True) /\ [SB.abs (Qz shM ShS.z ShS.good (Qak k (mvL z s.1))) s.2] = [SB.abs (Qz shM ShS.z ShS.good (Qak k (mvL z s'.1))) s'.2]) /\ n - s'.1 < n - s.1 else endN (Qiq W) [] (fun (x : SV) (M : List SB) => match x with | SV.t [SA.c (.p b off), head] => [b] | x => []) (PlS.mk k a n c z) (SV.t [aP 0 0, SA.c (.v Value.nilIface)]) [SB.abs (Qz shM ShS.z ShS.good (Qak k (mvL z s.1))) s.2]) (by kernel_rfl) ?_
 have h1 : 1 <= k := h1
 have h6 : k <= 6 := h6
 have hn : n <= 3000 := hn
 have hu : ∀ i, i < n -> U64 (z i 6) := hu
 refine ⟨⟨k⟩, rfl, rfl, ⟨h1, h6⟩, fun x _ => ⟨⟨⟨0, x, Nat.zero_le _⟩, ⟨rfl, rfl, rfl, rfl, trivial⟩, rfl⟩, ?_⟩⟩
 rintro ⟨i, F, hi⟩
 have hi : i <= n := hi
 dsimp only
 rw [Int.toNat_natCast]
 obtain ⟨g, Fi, hs⟩ := Qjb h1 h6 i (mvL z i) (Qo9 z i) (by omega)
 have hs2 : (Qak k (mvL z i)).steps < 100000000 := by omega
 have enx : Qak k (mvL z (i + 1)) = (Qak k (mvL z i)).move (mvAt z i) := by rw [Qns, QfT]
 refine Qp (fun hlt => ?_) (fun hge => ?_)
 · have hlt' : i < n := by omega
   have go (S : Sh) (G : List Nat) (e : S = Qak k (mvL z (i + 1))) : [SB.abs (Qz shM ShS.z ShS.good S) G] = [SB.abs (Qz shM ShS.z ShS.good (Qak k (mvL z (i + 1)))) G] := by rw [e]
   refine ⟨⟨hr, by omega, hlt, hlt'⟩, ⟨hr, hlt'⟩, Q7 (fun hk => ?_) (fun hk1 => Q7 (fun hk => ?_) (fun hk2 => Q7 (fun hk => ?_) (fun hk3 => Q7 (fun hk => ?_) (fun hk4 => ?_))))⟩
   · exact ⟨(Qak k (mvL z i), (z i 1, ⟨z i 2, z i 3, z i 4⟩), F), rfl, rfl, CallOK.of Fi hs2, fun y _ => ⟨⟨i + 1, y.1, hlt'⟩, ⟨⟨rfl, rfl, rfl, svI (sucI (by omega)), trivial⟩, go _ _ (by rw [enx]; exact (if_pos hk).symm)⟩, by dsimp only; omega⟩⟩
   · exact ⟨(Qak k (mvL z i), (z i 1, z i 5), F), rfl, rfl, fun ht => RunOK.of Fi (Qik ht).2.2 (by omega) _, fun y _ => ⟨⟨i + 1, y.1, hlt'⟩, ⟨⟨rfl, rfl, rfl, svI (sucI (by omega)), trivial⟩, go _ _ (by rw [enx]; exact ((if_neg hk1).trans (if_pos hk)).symm)⟩, by dsimp only; omega⟩⟩
   · exact ⟨(Qak k (mvL z i), z i 5, F), rfl, rfl, trivial, fun y _ => ⟨⟨i + 1, y.1, hlt'⟩, ⟨⟨rfl, rfl, rfl, svI (sucI (by omega)), trivial⟩, go _ _ (by rw [enx]; exact ((if_neg hk1).trans ((if_neg hk2).trans (if_pos hk))).symm)⟩, by dsimp only; omega⟩⟩
   · exact ⟨(Qak k (mvL z i), z i 6, F), rfl, rfl, Fi.craOK (by omega) (hu i hlt'), fun y _ => ⟨⟨i + 1, y.1, hlt'⟩, ⟨⟨rfl, rfl, rfl, svI (sucI (by omega)), trivial⟩, go _ _ (by rw [enx]; exact ((if_neg hk1).trans ((if_neg hk2).trans ((if_neg hk3).trans (if_pos hk)))).symm)⟩, by dsimp only; omega⟩⟩
   · exact ⟨⟨i + 1, F, hlt'⟩, ⟨⟨rfl, rfl, rfl, svI (sucI (by omega)), trivial⟩, go _ _ (by rw [enx]; exact ((if_neg hk1).trans ((if_neg hk2).trans ((if_neg hk3).trans (if_neg hk4)))).symm)⟩, by dsimp only; omega⟩
 · obtain rfl : i = n := by omega
   exact Qi rfl F trivial rfl rfl rfl
structure EqRS (α : Type) where
 l : List α
 m : Nat
 c : Nat
 nn : Bool
 z : Nat -> Nat -> Int
 m2 : Nat
 c2 : Nat
 nn2 : Bool
 z2 : Nat -> Nat -> Int
structure EqRG {α : Type} (s : EqRS α) where
 i : Nat
 hi : i <= s.l.length
def Qfu : MCon := dcon (EqRS Dd) (fun s => s.l.length <= 1000000000 /\ (s.l.length <= s.m /\ s.m <= s.c) /\ IsR 6 Dd.at Dd.nil s.z s.l /\ (s.l.length <= s.m2 /\ s.m2 <= s.c2) /\ IsR 6 Dd.at Dd.nil s.z2 s.l)
 (fun s => [.c (.so 0 0 6 s.l.length s.c s.nn), .c (.so 1 0 6 s.l.length s.c2 s.nn2)]) (fun s => [wkD s.m s.c s.z, wkD s.m2 s.c2 s.z2]) (fun s => sv (.bool true)) (fun s => [wkD s.m s.c s.z, wkD s.m2 s.c2 s.z2]) 2 (fun args _ => some (blkA args))
def QmL (s : EqRS Dd) : Ann where
 σ := EqRG s
 I g := ([(0, .o (.c (.so 0 0 6 s.l.length s.c s.nn))), (1, .o (.c (.so 1 0 6 s.l.length s.c2 s.nn2))), (12, sv (.int .i64 s.l.length)), (13, sv (.int .i64 g.i))], [wkD s.m s.c s.z, wkD s.m2 s.c2 s.z2])
 dec g := s.l.length - g.i
 pi _ _ := [0, 1]
 nz := []
theorem eqrD_con : (Con.mem Qfu).holds Tryz.prog 51 := by
 intro w0 S
 refine Qb (Γ := []) (fun _ => noW) Tryz.func51 rfl (by kernel_rfl) Qf Qc (fun _ _ _ _ => .nil _ _ _) Qfu (fun s => [(51, [(0, QmL s)])]) (fun x0 h s x => ⟨rfl, trivial⟩) (fun s ρ w _ _ _ => Qh w _) [] (fun _ M => [0, 1]) 400 ?_
 rintro ⟨l, m, c, nn, z, m2, c2, nn2, z2⟩ w ⟨h0, h1, h2, h3, h4⟩ -
 refine ⟨rfl, ?_⟩
 dsimp only at h0 h1 h2 h3 h4
 refine Qj (q := List.length l <= c /\ List.length l <= c2 /\ bif (↑(List.length l) : Int) != (↑(List.length l) : Int) then endN Qfu [] (fun (x : SV) (M : List SB) => [0, 1]) (EqRS.mk l m c nn z m2 c2 nn2 z2) (SV.o (aB false)) [SB.rows 60 kI6 6 m c z, SB.rows 60 kI6 6 m2 c2 z2] else List.length l <= c /\ (∃ (s0 : Ann.σ (QmL (EqRS.mk l m c nn z m2 c2 nn2 z2))), (eS (SA.c (.so 0 0 6 (List.length l) c nn)) (SA.c (.so 0 0 6 (List.length l) c nn)) /\ eS (SA.c (.so 1 0 6 (List.length l) c2 nn2)) (SA.c (.so 1 0 6 (List.length l) c2 nn2)) /\ eS (aI (↑(List.length l) : Int)) (aI (↑(List.length l) : Int)) /\ eS (aI 0) (aI ↑s0.1) /\ True) /\ [SB.rows 60 kI6 6 m c z, SB.rows 60 kI6 6 m2 c2 z2] = [SB.rows 60 kI6 6 m c z, SB.rows 60 kI6 6 m2 c2 z2]) /\ ∀ (s : EqRG (EqRS.mk l m c nn z m2 c2 nn2 z2)), bif decide ((↑s.1 : Int) < (↑(List.length l) : Int)) then ((0 : Int) <= (↑s.1 : Int) /\ (↑s.1 : Int) < (↑(List.length l) : Int) /\ 0 + List.length l <= c) /\ 0 + Int.toNat (↑s.1 : Int) < m /\ ((0 : Int) <= (↑s.1 : Int) /\ (↑s.1 : Int) < (↑(List.length l) : Int) /\ 0 + List.length l <= c2) /\ 0 + Int.toNat (↑s.1 : Int) < m2 /\ dP Tryz.f51 6 2 [xE 8, xR 7 1, xF 6 1, xE 5, xF 4 1, xR 3 0, xF 2 0, xE 1, xF 0 0] /\ bif bif bif z (0 + Int.toNat (↑s.1 : Int)) 0 == z2 (0 + Int.toNat (↑s.1 : Int)) 0 then bif z (0 + Int.toNat (↑s.1 : Int)) 1 == z2 (0 + Int.toNat (↑s.1 : Int)) 1 then bif z (0 + Int.toNat (↑s.1 : Int)) 2 == z2 (0 + Int.toNat (↑s.1 : Int)) 2 then bif z (0 + Int.toNat (↑s.1 : Int)) 3 == z2 (0 + Int.toNat (↑s.1 : Int)) 3 then bif z (0 + Int.toNat (↑s.1 : Int)) 4 == z2 (0 + Int.toNat (↑s.1 : Int)) 4 then bif z (0 + Int.toNat (↑s.1 : Int)) 5 == z2 (0 + Int.toNat (↑s.1 : Int)) 5 then true else false else false else false else false else false else false then false else true then endN Qfu [] (fun (x : SV) (M : List SB) => [0, 1]) (EqRS.mk l m c nn z m2 c2 nn2 z2) (SV.o (aB false)) [SB.rows 60 kI6 6 m c z, SB.rows 60 kI6 6 m2 c2 z2] else ∃ (s' : EqRG (EqRS.mk l m c nn z m2 c2 nn2 z2)), ((eS (SA.c (.so 0 0 6 (List.length l) c nn)) (SA.c (.so 0 0 6 (List.length l) c nn)) /\ eS (SA.c (.so 1 0 6 (List.length l) c2 nn2)) (SA.c (.so 1 0 6 (List.length l) c2 nn2)) /\ eS (aI (↑(List.length l) : Int)) (aI (↑(List.length l) : Int)) /\ eS (aI (IntKind.wrap .i64 ((↑s.1 : Int) + (1 : Int)))) (aI ↑s'.1) /\ True) /\ [SB.rows 60 kI6 6 m c z, SB.rows 60 kI6 6 m2 c2 z2] = [SB.rows 60 kI6 6 m c z, SB.rows 60 kI6 6 m2 c2 z2]) /\ List.length l - s'.1 < List.length l - s.1 else endN Qfu [] (fun (x : SV) (M : List SB) => [0, 1]) (EqRS.mk l m c nn z m2 c2 nn2 z2) (SV.o (aB true)) [SB.rows 60 kI6 6 m c z, SB.rows 60 kI6 6 m2 c2 z2]) (by kernel_rfl) ?_
 have he := IsR.eq h2 h4
 refine ⟨by omega, by omega, QB (fun h => absurd rfl h) (fun _ => ⟨by omega, ⟨⟨0, Nat.zero_le _⟩, ⟨rfl, rfl, rfl, rfl, trivial⟩, rfl⟩, ?_⟩)⟩
 rintro ⟨i, hi⟩
 dsimp only at hi ⊢
 refine Qp (fun hlt => ?_) (fun hge => ⟨(), trivial, rfl, rfl⟩)
 have hlt' : i < l.length := by omega
 rw [Int.toNat_natCast, Nat.zero_add i, he i hlt' 0 (by decide), he i hlt' 1 (by decide), he i hlt' 2 (by decide), he i hlt' 3 (by decide), he i hlt' 4 (by decide), he i hlt' 5 (by decide)]
 exact ⟨⟨by omega, by omega, by omega⟩, by omega, ⟨by omega, by omega, by omega⟩, by omega, Qd (by kernel_rfl), Xu (fun h => absurd h (by simp)) (fun _ => ⟨⟨i + 1, hlt'⟩, ⟨⟨rfl, rfl, rfl, svI (sucI (by omega)), trivial⟩, rfl⟩, by dsimp only; omega⟩)⟩
theorem TCon.weak {X Y α χ : Type} (c c' : TCon Y α χ) {L : X -> List SB} {y : X -> Y} {good : X -> Prop} {P : Program} {f : FuncId} (h : (Con.mem (c.high L y good)).holds P f)
   (e : c' = { c with pre := c'.pre, val := c'.val }) (hp : ∀ z a, c'.pre z a -> c.pre z a) (hv : ∀ n z a r, c'.pre z a -> c'.val n z a r = c.val n z a r) : (Con.mem (c'.high L y good)).holds P f := by
 obtain ⟨pre', args', ok', next', val', new', len'⟩ := c'
 dsimp only at e hp hv
 injection e with _ e1 e2 e3 _ e4 e5
 subst e1 e2 e3 e4 e5
 intro w0 S
 have h := h w0 S
 refine ⟨h.1, fun x0 h => (by cases h), fun ρ s w hpp hK HM => (h.2.2 ρ s w (hp _ _ hpp) hK HM).mono ?_⟩
 rintro e w' ⟨x, ρ', h1, h2, h3, h4, h5⟩
 refine ⟨x, ρ', h1, h2, h3, ?_, h5⟩
 rw [h4]
 show Ending.returned ((c.val 1 s.1 s.2.1 x.2).den ρ') = Ending.returned ((val' 1 s.1 s.2.1 x.2).den ρ')
 rw [hv 1 s.1 s.2.1 x.2 hpp]
def Qpv : TCon Sh (Int × OpA) Unit where
 pre z a := CallOK z /\ (inT a.1 = true /\ (z.w a.1.toNat).does = 0 /\ opOk a.2.k a.2.key a.2.x = true)
 args a := [.c (.v (.int .i64 a.1)), .a [.one (.v (.int .i64 a.2.k)), .one (.v (.int .i64 a.2.key)), .one (.v (.int .i64 a.2.x))]]
 ok _ _ _ := True
 next z a _ := bif inT a.1 then z.call a.1.toNat a.2.k a.2.key a.2.x else z
 val _ z a _ := .o (.c (.v .nilIface))
 new _ _ _ _ := []
 len := 0
theorem callNH : (Con.mem Qpv.sh).holds Tryz.prog 39 := TCon.weak callA Qpv callH rfl (fun z a h => h.1) (fun n z a r h => by
 obtain ⟨h1, h2, h3⟩ := h.2
 show SV.o (.c (.v .nilIface)) = .o (.c (.v (bif inT a.1 then (bif (z.w a.1.toNat).does == 0 then (bif opOk a.2.k a.2.key a.2.x then .nilIface else _) else _) else _)))
 rw [h1, h3, show ((z.w a.1.toNat).does == 0) = true from beq_iff_eq.2 h2]; rfl)
def runG : TCon Sh (Int × Int) Unit where
 pre z a := (inT a.1 = true -> RunOK z a.1.toNat a.2) /\ (inT a.1 = true /\ runB a.2 = true)
 args a := [.c (.v (.int .i64 a.1)), .c (.v (.int .i64 a.2))]
 ok _ _ _ := True
 next z a _ := z.runA a.1 a.2
 val _ z a _ := .t [.c (.v (.int .i64 (z.ran a.1.toNat a.2.toNat : Nat))), .c (.v .nilIface)]
 new _ _ _ _ := []
 len := 0
theorem runGH : (Con.mem runG.sh).holds Tryz.prog 40 := TCon.weak Qld runG runH rfl (fun z a h => h.1) (fun n z a r h => by
 obtain ⟨h1, h2⟩ := h.2
 show SV.t [.c (.v (.int .i64 _)), .c (.v .nilIface)] = .t [.c (.v (.int .i64 (bif inT a.1 then (bif runB a.2 then _ else 0) else 0))), .c (.v (bif inT a.1 then (bif runB a.2 then .nilIface else _) else _))]
 rw [h1, h2]; rfl)
def QgK : PCon := ⟨fun args => match args with
 | [] => True
 | _ => False, fun _ => sv (.bool true), fun _ => none⟩
theorem shops_con : (Con.pure QgK).holds Tryz.prog 34 := by
 refine Qx (AG := []) (Γ := [(75, .mem Qis), (27, .pure QhJ), (39, .mem Qpv.sh), (40, .mem runG.sh), (50, .mem craC.sh), (42, .mem verC.sh), (43, .mem ddsC.sh), (37, .mem hisC.sh), (38, .mem Qio.sh)]) Tryz.func34 rfl (by kernel_rfl) Qf Qc
   (fun W => .cons (newH W _) (.cons (Qll W _) (.cons (callNH W _) (.cons (runGH W _) (.cons (craH W _) (.cons (verH W _) (.cons (ddsH W _) (.cons (hisH W _) (.cons (doesH W _) (.nil _ _ _)))))))))) QgK 400 ?_
 intro W args hp
 unfold QgK at hp; dsimp only at hp; split at hp
 case h_2 => exact hp.elim
 refine ⟨rfl, ?_⟩
 refine Qj (q := ∃ (s : NewS), [aI 1] = [aI s.1] /\ eN /\ ((1 : Int) <= s.1 /\ s.1 <= (6 : Int)) /\ ∀ (x : List Nat), True -> True /\ ∃ (s_1 : Sh × (Int × OpA) × List Nat), [aP 0 0, aI 0, SA.a [sI 1, sI 0, sI 3]] = [aP 0 0, aI s_1.2.1.1, SA.a [sI s_1.2.1.2.1, sI s_1.2.1.2.2, sI s_1.2.1.2.3]] /\ [SB.abs (Qz shM ShS.z ShS.good (Sh.new s.1)) x] = [SB.abs (Qz shM ShS.z ShS.good s_1.1) s_1.2.2] /\ (CallOK s_1.1 /\ inT s_1.2.1.1 = true /\ (Sh.w s_1.1 (Int.toNat s_1.2.1.1)).2 = (0 : Int) /\ opOk s_1.2.1.2.1 s_1.2.1.2.2 s_1.2.1.2.3 = true) /\ ∀ (x : List Nat × Unit), True -> ∃ (s : Sh × (Int × Int) × List Nat), [aP 0 0, aI 0, aI 200] = [aP 0 0, aI s.2.1.1, aI s.2.1.2] /\ [SB.abs (Qz shM ShS.z ShS.good (bif inT s_1.2.1.1 then Sh.call s_1.1 (Int.toNat s_1.2.1.1) s_1.2.1.2.1 s_1.2.1.2.2 s_1.2.1.2.3 else s_1.1)) x.1] = [SB.abs (Qz shM ShS.z ShS.good s.1) s.2.2] /\ ((inT s.2.1.1 = true -> RunOK s.1 (Int.toNat s.2.1.1) s.2.1.2) /\ inT s.2.1.1 = true /\ runB s.2.1.2 = true) /\ ∀ (x : List Nat × Unit), True -> ∃ (s_2 : Sh × Int × List Nat), [aP 0 0, aU 0] = [aP 0 0, aU s_2.2.1] /\ [SB.abs (Qz shM ShS.z ShS.good (Sh.runA s.1 s.2.1.1 s.2.1.2)) x.1] = [SB.abs (Qz shM ShS.z ShS.good s_2.1) s_2.2.2] /\ QkG s_2.1 s_2.2.1 /\ ∀ (x : List Nat × Unit), True -> bif (↑(Sh.ran s.1 (Int.toNat s.2.1.1) (Int.toNat s.2.1.2)) : Int) == (84 : Int) then ∃ (s : Sh × Unit × List Nat), [aP 0 0] = [aP 0 0] /\ [SB.abs (Qz shM ShS.z ShS.good (Sh.crash s_2.1 s_2.2.1)) x.1] = [SB.abs (Qz shM ShS.z ShS.good s.1) s.2.2] /\ ((0 : Int) <= (Sh.s s.1).1 0 /\ (Sh.s s.1).1 0 < (1000000000 : Int)) /\ ∀ (x : List Nat × Unit), True -> bif (Sh.s s.1).1 0 == (1 : Int) then ∃ (s_3 : Sh × Unit × List Nat), [aP 0 0] = [aP 0 0] /\ [SB.abs (Qz shM ShS.z ShS.good s.1) x.1] = [SB.abs (Qz shM ShS.z ShS.good s_3.1) s_3.2.2] /\ List.length s_3.1.7 <= 1000000000 /\ ∀ (x : List Nat × RwR), (List.length s_3.1.7 <= x.2.1 /\ x.2.1 <= x.2.2) /\ IsR 6 Dd.at Dd.nil x.2.4 (List.map (fun (self : Vd) => self.2) s_3.1.7) -> List.length s_3.1.7 <= x.2.2 /\ bif (↑(List.length s_3.1.7) : Int) == (1 : Int) then ∃ (s : Sh × Unit × List Nat), [aP 0 0] = [aP 0 0] /\ [SB.abs (Qz shM ShS.z ShS.good s_3.1) x.1] = [SB.abs (Qz shM ShS.z ShS.good s.1) s.2.2] /\ List.length s.1.6 <= 1000000000 /\ ∀ (x : List Nat × RwR), (List.length s.1.6 <= x.2.1 /\ x.2.1 <= x.2.2) /\ IsE x.2.4 s.1.6 -> List.length s.1.6 <= x.2.2 /\ bif (↑(List.length s.1.6) : Int) == (3 : Int) then ∃ (s_4 : Sh × Nat × List Nat), [aP 0 0, aI 0] = [aP 0 0, aI (↑s_4.2.1 : Int)] /\ [SB.abs (Qz shM ShS.z ShS.good s.1) x.1] = [SB.abs (Qz shM ShS.z ShS.good s_4.1) s_4.2.2] /\ s_4.2.1 < 4 /\ ∀ (x : List Nat × Unit), True -> SV.o (aB ((Sh.w s_4.1 s_4.2.1).2 == (0 : Int))) = SV.o (aB true) /\ true = true else SV.o (aB false) = SV.o (aB true) /\ true = true else SV.o (aB false) = SV.o (aB true) /\ true = true else SV.o (aB false) = SV.o (aB true) /\ true = true else SV.o (aB false) = SV.o (aB true) /\ true = true) (by kernel_rfl) ?_
 have l1 : ((Sh.new 1).call 0 1 0 3).ran 0 200 = 84 := by kernel_rfl
 have l2 : ((((Sh.new 1).call 0 1 0 3).run 0 200).crash 0).s.now 0 = 1 := by kernel_rfl
 have l3 : ((((Sh.new 1).call 0 1 0 3).run 0 200).crash 0).deeds.length = 1 := by kernel_rfl
 have l4 : ((((Sh.new 1).call 0 1 0 3).run 0 200).crash 0).hist.length = 3 := by kernel_rfl
 have l5 : (((((Sh.new 1).call 0 1 0 3).run 0 200).crash 0).w 0).does = 0 := by kernel_rfl
 have F0 := Qov (K := 1) (by decide) (by decide)
 have s1 : ((Sh.new 1).call 0 1 0 3).steps <= 1 := (Qf8 (Sh.new 1) 0 1 0 3).2
 have F1 := Qme F0 (t := 0) (by decide) 1 0 3
 have hst := (Qdl 0 200 ((Sh.new 1).call 0 1 0 3)).2
 obtain ⟨g, Fg⟩ := Qja (t := 0) (by decide) 200 F1 (by omega)
 obtain ⟨z1, hz1⟩ : ∃ z1, z1 = (Sh.new 1).call 0 1 0 3 := ⟨_, rfl⟩
 rw [<- hz1] at l1 l2 l3 l4 l5 Fg hst s1 F1
 have er : z1.runA 0 200 = z1.run 0 200 := by unfold Sh.runA; rw [show inT 0 = true from rfl, show runB 200 = true from rfl]; rfl
 obtain ⟨z2, hz2⟩ : ∃ z2, z2 = z1.run 0 200 := ⟨_, rfl⟩
 rw [<- hz2] at l2 l3 l4 l5 Fg hst
 obtain ⟨z3, hz3⟩ : ∃ z3, z3 = z2.crash 0 := ⟨_, rfl⟩
 rw [<- hz3] at l2 l3 l4 l5
 have go {S T : Sh} (G : List Nat) (e : S = T) : [SB.abs (Qz shM ShS.z ShS.good S) G] = [SB.abs (Qz shM ShS.z ShS.good T) G] := by rw [e]
 have c0 : CallOK (Sh.new 1) := CallOK.of F0 (by show (0 : Int) < 100000000; decide)
 have c1 : RunOK z1 0 200 := RunOK.of F1 (by decide) (by omega) 200
 have c2 : QkG z2 0 := Fg.craOK (by omega) ⟨by decide, by decide⟩
 have q1 : ((z1.ran (Int.toNat 0) (Int.toNat 200) : Nat) : Int) = 84 := by
   rw [show z1.ran (Int.toNat 0) (Int.toNat 200) = 84 from l1]; rfl
 exact ⟨⟨1⟩, rfl, rfl, ⟨by decide, by decide⟩, fun x _ => ⟨trivial, (Sh.new 1, (0, ⟨1, 0, 3⟩), x), rfl, rfl, ⟨c0, rfl, rfl, (by decide : opOk 1 0 3 = true)⟩, fun y _ => ⟨(z1, (0, 200), y.1), rfl, go y.1 hz1.symm, ⟨fun _ => c1, rfl, rfl⟩, fun y _ => ⟨(z2, 0, y.1), rfl, go y.1 (er.trans hz2.symm), c2, fun y _ => Q7
   (fun _ => ⟨(z3, (), y.1), rfl, go y.1 hz3.symm, ⟨by show 0 <= z3.s.now 0; omega, by show z3.s.now 0 < 1000000000; omega⟩, fun y _ => Q7
     (fun _ => ⟨(z3, (), y.1), rfl, rfl, by show z3.deeds.length <= 1000000000; omega, fun y hy => ⟨Nat.le_trans hy.1.1 hy.1.2, Q7
       (fun _ => ⟨(z3, (), y.1), rfl, rfl, by show z3.hist.length <= 1000000000; omega, fun y hy => ⟨Nat.le_trans hy.1.1 hy.1.2, Q7
         (fun _ => ⟨(z3, 0, y.1), rfl, rfl, by show 0 < 4; decide, fun y _ => ⟨by rw [show (((z3.w 0).does == 0) : Bool) = true from beq_iff_eq.2 l5], rfl⟩⟩)
         (fun h => absurd (by show ((z3.hist.length : Nat) : Int) = 3; omega) h)⟩⟩)
       (fun h => absurd (by show ((z3.deeds.length : Nat) : Int) = 1; omega) h)⟩⟩)
     (fun h => absurd (by show z3.s.now 0 = 1; omega) h)⟩)
   (fun h => absurd q1 h)⟩⟩⟩⟩
theorem wfU {x : Int} (h : (Lit.int .u64 x).wf = true) : U64 x := by
 have h2 : (decide ((0 : Int) <= x) && decide (x <= 18446744073709551615)) = true := h
 simp only [Bool.and_eq_true, decide_eq_true_eq] at h2
 exact ⟨h2.1, by omega⟩
theorem abGo {S T : Sh} (G : List Nat) (e : S = T) : [SB.abs (Qz shM ShS.z ShS.good S) G] = [SB.abs (Qz shM ShS.z ShS.good T) G] := by rw [e]
def eqDs (l : List Vd) (a b : RwR) : EqRS Dd := ⟨l.map Vd.d, a.m, a.c, a.nn, a.z, b.m, b.c, b.nn, b.z⟩
theorem eqDs_args (l : List Vd) (i j : Nat) (a b : RwR) : [SA.c (.so i 0 6 l.length a.c a.nn), SA.c (.so j 0 6 l.length b.c b.nn)] = [SA.c (.so i 0 6 (eqDs l a b).l.length a.c a.nn), SA.c (.so j 0 6 (eqDs l a b).l.length b.c b.nn)] := by
 show _ = [SA.c (.so i 0 6 (l.map Vd.d).length a.c a.nn), SA.c (.so j 0 6 (l.map Vd.d).length b.c b.nn)]
 rw [List.length_map]
theorem eqDs_pre {l : List Vd} {a b : RwR} (h : l.length <= 1000000000) (ha : (l.length <= a.m /\ a.m <= a.c) /\ IsR 6 Dd.at Dd.nil a.z (l.map Vd.d)) (hb : (l.length <= b.m /\ b.m <= b.c) /\ IsR 6 Dd.at Dd.nil b.z (l.map Vd.d)) :
   (eqDs l a b).l.length <= 1000000000 /\ ((eqDs l a b).l.length <= a.m /\ a.m <= a.c) /\ IsR 6 Dd.at Dd.nil a.z (eqDs l a b).l /\ ((eqDs l a b).l.length <= b.m /\ b.m <= b.c) /\ IsR 6 Dd.at Dd.nil b.z (eqDs l a b).l := by
 have e : (eqDs l a b).l.length = l.length := List.length_map _
 rw [e]; exact ⟨h, ha.1, ha.2, hb.1, hb.2⟩
theorem FinI.ver {K : Int} {z : Sh} {g : Gh} (F : FinI K z g) (hs : z.steps < 100000000) : 0 <= z.s.now 0 /\ z.s.now 0 < 1000000000 := by
 have h1 := F.i.now
 have h2 := F.i.gl.vb
 have h3 := F.i.gl.now0
 omega
end
section
section
variable {K : Int} {z : Sh} {g : Gh} {t : Nat}
def cntH (z : Sh) : Nat -> Nat
 | 0 => 0
 | i + 1 => cntH z i + (if 4 <= (z.w i).does /\ (z.w i).does <= 15 then 1 else 0)
theorem Qpt : ∀ n : Nat, cntH z n <= n
 | 0 => Nat.le_refl _
 | n + 1 => by
   have := Qpt n
   simp only [cntH]
   split <;> omega
theorem ShInv.one (I : ShInv K z g) : cntH z 4 <= 1 := by
 simp only [cntH]
 rcases I.lk with ⟨-, h⟩ | ⟨a, ha, -, -, h⟩
 · have h0 := h 0 (by decide)
   have h1 := h 1 (by decide)
   have h2 := h 2 (by decide)
   have h3 := h 3 (by decide)
   unfold Xx at h0 h1 h2 h3
   rw [if_neg h0, if_neg h1, if_neg h2, if_neg h3]; omega
 · have key : ∀ u, u < 4 -> u ≠ a -> (if 4 <= (z.w u).does /\ (z.w u).does <= 15 then 1 else 0) = 0 := fun u hu hne => if_neg (h u hu hne)
   have one : ∀ u, (if 4 <= (z.w u).does /\ (z.w u).does <= 15 then 1 else 0) <= 1 := fun u => by split <;> omega
   have o0 := one 0
   have o1 := one 1
   have o2 := one 2
   have o3 := one 3
   rcases (show a = 0 \/ a = 1 \/ a = 2 \/ a = 3 by omega) with rfl | rfl | rfl | rfl
   · have := key 1 (by decide) (by decide)
     have := key 2 (by decide) (by decide)
     have := key 3 (by decide) (by decide)
     omega
   · have := key 0 (by decide) (by decide)
     have := key 2 (by decide) (by decide)
     have := key 3 (by decide) (by decide)
     omega
   · have := key 0 (by decide) (by decide)
     have := key 1 (by decide) (by decide)
     have := key 3 (by decide) (by decide)
     omega
   · have := key 0 (by decide) (by decide)
     have := key 1 (by decide) (by decide)
     have := key 2 (by decide) (by decide)
     omega
theorem FinI.cur (F : FinI K z g) {i : Nat} (hi : i < 32) : z.cur i = fL g.R.words i := by
 show z.s.now (Qq (z.s.now 0) + i) = _
 rw [F.1.gl.now0]; exact F.1.gl.nowR i hi
theorem FinI.ahead (F : FinI K z g) (h : ∀ u, u < 4 -> (z.w u).does ≠ 12 /\ (z.w u).does ≠ 13) (l : Int) :
   (z.crash l).deeds = z.deeds /\ (z.crash l).s.now 0 = z.s.now 0 /\ ∀ i, i < 32 -> (z.crash l).cur i = z.cur i := by
 have G := F.1.gl
 have hv := G.vd
 have h0 := G.v0
 have hg : z.s.good 0 = g.V := by
   rcases G.good0 with e | e
   · rcases hv with e2 | e2
     · rw [e, e2]
     · obtain ⟨u, hu, h12, h14⟩ := F.1.mid e2
       have := h u hu
       have O := F.1.ho u hu ⟨by omega, by omega⟩
       exact O.i14 (by omega) (by omega)
   · exact e
 have hl : Qr l z.s 0 = g.V := by
   rcases land_mix l z.s 0 with e | e
   · rw [e, hg]
   · rw [e, G.now0]
 rcases inv_crash F.1 l with ⟨a, b, c⟩ | ⟨a, b, c, d, e⟩
 · refine ⟨c, hl.trans G.now0.symm, fun i hi => ?_⟩
   rw [F.cur hi]
   show (z.crash l).s.now (Qq ((z.crash l).s.now 0) + i) = _
   rw [b.gl.now0]; exact b.gl.nowR i hi
 · omega
theorem QjZ {l l' : Int} (s : Sto) (h : ∀ k : Nat, k < 9 -> l / 2 ^ k % 2 = l' / 2 ^ k % 2) : Qr l s = Qr l' s := by
 funext i
 unfold Qr
 by_cases hi : i < 72
 · rw [h (i / 8) (by omega)]
 · rw [decide_eq_false hi]; rfl
theorem Qpl {l l' : Int} (h : ∀ k : Nat, k < 9 -> l / 2 ^ k % 2 = l' / 2 ^ k % 2) : z.crash l = z.crash l' := by
 have e := QjZ z.s h
 unfold Sh.crash Sto.crash
 rw [e]
end
end
section
section
variable {K : Int} {z : Sh} {g : Gh} {t : Nat}
end
end
section
section
variable {K : Int} {z : Sh} {g : Gh} {t : Nat}
end
end
section
open Go.ChangeShapes Go.WideShapes Go.RowKit
theorem lOwn : ownKnob Tryz.prog.godebug = none := by kernel_rfl
theorem lEt : Tryz.prog.globalNamed "errors.errorType" = some 0 := by kernel_rfl
theorem lRt : (Tryz.prog.cutTypes.find? (·.1 == "internal/reflectlite.rtype")).map (·.2) = some 221 := by kernel_rfl
theorem lSize : Tryz.prog.types.size = 266 := by kernel_rfl
theorem lRow : ((List.range 266).filter fun t => Tryz.prog.rowNamed t [101, 114, 114, 111, 114]) = [49] := by kernel_rfl
abbrev laidL : List (String × DataW Unit) := [("errors.errorType", Rows.laid_errors_errorType)]
abbrev ErrType (W : World) : Prop := W.cell? ⟨0, 0, none⟩ = some (.iface 221 (.agg #[.pointer (some ⟨1, 49, none⟩)]))
theorem handle_of_laid {W : World} (h : laidMetH Tryz.prog laidL W) : ErrType W := by
 have h' : laidMet Tryz.prog [] W /\ handlesMet Tryz.prog laidL W := h
 obtain ⟨name, u, ty, e1, e2, e3, e4, e5⟩ := h'.2 _ (List.mem_singleton.2 rfl)
 have en : name = [101, 114, 114, 111, 114] := (Option.some.inj e1).symm
 subst en
 obtain rfl := Option.some.inj (lRt.symm.trans e2)
 have hm : ty ∈ (List.range 266).filter fun t => Tryz.prog.rowNamed t [101, 114, 114, 111, 114] := List.mem_filter.2 ⟨List.mem_range.2 (by rw [<- lSize]; exact e3), e4⟩
 rw [lRow] at hm
 obtain rfl := List.mem_singleton.1 hm
 have hh : typeHandle Tryz.prog 49 = .pointer (some ⟨1, 49, none⟩) := by kernel_rfl
 rw [hh] at e5
 simpa using World.var?_cell lEt e5 0
noncomputable def laidWorld (os : Os) : World :=
 let w0 := World.holding Tryz.prog os ⟨#[], #[], []⟩
 { w0 with heap := w0.heap.modify 0 fun
     | .cells _ t frozen => .cells #[.iface 221 (.agg #[.pointer (some ⟨1, 49, none⟩)])] t frozen
     | o => o }
theorem laidWorld_met (os : Os) (args : Array Value) : laidMetH Tryz.prog laidL ((laidWorld os).forCall (fun _ _ => 0) ⟨#[], args, []⟩).memory :=
 laidMetH_of_parts (laidMet_nil _ _) (by kernel_rfl)
end
section
open Go.ChangeShapes Go.WideShapes Go.Deep Go.ChangeAt
theorem blk_lt {w : World} {b o : Nat} {v : Value} (h : w.cell? ⟨b, o, none⟩ = some v) : b < w.heap.size := by
 unfold World.cell? at h
 by_cases hb : b < w.heap.size
 · exact hb
 · simp [Array.getElem?_eq_none (Nat.le_of_not_lt hb)] at h
theorem one_int {H : Type} {enc : TypeId × Value -> H} {w : World} {base : Nat} {spare : Nat -> Bool} {held : Bool} {n : Nat} {t : TypeId} {k : IntKind} {v : Value} {y : Option (DataW H × List MemPlace)} (ht : Tryz.prog.underlying t = some (.int k))
   (h : DataW.trod enc Tryz.prog w base spare held n t [v] = y) (hy : y.isSome) : ∃ z, v = .int k z /\ (Lit.int k z).wf = true := by
 obtain ⟨x, rfl⟩ := Option.isSome_iff_exists.1 hy
 obtain ⟨z, h1, -, h2⟩ := DataW.trod_int ht h
 simp at h1
 exact ⟨z, h1, h2⟩
theorem u64_of_wf {x : Int} (h : (Lit.int .u64 x).wf = true) : U64 x := by
 have h2 : (decide ((0 : Int) <= x) && decide (x <= 18446744073709551615)) = true := h
 simp only [Bool.and_eq_true, decide_eq_true_eq] at h2
 exact ⟨h2.1, by omega⟩
theorem cellsOp_of {H : Type} {enc : TypeId × Value -> H} {w : World} {base : Nat} {spare : Nat -> Bool} {held : Bool} {n : Nat} {cs : List Value} {y : Option (DataW H × List MemPlace)}
   (h : DataW.trod enc Tryz.prog w base spare held n 32 cs = y) (hy : y.isSome) :
   ∃ z0 z1 z2 : Int, cs = [.int .i64 z0, .int .i64 z1, .int .i64 z2] /\ (Lit.int .i64 z0).wf = true /\ (Lit.int .i64 z1).wf = true /\ (Lit.int .i64 z2).wf = true := by
 obtain ⟨x, rfl⟩ := Option.isSome_iff_exists.1 hy
 obtain ⟨ys, n', -, -, hlen, hyl, hf⟩ := DataW.trod_struct Tryz.underlying32 h
 have hc : Tryz.prog.cellsOf 32 = 3 := by kernel_rfl
 have hc_int : Tryz.prog.cellsOf 3 = 1 := by kernel_rfl
 rw [hc] at hlen
 match cs, hlen with
 | [v0, v1, v2], _ =>
   have hyl' : ys.length = 3 := hyl
   have g0 : DataW.trod enc Tryz.prog w base spare held n' 3 (([v0, v1, v2].drop 0).take (Tryz.prog.cellsOf 3)) = ys[0]? := hf 0 _ rfl
   rw [hc_int] at g0
   dsimp only [List.drop, List.take] at g0
   have g1 : DataW.trod enc Tryz.prog w base spare held n' 3 (([v0, v1, v2].drop 1).take (Tryz.prog.cellsOf 3)) = ys[1]? := hf 1 _ rfl
   rw [hc_int] at g1
   dsimp only [List.drop, List.take] at g1
   have g2 : DataW.trod enc Tryz.prog w base spare held n' 3 (([v0, v1, v2].drop 2).take (Tryz.prog.cellsOf 3)) = ys[2]? := hf 2 _ rfl
   rw [hc_int] at g2
   dsimp only [List.drop, List.take] at g2
   obtain ⟨z0, rfl, w0⟩ := one_int Tryz.underlying3 g0 (by simp [hyl'])
   obtain ⟨z1, rfl, w1⟩ := one_int Tryz.underlying3 g1 (by simp [hyl'])
   obtain ⟨z2, rfl, w2⟩ := one_int Tryz.underlying3 g2 (by simp [hyl'])
   exact ⟨z0, z1, z2, rfl, w0, w1, w2⟩
theorem cellsMove_of {H : Type} {enc : TypeId × Value -> H} {w : World} {base : Nat} {spare : Nat -> Bool} {held : Bool} {n : Nat} {cs : List Value} {y : Option (DataW H × List MemPlace)}
   (h : DataW.trod enc Tryz.prog w base spare held n 84 cs = y) (hy : y.isSome) :
   ∃ z0 z1 z2 z3 z4 z5 z6 : Int, cs = [.int .i64 z0, .int .i64 z1, .int .i64 z2, .int .i64 z3, .int .i64 z4, .int .i64 z5, .int .u64 z6] /\ (Lit.int .i64 z0).wf = true /\ (Lit.int .i64 z1).wf = true /\ (Lit.int .i64 z2).wf = true /\ (Lit.int .i64 z3).wf = true /\ (Lit.int .i64 z4).wf = true /\ (Lit.int .i64 z5).wf = true /\ (Lit.int .u64 z6).wf = true := by
 obtain ⟨x, rfl⟩ := Option.isSome_iff_exists.1 hy
 obtain ⟨ys, n', -, -, hlen, hyl, hf⟩ := DataW.trod_struct Tryz.underlying84 h
 have hc : Tryz.prog.cellsOf 84 = 7 := by kernel_rfl
 have hc_int : Tryz.prog.cellsOf 3 = 1 := by kernel_rfl
 have hc_Op : Tryz.prog.cellsOf 32 = 3 := by kernel_rfl
 have hc_u64 : Tryz.prog.cellsOf 33 = 1 := by kernel_rfl
 rw [hc] at hlen
 match cs, hlen with
 | [v0, v1, v2, v3, v4, v5, v6], _ =>
   have hyl' : ys.length = 5 := hyl
   have g0 : DataW.trod enc Tryz.prog w base spare held n' 3 (([v0, v1, v2, v3, v4, v5, v6].drop 0).take (Tryz.prog.cellsOf 3)) = ys[0]? := hf 0 _ rfl
   rw [hc_int] at g0
   dsimp only [List.drop, List.take] at g0
   have g1 : DataW.trod enc Tryz.prog w base spare held n' 3 (([v0, v1, v2, v3, v4, v5, v6].drop 1).take (Tryz.prog.cellsOf 3)) = ys[1]? := hf 1 _ rfl
   rw [hc_int] at g1
   dsimp only [List.drop, List.take] at g1
   have g2 : DataW.trod enc Tryz.prog w base spare held n' 32 (([v0, v1, v2, v3, v4, v5, v6].drop 2).take (Tryz.prog.cellsOf 32)) = ys[2]? := hf 2 _ rfl
   rw [hc_Op] at g2
   dsimp only [List.drop, List.take] at g2
   have g3 : DataW.trod enc Tryz.prog w base spare held n' 3 (([v0, v1, v2, v3, v4, v5, v6].drop 5).take (Tryz.prog.cellsOf 3)) = ys[3]? := hf 3 _ rfl
   rw [hc_int] at g3
   dsimp only [List.drop, List.take] at g3
   have g4 : DataW.trod enc Tryz.prog w base spare held n' 33 (([v0, v1, v2, v3, v4, v5, v6].drop 6).take (Tryz.prog.cellsOf 33)) = ys[4]? := hf 4 _ rfl
   rw [hc_u64] at g4
   dsimp only [List.drop, List.take] at g4
   obtain ⟨z0, rfl, w0⟩ := one_int Tryz.underlying3 g0 (by simp [hyl'])
   obtain ⟨z1, rfl, w1⟩ := one_int Tryz.underlying3 g1 (by simp [hyl'])
   obtain ⟨z2, z3, z4, he2, w2, w3, w4⟩ := cellsOp_of g2 (by simp [hyl'])
   simp only [List.cons.injEq, and_true] at he2
   obtain ⟨rfl, rfl, rfl⟩ := he2
   obtain ⟨z5, rfl, w5⟩ := one_int Tryz.underlying3 g3 (by simp [hyl'])
   obtain ⟨z6, rfl, w6⟩ := one_int Tryz.underlying33 g4 (by simp [hyl'])
   exact ⟨z0, z1, z2, z3, z4, z5, z6, rfl, w0, w1, w2, w3, w4, w5, w6⟩
theorem rowsMove_of {H : Type} {enc : TypeId × Value -> H} {w : World} {base : Nat} {spare : Nat -> Bool} {held : Bool} {a0 : Option Addr} {len0 cap0 : Nat} {d0 : DataW H} {p0 : List MemPlace}
   (h : DataW.Trod enc Tryz.prog w base spare held 65 (.slice a0 len0 cap0) d0 p0) : ∃ f, MvIn w a0 len0 cap0 f := by
 obtain ⟨fuel, hf⟩ := h
 have hc : Tryz.prog.cellsOf 84 = 7 := by kernel_rfl
 rcases open_slice Tryz.underlying65 hf with ⟨hcs, -⟩ | ⟨a, len, cap, m, n, D, Pl, hcs, hb, hl, hm, hmm, hx, hi⟩
 · simp [Value.cells] at hcs
   obtain ⟨rfl, rfl, rfl⟩ := hcs
   exact ⟨fun _ _ => 0, ⟨Nat.le_refl _, by omega, .inl rfl⟩, fun i hi => absurd hi (Nat.not_lt_zero _)⟩
 · simp [Value.cells] at hcs
   obtain ⟨rfl, rfl, rfl⟩ := hcs
   unfold maxLen at hm
   rw [hc] at hi
   have hi' : ∀ i, i < len0 -> ∃ z : Nat -> Int, ∀ j, j < 7 -> w.cell? (a.add (i * 7 + j)) = some (.int (mvK j) (z j)) /\ (Lit.int (mvK j) (z j)).wf = true := by
     intro i hil
     obtain ⟨cs, h1, h2⟩ := hi i (by rw [hmm]; split <;> omega)
     obtain ⟨z0, z1, z2, z3, z4, z5, z6, rfl, w0, w1, w2, w3, w4, w5, w6⟩ := cellsMove_of h2 (by rfl)
     obtain ⟨-, -, hat⟩ := World.cells?_some h1
     refine ⟨fun j => [z0, z1, z2, z3, z4, z5, z6].getD j 0, fun j hj => ?_⟩
     rw [<- Go.Deep.add_add, hat j (by simpa using hj)]
     match j, hj with
     | 0, _ => exact ⟨rfl, w0⟩
     | 1, _ => exact ⟨rfl, w1⟩
     | 2, _ => exact ⟨rfl, w2⟩
     | 3, _ => exact ⟨rfl, w3⟩
     | 4, _ => exact ⟨rfl, w4⟩
     | 5, _ => exact ⟨rfl, w5⟩
     | 6, _ => exact ⟨rfl, w6⟩
   by_cases h0 : len0 = 0
   · subst h0; exact ⟨fun _ _ => 0, ⟨Nat.zero_le _, by omega, .inl rfl⟩, fun i hi => absurd hi (Nat.not_lt_zero _)⟩
   · obtain ⟨z, hz⟩ := hi' 0 (by omega)
     obtain ⟨b, off, spot⟩ := a
     have hspot : spot = none := by simpa [Addr.add] using World.cell?_spot (hz 0 (by omega)).1
     subst hspot
     have hadd : ∀ i, (⟨b, off, none⟩ : Addr).add i = ⟨b, off + i, none⟩ := fun i => by
       unfold Addr.add; split
       · subst i; rfl
       · rfl
     classical
     let F : Nat -> Nat -> Int := fun i => if h : i < len0 then Classical.choose (hi' i h) else fun _ => 0
     refine ⟨F, ⟨hl, by omega, .inr ⟨b, off, rfl, ?_, fun j hj i hi0 => ?_⟩⟩, fun j hj => ?_⟩
     · have := (hz 0 (by omega)).1; rw [hadd] at this; exact blk_lt this
     · have hF : F j = Classical.choose (hi' j hj) := by simp only [F, dif_pos hj]
       obtain ⟨c1, c2⟩ := Classical.choose_spec (hi' j hj) i hi0
       rw [<- hF] at c1 c2
       rw [hadd, <- Nat.add_assoc] at c1
       exact ⟨c1, trivial⟩
     · have hF : F j = Classical.choose (hi' j hj) := by simp only [F, dif_pos hj]
       have c2 := (Classical.choose_spec (hi' j hj) 6 (by decide)).2
       rw [<- hF] at c2
       exact u64_of_wf c2
theorem aggOp_of {H : Type} {enc : TypeId × Value -> H} {w : World} {base b0 : Nat} {spare : Nat -> Bool} {held : Bool} {v : Value} {d : DataW H} {p : List MemPlace}
   (hv : Value.okWide Tryz.prog w .any b0 32 v) (h : DataW.Trod enc Tryz.prog w base spare held 32 v d p) :
   ∃ z0 z1 z2 : Int, v = .agg #[.int .i64 z0, .int .i64 z1, .int .i64 z2] /\ (Lit.int .i64 z0).wf = true /\ (Lit.int .i64 z1).wf = true /\ (Lit.int .i64 z2).wf = true := by
 obtain ⟨cs, rfl, hs⟩ := okWide_struct Tryz.underlying32 hv
 obtain ⟨fuel, hf⟩ := h
 obtain ⟨z0, z1, z2, hc, w0, w1, w2⟩ := cellsOp_of hf (by rfl)
 refine ⟨z0, z1, z2, ?_, w0, w1, w2⟩
 have : cs.toList = [.int .i64 z0, .int .i64 z1, .int .i64 z2] := hc
 rw [<- Array.toArray_toList (xs := cs), this]
end
end Go.Proofs.YtddbkioejhidoaaGreatDoor
