/- ShopPace: the walk of the law. -/
import Derived.Test.YtinijfhoenajkaaGreatDoorZF5
namespace Go.Proofs.YtinijfhoenajkaaGreatDoor
open Go.RowKit
set_option linter.unusedVariables false
set_option maxRecDepth 100000
set_option maxHeartbeats 4000000
theorem ran_n (t:Nat):∀(n:Nat) (z:Sh),z.ran t n<=n
 |0,z=>Nat.le_refl _
 |n+1,z=>by
  have:=ran_n t n (z.step t)
  show (if (z.w t).does=0 then 0 else (z.step t).ran t n+1)<=n+1
  split<;>omega
structure PcG (n:Int) where
 i:Nat
 F:List Nat
 F2:List Nat
 hi:i<=n.toNat
def annPace (z:Sh) (t n:Int):Ann where
 σ:=PcG n
 I g:=([(2,sv (.int .i64 t)),(3,sv (.int .i64 n)),(9,.o (.c (.p 0 0))),(10,.o (.c (.p 1 0))),(11,sv (.int .i64 (z.ran t.toNat n.toNat:Nat))),(12,sv .nilIface),(13,sv (.int .i64 g.i))],[.abs (Qr shM ShS.z ShS.good (z.runA t n)) g.F,.abs (Qr shM ShS.z ShS.good (z.run t.toNat g.i)) g.F2])
 dec g:=n.toNat-g.i
 pi env _:=[blkE env 9,blkE env 10]
 nz:=[]
theorem walk_ShopPace (a0:Int) (a1:Option Addr) (len1 cap1:Nat) (z1:Nat->Nat->Int) (a2:Int) (a3:Int) (W:World) (hE:ErrType W) (w0:(Lit.int .i64 a0).wf=true) (w1:MvIn W a1 len1 cap1 z1) (w2:(Lit.int .i64 a2).wf=true) (w3:(Lit.int .i64 a3).wf=true):
 Calls Tryz.prog 7 #[.int .i64 a0,.slice a1 len1 cap1,.int .i64 a2,.int .i64 a3] W fun e w'=>e=.returned (.bool true)/\Below W.heap.size W w':=by
 refine Qpz (AG:=[(7,[(0,annPace (QW (1+Qgt a0 6) (mvL z1 len1)) (Qgt a2 4) (Qgt a3 200))])]) (Γ:=[(15,.pure QgU),(16,.inl Tryz.f16 (Tryz.f16.body.getD .skip)),(18,.pure Qfy),(17,.inl Tryz.f17 (Tryz.f17.body.getD .skip)),(45,.mem (QgW W)),(22,.pure QgX),(24,.mem runG.sh),(21,.mem QiB.sh),(30,.mem stepQ.sh),(19,.mem hisC.sh),(32,.mem recC.sh),(31,.mem QfA)]) Tryz.func7 rfl Qf Qc
  (.cons (shops_con W _) (.cons (⟨by kernel_rfl,rfl,rfl⟩) (.cons (Qqc W _) (.cons (⟨by kernel_rfl,rfl,rfl⟩) (.cons (QnA W) (.cons (QnC W _) (.cons (runGH W _) (.cons (doesH W _) (.cons (stepQH W _) (.cons (hisH W _) (.cons (recH W _) (.cons (eqrE_con W _) (.nil _ _ _)))))))))))))
  [.c (.v (.int .i64 a0)),.c (.r a1 len1 cap1 len1 7 mvK z1),.c (.v (.int .i64 a2)),.c (.v (.int .i64 a3))] (.bool true) 400 rfl ?_ rfl
 refine Qj (q:=True/\bif bif decide ((↑len1:Int)<=(120:Int))then false else true then SV.o (aB true)=SV.o (aB true)else True/\∃(s:PlS),[aI ((1:Int)+Qgt a0 (6:Int)),SA.c (.r a1 len1 cap1 len1 7 (fun (j:Nat)=>bif Nat.beq j 6 then .u64 else .i64) z1)]=[aI s.1,SA.c (.r s.2 s.3 s.4 s.3 7 (fun (j:Nat)=>bif Nat.beq j 6 then .u64 else .i64) s.5)]/\eN/\(((1:Int)<=s.1/\s.1<=(6:Int))/\s.3<=3000/\Rws 7 mvK W (PlS.a s) (PlS.n s) s.4 s.5/\∀(i:Nat),i<s.3->U64 (s.5 i 6))/\∀(x:List Nat),True->∃(s_1:PlS),[aI ((1:Int)+Qgt a0 (6:Int)),SA.c (.r a1 len1 cap1 len1 7 (fun (j:Nat)=>bif Nat.beq j 6 then .u64 else .i64) z1)]=[aI s_1.1,SA.c (.r s_1.2 s_1.3 s_1.4 s_1.3 7 (fun (j:Nat)=>bif Nat.beq j 6 then .u64 else .i64) s_1.5)]/\eN/\(((1:Int)<=s_1.1/\s_1.1<=(6:Int))/\s_1.3<=3000/\Rws 7 mvK W (PlS.a s_1) (PlS.n s_1) s_1.4 s_1.5/\∀(i:Nat),i<s_1.3->U64 (s_1.5 i 6))/\∀(x_1:List Nat),True->((0:Int)<(4:Int)/\(4:Int)<=(9223372036854775807:Int))/\((0:Int)<(200:Int)/\(200:Int)<=(9223372036854775807:Int))/\∃(s_2:Sh × (Int × Int) × List Nat),[aP 0 0,aI (Qgt a2 (4:Int)),aI (Qgt a3 (200:Int))]=[aP 0 0,aI s_2.2.1.1,aI s_2.2.1.2]/\[SB.abs (Qr shM ShS.z ShS.good (QW s.1 (mvL s.5 s.3))) x]=[SB.abs (Qr shM ShS.z ShS.good s_2.1) s_2.2.2]/\((inT s_2.2.1.1=true->RunOK s_2.1 (Int.toNat s_2.2.1.1) s_2.2.1.2)/\inT s_2.2.1.1=true/\runB s_2.2.1.2=true)/\∀(x:List Nat × Unit),True->(∃(s0:Ann.σ (annPace (QW ((1:Int)+Qgt a0 (6:Int)) (mvL z1 len1)) (Qgt a2 (4:Int)) (Qgt a3 (200:Int)))),(eS (aI (Qgt a2 (4:Int))) (aI (Qgt a2 (4:Int)))/\eS (aI (Qgt a3 (200:Int))) (aI (Qgt a3 (200:Int)))/\eS (aP 0 0) (aP 0 0)/\eS (aP 1 0) (aP 1 0)/\eS (aI (↑(Sh.ran s_2.1 (Int.toNat s_2.2.1.1) (Int.toNat s_2.2.1.2)):Int)) (aI (↑(Sh.ran (QW ((1:Int)+Qgt a0 (6:Int)) (mvL z1 len1)) (Int.toNat (Qgt a2 (4:Int))) (Int.toNat (Qgt a3 (200:Int)))):Int))/\eS (SA.c (.v Value.nilIface)) (SA.c (.v Value.nilIface))/\eS (aI 0) (aI ↑s0.1)/\True)/\[SB.abs (Qr shM ShS.z ShS.good (Sh.runA s_2.1 s_2.2.1.1 s_2.2.1.2)) x.1,SB.abs (Qr shM ShS.z ShS.good (QW s_1.1 (mvL s_1.5 s_1.3))) x_1]=[SB.abs (Qr shM ShS.z ShS.good (Sh.runA (QW ((1:Int)+Qgt a0 (6:Int)) (mvL z1 len1)) (Qgt a2 (4:Int)) (Qgt a3 (200:Int)))) s0.2,SB.abs (Qr shM ShS.z ShS.good (Sh.run (QW ((1:Int)+Qgt a0 (6:Int)) (mvL z1 len1)) (Int.toNat (Qgt a2 (4:Int))) s0.1)) s0.3])/\∀(s:PcG (Qgt a3 (200:Int))),bif decide ((↑s.1:Int)<Qgt a3 (200:Int))then ∃(s_3:Sh × Nat × List Nat),[aP 1 0,aI (Qgt a2 (4:Int))]=[aP 1 0,aI (↑s_3.2.1:Int)]/\[SB.abs (Qr shM ShS.z ShS.good (Sh.run (QW ((1:Int)+Qgt a0 (6:Int)) (mvL z1 len1)) (Int.toNat (Qgt a2 (4:Int))) s.1)) s.3]=[SB.abs (Qr shM ShS.z ShS.good s_3.1) s_3.2.2]/\StpOK s_3.1 s_3.2.1/\∀(x:List Nat × Unit),True->bif (Sh.w s_3.1 s_3.2.1).2==(0:Int)then bif decide ((↑(Sh.ran (QW ((1:Int)+Qgt a0 (6:Int)) (mvL z1 len1)) (Int.toNat (Qgt a2 (4:Int))) (Int.toNat (Qgt a3 (200:Int)))):Int)<=Qgt a3 (200:Int))then ∃(s_4:Sh × Unit × List Nat),[aP 0 0]=[aP 0 0]/\[SB.abs (Qr shM ShS.z ShS.good (Sh.runA (QW ((1:Int)+Qgt a0 (6:Int)) (mvL z1 len1)) (Qgt a2 (4:Int)) (Qgt a3 (200:Int)))) s.2]=[SB.abs (Qr shM ShS.z ShS.good s_4.1) s_4.2.2]/\List.length s_4.1.6<=1000000000/\∀(x_2:List Nat × RwR),(List.length s_4.1.6<=x_2.2.1/\x_2.2.1<=x_2.2.2)/\IsE x_2.2.4 s_4.1.6->∃(s:Sh × Unit × List Nat),[aP 1 0]=[aP 1 0]/\[SB.abs (Qr shM ShS.z ShS.good (Sh.step s_3.1 s_3.2.1)) x.1]=[SB.abs (Qr shM ShS.z ShS.good s.1) s.2.2]/\List.length s.1.6<=1000000000/\∀(x:List Nat × RwR),(List.length s.1.6<=x.2.1/\x.2.1<=x.2.2)/\IsE x.2.4 s.1.6->∃(s_5:EqRS Ev),[SA.c (.so 3 0 9 (List.length s_4.1.6) x_2.2.2 x_2.2.3),SA.c (.so 4 0 9 (List.length s.1.6) x.2.2 x.2.3)]=[SA.c (.so 3 0 9 (List.length s_5.1) s_5.3 s_5.4),SA.c (.so 4 0 9 (List.length s_5.1) s_5.7 s_5.8)]/\[evB x_2.2.1 x_2.2.2 x_2.2.4,evB x.2.1 x.2.2 x.2.4]=[evB s_5.2 s_5.3 s_5.5,evB s_5.6 s_5.7 s_5.9]/\(List.length s_5.1<=1000000000/\(List.length s_5.1<=s_5.2/\s_5.2<=s_5.3)/\IsR 9 Ev.at Ev.nil s_5.5 s_5.1/\(List.length s_5.1<=s_5.6/\s_5.6<=s_5.7)/\IsR 9 Ev.at Ev.nil s_5.9 s_5.1)/\∀(x_3:Unit),True->∃(s_6:Sh × Nat × List Nat),[aP 0 0,aI (Qgt a2 (4:Int))]=[aP 0 0,aI (↑s_6.2.1:Int)]/\[SB.abs (Qr shM ShS.z ShS.good s_4.1) x_2.1]=[SB.abs (Qr shM ShS.z ShS.good s_6.1) s_6.2.2]/\s_6.2.1<4/\∀(x_4:List Nat × Unit),True->∃(s_7:Sh × Nat × List Nat),[aP 1 0,aI (Qgt a2 (4:Int))]=[aP 1 0,aI (↑s_7.2.1:Int)]/\[SB.abs (Qr shM ShS.z ShS.good s.1) x.1]=[SB.abs (Qr shM ShS.z ShS.good s_7.1) s_7.2.2]/\s_7.2.1<4/\∀(x:List Nat × Unit),True->bif (Sh.w s_6.1 s_6.2.1).2==(Sh.w s_7.1 s_7.2.1).2 then ∃(s:Sh × Unit × List Nat),[aP 0 0]=[aP 0 0]/\[SB.abs (Qr shM ShS.z ShS.good s_6.1) x_4.1]=[SB.abs (Qr shM ShS.z ShS.good s.1) s.2.2]/\((0:Int)<=(Sh.s s.1).1 0/\(Sh.s s.1).1 0<(1000000000:Int))/\∀(x_5:List Nat × Unit),True->∃(s_8:Sh × Unit × List Nat),[aP 1 0]=[aP 1 0]/\[SB.abs (Qr shM ShS.z ShS.good s_7.1) x.1]=[SB.abs (Qr shM ShS.z ShS.good s_8.1) s_8.2.2]/\((0:Int)<=(Sh.s s_8.1).1 0/\(Sh.s s_8.1).1 0<(1000000000:Int))/\∀(x:List Nat × Unit),True->SV.o (aB (bif decide ([Sh.cur s.1 0,Sh.cur s.1 1,Sh.cur s.1 2,Sh.cur s.1 3,Sh.cur s.1 4,Sh.cur s.1 5,Sh.cur s.1 6,Sh.cur s.1 7,Sh.cur s.1 8,Sh.cur s.1 9,Sh.cur s.1 10,Sh.cur s.1 11,Sh.cur s.1 12,Sh.cur s.1 13,Sh.cur s.1 14,Sh.cur s.1 15,Sh.cur s.1 16,Sh.cur s.1 17,Sh.cur s.1 18,Sh.cur s.1 19,Sh.cur s.1 20,Sh.cur s.1 21,Sh.cur s.1 22,Sh.cur s.1 23,Sh.cur s.1 24,Sh.cur s.1 25,Sh.cur s.1 26,Sh.cur s.1 27,Sh.cur s.1 28,Sh.cur s.1 29,Sh.cur s.1 30,Sh.cur s.1 31]=[Sh.cur s_8.1 0,Sh.cur s_8.1 1,Sh.cur s_8.1 2,Sh.cur s_8.1 3,Sh.cur s_8.1 4,Sh.cur s_8.1 5,Sh.cur s_8.1 6,Sh.cur s_8.1 7,Sh.cur s_8.1 8,Sh.cur s_8.1 9,Sh.cur s_8.1 10,Sh.cur s_8.1 11,Sh.cur s_8.1 12,Sh.cur s_8.1 13,Sh.cur s_8.1 14,Sh.cur s_8.1 15,Sh.cur s_8.1 16,Sh.cur s_8.1 17,Sh.cur s_8.1 18,Sh.cur s_8.1 19,Sh.cur s_8.1 20,Sh.cur s_8.1 21,Sh.cur s_8.1 22,Sh.cur s_8.1 23,Sh.cur s_8.1 24,Sh.cur s_8.1 25,Sh.cur s_8.1 26,Sh.cur s_8.1 27,Sh.cur s_8.1 28,Sh.cur s_8.1 29,Sh.cur s_8.1 30,Sh.cur s_8.1 31])then true else false))=SV.o (aB true)else SV.o (aB false)=SV.o (aB true)else SV.o (aB false)=SV.o (aB true)else ∃(s':PcG (Qgt a3 (200:Int))),((eS (aI (Qgt a2 (4:Int))) (aI (Qgt a2 (4:Int)))/\eS (aI (Qgt a3 (200:Int))) (aI (Qgt a3 (200:Int)))/\eS (aP 0 0) (aP 0 0)/\eS (aP 1 0) (aP 1 0)/\eS (aI (↑(Sh.ran (QW ((1:Int)+Qgt a0 (6:Int)) (mvL z1 len1)) (Int.toNat (Qgt a2 (4:Int))) (Int.toNat (Qgt a3 (200:Int)))):Int)) (aI (↑(Sh.ran (QW ((1:Int)+Qgt a0 (6:Int)) (mvL z1 len1)) (Int.toNat (Qgt a2 (4:Int))) (Int.toNat (Qgt a3 (200:Int)))):Int))/\eS (SA.c (.v Value.nilIface)) (SA.c (.v Value.nilIface))/\eS (aI (IntKind.wrap .i64 ((↑s.1:Int)+(1:Int)))) (aI ↑s'.1)/\True)/\[SB.abs (Qr shM ShS.z ShS.good (Sh.runA (QW ((1:Int)+Qgt a0 (6:Int)) (mvL z1 len1)) (Qgt a2 (4:Int)) (Qgt a3 (200:Int)))) s.2,SB.abs (Qr shM ShS.z ShS.good (Sh.step s_3.1 s_3.2.1)) x.1]=[SB.abs (Qr shM ShS.z ShS.good (Sh.runA (QW ((1:Int)+Qgt a0 (6:Int)) (mvL z1 len1)) (Qgt a2 (4:Int)) (Qgt a3 (200:Int)))) s'.2,SB.abs (Qr shM ShS.z ShS.good (Sh.run (QW ((1:Int)+Qgt a0 (6:Int)) (mvL z1 len1)) (Int.toNat (Qgt a2 (4:Int))) s'.1)) s'.3])/\Int.toNat (Qgt a3 (200:Int))-s'.1<Int.toNat (Qgt a3 (200:Int))-s.1 else bif decide ((↑(Sh.ran (QW ((1:Int)+Qgt a0 (6:Int)) (mvL z1 len1)) (Int.toNat (Qgt a2 (4:Int))) (Int.toNat (Qgt a3 (200:Int)))):Int)<=Qgt a3 (200:Int))then ∃(s_3:Sh × Unit × List Nat),[aP 0 0]=[aP 0 0]/\[SB.abs (Qr shM ShS.z ShS.good (Sh.runA (QW ((1:Int)+Qgt a0 (6:Int)) (mvL z1 len1)) (Qgt a2 (4:Int)) (Qgt a3 (200:Int)))) s.2]=[SB.abs (Qr shM ShS.z ShS.good s_3.1) s_3.2.2]/\List.length s_3.1.6<=1000000000/\∀(x:List Nat × RwR),(List.length s_3.1.6<=x.2.1/\x.2.1<=x.2.2)/\IsE x.2.4 s_3.1.6->∃(s_4:Sh × Unit × List Nat),[aP 1 0]=[aP 1 0]/\[SB.abs (Qr shM ShS.z ShS.good (Sh.run (QW ((1:Int)+Qgt a0 (6:Int)) (mvL z1 len1)) (Int.toNat (Qgt a2 (4:Int))) s.1)) s.3]=[SB.abs (Qr shM ShS.z ShS.good s_4.1) s_4.2.2]/\List.length s_4.1.6<=1000000000/\∀(x_2:List Nat × RwR),(List.length s_4.1.6<=x_2.2.1/\x_2.2.1<=x_2.2.2)/\IsE x_2.2.4 s_4.1.6->∃(s:EqRS Ev),[SA.c (.so 2 0 9 (List.length s_3.1.6) x.2.2 x.2.3),SA.c (.so 3 0 9 (List.length s_4.1.6) x_2.2.2 x_2.2.3)]=[SA.c (.so 2 0 9 (List.length s.1) s.3 s.4),SA.c (.so 3 0 9 (List.length s.1) s.7 s.8)]/\[evB x.2.1 x.2.2 x.2.4,evB x_2.2.1 x_2.2.2 x_2.2.4]=[evB s.2 s.3 s.5,evB s.6 s.7 s.9]/\(List.length s.1<=1000000000/\(List.length s.1<=s.2/\s.2<=s.3)/\IsR 9 Ev.at Ev.nil s.5 s.1/\(List.length s.1<=s.6/\s.6<=s.7)/\IsR 9 Ev.at Ev.nil s.9 s.1)/\∀(x_3:Unit),True->∃(s:Sh × Nat × List Nat),[aP 0 0,aI (Qgt a2 (4:Int))]=[aP 0 0,aI (↑s.2.1:Int)]/\[SB.abs (Qr shM ShS.z ShS.good s_3.1) x.1]=[SB.abs (Qr shM ShS.z ShS.good s.1) s.2.2]/\s.2.1<4/\∀(x:List Nat × Unit),True->∃(s_5:Sh × Nat × List Nat),[aP 1 0,aI (Qgt a2 (4:Int))]=[aP 1 0,aI (↑s_5.2.1:Int)]/\[SB.abs (Qr shM ShS.z ShS.good s_4.1) x_2.1]=[SB.abs (Qr shM ShS.z ShS.good s_5.1) s_5.2.2]/\s_5.2.1<4/\∀(x_4:List Nat × Unit),True->bif (Sh.w s.1 s.2.1).2==(Sh.w s_5.1 s_5.2.1).2 then ∃(s_6:Sh × Unit × List Nat),[aP 0 0]=[aP 0 0]/\[SB.abs (Qr shM ShS.z ShS.good s.1) x.1]=[SB.abs (Qr shM ShS.z ShS.good s_6.1) s_6.2.2]/\((0:Int)<=(Sh.s s_6.1).1 0/\(Sh.s s_6.1).1 0<(1000000000:Int))/\∀(x:List Nat × Unit),True->∃(s:Sh × Unit × List Nat),[aP 1 0]=[aP 1 0]/\[SB.abs (Qr shM ShS.z ShS.good s_5.1) x_4.1]=[SB.abs (Qr shM ShS.z ShS.good s.1) s.2.2]/\((0:Int)<=(Sh.s s.1).1 0/\(Sh.s s.1).1 0<(1000000000:Int))/\∀(x:List Nat × Unit),True->SV.o (aB (bif decide ([Sh.cur s_6.1 0,Sh.cur s_6.1 1,Sh.cur s_6.1 2,Sh.cur s_6.1 3,Sh.cur s_6.1 4,Sh.cur s_6.1 5,Sh.cur s_6.1 6,Sh.cur s_6.1 7,Sh.cur s_6.1 8,Sh.cur s_6.1 9,Sh.cur s_6.1 10,Sh.cur s_6.1 11,Sh.cur s_6.1 12,Sh.cur s_6.1 13,Sh.cur s_6.1 14,Sh.cur s_6.1 15,Sh.cur s_6.1 16,Sh.cur s_6.1 17,Sh.cur s_6.1 18,Sh.cur s_6.1 19,Sh.cur s_6.1 20,Sh.cur s_6.1 21,Sh.cur s_6.1 22,Sh.cur s_6.1 23,Sh.cur s_6.1 24,Sh.cur s_6.1 25,Sh.cur s_6.1 26,Sh.cur s_6.1 27,Sh.cur s_6.1 28,Sh.cur s_6.1 29,Sh.cur s_6.1 30,Sh.cur s_6.1 31]=[Sh.cur s.1 0,Sh.cur s.1 1,Sh.cur s.1 2,Sh.cur s.1 3,Sh.cur s.1 4,Sh.cur s.1 5,Sh.cur s.1 6,Sh.cur s.1 7,Sh.cur s.1 8,Sh.cur s.1 9,Sh.cur s.1 10,Sh.cur s.1 11,Sh.cur s.1 12,Sh.cur s.1 13,Sh.cur s.1 14,Sh.cur s.1 15,Sh.cur s.1 16,Sh.cur s.1 17,Sh.cur s.1 18,Sh.cur s.1 19,Sh.cur s.1 20,Sh.cur s.1 21,Sh.cur s.1 22,Sh.cur s.1 23,Sh.cur s.1 24,Sh.cur s.1 25,Sh.cur s.1 26,Sh.cur s.1 27,Sh.cur s.1 28,Sh.cur s.1 29,Sh.cur s.1 30,Sh.cur s.1 31])then true else false))=SV.o (aB true)else SV.o (aB false)=SV.o (aB true)else SV.o (aB false)=SV.o (aB true)) (by kernel_rfl) ?_
 have k1:1<=1+Qgt a0 6:=by have:=Qeq a0 6 (by decide);omega
 have k6:1+Qgt a0 6<=6:=by have:=Qi4 a0 6 (by decide);omega
 generalize 1+Qgt a0 6=K at k1 k6 ⊢
 refine⟨trivial,QmQ (fun _=>rfl) (fun hh=>⟨trivial,⟨K,a1,len1,cap1,z1⟩,rfl,rfl,⟨⟨k1,k6⟩,(by show len1<=3000;omega),w1.1,w1.2⟩,fun x _=>⟨⟨K,a1,len1,cap1,z1⟩,rfl,rfl,⟨⟨k1,k6⟩,(by show len1<=3000;omega),w1.1,w1.2⟩,fun x1 _=>?_⟩⟩)⟩
 obtain⟨g,F,hs⟩:=QgR k1 k6 len1 (mvL z1 len1) (QlM z1 len1) (by omega)
 have hs2:(QW K (mvL z1 len1)).steps<=120000:=by omega
 dsimp only
 generalize QW K (mvL z1 len1)=Z at *
 have p0:=Qeq a2 4 (by decide)
 have p4:=Qi4 a2 4 (by decide)
 have r0:=Qeq a3 200 (by decide)
 have r2:=Qi4 a3 200 (by decide)
 generalize Qgt a2 4=T at *
 generalize Qgt a3 200=M at *
 obtain⟨t,rfl⟩:=Int.eq_ofNat_of_zero_le p0
 obtain⟨n,rfl⟩:=Int.eq_ofNat_of_zero_le r0
 have ht4:t<4:=by omega
 have hT1:inT (t:Int)=true:=decide_eq_true (by omega)
 have hR1:runB (n:Int)=true:=decide_eq_true (by omega)
 have hro:RunOK Z (Int.toNat (t:Int)) (n:Int):=by rw[Int.toNat_natCast];exact RunOK.of F ht4 (by omega) _
 obtain⟨V,hV⟩:∃V,V=Z.runA (t:Int) (n:Int):=⟨_,rfl⟩
 have eV:V=Z.run t n:=by rw[hV];unfold Sh.runA;rw[hT1,hR1,Int.toNat_natCast,Int.toNat_natCast];rfl
 have hst:=(Qdn t n Z).2
 obtain⟨gV,FV⟩:=Qjn ht4 n F (by omega)
 rw[<- eV]at FV hst
 have hLV:=FV.lens (by omega)
 have hvV:=FV.ver (by omega)
 have hran:Z.ran t n<=n:=ran_n t n Z
 rw[<- hV]
 refine⟨⟨by decide,by decide⟩,⟨by decide,by decide⟩,(Z,((t:Int),(n:Int)),x),rfl,rfl,⟨fun _=>hro,hT1,hR1⟩,fun y _=>⟨⟨⟨0,y.1,x1,Nat.zero_le _⟩,⟨rfl,rfl,rfl,rfl,rfl,rfl,rfl,trivial⟩,(by rw[hV];rfl)⟩,?_⟩⟩
 rintro⟨i,G,G2,hi⟩
 dsimp only at hi ⊢
 rw[Int.toNat_natCast]at hi
 rw[Int.toNat_natCast,Int.toNat_natCast]
 have hsi:=(Qdn t i Z).2
 obtain⟨gi,Fi⟩:=Qjn ht4 i F (by omega)
 refine Qo (fun hlt=>⟨(Z.run t i,t,G2),rfl,rfl,StpOK.of Fi ht4 (by show (Z.run t i).steps<100000000;omega),fun y2 _=>QU (fun h0=>?_) (fun h0=>⟨⟨i+1,G,y2.1,by rw[Int.toNat_natCast];omega⟩,⟨⟨rfl,rfl,rfl,rfl,rfl,rfl,svI (sucI (by omega)),trivial⟩,congrArg (fun s=>[SB.abs (Qr shM ShS.z ShS.good V) G,SB.abs (Qr shM ShS.z ShS.good s) y2.1]) (QiW Z t i).symm⟩,by dsimp only;omega⟩)⟩) (fun hge=>?_)
 · dsimp only
   have eQ:(Z.run t i).step t=V:=by
    have h0:((Z.run t i).w t).does=0:=h0
    have e1:(Z.run t i).step t=Z.run t i:=if_pos h0
    have e2:=Qin t i (n-i) Z
    rw[show i+(n-i)=n by omega,(QiX t (n-i) h0).1,<- eV]at e2
    rw[e1,e2]
   rw[eQ]
   refine Qo (fun _=>⟨(V,(),G),rfl,rfl,hLV.1,fun y5 hy5=>⟨(V,(),y2.1),rfl,rfl,hLV.1,fun y6 hy6=>⟨eqEs V.hist y5.2 y6.2,rfl,rfl,⟨hLV.1,hy5.1,hy5.2,hy6.1,hy6.2⟩,fun _ _=>⟨(V,t,y5.1),rfl,rfl,ht4,fun y7 _=>⟨(V,t,y6.1),rfl,rfl,ht4,fun y8 _=>QU (fun _=>⟨(V,(),y7.1),rfl,rfl,hvV,fun _ _=>⟨(V,(),y8.1),rfl,rfl,hvV,fun _ _=>svB ?_⟩⟩) (fun h=>absurd rfl h)⟩⟩⟩⟩⟩) (fun h=>absurd (by omega) h)
   dsimp only
   rw[decide_eq_true rfl];rfl
 · have eQ:Z.run t i=V:=by rw[eV,show i=n by omega]
   rw[eQ]
   refine Qo (fun _=>⟨(V,(),G),rfl,rfl,hLV.1,fun y5 hy5=>⟨(V,(),G2),rfl,rfl,hLV.1,fun y6 hy6=>⟨eqEs V.hist y5.2 y6.2,rfl,rfl,⟨hLV.1,hy5.1,hy5.2,hy6.1,hy6.2⟩,fun _ _=>⟨(V,t,y5.1),rfl,rfl,ht4,fun y7 _=>⟨(V,t,y6.1),rfl,rfl,ht4,fun y8 _=>QU (fun _=>⟨(V,(),y7.1),rfl,rfl,hvV,fun _ _=>⟨(V,(),y8.1),rfl,rfl,hvV,fun _ _=>svB ?_⟩⟩) (fun h=>absurd rfl h)⟩⟩⟩⟩⟩) (fun h=>absurd (by omega) h)
   dsimp only
   rw[decide_eq_true rfl];rfl
end Go.Proofs.YtinijfhoenajkaaGreatDoor
