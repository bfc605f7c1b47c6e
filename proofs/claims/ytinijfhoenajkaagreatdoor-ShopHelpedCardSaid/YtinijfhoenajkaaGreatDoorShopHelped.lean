/- ShopHelped: the walk of the law. -/
import Derived.Test.YtinijfhoenajkaaGreatDoorZB5
namespace Go.Proofs.YtinijfhoenajkaaGreatDoor
open Go.RowKit
set_option linter.unusedVariables false
set_option maxRecDepth 100000
set_option maxHeartbeats 4000000
structure H1G (z:Sh) where
 i:Nat
 F:List Nat
 hi:i<=4
 h:∀u,u<i->(z.w u).does=0
def annH1 (z:Sh) (a b u v x u' v' x':Int):Ann where
 σ:=H1G z
 I g:=([(2,sv (.int .i64 a)),(3,sv (.int .i64 b)),(10,.o (.c (.p 1 0))),(11,.o (.c (.p 2 0))),(13,.o (.c (.p 0 0))),(14,sv (.int .i64 g.i))],[.abs (QB shM ShS.z ShS.good z) g.F,.cells [.one (.v (.int .i64 u)),.one (.v (.int .i64 v)),.one (.v (.int .i64 x))] 31,.cells [.one (.v (.int .i64 u')),.one (.v (.int .i64 v')),.one (.v (.int .i64 x'))] 31])
 dec g:=4-g.i
 pi env _:=[blkE env 13,blkE env 10,blkE env 11]
 nz:=[]
/-- The shop after a has said its wish, and b has had its operation done. -/
def helpZ (z:Sh) (a b u v x u' v' x':Int):Sh:=(((z.call a.toNat u v x).call b.toNat u' v' x').run a.toNat 2).run b.toNat 1000
theorem abGo2 {S T:Sh}(G:List Nat) (c:SB) (e:S=T):[SB.abs (QB shM ShS.z ShS.good S) G,c]=[SB.abs (QB shM ShS.z ShS.good T) G,c]:=by rw[e]
structure H2G (a b:Int) where
 i:Nat
 F:List Nat
 hi:i<=4
 h:∀u:Nat,u<i->(u:Int)=a\/(u:Int)=b
def annH2 (z:Sh) (a b u v x:Int):Ann where
 σ:=H2G a b
 I g:=([(2,sv (.int .i64 a)),(3,sv (.int .i64 b)),(10,.o (.c (.p 1 0))),(13,.o (.c (.p 0 0))),(19,sv (.int .i64 z.s.fl)),(20,sv (.int .i64 z.s.fe)),(21,sv (.int .i64 (z.s.now 0))),(22,sv (.int .i64 z.deeds.length)),(23,sv (.int .i64 g.i))],[.abs (QB shM ShS.z ShS.good z) g.F,.cells [.one (.v (.int .i64 u)),.one (.v (.int .i64 v)),.one (.v (.int .i64 x))] 31])
 dec g:=4-g.i
 pi env _:=[blkE env 13,blkE env 10]
 nz:=[]
theorem walk_ShopHelped (a0:Int) (a1:Option Addr) (len1 cap1:Nat) (z1:Nat->Nat->Int) (a2:Int) (a3:Int) (u4 v4 x4:Int) (u5 v5 x5:Int) (W:World) (hE:ErrType W) (w0:(Lit.int .i64 a0).wf=true) (w1:MvIn W a1 len1 cap1 z1) (w2:(Lit.int .i64 a2).wf=true) (w3:(Lit.int .i64 a3).wf=true):
 Calls Tryz.prog 5 #[.int .i64 a0,.slice a1 len1 cap1,.int .i64 a2,.int .i64 a3,.agg #[.int .i64 u4,.int .i64 v4,.int .i64 x4],.agg #[.int .i64 u5,.int .i64 v5,.int .i64 x5]] W fun e w'=>e=.returned (.bool true)/\Below W.heap.size W w':=by
 refine Qqd (AG:=[(5,[(0,annH1 (XW (1+QgI a0 6) (mvL z1 len1)) (QgI a2 4) (QgI a3 4) u4 v4 x4 u5 v5 x5),(2,annH2 (helpZ (XW (1+QgI a0 6) (mvL z1 len1)) (QgI a2 4) (QgI a3 4) u4 v4 x4 u5 v5 x5) (QgI a2 4) (QgI a3 4) u4 v4 x4)])]) (Γ:=[(15,.pure Qg8),(16,.inl Tryz.f16 (Tryz.f16.body.getD .skip)),(18,.pure QfO),(17,.inl Tryz.f17 (Tryz.f17.body.getD .skip)),(45,.mem (QiT W)),(21,.mem QiR.sh),(22,.pure Qg9),(24,.mem runG.sh),(23,.mem QqE.sh),(20,.pure XR),(25,.mem cstC.sh),(26,.mem verC.sh),(27,.mem ddsC.sh)]) Tryz.func5 rfl Qg Qd
  (.cons (shops_con W _) (.cons (⟨by kernel_rfl,rfl,rfl⟩) (.cons (QqS W _) (.cons (⟨by kernel_rfl,rfl,rfl⟩) (.cons (play_con W) (.cons (doesH W _) (.cons (Qn8 W _) (.cons (runGH W _) (.cons (callNH W _) (.cons (QaF W _) (.cons (cstH W _) (.cons (verH W _) (.cons (ddsH W _) (.nil _ _ _))))))))))))))
  [.c (.v (.int .i64 a0)),.c (.r a1 len1 cap1 len1 7 mvK z1),.c (.v (.int .i64 a2)),.c (.v (.int .i64 a3)),.a [.one (.v (.int .i64 u4)),.one (.v (.int .i64 v4)),.one (.v (.int .i64 x4))],.a [.one (.v (.int .i64 u5)),.one (.v (.int .i64 v5)),.one (.v (.int .i64 x5))]] (.bool true) 600 rfl ?_ rfl
 refine Qk (q:=True/\bif bif decide ((↑len1:Int)<=(120:Int))then false else true then SV.o (aB true)=SV.o (aB true)else True/\bif bif opOk u4 v4 x4 then false else true then SV.o (aB true)=SV.o (aB true)else True/\bif bif opOk u5 v5 x5 then false else true then SV.o (aB true)=SV.o (aB true)else True/\∃(s:PlS),[aI ((1:Int)+QgI a0 (6:Int)),SA.c (.r a1 len1 cap1 len1 7 (fun (j:Nat)=>bif Nat.beq j 6 then .u64 else .i64) z1)]=[aI s.1,SA.c (.r s.2 s.3 s.4 s.3 7 (fun (j:Nat)=>bif Nat.beq j 6 then .u64 else .i64) s.5)]/\eN/\(((1:Int)<=s.1/\s.1<=(6:Int))/\s.3<=3000/\Rws 7 mvK W (PlS.a s) (PlS.n s) s.4 s.5/\∀(i:Nat),i<s.3->U64 (s.5 i 6))/\∀(x:List Nat),True->((0:Int)<(4:Int)/\(4:Int)<=(9223372036854775807:Int))/\((0:Int)<(4:Int)/\(4:Int)<=(9223372036854775807:Int))/\(∃(s0:Ann.σ (annH1 (XW ((1:Int)+QgI a0 (6:Int)) (mvL z1 len1)) (QgI a2 (4:Int)) (QgI a3 (4:Int)) u4 v4 x4 u5 v5 x5)),(eS (aI (QgI a2 (4:Int))) (aI (QgI a2 (4:Int)))/\eS (aI (QgI a3 (4:Int))) (aI (QgI a3 (4:Int)))/\eS (aP 0 0) (aP 0 0)/\eS (aP 1 0) (aP 1 0)/\eS (aP 2 0) (aP 2 0)/\eS (aI 0) (aI ↑s0.1)/\True)/\[SB.abs (QB shM ShS.z ShS.good (XW s.1 (mvL s.5 s.3))) x,SB.cells [sI u4,sI v4,sI x4] 31,SB.cells [sI u5,sI v5,sI x5] 31]=[SB.abs (QB shM ShS.z ShS.good (XW ((1:Int)+QgI a0 (6:Int)) (mvL z1 len1))) s0.2,SB.cells [sI u4,sI v4,sI x4] 31,SB.cells [sI u5,sI v5,sI x5] 31])/\∀(s:H1G (XW ((1:Int)+QgI a0 (6:Int)) (mvL z1 len1))),bif decide ((↑s.1:Int)<(4:Int))then ∃(s_1:Sh × Nat × List Nat),[aP 0 0,aI ↑s.1]=[aP 0 0,aI (↑s_1.2.1:Int)]/\[SB.abs (QB shM ShS.z ShS.good (XW ((1:Int)+QgI a0 (6:Int)) (mvL z1 len1))) s.2]=[SB.abs (QB shM ShS.z ShS.good s_1.1) s_1.2.2]/\s_1.2.1<4/\∀(x:List Nat × Unit),True->bif (Sh.w s_1.1 s_1.2.1).2 != (0:Int)then SV.o (aB true)=SV.o (aB true)else ∃(s':H1G (XW ((1:Int)+QgI a0 (6:Int)) (mvL z1 len1))),((eS (aI (QgI a2 (4:Int))) (aI (QgI a2 (4:Int)))/\eS (aI (QgI a3 (4:Int))) (aI (QgI a3 (4:Int)))/\eS (aP 1 0) (aP 1 0)/\eS (aP 2 0) (aP 2 0)/\eS (aP 0 0) (aP 0 0)/\eS (aI (IntKind.wrap .i64 ((↑s.1:Int)+(1:Int)))) (aI ↑s'.1)/\True)/\[SB.abs (QB shM ShS.z ShS.good s_1.1) x.1,SB.cells [sI u4,sI v4,sI x4] 31,SB.cells [sI u5,sI v5,sI x5] 31]=[SB.abs (QB shM ShS.z ShS.good (XW ((1:Int)+QgI a0 (6:Int)) (mvL z1 len1))) s'.2,SB.cells [sI u4,sI v4,sI x4] 31,SB.cells [sI u5,sI v5,sI x5] 31])/\4-s'.1<4-s.1 else bif QgI a2 (4:Int)==QgI a3 (4:Int)then SV.o (aB true)=SV.o (aB true)else ∃(s_1:Sh × (Int × OpA) × List Nat),[aP 0 0,aI (QgI a2 (4:Int)),SA.a [sI u4,sI v4,sI x4]]=[aP 0 0,aI s_1.2.1.1,SA.a [sI s_1.2.1.2.1,sI s_1.2.1.2.2,sI s_1.2.1.2.3]]/\[SB.abs (QB shM ShS.z ShS.good (XW ((1:Int)+QgI a0 (6:Int)) (mvL z1 len1))) s.2]=[SB.abs (QB shM ShS.z ShS.good s_1.1) s_1.2.2]/\(CallOK s_1.1/\inT s_1.2.1.1=true/\(Sh.w s_1.1 (Int.toNat s_1.2.1.1)).2=(0:Int)/\opOk s_1.2.1.2.1 s_1.2.1.2.2 s_1.2.1.2.3=true)/\∀(x:List Nat × Unit),True->∃(s:Sh × (Int × OpA) × List Nat),[aP 0 0,aI (QgI a3 (4:Int)),SA.a [sI u5,sI v5,sI x5]]=[aP 0 0,aI s.2.1.1,SA.a [sI s.2.1.2.1,sI s.2.1.2.2,sI s.2.1.2.3]]/\[SB.abs (QB shM ShS.z ShS.good (bif inT s_1.2.1.1 then Sh.call s_1.1 (Int.toNat s_1.2.1.1) s_1.2.1.2.1 s_1.2.1.2.2 s_1.2.1.2.3 else s_1.1)) x.1]=[SB.abs (QB shM ShS.z ShS.good s.1) s.2.2]/\(CallOK s.1/\inT s.2.1.1=true/\(Sh.w s.1 (Int.toNat s.2.1.1)).2=(0:Int)/\opOk s.2.1.2.1 s.2.1.2.2 s.2.1.2.3=true)/\∀(x:List Nat × Unit),True->∃(s_2:Sh × (Int × Int) × List Nat),[aP 0 0,aI (QgI a2 (4:Int)),aI 2]=[aP 0 0,aI s_2.2.1.1,aI s_2.2.1.2]/\[SB.abs (QB shM ShS.z ShS.good (bif inT s.2.1.1 then Sh.call s.1 (Int.toNat s.2.1.1) s.2.1.2.1 s.2.1.2.2 s.2.1.2.3 else s.1)) x.1]=[SB.abs (QB shM ShS.z ShS.good s_2.1) s_2.2.2]/\((inT s_2.2.1.1=true->RunOK s_2.1 (Int.toNat s_2.2.1.1) s_2.2.1.2)/\inT s_2.2.1.1=true/\runB s_2.2.1.2=true)/\∀(x:List Nat × Unit),True->bif (↑(Sh.ran s_2.1 (Int.toNat s_2.2.1.1) (Int.toNat s_2.2.1.2)):Int) != (2:Int)then SV.o (aB false)=SV.o (aB true)else ∃(s:Sh × (Int × Int) × List Nat),[aP 0 0,aI (QgI a3 (4:Int)),aI 1000]=[aP 0 0,aI s.2.1.1,aI s.2.1.2]/\[SB.abs (QB shM ShS.z ShS.good (Sh.runA s_2.1 s_2.2.1.1 s_2.2.1.2)) x.1]=[SB.abs (QB shM ShS.z ShS.good s.1) s.2.2]/\((inT s.2.1.1=true->RunOK s.1 (Int.toNat s.2.1.1) s.2.1.2)/\inT s.2.1.1=true/\runB s.2.1.2=true)/\∀(x:List Nat × Unit),True->∃(s_3:Sh × Nat × List Nat),[aP 0 0,aI (QgI a3 (4:Int))]=[aP 0 0,aI (↑s_3.2.1:Int)]/\[SB.abs (QB shM ShS.z ShS.good (Sh.runA s.1 s.2.1.1 s.2.1.2)) x.1]=[SB.abs (QB shM ShS.z ShS.good s_3.1) s_3.2.2]/\s_3.2.1<4/\∀(x:List Nat × Unit),True->bif (Sh.w s_3.1 s_3.2.1).2 != (0:Int)then SV.o (aB false)=SV.o (aB true)else ∃(s:Sh × Unit × List Nat),[aP 0 0]=[aP 0 0]/\[SB.abs (QB shM ShS.z ShS.good s_3.1) x.1]=[SB.abs (QB shM ShS.z ShS.good s.1) s.2.2]/\True/\∀(x:List Nat × Unit),True->∃(s_4:Sh × Unit × List Nat),[aP 0 0]=[aP 0 0]/\[SB.abs (QB shM ShS.z ShS.good s.1) x.1]=[SB.abs (QB shM ShS.z ShS.good s_4.1) s_4.2.2]/\((0:Int)<=(Sh.s s_4.1).1 0/\(Sh.s s_4.1).1 0<(1000000000:Int))/\∀(x:List Nat × Unit),True->∃(s_5:Sh × Unit × List Nat),[aP 0 0]=[aP 0 0]/\[SB.abs (QB shM ShS.z ShS.good s_4.1) x.1]=[SB.abs (QB shM ShS.z ShS.good s_5.1) s_5.2.2]/\List.length s_5.1.7<=1000000000/\∀(x:List Nat × RwR),(List.length s_5.1.7<=x.2.1/\x.2.1<=x.2.2)/\IsR 6 Dd.at Dd.nil x.2.4 (List.map (fun (self:Vd)=>self.2) s_5.1.7)->List.length s_5.1.7<=x.2.2/\(∃(s0:Ann.σ (annH2 (helpZ (XW ((1:Int)+QgI a0 (6:Int)) (mvL z1 len1)) (QgI a2 (4:Int)) (QgI a3 (4:Int)) u4 v4 x4 u5 v5 x5) (QgI a2 (4:Int)) (QgI a3 (4:Int)) u4 v4 x4)),(eS (aI (QgI a2 (4:Int))) (aI (QgI a2 (4:Int)))/\eS (aI (QgI a3 (4:Int))) (aI (QgI a3 (4:Int)))/\eS (aP 1 0) (aP 1 0)/\eS (aP 0 0) (aP 0 0)/\eS (aI (Sh.s s.1).4) (aI (Sh.s (helpZ (XW ((1:Int)+QgI a0 (6:Int)) (mvL z1 len1)) (QgI a2 (4:Int)) (QgI a3 (4:Int)) u4 v4 x4 u5 v5 x5)).4)/\eS (aI (Sh.s s.1).5) (aI (Sh.s (helpZ (XW ((1:Int)+QgI a0 (6:Int)) (mvL z1 len1)) (QgI a2 (4:Int)) (QgI a3 (4:Int)) u4 v4 x4 u5 v5 x5)).5)/\eS (aI ((Sh.s s_4.1).1 0)) (aI ((Sh.s (helpZ (XW ((1:Int)+QgI a0 (6:Int)) (mvL z1 len1)) (QgI a2 (4:Int)) (QgI a3 (4:Int)) u4 v4 x4 u5 v5 x5)).1 0))/\eS (aI (↑(List.length s_5.1.7):Int)) (aI (↑(List.length (helpZ (XW ((1:Int)+QgI a0 (6:Int)) (mvL z1 len1)) (QgI a2 (4:Int)) (QgI a3 (4:Int)) u4 v4 x4 u5 v5 x5).7):Int))/\eS (aI 0) (aI ↑s0.1)/\True)/\[SB.abs (QB shM ShS.z ShS.good s_5.1) x.1,SB.cells [sI u4,sI v4,sI x4] 31]=[SB.abs (QB shM ShS.z ShS.good (Sh.run (Sh.run (Sh.call (Sh.call (XW ((1:Int)+QgI a0 (6:Int)) (mvL z1 len1)) (Int.toNat (QgI a2 (4:Int))) u4 v4 x4) (Int.toNat (QgI a3 (4:Int))) u5 v5 x5) (Int.toNat (QgI a2 (4:Int))) 2) (Int.toNat (QgI a3 (4:Int))) 1000)) s0.2,SB.cells [sI u4,sI v4,sI x4] 31])/\∀(s:H2G (QgI a2 (4:Int)) (QgI a3 (4:Int))),bif decide ((↑s.1:Int)<(4:Int))then bif (↑s.1:Int)==QgI a2 (4:Int)then ∃(s':H2G (QgI a2 (4:Int)) (QgI a3 (4:Int))),((eS (aI (QgI a2 (4:Int))) (aI (QgI a2 (4:Int)))/\eS (aI (QgI a3 (4:Int))) (aI (QgI a3 (4:Int)))/\eS (aP 1 0) (aP 1 0)/\eS (aP 0 0) (aP 0 0)/\eS (aI (Sh.s (helpZ (XW ((1:Int)+QgI a0 (6:Int)) (mvL z1 len1)) (QgI a2 (4:Int)) (QgI a3 (4:Int)) u4 v4 x4 u5 v5 x5)).4) (aI (Sh.s (helpZ (XW ((1:Int)+QgI a0 (6:Int)) (mvL z1 len1)) (QgI a2 (4:Int)) (QgI a3 (4:Int)) u4 v4 x4 u5 v5 x5)).4)/\eS (aI (Sh.s (helpZ (XW ((1:Int)+QgI a0 (6:Int)) (mvL z1 len1)) (QgI a2 (4:Int)) (QgI a3 (4:Int)) u4 v4 x4 u5 v5 x5)).5) (aI (Sh.s (helpZ (XW ((1:Int)+QgI a0 (6:Int)) (mvL z1 len1)) (QgI a2 (4:Int)) (QgI a3 (4:Int)) u4 v4 x4 u5 v5 x5)).5)/\eS (aI ((Sh.s (helpZ (XW ((1:Int)+QgI a0 (6:Int)) (mvL z1 len1)) (QgI a2 (4:Int)) (QgI a3 (4:Int)) u4 v4 x4 u5 v5 x5)).1 0)) (aI ((Sh.s (helpZ (XW ((1:Int)+QgI a0 (6:Int)) (mvL z1 len1)) (QgI a2 (4:Int)) (QgI a3 (4:Int)) u4 v4 x4 u5 v5 x5)).1 0))/\eS (aI (↑(List.length (helpZ (XW ((1:Int)+QgI a0 (6:Int)) (mvL z1 len1)) (QgI a2 (4:Int)) (QgI a3 (4:Int)) u4 v4 x4 u5 v5 x5).7):Int)) (aI (↑(List.length (helpZ (XW ((1:Int)+QgI a0 (6:Int)) (mvL z1 len1)) (QgI a2 (4:Int)) (QgI a3 (4:Int)) u4 v4 x4 u5 v5 x5).7):Int))/\eS (aI (IntKind.wrap .i64 ((↑s.1:Int)+(1:Int)))) (aI ↑s'.1)/\True)/\[SB.abs (QB shM ShS.z ShS.good (Sh.run (Sh.run (Sh.call (Sh.call (XW ((1:Int)+QgI a0 (6:Int)) (mvL z1 len1)) (Int.toNat (QgI a2 (4:Int))) u4 v4 x4) (Int.toNat (QgI a3 (4:Int))) u5 v5 x5) (Int.toNat (QgI a2 (4:Int))) 2) (Int.toNat (QgI a3 (4:Int))) 1000)) s.2,SB.cells [sI u4,sI v4,sI x4] 31]=[SB.abs (QB shM ShS.z ShS.good (Sh.run (Sh.run (Sh.call (Sh.call (XW ((1:Int)+QgI a0 (6:Int)) (mvL z1 len1)) (Int.toNat (QgI a2 (4:Int))) u4 v4 x4) (Int.toNat (QgI a3 (4:Int))) u5 v5 x5) (Int.toNat (QgI a2 (4:Int))) 2) (Int.toNat (QgI a3 (4:Int))) 1000)) s'.2,SB.cells [sI u4,sI v4,sI x4] 31])/\4-s'.1<4-s.1 else bif (↑s.1:Int)==QgI a3 (4:Int)then ∃(s':H2G (QgI a2 (4:Int)) (QgI a3 (4:Int))),((eS (aI (QgI a2 (4:Int))) (aI (QgI a2 (4:Int)))/\eS (aI (QgI a3 (4:Int))) (aI (QgI a3 (4:Int)))/\eS (aP 1 0) (aP 1 0)/\eS (aP 0 0) (aP 0 0)/\eS (aI (Sh.s (helpZ (XW ((1:Int)+QgI a0 (6:Int)) (mvL z1 len1)) (QgI a2 (4:Int)) (QgI a3 (4:Int)) u4 v4 x4 u5 v5 x5)).4) (aI (Sh.s (helpZ (XW ((1:Int)+QgI a0 (6:Int)) (mvL z1 len1)) (QgI a2 (4:Int)) (QgI a3 (4:Int)) u4 v4 x4 u5 v5 x5)).4)/\eS (aI (Sh.s (helpZ (XW ((1:Int)+QgI a0 (6:Int)) (mvL z1 len1)) (QgI a2 (4:Int)) (QgI a3 (4:Int)) u4 v4 x4 u5 v5 x5)).5) (aI (Sh.s (helpZ (XW ((1:Int)+QgI a0 (6:Int)) (mvL z1 len1)) (QgI a2 (4:Int)) (QgI a3 (4:Int)) u4 v4 x4 u5 v5 x5)).5)/\eS (aI ((Sh.s (helpZ (XW ((1:Int)+QgI a0 (6:Int)) (mvL z1 len1)) (QgI a2 (4:Int)) (QgI a3 (4:Int)) u4 v4 x4 u5 v5 x5)).1 0)) (aI ((Sh.s (helpZ (XW ((1:Int)+QgI a0 (6:Int)) (mvL z1 len1)) (QgI a2 (4:Int)) (QgI a3 (4:Int)) u4 v4 x4 u5 v5 x5)).1 0))/\eS (aI (↑(List.length (helpZ (XW ((1:Int)+QgI a0 (6:Int)) (mvL z1 len1)) (QgI a2 (4:Int)) (QgI a3 (4:Int)) u4 v4 x4 u5 v5 x5).7):Int)) (aI (↑(List.length (helpZ (XW ((1:Int)+QgI a0 (6:Int)) (mvL z1 len1)) (QgI a2 (4:Int)) (QgI a3 (4:Int)) u4 v4 x4 u5 v5 x5).7):Int))/\eS (aI (IntKind.wrap .i64 ((↑s.1:Int)+(1:Int)))) (aI ↑s'.1)/\True)/\[SB.abs (QB shM ShS.z ShS.good (Sh.run (Sh.run (Sh.call (Sh.call (XW ((1:Int)+QgI a0 (6:Int)) (mvL z1 len1)) (Int.toNat (QgI a2 (4:Int))) u4 v4 x4) (Int.toNat (QgI a3 (4:Int))) u5 v5 x5) (Int.toNat (QgI a2 (4:Int))) 2) (Int.toNat (QgI a3 (4:Int))) 1000)) s.2,SB.cells [sI u4,sI v4,sI x4] 31]=[SB.abs (QB shM ShS.z ShS.good (Sh.run (Sh.run (Sh.call (Sh.call (XW ((1:Int)+QgI a0 (6:Int)) (mvL z1 len1)) (Int.toNat (QgI a2 (4:Int))) u4 v4 x4) (Int.toNat (QgI a3 (4:Int))) u5 v5 x5) (Int.toNat (QgI a2 (4:Int))) 2) (Int.toNat (QgI a3 (4:Int))) 1000)) s'.2,SB.cells [sI u4,sI v4,sI x4] 31])/\4-s'.1<4-s.1 else ∃(s_6:Sh × (Int × OpA) × List Nat),[aP 0 0,aI ↑s.1,SA.a [sI u4,sI v4,sI x4]]=[aP 0 0,aI s_6.2.1.1,SA.a [sI s_6.2.1.2.1,sI s_6.2.1.2.2,sI s_6.2.1.2.3]]/\[SB.abs (QB shM ShS.z ShS.good (Sh.run (Sh.run (Sh.call (Sh.call (XW ((1:Int)+QgI a0 (6:Int)) (mvL z1 len1)) (Int.toNat (QgI a2 (4:Int))) u4 v4 x4) (Int.toNat (QgI a3 (4:Int))) u5 v5 x5) (Int.toNat (QgI a2 (4:Int))) 2) (Int.toNat (QgI a3 (4:Int))) 1000)) s.2]=[SB.abs (QB shM ShS.z ShS.good s_6.1) s_6.2.2]/\(CallOK s_6.1/\inT s_6.2.1.1=true/\(Sh.w s_6.1 (Int.toNat s_6.2.1.1)).2=(0:Int)/\opOk s_6.2.1.2.1 s_6.2.1.2.2 s_6.2.1.2.3=true)/\∀(x:List Nat × Unit),True->∃(s_7:Sh × (Int × Int) × List Nat),[aP 0 0,aI ↑s.1,aI 3]=[aP 0 0,aI s_7.2.1.1,aI s_7.2.1.2]/\[SB.abs (QB shM ShS.z ShS.good (bif inT s_6.2.1.1 then Sh.call s_6.1 (Int.toNat s_6.2.1.1) s_6.2.1.2.1 s_6.2.1.2.2 s_6.2.1.2.3 else s_6.1)) x.1]=[SB.abs (QB shM ShS.z ShS.good s_7.1) s_7.2.2]/\((inT s_7.2.1.1=true->RunOK s_7.1 (Int.toNat s_7.2.1.1) s_7.2.1.2)/\inT s_7.2.1.1=true/\runB s_7.2.1.2=true)/\∀(x:List Nat × Unit),True->bif (↑(Sh.ran s_7.1 (Int.toNat s_7.2.1.1) (Int.toNat s_7.2.1.2)):Int) != (3:Int)then SV.o (aB false)=SV.o (aB true)else ∃(s:Sh × (Int × Int) × List Nat),[aP 0 0,aI (QgI a2 (4:Int)),aI 6]=[aP 0 0,aI s.2.1.1,aI s.2.1.2]/\[SB.abs (QB shM ShS.z ShS.good (Sh.runA s_7.1 s_7.2.1.1 s_7.2.1.2)) x.1]=[SB.abs (QB shM ShS.z ShS.good s.1) s.2.2]/\((inT s.2.1.1=true->RunOK s.1 (Int.toNat s.2.1.1) s.2.1.2)/\inT s.2.1.1=true/\runB s.2.1.2=true)/\∀(x:List Nat × Unit),True->∃(s_8:Sh × Nat × List Nat),[aP 0 0,aI (QgI a2 (4:Int))]=[aP 0 0,aI (↑s_8.2.1:Int)]/\[SB.abs (QB shM ShS.z ShS.good (Sh.runA s.1 s.2.1.1 s.2.1.2)) x.1]=[SB.abs (QB shM ShS.z ShS.good s_8.1) s_8.2.2]/\s_8.2.1<4/\∀(x:List Nat × Unit),True->bif (Sh.w s_8.1 s_8.2.1).2 != (0:Int)then SV.o (aB false)=SV.o (aB true)else ∃(s:Sh × Unit × List Nat),[aP 0 0]=[aP 0 0]/\[SB.abs (QB shM ShS.z ShS.good s_8.1) x.1]=[SB.abs (QB shM ShS.z ShS.good s.1) s.2.2]/\True/\∀(x:List Nat × Unit),True->bif (Sh.s (helpZ (XW ((1:Int)+QgI a0 (6:Int)) (mvL z1 len1)) (QgI a2 (4:Int)) (QgI a3 (4:Int)) u4 v4 x4 u5 v5 x5)).4==(Sh.s s.1).4 then bif (Sh.s (helpZ (XW ((1:Int)+QgI a0 (6:Int)) (mvL z1 len1)) (QgI a2 (4:Int)) (QgI a3 (4:Int)) u4 v4 x4 u5 v5 x5)).5==(Sh.s s.1).5 then ∃(s_9:Sh × Unit × List Nat),[aP 0 0]=[aP 0 0]/\[SB.abs (QB shM ShS.z ShS.good s.1) x.1]=[SB.abs (QB shM ShS.z ShS.good s_9.1) s_9.2.2]/\((0:Int)<=(Sh.s s_9.1).1 0/\(Sh.s s_9.1).1 0<(1000000000:Int))/\∀(x:List Nat × Unit),True->bif (Sh.s s_9.1).1 0==(Sh.s (helpZ (XW ((1:Int)+QgI a0 (6:Int)) (mvL z1 len1)) (QgI a2 (4:Int)) (QgI a3 (4:Int)) u4 v4 x4 u5 v5 x5)).1 0 then ∃(s:Sh × Unit × List Nat),[aP 0 0]=[aP 0 0]/\[SB.abs (QB shM ShS.z ShS.good s_9.1) x.1]=[SB.abs (QB shM ShS.z ShS.good s.1) s.2.2]/\List.length s.1.7<=1000000000/\∀(x:List Nat × RwR),(List.length s.1.7<=x.2.1/\x.2.1<=x.2.2)/\IsR 6 Dd.at Dd.nil x.2.4 (List.map (fun (self:Vd)=>self.2) s.1.7)->List.length s.1.7<=x.2.2/\SV.o (aB ((↑(List.length s.1.7):Int)==(↑(List.length (helpZ (XW ((1:Int)+QgI a0 (6:Int)) (mvL z1 len1)) (QgI a2 (4:Int)) (QgI a3 (4:Int)) u4 v4 x4 u5 v5 x5).7):Int)))=SV.o (aB true)else SV.o (aB false)=SV.o (aB true)else SV.o (aB false)=SV.o (aB true)else SV.o (aB false)=SV.o (aB true)else ∃(s_6:Sh × (Int × Int) × List Nat),[aP 0 0,aI (QgI a2 (4:Int)),aI 6]=[aP 0 0,aI s_6.2.1.1,aI s_6.2.1.2]/\[SB.abs (QB shM ShS.z ShS.good (Sh.run (Sh.run (Sh.call (Sh.call (XW ((1:Int)+QgI a0 (6:Int)) (mvL z1 len1)) (Int.toNat (QgI a2 (4:Int))) u4 v4 x4) (Int.toNat (QgI a3 (4:Int))) u5 v5 x5) (Int.toNat (QgI a2 (4:Int))) 2) (Int.toNat (QgI a3 (4:Int))) 1000)) s.2]=[SB.abs (QB shM ShS.z ShS.good s_6.1) s_6.2.2]/\((inT s_6.2.1.1=true->RunOK s_6.1 (Int.toNat s_6.2.1.1) s_6.2.1.2)/\inT s_6.2.1.1=true/\runB s_6.2.1.2=true)/\∀(x:List Nat × Unit),True->∃(s:Sh × Nat × List Nat),[aP 0 0,aI (QgI a2 (4:Int))]=[aP 0 0,aI (↑s.2.1:Int)]/\[SB.abs (QB shM ShS.z ShS.good (Sh.runA s_6.1 s_6.2.1.1 s_6.2.1.2)) x.1]=[SB.abs (QB shM ShS.z ShS.good s.1) s.2.2]/\s.2.1<4/\∀(x:List Nat × Unit),True->bif (Sh.w s.1 s.2.1).2 != (0:Int)then SV.o (aB false)=SV.o (aB true)else ∃(s_7:Sh × Unit × List Nat),[aP 0 0]=[aP 0 0]/\[SB.abs (QB shM ShS.z ShS.good s.1) x.1]=[SB.abs (QB shM ShS.z ShS.good s_7.1) s_7.2.2]/\True/\∀(x:List Nat × Unit),True->bif (Sh.s (helpZ (XW ((1:Int)+QgI a0 (6:Int)) (mvL z1 len1)) (QgI a2 (4:Int)) (QgI a3 (4:Int)) u4 v4 x4 u5 v5 x5)).4==(Sh.s s_7.1).4 then bif (Sh.s (helpZ (XW ((1:Int)+QgI a0 (6:Int)) (mvL z1 len1)) (QgI a2 (4:Int)) (QgI a3 (4:Int)) u4 v4 x4 u5 v5 x5)).5==(Sh.s s_7.1).5 then ∃(s:Sh × Unit × List Nat),[aP 0 0]=[aP 0 0]/\[SB.abs (QB shM ShS.z ShS.good s_7.1) x.1]=[SB.abs (QB shM ShS.z ShS.good s.1) s.2.2]/\((0:Int)<=(Sh.s s.1).1 0/\(Sh.s s.1).1 0<(1000000000:Int))/\∀(x:List Nat × Unit),True->bif (Sh.s s.1).1 0==(Sh.s (helpZ (XW ((1:Int)+QgI a0 (6:Int)) (mvL z1 len1)) (QgI a2 (4:Int)) (QgI a3 (4:Int)) u4 v4 x4 u5 v5 x5)).1 0 then ∃(s_8:Sh × Unit × List Nat),[aP 0 0]=[aP 0 0]/\[SB.abs (QB shM ShS.z ShS.good s.1) x.1]=[SB.abs (QB shM ShS.z ShS.good s_8.1) s_8.2.2]/\List.length s_8.1.7<=1000000000/\∀(x:List Nat × RwR),(List.length s_8.1.7<=x.2.1/\x.2.1<=x.2.2)/\IsR 6 Dd.at Dd.nil x.2.4 (List.map (fun (self:Vd)=>self.2) s_8.1.7)->List.length s_8.1.7<=x.2.2/\SV.o (aB ((↑(List.length s_8.1.7):Int)==(↑(List.length (helpZ (XW ((1:Int)+QgI a0 (6:Int)) (mvL z1 len1)) (QgI a2 (4:Int)) (QgI a3 (4:Int)) u4 v4 x4 u5 v5 x5).7):Int)))=SV.o (aB true)else SV.o (aB false)=SV.o (aB true)else SV.o (aB false)=SV.o (aB true)else SV.o (aB false)=SV.o (aB true)) (by kernel_rfl) ?_
 have k1:1<=1+QgI a0 6:=by have:=QeC a0 6 (by decide);omega
 have k6:1+QgI a0 6<=6:=by have:=Qjl a0 6 (by decide);omega
 generalize 1+QgI a0 6=K at k1 k6 ⊢
 refine⟨trivial,Qnk (fun _=>rfl) (fun hh=>⟨trivial,XA (fun _=>rfl) (fun ho=>⟨trivial,XA (fun _=>rfl) (fun hq=>⟨trivial,⟨K,a1,len1,cap1,z1⟩,rfl,rfl,⟨⟨k1,k6⟩,(by show len1<=3000;omega),w1.1,w1.2⟩,fun x _=>?_⟩)⟩)⟩)⟩
 obtain⟨g,F2,hs⟩:=QmY k1 k6 len1 (mvL z1 len1) (Qqi z1 len1) (by omega)
 have hs2:(XW K (mvL z1 len1)).steps<=120000:=by omega
 have F:=F2.fi
 have hL:=F.lens (by omega)
 have hT:=F.steps0
 have hI:=F.i
 generalize XW K (mvL z1 len1)=Z at *
 have ha0:=QeC a2 4 (by decide)
 have ha4:=Qjl a2 4 (by decide)
 have hb0:=QeC a3 4 (by decide)
 have hb4:=Qjl a3 4 (by decide)
 obtain⟨ta,eta⟩:=Int.eq_ofNat_of_zero_le ha0
 obtain⟨tb,etb⟩:=Int.eq_ofNat_of_zero_le hb0
 rw[eta]at ha4 ⊢
 rw[etb]at hb4 ⊢
 have ha:ta<4:=by omega
 have hb:tb<4:=by omega
 have hTa:inT (ta:Int)=true:=decide_eq_true (by omega)
 have hTb:inT (tb:Int)=true:=decide_eq_true (by omega)
 refine⟨⟨by decide,by decide⟩,⟨by decide,by decide⟩,⟨⟨0,x,by decide,fun u h=>absurd h (Nat.not_lt_zero _)⟩,⟨rfl,rfl,rfl,rfl,rfl,rfl,trivial⟩,rfl⟩,?_⟩
 rintro⟨i,G,hi,hp⟩
 dsimp only
 refine Qr (fun hlt=>⟨(Z,i,G),rfl,rfl,(by show i<4;omega),fun y _=>QD (fun _=>rfl) (fun h0=>⟨⟨i+1,y.1,by omega,fun u hu'=>?_⟩,⟨⟨rfl,rfl,rfl,rfl,rfl,svI (sucI (by omega)),trivial⟩,rfl⟩,by dsimp only;omega⟩)⟩) (fun hge=>?_)
 · by_cases e:u=i
   · subst e;exact h0
   · exact hp u (by omega)
 obtain rfl:i=4:=by omega
 refine Xa (fun _=>rfl) (fun hne=>?_)
 have hab:ta≠tb:=fun e=>hne (by rw[e])
 obtain⟨Y1,h1⟩:∃Y,Y=Z.call ta u4 v4 x4:=⟨_,rfl⟩
 obtain⟨Y2,h2⟩:∃Y,Y=Y1.call tb u5 v5 x5:=⟨_,rfl⟩
 obtain⟨Y3,h3⟩:∃Y,Y=Y2.run ta 2:=⟨_,rfl⟩
 obtain⟨Y4,h4⟩:∃Y,Y=Y3.run tb 1000:=⟨_,rfl⟩
 have H:=helped F2 ha hb hab (fun u hu=>hp u hu) ho hq (by omega) h1 h2 h3 h4
 obtain⟨g1,I1⟩:=H.f1
 obtain⟨g2,I2⟩:=H.f2
 obtain⟨g3,I3⟩:=H.f3
 obtain⟨g4,I4⟩:=H.f4
 have s1:=H.s1
 have s2:=H.s2
 have s3:=H.s3
 have s4:=H.s4
 have hv4:=I4.ver (by omega)
 have hL4:=(I4.lens (by omega)).2
 have eH:helpZ Z (ta:Int) (tb:Int) u4 v4 x4 u5 v5 x5=Y4:=by unfold helpZ;rw[Int.toNat_natCast,Int.toNat_natCast,<- h1,<- h2,<- h3,<- h4]
 have eY1:(bif inT (ta:Int)then Sh.call Z (Int.toNat (ta:Int)) u4 v4 x4 else Z)=Y1:=by rw[hTa,Int.toNat_natCast];exact h1.symm
 have eY2:(bif inT (tb:Int)then Sh.call Y1 (Int.toNat (tb:Int)) u5 v5 x5 else Y1)=Y2:=by rw[hTb,Int.toNat_natCast];exact h2.symm
 have eY3:Sh.runA Y2 (ta:Int) 2=Y3:=by unfold Sh.runA;rw[hTa,Int.toNat_natCast];exact h3.symm
 have eY4:Sh.runA Y3 (tb:Int) 1000=Y4:=by unfold Sh.runA;rw[hTb,Int.toNat_natCast];exact h4.symm
 clear h1 h2 h3 h4
 have t0:Z.steps<100000000:=by omega
 have t1:Y1.steps<100000000:=by omega
 have t4:Y4.steps<100000000:=by omega
 refine⟨(Z,((ta:Int),⟨u4,v4,x4⟩),G),rfl,rfl,⟨CallOK.of F t0,hTa,(by show (Z.w (Int.toNat (ta:Int))).does=0;rw[Int.toNat_natCast];exact hp ta ha),ho⟩,fun y1 _=>⟨(Y1,((tb:Int),⟨u5,v5,x5⟩),y1.1),rfl,abGo y1.1 eY1,⟨CallOK.of I1 t1,hTb,(by show (Y1.w (Int.toNat (tb:Int))).does=0;rw[Int.toNat_natCast];exact H.b1),hq⟩,fun y2 _=>⟨(Y2,((ta:Int),2),y2.1),rfl,abGo y2.1 eY2,⟨fun _=>(by show RunOK Y2 (Int.toNat (ta:Int)) 2;rw[Int.toNat_natCast];exact RunOK.of I2 ha (by omega) 2),hTa,rfl⟩,fun y3 _=>?_⟩⟩⟩
 dsimp only
 rw[eH,Int.toNat_natCast ta,show Int.toNat (2:Int)=2 from rfl,H.r2]
 refine QD (fun h=>absurd (by decide) h) (fun _=>⟨(Y3,((tb:Int),1000),y3.1),rfl,abGo y3.1 eY3,⟨fun _=>(by show RunOK Y3 (Int.toNat (tb:Int)) 1000;rw[Int.toNat_natCast];exact RunOK.of I3 hb (by omega) 1000),hTb,rfl⟩,fun y4 _=>⟨(Y4,tb,y4.1),rfl,abGo y4.1 eY4,hb,fun y5 _=>QD (fun h=>absurd H.b4 h) (fun _=>⟨(Y4,(),y5.1),rfl,rfl,trivial,fun y6 _=>⟨(Y4,(),y6.1),rfl,rfl,hv4,fun y7 _=>⟨(Y4,(),y7.1),rfl,rfl,hL4,fun y8 hy8=>⟨Nat.le_trans hy8.1.1 hy8.1.2,⟨⟨0,y8.1,by decide,fun u h=>absurd h (Nat.not_lt_zero _)⟩,⟨rfl,rfl,rfl,rfl,rfl,rfl,rfl,rfl,rfl,trivial⟩,abGo2 y8.1 _ eH.symm⟩,?_⟩⟩⟩⟩)⟩⟩)
 rintro⟨j,G2,hj,hq2⟩
 dsimp only
 refine Qr (fun hlt=>Xa (fun e=>⟨⟨j+1,G2,by omega,fun u hu'=>?_⟩,⟨⟨rfl,rfl,rfl,rfl,rfl,rfl,rfl,rfl,svI (sucI (by omega)),trivial⟩,rfl⟩,by dsimp only;omega⟩) (fun nea=>Xa (fun e=>⟨⟨j+1,G2,by omega,fun u hu'=>?_⟩,⟨⟨rfl,rfl,rfl,rfl,rfl,rfl,rfl,rfl,svI (sucI (by omega)),trivial⟩,rfl⟩,by dsimp only;omega⟩) (fun neb=>?_))) (fun hge=>?_)
 · by_cases e':u=j
   · subst e';exact .inl e
   · exact hq2 u (by omega)
 · by_cases e':u=j
   · subst e';exact .inr e
   · exact hq2 u (by omega)
 · have hj4:j<4:=by omega
   obtain⟨d0,hl⟩:=H.last j hj4 (fun e=>nea (by rw[e])) (fun e=>neb (by rw[e]))
   obtain⟨Y5,h5⟩:∃Y,Y=Y4.call j u4 v4 x4:=⟨_,rfl⟩
   obtain⟨Y6,h6⟩:∃Y,Y=Y5.run j 3:=⟨_,rfl⟩
   obtain⟨Y7,h7⟩:∃Y,Y=Y6.run ta 6:=⟨_,rfl⟩
   obtain⟨⟨g5,I5⟩,s5,r5,⟨g6,I6⟩,s6,a7,e7,d7⟩:=hl Y5 Y6 Y7 h5 h6 h7
   have hTj:inT (j:Int)=true:=decide_eq_true (by omega)
   have eY5:(bif inT (j:Int)then Sh.call Y4 (Int.toNat (j:Int)) u4 v4 x4 else Y4)=Y5:=by rw[hTj,Int.toNat_natCast];exact h5.symm
   have eY6:Sh.runA Y5 (j:Int) 3=Y6:=by unfold Sh.runA;rw[hTj,Int.toNat_natCast];exact h6.symm
   have eY7:Sh.runA Y6 (ta:Int) 6=Y7:=by unfold Sh.runA;rw[hTa,Int.toNat_natCast];exact h7.symm
   have hv7:0<=Y7.s.now 0/\Y7.s.now 0<1000000000:=by rw[e7];exact hv4
   have hL7:Y7.deeds.length<=1000000000:=by rw[d7];exact hL4
   refine⟨(Y4,((j:Int),⟨u4,v4,x4⟩),G2),rfl,(by first|exact abGo G2 eH|rfl),⟨CallOK.of I4 t4,hTj,(by show (Y4.w (Int.toNat (j:Int))).does=0;rw[Int.toNat_natCast];exact d0),ho⟩,fun y9 _=>⟨(Y5,((j:Int),3),y9.1),rfl,abGo y9.1 eY5,⟨fun _=>(by show RunOK Y5 (Int.toNat (j:Int)) 3;rw[Int.toNat_natCast];exact RunOK.of I5 hj4 (by omega) 3),hTj,rfl⟩,fun y10 _=>?_⟩⟩
   dsimp only
   rw[Int.toNat_natCast j,show Int.toNat (3:Int)=3 from rfl,r5]
   exact QD (fun h=>absurd (by decide) h) (fun _=>⟨(Y6,((ta:Int),6),y10.1),rfl,abGo y10.1 eY6,⟨fun _=>(by show RunOK Y6 (Int.toNat (ta:Int)) 6;rw[Int.toNat_natCast];exact RunOK.of I6 ha (by omega) 6),hTa,rfl⟩,fun y11 _=>⟨(Y7,ta,y11.1),rfl,abGo y11.1 eY7,ha,fun y12 _=>QD (fun h=>absurd a7 h) (fun _=>⟨(Y7,(),y12.1),rfl,rfl,trivial,fun y13 _=>Xa (fun _=>Xa (fun _=>⟨(Y7,(),y13.1),rfl,rfl,hv7,fun y14 _=>Xa (fun _=>⟨(Y7,(),y14.1),rfl,rfl,hL7,fun y15 hy15=>⟨Nat.le_trans hy15.1.1 hy15.1.2,svB (beq_iff_eq.2 (by show ((Y7.deeds.length:Nat):Int)=((Y4.deeds.length:Nat):Int);rw[d7]))⟩⟩) (fun h=>absurd (by show Y7.s.now 0=Y4.s.now 0;rw[e7]) h)⟩) (fun h=>absurd (by show Y4.s.fe=Y7.s.fe;rw[e7]) h)) (fun h=>absurd (by show Y4.s.fl=Y7.s.fl;rw[e7]) h)⟩)⟩⟩)
 · exfalso
   have k0:=hq2 0 (by omega)
   have k1:=hq2 1 (by omega)
   have k2:=hq2 2 (by omega)
   omega
end Go.Proofs.YtinijfhoenajkaaGreatDoor
