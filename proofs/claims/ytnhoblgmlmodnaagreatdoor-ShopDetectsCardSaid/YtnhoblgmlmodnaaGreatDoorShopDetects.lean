/- ShopDetects: the walk of the law. -/
import Derived.Test.YtnhoblgmlmodnaaGreatDoorZI6
namespace Go.Proofs.YtnhoblgmlmodnaaGreatDoor
open Dd renaming nil->Yy
open Int renaming toNat->Zh,toNat_natCast->Zt
open IntKind renaming wrap->Zi
open List renaming length->Zg,take->ZR
open Nat renaming le_trans->ZX,add_zero->Yl
open SA renaming c->Zu
open SB renaming abs->ZF
open SV renaming o->ZI
open ShS renaming z->ZJ
open Go.RowKit
set_option linter.unusedVariables false
set_option maxRecDepth 100000
set_option maxHeartbeats 4000000
structure De (K:Int) where
 i:Nat
 S:Sh
 g:Gh
 F:List Nat
 hi:i<=4
 h:Rest K i S g
 w:WfH S.hist
 s:S.steps<=120001+100*(i:Int)
def annDe (K:Int):Ann where
 σ:=De K
 I g:=([(7,.o (.c (.p 0 0))),(8,sv (.int .i64 g.i))],[.abs (QA shM ZJ ShS.good g.S) g.F])
 dec g:=4-g.i
 pi env _:=[blkE env 7]
 nz:=[]
structure Dc (K:Int) where
 S:Sh
 g:Gh
 F:List Nat
 h:Rest K 4 S g
 w:WfH S.hist
 s:S.steps<=120001+400
 m:Nat
 c:Nat
 nn:Bool
 f:Nat->Nat->Int
 hm:S.hist.length<=m/\m<=c
 hz:IsE f S.hist
 j:Nat
 hj:j<=S.hist.length
def annDc (K:Int):Ann where
 σ:=Dc K
 I g:=([(7,.o (.c (.p 0 0))),(11,.o (.c (.so 1 0 9 g.S.hist.length g.c g.nn))),(12,sv (.int .i64 (Qei (g.S.hist.take g.j):Nat))),(61,.o (.c (.so 1 0 9 g.S.hist.length g.c g.nn))),(62,sv (.int .i64 g.S.hist.length)),(63,sv (.int .i64 g.j))],[.abs (QA shM ZJ ShS.good g.S) g.F,evB g.m g.c g.f])
 dec g:=g.S.hist.length-g.j
 pi env _:=[blkE env 7,blkE env 61]
 nz:=[]
def tabLz:Tab:=[(3,.one (.int .i64 0) (.int .i64)),
 (50,.one (.int .u64 0) (.int .u64)),
 (4,.one (.bool false) .bool),
 (26,.one (.pointer none) (.ptr 85)),
 (118,.str [.one (.v (.int .i64 0)),.one (.v (.int .i64 0)),.one (.v (.int .i64 0)),.one (.v (.int .i64 0)),.one (.v (.int .i64 0)),.one (.v (.int .i64 0)),.one (.v (.int .u64 0))] [(0,1,false),(1,1,false),(2,3,true),(5,1,false),(6,1,false)]),
 (22,.one (.slice none 0 0) (.slice 118)),
 (31,.str [.one (.v (.int .i64 0)),.one (.v (.int .i64 0)),.one (.v (.int .i64 0))] [(0,1,false),(1,1,false),(2,1,false)]),
 (42,.str [.one (.v (.int .i64 0)),.one (.v (.int .i64 0))] [(0,1,false),(1,1,false)]),
 (33,.one (.nilIface) .iface),
 (66,.one (.int .i64 0) (.int .i64)),
 (53,.str [.one (.v (.int .i64 0)),.one (.v (.int .i64 0)),.one (.v (.int .i64 0)),.one (.v (.int .i64 0)),.one (.v (.int .i64 0)),.one (.v (.int .i64 0)),.one (.v (.int .i64 0)),.one (.v (.int .i64 0)),.one (.v (.int .i64 0))] [(0,1,false),(1,1,false),(2,3,true),(5,2,true),(7,1,false),(8,1,false)]),
 (47,.one (.slice none 0 0) (.slice 53)),
 (44,.str [.one (.v (.int .i64 0)),.one (.v (.int .i64 0)),.one (.v (.int .i64 0)),.one (.v (.int .i64 0)),.one (.v (.int .i64 0)),.one (.v (.int .i64 0))] [(0,1,false),(1,3,true),(4,2,true)]),
 (38,.one (.slice none 0 0) (.slice 44)),
 (73,.arr [.ints (.int .u64) 32 (λ_=>0)] 32 1 false),
 (97,.str [.one (.v (.int .i64 0)),.one (.v (.int .i64 0)),.one (.v (.int .i64 0)),.one (.v (.int .i64 0)),.one (.v (.int .i64 0)),.one (.v (.int .i64 0)),.one (.v (.int .i64 0)),.one (.v (.int .i64 0)),.one (.v (.int .i64 0))] [(0,1,false),(1,3,true),(4,1,false),(5,1,false),(6,1,false),(7,2,true)]),
 (93,.one (.slice none 0 0) (.slice 97)),
 (55,.one (.slice none 0 0) (.slice 3))]
theorem tabLz_ok:TabOk Tryz.prog tabLz:=.cons (⟨Zc,Zc,Zc,Zc,Zc⟩) (.cons (⟨Zc,Zc,Zc,Zc,Zc⟩) (.cons (⟨Zc,Zc,Zc,Zc,Zc⟩) (.cons (⟨Zc,Zc,Zc,Zc,Zc⟩) (.cons (⟨Zc,Zc,Zc,Zc⟩) (.cons (⟨Zc,Zc,Zc,Zc,Zc⟩) (.cons (⟨Zc,Zc,Zc,Zc⟩) (.cons (⟨Zc,Zc,Zc,Zc⟩) (.cons (⟨Zc,Zc,Zc,Zc,Zc⟩) (.cons (⟨Zc,Zc,Zc,Zc,Zc⟩) (.cons (⟨Zc,Zc,Zc,Zc⟩) (.cons (⟨Zc,Zc,Zc,Zc,Zc⟩) (.cons (⟨Zc,Zc,Zc,Zc⟩) (.cons (⟨Zc,Zc,Zc,Zc,Zc⟩) (.cons (⟨Zc,Zc,Zc,Zc⟩) (.cons (⟨Zc,Zc,Zc,Zc⟩) (.cons (⟨Zc,Zc,Zc,Zc,Zc⟩) (.cons (⟨Zc,Zc,Zc,Zc,Zc⟩) (TabOk.nil _))))))))))))))))))
theorem tabLz_tys:TysOk Tryz.prog tabLz:=TysOk.of Zc Zc
theorem walk_ShopDetects (a0:Int) (a1:Option Addr) (len1 cap1:Nat) (z1:Nat->Nat->Int) (a2:Int) (W:World) (hE:ErrType W) (w0:(Lit.int .i64 a0).wf=true) (w1:MvIn W a1 len1 cap1 z1) (w2:(Lit.int .u64 a2).wf=true):
 Calls Tryz.prog 5 #[.int .i64 a0,.slice a1 len1 cap1,.int .u64 a2] W λe w'=>e=.returned (.bool true)/\Below W.heap.size W w':=by
 refine QrD (AG:=[(5,[(0,annDe (1+Qhl a0 6)),(2,annDc (1+Qhl a0 6))])]) (Γ:=[(8,.pure QhN),(10,.inl Tryz.f10 (Tryz.f10.body.getD .skip)),(12,.pure Qgf),(11,.inl Tryz.f11 (Tryz.f11.body.getD .skip)),(28,.mem (QjH W)),(9,.pure QcM),(22,.mem craC.sh),(13,.mem QjE.sh),(16,.mem runG.sh),(21,.mem hisC.sh),(18,.mem ddsC.sh),(20,.mem Qoi)]) Tryz.func5 rfl tabLz_ok tabLz_tys
  (.cons (shops_con W _) (.cons (⟨Zc,rfl,rfl⟩) (.cons (Qss W _) (.cons (⟨Zc,rfl,rfl⟩) (.cons (play_con W) (.cons (Qst W hE) (.cons (craH W _) (.cons (doesH W _) (.cons (runGH W _) (.cons (hisH W _) (.cons (ddsH W _) (.cons (ft0_con W _) (.nil _ _ _)))))))))))))
  [.c (.v (.int .i64 a0)),.c (.r a1 len1 cap1 len1 7 mvK z1),.c (.v (.int .u64 a2))] (.bool true) 400 rfl ?_ rfl
 refine Qj (q:=True/\True/\bif bif decide ((↑len1:Int)<=(120:Int))then false else true then ZI (aB true)=ZI (aB true)else True/\∃(s:PlS),[aI ((1:Int)+Qhl a0 (6:Int)),Zu (.r a1 len1 cap1 len1 7 (λ(j:Nat)=>bif Nat.beq j 6 then .u64 else .i64) z1)]=[aI s.1,Zu (.r s.2 s.3 s.4 s.3 7 (λ(j:Nat)=>bif Nat.beq j 6 then .u64 else .i64) s.5)]/\eN/\(((1:Int)<=s.1/\s.1<=(6:Int))/\s.3<=3000/\Rws 7 mvK W (PlS.a s) (PlS.n s) s.4 s.5/\∀(i:Nat),i<s.3->U64 (s.5 i 6))/\∀(x:List Nat),True->∃(s_1:Sh × Int × List Nat),[aP 0 0,aU a2]=[aP 0 0,aU s_1.2.1]/\[ZF (QA shM ZJ ShS.good (XL s.1 (mvL s.5 s.3))) x]=[ZF (QA shM ZJ ShS.good s_1.1) s_1.2.2]/\Qme s_1.1 s_1.2.1/\∀(x:List Nat × Unit),True->(∃(s0:Ann.σ (annDe ((1:Int)+Qhl a0 (6:Int)))),(eS (aP 0 0) (aP 0 0)/\eS (aI 0) (aI ↑s0.1)/\True)/\[ZF (QA shM ZJ ShS.good (Sh.crash s_1.1 s_1.2.1)) x.1]=[ZF (QA shM ZJ ShS.good s0.2) s0.4])/\∀(s:De ((1:Int)+Qhl a0 (6:Int))),bif decide ((↑s.1:Int)<(4:Int))then ∃(s_2:Sh × Nat × List Nat),[aP 0 0,aI ↑s.1]=[aP 0 0,aI (↑s_2.2.1:Int)]/\[ZF (QA shM ZJ ShS.good s.2) s.4]=[ZF (QA shM ZJ ShS.good s_2.1) s_2.2.2]/\s_2.2.1<4/\∀(x:List Nat × Unit),True->bif (Sh.w s_2.1 s_2.2.1).2==(0:Int)then ∃(s':De ((1:Int)+Qhl a0 (6:Int))),((eS (aP 0 0) (aP 0 0)/\eS (aI (Zi .i64 ((↑s.1:Int)+(1:Int)))) (aI ↑s'.1)/\True)/\[ZF (QA shM ZJ ShS.good s_2.1) x.1]=[ZF (QA shM ZJ ShS.good s'.2) s'.4])/\4-s'.1<4-s.1 else ∃(s_3:Sh × (Int × Int) × List Nat),[aP 0 0,aI ↑s.1,aI 100]=[aP 0 0,aI s_3.2.1.1,aI s_3.2.1.2]/\[ZF (QA shM ZJ ShS.good s_2.1) x.1]=[ZF (QA shM ZJ ShS.good s_3.1) s_3.2.2]/\((inT s_3.2.1.1=true->RunOK s_3.1 (Zh s_3.2.1.1) s_3.2.1.2)/\inT s_3.2.1.1=true/\runB s_3.2.1.2=true)/\∀(x:List Nat × Unit),True->bif decide ((↑(Sh.ran s_3.1 (Zh s_3.2.1.1) (Zh s_3.2.1.2)):Int)>=(100:Int))then ZI (aB false)=ZI (aB true)else ∃(s_4:Sh × Nat × List Nat),[aP 0 0,aI ↑s.1]=[aP 0 0,aI (↑s_4.2.1:Int)]/\[ZF (QA shM ZJ ShS.good (Sh.runA s_3.1 s_3.2.1.1 s_3.2.1.2)) x.1]=[ZF (QA shM ZJ ShS.good s_4.1) s_4.2.2]/\s_4.2.1<4/\∀(x:List Nat × Unit),True->bif (Sh.w s_4.1 s_4.2.1).2 != (0:Int)then ZI (aB false)=ZI (aB true)else ∃(s':De ((1:Int)+Qhl a0 (6:Int))),((eS (aP 0 0) (aP 0 0)/\eS (aI (Zi .i64 ((↑s.1:Int)+(1:Int)))) (aI ↑s'.1)/\True)/\[ZF (QA shM ZJ ShS.good s_4.1) x.1]=[ZF (QA shM ZJ ShS.good s'.2) s'.4])/\4-s'.1<4-s.1 else ∃(s_2:Sh × Unit × List Nat),[aP 0 0]=[aP 0 0]/\[ZF (QA shM ZJ ShS.good s.2) s.4]=[ZF (QA shM ZJ ShS.good s_2.1) s_2.2.2]/\Zg s_2.1.6<=1000000000/\∀(x:List Nat × RwR),(Zg s_2.1.6<=x.2.1/\x.2.1<=x.2.2)/\IsE x.2.4 s_2.1.6->Zg s_2.1.6<=x.2.2/\(∃(s0:Ann.σ (annDc ((1:Int)+Qhl a0 (6:Int)))),(eS (aP 0 0) (aP 0 0)/\eS (Zu (.so 1 0 9 (Zg s_2.1.6) x.2.2 x.2.3)) (Zu (.so 1 0 9 (Zg (Dc.S s0).6) s0.8 s0.9))/\eS (aI 0) (aI (↑(Qei (ZR s0.13 (Dc.S s0).6)):Int))/\eS (Zu (.so 1 0 9 (Zg s_2.1.6) x.2.2 x.2.3)) (Zu (.so 1 0 9 (Zg (Dc.S s0).6) s0.8 s0.9))/\eS (aI (↑(Zg s_2.1.6):Int)) (aI (↑(Zg (Dc.S s0).6):Int))/\eS (aI 0) (aI ↑s0.13)/\True)/\[ZF (QA shM ZJ ShS.good s_2.1) x.1,evB x.2.1 x.2.2 x.2.4]=[ZF (QA shM ZJ ShS.good s0.1) s0.3,evB s0.7 s0.8 s0.10])/\∀(s:Dc ((1:Int)+Qhl a0 (6:Int))),bif decide ((↑s.13:Int)<(↑(Zg (Dc.S s).6):Int))then ((0:Int)<=(↑s.13:Int)/\(↑s.13:Int)<(↑(Zg (Dc.S s).6):Int)/\0+Zg (Dc.S s).6<=s.8)/\0+Zh (↑s.13:Int)<s.7/\bif s.10 (0+Zh (↑s.13:Int)) 0==(1:Int)then ∃(s':Dc ((1:Int)+Qhl a0 (6:Int))),((eS (aP 0 0) (aP 0 0)/\eS (Zu (.so 1 0 9 (Zg (Dc.S s).6) s.8 s.9)) (Zu (.so 1 0 9 (Zg (Dc.S s').6) s'.8 s'.9))/\eS (aI (Zi .i64 ((↑(Qei (ZR s.13 (Dc.S s).6)):Int)+(1:Int)))) (aI (↑(Qei (ZR s'.13 (Dc.S s').6)):Int))/\eS (Zu (.so 1 0 9 (Zg (Dc.S s).6) s.8 s.9)) (Zu (.so 1 0 9 (Zg (Dc.S s').6) s'.8 s'.9))/\eS (aI (↑(Zg (Dc.S s).6):Int)) (aI (↑(Zg (Dc.S s').6):Int))/\eS (aI (Zi .i64 ((↑s.13:Int)+(1:Int)))) (aI ↑s'.13)/\True)/\[ZF (QA shM ZJ ShS.good s.1) s.3,evB s.7 s.8 s.10]=[ZF (QA shM ZJ ShS.good s'.1) s'.3,evB s'.7 s'.8 s'.10])/\Zg (Dc.S s').6-s'.13<Zg (Dc.S s).6-s.13 else ∃(s':Dc ((1:Int)+Qhl a0 (6:Int))),((eS (aP 0 0) (aP 0 0)/\eS (Zu (.so 1 0 9 (Zg (Dc.S s).6) s.8 s.9)) (Zu (.so 1 0 9 (Zg (Dc.S s').6) s'.8 s'.9))/\eS (aI (↑(Qei (ZR s.13 (Dc.S s).6)):Int)) (aI (↑(Qei (ZR s'.13 (Dc.S s').6)):Int))/\eS (Zu (.so 1 0 9 (Zg (Dc.S s).6) s.8 s.9)) (Zu (.so 1 0 9 (Zg (Dc.S s').6) s'.8 s'.9))/\eS (aI (↑(Zg (Dc.S s).6):Int)) (aI (↑(Zg (Dc.S s').6):Int))/\eS (aI (Zi .i64 ((↑s.13:Int)+(1:Int)))) (aI ↑s'.13)/\True)/\[ZF (QA shM ZJ ShS.good s.1) s.3,evB s.7 s.8 s.10]=[ZF (QA shM ZJ ShS.good s'.1) s'.3,evB s'.7 s'.8 s'.10])/\Zg (Dc.S s').6-s'.13<Zg (Dc.S s).6-s.13 else ∃(s_3:Sh × Unit × List Nat),[aP 0 0]=[aP 0 0]/\[ZF (QA shM ZJ ShS.good s.1) s.3]=[ZF (QA shM ZJ ShS.good s_3.1) s_3.2.2]/\Zg s_3.1.7<=1000000000/\∀(x:List Nat × RwR),(Zg s_3.1.7<=x.2.1/\x.2.1<=x.2.2)/\IsR 6 Dd.at Yy x.2.4 (List.map (λ(self:Vd)=>self.2) s_3.1.7)->∃(s_4:FtS),[Zu (.so 1 0 9 (Zg (Dc.S s).6) s.8 s.9),Zu (.so 2 0 6 (Zg s_3.1.7) x.2.2 x.2.3)]=[Zu (.so 1 0 9 (Zg s_4.1) s_4.3 s_4.4),Zu (.so 2 0 6 (Zg s_4.6) s_4.8 s_4.9)]/\[evB s.7 s.8 s.10,wkD x.2.1 x.2.2 x.2.4]=[evB s_4.2 s_4.3 s_4.5,wkD s_4.7 s_4.8 s_4.10]/\((WfH s_4.1/\(Zg s_4.1<=1000000000/\(Zg s_4.1<=s_4.2/\s_4.2<=s_4.3)/\IsE s_4.5 s_4.1)/\Zg s_4.6<=10000000/\(Zg s_4.6<=s_4.7/\s_4.7<=s_4.8)/\IsR 6 Dd.at Yy s_4.10 s_4.6)/\fitC (Qh s_4.1) s_4.6=(0:Int))/\∀(x_1:Unit),True->∃(s_5:Sh × Unit × List Nat),[aP 0 0]=[aP 0 0]/\[ZF (QA shM ZJ ShS.good s_3.1) x.1]=[ZF (QA shM ZJ ShS.good s_5.1) s_5.2.2]/\Zg s_5.1.7<=1000000000/\∀(x:List Nat × RwR),(Zg s_5.1.7<=x.2.1/\x.2.1<=x.2.2)/\IsR 6 Dd.at Yy x.2.4 (List.map (λ(self:Vd)=>self.2) s_5.1.7)->Zg s_5.1.7<=x.2.2/\ZI (aB ((↑(Zg s_5.1.7):Int)==(↑(Qei (ZR s.13 (Dc.S s).6)):Int)))=ZI (aB true)) Zc ?_
 have k1:1<=1+Qhl a0 6:=by have:=QeY a0 6 Zb;omega
 have k6:1+Qhl a0 6<=6:=by have:=Qj9 a0 6 Zb;omega
 generalize 1+Qhl a0 6=K at k1 k6 ⊢
 refine⟨Zd,Zd,Qop (λ_=>rfl) (λhh=>⟨Zd,⟨K,a1,len1,cap1,z1⟩,rfl,rfl,⟨⟨k1,k6⟩,(by show len1<=3000;omega),w1.1,w1.2⟩,λx _=>?_⟩)⟩
 obtain⟨g,F2,hs⟩:=QnW k1 k6 len1 (mvL z1 len1) (QrI z1 len1) Za
 have hs2:(XL K (mvL z1 len1)).steps<=120000:=Za
 have F:=F2.fi
 have hL:=F.lens Za
 have hT:=F.steps0
 have hI:=F.i
 have hW:=QoX k1 k6 len1 (mvL z1 len1) (QrI z1 len1) Za
 generalize XL K (mvL z1 len1)=Z at *
 have hu:U64 a2:=wfU w2
 have hcr:=F.craOK Za hu
 have R0:Rest K 0 (Z.crash a2) (g.crash Z a2):=⟨fin_crash F2 a2,noh_crash Z a2,λu h=>absurd h (Nat.not_lt_zero _)⟩
 have hY0:(Z.crash a2).steps=Z.steps+1:=rfl
 refine⟨(Z,a2,x),rfl,rfl,hcr,λy _=>⟨⟨⟨0,Z.crash a2,_,y.1,Zb,R0,QoY hW a2,Za⟩,⟨rfl,rfl,Zd⟩,rfl⟩,?_⟩⟩
 rintro⟨i,S,gS,G,hi,hR,hw,hS⟩
 dsimp only
 have FS:=hR.f.fi
 refine Qp (λhlt=>?_) (λhge=>?_)
 . have hi4:i<4:=Za
   refine⟨(S,i,G),rfl,rfl,hi4,λy2 _=>QU (λh0=>⟨⟨i+1,S,gS,y2.1,Za,hR.skip h0,hw,Za⟩,⟨⟨rfl,svI (sucI Za),Zd⟩,rfl⟩,by dsimp only;omega⟩) (λh0=>?_)⟩
   obtain⟨g',R',hr,-⟩:=hR.next hi4 Za (n:=100) Zb
   have hst:=(QcA i 100 S).2
   have hT1:inT (i:Int)=true:=decide_eq_true Za
   have eR:S.runA (i:Int) 100=S.run i 100:=by unfold Sh.runA;rw[hT1,Zt];rfl
   refine⟨(S,((i:Int),100),y2.1),rfl,rfl,⟨λ_=>(by show RunOK S (Zh (i:Int)) 100;rw[Zt];exact RunOK.of FS hi4 Za _),hT1,rfl⟩,λy3 _=>Qp (λh=>absurd h ?_) (λ_=>⟨(S.run i 100,i,y3.1),rfl,abGo y3.1 eR,hi4,λy4 _=>QC (λh=>absurd (R'.i i (Nat.lt_succ_self i)) h) (λ_=>⟨⟨i+1,S.run i 100,g',y4.1,Za,R',QqH hi4 100 hR.f.f hw Za,Za⟩,⟨⟨rfl,svI (sucI Za),Zd⟩,rfl⟩,by dsimp only;omega⟩)⟩)⟩
   dsimp only
   rw[Zt]
   show ¬((S.ran i 100:Nat):Int)>=100
   omega
 . obtain rfl:i=4:=Za
   have hLS:=FS.lens Za
   refine⟨(S,(),G),rfl,rfl,hLS.1,λy2 hy2=>⟨ZX hy2.1.1 hy2.1.2,⟨⟨S,gS,y2.1,hR,hw,Za,y2.2.m,y2.2.c,y2.2.nn,y2.2.z,hy2.1,hy2.2,0,Nat.zero_le _⟩,⟨rfl,rfl,rfl,rfl,rfl,rfl,Zd⟩,rfl⟩,?_⟩⟩
   clear hy2 hLS FS R0 hS hR hw hL hI hT F F2 hcr hW
   rintro⟨S,gS,G,hR,hw,hS,m,c,nn,f,hm,hz,j,hj⟩
   dsimp only
   have FS:=hR.f.fi
   have hLS:=FS.lens Za
   have e0 (j:Nat):0+(j:Int).toNat=j:=by rw[Zt,Nat.zero_add]
   rw[e0]
   refine Qp (λhlt=>?_) (λhge=>?_)
   . have hlt':j<S.hist.length:=Za
     have k0:f j 0=(S.hist.getD j Ev.nil).kind:=hz j hlt' 0 Zb
     have hc:=Qr9 hlt'
     have hcl:=callsN_le (S.hist.take j)
     rw[List.length_take]at hcl
     rw[k0]
     refine⟨⟨Za,hlt,Za⟩,Za,QU (λh1=>?_) (λh1=>?_)⟩
     . rw[Zf h1]at hc
       exact⟨⟨S,gS,G,hR,hw,hS,m,c,nn,f,hm,hz,j+1,hlt'⟩,⟨⟨rfl,rfl,svI (by show _=((Qei (S.hist.take (j+1)):Nat):Int);rw[hc];exact sucI Za),rfl,rfl,svI (sucI Za),Zd⟩,rfl⟩,by dsimp only;omega⟩
     . rw[Ze h1,Yl]at hc
       exact⟨⟨S,gS,G,hR,hw,hS,m,c,nn,f,hm,hz,j+1,hlt'⟩,⟨⟨rfl,rfl,svI (by show _=((Qei (S.hist.take (j+1)):Nat):Int);rw[hc,Yl]),rfl,rfl,svI (sucI Za),Zd⟩,rfl⟩,by dsimp only;omega⟩
   . have hjn:j=S.hist.length:=Za
     have hcn:Qei (S.hist.take j)=S.deeds.length:=by rw[hjn,List.take_length];exact (count4 hR).symm
     refine⟨(S,(),G),rfl,rfl,hLS.2,λy2 hy2=>⟨ftZ S.hist (S.deeds.map Vd.d) ⟨m,c,nn,f⟩ y2.2,ftZ_args S 1 2 ⟨m,c,nn,f⟩ y2.2,rfl,ftZ_pre hR.f hw Za ⟨hm,hz⟩ hy2,λ_ _=>⟨(S,(),y2.1),rfl,rfl,hLS.2,λy3 hy3=>⟨ZX hy3.1.1 hy3.1.2,svB (beq_iff_eq.2 (by dsimp only;omega))⟩⟩⟩⟩
end Go.Proofs.YtnhoblgmlmodnaaGreatDoor
