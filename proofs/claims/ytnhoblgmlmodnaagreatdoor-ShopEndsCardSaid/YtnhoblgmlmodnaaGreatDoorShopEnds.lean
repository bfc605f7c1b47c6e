/- ShopEnds: the walk of the law. -/
import Derived.Test.YtnhoblgmlmodnaaGreatDoorZI6
namespace Go.Proofs.YtnhoblgmlmodnaaGreatDoor
open Int renaming toNat->Zh,toNat_natCast->Zt
open IntKind renaming wrap->Zi
open List renaming length->Zg
open SA renaming c->Zu
open SB renaming abs->ZF
open SV renaming o->ZI
open ShS renaming z->ZJ
open Go.RowKit
set_option linter.unusedVariables false
set_option maxRecDepth 100000
set_option maxHeartbeats 4000000
structure En1 (K:Int) where
 k:Nat
 S:Sh
 g:Gh
 F:List Nat
 hk:k<=3
 h:Rnd K (4*k) S g
 w:WfH S.hist
 s:S.steps<=120001+400*(k:Int)
def annEn1 (K:Int):Ann where
 σ:=En1 K
 I g:=([(5,.o (.c (.p 0 0))),(6,sv (.int .i64 g.k))],[.abs (QA shM ZJ ShS.good g.S) g.F])
 dec g:=3-g.k
 pi env _:=[blkE env 5]
 nz:=[]
structure En2 (K:Int) where
 k:Nat
 t:Nat
 S:Sh
 g:Gh
 F:List Nat
 hk:k<3
 ht:t<=4
 h:Rnd K (4*k+t) S g
 w:WfH S.hist
 s:S.steps<=120001+400*(k:Int)+100*(t:Int)
def annEn2 (K:Int):Ann where
 σ:=En2 K
 I g:=([(5,.o (.c (.p 0 0))),(6,sv (.int .i64 g.k)),(7,sv (.int .i64 g.t))],[.abs (QA shM ZJ ShS.good g.S) g.F])
 dec g:=4-g.t
 pi env _:=[blkE env 5]
 nz:=[]
 rel:=some λs0 s=>s.k=s0.k
structure En3 (K:Int) where
 t:Nat
 S:Sh
 g:Gh
 F:List Nat
 ht:t<=4
 h:Fin2 K S g
 d:∀u,u<4->(S.w u).does=0
 w:WfH S.hist
 s:S.steps<=121201
def annEn3 (K:Int):Ann where
 σ:=En3 K
 I g:=([(5,.o (.c (.p 0 0))),(8,sv (.int .i64 g.t))],[.abs (QA shM ZJ ShS.good g.S) g.F])
 dec g:=4-g.t
 pi env _:=[blkE env 5]
 nz:=[]
def tabLz:Tab:=[(3,.one (.int .i64 0) (.int .i64)),
 (50,.one (.int .u64 0) (.int .u64)),
 (4,.one (.bool false) .bool),
 (26,.one (.pointer none) (.ptr 85)),
 (118,.str [.one (.v (.int .i64 0)),.one (.v (.int .i64 0)),.one (.v (.int .i64 0)),.one (.v (.int .i64 0)),.one (.v (.int .i64 0)),.one (.v (.int .i64 0)),.one (.v (.int .u64 0))] [(0,1,false),(1,1,false),(2,3,true),(5,1,false),(6,1,false)]),
 (22,.one (.slice none 0 0) (.slice 118)),
 (31,.str [.one (.v (.int .i64 0)),.one (.v (.int .i64 0)),.one (.v (.int .i64 0))] [(0,1,false),(1,1,false),(2,1,false)]),
 (42,.str [.one (.v (.int .i64 0)),.one (.v (.int .i64 0))] [(0,1,false),(1,1,false)]),
 (33,.one (.nilIface) .iface),
 (66,.one (.int .i64 0) (.int .i64)),
 (53,.str [.one (.v (.int .i64 0)),.one (.v (.int .i64 0)),.one (.v (.int .i64 0)),.one (.v (.int .i64 0)),.one (.v (.int .i64 0)),.one (.v (.int .i64 0)),.one (.v (.int .i64 0)),.one (.v (.int .i64 0)),.one (.v (.int .i64 0))] [(0,1,false),(1,1,false),(2,3,true),(5,2,true),(7,1,false),(8,1,false)]),
 (47,.one (.slice none 0 0) (.slice 53)),
 (44,.str [.one (.v (.int .i64 0)),.one (.v (.int .i64 0)),.one (.v (.int .i64 0)),.one (.v (.int .i64 0)),.one (.v (.int .i64 0)),.one (.v (.int .i64 0))] [(0,1,false),(1,3,true),(4,2,true)]),
 (38,.one (.slice none 0 0) (.slice 44)),
 (73,.arr [.ints (.int .u64) 32 (λ_=>0)] 32 1 false),
 (97,.str [.one (.v (.int .i64 0)),.one (.v (.int .i64 0)),.one (.v (.int .i64 0)),.one (.v (.int .i64 0)),.one (.v (.int .i64 0)),.one (.v (.int .i64 0)),.one (.v (.int .i64 0)),.one (.v (.int .i64 0)),.one (.v (.int .i64 0))] [(0,1,false),(1,3,true),(4,1,false),(5,1,false),(6,1,false),(7,2,true)]),
 (93,.one (.slice none 0 0) (.slice 97)),
 (55,.one (.slice none 0 0) (.slice 3))]
theorem tabLz_ok:TabOk Tryz.prog tabLz:=.cons (⟨Zc,Zc,Zc,Zc,Zc⟩) (.cons (⟨Zc,Zc,Zc,Zc,Zc⟩) (.cons (⟨Zc,Zc,Zc,Zc,Zc⟩) (.cons (⟨Zc,Zc,Zc,Zc,Zc⟩) (.cons (⟨Zc,Zc,Zc,Zc⟩) (.cons (⟨Zc,Zc,Zc,Zc,Zc⟩) (.cons (⟨Zc,Zc,Zc,Zc⟩) (.cons (⟨Zc,Zc,Zc,Zc⟩) (.cons (⟨Zc,Zc,Zc,Zc,Zc⟩) (.cons (⟨Zc,Zc,Zc,Zc,Zc⟩) (.cons (⟨Zc,Zc,Zc,Zc⟩) (.cons (⟨Zc,Zc,Zc,Zc,Zc⟩) (.cons (⟨Zc,Zc,Zc,Zc⟩) (.cons (⟨Zc,Zc,Zc,Zc,Zc⟩) (.cons (⟨Zc,Zc,Zc,Zc⟩) (.cons (⟨Zc,Zc,Zc,Zc⟩) (.cons (⟨Zc,Zc,Zc,Zc,Zc⟩) (.cons (⟨Zc,Zc,Zc,Zc,Zc⟩) (TabOk.nil _))))))))))))))))))
theorem tabLz_tys:TysOk Tryz.prog tabLz:=TysOk.of Zc Zc
theorem walk_ShopEnds (a0:Int) (a1:Option Addr) (len1 cap1:Nat) (z1:Nat->Nat->Int) (W:World) (hE:ErrType W) (w0:(Lit.int .i64 a0).wf=true) (w1:MvIn W a1 len1 cap1 z1):
 Calls Tryz.prog 7 #[.int .i64 a0,.slice a1 len1 cap1] W λe w'=>e=.returned (.bool true)/\Below W.heap.size W w':=by
 refine QrD (AG:=[(7,[(0,annEn1 (1+Qhl a0 6)),(2,annEn2 (1+Qhl a0 6)),(4,annEn3 (1+Qhl a0 6))])]) (Γ:=[(8,.pure QhN),(10,.inl Tryz.f10 (Tryz.f10.body.getD .skip)),(12,.pure Qgf),(11,.inl Tryz.f11 (Tryz.f11.body.getD .skip)),(28,.mem (QjH W)),(9,.pure QcM),(13,.mem QjE.sh),(16,.mem runG.sh),(21,.mem hisC.sh),(18,.mem ddsC.sh),(20,.mem Qoi)]) Tryz.func7 rfl tabLz_ok tabLz_tys
  (.cons (shops_con W _) (.cons (⟨Zc,rfl,rfl⟩) (.cons (Qss W _) (.cons (⟨Zc,rfl,rfl⟩) (.cons (play_con W) (.cons (Qst W hE) (.cons (doesH W _) (.cons (runGH W _) (.cons (hisH W _) (.cons (ddsH W _) (.cons (ft0_con W _) (.nil _ _ _))))))))))))
  [.c (.v (.int .i64 a0)),.c (.r a1 len1 cap1 len1 7 mvK z1)] (.bool true) 400 rfl ?_ rfl
 refine Qj (q:=True/\True/\bif bif decide ((↑len1:Int)<=(120:Int))then false else true then ZI (aB true)=ZI (aB true)else True/\∃(s:PlS),[aI ((1:Int)+Qhl a0 (6:Int)),Zu (.r a1 len1 cap1 len1 7 (λ(j:Nat)=>bif Nat.beq j 6 then .u64 else .i64) z1)]=[aI s.1,Zu (.r s.2 s.3 s.4 s.3 7 (λ(j:Nat)=>bif Nat.beq j 6 then .u64 else .i64) s.5)]/\eN/\(((1:Int)<=s.1/\s.1<=(6:Int))/\s.3<=3000/\Rws 7 mvK W (PlS.a s) (PlS.n s) s.4 s.5/\∀(i:Nat),i<s.3->U64 (s.5 i 6))/\∀(x:List Nat),True->(∃(s0:Ann.σ (annEn1 ((1:Int)+Qhl a0 (6:Int)))),(eS (aP 0 0) (aP 0 0)/\eS (aI 0) (aI ↑s0.1)/\True)/\[ZF (QA shM ZJ ShS.good (XL s.1 (mvL s.5 s.3))) x]=[ZF (QA shM ZJ ShS.good s0.2) s0.4])/\∀(s:En1 ((1:Int)+Qhl a0 (6:Int))),bif decide ((↑s.1:Int)<(3:Int))then ∃(s0:En2 ((1:Int)+Qhl a0 (6:Int))),((eS (aP 0 0) (aP 0 0)/\eS (aI ↑s.1) (aI ↑s0.1)/\eS (aI 0) (aI ↑s0.2)/\True)/\[ZF (QA shM ZJ ShS.good s.2) s.4]=[ZF (QA shM ZJ ShS.good s0.3) s0.5])/\s0.1=s0.1/\∀(s_1:En2 ((1:Int)+Qhl a0 (6:Int))),s_1.1=s0.1->bif decide ((↑s_1.2:Int)<(4:Int))then ∃(s:Sh × (Int × Int) × List Nat),[aP 0 0,aI ↑s_1.2,aI 100]=[aP 0 0,aI s.2.1.1,aI s.2.1.2]/\[ZF (QA shM ZJ ShS.good s_1.3) s_1.5]=[ZF (QA shM ZJ ShS.good s.1) s.2.2]/\((inT s.2.1.1=true->RunOK s.1 (Zh s.2.1.1) s.2.1.2)/\inT s.2.1.1=true/\runB s.2.1.2=true)/\∀(x:List Nat × Unit),True->∃(s':En2 ((1:Int)+Qhl a0 (6:Int))),((eS (aP 0 0) (aP 0 0)/\eS (aI ↑s_1.1) (aI ↑s'.1)/\eS (aI (Zi .i64 ((↑s_1.2:Int)+(1:Int)))) (aI ↑s'.2)/\True)/\[ZF (QA shM ZJ ShS.good (Sh.runA s.1 s.2.1.1 s.2.1.2)) x.1]=[ZF (QA shM ZJ ShS.good s'.3) s'.5])/\s'.1=s0.1/\4-s'.2<4-s_1.2 else ∃(s':En1 ((1:Int)+Qhl a0 (6:Int))),((eS (aP 0 0) (aP 0 0)/\eS (aI (Zi .i64 ((↑s_1.1:Int)+(1:Int)))) (aI ↑s'.1)/\True)/\[ZF (QA shM ZJ ShS.good s_1.3) s_1.5]=[ZF (QA shM ZJ ShS.good s'.2) s'.4])/\3-s'.1<3-s.1 else (∃(s0:Ann.σ (annEn3 ((1:Int)+Qhl a0 (6:Int)))),(eS (aP 0 0) (aP 0 0)/\eS (aI 0) (aI ↑s0.1)/\True)/\[ZF (QA shM ZJ ShS.good s.2) s.4]=[ZF (QA shM ZJ ShS.good s0.2) s0.4])/\∀(s:En3 ((1:Int)+Qhl a0 (6:Int))),bif decide ((↑s.1:Int)<(4:Int))then ∃(s_1:Sh × Nat × List Nat),[aP 0 0,aI ↑s.1]=[aP 0 0,aI (↑s_1.2.1:Int)]/\[ZF (QA shM ZJ ShS.good s.2) s.4]=[ZF (QA shM ZJ ShS.good s_1.1) s_1.2.2]/\s_1.2.1<4/\∀(x:List Nat × Unit),True->bif (Sh.w s_1.1 s_1.2.1).2 != (0:Int)then ZI (aB false)=ZI (aB true)else ∃(s':En3 ((1:Int)+Qhl a0 (6:Int))),((eS (aP 0 0) (aP 0 0)/\eS (aI (Zi .i64 ((↑s.1:Int)+(1:Int)))) (aI ↑s'.1)/\True)/\[ZF (QA shM ZJ ShS.good s_1.1) x.1]=[ZF (QA shM ZJ ShS.good s'.2) s'.4])/\4-s'.1<4-s.1 else ∃(s_1:Sh × Unit × List Nat),[aP 0 0]=[aP 0 0]/\[ZF (QA shM ZJ ShS.good s.2) s.4]=[ZF (QA shM ZJ ShS.good s_1.1) s_1.2.2]/\Zg s_1.1.6<=1000000000/\∀(x:List Nat × RwR),(Zg s_1.1.6<=x.2.1/\x.2.1<=x.2.2)/\IsE x.2.4 s_1.1.6->∃(s:Sh × Unit × List Nat),[aP 0 0]=[aP 0 0]/\[ZF (QA shM ZJ ShS.good s_1.1) x.1]=[ZF (QA shM ZJ ShS.good s.1) s.2.2]/\Zg s.1.7<=1000000000/\∀(x_1:List Nat × RwR),(Zg s.1.7<=x_1.2.1/\x_1.2.1<=x_1.2.2)/\IsR 6 Dd.at Dd.nil x_1.2.4 (List.map (λ(self:Vd)=>self.2) s.1.7)->∃(s_2:FtS),[Zu (.so 1 0 9 (Zg s_1.1.6) x.2.2 x.2.3),Zu (.so 2 0 6 (Zg s.1.7) x_1.2.2 x_1.2.3)]=[Zu (.so 1 0 9 (Zg s_2.1) s_2.3 s_2.4),Zu (.so 2 0 6 (Zg s_2.6) s_2.8 s_2.9)]/\[evB x.2.1 x.2.2 x.2.4,wkD x_1.2.1 x_1.2.2 x_1.2.4]=[evB s_2.2 s_2.3 s_2.5,wkD s_2.7 s_2.8 s_2.10]/\((WfH s_2.1/\(Zg s_2.1<=1000000000/\(Zg s_2.1<=s_2.2/\s_2.2<=s_2.3)/\IsE s_2.5 s_2.1)/\Zg s_2.6<=10000000/\(Zg s_2.6<=s_2.7/\s_2.7<=s_2.8)/\IsR 6 Dd.at Dd.nil s_2.10 s_2.6)/\fitC (Qh s_2.1) s_2.6=(0:Int))/\∀(x:Unit),True->ZI (aB true)=ZI (aB true)) Zc ?_
 have k1:1<=1+Qhl a0 6:=by have:=QeY a0 6 Zb;omega
 have k6:1+Qhl a0 6<=6:=by have:=Qj9 a0 6 Zb;omega
 generalize 1+Qhl a0 6=K at k1 k6 ⊢
 refine⟨Zd,Zd,Qop (λ_=>rfl) (λhh=>⟨Zd,⟨K,a1,len1,cap1,z1⟩,rfl,rfl,⟨⟨k1,k6⟩,(by show len1<=3000;omega),w1.1,w1.2⟩,λx _=>?_⟩)⟩
 obtain⟨g,F2,hs⟩:=QnW k1 k6 len1 (mvL z1 len1) (QrI z1 len1) Za
 have hs2:(XL K (mvL z1 len1)).steps<=120000:=Za
 have F:=F2.fi
 have hL:=F.lens Za
 have hT:=F.steps0
 have hI:=F.i
 have hW:=QoX k1 k6 len1 (mvL z1 len1) (QrI z1 len1) Za
 generalize XL K (mvL z1 len1)=Z at *
 refine⟨⟨⟨0,Z,g,x,Zb,Rnd.start F2,hW,Za⟩,⟨rfl,rfl,Zd⟩,rfl⟩,?_⟩
 clear hL hI hT F F2 hW
 rintro⟨k,S,gS,G,hk,hR,hw,hS⟩
 dsimp only
 refine Qp (λhlt=>?_) (λhge=>?_)
 . refine⟨⟨k,0,S,gS,G,Za,Zb,hR,hw,Za⟩,⟨⟨rfl,rfl,rfl,Zd⟩,rfl⟩,rfl,?_⟩
   rintro⟨k2,t,S2,g2,G2,hk2,ht,hR2,hw2,hS2⟩ hkk
   have hkk:k2=k:=hkk
   subst hkk
   dsimp only
   have FS:=hR2.f.fi
   refine Qp (λhlt2=>?_) (λhge2=>?_)
   . have ht4:t<4:=Za
     obtain⟨g',R'⟩:=hR2.next Za (n:=100) Zb Zb
     rw[show (4*k2+t)%4=t by omega]at R'
     have hst:=(QcA t 100 S2).2
     have hT1:inT (t:Int)=true:=decide_eq_true Za
     have eR:S2.runA (t:Int) 100=S2.run t 100:=by unfold Sh.runA;rw[hT1,Zt];rfl
     exact⟨(S2,((t:Int),100),G2),rfl,rfl,⟨λ_=>(by show RunOK S2 (Zh (t:Int)) 100;rw[Zt];exact RunOK.of FS ht4 Za _),hT1,rfl⟩,λy2 _=>⟨⟨k2,t+1,S2.run t 100,g',y2.1,hk2,Za,R',QqH ht4 100 hR2.f.f hw2 Za,Za⟩,⟨⟨rfl,rfl,svI (sucI Za),Zd⟩,abGo y2.1 eR⟩,rfl,by dsimp only;omega⟩⟩
   . have e4:4*k2+t=4*(k2+1):=Za
     rw[e4]at hR2
     exact⟨⟨k2+1,S2,g2,G2,Za,hR2,hw2,Za⟩,⟨⟨rfl,svI (sucI Za),Zd⟩,rfl⟩,by dsimp only;omega⟩
 . obtain rfl:k=3:=Za
   refine⟨⟨⟨0,S,gS,G,Zb,hR.f,Rnd.done hR,hw,Za⟩,⟨rfl,rfl,Zd⟩,rfl⟩,?_⟩
   clear hS hR hw
   rintro⟨t,S,gS,G,ht,hF,hd,hw,hS⟩
   dsimp only
   refine Qp (λhlt2=>?_) (λhge2=>?_)
   . have ht4:t<4:=Za
     exact⟨(S,t,G),rfl,rfl,ht4,λy2 _=>QC (λh=>absurd (hd t ht4) h) (λ_=>⟨⟨t+1,S,gS,y2.1,Za,hF,hd,hw,hS⟩,⟨⟨rfl,svI (sucI Za),Zd⟩,rfl⟩,by dsimp only;omega⟩)⟩
   . have hLS:=hF.fi.lens Za
     exact⟨(S,(),G),rfl,rfl,hLS.1,λy hy=>⟨(S,(),y.1),rfl,rfl,hLS.2,λy2 hy2=>⟨ftZ S.hist (S.deeds.map Vd.d) y.2 y2.2,ftZ_args S 1 2 y.2 y2.2,rfl,ftZ_pre hF hw Za hy hy2,λ_ _=>rfl⟩⟩⟩
end Go.Proofs.YtnhoblgmlmodnaaGreatDoor
