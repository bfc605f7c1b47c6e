/- ShopMany: the walk of the law. -/
import Derived.Test.YtnhoblgmlmodnaaGreatDoorZI6
namespace Go.Proofs.YtnhoblgmlmodnaaGreatDoor
open Dd renaming nil->Yy
open Int renaming toNat->Zh,toNat_natCast->Zt
open IntKind renaming wrap->Zi
open List renaming length->Zg
open Nat renaming le_trans->ZX
open SA renaming c->Zu
open SB renaming abs->ZF
open SV renaming o->ZI
open Sh renaming runA->ZbG
open ShS renaming z->ZJ
open Go.RowKit
set_option linter.unusedVariables false
set_option maxRecDepth 100000
set_option maxHeartbeats 4000000
structure Ma0 (z:Sh) (z3:Nat->Nat->Int) where
 t:Nat
 F:List Nat
 ht:t<=4
 d:∀u,u<t->(z.w u).does=0/\opOk (z3 u 0) (z3 u 1) (z3 u 2)=true
def annMa0 (z:Sh) (a2:Int) (a3:Option Addr) (len3 cap3:Nat) (z3:Nat->Nat->Int):Ann where
 σ:=Ma0 z z3
 I g:=([(2,sv (.int .i64 a2)),(3,.o (.c (.r a3 len3 cap3 len3 3 (λ_=>.i64) z3))),(9,.o (.c (.p 0 0))),(10,sv (.int .i64 g.t))],[.abs (QA shM ZJ ShS.good z) g.F])
 dec g:=4-g.t
 pi env _:=[blkE env 9]
 nz:=[]
structure Ma2 (K:Int) (z:Sh) (z3:Nat->Nat->Int) where
 t:Nat
 S:Sh
 g:Gh
 gz:Gh
 F:List Nat
 ht:t<=4
 fz:Fin2 K z gz
 d:∀u,u<4->(z.w u).does=0/\opOk (z3 u 0) (z3 u 1) (z3 u 2)=true
 h:Sds K z gz (λu=>z3 u 0) (λu=>z3 u 1) (λu=>z3 u 2) t S
def annMa2 (K:Int) (z:Sh) (a2:Int) (a3:Option Addr) (len3 cap3:Nat) (z3:Nat->Nat->Int):Ann where
 σ:=Ma2 K z z3
 I g:=([(2,sv (.int .i64 a2)),(3,.o (.c (.r a3 len3 cap3 len3 3 (λ_=>.i64) z3))),(9,.o (.c (.p 0 0))),(11,sv (.int .i64 g.t))],[.abs (QA shM ZJ ShS.good g.S) g.F])
 dec g:=4-g.t
 pi env _:=[blkE env 9]
 nz:=[]
structure Ma4 (N:Nat) (z3:Nat->Nat->Int) where
 t:Nat
 m:Nat
 c:Nat
 nn:Bool
 f:Nat->Nat->Int
 ht:t<=4
 hm:N+4<=m/\m<=c
 d:∀u,u<4->f (N+u) 0=(u:Int)/\f (N+u) 1=z3 u 0/\f (N+u) 2=z3 u 1/\f (N+u) 3=z3 u 2
def annMa4 (N:Nat) (a3:Option Addr) (len3 cap3:Nat) (z3:Nat->Nat->Int):Ann where
 σ:=Ma4 N z3
 I g:=([(3,.o (.c (.r a3 len3 cap3 len3 3 (λ_=>.i64) z3))),(15,sv (.int .i64 N)),(18,.o (.c (.so 0 0 6 (N+4) g.c g.nn))),(19,sv (.int .i64 g.t))],[QmR g.m g.c g.f])
 dec g:=4-g.t
 pi env _:=[blkE env 18]
 nz:=[]
def tabLz:Tab:=[(3,.one (.int .i64 0) (.int .i64)),
 (50,.one (.int .u64 0) (.int .u64)),
 (4,.one (.bool false) .bool),
 (26,.one (.pointer none) (.ptr 85)),
 (118,.str [.one (.v (.int .i64 0)),.one (.v (.int .i64 0)),.one (.v (.int .i64 0)),.one (.v (.int .i64 0)),.one (.v (.int .i64 0)),.one (.v (.int .i64 0)),.one (.v (.int .u64 0))] [(0,1,false),(1,1,false),(2,3,true),(5,1,false),(6,1,false)]),
 (22,.one (.slice none 0 0) (.slice 118)),
 (31,.str [.one (.v (.int .i64 0)),.one (.v (.int .i64 0)),.one (.v (.int .i64 0))] [(0,1,false),(1,1,false),(2,1,false)]),
 (42,.str [.one (.v (.int .i64 0)),.one (.v (.int .i64 0))] [(0,1,false),(1,1,false)]),
 (33,.one (.nilIface) .iface),
 (66,.one (.int .i64 0) (.int .i64)),
 (53,.str [.one (.v (.int .i64 0)),.one (.v (.int .i64 0)),.one (.v (.int .i64 0)),.one (.v (.int .i64 0)),.one (.v (.int .i64 0)),.one (.v (.int .i64 0)),.one (.v (.int .i64 0)),.one (.v (.int .i64 0)),.one (.v (.int .i64 0))] [(0,1,false),(1,1,false),(2,3,true),(5,2,true),(7,1,false),(8,1,false)]),
 (47,.one (.slice none 0 0) (.slice 53)),
 (44,.str [.one (.v (.int .i64 0)),.one (.v (.int .i64 0)),.one (.v (.int .i64 0)),.one (.v (.int .i64 0)),.one (.v (.int .i64 0)),.one (.v (.int .i64 0))] [(0,1,false),(1,3,true),(4,2,true)]),
 (38,.one (.slice none 0 0) (.slice 44)),
 (73,.arr [.ints (.int .u64) 32 (λ_=>0)] 32 1 false),
 (23,.one (.slice none 0 0) (.slice 31))]
theorem tabLz_ok:TabOk Tryz.prog tabLz:=.cons (⟨Zc,Zc,Zc,Zc,Zc⟩) (.cons (⟨Zc,Zc,Zc,Zc,Zc⟩) (.cons (⟨Zc,Zc,Zc,Zc,Zc⟩) (.cons (⟨Zc,Zc,Zc,Zc,Zc⟩) (.cons (⟨Zc,Zc,Zc,Zc⟩) (.cons (⟨Zc,Zc,Zc,Zc,Zc⟩) (.cons (⟨Zc,Zc,Zc,Zc⟩) (.cons (⟨Zc,Zc,Zc,Zc⟩) (.cons (⟨Zc,Zc,Zc,Zc,Zc⟩) (.cons (⟨Zc,Zc,Zc,Zc,Zc⟩) (.cons (⟨Zc,Zc,Zc,Zc⟩) (.cons (⟨Zc,Zc,Zc,Zc,Zc⟩) (.cons (⟨Zc,Zc,Zc,Zc⟩) (.cons (⟨Zc,Zc,Zc,Zc,Zc⟩) (.cons (⟨Zc,Zc,Zc,Zc⟩) (.cons (⟨Zc,Zc,Zc,Zc,Zc⟩) (TabOk.nil _))))))))))))))))
theorem tabLz_tys:TysOk Tryz.prog tabLz:=TysOk.of Zc Zc
theorem walk_ShopMany (a0:Int) (a1:Option Addr) (len1 cap1:Nat) (z1:Nat->Nat->Int) (a2:Int) (a3:Option Addr) (len3 cap3:Nat) (z3:Nat->Nat->Int) (W:World) (hE:ErrType W) (w0:(Lit.int .i64 a0).wf=true) (w1:MvIn W a1 len1 cap1 z1) (w2:(Lit.int .i64 a2).wf=true) (w3:OpsIn W a3 len3 cap3 z3):
 Calls Tryz.prog 3 #[.int .i64 a0,.slice a1 len1 cap1,.int .i64 a2,.slice a3 len3 cap3] W λe w'=>e=.returned (.bool true)/\Below W.heap.size W w':=by
 refine QrD (AG:=[(3,[(0,annMa0 (XL (1+Qhl a0 6) (mvL z1 len1)) a2 a3 len3 cap3 z3),(2,annMa2 (1+Qhl a0 6) (XL (1+Qhl a0 6) (mvL z1 len1)) a2 a3 len3 cap3 z3),(4,annMa4 (XL (1+Qhl a0 6) (mvL z1 len1)).deeds.length a3 len3 cap3 z3)])]) (Γ:=[(8,.pure QhN),(10,.inl Tryz.f10 (Tryz.f10.body.getD .skip)),(12,.pure Qgf),(11,.inl Tryz.f11 (Tryz.f11.body.getD .skip)),(28,.mem (QjH W)),(9,.pure QcM),(13,.mem QjE.sh),(14,.pure XU),(15,.mem Qsb.sh),(16,.mem runG.sh),(17,.mem verC.sh),(18,.mem ddsC.sh),(19,.pure QhO)]) Tryz.func3 rfl tabLz_ok tabLz_tys
  (.cons (shops_con W _) (.cons (⟨Zc,rfl,rfl⟩) (.cons (Qss W _) (.cons (⟨Zc,rfl,rfl⟩) (.cons (play_con W) (.cons (Qst W hE) (.cons (doesH W _) (.cons (QaE W _) (.cons (callNH W _) (.cons (runGH W _) (.cons (verH W _) (.cons (ddsH W _) (.cons (Qpo W _) (.nil _ _ _))))))))))))))
  [.c (.v (.int .i64 a0)),.c (.r a1 len1 cap1 len1 7 mvK z1),.c (.v (.int .i64 a2)),.c (.r a3 len3 cap3 len3 3 (λ_=>.i64) z3)] (.bool true) 1200 rfl ?_ rfl
 refine Qj (q:=True/\True/\bif bif decide ((↑len1:Int)<=(120:Int))then false else true then ZI (aB true)=ZI (aB true)else bif decide ((↑len3:Int)<(4:Int))then ZI (aB true)=ZI (aB true)else True/\∃(s:PlS),[aI ((1:Int)+Qhl a0 (6:Int)),Zu (.r a1 len1 cap1 len1 7 (λ(j:Nat)=>bif Nat.beq j 6 then .u64 else .i64) z1)]=[aI s.1,Zu (.r s.2 s.3 s.4 s.3 7 (λ(j:Nat)=>bif Nat.beq j 6 then .u64 else .i64) s.5)]/\eN/\(((1:Int)<=s.1/\s.1<=(6:Int))/\s.3<=3000/\Rws 7 mvK W (PlS.a s) (PlS.n s) s.4 s.5/\∀(i:Nat),i<s.3->U64 (s.5 i 6))/\∀(x:List Nat),True->(∃(s0:Ann.σ (annMa0 (XL ((1:Int)+Qhl a0 (6:Int)) (mvL z1 len1)) a2 a3 len3 cap3 z3)),(eS (aI a2) (aI a2)/\eS (Zu (.r a3 len3 cap3 len3 3 (λ(x:Nat)=>.i64) z3)) (Zu (.r a3 len3 cap3 len3 3 (λ(x:Nat)=>.i64) z3))/\eS (aP 0 0) (aP 0 0)/\eS (aI 0) (aI ↑s0.1)/\True)/\[ZF (QA shM ZJ ShS.good (XL s.1 (mvL s.5 s.3))) x]=[ZF (QA shM ZJ ShS.good (XL ((1:Int)+Qhl a0 (6:Int)) (mvL z1 len1))) s0.2])/\∀(s:Ma0 (XL ((1:Int)+Qhl a0 (6:Int)) (mvL z1 len1)) z3),bif decide ((↑s.1:Int)<(4:Int))then ∃(s_1:Sh × Nat × List Nat),[aP 0 0,aI ↑s.1]=[aP 0 0,aI (↑s_1.2.1:Int)]/\[ZF (QA shM ZJ ShS.good (XL ((1:Int)+Qhl a0 (6:Int)) (mvL z1 len1))) s.2]=[ZF (QA shM ZJ ShS.good s_1.1) s_1.2.2]/\s_1.2.1<4/\∀(x:List Nat × Unit),True->bif (Sh.w s_1.1 s_1.2.1).2 != (0:Int)then ZI (aB true)=ZI (aB true)else (Rws 3 (λ(x:Nat)=>.i64) W a3 len3 cap3 z3/\(0:Int)<=(↑s.1:Int)/\(↑s.1:Int)<(↑len3:Int)/\Zh (↑s.1:Int)<len3)/\(Rws 3 (λ(x:Nat)=>.i64) W a3 len3 cap3 z3/\Zh (↑s.1:Int)<len3)/\True/\bif bif opOk (z3 (Zh (↑s.1:Int)) 0) (z3 (Zh (↑s.1:Int)) 1) (z3 (Zh (↑s.1:Int)) 2)then false else true then ZI (aB true)=ZI (aB true)else ∃(s':Ma0 (XL ((1:Int)+Qhl a0 (6:Int)) (mvL z1 len1)) z3),((eS (aI a2) (aI a2)/\eS (Zu (.r a3 len3 cap3 len3 3 (λ(x:Nat)=>.i64) z3)) (Zu (.r a3 len3 cap3 len3 3 (λ(x:Nat)=>.i64) z3))/\eS (aP 0 0) (aP 0 0)/\eS (aI (Zi .i64 ((↑s.1:Int)+(1:Int)))) (aI ↑s'.1)/\True)/\[ZF (QA shM ZJ ShS.good s_1.1) x.1]=[ZF (QA shM ZJ ShS.good (XL ((1:Int)+Qhl a0 (6:Int)) (mvL z1 len1))) s'.2])/\4-s'.1<4-s.1 else (∃(s0:Ann.σ (annMa2 ((1:Int)+Qhl a0 (6:Int)) (XL ((1:Int)+Qhl a0 (6:Int)) (mvL z1 len1)) a2 a3 len3 cap3 z3)),(eS (aI a2) (aI a2)/\eS (Zu (.r a3 len3 cap3 len3 3 (λ(x:Nat)=>.i64) z3)) (Zu (.r a3 len3 cap3 len3 3 (λ(x:Nat)=>.i64) z3))/\eS (aP 0 0) (aP 0 0)/\eS (aI 0) (aI ↑s0.1)/\True)/\[ZF (QA shM ZJ ShS.good (XL ((1:Int)+Qhl a0 (6:Int)) (mvL z1 len1))) s.2]=[ZF (QA shM ZJ ShS.good s0.2) s0.5])/\∀(s:Ma2 ((1:Int)+Qhl a0 (6:Int)) (XL ((1:Int)+Qhl a0 (6:Int)) (mvL z1 len1)) z3),bif decide ((↑s.1:Int)<(4:Int))then (Rws 3 (λ(x:Nat)=>.i64) W a3 len3 cap3 z3/\(0:Int)<=(↑s.1:Int)/\(↑s.1:Int)<(↑len3:Int)/\Zh (↑s.1:Int)<len3)/\(Rws 3 (λ(x:Nat)=>.i64) W a3 len3 cap3 z3/\Zh (↑s.1:Int)<len3)/\∃(s_1:Sh × (Int × OpA) × List Nat),[aP 0 0,aI ↑s.1,SA.a [sI (z3 (Zh (↑s.1:Int)) 0),sI (z3 (Zh (↑s.1:Int)) 1),sI (z3 (Zh (↑s.1:Int)) 2)]]=[aP 0 0,aI s_1.2.1.1,SA.a [sI s_1.2.1.2.1,sI s_1.2.1.2.2,sI s_1.2.1.2.3]]/\[ZF (QA shM ZJ ShS.good s.2) s.5]=[ZF (QA shM ZJ ShS.good s_1.1) s_1.2.2]/\(CallOK s_1.1/\inT s_1.2.1.1=true/\(Sh.w s_1.1 (Zh s_1.2.1.1)).2=(0:Int)/\opOk s_1.2.1.2.1 s_1.2.1.2.2 s_1.2.1.2.3=true)/\∀(x:List Nat × Unit),True->∃(s_2:Sh × (Int × Int) × List Nat),[aP 0 0,aI ↑s.1,aI 2]=[aP 0 0,aI s_2.2.1.1,aI s_2.2.1.2]/\[ZF (QA shM ZJ ShS.good (bif inT s_1.2.1.1 then Sh.call s_1.1 (Zh s_1.2.1.1) s_1.2.1.2.1 s_1.2.1.2.2 s_1.2.1.2.3 else s_1.1)) x.1]=[ZF (QA shM ZJ ShS.good s_2.1) s_2.2.2]/\((inT s_2.2.1.1=true->RunOK s_2.1 (Zh s_2.2.1.1) s_2.2.1.2)/\inT s_2.2.1.1=true/\runB s_2.2.1.2=true)/\∀(x:List Nat × Unit),True->bif (↑(Sh.ran s_2.1 (Zh s_2.2.1.1) (Zh s_2.2.1.2)):Int) != (2:Int)then ZI (aB false)=ZI (aB true)else ∃(s':Ma2 ((1:Int)+Qhl a0 (6:Int)) (XL ((1:Int)+Qhl a0 (6:Int)) (mvL z1 len1)) z3),((eS (aI a2) (aI a2)/\eS (Zu (.r a3 len3 cap3 len3 3 (λ(x:Nat)=>.i64) z3)) (Zu (.r a3 len3 cap3 len3 3 (λ(x:Nat)=>.i64) z3))/\eS (aP 0 0) (aP 0 0)/\eS (aI (Zi .i64 ((↑s.1:Int)+(1:Int)))) (aI ↑s'.1)/\True)/\[ZF (QA shM ZJ ShS.good (ZbG s_2.1 s_2.2.1.1 s_2.2.1.2)) x.1]=[ZF (QA shM ZJ ShS.good s'.2) s'.5])/\4-s'.1<4-s.1 else ∃(s_1:Sh × Unit × List Nat),[aP 0 0]=[aP 0 0]/\[ZF (QA shM ZJ ShS.good s.2) s.5]=[ZF (QA shM ZJ ShS.good s_1.1) s_1.2.2]/\((0:Int)<=(Sh.s s_1.1).1 0/\(Sh.s s_1.1).1 0<(1000000000:Int))/\∀(x:List Nat × Unit),True->∃(s:Sh × Unit × List Nat),[aP 0 0]=[aP 0 0]/\[ZF (QA shM ZJ ShS.good s_1.1) x.1]=[ZF (QA shM ZJ ShS.good s.1) s.2.2]/\Zg s.1.7<=1000000000/\∀(x:List Nat × RwR),(Zg s.1.7<=x.2.1/\x.2.1<=x.2.2)/\IsR 6 Dd.at Yy x.2.4 (List.map (λ(self:Vd)=>self.2) s.1.7)->Zg s.1.7<=x.2.2/\((0:Int)<(4:Int)/\(4:Int)<=(9223372036854775807:Int))/\∃(s_2:Sh × (Int × Int) × List Nat),[aP 0 0,aI (Qhl a2 (4:Int)),aI 100]=[aP 0 0,aI s_2.2.1.1,aI s_2.2.1.2]/\[ZF (QA shM ZJ ShS.good s.1) x.1]=[ZF (QA shM ZJ ShS.good s_2.1) s_2.2.2]/\((inT s_2.2.1.1=true->RunOK s_2.1 (Zh s_2.2.1.1) s_2.2.1.2)/\inT s_2.2.1.1=true/\runB s_2.2.1.2=true)/\∀(x:List Nat × Unit),True->∃(s_3:Sh × Nat × List Nat),[aP 0 0,aI (Qhl a2 (4:Int))]=[aP 0 0,aI (↑s_3.2.1:Int)]/\[ZF (QA shM ZJ ShS.good (ZbG s_2.1 s_2.2.1.1 s_2.2.1.2)) x.1]=[ZF (QA shM ZJ ShS.good s_3.1) s_3.2.2]/\s_3.2.1<4/\∀(x:List Nat × Unit),True->bif (Sh.w s_3.1 s_3.2.1).2 != (0:Int)then ZI (aB false)=ZI (aB true)else ∃(s_4:Sh × Unit × List Nat),[aP 0 0]=[aP 0 0]/\[ZF (QA shM ZJ ShS.good s_3.1) x.1]=[ZF (QA shM ZJ ShS.good s_4.1) s_4.2.2]/\Zg s_4.1.7<=1000000000/\∀(x:List Nat × RwR),(Zg s_4.1.7<=x.2.1/\x.2.1<=x.2.2)/\IsR 6 Dd.at Yy x.2.4 (List.map (λ(self:Vd)=>self.2) s_4.1.7)->∃(s_5:Sh × Unit × List Nat),[aP 0 0]=[aP 0 0]/\[ZF (QA shM ZJ ShS.good s_4.1) x.1]=[ZF (QA shM ZJ ShS.good s_5.1) s_5.2.2]/\((0:Int)<=(Sh.s s_5.1).1 0/\(Sh.s s_5.1).1 0<(1000000000:Int))/\∀(x_1:List Nat × Unit),True->bif (Sh.s s_5.1).1 0 != Zi .i64 ((Sh.s s_1.1).1 0+(1:Int))then ZI (aB false)=ZI (aB true)else Zg s_4.1.7<=x.2.2/\bif (↑(Zg s_4.1.7):Int) != Zi .i64 ((↑(Zg s.1.7):Int)+(4:Int))then ZI (aB false)=ZI (aB true)else (∃(s0:Ann.σ (annMa4 (Zg (Sh.deeds (XL ((1:Int)+Qhl a0 (6:Int)) (mvL z1 len1)))) a3 len3 cap3 z3)),(eS (Zu (.r a3 len3 cap3 len3 3 (λ(x:Nat)=>.i64) z3)) (Zu (.r a3 len3 cap3 len3 3 (λ(x:Nat)=>.i64) z3))/\eS (aI (↑(Zg s.1.7):Int)) (aI (↑(Zg (XL ((1:Int)+Qhl a0 (6:Int)) (mvL z1 len1)).7):Int))/\eS (Zu (.so 2 0 6 (Zg s_4.1.7) x.2.2 x.2.3)) (Zu (.so 2 0 6 (Zg (XL ((1:Int)+Qhl a0 (6:Int)) (mvL z1 len1)).7+1+1+1+1) s0.3 s0.4))/\eS (aI 0) (aI ↑s0.1)/\True)/\[wkD x.2.1 x.2.2 x.2.4]=[wkD s0.2 s0.3 s0.5])/\∀(s:Ma4 (Zg (XL ((1:Int)+Qhl a0 (6:Int)) (mvL z1 len1)).7) z3),bif decide ((↑s.1:Int)<(4:Int))then ((0:Int)<=Zi .i64 ((↑(Zg (XL ((1:Int)+Qhl a0 (6:Int)) (mvL z1 len1)).7):Int)+(↑s.1:Int))/\Zi .i64 ((↑(Zg (XL ((1:Int)+Qhl a0 (6:Int)) (mvL z1 len1)).7):Int)+(↑s.1:Int))<(↑(Zg (XL ((1:Int)+Qhl a0 (6:Int)) (mvL z1 len1)).7+1+1+1+1):Int)/\0+Zg (XL ((1:Int)+Qhl a0 (6:Int)) (mvL z1 len1)).7+1+1+1+1<=s.3)/\0+Zh (Zi .i64 ((↑(Zg (XL ((1:Int)+Qhl a0 (6:Int)) (mvL z1 len1)).7):Int)+(↑s.1:Int)))<s.2/\bif s.5 (0+Zh (Zi .i64 ((↑(Zg (XL ((1:Int)+Qhl a0 (6:Int)) (mvL z1 len1)).7):Int)+(↑s.1:Int)))) 0 != (↑s.1:Int)then dP Tryz.f3 32 1 [xE 22,xE 21,xE 20,xE 19,xE 18,xE 17,xE 16,xE 15,xE 14,xE 13,xE 12,xE 11,xE 10,xE 9,xE 8,xE 7,xR 6 0,xF 5 0,xF 4 0,xE 3,xE 2,xE 1,xF 0 0]/\ZI (aB false)=ZI (aB true)else ((0:Int)<=Zi .i64 ((↑(Zg (XL ((1:Int)+Qhl a0 (6:Int)) (mvL z1 len1)).7):Int)+(↑s.1:Int))/\Zi .i64 ((↑(Zg (XL ((1:Int)+Qhl a0 (6:Int)) (mvL z1 len1)).7):Int)+(↑s.1:Int))<(↑(Zg (XL ((1:Int)+Qhl a0 (6:Int)) (mvL z1 len1)).7+1+1+1+1):Int)/\0+Zg (XL ((1:Int)+Qhl a0 (6:Int)) (mvL z1 len1)).7+1+1+1+1<=s.3)/\0+Zh (Zi .i64 ((↑(Zg (XL ((1:Int)+Qhl a0 (6:Int)) (mvL z1 len1)).7):Int)+(↑s.1:Int)))<s.2/\(Rws 3 (λ(x:Nat)=>.i64) W a3 len3 cap3 z3/\(0:Int)<=(↑s.1:Int)/\(↑s.1:Int)<(↑len3:Int)/\Zh (↑s.1:Int)<len3)/\(Rws 3 (λ(x:Nat)=>.i64) W a3 len3 cap3 z3/\Zh (↑s.1:Int)<len3)/\dP Tryz.f3 32 1 [xE 22,xE 21,xE 20,xE 19,xE 18,xE 17,xR 16 0,xF 15 0,xF 14 0,xE 13,xE 12,xE 11,xF 10 0,xE 9,xE 8,xE 7,xR 6 0,xF 5 0,xF 4 0,xE 3,xE 2,xE 1,xF 0 0]/\bif bif bif s.5 (0+Zh (Zi .i64 ((↑(Zg (XL ((1:Int)+Qhl a0 (6:Int)) (mvL z1 len1)).7):Int)+(↑s.1:Int)))) 1==z3 (Zh (↑s.1:Int)) 0 then bif s.5 (0+Zh (Zi .i64 ((↑(Zg (XL ((1:Int)+Qhl a0 (6:Int)) (mvL z1 len1)).7):Int)+(↑s.1:Int)))) 2==z3 (Zh (↑s.1:Int)) 1 then bif s.5 (0+Zh (Zi .i64 ((↑(Zg (XL ((1:Int)+Qhl a0 (6:Int)) (mvL z1 len1)).7):Int)+(↑s.1:Int)))) 3==z3 (Zh (↑s.1:Int)) 2 then true else false else false else false then false else true then ZI (aB false)=ZI (aB true)else ∃(s':Ma4 (Zg (XL ((1:Int)+Qhl a0 (6:Int)) (mvL z1 len1)).7) z3),((eS (Zu (.r a3 len3 cap3 len3 3 (λ(x:Nat)=>.i64) z3)) (Zu (.r a3 len3 cap3 len3 3 (λ(x:Nat)=>.i64) z3))/\eS (aI (↑(Zg (XL ((1:Int)+Qhl a0 (6:Int)) (mvL z1 len1)).7):Int)) (aI (↑(Zg (XL ((1:Int)+Qhl a0 (6:Int)) (mvL z1 len1)).7):Int))/\eS (Zu (.so 0 0 6 (Zg (XL ((1:Int)+Qhl a0 (6:Int)) (mvL z1 len1)).7+1+1+1+1) s.3 s.4)) (Zu (.so 0 0 6 (Zg (XL ((1:Int)+Qhl a0 (6:Int)) (mvL z1 len1)).7+1+1+1+1) s'.3 s'.4))/\eS (aI (Zi .i64 ((↑s.1:Int)+(1:Int)))) (aI ↑s'.1)/\True)/\[wkD s.2 s.3 s.5]=[wkD s'.2 s'.3 s'.5])/\4-s'.1<4-s.1 else ZI (aB true)=ZI (aB true)) Zc ?_
 have k1:1<=1+Qhl a0 6:=by have:=QeY a0 6 Zb;omega
 have k6:1+Qhl a0 6<=6:=by have:=Qj9 a0 6 Zb;omega
 generalize 1+Qhl a0 6=K at k1 k6 ⊢
 refine⟨Zd,Zd,Qop (λ_=>rfl) (λhh=>Qp (λ_=>rfl) (λhlen=>⟨Zd,⟨K,a1,len1,cap1,z1⟩,rfl,rfl,⟨⟨k1,k6⟩,(by show len1<=3000;omega),w1.1,w1.2⟩,λx _=>?_⟩))⟩
 obtain⟨g,F2,hs⟩:=QnW k1 k6 len1 (mvL z1 len1) (QrI z1 len1) Za
 have hs2:(XL K (mvL z1 len1)).steps<=120000:=Za
 have F:=F2.fi
 have hL:=F.lens Za
 have hT:=F.steps0
 have hI:=F.i
 generalize XL K (mvL z1 len1)=Z at *
 refine⟨⟨⟨0,x,Zb,λu h=>absurd h (Nat.not_lt_zero _)⟩,⟨rfl,rfl,rfl,rfl,Zd⟩,rfl⟩,?_⟩
 rintro⟨t,G,ht,hd⟩
 dsimp only
 have e1 (j:Nat):(j:Int).toNat=j:=Zt j
 rw[e1]
 refine Qp (λhlt=>?_) (λhge=>?_)
 . have ht4:t<4:=Za
   refine⟨(Z,t,G),rfl,rfl,ht4,λy _=>QC (λ_=>rfl) (λh0=>⟨⟨w3.1,Za,Za,Za⟩,⟨w3.1,Za⟩,Zd,Xs (λ_=>rfl) (λho=>⟨⟨t+1,y.1,Za,λu hu=>?_⟩,⟨⟨rfl,rfl,rfl,svI (sucI Za),Zd⟩,rfl⟩,by dsimp only;omega⟩)⟩)⟩
   by_cases e:u=t
   . subst e;exact⟨h0,ho⟩
   . exact hd u Za
 obtain rfl:t=4:=Za
 have hid:∀u,u<4->(Z.w u).does=0:=λu hu=>(hd u hu).1
 refine⟨⟨⟨0,Z,g,g,G,Zb,F2,hd,Sds.start F2 hid⟩,⟨rfl,rfl,rfl,rfl,Zd⟩,rfl⟩,?_⟩
 clear F hL hT hI F2 hd hid
 rintro⟨t,S,gS,gz,G,ht,hF,hd,hS⟩
 dsimp only
 rw[e1]
 have hid:∀u,u<4->(Z.w u).does=0:=λu hu=>(hd u hu).1
 have hst:=hS.steps
 have FS:=hS.f.fi
 refine Qp (λhlt=>?_) (λhge=>?_)
 . have ht4:t<4:=Za
   have ho:=(hd t ht4).2
   obtain⟨S',hr⟩:=hS.next ht4 ho Za
   have hT1:inT (t:Int)=true:=decide_eq_true Za
   obtain⟨Q,hQ⟩:∃Q,Q=S.call t (z3 t 0) (z3 t 1) (z3 t 2):=⟨_,rfl⟩
   have eC:(bif inT (t:Int)then S.call (t:Int).toNat (z3 t 0) (z3 t 1) (z3 t 2)else S)=Q:=by rw[hT1,e1,hQ];rfl
   have eR:Q.runA (t:Int) 2=Q.run t 2:=by unfold ZbG;rw[hT1,Zt];rfl
   have hF1:=Qn0 FS ht4 (z3 t 0) (z3 t 1) (z3 t 2)
   have hcs:=(QeR S t (z3 t 0) (z3 t 1) (z3 t 2)).2
   rw[<- hQ]at S' hr hF1 hcs
   refine⟨⟨w3.1,Za,Za,Za⟩,⟨w3.1,Za⟩,(S,((t:Int),⟨z3 t 0,z3 t 1,z3 t 2⟩),G),rfl,rfl,⟨CallOK.of FS (by show S.steps<100000000;omega),hT1,(by show (S.w (Zh (t:Int))).does=0;rw[e1];exact hS.hi t (Nat.le_refl _) ht4),ho⟩,λy _=>⟨(Q,((t:Int),2),y.1),rfl,abGo y.1 eC,⟨λ_=>(by show RunOK Q (Zh (t:Int)) 2;rw[e1];exact RunOK.of hF1 ht4 Za _),hT1,rfl⟩,λy2 _=>QC (λh=>absurd ?_ h) (λ_=>⟨⟨t+1,Q.run t 2,gS,gz,y2.1,Za,hF,hd,S'⟩,⟨⟨rfl,rfl,rfl,svI (sucI Za),Zd⟩,abGo y2.1 eR⟩,by dsimp only;omega⟩)⟩⟩
   show ((Q.ran (Zh (t:Int)) 2:Nat):Int)=2
   rw[e1,hr];rfl
 obtain rfl:t=4:=Za
 have p0:=QeY a2 4 Zb
 have p1:=Qj9 a2 4 Zb
 generalize Qhl a2 4=q at *
 obtain⟨u,rfl⟩:=Int.eq_ofNat_of_zero_le p0
 have hu4:u<4:=Za
 obtain⟨g',M⟩:=many hF hid hS hu4 (λu hu=>(hd u hu).2) Za
 have hT1:inT (u:Int)=true:=decide_eq_true Za
 have eR:S.runA (u:Int) 100=S.run u 100:=by unfold ZbG;rw[hT1,Zt];rfl
 have hrs:=(QcA u 100 S).2
 have hrn:RunOK S u 100:=RunOK.of FS hu4 Za _
 obtain⟨V,hV⟩:∃V,V=S.run u 100:=⟨_,rfl⟩
 rw[<- hV]at M eR hrs
 have FV:=M.fin.fi
 have hvS:=FS.ver Za
 have hLS:=FS.lens Za
 have hvV:=FV.ver Za
 have hLV:=FV.lens Za
 have hml:=M.len
 have hsd:S.deeds.length=Z.deeds.length:=by rw[hS.deeds]
 refine⟨(S,(),G),rfl,rfl,hvS,λy _=>⟨(S,(),y.1),rfl,rfl,hLS.2,λy2 hy2=>⟨ZX hy2.1.1 hy2.1.2,⟨Zb,Zb⟩,(S,((u:Int),100),y2.1),rfl,rfl,⟨λ_=>(by show RunOK S (Zh (u:Int)) 100;rw[e1];exact hrn),hT1,rfl⟩,λy3 _=>⟨(V,u,y3.1),rfl,abGo y3.1 eR,hu4,λy4 _=>QC (λh=>absurd M.idle h) (λ_=>⟨(V,(),y4.1),rfl,rfl,hLV.2,λy5 hy5=>⟨(V,(),y5.1),rfl,rfl,hvV,λy6 _=>QC (λh=>absurd ?_ h) (λ_=>⟨ZX hy5.1.1 hy5.1.2,QC (λh=>absurd ?_ h) (λ_=>?_)⟩)⟩⟩)⟩⟩⟩⟩
 . dsimp only
   rw[Qx Za Za,M.ver,hS.s]
 . dsimp only
   rw[Qx Za Za];omega
 have hb:V.deeds.length<=y5.2.m/\y5.2.m<=y5.2.c:=hy5.1
 have hI:IsR 6 Dd.at Yy y5.2.z (V.deeds.map Vd.d):=hy5.2
 have dd:∀j,j<4->y5.2.z (Z.deeds.length+j) 0=(j:Int)/\y5.2.z (Z.deeds.length+j) 1=z3 j 0/\y5.2.z (Z.deeds.length+j) 2=z3 j 1/\y5.2.z (Z.deeds.length+j) 3=z3 j 2:=λj hj=>by
  have hi:=hI (Z.deeds.length+j) (by rw[List.length_map];omega)
  have hg:(V.deeds.map Vd.d).getD (Z.deeds.length+j) Yy=(V.deeds.getD (Z.deeds.length+j) Vd.nil).d:=by simp[List.getD_eq_getElem?_getD,List.getElem?_map,List.getElem?_eq_getElem (show Z.deeds.length+j<V.deeds.length by omega)]
  obtain⟨a,b,c,d⟩:=M.dd j hj
  rw[hi 0 Zb,hi 1 Zb,hi 2 Zb,hi 3 Zb,hg]
  exact⟨congrArg (λq:Nat=>(q:Int)) a,b,c,d⟩
 have hN:Z.deeds.length<=1000000000:=Za
 refine⟨⟨⟨0,y5.2.m,y5.2.c,y5.2.nn,y5.2.z,Zb,⟨Za,hb.2⟩,dd⟩,⟨rfl,svI (congrArg (λq:Nat=>(q:Int)) hsd),congrArg (λq=>some (ZI (Zu (.so 2 0 6 q y5.2.c y5.2.nn)))) hml,rfl,Zd⟩,rfl⟩,?_⟩
 rintro⟨t,m,c,nn,f,ht,hm,hd4⟩
 dsimp only
 refine Qp (λhlt=>?_) (λ_=>rfl)
 have ht4:t<4:=Za
 have ew:Zi .i64 ((Z.deeds.length:Int)+(t:Int))=((Z.deeds.length+t:Nat):Int):=by rw[Qx Za Za];omega
 have e0 (j:Nat):0+(j:Int).toNat=j:=by rw[Zt,Nat.zero_add]
 obtain⟨d0,d1,d2,d3⟩:=hd4 t ht4
 rw[ew,e0,e1]
 refine⟨⟨Za,Za,Za⟩,Za,QC (λh=>absurd d0 h) (λ_=>⟨⟨Za,Za,Za⟩,Za,⟨w3.1,Za,Za,Za⟩,⟨w3.1,Za⟩,Qe Zc,Xs (λh=>absurd h (by rw[d1,d2,d3];simp)) (λ_=>⟨⟨t+1,m,c,nn,f,Za,hm,hd4⟩,⟨⟨rfl,rfl,rfl,svI (sucI Za),Zd⟩,rfl⟩,by dsimp only;omega⟩)⟩)⟩
end Go.Proofs.YtnhoblgmlmodnaaGreatDoor
