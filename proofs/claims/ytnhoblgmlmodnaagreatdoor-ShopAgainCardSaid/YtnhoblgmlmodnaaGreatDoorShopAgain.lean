/- ShopAgain: the walk of the law. -/
import Derived.Test.YtnhoblgmlmodnaaGreatDoorZI6
namespace Go.Proofs.YtnhoblgmlmodnaaGreatDoor
open Dd renaming nil->Yy
open Int renaming toNat->Zh,toNat_natCast->Zt,eq_ofNat_of_zero_le->Z4
open IntKind renaming wrap->Zi
open List renaming length->Zg,take->ZR
open Nat renaming le_trans->ZX,zero_le->Yc,add_zero->Yl
open RunOK renaming of->ZcX
open SA renaming c->Zu
open SB renaming abs->ZF
open SV renaming o->ZI
open Sh renaming runA->ZbG,crash->Zdm
open ShS renaming z->ZJ
open Go.RowKit
set_option linter.unusedVariables false
set_option maxRecDepth 100000
set_option maxHeartbeats 4000000
structure De (K:Int) where
 i:Nat
 S:Sh
 g:Gh
 F:List Nat
 hi:i<=4
 h:Rest K i S g
 w:WfH S.hist
 s:S.steps<=130002+100*(i:Int)
def annDe (K:Int):Ann where
 σ:=De K
 I g:=([(9,.o (.c (.p 0 0))),(14,sv (.int .i64 g.i))],[.abs (QA shM ZJ ShS.good g.S) g.F])
 dec g:=4-g.i
 pi env _:=[blkE env 9]
 nz:=[]
structure Dc (K:Int) where
 S:Sh
 g:Gh
 F:List Nat
 h:Rest K 4 S g
 w:WfH S.hist
 s:S.steps<=130002+400
 m:Nat
 c:Nat
 nn:Bool
 f:Nat->Nat->Int
 hm:S.hist.length<=m/\m<=c
 hz:IsE f S.hist
 j:Nat
 hj:j<=S.hist.length
def annDc (K:Int):Ann where
 σ:=Dc K
 I g:=([(9,.o (.c (.p 0 0))),(15,sv (.int .i64 (Qei (g.S.hist.take g.j):Nat))),(88,.o (.c (.so 1 0 9 g.S.hist.length g.c g.nn))),(89,sv (.int .i64 g.S.hist.length)),(90,sv (.int .i64 g.j))],[.abs (QA shM ZJ ShS.good g.S) g.F,evB g.m g.c g.f])
 dec g:=g.S.hist.length-g.j
 pi env _:=[blkE env 9,blkE env 88]
 nz:=[]
structure Ag1 (K:Int) (N:Nat) where
 i:Nat
 S:Sh
 g:Gh
 F:List Nat
 hi:i<=N
 h:Fin2 K S g
 w:WfH S.hist
 s:S.steps<=120001+400*(i:Int)
def annAg1 (K:Int) (a2:Option Addr) (len2 cap2:Nat) (z2:Nat->Nat->Int) (a3:Option Addr) (len3 cap3:Nat) (z3:Nat->Nat->Int):Ann where
 σ:=Ag1 K len2
 I g:=([(3,.o (.c (.r a3 len3 cap3 len3 1 (λ_=>.u64) z3))),(9,.o (.c (.p 0 0))),(38,.o (.c (.r a2 len2 cap2 len2 1 (λ_=>.i64) z2))),(39,sv (.int .i64 len2)),(40,sv (.int .i64 g.i))],[.abs (QA shM ZJ ShS.good g.S) g.F])
 dec g:=len2-g.i
 pi env _:=[blkE env 9]
 nz:=[]
structure Ag2 (K:Int) (N:Nat) where
 i:Nat
 t:Nat
 S:Sh
 g:Gh
 F:List Nat
 hi:i<N
 ht:t<=4
 h:Fin2 K S g
 w:WfH S.hist
 s:S.steps<=120002+400*(i:Int)+90*(t:Int)
def annAg2 (K:Int) (a2:Option Addr) (len2 cap2:Nat) (z2:Nat->Nat->Int) (a3:Option Addr) (len3 cap3:Nat) (z3:Nat->Nat->Int):Ann where
 σ:=Ag2 K len2
 I g:=([(3,.o (.c (.r a3 len3 cap3 len3 1 (λ_=>.u64) z3))),(9,.o (.c (.p 0 0))),(11,sv (.int .i64 (z2 g.i 0))),(13,sv (.int .i64 g.t)),(38,.o (.c (.r a2 len2 cap2 len2 1 (λ_=>.i64) z2))),(39,sv (.int .i64 len2)),(40,sv (.int .i64 g.i))],[.abs (QA shM ZJ ShS.good g.S) g.F])
 dec g:=4-g.t
 pi env _:=[blkE env 9]
 nz:=[]
 rel:=some λs0 s=>s.i=s0.i
def tabLz:Tab:=[(3,.one (.int .i64 0) (.int .i64)),
 (50,.one (.int .u64 0) (.int .u64)),
 (4,.one (.bool false) .bool),
 (26,.one (.pointer none) (.ptr 85)),
 (118,.str [.one (.v (.int .i64 0)),.one (.v (.int .i64 0)),.one (.v (.int .i64 0)),.one (.v (.int .i64 0)),.one (.v (.int .i64 0)),.one (.v (.int .i64 0)),.one (.v (.int .u64 0))] [(0,1,false),(1,1,false),(2,3,true),(5,1,false),(6,1,false)]),
 (22,.one (.slice none 0 0) (.slice 118)),
 (31,.str [.one (.v (.int .i64 0)),.one (.v (.int .i64 0)),.one (.v (.int .i64 0))] [(0,1,false),(1,1,false),(2,1,false)]),
 (42,.str [.one (.v (.int .i64 0)),.one (.v (.int .i64 0))] [(0,1,false),(1,1,false)]),
 (33,.one (.nilIface) .iface),
 (66,.one (.int .i64 0) (.int .i64)),
 (53,.str [.one (.v (.int .i64 0)),.one (.v (.int .i64 0)),.one (.v (.int .i64 0)),.one (.v (.int .i64 0)),.one (.v (.int .i64 0)),.one (.v (.int .i64 0)),.one (.v (.int .i64 0)),.one (.v (.int .i64 0)),.one (.v (.int .i64 0))] [(0,1,false),(1,1,false),(2,3,true),(5,2,true),(7,1,false),(8,1,false)]),
 (47,.one (.slice none 0 0) (.slice 53)),
 (44,.str [.one (.v (.int .i64 0)),.one (.v (.int .i64 0)),.one (.v (.int .i64 0)),.one (.v (.int .i64 0)),.one (.v (.int .i64 0)),.one (.v (.int .i64 0))] [(0,1,false),(1,3,true),(4,2,true)]),
 (38,.one (.slice none 0 0) (.slice 44)),
 (73,.arr [.ints (.int .u64) 32 (λ_=>0)] 32 1 false),
 (97,.str [.one (.v (.int .i64 0)),.one (.v (.int .i64 0)),.one (.v (.int .i64 0)),.one (.v (.int .i64 0)),.one (.v (.int .i64 0)),.one (.v (.int .i64 0)),.one (.v (.int .i64 0)),.one (.v (.int .i64 0)),.one (.v (.int .i64 0))] [(0,1,false),(1,3,true),(4,1,false),(5,1,false),(6,1,false),(7,2,true)]),
 (93,.one (.slice none 0 0) (.slice 97)),
 (55,.one (.slice none 0 0) (.slice 3)),
 (55,.one (.slice none 0 0) (.slice 3)),
 (56,.one (.slice none 0 0) (.slice 50))]
theorem tabLz_ok:TabOk Tryz.prog tabLz:=.cons (⟨Zc,Zc,Zc,Zc,Zc⟩) (.cons (⟨Zc,Zc,Zc,Zc,Zc⟩) (.cons (⟨Zc,Zc,Zc,Zc,Zc⟩) (.cons (⟨Zc,Zc,Zc,Zc,Zc⟩) (.cons (⟨Zc,Zc,Zc,Zc⟩) (.cons (⟨Zc,Zc,Zc,Zc,Zc⟩) (.cons (⟨Zc,Zc,Zc,Zc⟩) (.cons (⟨Zc,Zc,Zc,Zc⟩) (.cons (⟨Zc,Zc,Zc,Zc,Zc⟩) (.cons (⟨Zc,Zc,Zc,Zc,Zc⟩) (.cons (⟨Zc,Zc,Zc,Zc⟩) (.cons (⟨Zc,Zc,Zc,Zc,Zc⟩) (.cons (⟨Zc,Zc,Zc,Zc⟩) (.cons (⟨Zc,Zc,Zc,Zc,Zc⟩) (.cons (⟨Zc,Zc,Zc,Zc⟩) (.cons (⟨Zc,Zc,Zc,Zc⟩) (.cons (⟨Zc,Zc,Zc,Zc,Zc⟩) (.cons (⟨Zc,Zc,Zc,Zc,Zc⟩) (.cons (⟨Zc,Zc,Zc,Zc,Zc⟩) (.cons (⟨Zc,Zc,Zc,Zc,Zc⟩) (TabOk.nil _))))))))))))))))))))
theorem tabLz_tys:TysOk Tryz.prog tabLz:=TysOk.of Zc Zc
theorem walk_ShopAgain (a0:Int) (a1:Option Addr) (len1 cap1:Nat) (z1:Nat->Nat->Int) (a2:Option Addr) (len2 cap2:Nat) (z2:Nat->Nat->Int) (a3:Option Addr) (len3 cap3:Nat) (z3:Nat->Nat->Int) (W:World) (hE:ErrType W) (w0:(Lit.int .i64 a0).wf=true) (w1:MvIn W a1 len1 cap1 z1) (w2:NumIn W a2 len2 cap2 z2) (w3:WrdIn W a3 len3 cap3 z3):
 Calls Tryz.prog 6 #[.int .i64 a0,.slice a1 len1 cap1,.slice a2 len2 cap2,.slice a3 len3 cap3] W λe w'=>e=.returned (.bool true)/\Below W.heap.size W w':=by
 refine QrD (AG:=[(6,[(0,annAg1 (1+Qhl a0 6) a2 len2 cap2 z2 a3 len3 cap3 z3),(2,annAg2 (1+Qhl a0 6) a2 len2 cap2 z2 a3 len3 cap3 z3),(4,annDe (1+Qhl a0 6)),(6,annDc (1+Qhl a0 6))])]) (Γ:=[(8,.pure QhN),(10,.inl Tryz.f10 (Tryz.f10.body.getD .skip)),(12,.pure Qgf),(11,.inl Tryz.f11 (Tryz.f11.body.getD .skip)),(28,.mem (QjH W)),(9,.pure QcM),(22,.mem craC.sh),(19,.pure QhO),(16,.mem runG.sh),(13,.mem QjE.sh),(21,.mem hisC.sh),(18,.mem ddsC.sh),(20,.mem Qoi)]) Tryz.func6 rfl tabLz_ok tabLz_tys
  (.cons (shops_con W _) (.cons (⟨Zc,rfl,rfl⟩) (.cons (Qss W _) (.cons (⟨Zc,rfl,rfl⟩) (.cons (play_con W) (.cons (Qst W hE) (.cons (craH W _) (.cons (Qpo W _) (.cons (runGH W _) (.cons (doesH W _) (.cons (hisH W _) (.cons (ddsH W _) (.cons (ft0_con W _) (.nil _ _ _))))))))))))))
  [.c (.v (.int .i64 a0)),.c (.r a1 len1 cap1 len1 7 mvK z1),.c (.r a2 len2 cap2 len2 1 (λ_=>.i64) z2),.c (.r a3 len3 cap3 len3 1 (λ_=>.u64) z3)] (.bool true) 1200 rfl ?_ rfl
 refine Qj (q:=True/\True/\bif bif decide ((↑len1:Int)<=(120:Int))then false else true then ZI (aB true)=ZI (aB true)else bif decide ((↑len2:Int)>(20:Int))then ZI (aB true)=ZI (aB true)else True/\∃(s:PlS),[aI ((1:Int)+Qhl a0 (6:Int)),Zu (.r a1 len1 cap1 len1 7 (λ(j:Nat)=>bif Nat.beq j 6 then .u64 else .i64) z1)]=[aI s.1,Zu (.r s.2 s.3 s.4 s.3 7 (λ(j:Nat)=>bif Nat.beq j 6 then .u64 else .i64) s.5)]/\eN/\(((1:Int)<=s.1/\s.1<=(6:Int))/\s.3<=3000/\Rws 7 mvK W (PlS.a s) (PlS.n s) s.4 s.5/\∀(i:Nat),i<s.3->U64 (s.5 i 6))/\∀(x:List Nat),True->(∃(s0:Ann.σ (annAg1 ((1:Int)+Qhl a0 (6:Int)) a2 len2 cap2 z2 a3 len3 cap3 z3)),(eS (Zu (.r a3 len3 cap3 len3 1 (λ(x:Nat)=>.u64) z3)) (Zu (.r a3 len3 cap3 len3 1 (λ(x:Nat)=>.u64) z3))/\eS (aP 0 0) (aP 0 0)/\eS (Zu (.r a2 len2 cap2 len2 1 (λ(x:Nat)=>.i64) z2)) (Zu (.r a2 len2 cap2 len2 1 (λ(x:Nat)=>.i64) z2))/\eS (aI ↑len2) (aI ↑len2)/\eS (aI 0) (aI ↑s0.1)/\True)/\[ZF (QA shM ZJ ShS.good (XL s.1 (mvL s.5 s.3))) x]=[ZF (QA shM ZJ ShS.good s0.2) s0.4])/\∀(s:Ag1 ((1:Int)+Qhl a0 (6:Int)) len2),bif decide ((↑s.1:Int)<(↑len2:Int))then (Rws 1 (λ(x:Nat)=>.i64) W a2 len2 cap2 z2/\(0:Int)<=(↑s.1:Int)/\(↑s.1:Int)<(↑len2:Int)/\Zh (↑s.1:Int)<len2)/\(Rws 1 (λ(x:Nat)=>.i64) W a2 len2 cap2 z2/\Zh (↑s.1:Int)<len2)/\bif decide ((↑s.1:Int)<(↑len3:Int))then (Rws 1 (λ(x:Nat)=>.u64) W a3 len3 cap3 z3/\(0:Int)<=(↑s.1:Int)/\(↑s.1:Int)<(↑len3:Int)/\Zh (↑s.1:Int)<len3)/\(Rws 1 (λ(x:Nat)=>.u64) W a3 len3 cap3 z3/\Zh (↑s.1:Int)<len3)/\∃(s_1:Sh × Int × List Nat),[aP 0 0,aU (z3 (Zh (↑s.1:Int)) 0)]=[aP 0 0,aU s_1.2.1]/\[ZF (QA shM ZJ ShS.good s.2) s.4]=[ZF (QA shM ZJ ShS.good s_1.1) s_1.2.2]/\Qme s_1.1 s_1.2.1/\∀(x:List Nat × Unit),True->∃(s0:Ag2 ((1:Int)+Qhl a0 (6:Int)) len2),((eS (Zu (.r a3 len3 cap3 len3 1 (λ(x:Nat)=>.u64) z3)) (Zu (.r a3 len3 cap3 len3 1 (λ(x:Nat)=>.u64) z3))/\eS (aP 0 0) (aP 0 0)/\eS (aI (z2 (Zh (↑s.1:Int)) 0)) (aI (z2 s0.1 0))/\eS (aI 0) (aI ↑s0.2)/\eS (Zu (.r a2 len2 cap2 len2 1 (λ(x:Nat)=>.i64) z2)) (Zu (.r a2 len2 cap2 len2 1 (λ(x:Nat)=>.i64) z2))/\eS (aI ↑len2) (aI ↑len2)/\eS (aI ↑s.1) (aI ↑s0.1)/\True)/\[ZF (QA shM ZJ ShS.good (Zdm s_1.1 s_1.2.1)) x.1]=[ZF (QA shM ZJ ShS.good s0.3) s0.5])/\s0.1=s0.1/\∀(s_2:Ag2 ((1:Int)+Qhl a0 (6:Int)) len2),s_2.1=s0.1->bif decide ((↑s_2.2:Int)<(4:Int))then ((0:Int)<(90:Int)/\(90:Int)<=(9223372036854775807:Int))/\∃(s:Sh × (Int × Int) × List Nat),[aP 0 0,aI ↑s_2.2,aI (Qhl (Zi .i64 (z2 s_2.1 0+(↑s_2.2:Int))) (90:Int))]=[aP 0 0,aI s.2.1.1,aI s.2.1.2]/\[ZF (QA shM ZJ ShS.good s_2.3) s_2.5]=[ZF (QA shM ZJ ShS.good s.1) s.2.2]/\((inT s.2.1.1=true->RunOK s.1 (Zh s.2.1.1) s.2.1.2)/\inT s.2.1.1=true/\runB s.2.1.2=true)/\∀(x:List Nat × Unit),True->∃(s':Ag2 ((1:Int)+Qhl a0 (6:Int)) len2),((eS (Zu (.r a3 len3 cap3 len3 1 (λ(x:Nat)=>.u64) z3)) (Zu (.r a3 len3 cap3 len3 1 (λ(x:Nat)=>.u64) z3))/\eS (aP 0 0) (aP 0 0)/\eS (aI (z2 s_2.1 0)) (aI (z2 s'.1 0))/\eS (aI (Zi .i64 ((↑s_2.2:Int)+(1:Int)))) (aI ↑s'.2)/\eS (Zu (.r a2 len2 cap2 len2 1 (λ(x:Nat)=>.i64) z2)) (Zu (.r a2 len2 cap2 len2 1 (λ(x:Nat)=>.i64) z2))/\eS (aI ↑len2) (aI ↑len2)/\eS (aI ↑s_2.1) (aI ↑s'.1)/\True)/\[ZF (QA shM ZJ ShS.good (ZbG s.1 s.2.1.1 s.2.1.2)) x.1]=[ZF (QA shM ZJ ShS.good s'.3) s'.5])/\s'.1=s0.1/\4-s'.2<4-s_2.2 else ∃(s':Ag1 ((1:Int)+Qhl a0 (6:Int)) len2),((eS (Zu (.r a3 len3 cap3 len3 1 (λ(x:Nat)=>.u64) z3)) (Zu (.r a3 len3 cap3 len3 1 (λ(x:Nat)=>.u64) z3))/\eS (aP 0 0) (aP 0 0)/\eS (Zu (.r a2 len2 cap2 len2 1 (λ(x:Nat)=>.i64) z2)) (Zu (.r a2 len2 cap2 len2 1 (λ(x:Nat)=>.i64) z2))/\eS (aI ↑len2) (aI ↑len2)/\eS (aI (Zi .i64 ((↑s_2.1:Int)+(1:Int)))) (aI ↑s'.1)/\True)/\[ZF (QA shM ZJ ShS.good s_2.3) s_2.5]=[ZF (QA shM ZJ ShS.good s'.2) s'.4])/\len2-s'.1<len2-s.1 else ∃(s_1:Sh × Int × List Nat),[aP 0 0,aU 0]=[aP 0 0,aU s_1.2.1]/\[ZF (QA shM ZJ ShS.good s.2) s.4]=[ZF (QA shM ZJ ShS.good s_1.1) s_1.2.2]/\Qme s_1.1 s_1.2.1/\∀(x:List Nat × Unit),True->∃(s0:Ag2 ((1:Int)+Qhl a0 (6:Int)) len2),((eS (Zu (.r a3 len3 cap3 len3 1 (λ(x:Nat)=>.u64) z3)) (Zu (.r a3 len3 cap3 len3 1 (λ(x:Nat)=>.u64) z3))/\eS (aP 0 0) (aP 0 0)/\eS (aI (z2 (Zh (↑s.1:Int)) 0)) (aI (z2 s0.1 0))/\eS (aI 0) (aI ↑s0.2)/\eS (Zu (.r a2 len2 cap2 len2 1 (λ(x:Nat)=>.i64) z2)) (Zu (.r a2 len2 cap2 len2 1 (λ(x:Nat)=>.i64) z2))/\eS (aI ↑len2) (aI ↑len2)/\eS (aI ↑s.1) (aI ↑s0.1)/\True)/\[ZF (QA shM ZJ ShS.good (Zdm s_1.1 s_1.2.1)) x.1]=[ZF (QA shM ZJ ShS.good s0.3) s0.5])/\s0.1=s0.1/\∀(s_2:Ag2 ((1:Int)+Qhl a0 (6:Int)) len2),s_2.1=s0.1->bif decide ((↑s_2.2:Int)<(4:Int))then ((0:Int)<(90:Int)/\(90:Int)<=(9223372036854775807:Int))/\∃(s:Sh × (Int × Int) × List Nat),[aP 0 0,aI ↑s_2.2,aI (Qhl (Zi .i64 (z2 s_2.1 0+(↑s_2.2:Int))) (90:Int))]=[aP 0 0,aI s.2.1.1,aI s.2.1.2]/\[ZF (QA shM ZJ ShS.good s_2.3) s_2.5]=[ZF (QA shM ZJ ShS.good s.1) s.2.2]/\((inT s.2.1.1=true->RunOK s.1 (Zh s.2.1.1) s.2.1.2)/\inT s.2.1.1=true/\runB s.2.1.2=true)/\∀(x:List Nat × Unit),True->∃(s':Ag2 ((1:Int)+Qhl a0 (6:Int)) len2),((eS (Zu (.r a3 len3 cap3 len3 1 (λ(x:Nat)=>.u64) z3)) (Zu (.r a3 len3 cap3 len3 1 (λ(x:Nat)=>.u64) z3))/\eS (aP 0 0) (aP 0 0)/\eS (aI (z2 s_2.1 0)) (aI (z2 s'.1 0))/\eS (aI (Zi .i64 ((↑s_2.2:Int)+(1:Int)))) (aI ↑s'.2)/\eS (Zu (.r a2 len2 cap2 len2 1 (λ(x:Nat)=>.i64) z2)) (Zu (.r a2 len2 cap2 len2 1 (λ(x:Nat)=>.i64) z2))/\eS (aI ↑len2) (aI ↑len2)/\eS (aI ↑s_2.1) (aI ↑s'.1)/\True)/\[ZF (QA shM ZJ ShS.good (ZbG s.1 s.2.1.1 s.2.1.2)) x.1]=[ZF (QA shM ZJ ShS.good s'.3) s'.5])/\s'.1=s0.1/\4-s'.2<4-s_2.2 else ∃(s':Ag1 ((1:Int)+Qhl a0 (6:Int)) len2),((eS (Zu (.r a3 len3 cap3 len3 1 (λ(x:Nat)=>.u64) z3)) (Zu (.r a3 len3 cap3 len3 1 (λ(x:Nat)=>.u64) z3))/\eS (aP 0 0) (aP 0 0)/\eS (Zu (.r a2 len2 cap2 len2 1 (λ(x:Nat)=>.i64) z2)) (Zu (.r a2 len2 cap2 len2 1 (λ(x:Nat)=>.i64) z2))/\eS (aI ↑len2) (aI ↑len2)/\eS (aI (Zi .i64 ((↑s_2.1:Int)+(1:Int)))) (aI ↑s'.1)/\True)/\[ZF (QA shM ZJ ShS.good s_2.3) s_2.5]=[ZF (QA shM ZJ ShS.good s'.2) s'.4])/\len2-s'.1<len2-s.1 else ∃(s_1:Sh × Int × List Nat),[aP 0 0,aU 0]=[aP 0 0,aU s_1.2.1]/\[ZF (QA shM ZJ ShS.good s.2) s.4]=[ZF (QA shM ZJ ShS.good s_1.1) s_1.2.2]/\Qme s_1.1 s_1.2.1/\∀(x:List Nat × Unit),True->(∃(s0:Ann.σ (annDe ((1:Int)+Qhl a0 (6:Int)))),(eS (aP 0 0) (aP 0 0)/\eS (aI 0) (aI ↑s0.1)/\True)/\[ZF (QA shM ZJ ShS.good (Zdm s_1.1 s_1.2.1)) x.1]=[ZF (QA shM ZJ ShS.good s0.2) s0.4])/\∀(s:De ((1:Int)+Qhl a0 (6:Int))),bif decide ((↑s.1:Int)<(4:Int))then ∃(s_2:Sh × (Int × Int) × List Nat),[aP 0 0,aI ↑s.1,aI 100]=[aP 0 0,aI s_2.2.1.1,aI s_2.2.1.2]/\[ZF (QA shM ZJ ShS.good s.2) s.4]=[ZF (QA shM ZJ ShS.good s_2.1) s_2.2.2]/\((inT s_2.2.1.1=true->RunOK s_2.1 (Zh s_2.2.1.1) s_2.2.1.2)/\inT s_2.2.1.1=true/\runB s_2.2.1.2=true)/\∀(x:List Nat × Unit),True->∃(s_3:Sh × Nat × List Nat),[aP 0 0,aI ↑s.1]=[aP 0 0,aI (↑s_3.2.1:Int)]/\[ZF (QA shM ZJ ShS.good (ZbG s_2.1 s_2.2.1.1 s_2.2.1.2)) x.1]=[ZF (QA shM ZJ ShS.good s_3.1) s_3.2.2]/\s_3.2.1<4/\∀(x:List Nat × Unit),True->bif (Sh.w s_3.1 s_3.2.1).2 != (0:Int)then ZI (aB false)=ZI (aB true)else ∃(s':De ((1:Int)+Qhl a0 (6:Int))),((eS (aP 0 0) (aP 0 0)/\eS (aI (Zi .i64 ((↑s.1:Int)+(1:Int)))) (aI ↑s'.1)/\True)/\[ZF (QA shM ZJ ShS.good s_3.1) x.1]=[ZF (QA shM ZJ ShS.good s'.2) s'.4])/\4-s'.1<4-s.1 else ∃(s_2:Sh × Unit × List Nat),[aP 0 0]=[aP 0 0]/\[ZF (QA shM ZJ ShS.good s.2) s.4]=[ZF (QA shM ZJ ShS.good s_2.1) s_2.2.2]/\Zg s_2.1.6<=1000000000/\∀(x:List Nat × RwR),(Zg s_2.1.6<=x.2.1/\x.2.1<=x.2.2)/\IsE x.2.4 s_2.1.6->Zg s_2.1.6<=x.2.2/\(∃(s0:Ann.σ (annDc ((1:Int)+Qhl a0 (6:Int)))),(eS (aP 0 0) (aP 0 0)/\eS (aI 0) (aI (↑(Qei (ZR s0.13 (Dc.S s0).6)):Int))/\eS (Zu (.so 1 0 9 (Zg s_2.1.6) x.2.2 x.2.3)) (Zu (.so 1 0 9 (Zg (Dc.S s0).6) s0.8 s0.9))/\eS (aI (↑(Zg s_2.1.6):Int)) (aI (↑(Zg (Dc.S s0).6):Int))/\eS (aI 0) (aI ↑s0.13)/\True)/\[ZF (QA shM ZJ ShS.good s_2.1) x.1,evB x.2.1 x.2.2 x.2.4]=[ZF (QA shM ZJ ShS.good s0.1) s0.3,evB s0.7 s0.8 s0.10])/\∀(s:Dc ((1:Int)+Qhl a0 (6:Int))),bif decide ((↑s.13:Int)<(↑(Zg (Dc.S s).6):Int))then ((0:Int)<=(↑s.13:Int)/\(↑s.13:Int)<(↑(Zg (Dc.S s).6):Int)/\0+Zg (Dc.S s).6<=s.8)/\0+Zh (↑s.13:Int)<s.7/\bif s.10 (0+Zh (↑s.13:Int)) 0==(1:Int)then ∃(s':Dc ((1:Int)+Qhl a0 (6:Int))),((eS (aP 0 0) (aP 0 0)/\eS (aI (Zi .i64 ((↑(Qei (ZR s.13 (Dc.S s).6)):Int)+(1:Int)))) (aI (↑(Qei (ZR s'.13 (Dc.S s').6)):Int))/\eS (Zu (.so 1 0 9 (Zg (Dc.S s).6) s.8 s.9)) (Zu (.so 1 0 9 (Zg (Dc.S s').6) s'.8 s'.9))/\eS (aI (↑(Zg (Dc.S s).6):Int)) (aI (↑(Zg (Dc.S s').6):Int))/\eS (aI (Zi .i64 ((↑s.13:Int)+(1:Int)))) (aI ↑s'.13)/\True)/\[ZF (QA shM ZJ ShS.good s.1) s.3,evB s.7 s.8 s.10]=[ZF (QA shM ZJ ShS.good s'.1) s'.3,evB s'.7 s'.8 s'.10])/\Zg (Dc.S s').6-s'.13<Zg (Dc.S s).6-s.13 else ∃(s':Dc ((1:Int)+Qhl a0 (6:Int))),((eS (aP 0 0) (aP 0 0)/\eS (aI (↑(Qei (ZR s.13 (Dc.S s).6)):Int)) (aI (↑(Qei (ZR s'.13 (Dc.S s').6)):Int))/\eS (Zu (.so 1 0 9 (Zg (Dc.S s).6) s.8 s.9)) (Zu (.so 1 0 9 (Zg (Dc.S s').6) s'.8 s'.9))/\eS (aI (↑(Zg (Dc.S s).6):Int)) (aI (↑(Zg (Dc.S s').6):Int))/\eS (aI (Zi .i64 ((↑s.13:Int)+(1:Int)))) (aI ↑s'.13)/\True)/\[ZF (QA shM ZJ ShS.good s.1) s.3,evB s.7 s.8 s.10]=[ZF (QA shM ZJ ShS.good s'.1) s'.3,evB s'.7 s'.8 s'.10])/\Zg (Dc.S s').6-s'.13<Zg (Dc.S s).6-s.13 else ∃(s_3:Sh × Unit × List Nat),[aP 0 0]=[aP 0 0]/\[ZF (QA shM ZJ ShS.good s.1) s.3]=[ZF (QA shM ZJ ShS.good s_3.1) s_3.2.2]/\Zg s_3.1.6<=1000000000/\∀(x:List Nat × RwR),(Zg s_3.1.6<=x.2.1/\x.2.1<=x.2.2)/\IsE x.2.4 s_3.1.6->∃(s_4:Sh × Unit × List Nat),[aP 0 0]=[aP 0 0]/\[ZF (QA shM ZJ ShS.good s_3.1) x.1]=[ZF (QA shM ZJ ShS.good s_4.1) s_4.2.2]/\Zg s_4.1.7<=1000000000/\∀(x_1:List Nat × RwR),(Zg s_4.1.7<=x_1.2.1/\x_1.2.1<=x_1.2.2)/\IsR 6 Dd.at Yy x_1.2.4 (List.map (λ(self:Vd)=>self.2) s_4.1.7)->∃(s_5:FtS),[Zu (.so 2 0 9 (Zg s_3.1.6) x.2.2 x.2.3),Zu (.so 3 0 6 (Zg s_4.1.7) x_1.2.2 x_1.2.3)]=[Zu (.so 2 0 9 (Zg s_5.1) s_5.3 s_5.4),Zu (.so 3 0 6 (Zg s_5.6) s_5.8 s_5.9)]/\[evB x.2.1 x.2.2 x.2.4,wkD x_1.2.1 x_1.2.2 x_1.2.4]=[evB s_5.2 s_5.3 s_5.5,wkD s_5.7 s_5.8 s_5.10]/\((WfH s_5.1/\(Zg s_5.1<=1000000000/\(Zg s_5.1<=s_5.2/\s_5.2<=s_5.3)/\IsE s_5.5 s_5.1)/\Zg s_5.6<=10000000/\(Zg s_5.6<=s_5.7/\s_5.7<=s_5.8)/\IsR 6 Dd.at Yy s_5.10 s_5.6)/\fitC (Qh s_5.1) s_5.6=(0:Int))/\∀(x:Unit),True->∃(s_6:Sh × Unit × List Nat),[aP 0 0]=[aP 0 0]/\[ZF (QA shM ZJ ShS.good s_4.1) x_1.1]=[ZF (QA shM ZJ ShS.good s_6.1) s_6.2.2]/\Zg s_6.1.7<=1000000000/\∀(x:List Nat × RwR),(Zg s_6.1.7<=x.2.1/\x.2.1<=x.2.2)/\IsR 6 Dd.at Yy x.2.4 (List.map (λ(self:Vd)=>self.2) s_6.1.7)->Zg s_6.1.7<=x.2.2/\ZI (aB ((↑(Zg s_6.1.7):Int)==(↑(Qei (ZR s.13 (Dc.S s).6)):Int)))=ZI (aB true)) Zc ?_
 have k1:1<=1+Qhl a0 6:=by have:=QeY a0 6 Zb;omega
 have k6:1+Qhl a0 6<=6:=by have:=Qj9 a0 6 Zb;omega
 generalize 1+Qhl a0 6=K at k1 k6 ⊢
 refine⟨Zd,Zd,Qop (λ_=>rfl) (λhh=>Qp (λ_=>rfl) (λhlen=>⟨Zd,⟨K,a1,len1,cap1,z1⟩,rfl,rfl,⟨⟨k1,k6⟩,(by show len1<=3000;omega),w1.1,w1.2⟩,λx _=>?_⟩))⟩
 obtain⟨g,F2,hs⟩:=QnW k1 k6 len1 (mvL z1 len1) (QrI z1 len1) Za
 have hs2:(XL K (mvL z1 len1)).steps<=120000:=Za
 have F:=F2.fi
 have hL:=F.lens Za
 have hT:=F.steps0
 have hI:=F.i
 have hW:=QoX k1 k6 len1 (mvL z1 len1) (QrI z1 len1) Za
 generalize XL K (mvL z1 len1)=Z at *
 refine⟨⟨⟨0,Z,g,x,Yc _,F2,hW,Za⟩,⟨rfl,rfl,rfl,rfl,rfl,Zd⟩,rfl⟩,?_⟩
 clear hL hI hT F F2 hW
 rintro⟨i,S,gS,G,hi,hF,hw,hS⟩
 dsimp only
 have e1 (j:Nat):(j:Int).toNat=j:=Zt j
 rw[e1]
 refine Qp (λhlt=>?_) (λhge=>?_)
 . have hi':i<len2:=Za
   refine⟨⟨w2.1,Za,hlt,hi'⟩,⟨w2.1,hi'⟩,Qp (λh3=>?_) (λh3=>?_)⟩
   . refine⟨⟨w3.1,Za,h3,Za⟩,⟨w3.1,Za⟩,?_⟩
     refine⟨(S,z3 i 0,G),rfl,rfl,hF.fi.craOK Za (wfU (w3.2 i Za 0 Zb)),λy _=>⟨⟨i,0,S.crash (z3 i 0),_,y.1,Za,Zb,fin_crash hF _,QoY hw _,(by have:(S.crash (z3 i 0)).steps=S.steps+1:=rfl;omega)⟩,⟨⟨rfl,rfl,rfl,rfl,rfl,rfl,rfl,Zd⟩,rfl⟩,rfl,?_⟩⟩
     rintro⟨i2,t,S2,g2,G2,hi2,ht,hF2,hw2,hS2⟩ hii
     have hii:i2=i:=hii
     subst hii
     dsimp only
     have FS2:=hF2.fi
     refine Qp (λhlt2=>?_) (λhge2=>?_)
     . have ht4:t<4:=Za
       obtain⟨q,hq,q1,q2⟩:∃q,Qhl (Zi .i64 (z2 i2 0+(t:Int))) 90=q/\0<=q/\q<90:=⟨_,rfl,QeY _ _ Zb,Qj9 _ _ Zb⟩
       rw[hq]
       obtain⟨n,rfl⟩:=Z4 q1
       have hst:=(QcA t n S2).2
       have hT1:inT (t:Int)=true:=decide_eq_true Za
       have hB:runB (n:Int)=true:=decide_eq_true Za
       obtain⟨g',F'⟩:=QrT ht4 n hF2 Za
       have eR:S2.runA (t:Int) (n:Int)=S2.run t n:=by unfold ZbG;rw[hT1,hB,Zt];rfl
       exact⟨⟨Zb,Zb⟩,(S2,((t:Int),(n:Int)),G2),rfl,rfl,⟨λ_=>(by show RunOK S2 (Zh (t:Int)) (n:Int);rw[Zt];exact ZcX FS2 ht4 Za _),hT1,hB⟩,λy2 _=>⟨⟨i2,t+1,S2.run t n,g',y2.1,hi2,Za,F',QqH ht4 n hF2.f hw2 Za,Za⟩,⟨⟨rfl,rfl,rfl,svI (sucI Za),rfl,rfl,rfl,Zd⟩,abGo y2.1 eR⟩,rfl,by dsimp only;omega⟩⟩
     . exact⟨⟨i2+1,S2,g2,G2,Za,hF2,hw2,Za⟩,⟨⟨rfl,rfl,rfl,rfl,svI (sucI Za),Zd⟩,rfl⟩,by dsimp only;omega⟩
   . refine⟨(S,0,G),rfl,rfl,hF.fi.craOK Za (show U64 0 from by decide),λy _=>⟨⟨i,0,S.crash (0),_,y.1,Za,Zb,fin_crash hF _,QoY hw _,(by have:(S.crash (0)).steps=S.steps+1:=rfl;omega)⟩,⟨⟨rfl,rfl,rfl,rfl,rfl,rfl,rfl,Zd⟩,rfl⟩,rfl,?_⟩⟩
     rintro⟨i2,t,S2,g2,G2,hi2,ht,hF2,hw2,hS2⟩ hii
     have hii:i2=i:=hii
     subst hii
     dsimp only
     have FS2:=hF2.fi
     refine Qp (λhlt2=>?_) (λhge2=>?_)
     . have ht4:t<4:=Za
       obtain⟨q,hq,q1,q2⟩:∃q,Qhl (Zi .i64 (z2 i2 0+(t:Int))) 90=q/\0<=q/\q<90:=⟨_,rfl,QeY _ _ Zb,Qj9 _ _ Zb⟩
       rw[hq]
       obtain⟨n,rfl⟩:=Z4 q1
       have hst:=(QcA t n S2).2
       have hT1:inT (t:Int)=true:=decide_eq_true Za
       have hB:runB (n:Int)=true:=decide_eq_true Za
       obtain⟨g',F'⟩:=QrT ht4 n hF2 Za
       have eR:S2.runA (t:Int) (n:Int)=S2.run t n:=by unfold ZbG;rw[hT1,hB,Zt];rfl
       exact⟨⟨Zb,Zb⟩,(S2,((t:Int),(n:Int)),G2),rfl,rfl,⟨λ_=>(by show RunOK S2 (Zh (t:Int)) (n:Int);rw[Zt];exact ZcX FS2 ht4 Za _),hT1,hB⟩,λy2 _=>⟨⟨i2,t+1,S2.run t n,g',y2.1,hi2,Za,F',QqH ht4 n hF2.f hw2 Za,Za⟩,⟨⟨rfl,rfl,rfl,svI (sucI Za),rfl,rfl,rfl,Zd⟩,abGo y2.1 eR⟩,rfl,by dsimp only;omega⟩⟩
     . exact⟨⟨i2+1,S2,g2,G2,Za,hF2,hw2,Za⟩,⟨⟨rfl,rfl,rfl,rfl,svI (sucI Za),Zd⟩,rfl⟩,by dsimp only;omega⟩
 have hR0:Rest K 0 (S.crash 0) (gS.crash S 0):=⟨fin_crash hF 0,noh_crash S 0,λu h=>absurd h (Nat.not_lt_zero _)⟩
 have hs0:(S.crash 0).steps=S.steps+1:=rfl
 refine⟨(S,0,G),rfl,rfl,hF.fi.craOK Za (show U64 0 from by decide),λy _=>⟨⟨⟨0,S.crash 0,_,y.1,Zb,hR0,QoY hw 0,Za⟩,⟨rfl,rfl,Zd⟩,rfl⟩,?_⟩⟩
 clear hs0 hR0 hF hw hS
 rintro⟨i,S,gS,G,hi,hR,hw,hS⟩
 dsimp only
 have FS:=hR.f.fi
 refine Qp (λhlt=>?_) (λhge=>?_)
 . have hi4:i<4:=Za
   obtain⟨g',R',hr,-⟩:=hR.next hi4 Za (n:=100) Zb
   have hst:=(QcA i 100 S).2
   have hT1:inT (i:Int)=true:=decide_eq_true Za
   have eR:S.runA (i:Int) 100=S.run i 100:=by unfold ZbG;rw[hT1,Zt];rfl
   exact⟨(S,((i:Int),100),G),rfl,rfl,⟨λ_=>(by show RunOK S (Zh (i:Int)) 100;rw[Zt];exact ZcX FS hi4 Za _),hT1,rfl⟩,λy3 _=>⟨(S.run i 100,i,y3.1),rfl,abGo y3.1 eR,hi4,λy4 _=>QC (λh=>absurd (R'.i i (Nat.lt_succ_self i)) h) (λ_=>⟨⟨i+1,S.run i 100,g',y4.1,Za,R',QqH hi4 100 hR.f.f hw Za,Za⟩,⟨⟨rfl,svI (sucI Za),Zd⟩,rfl⟩,by dsimp only;omega⟩)⟩⟩
 . obtain rfl:i=4:=Za
   have hLS:=FS.lens Za
   refine⟨(S,(),G),rfl,rfl,hLS.1,λy2 hy2=>⟨ZX hy2.1.1 hy2.1.2,⟨⟨S,gS,y2.1,hR,hw,Za,y2.2.m,y2.2.c,y2.2.nn,y2.2.z,hy2.1,hy2.2,0,Yc _⟩,⟨rfl,rfl,rfl,rfl,rfl,Zd⟩,rfl⟩,?_⟩⟩
   clear hy2 hLS FS hS hR hw
   rintro⟨S,gS,G,hR,hw,hS,m,c,nn,f,hm,hz,j,hj⟩
   dsimp only
   have FS:=hR.f.fi
   have hLS:=FS.lens Za
   have e0 (j:Nat):0+(j:Int).toNat=j:=by rw[Zt,Nat.zero_add]
   rw[e0]
   refine Qp (λhlt=>?_) (λhge=>?_)
   . have hlt':j<S.hist.length:=Za
     have k0:f j 0=(S.hist.getD j Ev.nil).kind:=hz j hlt' 0 Zb
     have hc:=Qr9 hlt'
     have hcl:=callsN_le (S.hist.take j)
     rw[List.length_take]at hcl
     rw[k0]
     refine⟨⟨Za,hlt,Za⟩,Za,QU (λh1=>?_) (λh1=>?_)⟩
     . rw[Zf h1]at hc
       exact⟨⟨S,gS,G,hR,hw,hS,m,c,nn,f,hm,hz,j+1,hlt'⟩,⟨⟨rfl,svI (by show _=((Qei (S.hist.take (j+1)):Nat):Int);rw[hc];exact sucI Za),rfl,rfl,svI (sucI Za),Zd⟩,rfl⟩,by dsimp only;omega⟩
     . rw[Ze h1,Yl]at hc
       exact⟨⟨S,gS,G,hR,hw,hS,m,c,nn,f,hm,hz,j+1,hlt'⟩,⟨⟨rfl,svI (by show _=((Qei (S.hist.take (j+1)):Nat):Int);rw[hc,Yl]),rfl,rfl,svI (sucI Za),Zd⟩,rfl⟩,by dsimp only;omega⟩
   . have hjn:j=S.hist.length:=Za
     have hcn:Qei (S.hist.take j)=S.deeds.length:=by rw[hjn,List.take_length];exact (count4 hR).symm
     exact⟨(S,(),G),rfl,rfl,hLS.1,λy hy=>⟨(S,(),y.1),rfl,rfl,hLS.2,λy2 hy2=>⟨ftZ S.hist (S.deeds.map Vd.d) y.2 y2.2,ftZ_args S _ _ y.2 y2.2,rfl,ftZ_pre hR.f hw Za hy hy2,λ_ _=>⟨(S,(),y2.1),rfl,rfl,hLS.2,λy3 hy3=>⟨ZX hy3.1.1 hy3.1.2,svB (beq_iff_eq.2 (by dsimp only;omega))⟩⟩⟩⟩⟩
end Go.Proofs.YtnhoblgmlmodnaaGreatDoor
