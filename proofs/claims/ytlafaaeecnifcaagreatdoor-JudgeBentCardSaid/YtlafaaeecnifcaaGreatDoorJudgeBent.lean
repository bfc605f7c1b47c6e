/- JudgeBent: the walk of the law. -/
import Derived.Test.YtlafaaeecnifcaaGreatDoorZJ6
namespace Go.Proofs.YtlafaaeecnifcaaGreatDoor
open Dd renaming nil->ZR
open Int renaming toNat->Zh
open List renaming length->Zg,get?Internal->Zl,map->YN
open Nat renaming zero_add->Zu,beq->ZE,succ->Yg
open SA renaming c->Zt
open SB renaming cells->Zj,rows->Zk,abs->Yl
open SC renaming so->Zas,er->ZbB,fn->ZbC,p->ZcA,e->ZcB,s->ZcC,i->ZcD,o->ZcE,m->ZcF
open SV renaming o->ZG
open Seg renaming one->Yp
open ShS renaming z->Yv
open TellS renaming no->ZcY
open Value renaming int->ZA
open Vd renaming d->Zbq
open Go.RowKit
set_option linter.unusedVariables false
set_option maxRecDepth 100000
set_option maxHeartbeats 4000000
theorem bent_rows {z:Nat->Nat->Int}{l:List Dd}{n:Nat}{c v:Int}(h:IsR 6 Dd.at ZR z l):IsR 6 Dd.at ZR (updB z (0+n) 4 5 [c,v]) (Qb4 l n c v):=λi hi j hj=>by
 rw[Qow]at hi
 rw[Zu]
 by_cases e:i=n
 . subst e
   rw[QhX hi]
   by_cases h4:4<=j
   . rcases (show j=4\/j=5 by omega)with rfl|rfl
     . rw[QfC Zb Zb];rfl
     . rw[QfC Zb Zb];rfl
   . rw[QcW (.inl Za),h i hi j hj]
     rcases (show j=0\/j=1\/j=2\/j=3 by omega)with rfl|rfl|rfl|rfl<;>rfl
 . rw[Qg7 e,QdM e];exact h i hi j hj
def tabLz:Tab:=[(3,.one (.int .i64 0) (.int .i64)),
 (37,.one (.int .u64 0) (.int .u64)),
 (4,.one (.bool false) .bool),
 (28,.one (.pointer none) (.ptr 73)),
 (119,.str [.one (.v (.int .i64 0)),.one (.v (.int .i64 0)),.one (.v (.int .i64 0)),.one (.v (.int .i64 0)),.one (.v (.int .i64 0)),.one (.v (.int .i64 0)),.one (.v (.int .u64 0))] [(0,1,false),(1,1,false),(2,3,true),(5,1,false),(6,1,false)]),
 (22,.one (.slice none 0 0) (.slice 119)),
 (34,.str [.one (.v (.int .i64 0)),.one (.v (.int .i64 0)),.one (.v (.int .i64 0))] [(0,1,false),(1,1,false),(2,1,false)]),
 (24,.str [.one (.v (.int .i64 0)),.one (.v (.int .i64 0))] [(0,1,false),(1,1,false)]),
 (41,.one (.nilIface) .iface),
 (50,.one (.int .i64 0) (.int .i64)),
 (47,.str [.one (.v (.int .i64 0)),.one (.v (.int .i64 0)),.one (.v (.int .i64 0)),.one (.v (.int .i64 0)),.one (.v (.int .i64 0)),.one (.v (.int .i64 0)),.one (.v (.int .i64 0)),.one (.v (.int .i64 0)),.one (.v (.int .i64 0))] [(0,1,false),(1,1,false),(2,3,true),(5,2,true),(7,1,false),(8,1,false)]),
 (45,.one (.slice none 0 0) (.slice 47)),
 (36,.str [.one (.v (.int .i64 0)),.one (.v (.int .i64 0)),.one (.v (.int .i64 0)),.one (.v (.int .i64 0)),.one (.v (.int .i64 0)),.one (.v (.int .i64 0))] [(0,1,false),(1,3,true),(4,2,true)]),
 (30,.one (.slice none 0 0) (.slice 36)),
 (96,.arr [.ints (.int .u64) 32 (λ_=>0)] 32 1 false),
 (82,.str [.one (.v (.int .i64 0)),.one (.v (.int .i64 0))] [(0,1,false),(1,1,false)]),
 (80,.one (.pointer none) (.ptr 82)),
 (39,.arr [.ints (.int .u64) 17 (λ_=>0)] 17 1 false),
 (44,.one (.nilFunc) .func)]
theorem tabLz_ok:TabOk Tryz.prog tabLz:=.cons (⟨Zc,Zc,Zc,Zc,Zc⟩) (.cons (⟨Zc,Zc,Zc,Zc,Zc⟩) (.cons (⟨Zc,Zc,Zc,Zc,Zc⟩) (.cons (⟨Zc,Zc,Zc,Zc,Zc⟩) (.cons (⟨Zc,Zc,Zc,Zc⟩) (.cons (⟨Zc,Zc,Zc,Zc,Zc⟩) (.cons (⟨Zc,Zc,Zc,Zc⟩) (.cons (⟨Zc,Zc,Zc,Zc⟩) (.cons (⟨Zc,Zc,Zc,Zc,Zc⟩) (.cons (⟨Zc,Zc,Zc,Zc,Zc⟩) (.cons (⟨Zc,Zc,Zc,Zc⟩) (.cons (⟨Zc,Zc,Zc,Zc,Zc⟩) (.cons (⟨Zc,Zc,Zc,Zc⟩) (.cons (⟨Zc,Zc,Zc,Zc,Zc⟩) (.cons (⟨Zc,Zc,Zc,Zc⟩) (.cons (⟨Zc,Zc,Zc,Zc⟩) (.cons (⟨Zc,Zc,Zc,Zc,Zc⟩) (.cons (⟨Zc,Zc,Zc,Zc⟩) (.cons (⟨Zc,Zc,Zc,Zc,Zc⟩) (TabOk.nil _)))))))))))))))))))
theorem tabLz_tys:TysOk Tryz.prog tabLz:=TysOk.of Zc Zc
theorem walk_JudgeBent (a0:Int) (a1:Option Addr) (len1 cap1:Nat) (z1:Nat->Nat->Int) (a2:Int) (x3_0 x3_1:Int) (W:World) (hE:ErrType W) (w0:(Lit.int .i64 a0).wf=true) (w1:MvIn W a1 len1 cap1 z1) (w2:(Lit.int .i64 a2).wf=true):
 Calls Tryz.prog 3 #[.int .i64 a0,.slice a1 len1 cap1,.int .i64 a2,.agg #[.int .i64 x3_0,.int .i64 x3_1]] W λe w'=>e=.returned (.bool true)/\Below W.heap.size W w':=by
 refine QrA (AG:=[]) (Γ:=[(5,.pure QhK),(7,.inl Tryz.f7 (Tryz.f7.body.getD .skip)),(8,.pure Qgd),(9,.inl Tryz.f9 (Tryz.f9.body.getD .skip)),(29,.mem (QjE W)),(6,.pure QcM),(10,.mem ddsC.sh),(11,.pure QhL),(12,.mem QeP),(14,.mem hisC.sh),(13,.mem Qok),(16,.rd QhJ),(17,.mem (conFtN 13))]) Tryz.func3 rfl tabLz_ok tabLz_tys
  (.cons (shops_con W _) (.cons (⟨Zc,rfl,rfl⟩) (.cons (Qsq W _) (.cons (⟨Zc,rfl,rfl⟩) (.cons (play_con W) (.cons (Qsr W hE) (.cons (ddsH W _) (.cons (Qpq W _) (.cons (legB_con W _) (.cons (hisH W _) (.cons (heB_con W _) (.cons (Qo3 W hE) (.cons (ftN_con 13 W _) (.nil _ _ _))))))))))))))
  [.c (.v (.int .i64 a0)),.c (.r a1 len1 cap1 len1 7 mvK z1),.c (.v (.int .i64 a2)),.a [.one (.v (.int .i64 x3_0)),.one (.v (.int .i64 x3_1))]] (.bool true) 1200 rfl ?_ rfl
 refine Qk (q:=True/\True/\bif bif decide ((↑len1:Int)<=(120:Int))then false else true then ZG (aB true)=ZG (aB true)else True/\∃(s:PlS),[aI ((1:Int)+Qhg a0 (6:Int)),Zt (.r a1 len1 cap1 len1 7 (λ(j:Nat)=>bif ZE j 6 then .u64 else .i64) z1)]=[aI s.1,Zt (.r s.2 s.3 s.4 s.3 7 (λ(j:Nat)=>bif ZE j 6 then .u64 else .i64) s.5)]/\eN/\(((1:Int)<=s.1/\s.1<=(6:Int))/\s.3<=3000/\Rws 7 mvK W (PlS.a s) (PlS.n s) s.4 s.5/\∀(i:Nat),i<s.3->U64 (s.5 i 6))/\∀(x:List Nat),True->∃(s_1:Sh × Unit × List Nat),[aP 2 0]=[aP 2 0]/\[Yl (QD shM Yv ShS.good (XJ s.1 (mvL s.5 s.3))) x]=[Yl (QD shM Yv ShS.good s_1.1) s_1.2.2]/\Zg s_1.1.7<=1000000000/\∀(x:List Nat × RwR),(Zg s_1.1.7<=x.2.1/\x.2.1<=x.2.2)/\IsR 6 Dd.at ZR x.2.4 (YN (λ(self:Vd)=>self.2) s_1.1.7)->Zg s_1.1.7<=x.2.2/\bif (↑(Zg s_1.1.7):Int)==(0:Int)then ZG (aB true)=ZG (aB true)else Zg s_1.1.7<=x.2.2/\((0:Int)<(↑(Zg s_1.1.7):Int)/\(↑(Zg s_1.1.7):Int)<=(9223372036854775807:Int))/\((0:Int)<=Qhg a2 (↑(Zg s_1.1.7):Int)/\Qhg a2 (↑(Zg s_1.1.7):Int)<(↑(Zg s_1.1.7):Int)/\0+Zg s_1.1.7<=x.2.2)/\0+Zh (Qhg a2 (↑(Zg s_1.1.7):Int))<x.2.1/\dP Tryz.f3 13 4 [xE 6,xR 5 1,xR 4 3,xF 3 3,xF 2 3,xR 1 0,xF 0 3]/\bif bif x.2.4 (0+Zh (Qhg a2 (↑(Zg s_1.1.7):Int))) 4==x3_0 then bif x.2.4 (0+Zh (Qhg a2 (↑(Zg s_1.1.7):Int))) 5==x3_1 then true else false else false then ZG (aB true)=ZG (aB true)else ((0:Int)<=Qhg a2 (↑(Zg s_1.1.7):Int)/\Qhg a2 (↑(Zg s_1.1.7):Int)<(↑(Zg s_1.1.7):Int)/\0+Zg s_1.1.7<=x.2.2)/\0+Zh (Qhg a2 (↑(Zg s_1.1.7):Int))<x.2.1/\∃(s:LbS),[aI ((1:Int)+Qhg a0 (6:Int)),Zt (.so 3 0 6 (Zg s_1.1.7) x.2.2 x.2.3)]=[aI s.1,Zt (.so 3 0 6 (Zg s.2) s.5 s.6)]/\[Zk 36 kI6 6 x.2.1 x.2.2 λ(i j:Nat)=>bif match ZE i (0+Zh (Qhg a2 (↑(Zg s_1.1.7):Int)))with|false=>false|true=>match Nat.ble 4 j with|false=>false|true=>Nat.ble j 5 then match Zl [x3_0,x3_1] (match match match match j with|0=>0|Yg a=>a with|0=>0|Yg a=>a with|0=>0|Yg a=>a with|0=>0|Yg a=>a)with|some x=>x|none=>(0:Int)else x.2.4 i j]=[Zk 36 kI6 6 s.4 s.5 s.7]/\LbS.Ok s/\∀(x_1:Unit),True->∃(s_2:Sh × Unit × List Nat),[aP 2 0]=[aP 2 0]/\[Yl (QD shM Yv ShS.good s_1.1) x.1]=[Yl (QD shM Yv ShS.good s_2.1) s_2.2.2]/\Zg s_2.1.6<=1000000000/\∀(x_2:List Nat × RwR),(Zg s_2.1.6<=x_2.2.1/\x_2.2.1<=x_2.2.2)/\IsE x_2.2.4 s_2.1.6->∃(s_3:EvS Int),[Zt (.so 6 0 9 (Zg s_2.1.6) x_2.2.2 x_2.2.3),Zt (.fn 15 [(0,0)])]=[Zt (.so 6 0 9 (Zg s_3.1) s_3.3 s_3.4),Zt (.fn 15 [(0,0)])]/\[Zk 47 kI9 9 x_2.2.1 x_2.2.2 x_2.2.4,Zj [sI (Qhg a2 (↑(Zg s_1.1.7):Int))] 3]=[Zk 47 kI9 9 s_3.2 s_3.3 s_3.5,Zj [sI s_3.6] 3]/\((Zg s_3.1<=1000000000/\(Zg s_3.1<=s_3.2/\s_3.2<=s_3.3)/\IsE s_3.5 s_3.1)/\s_3.6+(1:Int)<=(9223372036854775807:Int)/\(-9223372036854775808:Int)<=s_3.6+(1:Int))/\∀(x_3:Unit),True->∃(s_4:TellS),[Zt (.i 80 4 0)]=YN (λ(x:SA)=>match x with|Zt x=>Zt (match x with|ZcA b off=>ZcA (match Zl [4] b with|some x=>x|none=>0) off|ZcB b off ix=>ZcB (match Zl [4] b with|some x=>x|none=>0) off ix|ZcC b off n c=>ZcC (match Zl [4] b with|some x=>x|none=>0) off n c|ZcD t b off=>ZcD t (match Zl [4] b with|some x=>x|none=>0) off|ZcE b n c=>ZcE (match Zl [4] b with|some x=>x|none=>0) n c|ZbB b sz ix g=>ZbB (match Zl [4] b with|some x=>x|none=>0) sz ix g|Zas b lo sz n c nn=>Zas (match Zl [4] b with|some x=>x|none=>0) lo sz n c nn|ZbC g cs=>ZbC g (YN (λ(q:Nat × Nat)=>(match Zl [4] q.1 with|some x=>x|none=>0,q.2)) cs)|ZcF b=>ZcF (match Zl [4] b with|some x=>x|none=>0)|x=>x)|SA.a l=>SA.a (YN (λ(x:Seg)=>match x with|Yp x=>Yp (match x with|ZcA b off=>ZcA (match Zl [4] b with|some x=>x|none=>0) off|ZcB b off ix=>ZcB (match Zl [4] b with|some x=>x|none=>0) off ix|ZcC b off n c=>ZcC (match Zl [4] b with|some x=>x|none=>0) off n c|ZcD t b off=>ZcD t (match Zl [4] b with|some x=>x|none=>0) off|ZcE b n c=>ZcE (match Zl [4] b with|some x=>x|none=>0) n c|ZbB b sz ix g=>ZbB (match Zl [4] b with|some x=>x|none=>0) sz ix g|Zas b lo sz n c nn=>Zas (match Zl [4] b with|some x=>x|none=>0) lo sz n c nn|ZbC g cs=>ZbC g (YN (λ(q:Nat × Nat)=>(match Zl [4] q.1 with|some x=>x|none=>0,q.2)) cs)|ZcF b=>ZcF (match Zl [4] b with|some x=>x|none=>0)|x=>x)|s=>s) l)) (match s_4 with|ZcY e=>[Zt (.v (.iface 50 (ZA .i64 e)))]|TellS.at e p=>[Zt (.i 80 0 0)])/\[Zj [sI 13,sI (↑s.3:Int)] 82]=YN (λ(x:SB)=>match x with|Zj l t=>Zj (YN (λ(x:Seg)=>match x with|Yp x=>Yp (match x with|ZcA b off=>ZcA (match Zl [4] b with|some x=>x|none=>0) off|ZcB b off ix=>ZcB (match Zl [4] b with|some x=>x|none=>0) off ix|ZcC b off n c=>ZcC (match Zl [4] b with|some x=>x|none=>0) off n c|ZcD t b off=>ZcD t (match Zl [4] b with|some x=>x|none=>0) off|ZcE b n c=>ZcE (match Zl [4] b with|some x=>x|none=>0) n c|ZbB b sz ix g=>ZbB (match Zl [4] b with|some x=>x|none=>0) sz ix g|Zas b lo sz n c nn=>Zas (match Zl [4] b with|some x=>x|none=>0) lo sz n c nn|ZbC g cs=>ZbC g (YN (λ(q:Nat × Nat)=>(match Zl [4] q.1 with|some x=>x|none=>0,q.2)) cs)|ZcF b=>ZcF (match Zl [4] b with|some x=>x|none=>0)|x=>x)|s=>s) l) t|b=>b) (match s_4 with|ZcY e=>[]|TellS.at e p=>[Zj [sI e,sI p] 82])/\True/\∀(x_4:Unit),True->bif (match s_4 with|ZcY e=>e|TellS.at e p=>e)==(13:Int)then bif bif hasE (Qby (s_3.6+(1:Int))) s_3.1 then false else true then ZG (aB true)=ZG (aB true)else ∃(s_5:Sh × Unit × List Nat),[aP 2 0]=[aP 2 0]/\[Yl (QD shM Yv ShS.good s_2.1) x_2.1]=[Yl (QD shM Yv ShS.good s_5.1) s_5.2.2]/\Zg s_5.1.6<=1000000000/\∀(x_5:List Nat × RwR),(Zg s_5.1.6<=x_5.2.1/\x_5.2.1<=x_5.2.2)/\IsE x_5.2.4 s_5.1.6->∃(s_6:FtS),[Zt (.so 7 0 9 (Zg s_5.1.6) x_5.2.2 x_5.2.3),Zt (.so 3 0 6 (Zg s_1.1.7) x.2.2 x.2.3)]=[Zt (.so 7 0 9 (Zg s_6.1) s_6.3 s_6.4),Zt (.so 3 0 6 (Zg s_6.6) s_6.8 s_6.9)]/\[Zk 47 kI9 9 x_5.2.1 x_5.2.2 x_5.2.4,Zk 36 kI6 6 s.4 s.5 s.7]=[Zk 47 kI9 9 s_6.2 s_6.3 s_6.5,Zk 36 kI6 6 s_6.7 s_6.8 s_6.10]/\((WfH s_6.1/\(Zg s_6.1<=1000000000/\(Zg s_6.1<=s_6.2/\s_6.2<=s_6.3)/\IsE s_6.5 s_6.1)/\Zg s_6.6<=10000000/\(Zg s_6.6<=s_6.7/\s_6.7<=s_6.8)/\IsR 6 Dd.at ZR s_6.10 s_6.6)/\fitC (Qg s_6.1) s_6.6=(13:Int)/\(13:Int)≠(0:Int))/\∀(x:Unit),True->∃(s:TellS),[Zt (.v (.iface 50 (ZA .i64 (13:Int))))]=YN (λ(x:SA)=>match x with|Zt x=>Zt (match x with|ZcA b off=>ZcA 0 off|ZcB b off ix=>ZcB 0 off ix|ZcC b off n c=>ZcC 0 off n c|ZcD t b off=>ZcD t 0 off|ZcE b n c=>ZcE 0 n c|ZbB b sz ix g=>ZbB 0 sz ix g|Zas b lo sz n c nn=>Zas 0 lo sz n c nn|ZbC g cs=>ZbC g (YN (λ(q:Nat × Nat)=>(0,q.2)) cs)|ZcF b=>ZcF 0|x=>x)|SA.a l=>SA.a (YN (λ(x:Seg)=>match x with|Yp x=>Yp (match x with|ZcA b off=>ZcA 0 off|ZcB b off ix=>ZcB 0 off ix|ZcC b off n c=>ZcC 0 off n c|ZcD t b off=>ZcD t 0 off|ZcE b n c=>ZcE 0 n c|ZbB b sz ix g=>ZbB 0 sz ix g|Zas b lo sz n c nn=>Zas 0 lo sz n c nn|ZbC g cs=>ZbC g (YN (λ(q:Nat × Nat)=>(0,q.2)) cs)|ZcF b=>ZcF 0|x=>x)|s=>s) l)) (match s with|ZcY e=>[Zt (.v (.iface 50 (ZA .i64 e)))]|TellS.at e p=>[Zt (.i 80 0 0)])/\[]=YN (λ(x:SB)=>match x with|Zj l t=>Zj (YN (λ(x:Seg)=>match x with|Yp x=>Yp (match x with|ZcA b off=>ZcA 0 off|ZcB b off ix=>ZcB 0 off ix|ZcC b off n c=>ZcC 0 off n c|ZcD t b off=>ZcD t 0 off|ZcE b n c=>ZcE 0 n c|ZbB b sz ix g=>ZbB 0 sz ix g|Zas b lo sz n c nn=>Zas 0 lo sz n c nn|ZbC g cs=>ZbC g (YN (λ(q:Nat × Nat)=>(0,q.2)) cs)|ZcF b=>ZcF 0|x=>x)|s=>s) l) t|b=>b) (match s with|ZcY e=>[]|TellS.at e p=>[Zj [sI e,sI p] 82])/\True/\∀(x:Unit),True->ZG (aB ((match s with|ZcY e=>e|TellS.at e p=>e)==(13:Int)))=ZG (aB true)else ZG (aB false)=ZG (aB true)) Zc ?_
 have k1:1<=1+Qhg a0 6:=by have:=QeX a0 6 Zb;omega
 have k6:1+Qhg a0 6<=6:=by have:=Qj8 a0 6 Zb;omega
 generalize 1+Qhg a0 6=K at k1 k6 ⊢
 refine⟨Zd,Zd,QjJ (λ_=>rfl) (λhh=>⟨Zd,⟨K,a1,len1,cap1,z1⟩,rfl,rfl,⟨⟨k1,k6⟩,(by show len1<=3000;omega),w1.1,w1.2⟩,λx _=>?_⟩)⟩
 obtain⟨g,F2,hs⟩:=QnV k1 k6 len1 (mvL z1 len1) (QrF z1 len1) Za
 have hs2:(XJ K (mvL z1 len1)).steps<=120000:=Za
 have F:=F2.fi
 have hL:=F.lens Za
 have hT:=F.steps0
 have hI:=F.i
 have hW:=QoZ k1 k6 len1 (mvL z1 len1) (QrF z1 len1) Za
 generalize XJ K (mvL z1 len1)=Z at *
 have hleg:=hI.gl.sumR.legal
 have hml:(Z.deeds.map Zbq).length=Z.deeds.length:=List.length_map _
 refine⟨(Z,(),x),rfl,rfl,hL.2,λy hy=>⟨Nat.le_trans hy.1.1 hy.1.2,QP (λ_=>rfl) (λh0=>?_)⟩⟩
 dsimp only
 have h0:(Z.deeds.length:Int)≠0:=h0
 have hL2:Z.deeds.length<=1000000000:=hL.2
 have hy1:Z.deeds.length<=y.2.m/\y.2.m<=y.2.c:=hy.1
 have hy2:IsR 6 Dd.at ZR y.2.z (Z.deeds.map Zbq):=hy.2
 have p0:=QeX a2 (Z.deeds.length:Int) Za
 have p1:=Qj8 a2 (Z.deeds.length:Int) Za
 generalize Qhg a2 (Z.deeds.length:Int)=q at *
 obtain⟨n,rfl⟩:=Int.eq_ofNat_of_zero_le p0
 rw[Int.toNat_natCast]
 have hn:n<Z.deeds.length:=Za
 have z4:y.2.z (0+n) 4=((Z.deeds.map Zbq).getD n ZR).c:=by rw[Zu];exact hy2 n Za 4 Zb
 have z5:y.2.z (0+n) 5=((Z.deeds.map Zbq).getD n ZR).v:=by rw[Zu];exact hy2 n Za 5 Zb
 rw[z4,z5]
 refine⟨Za,⟨Za,Za⟩,⟨Za,Za,Za⟩,Za,Qd Zc,QL (λ_=>rfl) (λhb=>?_)⟩
 have hne:¬(((Z.deeds.map Zbq).getD n ZR).c=x3_0/\((Z.deeds.map Zbq).getD n ZR).v=x3_1):=λh=>by
  rw[h.1,h.2,beq_iff_eq.2 (rfl:x3_0=x3_0),beq_iff_eq.2 (rfl:x3_1=x3_1)]at hb
  cases hb
 clear hb
 have hbl:(Qb4 (Z.deeds.map Zbq) n x3_0 x3_1).length=Z.deeds.length:=Qow.trans hml
 have hbr:=bent_rows (n:=n) (c:=x3_0) (v:=x3_1) hy2
 have hn':n<(Z.deeds.map Zbq).length:=Za
 have ok:LbS.Ok ⟨K,Qb4 (Z.deeds.map Zbq) n x3_0 x3_1,n,y.2.m,y.2.c,y.2.nn,updB y.2.z (0+n) 4 5 [x3_0,x3_1]⟩:=
  ⟨k1,k6,(by show n<Zg _;rw[hbl];exact hn),Qss hleg hn',bent_op hleg hn',bent_no hleg hn' hne,(by show Zg _<=_;rw[hbl];exact hL.2),(by show Zg _<=_/\_;rw[hbl];exact hy1),IsD.of_rows hbr⟩
 refine⟨⟨Za,Za,Za⟩,Za,⟨K,Qb4 (Z.deeds.map Zbq) n x3_0 x3_1,n,y.2.m,y.2.c,y.2.nn,updB y.2.z (0+n) 4 5 [x3_0,x3_1]⟩,congrArg (λq=>[Zt (SC.v (.int .i64 K)),Zt (Zas 3 0 6 q y.2.c y.2.nn)]) hbl.symm,Zc,ok,λ_ _=>⟨(Z,(),y.1),rfl,rfl,hL.1,λy2 hy3=>⟨⟨Z.hist,y2.2.m,y2.2.c,y2.2.nn,y2.2.z,(n:Int)⟩,rfl,rfl,⟨⟨hL.1,hy3.1,hy3.2⟩,(by show (n:Int)+1<=_;omega),(by show _<=(n:Int)+1;omega)⟩,λ_ _=>⟨TellS.at 13 n,rfl,rfl,Zd,λ_ _=>QP (λ_=>Xn (λ_=>rfl) (λhh=>?_)) (λh=>absurd rfl h)⟩⟩⟩⟩
 obtain⟨j,hj,hp⟩:=hasE_t hh
 have hp:((Z.hist.getD j Ev.nil).kind==2&&(Z.hist.getD j Ev.nil).whn==(n:Int)+1)=true:=hp
 rw[Bool.and_eq_true,beq_iff_eq,beq_iff_eq]at hp
 have hfit:=bent_fit F2 hW hn hne hj hp.1 hp.2
 have hcb:=F2.f.1.gl.cb
 refine⟨(Z,(),y2.1),rfl,rfl,hL.1,λy3 hy4=>⟨⟨Z.hist,y3.2.m,y3.2.c,y3.2.nn,y3.2.z,Qb4 (Z.deeds.map Zbq) n x3_0 x3_1,y.2.m,y.2.c,y.2.nn,updB y.2.z (0+n) 4 5 [x3_0,x3_1]⟩,congrArg (λq=>[Zt (Zas 7 0 9 Z.hist.length y3.2.c y3.2.nn),Zt (Zas 3 0 6 q y.2.c y.2.nn)]) hbl.symm,rfl,⟨⟨hW,⟨hL.1,hy4.1,hy4.2⟩,(by show Zg _<=_;rw[hbl];omega),(by show Zg _<=_/\_;rw[hbl];exact hy1),hbr⟩,hfit,Zb⟩,λ_ _=>⟨ZcY 13,rfl,rfl,Zd,λ_ _=>rfl⟩⟩⟩
end Go.Proofs.YtlafaaeecnifcaaGreatDoor
