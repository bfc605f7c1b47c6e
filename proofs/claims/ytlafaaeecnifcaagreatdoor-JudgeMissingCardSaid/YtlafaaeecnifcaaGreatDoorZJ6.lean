/- What the proof leans on, gathered. -/
import Derived.Test.YtlafaaeecnifcaaGreatDoorProg
import Derived.WalkKit
import Derived.LaidEql
import Derived.Stop.Asserts
import Derived.RowKitTokens
import Derived.Test.YtlafaaeecnifcaaGreatDoorZJ5
namespace Go.Proofs.YtlafaaeecnifcaaGreatDoor
open Cl renaming nil->YZ
open Con renaming mem->ZH
open Dd renaming nil->ZR
open Ending renaming returned->ZaN
open Ev renaming nil->YU
open Go renaming method->Zdp
open Instr renaming typeAssert->Zd3
open Int renaming toNat->Zh,toNat_natCast->Zv
open IntKind renaming wrap->Zi
open List renaming length->Zg,get?Internal->Zl,getD_eq_getElem?_getD->Zp,length_append->Zw,length_map->ZN,take_length->Yt,map->YN
open List.Pairwise renaming nil->Zal
open Nat renaming le_refl->Zq,zero_add->Zu,beq->ZE,ble->ZL,not_lt_zero->ZP,le_trans->ZV,zero_le->Z9,succ->Yg,lt_or_ge->Yy,eq_zero_or_pos->Yz,ne_of_lt->ZbH
open Prod renaming snd->Yx
open Result renaming andThen->ZbA
open SA renaming c->Zt,a->Zz
open SB renaming cells->Zj,rows->Zk
open SC renaming so->Zas,er->ZbB,fn->ZbC,v->ZbP,p->ZcA,e->ZcB,s->ZcC,i->ZcD,o->ZcE,m->ZcF
open SV renaming o->ZG,t->ZS
open Seg renaming one->Yp
open Sem renaming run_bind->Zx
open Value renaming int->ZA,nilIface->ZM
open Vd renaming nil->ZaA
open World renaming cell?_alloc_lt->Z3,frozen?_alloc_old->Y6,cell?->ZaT,cell?_alloc_at->Zdn
open _root_.Array renaming getElem?_eq_none->ZaS
set_option linter.unusedVariables false
set_option maxRecDepth 100000
set_option maxHeartbeats 8000000
section
open Go.RowKit
structure FtS where
 h:List Ev
 mh:Nat
 ch:Nat
 nh:Bool
 zh:Nat->Nat->Int
 l:List Dd
 ml:Nat
 cl:Nat
 nl:Bool
 zl:Nat->Nat->Int
def errV (c:Int):Value:=if c=0 then .nilIface else .iface 50 (.int .i64 c)
def Qcu:MCon:=dcon FtS (λs=>WfH s.h/\(s.h.length<=1000000000/\(s.h.length<=s.mh/\s.mh<=s.ch)/\IsE s.zh s.h)/\s.l.length<=10000000/\(s.l.length<=s.ml/\s.ml<=s.cl)/\IsR 6 Dd.at ZR s.zl s.l)
 (λs=>[.c (.so 0 0 9 s.h.length s.ch s.nh),.c (.so 1 0 6 s.l.length s.cl s.nl)]) (λs=>[Qbo s.mh s.ch s.zh,Qdl s.ml s.cl s.zl]) (λs=>.o (.c (.v (errV (fitC (Qg s.h) s.l))))) (λs=>[Qbo s.mh s.ch s.zh,Qdl s.ml s.cl s.zl]) 2 (λargs _=>match args with
 |[.c (.so b _ _ _ _ _),.c (.so d _ _ _ _ _)]=>some [b,d]
 |_=>none)
structure FtC (s:FtS) where
 mc:Nat
 cc:Nat
 nc:Bool
 fc:Nat->Nat->Int
 fo:Nat->Nat->Int
 hc:(Qg s.h).length<=mc/\mc<=cc
 hf:IsC fc (Qg s.h)
 hb:∀j,j<s.l.length->0<=fo j 0/\fo j 0<=((Qg s.h).length:Int)
abbrev FtC.of {s:FtS}(x:FtC s):Nat->Int:=λj=>x.fo j 0
abbrev FtC.mem {s:FtS}(x:FtC s):List SB:=[Qbo s.mh s.ch s.zh,Qdl s.ml s.cl s.zl,Qla x.mc x.cc x.fc,Qph s.l.length s.l.length x.fo]
abbrev FtC.cs {s:FtS}(x:FtC s):SV:=.o (.c (.so 2 0 9 (Qg s.h).length x.cc x.nc))
abbrev FtC.ofs {s:FtS}(x:FtC s):SV:=.o (.c (.so 3 0 1 s.l.length s.l.length true))
abbrev FtS.dl (s:FtS):SV:=.o (.c (.so 1 0 6 s.l.length s.cl s.nl))
structure Ft0 (s:FtS) where
 x:FtC s
 i:Nat
 hi:i<=(Qg s.h).length
 he:cont1 (Qg s.h) s.l ((Qg s.h).length-i) i x.of=fitC (Qg s.h) s.l
def Qq2 (s:FtS):Ann where
 σ:=Ft0 s
 I g:=([(1,s.dl),(5,g.x.cs),(7,g.x.ofs),(29,g.x.cs),(30,sv (.int .i64 (Qg s.h).length)),(31,sv (.int .i64 g.i))],g.x.mem)
 dec g:=(Qg s.h).length-g.i
 pi env _:=[0,1,blkE env 5,blkE env 7]
 nz:=[]
structure Ft2 (s:FtS) where
 x:FtC s
 k:Nat
 hk:k<=s.l.length
 hp:∀j,j<k->1<=x.fo j 0
 he:QhI (Qg s.h) s.l (s.l.length-k) k x.of=fitC (Qg s.h) s.l
def Qq1 (s:FtS):Ann where
 σ:=Ft2 s
 I g:=([(1,s.dl),(5,g.x.cs),(7,g.x.ofs),(92,s.dl),(93,sv (.int .i64 s.l.length)),(94,sv (.int .i64 g.k))],g.x.mem)
 dec g:=s.l.length-g.k
 pi env _:=[0,1,blkE env 5,blkE env 7]
 nz:=[]
structure Ft4 (s:FtS) where
 x:FtC s
 k:Nat
 hk:k<=s.l.length
 hp:∀j,j<s.l.length->1<=x.fo j 0
 he:Qog (Qg s.h) x.of (s.l.length-k) k=fitC (Qg s.h) s.l
def Qq0 (s:FtS):Ann where
 σ:=Ft4 s
 I g:=([(5,g.x.cs),(7,g.x.ofs),(123,sv (.int .i64 s.l.length)),(124,sv (.int .i64 g.k))],g.x.mem)
 dec g:=s.l.length-g.k
 pi env _:=[0,1,blkE env 5,blkE env 7]
 nz:=[]
structure Ft6 (s:FtS) where
 x:FtC s
 k:Nat
 j:Nat
 hk:k<s.l.length
 hj:j<=k
 hp:∀j,j<s.l.length->1<=x.fo j 0
 he:Qog (Qg s.h) x.of (s.l.length-k) k=fitC (Qg s.h) s.l
 h4:Qgx (Qg s.h) x.of k (k-j) j=Qgx (Qg s.h) x.of k k 0
def annFt6 (s:FtS):Ann where
 σ:=Ft6 s
 I g:=([(5,g.x.cs),(7,g.x.ofs),(14,sv (.int .i64 g.k)),(127,sv (.int .i64 g.k)),(128,sv (.int .i64 g.j)),(123,sv (.int .i64 s.l.length)),(124,sv (.int .i64 g.k))],g.x.mem)
 dec g:=g.k-g.j
 pi env _:=[0,1,blkE env 5,blkE env 7]
 nz:=[]
 rel:=some λs0 s=>s.k=s0.k
theorem Qcl {c e:Int}(h:c=e) (h2:e≠0):ZG (Zt (ZbP (.iface 50 (.int .i64 e))))=ZG (Zt (ZbP (errV c))):=by
 subst h;unfold errV;rw[Ze h2]
theorem b3 {a b c d e f:Int}:(bif a==b then bif c==d then bif e==f then true else false else false else false)=true↔a=b/\c=d/\e=f:=by
 by_cases h1:a=b<;>by_cases h2:c=d<;>by_cases h3:e=f<;>simp[h1,h2,h3]
theorem b2 {a b c d:Int}:(bif a==b then bif c==d then true else false else false)=true↔a=b/\c=d:=by
 by_cases h1:a=b<;>by_cases h2:c=d<;>simp[h1,h2]
theorem upd1 {fo:Nat->Nat->Int}{n:Nat}{a b:Int}(h:a=b):(λq=>updB fo n 0 0 [a] q 0)=putF (λq=>fo q 0) n b:=by
 subst h
 funext q
 by_cases e:q=n
 . subst e;rw[QfC (Zq _) (Zq _),QY];rfl
 . rw[Qg7 e,Qs _ _ e]
theorem QnZ {cs:List Cl}{d:Dd}{m:Nat}:∀(n i:Nat),fidx cs d n i=some m->m<i+n
 |0,i,h=>by cases h
 |n+1,i,h=>by
  unfold fidx at h
  split at h
  . injection h with h;omega
  . have:=QnZ n (i+1) h;omega
theorem QnM:(ZH Qcu).holds Tryz.prog 17:=by
 intro w0 S
 refine Qa (Γ:=[(34,.mem Qe7),(35,.mem QiQ),(37,.mem QiR)]) (λ_=>noW) Tryz.func17 rfl Zc Qf Qc (λw S' _ _=>.cons (Qr4 w S') (.cons (QrI w S') (.cons (QrM w S') (.nil _ _ _)))) Qcu (λs=>[(17,[(0,Qq2 s),(2,Qq1 s),(4,Qq0 s),(6,annFt6 s)])]) (λx0 h s x=>⟨rfl,Zd⟩) (λs ρ w _ _ _=>Qj w _) [] (Qi 2) 900 ?_
 rintro⟨h,mh,ch,nh,zh,l,ml,cl,nl,zl⟩ w ⟨hw,⟨hl,hm,hz⟩,hl2,hm2,hz2⟩ -
 refine⟨rfl,?_⟩
 dsimp only at hw hl hm hz hl2 hm2 hz2
 refine Qk (q:=∃(s:ClsS),[Zt (.so 0 0 9 (Zg h) ch nh)]=[Zt (.so 0 0 9 (Zg s.1) s.3 s.4)]/\[Zk 47 kI9 9 mh ch zh]=[Zk 47 kI9 9 s.2 s.3 s.5]/\(WfH s.1/\Zg s.1<=1000000000/\(Zg s.1<=s.2/\s.2<=s.3)/\IsE s.5 s.1)/\∀(x:ClsR),(Zg (Qg s.1)<=x.1/\x.1<=x.2)/\IsC x.4 (Qg s.1)->Zg l<=cl/\((0:Int)<=(↑(Zg l):Int)/\(↑(Zg l):Int)=(↑(Zg l):Int)/\(↑(Zg l):Int)<=(68719476736:Int))/\Zg (Qg s.1)<=x.2/\(∃(s0:Ann.σ (Qq2 (FtS.mk h mh ch nh zh l ml cl nl zl))),(eS (Zt (.so 1 0 6 (Zg l) cl nl)) (Zt (.so 1 0 6 (Zg l) cl nl))/\eS (Zt (.so 2 0 9 (Zg (Qg s.1)) x.2 x.3)) (Zt (.so 2 0 9 (Zg (Qg h)) (Ft0.x s0).2 (Ft0.x s0).3))/\eS (Zt (.so 3 0 1 (Zh (↑(Zg l):Int)) (Zh (↑(Zg l):Int)) true)) (Zt (.so 3 0 1 (Zg l) (Zg l) true))/\eS (Zt (.so 2 0 9 (Zg (Qg s.1)) x.2 x.3)) (Zt (.so 2 0 9 (Zg (Qg h)) (Ft0.x s0).2 (Ft0.x s0).3))/\eS (aI (↑(Zg (Qg s.1)):Int)) (aI (↑(Zg (Qg h)):Int))/\eS (aI 0) (aI ↑s0.2)/\True)/\[Zk 47 kI9 9 s.2 s.3 s.5,Zk 36 kI6 6 ml cl zl,Zk 91 kI9 9 x.1 x.2 x.4,Zk 3 [.int .i64] 1 (Zh (↑(Zg l):Int)) (Zh (↑(Zg l):Int)) λ(x x_1:Nat)=>(0:Int)]=[Zk 47 kI9 9 mh ch zh,Zk 36 kI6 6 ml cl zl,Zk 91 kI9 9 (Ft0.x s0).1 (Ft0.x s0).2 (Ft0.x s0).4,Zk 3 [.int .i64] 1 (Zg l) (Zg l) (Ft0.x s0).5])/\∀(s:Ft0 (FtS.mk h mh ch nh zh l ml cl nl zl)),bif decide ((↑s.2:Int)<(↑(Zg (Qg h)):Int))then ((0:Int)<=(↑s.2:Int)/\(↑s.2:Int)<(↑(Zg (Qg h)):Int)/\0+Zg (Qg h)<=(Ft0.x s).2)/\0+Zh (↑s.2:Int)<(Ft0.x s).1/\bif (Ft0.x s).4 (0+Zh (↑s.2:Int)) 5==(0:Int)then ∃(s':Ft0 (FtS.mk h mh ch nh zh l ml cl nl zl)),((eS (Zt (.so 1 0 6 (Zg l) cl nl)) (Zt (.so 1 0 6 (Zg l) cl nl))/\eS (Zt (.so 2 0 9 (Zg (Qg h)) (Ft0.x s).2 (Ft0.x s).3)) (Zt (.so 2 0 9 (Zg (Qg h)) (Ft0.x s').2 (Ft0.x s').3))/\eS (Zt (.so 3 0 1 (Zg l) (Zg l) true)) (Zt (.so 3 0 1 (Zg l) (Zg l) true))/\eS (Zt (.so 2 0 9 (Zg (Qg h)) (Ft0.x s).2 (Ft0.x s).3)) (Zt (.so 2 0 9 (Zg (Qg h)) (Ft0.x s').2 (Ft0.x s').3))/\eS (aI (↑(Zg (Qg h)):Int)) (aI (↑(Zg (Qg h)):Int))/\eS (aI (Zi .i64 ((↑s.2:Int)+(1:Int)))) (aI ↑s'.2)/\True)/\[Zk 47 kI9 9 mh ch zh,Zk 36 kI6 6 ml cl zl,Zk 91 kI9 9 (Ft0.x s).1 (Ft0.x s).2 (Ft0.x s).4,Zk 3 [.int .i64] 1 (Zg l) (Zg l) (Ft0.x s).5]=[Zk 47 kI9 9 mh ch zh,Zk 36 kI6 6 ml cl zl,Zk 91 kI9 9 (Ft0.x s').1 (Ft0.x s').2 (Ft0.x s').4,Zk 3 [.int .i64] 1 (Zg l) (Zg l) (Ft0.x s').5])/\Zg (Qg h)-s'.2<Zg (Qg h)-s.2 else bif decide ((Ft0.x s).4 (0+Zh (↑s.2:Int)) 6<(1:Int))then endN Qcu [] (Qi 2) (FtS.mk h mh ch nh zh l ml cl nl zl) (ZG (Zt (.v (.iface 50 (ZA .i64 (7:Int)))))) [Zk 47 kI9 9 mh ch zh,Zk 36 kI6 6 ml cl zl,Zk 91 kI9 9 (Ft0.x s).1 (Ft0.x s).2 (Ft0.x s).4,Zk 3 [.int .i64] 1 (Zg l) (Zg l) (Ft0.x s).5,Zj [sI ((Ft0.x s).4 (0+Zh (↑s.2:Int)) 0),sI ((Ft0.x s).4 (0+Zh (↑s.2:Int)) 1),sI ((Ft0.x s).4 (0+Zh (↑s.2:Int)) 2),sI ((Ft0.x s).4 (0+Zh (↑s.2:Int)) 3),sI ((Ft0.x s).4 (0+Zh (↑s.2:Int)) 4),sI ((Ft0.x s).4 (0+Zh (↑s.2:Int)) 5),sI ((Ft0.x s).4 (0+Zh (↑s.2:Int)) 6),sI ((Ft0.x s).4 (0+Zh (↑s.2:Int)) 7),sI ((Ft0.x s).4 (0+Zh (↑s.2:Int)) 8)] 91]else Zg l<=cl/\bif decide ((Ft0.x s).4 (0+Zh (↑s.2:Int)) 6>(↑(Zg l):Int))then endN Qcu [] (Qi 2) (FtS.mk h mh ch nh zh l ml cl nl zl) (ZG (Zt (.v (.iface 50 (ZA .i64 (7:Int)))))) [Zk 47 kI9 9 mh ch zh,Zk 36 kI6 6 ml cl zl,Zk 91 kI9 9 (Ft0.x s).1 (Ft0.x s).2 (Ft0.x s).4,Zk 3 [.int .i64] 1 (Zg l) (Zg l) (Ft0.x s).5,Zj [sI ((Ft0.x s).4 (0+Zh (↑s.2:Int)) 0),sI ((Ft0.x s).4 (0+Zh (↑s.2:Int)) 1),sI ((Ft0.x s).4 (0+Zh (↑s.2:Int)) 2),sI ((Ft0.x s).4 (0+Zh (↑s.2:Int)) 3),sI ((Ft0.x s).4 (0+Zh (↑s.2:Int)) 4),sI ((Ft0.x s).4 (0+Zh (↑s.2:Int)) 5),sI ((Ft0.x s).4 (0+Zh (↑s.2:Int)) 6),sI ((Ft0.x s).4 (0+Zh (↑s.2:Int)) 7),sI ((Ft0.x s).4 (0+Zh (↑s.2:Int)) 8)] 91]else ((0:Int)<=Zi .i64 ((Ft0.x s).4 (0+Zh (↑s.2:Int)) 6-(1:Int))/\Zi .i64 ((Ft0.x s).4 (0+Zh (↑s.2:Int)) 6-(1:Int))<(↑(Zg l):Int)/\0+Zg l<=cl)/\0+Zh (Zi .i64 ((Ft0.x s).4 (0+Zh (↑s.2:Int)) 6-(1:Int)))<ml/\bif zl (0+Zh (Zi .i64 ((Ft0.x s).4 (0+Zh (↑s.2:Int)) 6-(1:Int)))) 0 != (Ft0.x s).4 (0+Zh (↑s.2:Int)) 0 then endN Qcu [] (Qi 2) (FtS.mk h mh ch nh zh l ml cl nl zl) (ZG (Zt (.v (.iface 50 (ZA .i64 (13:Int)))))) [Zk 47 kI9 9 mh ch zh,Zk 36 kI6 6 ml cl zl,Zk 91 kI9 9 (Ft0.x s).1 (Ft0.x s).2 (Ft0.x s).4,Zk 3 [.int .i64] 1 (Zg l) (Zg l) (Ft0.x s).5,Zj [sI ((Ft0.x s).4 (0+Zh (↑s.2:Int)) 0),sI ((Ft0.x s).4 (0+Zh (↑s.2:Int)) 1),sI ((Ft0.x s).4 (0+Zh (↑s.2:Int)) 2),sI ((Ft0.x s).4 (0+Zh (↑s.2:Int)) 3),sI ((Ft0.x s).4 (0+Zh (↑s.2:Int)) 4),sI ((Ft0.x s).4 (0+Zh (↑s.2:Int)) 5),sI ((Ft0.x s).4 (0+Zh (↑s.2:Int)) 6),sI ((Ft0.x s).4 (0+Zh (↑s.2:Int)) 7),sI ((Ft0.x s).4 (0+Zh (↑s.2:Int)) 8)] 91,Zj [sI (zl (0+Zh (Zi .i64 ((Ft0.x s).4 (0+Zh (↑s.2:Int)) 6-(1:Int)))) 0),sI (zl (0+Zh (Zi .i64 ((Ft0.x s).4 (0+Zh (↑s.2:Int)) 6-(1:Int)))) 1),sI (zl (0+Zh (Zi .i64 ((Ft0.x s).4 (0+Zh (↑s.2:Int)) 6-(1:Int)))) 2),sI (zl (0+Zh (Zi .i64 ((Ft0.x s).4 (0+Zh (↑s.2:Int)) 6-(1:Int)))) 3),sI (zl (0+Zh (Zi .i64 ((Ft0.x s).4 (0+Zh (↑s.2:Int)) 6-(1:Int)))) 4),sI (zl (0+Zh (Zi .i64 ((Ft0.x s).4 (0+Zh (↑s.2:Int)) 6-(1:Int)))) 5)] 36]else bif bif bif zl (0+Zh (Zi .i64 ((Ft0.x s).4 (0+Zh (↑s.2:Int)) 6-(1:Int)))) 1==(Ft0.x s).4 (0+Zh (↑s.2:Int)) 1 then bif zl (0+Zh (Zi .i64 ((Ft0.x s).4 (0+Zh (↑s.2:Int)) 6-(1:Int)))) 2==(Ft0.x s).4 (0+Zh (↑s.2:Int)) 2 then bif zl (0+Zh (Zi .i64 ((Ft0.x s).4 (0+Zh (↑s.2:Int)) 6-(1:Int)))) 3==(Ft0.x s).4 (0+Zh (↑s.2:Int)) 3 then true else false else false else false then false else true then endN Qcu [] (Qi 2) (FtS.mk h mh ch nh zh l ml cl nl zl) (ZG (Zt (.v (.iface 50 (ZA .i64 (13:Int)))))) [Zk 47 kI9 9 mh ch zh,Zk 36 kI6 6 ml cl zl,Zk 91 kI9 9 (Ft0.x s).1 (Ft0.x s).2 (Ft0.x s).4,Zk 3 [.int .i64] 1 (Zg l) (Zg l) (Ft0.x s).5,Zj [sI ((Ft0.x s).4 (0+Zh (↑s.2:Int)) 0),sI ((Ft0.x s).4 (0+Zh (↑s.2:Int)) 1),sI ((Ft0.x s).4 (0+Zh (↑s.2:Int)) 2),sI ((Ft0.x s).4 (0+Zh (↑s.2:Int)) 3),sI ((Ft0.x s).4 (0+Zh (↑s.2:Int)) 4),sI ((Ft0.x s).4 (0+Zh (↑s.2:Int)) 5),sI ((Ft0.x s).4 (0+Zh (↑s.2:Int)) 6),sI ((Ft0.x s).4 (0+Zh (↑s.2:Int)) 7),sI ((Ft0.x s).4 (0+Zh (↑s.2:Int)) 8)] 91,Zj [sI (zl (0+Zh (Zi .i64 ((Ft0.x s).4 (0+Zh (↑s.2:Int)) 6-(1:Int)))) 0),sI (zl (0+Zh (Zi .i64 ((Ft0.x s).4 (0+Zh (↑s.2:Int)) 6-(1:Int)))) 1),sI (zl (0+Zh (Zi .i64 ((Ft0.x s).4 (0+Zh (↑s.2:Int)) 6-(1:Int)))) 2),sI (zl (0+Zh (Zi .i64 ((Ft0.x s).4 (0+Zh (↑s.2:Int)) 6-(1:Int)))) 3),sI (zl (0+Zh (Zi .i64 ((Ft0.x s).4 (0+Zh (↑s.2:Int)) 6-(1:Int)))) 4),sI (zl (0+Zh (Zi .i64 ((Ft0.x s).4 (0+Zh (↑s.2:Int)) 6-(1:Int)))) 5)] 36]else bif bif bif zl (0+Zh (Zi .i64 ((Ft0.x s).4 (0+Zh (↑s.2:Int)) 6-(1:Int)))) 4==(Ft0.x s).4 (0+Zh (↑s.2:Int)) 7 then bif zl (0+Zh (Zi .i64 ((Ft0.x s).4 (0+Zh (↑s.2:Int)) 6-(1:Int)))) 5==(Ft0.x s).4 (0+Zh (↑s.2:Int)) 8 then true else false else false then false else true then endN Qcu [] (Qi 2) (FtS.mk h mh ch nh zh l ml cl nl zl) (ZG (Zt (.v (.iface 50 (ZA .i64 (13:Int)))))) [Zk 47 kI9 9 mh ch zh,Zk 36 kI6 6 ml cl zl,Zk 91 kI9 9 (Ft0.x s).1 (Ft0.x s).2 (Ft0.x s).4,Zk 3 [.int .i64] 1 (Zg l) (Zg l) (Ft0.x s).5,Zj [sI ((Ft0.x s).4 (0+Zh (↑s.2:Int)) 0),sI ((Ft0.x s).4 (0+Zh (↑s.2:Int)) 1),sI ((Ft0.x s).4 (0+Zh (↑s.2:Int)) 2),sI ((Ft0.x s).4 (0+Zh (↑s.2:Int)) 3),sI ((Ft0.x s).4 (0+Zh (↑s.2:Int)) 4),sI ((Ft0.x s).4 (0+Zh (↑s.2:Int)) 5),sI ((Ft0.x s).4 (0+Zh (↑s.2:Int)) 6),sI ((Ft0.x s).4 (0+Zh (↑s.2:Int)) 7),sI ((Ft0.x s).4 (0+Zh (↑s.2:Int)) 8)] 91,Zj [sI (zl (0+Zh (Zi .i64 ((Ft0.x s).4 (0+Zh (↑s.2:Int)) 6-(1:Int)))) 0),sI (zl (0+Zh (Zi .i64 ((Ft0.x s).4 (0+Zh (↑s.2:Int)) 6-(1:Int)))) 1),sI (zl (0+Zh (Zi .i64 ((Ft0.x s).4 (0+Zh (↑s.2:Int)) 6-(1:Int)))) 2),sI (zl (0+Zh (Zi .i64 ((Ft0.x s).4 (0+Zh (↑s.2:Int)) 6-(1:Int)))) 3),sI (zl (0+Zh (Zi .i64 ((Ft0.x s).4 (0+Zh (↑s.2:Int)) 6-(1:Int)))) 4),sI (zl (0+Zh (Zi .i64 ((Ft0.x s).4 (0+Zh (↑s.2:Int)) 6-(1:Int)))) 5)] 36]else ((0:Int)<=Zi .i64 ((Ft0.x s).4 (0+Zh (↑s.2:Int)) 6-(1:Int))/\Zi .i64 ((Ft0.x s).4 (0+Zh (↑s.2:Int)) 6-(1:Int))<(↑(Zg l):Int)/\0+Zg l<=Zg l)/\0+Zh (Zi .i64 ((Ft0.x s).4 (0+Zh (↑s.2:Int)) 6-(1:Int)))<Zg l/\bif decide ((Ft0.x s).5 (0+Zh (Zi .i64 ((Ft0.x s).4 (0+Zh (↑s.2:Int)) 6-(1:Int)))) 0>(0:Int))then endN Qcu [] (Qi 2) (FtS.mk h mh ch nh zh l ml cl nl zl) (ZG (Zt (.v (.iface 50 (ZA .i64 (9:Int)))))) [Zk 47 kI9 9 mh ch zh,Zk 36 kI6 6 ml cl zl,Zk 91 kI9 9 (Ft0.x s).1 (Ft0.x s).2 (Ft0.x s).4,Zk 3 [.int .i64] 1 (Zg l) (Zg l) (Ft0.x s).5,Zj [sI ((Ft0.x s).4 (0+Zh (↑s.2:Int)) 0),sI ((Ft0.x s).4 (0+Zh (↑s.2:Int)) 1),sI ((Ft0.x s).4 (0+Zh (↑s.2:Int)) 2),sI ((Ft0.x s).4 (0+Zh (↑s.2:Int)) 3),sI ((Ft0.x s).4 (0+Zh (↑s.2:Int)) 4),sI ((Ft0.x s).4 (0+Zh (↑s.2:Int)) 5),sI ((Ft0.x s).4 (0+Zh (↑s.2:Int)) 6),sI ((Ft0.x s).4 (0+Zh (↑s.2:Int)) 7),sI ((Ft0.x s).4 (0+Zh (↑s.2:Int)) 8)] 91,Zj [sI (zl (0+Zh (Zi .i64 ((Ft0.x s).4 (0+Zh (↑s.2:Int)) 6-(1:Int)))) 0),sI (zl (0+Zh (Zi .i64 ((Ft0.x s).4 (0+Zh (↑s.2:Int)) 6-(1:Int)))) 1),sI (zl (0+Zh (Zi .i64 ((Ft0.x s).4 (0+Zh (↑s.2:Int)) 6-(1:Int)))) 2),sI (zl (0+Zh (Zi .i64 ((Ft0.x s).4 (0+Zh (↑s.2:Int)) 6-(1:Int)))) 3),sI (zl (0+Zh (Zi .i64 ((Ft0.x s).4 (0+Zh (↑s.2:Int)) 6-(1:Int)))) 4),sI (zl (0+Zh (Zi .i64 ((Ft0.x s).4 (0+Zh (↑s.2:Int)) 6-(1:Int)))) 5)] 36]else ((0:Int)<=Zi .i64 ((Ft0.x s).4 (0+Zh (↑s.2:Int)) 6-(1:Int))/\Zi .i64 ((Ft0.x s).4 (0+Zh (↑s.2:Int)) 6-(1:Int))<(↑(Zg l):Int)/\0+Zg l<=Zg l)/\0+Zh (Zi .i64 ((Ft0.x s).4 (0+Zh (↑s.2:Int)) 6-(1:Int)))<Zg l/\∃(s':Ft0 (FtS.mk h mh ch nh zh l ml cl nl zl)),((eS (Zt (.so 1 0 6 (Zg l) cl nl)) (Zt (.so 1 0 6 (Zg l) cl nl))/\eS (Zt (.so 2 0 9 (Zg (Qg h)) (Ft0.x s).2 (Ft0.x s).3)) (Zt (.so 2 0 9 (Zg (Qg h)) (Ft0.x s').2 (Ft0.x s').3))/\eS (Zt (.so 3 0 1 (Zg l) (Zg l) true)) (Zt (.so 3 0 1 (Zg l) (Zg l) true))/\eS (Zt (.so 2 0 9 (Zg (Qg h)) (Ft0.x s).2 (Ft0.x s).3)) (Zt (.so 2 0 9 (Zg (Qg h)) (Ft0.x s').2 (Ft0.x s').3))/\eS (aI (↑(Zg (Qg h)):Int)) (aI (↑(Zg (Qg h)):Int))/\eS (aI (Zi .i64 ((↑s.2:Int)+(1:Int)))) (aI ↑s'.2)/\True)/\[Zk 47 kI9 9 mh ch zh,Zk 36 kI6 6 ml cl zl,Zk 91 kI9 9 (Ft0.x s).1 (Ft0.x s).2 (Ft0.x s).4,Zk 3 [.int .i64] 1 (Zg l) (Zg l) λ(i j:Nat)=>bif match ZE i (0+Zh (Zi .i64 ((Ft0.x s).4 (0+Zh (↑s.2:Int)) 6-(1:Int))))with|false=>false|true=>ZL j 0 then match Zl [Zi .i64 ((↑s.2:Int)+(1:Int))] j with|some x=>x|none=>(0:Int)else (Ft0.x s).5 i j]=[Zk 47 kI9 9 mh ch zh,Zk 36 kI6 6 ml cl zl,Zk 91 kI9 9 (Ft0.x s').1 (Ft0.x s').2 (Ft0.x s').4,Zk 3 [.int .i64] 1 (Zg l) (Zg l) (Ft0.x s').5])/\Zg (Qg h)-s'.2<Zg (Qg h)-s.2 else Zg l<=cl/\(∃(s0:Ann.σ (Qq1 (FtS.mk h mh ch nh zh l ml cl nl zl))),(eS (Zt (.so 1 0 6 (Zg l) cl nl)) (Zt (.so 1 0 6 (Zg l) cl nl))/\eS (Zt (.so 2 0 9 (Zg (Qg h)) (Ft0.x s).2 (Ft0.x s).3)) (Zt (.so 2 0 9 (Zg (Qg h)) (Ft2.x s0).2 (Ft2.x s0).3))/\eS (Zt (.so 3 0 1 (Zg l) (Zg l) true)) (Zt (.so 3 0 1 (Zg l) (Zg l) true))/\eS (Zt (.so 1 0 6 (Zg l) cl nl)) (Zt (.so 1 0 6 (Zg l) cl nl))/\eS (aI (↑(Zg l):Int)) (aI (↑(Zg l):Int))/\eS (aI 0) (aI ↑s0.2)/\True)/\[Zk 47 kI9 9 mh ch zh,Zk 36 kI6 6 ml cl zl,Zk 91 kI9 9 (Ft0.x s).1 (Ft0.x s).2 (Ft0.x s).4,Zk 3 [.int .i64] 1 (Zg l) (Zg l) (Ft0.x s).5]=[Zk 47 kI9 9 mh ch zh,Zk 36 kI6 6 ml cl zl,Zk 91 kI9 9 (Ft2.x s0).1 (Ft2.x s0).2 (Ft2.x s0).4,Zk 3 [.int .i64] 1 (Zg l) (Zg l) (Ft2.x s0).5])/\∀(s:Ft2 (FtS.mk h mh ch nh zh l ml cl nl zl)),bif decide ((↑s.2:Int)<(↑(Zg l):Int))then ((0:Int)<=(↑s.2:Int)/\(↑s.2:Int)<(↑(Zg l):Int)/\0+Zg l<=cl)/\0+Zh (↑s.2:Int)<ml/\((0:Int)<=(↑s.2:Int)/\(↑s.2:Int)<(↑(Zg l):Int)/\0+Zg l<=Zg l)/\0+Zh (↑s.2:Int)<Zg l/\bif decide ((Ft2.x s).5 (0+Zh (↑s.2:Int)) 0>(0:Int))then ∃(s':Ft2 (FtS.mk h mh ch nh zh l ml cl nl zl)),((eS (Zt (.so 1 0 6 (Zg l) cl nl)) (Zt (.so 1 0 6 (Zg l) cl nl))/\eS (Zt (.so 2 0 9 (Zg (Qg h)) (Ft2.x s).2 (Ft2.x s).3)) (Zt (.so 2 0 9 (Zg (Qg h)) (Ft2.x s').2 (Ft2.x s').3))/\eS (Zt (.so 3 0 1 (Zg l) (Zg l) true)) (Zt (.so 3 0 1 (Zg l) (Zg l) true))/\eS (Zt (.so 1 0 6 (Zg l) cl nl)) (Zt (.so 1 0 6 (Zg l) cl nl))/\eS (aI (↑(Zg l):Int)) (aI (↑(Zg l):Int))/\eS (aI (Zi .i64 ((↑s.2:Int)+(1:Int)))) (aI ↑s'.2)/\True)/\[Zk 47 kI9 9 mh ch zh,Zk 36 kI6 6 ml cl zl,Zk 91 kI9 9 (Ft2.x s).1 (Ft2.x s).2 (Ft2.x s).4,Zk 3 [.int .i64] 1 (Zg l) (Zg l) (Ft2.x s).5]=[Zk 47 kI9 9 mh ch zh,Zk 36 kI6 6 ml cl zl,Zk 91 kI9 9 (Ft2.x s').1 (Ft2.x s').2 (Ft2.x s').4,Zk 3 [.int .i64] 1 (Zg l) (Zg l) (Ft2.x s').5])/\Zg l-s'.2<Zg l-s.2 else ∃(s_1:IxS),[Zt (.so 2 0 9 (Zg (Qg h)) (Ft2.x s).2 (Ft2.x s).3),Zt (.fn 36 [(4,0)])]=[Zt (.so 2 0 9 (Zg s_1.1) s_1.3 s_1.4),Zt (.fn 36 [(4,0)])]/\[Zk 91 kI9 9 (Ft2.x s).1 (Ft2.x s).2 (Ft2.x s).4,Zj [sI (zl (0+Zh (↑s.2:Int)) 0),sI (zl (0+Zh (↑s.2:Int)) 1),sI (zl (0+Zh (↑s.2:Int)) 2),sI (zl (0+Zh (↑s.2:Int)) 3),sI (zl (0+Zh (↑s.2:Int)) 4),sI (zl (0+Zh (↑s.2:Int)) 5)] 36]=[Zk 91 kI9 9 s_1.2 s_1.3 s_1.5,Zj [sI (Dd.at s_1.6 0),sI (Dd.at s_1.6 1),sI (Dd.at s_1.6 2),sI (Dd.at s_1.6 3),sI (Dd.at s_1.6 4),sI (Dd.at s_1.6 5)] 36]/\(Zg s_1.1<=1000000000/\(Zg s_1.1<=s_1.2/\s_1.2<=s_1.3)/\IsC s_1.5 s_1.1)/\∀(x:Unit),True->bif decide ((match fidx s_1.1 s_1.6 (Zg s_1.1) 0 with|none=>(-1:Int)|some i=>(↑i:Int))<(0:Int))then endN Qcu [] (Qi 2) (FtS.mk h mh ch nh zh l ml cl nl zl) (ZG (Zt (.v (.iface 50 (ZA .i64 (8:Int)))))) [Zk 47 kI9 9 mh ch zh,Zk 36 kI6 6 ml cl zl,Zk 91 kI9 9 s_1.2 s_1.3 s_1.5,Zk 3 [.int .i64] 1 (Zg l) (Zg l) (Ft2.x s).5,Zj [sI (Dd.at s_1.6 0),sI (Dd.at s_1.6 1),sI (Dd.at s_1.6 2),sI (Dd.at s_1.6 3),sI (Dd.at s_1.6 4),sI (Dd.at s_1.6 5)] 36]else ∃(s_2:HsS),[Zt (.so 3 0 1 (Zg l) (Zg l) true),aI (Zi .i64 ((match fidx s_1.1 s_1.6 (Zg s_1.1) 0 with|none=>(-1:Int)|some i=>(↑i:Int))+(1:Int)))]=[Zt (.so 3 0 1 s_2.1 s_2.3 s_2.4),aI s_2.6]/\[Zk 3 [.int .i64] 1 (Zg l) (Zg l) (Ft2.x s).5]=[Zk 3 [.int .i64] 1 s_2.2 s_2.3 s_2.5]/\(s_2.1<=1000000000/\s_2.1<=s_2.2/\s_2.2<=s_2.3)/\∀(x:Unit),True->bif hasF (λ(j:Nat)=>s_2.5 j 0) s_2.6 s_2.1 0 then endN Qcu [] (Qi 2) (FtS.mk h mh ch nh zh l ml cl nl zl) (ZG (Zt (.v (.iface 50 (ZA .i64 (8:Int)))))) [Zk 47 kI9 9 mh ch zh,Zk 36 kI6 6 ml cl zl,Zk 91 kI9 9 s_1.2 s_1.3 s_1.5,Zk 3 [.int .i64] 1 s_2.2 s_2.3 s_2.5,Zj [sI (Dd.at s_1.6 0),sI (Dd.at s_1.6 1),sI (Dd.at s_1.6 2),sI (Dd.at s_1.6 3),sI (Dd.at s_1.6 4),sI (Dd.at s_1.6 5)] 36]else ((0:Int)<=(↑s.2:Int)/\(↑s.2:Int)<(↑(Zg l):Int)/\0+Zg l<=Zg l)/\0+Zh (↑s.2:Int)<s_2.2/\∃(s':Ft2 (FtS.mk h mh ch nh zh l ml cl nl zl)),((eS (Zt (.so 1 0 6 (Zg l) cl nl)) (Zt (.so 1 0 6 (Zg l) cl nl))/\eS (Zt (.so 2 0 9 (Zg (Qg h)) (Ft2.x s).2 (Ft2.x s).3)) (Zt (.so 2 0 9 (Zg (Qg h)) (Ft2.x s').2 (Ft2.x s').3))/\eS (Zt (.so 3 0 1 (Zg l) (Zg l) true)) (Zt (.so 3 0 1 (Zg l) (Zg l) true))/\eS (Zt (.so 1 0 6 (Zg l) cl nl)) (Zt (.so 1 0 6 (Zg l) cl nl))/\eS (aI (↑(Zg l):Int)) (aI (↑(Zg l):Int))/\eS (aI (Zi .i64 ((↑s.2:Int)+(1:Int)))) (aI ↑s'.2)/\True)/\[Zk 47 kI9 9 mh ch zh,Zk 36 kI6 6 ml cl zl,Zk 91 kI9 9 s_1.2 s_1.3 s_1.5,Zk 3 [.int .i64] 1 s_2.2 s_2.3 λ(i j:Nat)=>bif match ZE i (0+Zh (↑s.2:Int))with|false=>false|true=>ZL j 0 then match Zl [Zi .i64 ((match fidx s_1.1 s_1.6 (Zg s_1.1) 0 with|none=>(-1:Int)|some i=>(↑i:Int))+(1:Int))] j with|some x=>x|none=>(0:Int)else s_2.5 i j]=[Zk 47 kI9 9 mh ch zh,Zk 36 kI6 6 ml cl zl,Zk 91 kI9 9 (Ft2.x s').1 (Ft2.x s').2 (Ft2.x s').4,Zk 3 [.int .i64] 1 (Zg l) (Zg l) (Ft2.x s').5])/\Zg l-s'.2<Zg l-s.2 else Zg l<=Zg l/\(∃(s0:Ann.σ (Qq0 (FtS.mk h mh ch nh zh l ml cl nl zl))),(eS (Zt (.so 2 0 9 (Zg (Qg h)) (Ft2.x s).2 (Ft2.x s).3)) (Zt (.so 2 0 9 (Zg (Qg h)) (Ft4.x s0).2 (Ft4.x s0).3))/\eS (Zt (.so 3 0 1 (Zg l) (Zg l) true)) (Zt (.so 3 0 1 (Zg l) (Zg l) true))/\eS (aI (↑(Zg l):Int)) (aI (↑(Zg l):Int))/\eS (aI 0) (aI ↑s0.2)/\True)/\[Zk 47 kI9 9 mh ch zh,Zk 36 kI6 6 ml cl zl,Zk 91 kI9 9 (Ft2.x s).1 (Ft2.x s).2 (Ft2.x s).4,Zk 3 [.int .i64] 1 (Zg l) (Zg l) (Ft2.x s).5]=[Zk 47 kI9 9 mh ch zh,Zk 36 kI6 6 ml cl zl,Zk 91 kI9 9 (Ft4.x s0).1 (Ft4.x s0).2 (Ft4.x s0).4,Zk 3 [.int .i64] 1 (Zg l) (Zg l) (Ft4.x s0).5])/\∀(s:Ft4 (FtS.mk h mh ch nh zh l ml cl nl zl)),bif decide ((↑s.2:Int)<(↑(Zg l):Int))then ∃(s0:Ft6 (FtS.mk h mh ch nh zh l ml cl nl zl)),((eS (Zt (.so 2 0 9 (Zg (Qg h)) (Ft4.x s).2 (Ft4.x s).3)) (Zt (.so 2 0 9 (Zg (Qg h)) (Ft6.x s0).2 (Ft6.x s0).3))/\eS (Zt (.so 3 0 1 (Zg l) (Zg l) true)) (Zt (.so 3 0 1 (Zg l) (Zg l) true))/\eS (aI ↑s.2) (aI ↑s0.2)/\eS (aI ↑s.2) (aI ↑s0.2)/\eS (aI 0) (aI ↑s0.3)/\eS (aI (↑(Zg l):Int)) (aI (↑(Zg l):Int))/\eS (aI ↑s.2) (aI ↑s0.2)/\True)/\[Zk 47 kI9 9 mh ch zh,Zk 36 kI6 6 ml cl zl,Zk 91 kI9 9 (Ft4.x s).1 (Ft4.x s).2 (Ft4.x s).4,Zk 3 [.int .i64] 1 (Zg l) (Zg l) (Ft4.x s).5]=[Zk 47 kI9 9 mh ch zh,Zk 36 kI6 6 ml cl zl,Zk 91 kI9 9 (Ft6.x s0).1 (Ft6.x s0).2 (Ft6.x s0).4,Zk 3 [.int .i64] 1 (Zg l) (Zg l) (Ft6.x s0).5])/\s0.2=s0.2/\∀(s_1:Ft6 (FtS.mk h mh ch nh zh l ml cl nl zl)),s_1.2=s0.2->bif decide ((↑s_1.3:Int)<(↑s_1.2:Int))then ((0:Int)<=(↑s_1.3:Int)/\(↑s_1.3:Int)<(↑(Zg l):Int)/\0+Zg l<=Zg l)/\0+Zh (↑s_1.3:Int)<Zg l/\((0:Int)<=Zi .i64 ((Ft6.x s_1).5 (0+Zh (↑s_1.3:Int)) 0-(1:Int))/\Zi .i64 ((Ft6.x s_1).5 (0+Zh (↑s_1.3:Int)) 0-(1:Int))<(↑(Zg (Qg h)):Int)/\0+Zg (Qg h)<=(Ft6.x s_1).2)/\0+Zh (Zi .i64 ((Ft6.x s_1).5 (0+Zh (↑s_1.3:Int)) 0-(1:Int)))<(Ft6.x s_1).1/\((0:Int)<=(↑s_1.2:Int)/\(↑s_1.2:Int)<(↑(Zg l):Int)/\0+Zg l<=Zg l)/\0+Zh (↑s_1.2:Int)<Zg l/\((0:Int)<=Zi .i64 ((Ft6.x s_1).5 (0+Zh (↑s_1.2:Int)) 0-(1:Int))/\Zi .i64 ((Ft6.x s_1).5 (0+Zh (↑s_1.2:Int)) 0-(1:Int))<(↑(Zg (Qg h)):Int)/\0+Zg (Qg h)<=(Ft6.x s_1).2)/\0+Zh (Zi .i64 ((Ft6.x s_1).5 (0+Zh (↑s_1.2:Int)) 0-(1:Int)))<(Ft6.x s_1).1/\dP Tryz.f17 33 4 [⟨19,[],[5],[],false⟩,⟨18,[],[4],[],false⟩,⟨17,[],[5],[5],false⟩,⟨16,[],[4],[4],false⟩,xR 15 2,xF 14 2,xE 13,xR 12 3,xF 11 3,xE 10,xF 9 3,xF 8 2,xR 7 2,xF 6 2,xE 5,xR 4 3,xF 3 3,xE 2,xF 1 3,xF 0 2]/\bif decide ((Ft6.x s_1).4 (0+Zh (Zi .i64 ((Ft6.x s_1).5 (0+Zh (↑s_1.2:Int)) 0-(1:Int)))) 5>(0:Int))then bif decide ((Ft6.x s_1).4 (0+Zh (Zi .i64 ((Ft6.x s_1).5 (0+Zh (↑s_1.2:Int)) 0-(1:Int)))) 5<(Ft6.x s_1).4 (0+Zh (Zi .i64 ((Ft6.x s_1).5 (0+Zh (↑s_1.3:Int)) 0-(1:Int)))) 4)then endN Qcu [] (Qi 2) (FtS.mk h mh ch nh zh l ml cl nl zl) (ZG (Zt (.v (.iface 50 (ZA .i64 (6:Int)))))) [Zk 47 kI9 9 mh ch zh,Zk 36 kI6 6 ml cl zl,Zk 91 kI9 9 (Ft6.x s_1).1 (Ft6.x s_1).2 (Ft6.x s_1).4,Zk 3 [.int .i64] 1 (Zg l) (Zg l) (Ft6.x s_1).5,Zj [sI ((Ft6.x s_1).4 (0+Zh (Zi .i64 ((Ft6.x s_1).5 (0+Zh (↑s_1.3:Int)) 0-(1:Int)))) 0),sI ((Ft6.x s_1).4 (0+Zh (Zi .i64 ((Ft6.x s_1).5 (0+Zh (↑s_1.3:Int)) 0-(1:Int)))) 1),sI ((Ft6.x s_1).4 (0+Zh (Zi .i64 ((Ft6.x s_1).5 (0+Zh (↑s_1.3:Int)) 0-(1:Int)))) 2),sI ((Ft6.x s_1).4 (0+Zh (Zi .i64 ((Ft6.x s_1).5 (0+Zh (↑s_1.3:Int)) 0-(1:Int)))) 3),sI ((Ft6.x s_1).4 (0+Zh (Zi .i64 ((Ft6.x s_1).5 (0+Zh (↑s_1.3:Int)) 0-(1:Int)))) 4),sI ((Ft6.x s_1).4 (0+Zh (Zi .i64 ((Ft6.x s_1).5 (0+Zh (↑s_1.3:Int)) 0-(1:Int)))) 5),sI ((Ft6.x s_1).4 (0+Zh (Zi .i64 ((Ft6.x s_1).5 (0+Zh (↑s_1.3:Int)) 0-(1:Int)))) 6),sI ((Ft6.x s_1).4 (0+Zh (Zi .i64 ((Ft6.x s_1).5 (0+Zh (↑s_1.3:Int)) 0-(1:Int)))) 7),sI ((Ft6.x s_1).4 (0+Zh (Zi .i64 ((Ft6.x s_1).5 (0+Zh (↑s_1.3:Int)) 0-(1:Int)))) 8)] 91,Zj [sI ((Ft6.x s_1).4 (0+Zh (Zi .i64 ((Ft6.x s_1).5 (0+Zh (↑s_1.2:Int)) 0-(1:Int)))) 0),sI ((Ft6.x s_1).4 (0+Zh (Zi .i64 ((Ft6.x s_1).5 (0+Zh (↑s_1.2:Int)) 0-(1:Int)))) 1),sI ((Ft6.x s_1).4 (0+Zh (Zi .i64 ((Ft6.x s_1).5 (0+Zh (↑s_1.2:Int)) 0-(1:Int)))) 2),sI ((Ft6.x s_1).4 (0+Zh (Zi .i64 ((Ft6.x s_1).5 (0+Zh (↑s_1.2:Int)) 0-(1:Int)))) 3),sI ((Ft6.x s_1).4 (0+Zh (Zi .i64 ((Ft6.x s_1).5 (0+Zh (↑s_1.2:Int)) 0-(1:Int)))) 4),sI ((Ft6.x s_1).4 (0+Zh (Zi .i64 ((Ft6.x s_1).5 (0+Zh (↑s_1.2:Int)) 0-(1:Int)))) 5),sI ((Ft6.x s_1).4 (0+Zh (Zi .i64 ((Ft6.x s_1).5 (0+Zh (↑s_1.2:Int)) 0-(1:Int)))) 6),sI ((Ft6.x s_1).4 (0+Zh (Zi .i64 ((Ft6.x s_1).5 (0+Zh (↑s_1.2:Int)) 0-(1:Int)))) 7),sI ((Ft6.x s_1).4 (0+Zh (Zi .i64 ((Ft6.x s_1).5 (0+Zh (↑s_1.2:Int)) 0-(1:Int)))) 8)] 91]else ∃(s':Ft6 (FtS.mk h mh ch nh zh l ml cl nl zl)),((eS (Zt (.so 2 0 9 (Zg (Qg h)) (Ft6.x s_1).2 (Ft6.x s_1).3)) (Zt (.so 2 0 9 (Zg (Qg h)) (Ft6.x s').2 (Ft6.x s').3))/\eS (Zt (.so 3 0 1 (Zg l) (Zg l) true)) (Zt (.so 3 0 1 (Zg l) (Zg l) true))/\eS (aI ↑s_1.2) (aI ↑s'.2)/\eS (aI ↑s_1.2) (aI ↑s'.2)/\eS (aI (Zi .i64 ((↑s_1.3:Int)+(1:Int)))) (aI ↑s'.3)/\eS (aI (↑(Zg l):Int)) (aI (↑(Zg l):Int))/\eS (aI ↑s_1.2) (aI ↑s'.2)/\True)/\[Zk 47 kI9 9 mh ch zh,Zk 36 kI6 6 ml cl zl,Zk 91 kI9 9 (Ft6.x s_1).1 (Ft6.x s_1).2 (Ft6.x s_1).4,Zk 3 [.int .i64] 1 (Zg l) (Zg l) (Ft6.x s_1).5]=[Zk 47 kI9 9 mh ch zh,Zk 36 kI6 6 ml cl zl,Zk 91 kI9 9 (Ft6.x s').1 (Ft6.x s').2 (Ft6.x s').4,Zk 3 [.int .i64] 1 (Zg l) (Zg l) (Ft6.x s').5])/\s'.2=s0.2/\s'.2-s'.3<s_1.2-s_1.3 else ∃(s':Ft6 (FtS.mk h mh ch nh zh l ml cl nl zl)),((eS (Zt (.so 2 0 9 (Zg (Qg h)) (Ft6.x s_1).2 (Ft6.x s_1).3)) (Zt (.so 2 0 9 (Zg (Qg h)) (Ft6.x s').2 (Ft6.x s').3))/\eS (Zt (.so 3 0 1 (Zg l) (Zg l) true)) (Zt (.so 3 0 1 (Zg l) (Zg l) true))/\eS (aI ↑s_1.2) (aI ↑s'.2)/\eS (aI ↑s_1.2) (aI ↑s'.2)/\eS (aI (Zi .i64 ((↑s_1.3:Int)+(1:Int)))) (aI ↑s'.3)/\eS (aI (↑(Zg l):Int)) (aI (↑(Zg l):Int))/\eS (aI ↑s_1.2) (aI ↑s'.2)/\True)/\[Zk 47 kI9 9 mh ch zh,Zk 36 kI6 6 ml cl zl,Zk 91 kI9 9 (Ft6.x s_1).1 (Ft6.x s_1).2 (Ft6.x s_1).4,Zk 3 [.int .i64] 1 (Zg l) (Zg l) (Ft6.x s_1).5]=[Zk 47 kI9 9 mh ch zh,Zk 36 kI6 6 ml cl zl,Zk 91 kI9 9 (Ft6.x s').1 (Ft6.x s').2 (Ft6.x s').4,Zk 3 [.int .i64] 1 (Zg l) (Zg l) (Ft6.x s').5])/\s'.2=s0.2/\s'.2-s'.3<s_1.2-s_1.3 else ∃(s':Ft4 (FtS.mk h mh ch nh zh l ml cl nl zl)),((eS (Zt (.so 2 0 9 (Zg (Qg h)) (Ft6.x s_1).2 (Ft6.x s_1).3)) (Zt (.so 2 0 9 (Zg (Qg h)) (Ft4.x s').2 (Ft4.x s').3))/\eS (Zt (.so 3 0 1 (Zg l) (Zg l) true)) (Zt (.so 3 0 1 (Zg l) (Zg l) true))/\eS (aI (↑(Zg l):Int)) (aI (↑(Zg l):Int))/\eS (aI (Zi .i64 ((↑s_1.2:Int)+(1:Int)))) (aI ↑s'.2)/\True)/\[Zk 47 kI9 9 mh ch zh,Zk 36 kI6 6 ml cl zl,Zk 91 kI9 9 (Ft6.x s_1).1 (Ft6.x s_1).2 (Ft6.x s_1).4,Zk 3 [.int .i64] 1 (Zg l) (Zg l) (Ft6.x s_1).5]=[Zk 47 kI9 9 mh ch zh,Zk 36 kI6 6 ml cl zl,Zk 91 kI9 9 (Ft4.x s').1 (Ft4.x s').2 (Ft4.x s').4,Zk 3 [.int .i64] 1 (Zg l) (Zg l) (Ft4.x s').5])/\Zg l-s'.2<Zg l-s.2 else endN Qcu [] (Qi 2) (FtS.mk h mh ch nh zh l ml cl nl zl) (ZG (Zt (.v ZM))) [Zk 47 kI9 9 mh ch zh,Zk 36 kI6 6 ml cl zl,Zk 91 kI9 9 (Ft4.x s).1 (Ft4.x s).2 (Ft4.x s).4,Zk 3 [.int .i64] 1 (Zg l) (Zg l) (Ft4.x s).5]) Zc ?_
 have e0 (j:Nat):0+(j:Int).toNat=j:=by rw[Zv,Zu]
 have hcl:(Qg h).length<=1000000000:=by
  have:=Qgf h h.length (Zq _)
  rw[Yt]at this;omega
 refine⟨⟨h,mh,ch,nh,zh⟩,rfl,rfl,⟨hw,hl,hm,hz⟩,?_⟩
 rintro⟨mc,cc,nc,fc⟩ ⟨hc,hf⟩
 dsimp only at hc hf
 refine⟨ZV hm2.1 hm2.2,⟨Za,rfl,Za⟩,ZV hc.1 hc.2,⟨⟨⟨mc,cc,nc,fc,λ_ _=>0,hc,hf,λj hj=>(by show (0:Int)<=0/\(0:Int)<=((Qg h).length:Int);omega)⟩,0,Z9 _,rfl⟩,⟨rfl,rfl,rfl,rfl,rfl,rfl,Zd⟩,rfl⟩,?_⟩
 clear hc hf
 rintro⟨⟨mc,cc,nc,fc,fo,hc,hf,hb⟩,i,hi,he⟩
 dsimp +instances only at hc hf hb hi he ⊢
 rw[e0 i]
 refine Qo (λhlt=>?_) (λhge=>?_)
 . have hlt':i<(Qg h).length:=Za
   obtain⟨C,hC⟩:∃C,C=(Qg h).getD i YZ:=⟨_,rfl⟩
   have hk:∀q,q<9->fc i q=C.at q:=λq hq=>by rw[hC];exact hf i hlt' q hq
   have c0:fc i 0=C.t:=hk 0 Zb
   have c1:fc i 1=C.k:=hk 1 Zb
   have c2:fc i 2=C.key:=hk 2 Zb
   have c3:fc i 3=C.x:=hk 3 Zb
   have c5:fc i 5=C.to:=hk 5 Zb
   have c6:fc i 6=C.whn:=hk 6 Zb
   have c7:fc i 7=C.c:=hk 7 Zb
   have c8:fc i 8=C.v:=hk 8 Zb
   rw[show (Qg h).length-i=(Qg h).length-(i+1)+1 by omega]at he
   unfold cont1 at he
   rw[<- hC]at he
   have fail (e:Int) (h1:chk1 C l (λj=>fo j 0)=e) (h2:e≠0):fitC (Qg h) l=e:=by rw[<- he,Ze (by rw[h1];exact h2),h1]
   rw[c0,c1,c2,c3,c5,c6,c7,c8]
   refine⟨⟨Za,hlt,Za⟩,Za,QP (λh5=>?_) (λh5=>Qo (λh6=>?_) (λh6=>⟨ZV hm2.1 hm2.2,Qo (λh7=>?_) (λh7=>?_)⟩))⟩
   . have hk0:chk1 C l (λj=>fo j 0)=0:=Zf h5
     have hn0:nxt1 C i (λj=>fo j 0)=λj=>fo j 0:=Zf h5
     rw[Zf hk0,hn0]at he
     exact⟨⟨⟨mc,cc,nc,fc,fo,hc,hf,hb⟩,i+1,hlt',he⟩,⟨⟨rfl,rfl,rfl,rfl,rfl,svI (sucI Za),Zd⟩,rfl⟩,by dsimp only;omega⟩
   . exact⟨(),Zd,Qcl (fail 7 (by unfold chk1;rw[Ze h5,Zf h6]) Zb) Zb,rfl⟩
   . exact⟨(),Zd,Qcl (fail 7 (by unfold chk1;rw[Ze h5,Ze h6,Zf h7]) Zb) Zb,rfl⟩
   . obtain⟨j,hj⟩:∃j:Nat,C.whn=(j:Int)+1:=⟨(C.whn-1).toNat,Za⟩
     have hq:(C.whn-1).toNat=j:=by rw[hj];omega
     have hjl:j<l.length:=Za
     rw[hj,show (j:Int)+1-1=(j:Int) by omega,Qx (x:=(j:Int)) Za Za,e0 j]
     obtain⟨D,hD⟩:∃D,D=l.getD j ZR:=⟨_,rfl⟩
     have hd:∀q,q<6->zl j q=D.at q:=λq hq=>by rw[hD];exact hz2 j hjl q hq
     have d0:zl j 0=D.t:=hd 0 Zb
     have d1:zl j 1=D.k:=hd 1 Zb
     have d2:zl j 2=D.key:=hd 2 Zb
     have d3:zl j 3=D.x:=hd 3 Zb
     have d4:zl j 4=D.c:=hd 4 Zb
     have d5:zl j 5=D.v:=hd 5 Zb
     rw[d0,d1,d2,d3,d4,d5]
     have f13 (hx:¬(D.t=C.t/\D.k=C.k/\D.key=C.key/\D.x=C.x/\D.c=C.c/\D.v=C.v)):fitC (Qg h) l=13:=fail 13 (by
      unfold chk1
      rw[Ze h5,Ze h6,Ze h7,hq,<- hD,Ze hx]) Zb
     refine⟨⟨Za,Za,Za⟩,Za,QB (λh8=>⟨(),Zd,Qcl (f13 λx=>h8 x.1) Zb,rfl⟩) (λh8=>Xn (λh9=>?_) (λh9=>Xn (λh10=>?_) (λh10=>⟨⟨Za,Za,Za⟩,Za,Qo (λh11=>?_) (λh11=>⟨⟨Za,Za,Za⟩,Za,?_⟩)⟩)))⟩
     . exact⟨(),Zd,Qcl (f13 λx=>by rw[b3.2 ⟨x.2.1,x.2.2.1,x.2.2.2.1⟩]at h9;cases h9) Zb,rfl⟩
     . exact⟨(),Zd,Qcl (f13 λx=>by rw[b2.2 ⟨x.2.2.2.2.1,x.2.2.2.2.2⟩]at h10;cases h10) Zb,rfl⟩
     all_goals
      obtain⟨g1,g2,g3⟩:=b3.1 h9
      obtain⟨g4,g5⟩:=b2.1 h10
      have hall:D.t=C.t/\D.k=C.k/\D.key=C.key/\D.x=C.x/\D.c=C.c/\D.v=C.v:=⟨h8,g1,g2,g3,g4,g5⟩
     . exact⟨(),Zd,Qcl (fail 9 (by unfold chk1;rw[Ze h5,Ze h6,Ze h7,hq,<- hD,Zf hall,Zf h11]) Zb) Zb,rfl⟩
     . have hk0:chk1 C l (λj=>fo j 0)=0:=by unfold chk1;rw[Ze h5,Ze h6,Ze h7,hq,<- hD,Zf hall,Ze h11]
       have hn0:nxt1 C i (λj=>fo j 0)=putF (λj=>fo j 0) j ((i:Int)+1):=by unfold nxt1;rw[Ze h5,hq]
       rw[Zf hk0,hn0]at he
       have hu:=upd1 (fo:=fo) (n:=j) (sucI (show i<=1000000000 by omega))
       refine⟨⟨⟨mc,cc,nc,fc,updB fo j 0 0 [Zi .i64 ((i:Int)+1)],hc,hf,λq hq=>?_⟩,i+1,hlt',?_⟩,⟨⟨rfl,rfl,rfl,rfl,rfl,svI (sucI Za),Zd⟩,Zc⟩,by dsimp only;omega⟩
       . have hq:q<l.length:=hq
         show 0<=updB fo j 0 0 [Zi .i64 ((i:Int)+1)] q 0/\updB fo j 0 0 [Zi .i64 ((i:Int)+1)] q 0<=((Qg h).length:Int)
         rw[show updB fo j 0 0 [Zi .i64 ((i:Int)+1)] q 0=putF (λq=>fo q 0) j ((i+1:Nat):Int) q from congrFun hu q]
         by_cases e:q=j
         . subst e;rw[QY];omega
         . rw[Qs _ _ e];exact hb q hq
       . show cont1 (Qg h) l ((Qg h).length-(i+1)) (i+1) (λq=>updB fo j 0 0 [Zi .i64 ((i:Int)+1)] q 0)=_
         rw[hu];exact he
 have hin:(Qg h).length-i=0:=Za
 rw[hin]at he
 refine⟨ZV hm2.1 hm2.2,⟨⟨⟨mc,cc,nc,fc,fo,hc,hf,hb⟩,0,Z9 _,λj hj=>absurd hj (ZP _),he⟩,⟨rfl,rfl,rfl,rfl,rfl,rfl,Zd⟩,rfl⟩,?_⟩
 clear hc hf hb he hin hge hi
 rintro⟨⟨mc,cc,nc,fc,fo,hc,hf,hb⟩,k,hk,hp,he⟩
 dsimp +instances only at hc hf hb hk hp he ⊢
 rw[e0 k]
 refine Qo (λhlt=>?_) (λhge=>?_)
 . have hlt':k<l.length:=Za
   obtain⟨D,hD⟩:∃D,D=l.getD k ZR:=⟨_,rfl⟩
   have hd:∀q,q<6->zl k q=D.at q:=λq hq=>by rw[hD];exact hz2 k hlt' q hq
   rw[show l.length-k=l.length-(k+1)+1 by omega]at he
   unfold QhI at he
   rw[<- hD]at he
   rw[hd 0 Zb,hd 1 Zb,hd 2 Zb,hd 3 Zb,hd 4 Zb,hd 5 Zb]
   refine⟨⟨Za,hlt,Za⟩,Za,⟨Za,hlt,Za⟩,Za,Qo (λh0=>?_) (λh0=>⟨⟨Qg h,mc,cc,nc,fc,D⟩,rfl,rfl,⟨hcl,hc,hf⟩,λ_ _=>?_⟩)⟩
   . rw[Zf h0]at he
     refine⟨⟨⟨mc,cc,nc,fc,fo,hc,hf,hb⟩,k+1,hlt',λj hj=>?_,he⟩,⟨⟨rfl,rfl,rfl,rfl,rfl,svI (sucI Za),Zd⟩,rfl⟩,by dsimp only;omega⟩
     by_cases e:j=k
     . subst e;show 1<=fo j 0;omega
     . exact hp j Za
   . dsimp +instances only
     rw[Ze h0]at he
     cases hx:fidx (Qg h) D (Qg h).length 0 with
     |none=>
      rw[hx]at he
      exact Qo (λ_=>⟨(),Zd,Qcl he.symm Zb,rfl⟩) (λh=>absurd Zb h)
     |some m=>
      rw[hx]at he
      have hml:=QnZ _ _ hx
      have hw2:Zi .i64 ((m:Int)+1)=(m:Int)+1:=Qx Za Za
      dsimp +instances only at he ⊢
      refine Qo (λh=>absurd h Za) (λ_=>⟨⟨l.length,l.length,l.length,true,fo,(m:Int)+1⟩,congrArg (λq=>[Zt (Zas 3 0 1 l.length l.length true),Zt (ZbP (.int .i64 q))]) hw2,rfl,⟨(by show l.length<=1000000000;omega),Zq _,Zq _⟩,λ_ _=>QL (λhb2=>?_) (λhb2=>⟨⟨Za,hlt,Za⟩,(by show k<l.length;omega),?_⟩)⟩)
      . have hb2:hasF (λj=>fo j 0) ((m:Int)+1) l.length 0=true:=hb2
        rw[hb2]at he
        exact⟨(),Zd,Qcl (Eq.symm he) Zb,rfl⟩
      . have hb2:hasF (λj=>fo j 0) ((m:Int)+1) l.length 0=false:=hb2
        rw[hb2]at he
        have he:QhI (Qg h) l (l.length-(k+1)) (k+1) (putF (λj=>fo j 0) k ((m:Int)+1))=fitC (Qg h) l:=he
        have hu:=upd1 (fo:=fo) (n:=k) hw2
        have hv (q:Nat):updB fo k 0 0 [Zi .i64 ((m:Int)+1)] q 0=putF (λq=>fo q 0) k ((m:Int)+1) q:=congrFun hu q
        refine⟨⟨⟨mc,cc,nc,fc,updB fo k 0 0 [Zi .i64 ((m:Int)+1)],hc,hf,λq hq=>?_⟩,k+1,hlt',λq hq=>?_,?_⟩,⟨⟨rfl,rfl,rfl,rfl,rfl,svI (sucI Za),Zd⟩,Zc⟩,by dsimp only;omega⟩
        . have hq:q<l.length:=hq
          show 0<=updB fo k 0 0 [Zi .i64 ((m:Int)+1)] q 0/\updB fo k 0 0 [Zi .i64 ((m:Int)+1)] q 0<=((Qg h).length:Int)
          rw[hv]
          by_cases e:q=k
          . subst e;rw[QY];omega
          . rw[Qs _ _ e];exact hb q hq
        . dsimp only
          rw[hv]
          by_cases e:q=k
          . subst e;rw[QY];omega
          . rw[Qs _ _ e];exact hp q Za
        . show QhI (Qg h) l (l.length-(k+1)) (k+1) (λq=>updB fo k 0 0 [Zi .i64 ((m:Int)+1)] q 0)=_
          rw[hu];exact he
 have hkn:l.length-k=0:=Za
 rw[hkn]at he
 refine⟨Zq _,⟨⟨⟨mc,cc,nc,fc,fo,hc,hf,hb⟩,0,Z9 _,λj hj=>hp j (by have hj:j<l.length:=hj;omega),he⟩,⟨rfl,rfl,rfl,rfl,Zd⟩,rfl⟩,?_⟩
 clear hc hf hb he hkn hge hk hp
 rintro⟨⟨mcO,ccO,ncO,fcO,foO,hcO,hfO,hbO⟩,k,hkO,hpO,heO⟩
 dsimp +instances only at hcO hfO hbO hkO hpO heO ⊢
 refine Qo (λhlt=>?_) (λhge=>?_)
 . have hlt':k<l.length:=Za
   refine⟨⟨⟨mcO,ccO,ncO,fcO,foO,hcO,hfO,hbO⟩,k,0,hlt',Z9 _,hpO,heO,rfl⟩,⟨⟨rfl,rfl,rfl,rfl,rfl,rfl,rfl,Zd⟩,rfl⟩,rfl,?_⟩
   rintro⟨⟨mc,cc,nc,fc,fo,hc,hf,hb⟩,k2,j,hk,hj,hp,he,h4⟩ hkk
   have hkk:k2=k:=hkk
   subst hkk
   dsimp +instances only at hc hf hb hk hj hp he h4 ⊢
   rw[e0 j,e0 k2]
   have he0:=he
   rw[show l.length-k2=l.length-(k2+1)+1 by omega]at he
   unfold Qog at he
   have bk:=hb k2 hk
   have pk:=hp k2 hk
   obtain⟨b,hb1⟩:∃b:Nat,fo k2 0=(b:Int)+1:=⟨(fo k2 0-1).toNat,Za⟩
   refine Qo (λhlt2=>?_) (λhge2=>?_)
   . have hj2:j<k2:=Za
     have bj:=hb j Za
     have pj:=hp j Za
     obtain⟨a,ha1⟩:∃a:Nat,fo j 0=(a:Int)+1:=⟨(fo j 0-1).toNat,Za⟩
     have hal:a<(Qg h).length:=Za
     have hbl:b<(Qg h).length:=Za
     have ea:((λj=>fo j 0) j-1).toNat=a:=by dsimp only;rw[ha1];omega
     have eb:((λj=>fo j 0) k2-1).toNat=b:=by dsimp only;rw[hb1];omega
     rw[ha1,hb1,show (a:Int)+1-1=(a:Int) by omega,show (b:Int)+1-1=(b:Int) by omega,Qx (x:=(a:Int)) Za Za,Qx (x:=(b:Int)) Za Za,e0 a,e0 b]
     have c5:fc b 5=((Qg h).getD b YZ).to:=hf b hbl 5 Zb
     have c4:fc a 4=((Qg h).getD a YZ).fr:=hf a hal 4 Zb
     rw[c5,c4]
     rw[show k2-j=k2-(j+1)+1 by omega]at h4
     have h4:(bad3 (Qg h) (λj=>fo j 0) k2 j||Qgx (Qg h) (λj=>fo j 0) k2 (k2-(j+1)) (j+1))=Qgx (Qg h) (λj=>fo j 0) k2 k2 0:=h4
     have nx (hx:bad3 (Qg h) (λj=>fo j 0) k2 j=false):Qgx (Qg h) (λj=>fo j 0) k2 (k2-(j+1)) (j+1)=Qgx (Qg h) (λj=>fo j 0) k2 k2 0:=by
      rw[hx,Bool.false_or]at h4;exact h4
     refine⟨⟨Za,Za,Za⟩,Za,⟨Za,Za,Za⟩,Za,⟨Za,Za,Za⟩,Za,⟨Za,Za,Za⟩,Za,Qd Zc,Qo (λh5=>Qo (λh6=>?_) (λh6=>?_)) (λh5=>?_)⟩
     . have hx:bad3 (Qg h) (λj=>fo j 0) k2 j=true:=by
        unfold bad3;rw[ea,eb];exact decide_eq_true ⟨h5,h6⟩
       have hy:Qgx (Qg h) (λj=>fo j 0) k2 k2 0=true:=by rw[<- h4,hx];rfl
       rw[hy]at he
       exact⟨(),Zd,Qcl (Eq.symm he) Zb,rfl⟩
     . have hx:bad3 (Qg h) (λj=>fo j 0) k2 j=false:=by
        unfold bad3;rw[ea,eb];exact decide_eq_false λx=>h6 x.2
       exact⟨⟨⟨mc,cc,nc,fc,fo,hc,hf,hb⟩,k2,j+1,hk,hj2,hp,he0,nx hx⟩,⟨⟨rfl,rfl,rfl,rfl,svI (sucI Za),rfl,rfl,Zd⟩,rfl⟩,rfl,by dsimp only;omega⟩
     . have hx:bad3 (Qg h) (λj=>fo j 0) k2 j=false:=by
        unfold bad3;rw[ea,eb];exact decide_eq_false λx=>h5 x.1
       exact⟨⟨⟨mc,cc,nc,fc,fo,hc,hf,hb⟩,k2,j+1,hk,hj2,hp,he0,nx hx⟩,⟨⟨rfl,rfl,rfl,rfl,svI (sucI Za),rfl,rfl,Zd⟩,rfl⟩,rfl,by dsimp only;omega⟩
   . rw[show k2-j=0 by omega]at h4
     have h4:false=Qgx (Qg h) (λj=>fo j 0) k2 k2 0:=h4
     rw[<- h4]at he
     exact⟨⟨⟨mc,cc,nc,fc,fo,hc,hf,hb⟩,k2+1,hk,hp,he⟩,⟨⟨rfl,rfl,rfl,svI (sucI Za),Zd⟩,rfl⟩,by dsimp only;omega⟩
 . have hkn:l.length-k=0:=Za
   rw[hkn]at heO
   have he:(0:Int)=fitC (Qg h) l:=heO
   refine⟨(),Zd,?_,rfl⟩
   show ZG (Zt (ZbP .nilIface))=ZG (Zt (ZbP (errV (fitC (Qg h) l))))
   rw[<- he];rfl
theorem MCon.spec {c:MCon}{P:Program}{w0:World}{S:Nat->Prop}{f:FuncId}(h:(ZH c).holdsAt P w0 S f) {pre':c.σ->Prop}{val':c.σ->c.χ->SV}(hp:∀s,pre' s->c.pre s) (hv:∀s x ρ,pre' s->(val' s x).den ρ=(c.val s x).den ρ):
 (ZH { c with pre:=pre',val:=val' }).holdsAt P w0 S f:=by
 refine⟨h.1,h.2.1,λρ s w hpp hK HM=>(h.2.2 ρ s w (hp s hpp) hK HM).mono ?_⟩
 rintro e w' ⟨x,ρ',h1,h2,h3,h4,h5⟩
 refine⟨x,ρ',h1,h2,h3,?_,h5⟩
 rw[h4]
 show ZaN ((c.val s x).den ρ')=ZaN ((val' s x).den ρ')
 rw[hv s x ρ' hpp]
def Qol:MCon:={ Qcu with pre:=λs=>Qcu.pre s/\fitC (Qg (FtS.h s)) (FtS.l s)=0,val:=λ_ _=>.o (.c (.v .nilIface)) }
theorem QrP:(ZH Qol).holds Tryz.prog 17:=λw0 S=>MCon.spec (QnM w0 S) (λs h=>h.1) (λs x ρ h=>by
 show (ZG (.c (.v .nilIface))).den ρ=(ZG (.c (.v (errV (fitC (Qg (FtS.h s)) (FtS.l s)))))).den ρ
 rw[h.2];rfl)
def conFtQ:MCon:={ Qcu with pre:=Qcu.pre,val:=λs _=>.o (.c (.q (!(fitC (Qg (FtS.h s)) (FtS.l s)==0)) 50 (.int .i64 (fitC (Qg (FtS.h s)) (FtS.l s))))) }
theorem ftQ_con:(ZH conFtQ).holds Tryz.prog 17:=λw0 S=>MCon.spec (QnM w0 S) (λs h=>h) (λs x ρ h=>by
 show (ZG (.c (.q (!(fitC (Qg (FtS.h s)) (FtS.l s)==0)) 50 (.int .i64 (fitC (Qg (FtS.h s)) (FtS.l s)))))).den ρ=(ZG (.c (.v (errV (fitC (Qg (FtS.h s)) (FtS.l s)))))).den ρ
 generalize fitC (Qg (FtS.h s)) (FtS.l s)=q
 show (bif !(q==0)then Value.iface 50 (.int .i64 q)else .nilIface)=errV q
 unfold errV
 by_cases e:q=0
 . subst e;rfl
 . rw[Ze e,beq_eq_false_iff_ne.2 e];rfl)
def conFtN (n:Int):MCon:={ Qcu with pre:=λs=>Qcu.pre s/\fitC (Qg (FtS.h s)) (FtS.l s)=n/\n≠0,val:=λ_ _=>.o (.c (.v (.iface 50 (.int .i64 n)))) }
theorem ftN_con (n:Int):(ZH (conFtN n)).holds Tryz.prog 17:=λw0 S=>MCon.spec (QnM w0 S) (λs h=>h.1) (λs x ρ h=>by
 show (ZG (.c (.v (.iface 50 (.int .i64 n))))).den ρ=(ZG (.c (.v (errV (fitC (Qg (FtS.h s)) (FtS.l s)))))).den ρ
 rw[h.2.1];unfold errV;rw[Ze h.2.2])
end
section
section
variable {K:Int}{z:Sh}{g:Gh}{t:Nat}
end
end
section
section
variable {K:Int}{z:Sh}{g:Gh}{t:Nat}
end
end
section
open Go.RowKit Go.Extern.Stop Go.Stop Go.Extern
theorem Qg4 (t:Addr) (w:World):(ReflectliteValue.unpack (.iface 85 (.pointer (some t)))).run Tryz.prog w
 = .ok (.agg #[.pointer (some ⟨1,85,none⟩),.pointer (some ⟨w.heap.size,0,none⟩),.int .u64 150]) (w.alloc (.cells #[.pointer (some t)] 85)):=Zc
theorem QoD (a:Addr) (w:World):(ReflectliteValue.methodAny (ReflectliteValue.valueError "reflectlite.Value.Type" 0) (λt _ _ _=>ReflectliteType.toType t) #[.agg #[.pointer (some ⟨1,85,none⟩),.pointer (some a),.int .u64 150]]).run Tryz.prog w
 = .ok (.iface 173 (.agg #[.pointer (some ⟨1,85,none⟩)])) w:=Zc
theorem Qfb (h:Value) (w:World):(Zdp 348 173 (.agg #[h]) "Kind").run Tryz.prog w=.ok (133,h) w:=Zc
theorem QoG (w:World):((ReflectliteType.abiMethod λt=>(λa:Nat=>ZA IntKind.u8 (a:Int)) <$> Rtype.kind t) #[.pointer (some ⟨1,85,none⟩)]).run Tryz.prog w=.ok (.int .u8 22) w:=Zc
theorem QoH (w:World):((ReflectliteType.abiMethod λt=>(λa:Nat=>ZA IntKind.u8 (a:Int)) <$> Rtype.kind t) #[.pointer (some ⟨1,50,none⟩)]).run Tryz.prog w=.ok (.int .u8 2) w:=Zc
theorem rlm (z:Sem Value) (f:TypeId->Addr->Nat->Nat->Sem Value) (v:Value):
 ReflectliteValue.method z f #[v]=(do match <- ReflectliteValue.parts v with|none=>z|some (t,a,fl)=>f t a fl (fl%32)):=rfl
theorem QkE (a:Addr) (w:World):(ReflectliteValue.parts (.agg #[.pointer (some ⟨1,85,none⟩),.pointer (some a),.int .u64 150])).run Tryz.prog w=.ok (some (85,a,150)) w:=Zc
theorem QkF (a p:Addr) (W:World) (ha:W.cell? a=some (.pointer (some p))):
 (ReflectliteValue.method (ReflectliteValue.valueError "reflectlite.Value.IsNil" 0) ReflectliteValue.isNil #[.agg #[.pointer (some ⟨1,85,none⟩),.pointer (some a),.int .u64 150]]).run Tryz.prog W=.ok (.bool false) W:=by
 rw[rlm]
 simp only[Zx,QkE,ZbA]
 simp[ReflectliteValue.isNil,loadVar,isAgg,underlying,Tryz.underlying85,ha,ZbA]
theorem Qfc (h:Value) (w:World):(Zdp 348 173 (.agg #[h]) "Elem").run Tryz.prog w=.ok (145,.agg #[h]) w:=Zc
theorem QbJ (h:Value) (w:World):(Zdp 348 173 (.agg #[h]) "Implements").run Tryz.prog w=.ok (146,.agg #[h]) w:=Zc
theorem Qa4 (h:Value) (w:World):(Zdp 348 173 (.agg #[h]) "AssignableTo").run Tryz.prog w=.ok (143,.agg #[h]) w:=Zc
theorem QoJ (w:World):(ReflectliteType.method ReflectliteType.elem #[.agg #[.pointer (some ⟨1,85,none⟩)]]).run Tryz.prog w=.ok (.iface 173 (.agg #[.pointer (some ⟨1,50,none⟩)])) w:=Zc
theorem Qeo (w:World):(ReflectliteType.relation "Implements" ReflectliteType.implements_ #[.agg #[.pointer (some ⟨1,50,none⟩)],.iface 173 (.agg #[.pointer (some ⟨1,41,none⟩)])]).run Tryz.prog w=.ok (.bool true) w:=Zc
theorem Qi5 (v:Value) (w:World):(ReflectliteType.typeOf #[.iface 50 v]).run Tryz.prog w=.ok (.iface 173 (.agg #[.pointer (some ⟨1,50,none⟩)])) w:=Zc
theorem QoE (v:Value) (w:World):(ReflectliteType.typeOf #[.iface 80 v]).run Tryz.prog w=.ok (.iface 173 (.agg #[.pointer (some ⟨1,80,none⟩)])) w:=Zc
theorem Qep (w:World):(ReflectliteType.relation "AssignableTo" ReflectliteType.assignableTo #[.agg #[.pointer (some ⟨1,50,none⟩)],.iface 173 (.agg #[.pointer (some ⟨1,50,none⟩)])]).run Tryz.prog w=.ok (.bool true) w:=Zc
theorem Qh0 (w:World):(ReflectliteType.relation "AssignableTo" ReflectliteType.assignableTo #[.agg #[.pointer (some ⟨1,80,none⟩)],.iface 173 (.agg #[.pointer (some ⟨1,50,none⟩)])]).run Tryz.prog w=.ok (.bool false) w:=Zc
theorem Qg5 (e:Int) (w:World):(ReflectliteValue.unpack (.iface 50 (.int .i64 e))).run Tryz.prog w
 = .ok (.agg #[.pointer (some ⟨1,50,none⟩),.pointer (some ⟨w.heap.size,0,none⟩),.int .u64 130]) (w.alloc (.cells #[.int .i64 e] 50)):=Zc
theorem QoK (w:World):(Rtype.elem? 85).run Tryz.prog w=.ok (some 50) w:=Zc
theorem asMkE (p:Addr) (w:World):(ReflectliteValue.mk 50 p ReflectliteValue.flagAddr).run Tryz.prog w=.ok (.agg #[.pointer (some ⟨1,50,none⟩),.pointer (some p),.int .u64 386]) w:=Zc
theorem QoI (a p:Addr) (W:World) (ha:W.cell? a=some (.pointer (some p))):
 (ReflectliteValue.method (ReflectliteValue.valueError "reflectlite.Value.Elem" 0) ReflectliteValue.elem #[.agg #[.pointer (some ⟨1,85,none⟩),.pointer (some a),.int .u64 150]]).run Tryz.prog W
  = .ok (.agg #[.pointer (some ⟨1,50,none⟩),.pointer (some p),.int .u64 386]) W:=by
 rw[rlm]
 simp only[Zx,QkE,ZbA]
 simp[ReflectliteValue.elem,loadVar,isAgg,underlying,Tryz.underlying85,ha,ZbA,QoK,asMkE]
theorem rls (v x:Value):ReflectliteValue.set #[v,x]=(do
 let (some (dst,a,fl),some (src,b,_)):=(<- ReflectliteValue.parts v,<- ReflectliteValue.parts x)
  |unsupported (.noEntry "extern/(internal/reflectlite.Value).Set.zeroValue")
 if fl/ReflectliteValue.flagAddr%2==0 then unsupported (.noEntry "extern/(internal/reflectlite.Value).Set.unaddressable")
 let val <- loadVar src b
 if <- Rtype.directlyAssignable dst src then storeVar dst a val
 else if <- Rtype.implements dst src then
  if (<- Rtype.kind src)==20 then
   match val with
   |.nilIface=>unsupported (.noEntry "extern/reflectlite: a nil value of one interface type handed on as a value of another")
   |_=>storeVar dst a val
  else storeVar dst a (.iface src val)
 else panicString ("reflectlite.Set: value of type " ++(<- Rtype.spelt src)++ " is not assignable to type " ++(<- Rtype.spelt dst))
 pure (.tuple #[])):=rfl
theorem QoF (a:Addr) (w:World):(ReflectliteValue.parts (.agg #[.pointer (some ⟨1,50,none⟩),.pointer (some a),.int .u64 386])).run Tryz.prog w=.ok (some (50,a,386)) w:=Zc
theorem Qqz (a:Addr) (w:World):(ReflectliteValue.parts (.agg #[.pointer (some ⟨1,50,none⟩),.pointer (some a),.int .u64 130])).run Tryz.prog w=.ok (some (50,a,130)) w:=Zc
theorem QoL (w:World):(Rtype.directlyAssignable 50 50).run Tryz.prog w=.ok true w:=Zc
theorem QqR (ta b:Addr) (e:Int) (old:Value) (W:World) (hb:W.cell? b=some (.int .i64 e)) (ht:W.cell? ta=some old) (hf:W.frozen? ta=false):
 (ReflectliteValue.set #[.agg #[.pointer (some ⟨1,50,none⟩),.pointer (some ta),.int .u64 386],.agg #[.pointer (some ⟨1,50,none⟩),.pointer (some b),.int .u64 130]]).run Tryz.prog W
  = .ok (.tuple #[]) (W.setCell ta (.int .i64 e)):=by
 rw[rls]
 simp only[Zx,QoF,Qqz,ZbA]
 simp[ReflectliteValue.flagAddr,loadVar,isAgg,underlying,Tryz.underlying50,hb,ZbA,QoL,storeVar,Value.cells,storeCells,Addr.add]
 rw[run_store Tryz.prog W ta _ _ (by rfl)]
 simp[ht,hf]
def asW (w:World) (t:Addr):World:=((w.alloc (.cells #[.pointer (some t)] 85)).alloc (.cells #[.pointer (some ⟨1,85,none⟩),.pointer (some ⟨w.heap.size,0,none⟩),.int .u64 150] 140)).alloc (.cells #[.pointer (some ⟨1,85,none⟩),.pointer (some ⟨w.heap.size,0,none⟩),.int .u64 150] 140)
set_option maxHeartbeats 4000000 in
theorem Qqy (e:Int) (t:Addr) (old:Value) (w:World) (hg:w.cell? ⟨0,0,none⟩=some (.iface 173 (.agg #[.pointer (some ⟨1,41,none⟩)]))) (ht0:w.cell? t=some old) (hf0:w.frozen? t=false):
 Calls Tryz.prog 33 #[.iface 50 (.int .i64 e),.iface 85 (.pointer (some t))] w λev w'=>ev=.returned (.bool true)/\w'=((asW w t).alloc (.cells #[.int .i64 e] 50)).setCell t (.int .i64 e):=by
 have h6:=@run_callFunc_extern Tryz.prog 62 _ (λargs=>ReflectliteValue.unpack (args.getD 0 (.tuple #[]))) Tryz.func62 Zc Zc Zc Zc
 have h7:=@run_callFunc_extern Tryz.prog 63 _ (ReflectliteValue.methodAny (ReflectliteValue.valueError "reflectlite.Value.Type" 0) (λt _ _ _=>ReflectliteType.toType t)) Tryz.func63 Zc Zc Zc Zc
 have h8:=@run_callFunc_extern Tryz.prog 64 _ (ReflectliteValue.method (ReflectliteValue.valueError "reflectlite.Value.IsNil" 0) ReflectliteValue.isNil) Tryz.func64 Zc Zc Zc Zc
 have h27:=@run_callFunc_extern Tryz.prog 133 _ (ReflectliteType.abiMethod λt=>do pure (.int .u8 (<- Rtype.kind t))) Tryz.func133 Zc Zc Zc Zc
 have h37:=@run_callFunc_extern Tryz.prog 145 _ (ReflectliteType.method ReflectliteType.elem) Tryz.func145 Zc Zc Zc Zc
 have h38:=@run_callFunc_extern Tryz.prog 146 _ (ReflectliteType.relation "Implements" ReflectliteType.implements_) Tryz.func146 Zc Zc Zc Zc
 have h10:=@run_callFunc_extern Tryz.prog 81 _ ReflectliteType.typeOf Tryz.func81 Zc Zc Zc Zc
 have h35:=@run_callFunc_extern Tryz.prog 143 _ (ReflectliteType.relation "AssignableTo" ReflectliteType.assignableTo) Tryz.func143 Zc Zc Zc Zc
 have h11:=@run_callFunc_extern Tryz.prog 82 _ (ReflectliteValue.method (ReflectliteValue.valueError "reflectlite.Value.Elem" 0) ReflectliteValue.elem) Tryz.func82 Zc Zc Zc Zc
 have h12:=@run_callFunc_extern Tryz.prog 83 _ ReflectliteValue.set Tryz.func83 Zc Zc Zc Zc
 have tO:=Qi5
 have mA:=Qa4
 have a25:=Qep
 have v25:=Qg5
 have f6:=Qg4
 have f7:=QoD
 have mK:=Qfb
 have mE:=Qfc
 have mI:=QbJ
 have k27:=QoG
 have k25:=QoH
 have e27:=QoJ
 have i25:=Qeo
 have n8:=QkF ⟨w.heap.size,0,none⟩ t ((w.alloc (.cells #[.pointer (some t)] 85)).alloc (.cells #[.pointer (some ⟨1,85,none⟩),.pointer (some ⟨w.heap.size,0,none⟩),.int .u64 150] 140)) (by simp)
 have hlt:0<w.heap.size:=by
  rcases Yz w.heap.size with h0|h
  . simp[ZaT,h0]at hg
  . exact h
 have hg2:((w.alloc (.cells #[.pointer (some t)] 85)).alloc (.cells #[.pointer (some ⟨1,85,none⟩),.pointer (some ⟨w.heap.size,0,none⟩),.int .u64 150] 140)).cell? ⟨0,0,none⟩=some (.iface 173 (.agg #[.pointer (some ⟨1,41,none⟩)])):=by
  rw[Z3 _ _ ⟨0,0,none⟩ (by simp),Z3 _ _ ⟨0,0,none⟩ hlt];exact hg
 have htl:t.block<w.heap.size:=by
  rcases Yy t.block w.heap.size with h|h
  . exact h
  . simp[ZaT,ZaS h]at ht0
 have el:=QoI ⟨w.heap.size,0,none⟩ t (asW w t) (by unfold asW;rw[Z3 _ _ ⟨w.heap.size,0,none⟩ (by simp;omega)];simp)
 have st:=QqR t ⟨w.heap.size+1+1+1,0,none⟩ e old ((asW w t).alloc (.cells #[.int .i64 e] 50))
  (by rw[Zdn _ _ _ _ (by simp[asW])];rfl)
  (by unfold asW;rw[Z3 _ _ t (by simp;omega),Z3 _ _ t (by simp;omega),Z3 _ _ t (by simp;omega),Z3 _ _ t htl];exact ht0)
  (by unfold asW;rw[Y6 _ _ t (by simp;omega),Y6 _ _ t (by simp;omega),Y6 _ _ t (by simp;omega),Y6 _ _ t (ZbH htl)];exact hf0)
 unfold asW at el st ⊢
 go_enter Tryz.func33,Tryz.ntmps33
 go_wp2
 refine wp_loop_rounds 1 ?_
 rw[rounds_succ]
 go_wp2
 go_ret
 exact⟨rfl,rfl⟩
theorem asNoAs (v:Value) (xT:TypeId) (w:World):(Zd3 (.iface 80 v) xT 178 true).run Tryz.prog w=.ok (.tuple #[.nilIface,.bool false]) w:=run_typeAssert_lacksB Tryz.underlying178 Zc Zc v xT w
theorem QjN (v:Value) (xT:TypeId) (w:World):(Zd3 (.iface 80 v) xT 181 true).run Tryz.prog w=.ok (.tuple #[.iface 80 v,.bool true]) w:=run_typeAssert_hasB Tryz.underlying181 Zc v xT w
theorem Qgz (h:Value) (w:World):(Zdp 348 80 h "Unwrap").run Tryz.prog w=.ok (138,h) w:=Zc
set_option maxHeartbeats 4000000 in
theorem as_at (e:Int) (pb po:Nat) (t:Addr) (old:Value) (w:World) (hg:w.cell? ⟨0,0,none⟩=some (.iface 173 (.agg #[.pointer (some ⟨1,41,none⟩)]))) (ht0:w.cell? t=some old) (hf0:w.frozen? t=false) (hp:w.cell? ⟨pb,po,none⟩=some (.int .i64 e)):
 Calls Tryz.prog 33 #[.iface 80 (.pointer (some ⟨pb,po,none⟩)),.iface 85 (.pointer (some t))] w λev w'=>ev=.returned (.bool true)/\w'=((asW w t).alloc (.cells #[.int .i64 e] 50)).setCell t (.int .i64 e):=by
 have h6:=@run_callFunc_extern Tryz.prog 62 _ (λargs=>ReflectliteValue.unpack (args.getD 0 (.tuple #[]))) Tryz.func62 Zc Zc Zc Zc
 have h7:=@run_callFunc_extern Tryz.prog 63 _ (ReflectliteValue.methodAny (ReflectliteValue.valueError "reflectlite.Value.Type" 0) (λt _ _ _=>ReflectliteType.toType t)) Tryz.func63 Zc Zc Zc Zc
 have h8:=@run_callFunc_extern Tryz.prog 64 _ (ReflectliteValue.method (ReflectliteValue.valueError "reflectlite.Value.IsNil" 0) ReflectliteValue.isNil) Tryz.func64 Zc Zc Zc Zc
 have h27:=@run_callFunc_extern Tryz.prog 133 _ (ReflectliteType.abiMethod λt=>do pure (.int .u8 (<- Rtype.kind t))) Tryz.func133 Zc Zc Zc Zc
 have h37:=@run_callFunc_extern Tryz.prog 145 _ (ReflectliteType.method ReflectliteType.elem) Tryz.func145 Zc Zc Zc Zc
 have h38:=@run_callFunc_extern Tryz.prog 146 _ (ReflectliteType.relation "Implements" ReflectliteType.implements_) Tryz.func146 Zc Zc Zc Zc
 have h10:=@run_callFunc_extern Tryz.prog 81 _ ReflectliteType.typeOf Tryz.func81 Zc Zc Zc Zc
 have h35:=@run_callFunc_extern Tryz.prog 143 _ (ReflectliteType.relation "AssignableTo" ReflectliteType.assignableTo) Tryz.func143 Zc Zc Zc Zc
 have h11:=@run_callFunc_extern Tryz.prog 82 _ (ReflectliteValue.method (ReflectliteValue.valueError "reflectlite.Value.Elem" 0) ReflectliteValue.elem) Tryz.func82 Zc Zc Zc Zc
 have h12:=@run_callFunc_extern Tryz.prog 83 _ ReflectliteValue.set Tryz.func83 Zc Zc Zc Zc
 have tO:=Qi5
 have tA:=QoE
 have a26:=Qh0
 have nA:=asNoAs
 have hU:=QjN
 have mU:=Qgz
 have mA:=Qa4
 have a25:=Qep
 have v25:=Qg5
 have f6:=Qg4
 have f7:=QoD
 have mK:=Qfb
 have mE:=Qfc
 have mI:=QbJ
 have k27:=QoG
 have k25:=QoH
 have e27:=QoJ
 have i25:=Qeo
 have n8:=QkF ⟨w.heap.size,0,none⟩ t ((w.alloc (.cells #[.pointer (some t)] 85)).alloc (.cells #[.pointer (some ⟨1,85,none⟩),.pointer (some ⟨w.heap.size,0,none⟩),.int .u64 150] 140)) (by simp)
 have hlt:0<w.heap.size:=by
  rcases Yz w.heap.size with h0|h
  . simp[ZaT,h0]at hg
  . exact h
 have hg2:((w.alloc (.cells #[.pointer (some t)] 85)).alloc (.cells #[.pointer (some ⟨1,85,none⟩),.pointer (some ⟨w.heap.size,0,none⟩),.int .u64 150] 140)).cell? ⟨0,0,none⟩=some (.iface 173 (.agg #[.pointer (some ⟨1,41,none⟩)])):=by
  rw[Z3 _ _ ⟨0,0,none⟩ (by simp),Z3 _ _ ⟨0,0,none⟩ hlt];exact hg
 have htl:t.block<w.heap.size:=by
  rcases Yy t.block w.heap.size with h|h
  . exact h
  . simp[ZaT,ZaS h]at ht0
 have el:=QoI ⟨w.heap.size,0,none⟩ t (asW w t) (by unfold asW;rw[Z3 _ _ ⟨w.heap.size,0,none⟩ (by simp;omega)];simp)
 have st:=QqR t ⟨w.heap.size+1+1+1,0,none⟩ e old ((asW w t).alloc (.cells #[.int .i64 e] 50))
  (by rw[Zdn _ _ _ _ (by simp[asW])];rfl)
  (by unfold asW;rw[Z3 _ _ t (by simp;omega),Z3 _ _ t (by simp;omega),Z3 _ _ t (by simp;omega),Z3 _ _ t htl];exact ht0)
  (by unfold asW;rw[Y6 _ _ t (by simp;omega),Y6 _ _ t (by simp;omega),Y6 _ _ t (by simp;omega),Y6 _ _ t (ZbH htl)];exact hf0)
 have hpl:pb<w.heap.size:=by
  rcases Yy pb w.heap.size with h|h
  . exact h
  . simp[ZaT,ZaS h]at hp
 have hp2:(asW w t).cell? ⟨pb,po,none⟩=some (.int .i64 e):=by
  unfold asW;rw[Z3 _ _ ⟨pb,po,none⟩ (by simp;omega),Z3 _ _ ⟨pb,po,none⟩ (by simp;omega),Z3 _ _ ⟨pb,po,none⟩ hpl];exact hp
 unfold asW at el st hp2 ⊢
 go_enter Tryz.func33,Tryz.ntmps33
 go_wp2
 refine wp_loop_rounds 2 ?_
 rw[rounds_succ]
 go_wp2
 rw[rounds_succ]
 go_wp2
 go_ret
 exact⟨rfl,rfl⟩
end
section
open Go.RowKit
theorem QoC (w:World) (t:Addr):Below w.heap.size w (asW w t):=(((Below.refl _ _).alloc (Zq _) _).alloc (by simp) _).alloc (by simp;omega) _
theorem Qrk (v:Value) (e:Int) (w:World) (hg:ErrType w) (hv:v=.iface 50 (.int .i64 e)\/∃pb po,v=.iface 80 (.pointer (some ⟨pb,po,none⟩))/\w.cell? ⟨pb,po,none⟩=some (.int .i64 e)):
 Calls Tryz.prog 16 #[v] w λev w'=>ev=.returned (.int .i64 e)/\Below w.heap.size w w':=by
 have hlt:0<w.heap.size:=by
  rcases Yz w.heap.size with h0|h
  . simp[ErrType,ZaT,h0]at hg
  . exact h
 have hg1:(w.alloc (.cells #[.int .i64 0] 50)).cell? ⟨0,0,none⟩=some (.iface 173 (.agg #[.pointer (some ⟨1,41,none⟩)])):=by
  rw[Z3 _ _ ⟨0,0,none⟩ hlt];exact hg
 have ht1:(w.alloc (.cells #[.int .i64 0] 50)).cell? ⟨w.heap.size,0,none⟩=some (.int .i64 0):=by simp
 have hf1:(w.alloc (.cells #[.int .i64 0] 50)).frozen? ⟨w.heap.size,0,none⟩=false:=by simp
 have hc:Calls Tryz.prog 33 #[v,.iface 85 (.pointer (some ⟨w.heap.size,0,none⟩))] (w.alloc (.cells #[.int .i64 0] 50)) λev w'=>ev=.returned (.bool true)/\w'.cell? ⟨w.heap.size,0,none⟩=some (.int .i64 e)/\Below w.heap.size w w':=by
  have fin:∀w',w'=((asW (w.alloc (.cells #[.int .i64 0] 50)) ⟨w.heap.size,0,none⟩).alloc (.cells #[.int .i64 e] 50)).setCell ⟨w.heap.size,0,none⟩ (.int .i64 e)->w'.cell? ⟨w.heap.size,0,none⟩=some (.int .i64 e)/\Below w.heap.size w w':=by
   rintro w' rfl
   refine⟨World.cell?_setCell_same _ _ _ (u:=.int .i64 0) ?_,?_⟩
   . unfold asW
     rw[Z3 _ _ ⟨w.heap.size,0,none⟩ (by simp;omega),Z3 _ _ ⟨w.heap.size,0,none⟩ (by simp;omega),Z3 _ _ ⟨w.heap.size,0,none⟩ (by simp;omega),Z3 _ _ ⟨w.heap.size,0,none⟩ (by simp)]
     exact ht1
   . have b1:Below w.heap.size w (asW (w.alloc (.cells #[.int .i64 0] 50)) ⟨w.heap.size,0,none⟩):=((Below.refl _ _).alloc (Zq _) _).trans ((QoC _ _).mono (by simp))
     exact Below.setCell (b1.alloc (by simp[asW];omega) _) (p:=⟨w.heap.size,0,none⟩) (Zq w.heap.size) _
  rcases hv with rfl|⟨pb,po,rfl,hp⟩
  . exact (Qqy e _ _ _ hg1 ht1 hf1).mono λev w' ⟨h1,h2⟩=>⟨h1,fin w' h2⟩
  . refine (as_at e pb po _ _ _ hg1 ht1 hf1 ?_).mono λev w' ⟨h1,h2⟩=>⟨h1,fin w' h2⟩
    rw[Z3 _ _ ⟨pb,po,none⟩ (by
     show pb<w.heap.size
     rcases Yy pb w.heap.size with h|h
     . exact h
     . simp[ZaT,ZaS h]at hp)]
    exact hp
 have hn:∃t u,v=.iface t u:=by
  rcases hv with rfl|⟨pb,po,rfl,-⟩
  . exact⟨_,_,rfl⟩
  . exact⟨_,_,rfl⟩
 clear hv
 obtain⟨ty,u,rfl⟩:=hn
 go_enter Tryz.func16,Tryz.ntmps16
 go_wp2_with (go_at_call 33;refine hc.mono ?_;rintro e w' ⟨rfl,hcell,hbel⟩)
 go_ret
 exact⟨rfl,hbel⟩
inductive TellS where
 |no (e:Int)
 |at (e p:Int)
def TellS.e:TellS->Int
 |.no e=>e
 |.at e _=>e
def QhJ:RCon where
 σ:=TellS
 χ:=Unit
 pre _:=True
 args s:=match s with
  |.no e=>[.c (.v (.iface 50 (.int .i64 e)))]
  |.at _ _=>[.c (.i 80 0 0)]
 mem s:=match s with
  |.no _=>[]
  |.at e p=>[.cells [.one (.v (.int .i64 e)),.one (.v (.int .i64 p))] 82]
 ok _ _:=True
 val s _:=sv (.int .i64 s.e)
 new _ _:=[]
 len:=0
 det:=some ()
 find args M:=match args with
  |[.c (.i _ b _)]=>some [b]
  |_=>some []
theorem Qo3 (W:World) (hE:ErrType W):(Con.rd QhJ).holdsAt Tryz.prog W (λ_=>False) 16:=by
 refine⟨Zc,λx0 h s x=>⟨rfl,Zd⟩,λρ s w _ hK hM=>?_⟩
 have hlt:0<W.heap.size:=by
  rcases Yz W.heap.size with h0|h
  . simp[ErrType,ZaT,h0]at hE
  . exact h
 have hg:ErrType w:=(hK.cell hlt (λh=>h)).trans hE
 have key:∀v:Value,(v=.iface 50 (.int .i64 s.e)\/∃pb po,v=.iface 80 (.pointer (some ⟨pb,po,none⟩))/\w.cell? ⟨pb,po,none⟩=some (.int .i64 s.e))->Calls Tryz.prog 16 #[v] w λe w'=>∃(x:Unit) (ρ':Nat->Nat),True/\(∀i,i<(QhJ.mem s).length->ρ' i=ρ i)/\0=0/\e=.returned ((QhJ.val s x).den ρ')/\Mem w (λ_=>False) [] w':=λv hv=>by
  refine (Qrk v s.e w hg hv).mono λe w' ⟨h1,h2⟩=>⟨(),ρ,Zd,λ_ _=>rfl,rfl,h1,⟨(Kept.refl _ w).trans (Kept.of_below h2),by simp,by simp,Zal⟩⟩
 cases s with
 |no e=>exact key _ (.inl rfl)
 | «at» e p=>
   have h0:(En.blk (ρ 0) [.int .i64 e,.int .i64 p] 82).at w:=hM _ (List.mem_singleton.2 rfl)
   exact key _ (.inr ⟨ρ 0,0,rfl,Blk.cell h0 0⟩)
abbrev rowsE (m c:Nat) (z:Nat->Nat->Int):SB:=.rows 47 [.int .i64,.int .i64,.int .i64,.int .i64,.int .i64,.int .i64,.int .i64,.int .i64,.int .i64] 9 m c z
def evL:List (List Int):=[[1,0,1,0,3,0,0,0,0],[2,0,1,0,3,1,0,1,0]]
def deL:List (List Int):=[[0,1,0,3,1,0],[1,2,0,0,1,3]]
def Qeh:RCon where
 σ:=Unit
 χ:=Unit
 pre _:=True
 args _:=[.c (.so 0 0 9 2 2 true),.c (.v (.slice none 0 0))]
 mem _:=[rowsE 2 2 (zOf evL)]
 ok _ _:=True
 val _ _:=.o (.c (.v (.iface 50 (.int .i64 7))))
 new _ _:=[]
 len:=0
 det:=some ()
 find args M:=match args with
  |[.c (.so b _ _ _ _ _),.c (.v _)]=>some [b]
  |_=>none
theorem QnP:(Con.rd Qeh).holds Tryz.prog 17:=by
 intro w0 S
 refine QfN (AG:=[]) (Γ:=[(34,.inl Tryz.f34 (Tryz.f34.body.getD .skip))]) Tryz.func17 rfl Zc Qf Qc (λ_ _=>.cons ⟨Zc,Tryz.func34,rfl⟩ (.nil _ _ _)) Qeh (λx0 h s x=>⟨rfl,Zd⟩) [] (λ_ _=>[]) 2000 ?_
 rintro⟨⟩ ρ w - - hM
 have hE:RowAt w (ρ 0) 47 9 2 2 (QJ (ckAt [.int .i64,.int .i64,.int .i64,.int .i64,.int .i64,.int .i64,.int .i64,.int .i64,.int .i64]) 9 (zOf evL) 2):=hM _ (List.mem_singleton.2 rfl)
 obtain⟨a,c',e1,hr,ha,hnc⟩:=QmF (b:=0) (lo:=0) (n:=2) (nn:=true) (kf:=λ_=>.i64) hE rfl rfl (Zq _)
 refine⟨[.c (.r a 2 c' 2 9 (λ_=>.i64) (λi=>zOf evL (0+i))),.c (.v (.slice none 0 0))],by simp only[Qeh,List.map_cons,List.map_nil,SA.den,e1];rfl,rfl,?_⟩
 refine Qk (q:=((Rws 9 (λ(x:Nat)=>.i64) w a 2 c' λ(i j:Nat)=>match Zl (match Zl [[(1:Int),(0:Int),(1:Int),(0:Int),(3:Int),(0:Int),(0:Int),(0:Int),(0:Int)],[(2:Int),(0:Int),(1:Int),(0:Int),(3:Int),(1:Int),(0:Int),(1:Int),(0:Int)]] (0+i)with|some x=>x|none=>[]) j with|some x=>x|none=>(0:Int))/\(0:Int)<=(0:Int)/\(0:Int)<(2:Int)/\0<2)/\((Rws 9 (λ(x:Nat)=>.i64) w a 2 c' λ(i j:Nat)=>match Zl (match Zl [[(1:Int),(0:Int),(1:Int),(0:Int),(3:Int),(0:Int),(0:Int),(0:Int),(0:Int)],[(2:Int),(0:Int),(1:Int),(0:Int),(3:Int),(1:Int),(0:Int),(1:Int),(0:Int)]] (0+i)with|some x=>x|none=>[]) j with|some x=>x|none=>(0:Int))/\0<2)/\false=false/\(True/\(1<=1/\1=1)/\1<=68719476736)/\∀(c:Nat),1<=c->((Rws 9 (λ(x:Nat)=>.i64) w a 2 c' λ(i j:Nat)=>match Zl (match Zl [[(1:Int),(0:Int),(1:Int),(0:Int),(3:Int),(0:Int),(0:Int),(0:Int),(0:Int)],[(2:Int),(0:Int),(1:Int),(0:Int),(3:Int),(1:Int),(0:Int),(1:Int),(0:Int)]] (0+i)with|some x=>x|none=>[]) j with|some x=>x|none=>(0:Int))/\(0:Int)<=(1:Int)/\(1:Int)<(2:Int)/\1<2)/\((Rws 9 (λ(x:Nat)=>.i64) w a 2 c' λ(i j:Nat)=>match Zl (match Zl [[(1:Int),(0:Int),(1:Int),(0:Int),(3:Int),(0:Int),(0:Int),(0:Int),(0:Int)],[(2:Int),(0:Int),(1:Int),(0:Int),(3:Int),(1:Int),(0:Int),(1:Int),(0:Int)]] (0+i)with|some x=>x|none=>[]) j with|some x=>x|none=>(0:Int))/\1<2)/\((0:Int)<=(0:Int)/\(0:Int)<(1:Int)/\1<=c)/\0<1/\dP Tryz.f34 16 7 [xE 11,xE 10,xR 9 5,xF 8 5,xR 7 4,xF 6 4,xF 5 4,xE 4,xF 3 4,xE 2,xE 1,xE 0]/\((0:Int)<=(0:Int)/\(0:Int)<(1:Int)/\1<=c)/\0<1/\((0:Int)<=(0:Int)/\(0:Int)<(1:Int)/\1<=c)/\0<1/\((0:Int)<=(0:Int)/\(0:Int)<(1:Int)/\1<=c)/\0<1/\dP Tryz.f34 18 7 [⟨20,[],[4],[],false⟩,xF 19 4,xF 18 4,⟨17,[],[4],[],false⟩,xF 16 4,xF 15 4,⟨14,[],[4],[],false⟩,xF 13 4,xF 12 4,xR 11 5,xF 10 5,xR 9 5,xF 8 5,xE 7,xE 6,xE 5,xF 4 4,xE 3,xF 2 4,xE 1,xF 0 4]/\true=true/\((0:Int)<=(0:Int)/\(0:Int)=(0:Int)/\(0:Int)<=(68719476736:Int))/\1<=c/\((0:Int)<=(0:Int)/\(0:Int)<(1:Int)/\1<=c)/\0<1/\endD Qeh [] (λ(x:SV) (x_1:List SB)=>[]) PUnit.unit (ZG (Zt (.v (.iface 50 (ZA .i64 (7:Int)))))) [SB.mf (λ(x:Int)=>bif x==(0:Int)then false else bif x==(0:Int)then true else false) λ(x:Int)=>bif x==(0:Int)then (0:Int)else (0:Int),Zj [sI 1,sI 0,sI 1,sI 0,sI 3,sI 0,sI 0,sI 0,sI 0] 47,Zj [sI 10,sI 0] 82,Zk 91 kI9 9 1 1 λ(i j:Nat)=>match Zl (match Zl [[(0:Int),(1:Int),(0:Int),(3:Int),(1:Int),(0:Int),(0:Int),(0:Int),(0:Int)]] i with|some x=>x|none=>[]) j with|some x=>x|none=>(0:Int),Zk 91 kI9 9 1 c λ(i j:Nat)=>bif match ZE i 0 with|false=>false|true=>match ZL 7 j with|false=>false|true=>ZL j 8 then match Zl [(1:Int),(0:Int)] (match match match match match match match j with|0=>0|Yg a=>a with|0=>0|Yg a=>a with|0=>0|Yg a=>a with|0=>0|Yg a=>a with|0=>0|Yg a=>a with|0=>0|Yg a=>a with|0=>0|Yg a=>a)with|some x=>x|none=>(0:Int)else bif match ZE i 0 with|false=>false|true=>match ZL 6 j with|false=>false|true=>ZL j 6 then match Zl [(1:Int)] (match match match match match match j with|0=>0|Yg a=>a with|0=>0|Yg a=>a with|0=>0|Yg a=>a with|0=>0|Yg a=>a with|0=>0|Yg a=>a with|0=>0|Yg a=>a)with|some x=>x|none=>(0:Int)else bif match ZE i 0 with|false=>false|true=>match ZL 5 j with|false=>false|true=>ZL j 5 then match Zl [(2:Int)] (match match match match match j with|0=>0|Yg a=>a with|0=>0|Yg a=>a with|0=>0|Yg a=>a with|0=>0|Yg a=>a with|0=>0|Yg a=>a)with|some x=>x|none=>(0:Int)else match Zl (match Zl [[(0:Int),(1:Int),(0:Int),(3:Int),(1:Int),(0:Int),(0:Int),(0:Int),(0:Int)]] (0+i)with|some x=>x|none=>[]) j with|some x=>x|none=>(0:Int),Zj [sI 2,sI 0,sI 1,sI 0,sI 3,sI 1,sI 0,sI 1,sI 0] 47,Zj [sI 10,sI 1] 82,Zk 3 [.int .i64] 1 0 0 λ(x x_1:Nat)=>(0:Int),Zj [sI 0,sI 1,sI 0,sI 3,sI 1,sI 2,sI 1,sI 1,sI 0] 91]) Zc ?_
 refine⟨⟨Qk (q:=Rws 9 (λ_=>.i64) w a 2 c' (λi=>zOf evL (0+i))) Zc hr,Zb,Zb,Zb⟩,⟨Qk (q:=Rws 9 (λ_=>.i64) w a 2 c' (λi=>zOf evL (0+i))) Zc hr,Zb⟩,?_⟩
 first
  |refine⟨⟨Zd,⟨Zq _,rfl⟩,Zb⟩,λc hc=>?_⟩
  |refine⟨rfl,⟨Zd,⟨Zq _,rfl⟩,Zb⟩,λc hc=>?_⟩
 repeat' (first|(show Rws 9 (λ_=>.i64) w a 2 c' _;exact Qk (q:=Rws 9 (λ_=>.i64) w a 2 c' (λi=>zOf evL (0+i))) Zc hr)|exact (rfl:false=false)|exact Qd Zc|exact hc|omega|refine And.intro ?_ ?_)
 all_goals first|exact⟨(),Zd,rfl,rfl⟩|kernel_rfl
def Qfv:RCon where
 σ:=Int
 χ:=Unit
 pre _:=True
 args k:=[.c (.v (.int .i64 k)),.c (.v (.slice none 0 0))]
 mem _:=[]
 ok _ _:=True
 val _ _:=.o (QcQ (λ_=>0))
 new _ _:=[]
 len:=0
 det:=some ()
 find _ _:=some []
theorem Qnc:(Con.rd Qfv).holds Tryz.prog 28:=by
 intro w0 S
 refine QfN (AG:=[]) (Γ:=[]) Tryz.func28 rfl Zc Qf Qc (λ_ _=>.nil _ _ _) Qfv (λx0 h s x=>⟨rfl,Zd⟩) [] (λ_ _=>[]) 400 ?_
 rintro k ρ w - - -
 refine⟨[.c (.v (.int .i64 k)),.c (.r none 0 0 0 3 (λ_=>.i64) (λ_ _=>0))],rfl,rfl,?_⟩
 refine Qk (q:=((0:Int)<=(0:Int)/\(0:Int)<=(0:Int))/\endD Qfv [] (λ(x:SV) (x_1:List SB)=>[]) k (ZG (Zz [nU 17 zF])) [Zj [nU 17 zF] 39,Zj [nU 17 zF] 39]) Zc ?_
 exact⟨⟨Zb,Zb⟩,(),Zd,rfl,rfl⟩
def jH:List Ev:=[⟨1,0,1,0,3,0,0,0,0⟩,⟨2,0,1,0,3,1,0,1,0⟩]
def jDl:List Dd:=[⟨0,1,0,3,1,0⟩]
theorem jS_pre {ze zd:Nat->Nat->Int}(he:ze=zOf evL) (hd:zd=zOf deL):Qol.pre (⟨jH,2,2,true,ze,jDl,2,2,true,zd⟩:FtS):=by
 subst he hd
 refine⟨⟨λi hi=>?_,⟨Zb,⟨Zb,Zb⟩,λi hi j hj=>?_⟩,Zb,⟨Zb,Zb⟩,λi hi j hj=>?_⟩,Zc⟩
 . have hi:i<2:=hi
   match i,hi with
   |0,_=>exact .inl ⟨rfl,λj hj=>absurd hj (ZP _)⟩
   |1,_=>exact .inr (.inl ⟨rfl,0,⟨Zb,rfl,rfl,λj hj hn=>absurd hj (by show ¬j<1;omega)⟩,rfl,rfl,rfl⟩)
 . have hi:i<2:=hi
   match i,hi with
   |0,_=>match j,hj with
    |0,_|1,_|2,_|3,_|4,_|5,_|6,_|7,_|8,_=>rfl
   |1,_=>match j,hj with
    |0,_|1,_|2,_|3,_|4,_|5,_|6,_|7,_|8,_=>rfl
 . have hi:i<1:=hi
   match i,hi with
   |0,_=>match j,hj with
    |0,_|1,_|2,_|3,_|4,_|5,_=>rfl
def QcM:PCon:=⟨λargs=>match args with
 |[]=>True
 |_=>False,λ_=>sv (.bool true),λ_=>none⟩
theorem Qsr (W:World) (hE:ErrType W):(Con.pure QcM).holdsAt Tryz.prog W (λ_=>False) 6:=by
 have hlt:0<W.heap.size:=by
  rcases Yz W.heap.size with h0|h
  . simp[ErrType,ZaT,h0]at hE
  . exact h
 refine QcA (Γ:=[(23,.pure QiP),(28,.rd Qfv),(30,.pure Ql5),(31,.pure Qaw),(12,.inl Tryz.f12 (Tryz.f12.body.getD .skip)),(16,.rd QhJ),(17,.mem Qol),(17,.rd Qeh)]) Tryz.func6 rfl Zc Qf Qc
  (λw hK=>.cons (QmV w _) (.cons (Qnc w _) (.cons (Qnn w _) (.cons (Qn9 w _) (.cons ⟨Zc,Tryz.func12,rfl⟩ (.cons (Qo3 w ((hK.cell hlt (λh=>h)).trans hE)) (.cons (QrP w _) (.cons (QnP w _) (.nil _ _ _))))))))) QcM (λ_=>[]) 2000 ?_
 intro w args hp hK
 unfold QcM at hp;dsimp only at hp;split at hp
 case h_2=>exact hp.elim
 refine⟨rfl,?_⟩
 refine Qk (q:=True/\True/\2<=2/\((0:Int)<=(0:Int)/\(0:Int)<(2:Int)/\2<=2)/\0<2/\(17=17/\Qbx (1:Int) (toN 17 zF))/\((0:Int)<=(1:Int)/\(1:Int)<(2:Int)/\2<=2)/\1<2/\(17=17/\Qbx (1:Int) (toN 17 (fL (objR (1:Int) (toN 17 zF) (1:Int) (0:Int) (3:Int)).1)))/\((0:Int)<=(1:Int)/\(1:Int)<=(2:Int)/\(2:Int)<=(2:Int)/\(0=0\/(1:Int)<(2:Int)))/\True/\1<=2/\((0:Int)<=(0:Int)/\(0:Int)<(1:Int)/\2<=2)/\1<2/\(17=17/\Qbx (1:Int) (toN 17 zF))/\True/\True/\∃(s:Int),[aI 1,Zt (.v (.slice none 0 0))]=[aI s,Zt (.v (.slice none 0 0))]/\eN/\True/\∀(x:Unit),True->∃(s:TellS),[Zt (.i 80 15 0)]=YN (λ(x:SA)=>match x with|Zt x=>Zt (match x with|ZcA b off=>ZcA (match Zl [15] b with|some x=>x|none=>0) off|ZcB b off ix=>ZcB (match Zl [15] b with|some x=>x|none=>0) off ix|ZcC b off n c=>ZcC (match Zl [15] b with|some x=>x|none=>0) off n c|ZcD t b off=>ZcD t (match Zl [15] b with|some x=>x|none=>0) off|ZcE b n c=>ZcE (match Zl [15] b with|some x=>x|none=>0) n c|ZbB b sz ix g=>ZbB (match Zl [15] b with|some x=>x|none=>0) sz ix g|Zas b lo sz n c nn=>Zas (match Zl [15] b with|some x=>x|none=>0) lo sz n c nn|ZbC g cs=>ZbC g (YN (λ(q:Nat × Nat)=>(match Zl [15] q.1 with|some x=>x|none=>0,q.2)) cs)|ZcF b=>ZcF (match Zl [15] b with|some x=>x|none=>0)|x=>x)|Zz l=>Zz (YN (λ(x:Seg)=>match x with|Yp x=>Yp (match x with|ZcA b off=>ZcA (match Zl [15] b with|some x=>x|none=>0) off|ZcB b off ix=>ZcB (match Zl [15] b with|some x=>x|none=>0) off ix|ZcC b off n c=>ZcC (match Zl [15] b with|some x=>x|none=>0) off n c|ZcD t b off=>ZcD t (match Zl [15] b with|some x=>x|none=>0) off|ZcE b n c=>ZcE (match Zl [15] b with|some x=>x|none=>0) n c|ZbB b sz ix g=>ZbB (match Zl [15] b with|some x=>x|none=>0) sz ix g|Zas b lo sz n c nn=>Zas (match Zl [15] b with|some x=>x|none=>0) lo sz n c nn|ZbC g cs=>ZbC g (YN (λ(q:Nat × Nat)=>(match Zl [15] q.1 with|some x=>x|none=>0,q.2)) cs)|ZcF b=>ZcF (match Zl [15] b with|some x=>x|none=>0)|x=>x)|s=>s) l)) (match s with|TellS.no e=>[Zt (.v (.iface 50 (ZA .i64 e)))]|TellS.at e p=>[Zt (.i 80 0 0)])/\[Zj [sI 13,sI 0] 82]=YN (λ(x:SB)=>match x with|Zj l t=>Zj (YN (λ(x:Seg)=>match x with|Yp x=>Yp (match x with|ZcA b off=>ZcA (match Zl [15] b with|some x=>x|none=>0) off|ZcB b off ix=>ZcB (match Zl [15] b with|some x=>x|none=>0) off ix|ZcC b off n c=>ZcC (match Zl [15] b with|some x=>x|none=>0) off n c|ZcD t b off=>ZcD t (match Zl [15] b with|some x=>x|none=>0) off|ZcE b n c=>ZcE (match Zl [15] b with|some x=>x|none=>0) n c|ZbB b sz ix g=>ZbB (match Zl [15] b with|some x=>x|none=>0) sz ix g|Zas b lo sz n c nn=>Zas (match Zl [15] b with|some x=>x|none=>0) lo sz n c nn|ZbC g cs=>ZbC g (YN (λ(q:Nat × Nat)=>(match Zl [15] q.1 with|some x=>x|none=>0,q.2)) cs)|ZcF b=>ZcF (match Zl [15] b with|some x=>x|none=>0)|x=>x)|s=>s) l) t|b=>b) (match s with|TellS.no e=>[]|TellS.at e p=>[Zj [sI e,sI p] 82])/\True/\∀(x:Unit),True->bif (match s with|TellS.no e=>e|TellS.at e p=>e)==(13:Int)then ((0:Int)<=(1:Int)/\(1:Int)<=(2:Int))/\∃(s:FtS),[Zt (.so 17 0 9 2 2 true),Zt (.so 0 0 6 1 2 true)]=[Zt (.so 17 0 9 (Zg s.1) s.3 s.4),Zt (.so 0 0 6 (Zg s.6) s.8 s.9)]/\[Zk 47 kI9 9 2 2 λ(i j:Nat)=>match Zl (match Zl [[(1:Int),(0:Int),(1:Int),(0:Int),(3:Int),(0:Int),(0:Int),(0:Int),(0:Int)],[(2:Int),(0:Int),(1:Int),(0:Int),(3:Int),(1:Int),(0:Int),(1:Int),(0:Int)]] i with|some x=>x|none=>[]) j with|some x=>x|none=>(0:Int),Zk 36 kI6 6 2 2 λ(i j:Nat)=>match Zl (match Zl [[(0:Int),(1:Int),(0:Int),(3:Int),(1:Int),(0:Int)],[(1:Int),(2:Int),(0:Int),(0:Int),(1:Int),(3:Int)]] i with|some x=>x|none=>[]) j with|some x=>x|none=>(0:Int)]=[Zk 47 kI9 9 s.2 s.3 s.5,Zk 36 kI6 6 s.7 s.8 s.10]/\((WfH s.1/\(Zg s.1<=1000000000/\(Zg s.1<=s.2/\s.2<=s.3)/\IsE s.5 s.1)/\Zg s.6<=10000000/\(Zg s.6<=s.7/\s.7<=s.8)/\IsR 6 Dd.at ZR s.10 s.6)/\fitC (Qg s.1) s.6=(0:Int))/\∀(x:Unit),True->∃(s_1:Unit),[Zt (.so 17 0 9 2 2 true),Zt (.v (.slice none 0 0))]=[Zt (.so 17 0 9 2 2 true),Zt (.v (.slice none 0 0))]/\[Zk 47 kI9 9 s.2 s.3 s.5]=[Zk 47 kI9 9 2 2 λ(i j:Nat)=>match Zl (match Zl [[(1:Int),(0:Int),(1:Int),(0:Int),(3:Int),(0:Int),(0:Int),(0:Int),(0:Int)],[(2:Int),(0:Int),(1:Int),(0:Int),(3:Int),(1:Int),(0:Int),(1:Int),(0:Int)]] i with|some x=>x|none=>[]) j with|some x=>x|none=>(0:Int)]/\True/\∀(x:Unit),True->∃(s_2:TellS),[Zt (.v (.iface 50 (ZA .i64 (7:Int))))]=YN (λ(x:SA)=>match x with|Zt x=>Zt (match x with|ZcA b off=>ZcA 0 off|ZcB b off ix=>ZcB 0 off ix|ZcC b off n c=>ZcC 0 off n c|ZcD t b off=>ZcD t 0 off|ZcE b n c=>ZcE 0 n c|ZbB b sz ix g=>ZbB 0 sz ix g|Zas b lo sz n c nn=>Zas 0 lo sz n c nn|ZbC g cs=>ZbC g (YN (λ(q:Nat × Nat)=>(0,q.2)) cs)|ZcF b=>ZcF 0|x=>x)|Zz l=>Zz (YN (λ(x:Seg)=>match x with|Yp x=>Yp (match x with|ZcA b off=>ZcA 0 off|ZcB b off ix=>ZcB 0 off ix|ZcC b off n c=>ZcC 0 off n c|ZcD t b off=>ZcD t 0 off|ZcE b n c=>ZcE 0 n c|ZbB b sz ix g=>ZbB 0 sz ix g|Zas b lo sz n c nn=>Zas 0 lo sz n c nn|ZbC g cs=>ZbC g (YN (λ(q:Nat × Nat)=>(0,q.2)) cs)|ZcF b=>ZcF 0|x=>x)|s=>s) l)) (match s_2 with|TellS.no e=>[Zt (.v (.iface 50 (ZA .i64 e)))]|TellS.at e p=>[Zt (.i 80 0 0)])/\[]=YN (λ(x:SB)=>match x with|Zj l t=>Zj (YN (λ(x:Seg)=>match x with|Yp x=>Yp (match x with|ZcA b off=>ZcA 0 off|ZcB b off ix=>ZcB 0 off ix|ZcC b off n c=>ZcC 0 off n c|ZcD t b off=>ZcD t 0 off|ZcE b n c=>ZcE 0 n c|ZbB b sz ix g=>ZbB 0 sz ix g|Zas b lo sz n c nn=>Zas 0 lo sz n c nn|ZbC g cs=>ZbC g (YN (λ(q:Nat × Nat)=>(0,q.2)) cs)|ZcF b=>ZcF 0|x=>x)|s=>s) l) t|b=>b) (match s_2 with|TellS.no e=>[]|TellS.at e p=>[Zj [sI e,sI p] 82])/\True/\∀(x:Unit),True->dP Tryz.f6 5 18 [xE 25,xE 24,xE 23,xE 22,xR 21 17,xF 20 17,xE 19,xE 18,xE 17,⟨16,[],[17,0],[],false⟩,xF 15 0,xF 14 0,xF 13 17,xE 12,xE 11,xE 10,xR 9 15,xF 8 15,xE 7,xE 6,xE 5,xE 4,xR 3 9,xE 2,xE 1,xE 0]/\endP QcM [] (ZG (aB ((match s_2 with|TellS.no e=>e|TellS.at e p=>e)==(7:Int)))) []else dP Tryz.f6 5 18 [xE 25,xE 24,xE 23,xE 22,xE 21,xE 20,xE 19,xE 18,xE 17,xE 16,xE 15,xE 14,xE 13,xE 12,xE 11,xE 10,xR 9 15,xF 8 15,xE 7,xE 6,xE 5,xE 4,xR 3 9,xE 2,xE 1,xE 0]/\endP QcM [] (ZG (aB false)) []) Zc ?_
 have ok0:Qbx 1 (toN 17 λ_=>0):=Qc1 1 Zb Zb
 have ok1:Qbx 1 (toN 17 (fL (objR 1 (toN 17 λ_=>0) 1 0 3).1)):=by
  have:=Qhj ok0 1 0 3 rfl
  rw[Qa1 (XD this)];exact this
 refine⟨Zd,Zd,Zb,⟨Zb,Zb,Zb⟩,Zb,⟨rfl,ok0⟩,⟨Zb,Zb,Zb⟩,Zb,⟨rfl,ok1⟩,⟨Zb,Zb,Zb,.inl rfl⟩,Zd,Zb,⟨Zb,Zb,Zb⟩,Zb,⟨rfl,ok0⟩,Zd,Zd,(1:Int),rfl,rfl,Zd,λ_ _=>⟨TellS.at 13 0,rfl,rfl,Zd,λ_ _=>?_⟩⟩
 refine QP (λ_=>?_) (λh=>absurd rfl h)
 exact⟨⟨Zb,Zb⟩,(⟨jH,2,2,true,_,jDl,2,2,true,_⟩:FtS),rfl,rfl,jS_pre Zc Zc,λ_ _=>⟨(),rfl,rfl,Zd,λ_ _=>⟨TellS.no 7,rfl,rfl,Zd,λ_ _=>⟨Qd Zc,rfl,λρ=>rfl⟩⟩⟩⟩
structure LbS where
 k:Int
 l:List Dd
 n:Nat
 m:Nat
 c:Nat
 nn:Bool
 z:Nat->Nat->Int
structure LbS.Ok (s:LbS):Prop where
 k1:1<=s.k
 k6:s.k<=6
 hn:s.n<s.l.length
 lg:∀i,i<s.n->LgB s.k s.l i
 op:opOk (s.l.getD s.n ZR).k (s.l.getD s.n ZR).key (s.l.getD s.n ZR).x=true
 no:¬((objR s.k (lgC s.k s.l s.n) (s.l.getD s.n ZR).k (s.l.getD s.n ZR).key (s.l.getD s.n ZR).x).2.1=(s.l.getD s.n ZR).c/\(objR s.k (lgC s.k s.l s.n) (s.l.getD s.n ZR).k (s.l.getD s.n ZR).key (s.l.getD s.n ZR).x).2.2=(s.l.getD s.n ZR).v)
 len:s.l.length<=1000000000
 mc:s.l.length<=s.m/\s.m<=s.c
 d:IsD s.z s.l
theorem Qnh {k:Int}{l:List Dd}{n:Nat}(h1:1<=k) (h6:k<=6) (h:∀i,i<n->LgB k l i):∀i,i<=n->Qbx k (lgC k l i)
 |0,_=>Qc1 k h1 h6
 |i+1,hi=>Qhj (Qnh h1 h6 h i Za) _ _ _ (h i hi).op
abbrev atB (n:Nat):SB:=.cells [.one (.v (.int .i64 13)),.one (.v (.int .i64 n))] 82
def QeP:MCon:={ dcon LbS (λs=>s.Ok) (λs=>[.c (.v (.int .i64 s.k)),.c (.so 0 0 6 s.l.length s.c s.nn)]) (λs=>[Qdl s.m s.c s.z]) (λs=>.t [QcQ (λ_=>0),.c (.i 80 1 0)]) (λs=>[Qdl s.m s.c s.z,atB s.n]) 1 (λargs _=>some (blkA args))with len:=2 }
structure LbG (s:LbS) where
 i:Nat
 hi:i<=s.n
def QoQ (s:LbS):Ann where
 σ:=LbG s
 I g:=([(0,sv (.int .i64 s.k)),(4,.o (.c (.p 1 0))),(6,.o (.c (.p 2 0))),(17,.o (.c (.so 0 0 6 s.l.length s.c s.nn))),(18,sv (.int .i64 s.l.length)),(19,sv (.int .i64 g.i))],[Qdl s.m s.c s.z,Qel (λ_=>0),Qel (fL (lgC s.k s.l g.i))])
 dec g:=s.n-g.i
 pi env _:=[0,blkE env 4,blkE env 6]
 nz:=[]
theorem legB_con:(ZH QeP).holds Tryz.prog 12:=by
 intro w0 S
 refine Qa (Γ:=[(30,.pure Ql5),(31,.pure Qaw)]) (λ_=>noW) Tryz.func12 rfl Zc Qf Qc (λw S' _ _=>.cons (Qnn w S') (.cons (Qn9 w S') (.nil _ _ _))) QeP (λs=>[(12,[(0,QoQ s)])]) (λx0 h s x=>⟨rfl,Zd⟩) (λs ρ w _ _ _=>Qj w _) [] (λv M=>match v with
  |.t [_,.c (.i _ b _)]=>[0,b]
  |_=>[]) 400 ?_
 rintro⟨k,l,n,m,c,nn,z⟩ w ⟨h1,h6,hn,lg,op,no,len,⟨h4,h5⟩,h7⟩ -
 refine⟨rfl,?_⟩
 dsimp only at h1 h6 hn lg op no len h4 h5 h7
 refine Qk (q:=True/\bif bif decide ((1:Int)<=k/\k<=(6:Int))then false else true then endN QeP [] (λ(v:SV) (M:List SB)=>match v with|ZS [head,Zt (.i t b off)]=>[0,b]|x=>[]) (LbS.mk k l n m c nn z) (ZS [Zz [nU 17 zF],Zt (.v (.iface 50 (ZA .i64 (1:Int))))]) [Zk 36 kI6 6 m c z,Zj [nU 17 zF] 39,Zj [nU 17 zF] 39]else Zg l<=c/\(∃(s0:Ann.σ (QoQ (LbS.mk k l n m c nn z))),(eS (aI k) (aI k)/\eS (aP 1 0) (aP 1 0)/\eS (aP 2 0) (aP 2 0)/\eS (Zt (.so 0 0 6 (Zg l) c nn)) (Zt (.so 0 0 6 (Zg l) c nn))/\eS (aI (↑(Zg l):Int)) (aI (↑(Zg l):Int))/\eS (aI 0) (aI ↑s0.1)/\True)/\[Zk 36 kI6 6 m c z,Zj [nU 17 zF] 39,Zj [nU 17 zF] 39]=[Zk 36 kI6 6 m c z,Zj [nU 17 zF] 39,Zj [nU 17 (fL (lgC k l s0.1))] 39])/\∀(s:LbG (LbS.mk k l n m c nn z)),bif decide ((↑s.1:Int)<(↑(Zg l):Int))then ((0:Int)<=(↑s.1:Int)/\(↑s.1:Int)<(↑(Zg l):Int)/\0+Zg l<=c)/\0+Zh (↑s.1:Int)<m/\(17=17/\Qbx k (toN 17 (fL (lgC k l s.1))))/\bif opOk (z (0+Zh (↑s.1:Int)) 1) (z (0+Zh (↑s.1:Int)) 2) (z (0+Zh (↑s.1:Int)) 3)then bif bif bif (Yx (objR k (toN 17 (fL (lgC k l s.1))) (z (0+Zh (↑s.1:Int)) 1) (z (0+Zh (↑s.1:Int)) 2) (z (0+Zh (↑s.1:Int)) 3))).1==z (0+Zh (↑s.1:Int)) 4 then bif (Yx (objR k (toN 17 (fL (lgC k l s.1))) (z (0+Zh (↑s.1:Int)) 1) (z (0+Zh (↑s.1:Int)) 2) (z (0+Zh (↑s.1:Int)) 3))).2==z (0+Zh (↑s.1:Int)) 5 then true else false else false then false else true then endN QeP [] (λ(v:SV) (M:List SB)=>match v with|ZS [head,Zt (.i t b off)]=>[0,b]|x=>[]) (LbS.mk k l n m c nn z) (ZS [Zz [nU 17 zF],Zt (.i 80 6 0)]) [Zk 36 kI6 6 m c z,Zj [nU 17 zF] 39,Zj [nU 17 (fL (lgC k l s.1))] 39,Zj [sI (z (0+Zh (↑s.1:Int)) 0),sI (z (0+Zh (↑s.1:Int)) 1),sI (z (0+Zh (↑s.1:Int)) 2),sI (z (0+Zh (↑s.1:Int)) 3),sI (z (0+Zh (↑s.1:Int)) 4),sI (z (0+Zh (↑s.1:Int)) 5)] 36,Zj [nU 17 (fL (objR k (toN 17 (fL (lgC k l s.1))) (z (0+Zh (↑s.1:Int)) 1) (z (0+Zh (↑s.1:Int)) 2) (z (0+Zh (↑s.1:Int)) 3)).1)] 39,Zj [sI (Yx (objR k (toN 17 (fL (lgC k l s.1))) (z (0+Zh (↑s.1:Int)) 1) (z (0+Zh (↑s.1:Int)) 2) (z (0+Zh (↑s.1:Int)) 3))).1,sI (Yx (objR k (toN 17 (fL (lgC k l s.1))) (z (0+Zh (↑s.1:Int)) 1) (z (0+Zh (↑s.1:Int)) 2) (z (0+Zh (↑s.1:Int)) 3))).2] 24,Zj [sI 13,sI (↑s.1:Int)] 82]else ∃(s':LbG (LbS.mk k l n m c nn z)),((eS (aI k) (aI k)/\eS (aP 1 0) (aP 1 0)/\eS (aP 2 0) (aP 2 0)/\eS (Zt (.so 0 0 6 (Zg l) c nn)) (Zt (.so 0 0 6 (Zg l) c nn))/\eS (aI (↑(Zg l):Int)) (aI (↑(Zg l):Int))/\eS (aI (Zi .i64 ((↑s.1:Int)+(1:Int)))) (aI ↑s'.1)/\True)/\[Zk 36 kI6 6 m c z,Zj [nU 17 zF] 39,Zj [nU 17 (fL (objR k (toN 17 (fL (lgC k l s.1))) (z (0+Zh (↑s.1:Int)) 1) (z (0+Zh (↑s.1:Int)) 2) (z (0+Zh (↑s.1:Int)) 3)).1)] 39]=[Zk 36 kI6 6 m c z,Zj [nU 17 zF] 39,Zj [nU 17 (fL (lgC k l s'.1))] 39])/\n-s'.1<n-s.1 else endN QeP [] (λ(v:SV) (M:List SB)=>match v with|ZS [head,Zt (.i t b off)]=>[0,b]|x=>[]) (LbS.mk k l n m c nn z) (ZS [Zz [nU 17 zF],Zt (.i 80 6 0)]) [Zk 36 kI6 6 m c z,Zj [nU 17 zF] 39,Zj [nU 17 (fL (lgC k l s.1))] 39,Zj [sI (z (0+Zh (↑s.1:Int)) 0),sI (z (0+Zh (↑s.1:Int)) 1),sI (z (0+Zh (↑s.1:Int)) 2),sI (z (0+Zh (↑s.1:Int)) 3),sI (z (0+Zh (↑s.1:Int)) 4),sI (z (0+Zh (↑s.1:Int)) 5)] 36,Zj [nU 17 zF] 39,Zj [sI 0,sI 0] 24,Zj [sI 13,sI (↑s.1:Int)] 82]else endN QeP [] (λ(v:SV) (M:List SB)=>match v with|ZS [head,Zt (.i t b off)]=>[0,b]|x=>[]) (LbS.mk k l n m c nn z) (ZS [Zz [nU 17 (fL (lgC k l s.1))],Zt (.v ZM)]) [Zk 36 kI6 6 m c z,Zj [nU 17 (fL (lgC k l s.1))] 39,Zj [nU 17 (fL (lgC k l s.1))] 39]) Zc ?_
 refine⟨Zd,QjJ (λh=>absurd ⟨h1,h6⟩ h) (λ_=>⟨Za,⟨⟨0,Z9 _⟩,⟨rfl,rfl,rfl,rfl,rfl,rfl,Zd⟩,?_⟩,?_⟩)⟩
 . rw[show (fL (lgC k l 0))=λ_=>0 from funext λi=>Qd8 17 i]
 intro g
 have hi:g.i<=n:=g.hi
 generalize hgi:g.i=i at hi
 refine Qo (λhlt=>?_) (λhge=>absurd hge Za)
 have hi':i<l.length:=Za
 have hok:=Qnh h1 h6 lg i hi
 have e:toN 17 (fL (lgC k l i))=lgC k l i:=Qa1 (XD hok)
 obtain⟨z0,z1,z2,z3,z4,z5⟩:=h7 i hi'
 rw[Zv,e,Zu i,z1,z2,z3,z4,z5]
 refine⟨⟨Za,Za,Za⟩,Za,⟨rfl,hok⟩,?_⟩
 by_cases hin:i<n
 . have hb:=lg i hin
   rw[hb.c,hb.v]
   exact QL (λ_=>Xn (λh=>absurd h (by simp)) (λ_=>⟨⟨i+1,hin⟩,⟨⟨rfl,rfl,rfl,rfl,rfl,svI (sucI Za),Zd⟩,rfl⟩,by dsimp only;omega⟩)) (λh=>absurd (hb.op.symm.trans h) Zb)
 . obtain rfl:i=n:=Za
   refine QL (λ_=>Xn (λ_=>⟨(),Zd,rfl,rfl⟩) (λh=>absurd ?_ no)) (λh=>absurd (op.symm.trans h) Zb)
   revert h
   generalize (objR k (lgC k l i) (l.getD i ZR).k (l.getD i ZR).key (l.getD i ZR).x).2=q
   intro h
   cases h3:q.1==(l.getD i ZR).c
   . rw[h3]at h;exact absurd h (by simp)
   . cases h4:q.2==(l.getD i ZR).v
     . rw[h3,h4]at h;exact absurd h (by simp)
     . exact⟨of_decide_eq_true h3,of_decide_eq_true h4⟩
end
section
def idxE (p:Ev->Bool) (h:List Ev):Nat->Nat->Int
 |0,_=>-1
 |n+1,i=>bif p (h.getD i YU)then (i:Int)else idxE p h n (i+1)
theorem QnB {p:Ev->Bool}{h:List Ev}:∀n i,0<=idxE p h n i->∃j,j<i+n/\p (h.getD j YU)=true
 |0,i,hx=>absurd hx (by show ¬(0:Int)<= -1;decide)
 |n+1,i,hx=>by
  unfold idxE at hx
  cases hp:p (h.getD i YU)
  . rw[hp]at hx
    obtain⟨j,h1,h2⟩:=QnB n (i+1) hx
    exact⟨j,Za,h2⟩
  . exact⟨i,Za,hp⟩
theorem QnA {p:Ev->Bool}{h:List Ev}:∀n i,¬0<=idxE p h n i->∀j,i<=j->j<i+n->p (h.getD j YU)=false
 |0,i,_,j,h1,h2=>Za
 |n+1,i,hx,j,h1,h2=>by
  unfold idxE at hx
  cases hp:p (h.getD i YU)
  . rw[hp]at hx
    by_cases e:j=i
    . rw[e];exact hp
    . exact QnA n (i+1) hx j Za Za
  . rw[hp]at hx
    exact absurd (Int.natCast_nonneg i) hx
def hasE (p:Ev->Bool) (h:List Ev):Bool:=decide (0<=idxE p h h.length 0)
theorem hasE_t {p:Ev->Bool}{h:List Ev}(hx:hasE p h=true):∃j,j<h.length/\p (h.getD j YU)=true:=by
 obtain⟨j,h1,h2⟩:=QnB h.length 0 (of_decide_eq_true hx)
 exact⟨j,Za,h2⟩
theorem hasE_f {p:Ev->Bool}{h:List Ev}(hx:hasE p h=false) (j:Nat) (hj:j<h.length):p (h.getD j YU)=false:=
 QnA h.length 0 (of_decide_eq_false hx) j (Z9 _) Za
def Qby (n:Int) (e:Ev):Bool:=e.kind==2&&e.whn==n
def Qe9 (t k key x:Int) (e:Ev):Bool:=e.kind==1&&(e.t==t&&(e.k==k&&(e.key==key&&e.x==x)))
end
section
open Go.RowKit
abbrev evtA (x:Nat->Int):SA:=.a [.one (.v (.int .i64 (x 0))),.one (.v (.int .i64 (x 1))),.one (.v (.int .i64 (x 2))),.one (.v (.int .i64 (x 3))),.one (.v (.int .i64 (x 4))),.one (.v (.int .i64 (x 5))),.one (.v (.int .i64 (x 6))),.one (.v (.int .i64 (x 7))),.one (.v (.int .i64 (x 8)))]
abbrev nIB (x:Int):SB:=.cells [.one (.v (.int .i64 x))] 3
abbrev ddSB (d:Nat->Int):SB:=.cells [.one (.v (.int .i64 (d 0))),.one (.v (.int .i64 (d 1))),.one (.v (.int .i64 (d 2))),.one (.v (.int .i64 (d 3))),.one (.v (.int .i64 (d 4))),.one (.v (.int .i64 (d 5)))] 36
structure EvS (τ:Type) where
 h:List Ev
 m:Nat
 c:Nat
 nn:Bool
 z:Nat->Nat->Int
 x:τ
abbrev EvS.pre {τ:Type}(s:EvS τ):Prop:=s.h.length<=1000000000/\(s.h.length<=s.m/\s.m<=s.c)/\IsE s.z s.h
structure EvG {τ:Type}(q:Ev->Bool) (s:EvS τ) where
 i:Nat
 hi:i<=s.h.length
 hn:idxE q s.h (s.h.length-i) i=idxE q s.h s.h.length 0
def slB (M:List SB) (b:Nat):Nat:=match getB M b with
 |.cells [.one (.so c _ _ _ _ _)] _=>c
 |_=>0
structure DvS where
 n:Nat
 m:Nat
 c:Nat
 nn:Bool
 z:Nat->Nat->Int
theorem QhF {τ:Type}{q:Ev->Bool}{h:List Ev}{i:Nat}(hi:i<h.length) (hn:idxE q h (h.length-i) i=idxE q h h.length 0):(q (h.getD i YU)=true->(i:Int)=idxE q h h.length 0)/\(q (h.getD i YU)=false->idxE q h (h.length-(i+1)) (i+1)=idxE q h h.length 0):=by
 rw[show h.length-i=h.length-(i+1)+1 by omega]at hn
 have hn:(bif q (h.getD i YU)then (i:Int)else idxE q h (h.length-(i+1)) (i+1))=idxE q h h.length 0:=hn
 constructor
 . intro hq;rw[hq]at hn;exact hn
 . intro hq;rw[hq]at hn;exact hn
def evQB (x:Int):Ev->Bool:=Qby (x+1)
def QiU:MCon:=dcon ((Nat->Int) × Int × Ev) (λs=>(s.2.1+1<=9223372036854775807/\-9223372036854775808<=s.2.1+1)/\∀j,j<9->s.1 j=s.2.2.at j) (λs=>[evtA s.1,.c (.p 0 0)]) (λs=>[nIB s.2.1]) (λs=>sv (.bool (evQB s.2.1 s.2.2))) (λs=>[nIB s.2.1]) 1 (λargs M=>match args with
 |[_,.c (.p b _)]=>some [b]
 |_=>none)
theorem Qr8:(ZH QiU).holds Tryz.prog 15:=by
 intro w0 S
 refine Qa (Γ:=[]) (λ_=>noW) Tryz.func15 rfl Zc Qf Qc (λ_ _ _ _=>.nil _ _ _) QiU (λs=>[]) (λx0 h s x=>⟨rfl,Zd⟩) (λs ρ w _ _ _=>Qj w _) [] (Qi 1) 400 ?_
 rintro⟨y,x,e⟩ w ⟨hx,hy⟩ -
 refine⟨rfl,?_⟩
 dsimp only at hx hy
 refine Qk (q:=bif y 0==(2:Int)then endN QiU [] (Qi 1) (y,x,e) (ZG (aB (y 7==Zi .i64 (x+(1:Int))))) [Zj [sI x] 3,Zj [sI (y 0),sI (y 1),sI (y 2),sI (y 3),sI (y 4),sI (y 5),sI (y 6),sI (y 7),sI (y 8)] 47]else endN QiU [] (Qi 1) (y,x,e) (ZG (aB false)) [Zj [sI x] 3,Zj [sI (y 0),sI (y 1),sI (y 2),sI (y 3),sI (y 4),sI (y 5),sI (y 6),sI (y 7),sI (y 8)] 47]) Zc ?_
 have k0:y 0=e.kind:=hy 0 Zb
 have k7:y 7=e.whn:=hy 7 Zb
 refine QP (λha=>⟨(),Zd,congrArg (λb=>ZG (Zt (ZbP (.bool b)))) (show _=evQB x e from ?_),rfl⟩) (λha=>⟨(),Zd,congrArg (λb=>ZG (Zt (ZbP (.bool b)))) (show _=evQB x e from ?_),rfl⟩)
 . unfold evQB Qby
   rw[Qx Za Za,k7,show e.kind=2 from k0.symm.trans ha];rfl
 . unfold evQB Qby
   rw[show (e.kind==2)=false from beq_eq_false_iff_ne.2 (λh=>ha (k0.trans h))];rfl
def QgW:MCon:=dcon (EvS Int) (λs=>s.pre/\(s.x+1<=9223372036854775807/\-9223372036854775808<=s.x+1)) (λs=>[.c (.so 0 0 9 s.h.length s.c s.nn),.c (.fn 15 [(1,0)])]) (λs=>Qbo s.m s.c s.z::[nIB s.x]) (λs=>sv (.int .i64 (idxE (evQB s.x) s.h s.h.length 0))) (λs=>Qbo s.m s.c s.z::[nIB s.x]) 2 (λargs M=>match args with
 |[.c (.so b _ _ _ _ _),.c (.fn g ((x,_)::_))]=>bif ZE g 15 then some [b,x]else none
 |_=>none)
def QqY (s:EvS Int):Ann where
 σ:=EvG (evQB s.x) s
 I g:=([(0,.o (.c (.so 0 0 9 s.h.length s.c s.nn))),(1,.o (.c (.fn 15 [(1,0)]))),(7,sv (.int .i64 s.h.length)),(8,sv (.int .i64 g.i))],Qbo s.m s.c s.z::[nIB s.x])
 dec g:=s.h.length-g.i
 pi _ _:=[0,1]
 nz:=[]
theorem QrL:(ZH QgW).holds Tryz.prog 32:=by
 intro w0 S
 refine Qa (Γ:=[(15,.mem QiU)]) (λ_=>noW) Tryz.func32 rfl Zc Qf Qc (λw S' _ _=>.cons (Qr8 w S') (.nil _ _ _)) QgW (λs=>[(32,[(0,QqY s)])]) (λx0 h s x=>⟨rfl,Zd⟩) (λs ρ w _ _ _=>Qj w _) [] (Qi 2) 400 ?_
 rintro⟨h,m,c,nn,z,x⟩ w ⟨⟨h0,h1,h2⟩,hx⟩ -
 refine⟨rfl,?_⟩
 dsimp only at h0 h1 h2 hx
 refine Qk (q:=Zg h<=c/\(∃(s0:Ann.σ (QqY (EvS.mk h m c nn z x))),(eS (Zt (.so 0 0 9 (Zg h) c nn)) (Zt (.so 0 0 9 (Zg h) c nn))/\eS (Zt (.fn 15 [(1,0)])) (Zt (.fn 15 [(1,0)]))/\eS (aI (↑(Zg h):Int)) (aI (↑(Zg h):Int))/\eS (aI 0) (aI ↑s0.1)/\True)/\[Zk 47 kI9 9 m c z,Zj [sI x] 3]=[Zk 47 kI9 9 m c z,Zj [sI x] 3])/\∀(s:EvG (Qby (x+(1:Int))) (EvS.mk h m c nn z x)),bif decide ((↑s.1:Int)<(↑(Zg h):Int))then ((0:Int)<=(↑s.1:Int)/\(↑s.1:Int)<(↑(Zg h):Int)/\0+Zg h<=c)/\0+Zh (↑s.1:Int)<m/\∃(s_1:(Nat->Int) × Int × Ev),[Zz [sI (z (0+Zh (↑s.1:Int)) 0),sI (z (0+Zh (↑s.1:Int)) 1),sI (z (0+Zh (↑s.1:Int)) 2),sI (z (0+Zh (↑s.1:Int)) 3),sI (z (0+Zh (↑s.1:Int)) 4),sI (z (0+Zh (↑s.1:Int)) 5),sI (z (0+Zh (↑s.1:Int)) 6),sI (z (0+Zh (↑s.1:Int)) 7),sI (z (0+Zh (↑s.1:Int)) 8)],aP 1 0]=[Zz [sI (s_1.1 0),sI (s_1.1 1),sI (s_1.1 2),sI (s_1.1 3),sI (s_1.1 4),sI (s_1.1 5),sI (s_1.1 6),sI (s_1.1 7),sI (s_1.1 8)],aP 1 0]/\[Zj [sI x] 3]=[Zj [sI s_1.2.1] 3]/\((s_1.2.1+(1:Int)<=(9223372036854775807:Int)/\(-9223372036854775808:Int)<=s_1.2.1+(1:Int))/\∀(j:Nat),j<9->s_1.1 j=Ev.at s_1.2.2 j)/\∀(x_1:Unit),True->bif Qby (s_1.2.1+(1:Int)) s_1.2.2 then endN QgW [] (Qi 2) (EvS.mk h m c nn z x) (ZG (aI ↑s.1)) [Zk 47 kI9 9 m c z,Zj [sI s_1.2.1] 3]else ∃(s':EvG (Qby (x+(1:Int))) (EvS.mk h m c nn z x)),((eS (Zt (.so 0 0 9 (Zg h) c nn)) (Zt (.so 0 0 9 (Zg h) c nn))/\eS (Zt (.fn 15 [(1,0)])) (Zt (.fn 15 [(1,0)]))/\eS (aI (↑(Zg h):Int)) (aI (↑(Zg h):Int))/\eS (aI (Zi .i64 ((↑s.1:Int)+(1:Int)))) (aI ↑s'.1)/\True)/\[Zk 47 kI9 9 m c z,Zj [sI s_1.2.1] 3]=[Zk 47 kI9 9 m c z,Zj [sI x] 3])/\Zg h-s'.1<Zg h-s.1 else endN QgW [] (Qi 2) (EvS.mk h m c nn z x) (ZG (aI (-1:Int))) [Zk 47 kI9 9 m c z,Zj [sI x] 3]) Zc ?_
 have e0 (j:Nat):0+(j:Int).toNat=j:=by rw[Zv,Zu]
 refine⟨ZV h1.1 h1.2,⟨⟨0,Z9 _,rfl⟩,⟨rfl,rfl,rfl,rfl,Zd⟩,rfl⟩,?_⟩
 rintro⟨i,hi,hn⟩
 dsimp only at hi hn ⊢
 rw[e0 i]
 refine Qo (λhlt=>?_) (λhge=>?_)
 . have hlt':i<h.length:=Za
   have hs:=QhF (τ:=Nat) hlt' hn
   refine⟨⟨Za,hlt,Za⟩,Za,(z i,x,h.getD i YU),rfl,rfl,⟨hx,λj hj=>h2 i hlt' j hj⟩,λ_ _=>QL (λhb=>⟨(),Zd,congrArg (λq=>ZG (Zt (ZbP (.int .i64 q)))) (hs.1 hb),rfl⟩) (λhb=>⟨⟨i+1,hlt',hs.2 hb⟩,⟨⟨rfl,rfl,rfl,svI (sucI Za),Zd⟩,rfl⟩,by dsimp only;omega⟩)⟩
 . have hin:h.length-i=0:=Za
   rw[hin]at hn
   exact⟨(),Zd,congrArg (λq=>ZG (Zt (ZbP (.int .i64 q)))) hn,rfl⟩
def Qok:MCon:={ QgW with val:=λs _=>sv (.bool (hasE (evQB s.x) s.h)) }
theorem heB_con:(ZH Qok).holds Tryz.prog 13:=by
 intro w0 S
 refine Qa (Γ:=[(32,.mem QgW)]) (λ_=>noW) Tryz.func13 rfl Zc Qf Qc (λw S' _ _=>.cons (QrL w S') (.nil _ _ _)) Qok (λs=>[]) (λx0 h s x=>⟨rfl,Zd⟩) (λs ρ w _ _ _=>Qj w _) [] (Qi 2) 400 ?_
 rintro⟨h,m,c,nn,z,x⟩ w hp -
 refine⟨rfl,?_⟩
 refine Qk (q:=∃(s:EvS Int),[Zt (.so 0 0 9 (Zg h) c nn),Zt (.fn 15 [(1,0)])]=[Zt (.so 0 0 9 (Zg s.1) s.3 s.4),Zt (.fn 15 [(1,0)])]/\[Zk 47 kI9 9 m c z,Zj [sI x] 3]=[Zk 47 kI9 9 s.2 s.3 s.5,Zj [sI s.6] 3]/\((Zg s.1<=1000000000/\(Zg s.1<=s.2/\s.2<=s.3)/\IsE s.5 s.1)/\s.6+(1:Int)<=(9223372036854775807:Int)/\(-9223372036854775808:Int)<=s.6+(1:Int))/\∀(x_1:Unit),True->endN Qok [] (Qi 2) (EvS.mk h m c nn z x) (ZG (aB (decide (idxE (Qby (s.6+(1:Int))) s.1 (Zg s.1) 0>=(0:Int))))) [Zk 47 kI9 9 s.2 s.3 s.5,Zj [sI s.6] 3]) Zc ?_
 exact⟨⟨h,m,c,nn,z,x⟩,rfl,rfl,hp,λ_ _=>⟨(),Zd,rfl,rfl⟩⟩
def evQL (x:DvS):Ev->Bool:=Qby ((DvS.n x:Nat):Int)
def QiT:MCon:=dcon ((Nat->Int) × DvS × Ev) (λs=>(DvS.n s.2.1<=1000000000/\DvS.n s.2.1<=DvS.c s.2.1)/\∀j,j<9->s.1 j=s.2.2.at j) (λs=>[evtA s.1,.c (.p 0 0)]) (λs=>[.cells [.one (.so 1 0 6 (DvS.n s.2.1) (DvS.c s.2.1) (DvS.nn s.2.1))] 30,Qdl (DvS.m s.2.1) (DvS.c s.2.1) (DvS.z s.2.1)]) (λs=>sv (.bool (evQL s.2.1 s.2.2))) (λs=>[.cells [.one (.so 1 0 6 (DvS.n s.2.1) (DvS.c s.2.1) (DvS.nn s.2.1))] 30,Qdl (DvS.m s.2.1) (DvS.c s.2.1) (DvS.z s.2.1)]) 2 (λargs M=>match args with
 |[_,.c (.p b _)]=>some [b,slB M b]
 |_=>none)
theorem Qr7:(ZH QiT).holds Tryz.prog 18:=by
 intro w0 S
 refine Qa (Γ:=[]) (λ_=>noW) Tryz.func18 rfl Zc Qf Qc (λ_ _ _ _=>.nil _ _ _) QiT (λs=>[]) (λx0 h s x=>⟨rfl,Zd⟩) (λs ρ w _ _ _=>Qj w _) [] (Qi 2) 400 ?_
 rintro⟨y,x,e⟩ w ⟨hx,hy⟩ -
 refine⟨rfl,?_⟩
 dsimp only at hx hy
 refine Qk (q:=bif y 0==(2:Int)then x.1<=x.3/\endN QiT [] (Qi 2) (y,x,e) (ZG (aB (y 7==(↑x.1:Int)))) [Zj [sS 1 0 6 x.1 x.3 x.4] 30,Zk 36 kI6 6 x.2 x.3 x.5,Zj [sI (y 0),sI (y 1),sI (y 2),sI (y 3),sI (y 4),sI (y 5),sI (y 6),sI (y 7),sI (y 8)] 47]else endN QiT [] (Qi 2) (y,x,e) (ZG (aB false)) [Zj [sS 1 0 6 x.1 x.3 x.4] 30,Zk 36 kI6 6 x.2 x.3 x.5,Zj [sI (y 0),sI (y 1),sI (y 2),sI (y 3),sI (y 4),sI (y 5),sI (y 6),sI (y 7),sI (y 8)] 47]) Zc ?_
 have k0:y 0=e.kind:=hy 0 Zb
 have k7:y 7=e.whn:=hy 7 Zb
 refine QP (λha=>⟨hx.2,(),Zd,congrArg (λb=>ZG (Zt (ZbP (.bool b)))) (show _=evQL x e from ?_),rfl⟩) (λha=>⟨(),Zd,congrArg (λb=>ZG (Zt (ZbP (.bool b)))) (show _=evQL x e from ?_),rfl⟩)
 . unfold evQL Qby
   rw[k7,show e.kind=2 from k0.symm.trans ha];rfl
 . unfold evQL Qby
   rw[show (e.kind==2)=false from beq_eq_false_iff_ne.2 (λh=>ha (k0.trans h))];rfl
def QgV:MCon:=dcon (EvS DvS) (λs=>s.pre/\(DvS.n s.x<=1000000000/\DvS.n s.x<=DvS.c s.x)) (λs=>[.c (.so 0 0 9 s.h.length s.c s.nn),.c (.fn 18 [(1,0)])]) (λs=>Qbo s.m s.c s.z::[.cells [.one (.so 2 0 6 (DvS.n s.x) (DvS.c s.x) (DvS.nn s.x))] 30,Qdl (DvS.m s.x) (DvS.c s.x) (DvS.z s.x)]) (λs=>sv (.int .i64 (idxE (evQL s.x) s.h s.h.length 0))) (λs=>Qbo s.m s.c s.z::[.cells [.one (.so 2 0 6 (DvS.n s.x) (DvS.c s.x) (DvS.nn s.x))] 30,Qdl (DvS.m s.x) (DvS.c s.x) (DvS.z s.x)]) 3 (λargs M=>match args with
 |[.c (.so b _ _ _ _ _),.c (.fn g ((x,_)::_))]=>bif ZE g 18 then some [b,x,slB M x]else none
 |_=>none)
def QqX (s:EvS DvS):Ann where
 σ:=EvG (evQL s.x) s
 I g:=([(0,.o (.c (.so 0 0 9 s.h.length s.c s.nn))),(1,.o (.c (.fn 18 [(1,0)]))),(7,sv (.int .i64 s.h.length)),(8,sv (.int .i64 g.i))],Qbo s.m s.c s.z::[.cells [.one (.so 2 0 6 (DvS.n s.x) (DvS.c s.x) (DvS.nn s.x))] 30,Qdl (DvS.m s.x) (DvS.c s.x) (DvS.z s.x)])
 dec g:=s.h.length-g.i
 pi _ _:=[0,1,2]
 nz:=[]
theorem QrK:(ZH QgV).holds Tryz.prog 32:=by
 intro w0 S
 refine Qa (Γ:=[(18,.mem QiT)]) (λ_=>noW) Tryz.func32 rfl Zc Qf Qc (λw S' _ _=>.cons (Qr7 w S') (.nil _ _ _)) QgV (λs=>[(32,[(0,QqX s)])]) (λx0 h s x=>⟨rfl,Zd⟩) (λs ρ w _ _ _=>Qj w _) [] (Qi 3) 400 ?_
 rintro⟨h,m,c,nn,z,x⟩ w ⟨⟨h0,h1,h2⟩,hx⟩ -
 refine⟨rfl,?_⟩
 dsimp only at h0 h1 h2 hx
 refine Qk (q:=Zg h<=c/\(∃(s0:Ann.σ (QqX (EvS.mk h m c nn z x))),(eS (Zt (.so 0 0 9 (Zg h) c nn)) (Zt (.so 0 0 9 (Zg h) c nn))/\eS (Zt (.fn 18 [(1,0)])) (Zt (.fn 18 [(1,0)]))/\eS (aI (↑(Zg h):Int)) (aI (↑(Zg h):Int))/\eS (aI 0) (aI ↑s0.1)/\True)/\[Zk 47 kI9 9 m c z,Zj [sS 2 0 6 x.1 x.3 x.4] 30,Zk 36 kI6 6 x.2 x.3 x.5]=[Zk 47 kI9 9 m c z,Zj [sS 2 0 6 x.1 x.3 x.4] 30,Zk 36 kI6 6 x.2 x.3 x.5])/\∀(s:EvG (Qby (↑x.1:Int)) (EvS.mk h m c nn z x)),bif decide ((↑s.1:Int)<(↑(Zg h):Int))then ((0:Int)<=(↑s.1:Int)/\(↑s.1:Int)<(↑(Zg h):Int)/\0+Zg h<=c)/\0+Zh (↑s.1:Int)<m/\∃(s_1:(Nat->Int) × DvS × Ev),[Zz [sI (z (0+Zh (↑s.1:Int)) 0),sI (z (0+Zh (↑s.1:Int)) 1),sI (z (0+Zh (↑s.1:Int)) 2),sI (z (0+Zh (↑s.1:Int)) 3),sI (z (0+Zh (↑s.1:Int)) 4),sI (z (0+Zh (↑s.1:Int)) 5),sI (z (0+Zh (↑s.1:Int)) 6),sI (z (0+Zh (↑s.1:Int)) 7),sI (z (0+Zh (↑s.1:Int)) 8)],aP 1 0]=[Zz [sI (s_1.1 0),sI (s_1.1 1),sI (s_1.1 2),sI (s_1.1 3),sI (s_1.1 4),sI (s_1.1 5),sI (s_1.1 6),sI (s_1.1 7),sI (s_1.1 8)],aP 1 0]/\[Zj [sS 2 0 6 x.1 x.3 x.4] 30,Zk 36 kI6 6 x.2 x.3 x.5]=[Zj [sS 2 0 6 s_1.2.1.1 s_1.2.1.3 s_1.2.1.4] 30,Zk 36 kI6 6 s_1.2.1.2 s_1.2.1.3 s_1.2.1.5]/\((s_1.2.1.1<=1000000000/\s_1.2.1.1<=s_1.2.1.3)/\∀(j:Nat),j<9->s_1.1 j=Ev.at s_1.2.2 j)/\∀(x_1:Unit),True->bif Qby (↑s_1.2.1.1:Int) s_1.2.2 then endN QgV [] (Qi 3) (EvS.mk h m c nn z x) (ZG (aI ↑s.1)) [Zk 47 kI9 9 m c z,Zj [sS 2 0 6 s_1.2.1.1 s_1.2.1.3 s_1.2.1.4] 30,Zk 36 kI6 6 s_1.2.1.2 s_1.2.1.3 s_1.2.1.5]else ∃(s':EvG (Qby (↑x.1:Int)) (EvS.mk h m c nn z x)),((eS (Zt (.so 0 0 9 (Zg h) c nn)) (Zt (.so 0 0 9 (Zg h) c nn))/\eS (Zt (.fn 18 [(1,0)])) (Zt (.fn 18 [(1,0)]))/\eS (aI (↑(Zg h):Int)) (aI (↑(Zg h):Int))/\eS (aI (Zi .i64 ((↑s.1:Int)+(1:Int)))) (aI ↑s'.1)/\True)/\[Zk 47 kI9 9 m c z,Zj [sS 2 0 6 s_1.2.1.1 s_1.2.1.3 s_1.2.1.4] 30,Zk 36 kI6 6 s_1.2.1.2 s_1.2.1.3 s_1.2.1.5]=[Zk 47 kI9 9 m c z,Zj [sS 2 0 6 x.1 x.3 x.4] 30,Zk 36 kI6 6 x.2 x.3 x.5])/\Zg h-s'.1<Zg h-s.1 else endN QgV [] (Qi 3) (EvS.mk h m c nn z x) (ZG (aI (-1:Int))) [Zk 47 kI9 9 m c z,Zj [sS 2 0 6 x.1 x.3 x.4] 30,Zk 36 kI6 6 x.2 x.3 x.5]) Zc ?_
 have e0 (j:Nat):0+(j:Int).toNat=j:=by rw[Zv,Zu]
 refine⟨ZV h1.1 h1.2,⟨⟨0,Z9 _,rfl⟩,⟨rfl,rfl,rfl,rfl,Zd⟩,rfl⟩,?_⟩
 rintro⟨i,hi,hn⟩
 dsimp only at hi hn ⊢
 rw[e0 i]
 refine Qo (λhlt=>?_) (λhge=>?_)
 . have hlt':i<h.length:=Za
   have hs:=QhF (τ:=Nat) hlt' hn
   refine⟨⟨Za,hlt,Za⟩,Za,(z i,x,h.getD i YU),rfl,rfl,⟨hx,λj hj=>h2 i hlt' j hj⟩,λ_ _=>QL (λhb=>⟨(),Zd,congrArg (λq=>ZG (Zt (ZbP (.int .i64 q)))) (hs.1 hb),rfl⟩) (λhb=>⟨⟨i+1,hlt',hs.2 hb⟩,⟨⟨rfl,rfl,rfl,svI (sucI Za),Zd⟩,rfl⟩,by dsimp only;omega⟩)⟩
 . have hin:h.length-i=0:=Za
   rw[hin]at hn
   exact⟨(),Zd,congrArg (λq=>ZG (Zt (ZbP (.int .i64 q)))) hn,rfl⟩
def Qoj:MCon:={ QgV with val:=λs _=>sv (.bool (hasE (evQL s.x) s.h)) }
theorem heL_con:(ZH Qoj).holds Tryz.prog 13:=by
 intro w0 S
 refine Qa (Γ:=[(32,.mem QgV)]) (λ_=>noW) Tryz.func13 rfl Zc Qf Qc (λw S' _ _=>.cons (QrK w S') (.nil _ _ _)) Qoj (λs=>[]) (λx0 h s x=>⟨rfl,Zd⟩) (λs ρ w _ _ _=>Qj w _) [] (Qi 3) 400 ?_
 rintro⟨h,m,c,nn,z,x⟩ w hp -
 refine⟨rfl,?_⟩
 refine Qk (q:=∃(s:EvS DvS),[Zt (.so 0 0 9 (Zg h) c nn),Zt (.fn 18 [(1,0)])]=[Zt (.so 0 0 9 (Zg s.1) s.3 s.4),Zt (.fn 18 [(1,0)])]/\[Zk 47 kI9 9 m c z,Zj [sS 2 0 6 x.1 x.3 x.4] 30,Zk 36 kI6 6 x.2 x.3 x.5]=[Zk 47 kI9 9 s.2 s.3 s.5,Zj [sS 2 0 6 (EvS.x s).1 (EvS.x s).3 (EvS.x s).4] 30,Zk 36 kI6 6 (EvS.x s).2 (EvS.x s).3 (EvS.x s).5]/\((Zg s.1<=1000000000/\(Zg s.1<=s.2/\s.2<=s.3)/\IsE s.5 s.1)/\(EvS.x s).1<=1000000000/\(EvS.x s).1<=(EvS.x s).3)/\∀(x_1:Unit),True->endN Qoj [] (Qi 3) (EvS.mk h m c nn z x) (ZG (aB (decide (idxE (Qby (↑(EvS.x s).1:Int)) s.1 (Zg s.1) 0>=(0:Int))))) [Zk 47 kI9 9 s.2 s.3 s.5,Zj [sS 2 0 6 (EvS.x s).1 (EvS.x s).3 (EvS.x s).4] 30,Zk 36 kI6 6 (EvS.x s).2 (EvS.x s).3 (EvS.x s).5]) Zc ?_
 exact⟨⟨h,m,c,nn,z,x⟩,rfl,rfl,hp,λ_ _=>⟨(),Zd,rfl,rfl⟩⟩
def evQO (x:(Nat->Int)):Ev->Bool:=Qe9 (x 0) (x 1) (x 2) (x 3)
def QgX:MCon:=dcon ((Nat->Int) × (Nat->Int) × Ev) (λs=>(True)/\∀j,j<9->s.1 j=s.2.2.at j) (λs=>[evtA s.1,.c (.p 0 0)]) (λs=>[ddSB s.2.1]) (λs=>sv (.bool (evQO s.2.1 s.2.2))) (λs=>[ddSB s.2.1]) 1 (λargs M=>match args with
 |[_,.c (.p b _)]=>some [b]
 |_=>none)
theorem Qr6:(ZH QgX).holds Tryz.prog 19:=by
 intro w0 S
 refine Qa (Γ:=[]) (λ_=>noW) Tryz.func19 rfl Zc Qf Qc (λ_ _ _ _=>.nil _ _ _) QgX (λs=>[]) (λx0 h s x=>⟨rfl,Zd⟩) (λs ρ w _ _ _=>Qj w _) [] (Qi 1) 400 ?_
 rintro⟨y,x,e⟩ w ⟨hx,hy⟩ -
 refine⟨rfl,?_⟩
 dsimp only at hx hy
 refine Qk (q:=bif y 0==(1:Int)then bif y 1==x 0 then endN QgX [] (Qi 1) (y,x,e) (ZG (aB (bif y 2==x 1 then bif y 3==x 2 then bif y 4==x 3 then true else false else false else false))) [Zj [sI (x 0),sI (x 1),sI (x 2),sI (x 3),sI (x 4),sI (x 5)] 36,Zj [sI (y 0),sI (y 1),sI (y 2),sI (y 3),sI (y 4),sI (y 5),sI (y 6),sI (y 7),sI (y 8)] 47]else endN QgX [] (Qi 1) (y,x,e) (ZG (aB false)) [Zj [sI (x 0),sI (x 1),sI (x 2),sI (x 3),sI (x 4),sI (x 5)] 36,Zj [sI (y 0),sI (y 1),sI (y 2),sI (y 3),sI (y 4),sI (y 5),sI (y 6),sI (y 7),sI (y 8)] 47]else endN QgX [] (Qi 1) (y,x,e) (ZG (aB false)) [Zj [sI (x 0),sI (x 1),sI (x 2),sI (x 3),sI (x 4),sI (x 5)] 36,Zj [sI (y 0),sI (y 1),sI (y 2),sI (y 3),sI (y 4),sI (y 5),sI (y 6),sI (y 7),sI (y 8)] 47]) Zc ?_
 have k0:y 0=e.kind:=hy 0 Zb
 have k1:y 1=e.t:=hy 1 Zb
 have k2:y 2=e.k:=hy 2 Zb
 have k3:y 3=e.key:=hy 3 Zb
 have k4:y 4=e.x:=hy 4 Zb
 refine QP (λha=>QP (λhb=>⟨(),Zd,congrArg (λb=>ZG (Zt (ZbP (.bool b)))) (show _=evQO x e from ?_),rfl⟩) (λhb=>⟨(),Zd,congrArg (λb=>ZG (Zt (ZbP (.bool b)))) (show _=evQO x e from ?_),rfl⟩)) (λha=>⟨(),Zd,congrArg (λb=>ZG (Zt (ZbP (.bool b)))) (show _=evQO x e from ?_),rfl⟩)
 . unfold evQO Qe9
   rw[k2,k3,k4,show e.kind=1 from k0.symm.trans ha,show e.t=x 0 from k1.symm.trans hb,show (x 0==x 0)=true from beq_iff_eq.2 rfl]
   cases e.k==x 1<;>cases e.key==x 2<;>cases e.x==x 3<;>rfl
 . unfold evQO Qe9
   rw[show (e.t==x 0)=false from beq_eq_false_iff_ne.2 (λh=>hb (k1.trans h)),show e.kind=1 from k0.symm.trans ha];rfl
 . unfold evQO Qe9
   rw[show (e.kind==1)=false from beq_eq_false_iff_ne.2 (λh=>ha (k0.trans h))];rfl
def QgU:MCon:=dcon (EvS (Nat->Int)) (λs=>s.pre/\(True)) (λs=>[.c (.so 0 0 9 s.h.length s.c s.nn),.c (.fn 19 [(1,0)])]) (λs=>Qbo s.m s.c s.z::[ddSB s.x]) (λs=>sv (.int .i64 (idxE (evQO s.x) s.h s.h.length 0))) (λs=>Qbo s.m s.c s.z::[ddSB s.x]) 2 (λargs M=>match args with
 |[.c (.so b _ _ _ _ _),.c (.fn g ((x,_)::_))]=>bif ZE g 19 then some [b,x]else none
 |_=>none)
def QqW (s:EvS (Nat->Int)):Ann where
 σ:=EvG (evQO s.x) s
 I g:=([(0,.o (.c (.so 0 0 9 s.h.length s.c s.nn))),(1,.o (.c (.fn 19 [(1,0)]))),(7,sv (.int .i64 s.h.length)),(8,sv (.int .i64 g.i))],Qbo s.m s.c s.z::[ddSB s.x])
 dec g:=s.h.length-g.i
 pi _ _:=[0,1]
 nz:=[]
theorem QrJ:(ZH QgU).holds Tryz.prog 32:=by
 intro w0 S
 refine Qa (Γ:=[(19,.mem QgX)]) (λ_=>noW) Tryz.func32 rfl Zc Qf Qc (λw S' _ _=>.cons (Qr6 w S') (.nil _ _ _)) QgU (λs=>[(32,[(0,QqW s)])]) (λx0 h s x=>⟨rfl,Zd⟩) (λs ρ w _ _ _=>Qj w _) [] (Qi 2) 400 ?_
 rintro⟨h,m,c,nn,z,x⟩ w ⟨⟨h0,h1,h2⟩,hx⟩ -
 refine⟨rfl,?_⟩
 dsimp only at h0 h1 h2 hx
 refine Qk (q:=Zg h<=c/\(∃(s0:Ann.σ (QqW (EvS.mk h m c nn z x))),(eS (Zt (.so 0 0 9 (Zg h) c nn)) (Zt (.so 0 0 9 (Zg h) c nn))/\eS (Zt (.fn 19 [(1,0)])) (Zt (.fn 19 [(1,0)]))/\eS (aI (↑(Zg h):Int)) (aI (↑(Zg h):Int))/\eS (aI 0) (aI ↑s0.1)/\True)/\[Zk 47 kI9 9 m c z,Zj [sI (x 0),sI (x 1),sI (x 2),sI (x 3),sI (x 4),sI (x 5)] 36]=[Zk 47 kI9 9 m c z,Zj [sI (x 0),sI (x 1),sI (x 2),sI (x 3),sI (x 4),sI (x 5)] 36])/\∀(s:EvG (Qe9 (x 0) (x 1) (x 2) (x 3)) (EvS.mk h m c nn z x)),bif decide ((↑s.1:Int)<(↑(Zg h):Int))then ((0:Int)<=(↑s.1:Int)/\(↑s.1:Int)<(↑(Zg h):Int)/\0+Zg h<=c)/\0+Zh (↑s.1:Int)<m/\∃(s_1:(Nat->Int) × (Nat->Int) × Ev),[Zz [sI (z (0+Zh (↑s.1:Int)) 0),sI (z (0+Zh (↑s.1:Int)) 1),sI (z (0+Zh (↑s.1:Int)) 2),sI (z (0+Zh (↑s.1:Int)) 3),sI (z (0+Zh (↑s.1:Int)) 4),sI (z (0+Zh (↑s.1:Int)) 5),sI (z (0+Zh (↑s.1:Int)) 6),sI (z (0+Zh (↑s.1:Int)) 7),sI (z (0+Zh (↑s.1:Int)) 8)],aP 1 0]=[Zz [sI (s_1.1 0),sI (s_1.1 1),sI (s_1.1 2),sI (s_1.1 3),sI (s_1.1 4),sI (s_1.1 5),sI (s_1.1 6),sI (s_1.1 7),sI (s_1.1 8)],aP 1 0]/\[Zj [sI (x 0),sI (x 1),sI (x 2),sI (x 3),sI (x 4),sI (x 5)] 36]=[Zj [sI (s_1.2.1 0),sI (s_1.2.1 1),sI (s_1.2.1 2),sI (s_1.2.1 3),sI (s_1.2.1 4),sI (s_1.2.1 5)] 36]/\(True/\∀(j:Nat),j<9->s_1.1 j=Ev.at s_1.2.2 j)/\∀(x_1:Unit),True->bif Qe9 (s_1.2.1 0) (s_1.2.1 1) (s_1.2.1 2) (s_1.2.1 3) s_1.2.2 then endN QgU [] (Qi 2) (EvS.mk h m c nn z x) (ZG (aI ↑s.1)) [Zk 47 kI9 9 m c z,Zj [sI (s_1.2.1 0),sI (s_1.2.1 1),sI (s_1.2.1 2),sI (s_1.2.1 3),sI (s_1.2.1 4),sI (s_1.2.1 5)] 36]else ∃(s':EvG (Qe9 (x 0) (x 1) (x 2) (x 3)) (EvS.mk h m c nn z x)),((eS (Zt (.so 0 0 9 (Zg h) c nn)) (Zt (.so 0 0 9 (Zg h) c nn))/\eS (Zt (.fn 19 [(1,0)])) (Zt (.fn 19 [(1,0)]))/\eS (aI (↑(Zg h):Int)) (aI (↑(Zg h):Int))/\eS (aI (Zi .i64 ((↑s.1:Int)+(1:Int)))) (aI ↑s'.1)/\True)/\[Zk 47 kI9 9 m c z,Zj [sI (s_1.2.1 0),sI (s_1.2.1 1),sI (s_1.2.1 2),sI (s_1.2.1 3),sI (s_1.2.1 4),sI (s_1.2.1 5)] 36]=[Zk 47 kI9 9 m c z,Zj [sI (x 0),sI (x 1),sI (x 2),sI (x 3),sI (x 4),sI (x 5)] 36])/\Zg h-s'.1<Zg h-s.1 else endN QgU [] (Qi 2) (EvS.mk h m c nn z x) (ZG (aI (-1:Int))) [Zk 47 kI9 9 m c z,Zj [sI (x 0),sI (x 1),sI (x 2),sI (x 3),sI (x 4),sI (x 5)] 36]) Zc ?_
 have e0 (j:Nat):0+(j:Int).toNat=j:=by rw[Zv,Zu]
 refine⟨ZV h1.1 h1.2,⟨⟨0,Z9 _,rfl⟩,⟨rfl,rfl,rfl,rfl,Zd⟩,rfl⟩,?_⟩
 rintro⟨i,hi,hn⟩
 dsimp only at hi hn ⊢
 rw[e0 i]
 refine Qo (λhlt=>?_) (λhge=>?_)
 . have hlt':i<h.length:=Za
   have hs:=QhF (τ:=Nat) hlt' hn
   refine⟨⟨Za,hlt,Za⟩,Za,(z i,x,h.getD i YU),rfl,rfl,⟨hx,λj hj=>h2 i hlt' j hj⟩,λ_ _=>QL (λhb=>⟨(),Zd,congrArg (λq=>ZG (Zt (ZbP (.int .i64 q)))) (hs.1 hb),rfl⟩) (λhb=>⟨⟨i+1,hlt',hs.2 hb⟩,⟨⟨rfl,rfl,rfl,svI (sucI Za),Zd⟩,rfl⟩,by dsimp only;omega⟩)⟩
 . have hin:h.length-i=0:=Za
   rw[hin]at hn
   exact⟨(),Zd,congrArg (λq=>ZG (Zt (ZbP (.int .i64 q)))) hn,rfl⟩
def Qoi:MCon:={ QgU with val:=λs _=>sv (.bool (hasE (evQO s.x) s.h)) }
theorem heO_con:(ZH Qoi).holds Tryz.prog 13:=by
 intro w0 S
 refine Qa (Γ:=[(32,.mem QgU)]) (λ_=>noW) Tryz.func13 rfl Zc Qf Qc (λw S' _ _=>.cons (QrJ w S') (.nil _ _ _)) Qoi (λs=>[]) (λx0 h s x=>⟨rfl,Zd⟩) (λs ρ w _ _ _=>Qj w _) [] (Qi 2) 400 ?_
 rintro⟨h,m,c,nn,z,x⟩ w hp -
 refine⟨rfl,?_⟩
 refine Qk (q:=∃(s:EvS (Nat->Int)),[Zt (.so 0 0 9 (Zg h) c nn),Zt (.fn 19 [(1,0)])]=[Zt (.so 0 0 9 (Zg s.1) s.3 s.4),Zt (.fn 19 [(1,0)])]/\[Zk 47 kI9 9 m c z,Zj [sI (x 0),sI (x 1),sI (x 2),sI (x 3),sI (x 4),sI (x 5)] 36]=[Zk 47 kI9 9 s.2 s.3 s.5,Zj [sI (s.6 0),sI (s.6 1),sI (s.6 2),sI (s.6 3),sI (s.6 4),sI (s.6 5)] 36]/\((Zg s.1<=1000000000/\(Zg s.1<=s.2/\s.2<=s.3)/\IsE s.5 s.1)/\True)/\∀(x_1:Unit),True->endN Qoi [] (Qi 2) (EvS.mk h m c nn z x) (ZG (aB (decide (idxE (Qe9 (s.6 0) (s.6 1) (s.6 2) (s.6 3)) s.1 (Zg s.1) 0>=(0:Int))))) [Zk 47 kI9 9 s.2 s.3 s.5,Zj [sI (s.6 0),sI (s.6 1),sI (s.6 2),sI (s.6 3),sI (s.6 4),sI (s.6 5)] 36]) Zc ?_
 exact⟨⟨h,m,c,nn,z,x⟩,rfl,rfl,hp,λ_ _=>⟨(),Zd,rfl,rfl⟩⟩
structure CdS where
 n:Nat
 m:Nat
 c:Nat
 nn:Bool
 z:Nat->Nat->Int
structure CdR where
 m:Nat
 c:Nat
 nn:Bool
 z:Nat->Nat->Int
def QhS:MCon where
 σ:=CdS
 χ:=CdR
 pre s:=s.n<=10000000/\s.n<=s.m/\s.m<=s.c
 args s:=[.c (.so 0 0 6 s.n s.c s.nn)]
 mem s:=[Qdl s.m s.c s.z]
 ok s x:=(s.n<=x.m/\x.m<=x.c)/\∀i,i<s.n->∀j,j<6->x.z i j=s.z i j
 val s x:=.o (.c (.so 1 0 6 s.n x.c x.nn))
 mem' s x:=[Qdl s.m s.c s.z,Qdl x.m x.c x.z]
 k:=1
 len:=2
 det:=none
 find args M:=some (blkA args)
theorem cloD_con:(ZH QhS).holds Tryz.prog 20:=by
 intro w0 S
 refine Qa (Γ:=[]) (λ_=>noW) Tryz.func20 rfl Zc Qf Qc (λw S' _ _=>.nil _ _ _) QhS (λs=>[]) (λx0 h=>by cases h)
  (λs ρ w _ _ _=>Qj w _) [.tmp 0 36 6 [.int .i64,.int .i64,.int .i64,.int .i64,.int .i64,.int .i64]] (λv M=>match v with
  |.o (.c (.so b _ _ _ _ _))=>[0,b]
  |_=>[]) 400 ?_
 rintro⟨n,m,c,nn,z⟩ w ⟨hn,hm,hc⟩ -
 refine⟨rfl,?_⟩
 dsimp only at hn hm hc
 refine Qk (q:=bif match ZE c 0 with|false=>false|true=>bif nn then false else true then endN QhS [NZ.tmp 0 36 6 kI6] (λ(v:SV) (M:List SB)=>match v with|ZG (Zt (.so b lo sz n c nn))=>[0,b]|x=>[]) (CdS.mk n m c nn z) (ZG (Zt (.v (.slice none 0 0)))) [Zk 36 kI6 6 m c z]else ((0<=0/\0=0)/\(0+n<=m/\c=c)/\0+n<=68719476736)/\∀(c_1:Nat),0+n<=c_1->endN QhS [NZ.tmp 0 36 6 kI6] (λ(v:SV) (M:List SB)=>match v with|ZG (Zt (.so b lo sz n c nn))=>[0,b]|x=>[]) (CdS.mk n m c nn z) (ZG (Zt (.so 2 0 6 (0+n) c_1 true))) [Zk 36 kI6 6 m c z,SB.gone,Zk 36 kI6 6 (0+n) c_1 λ(i j:Nat)=>z (0+i) j]) Zc ?_
 refine QL (λhf=>?_) (λhf=>⟨⟨⟨Zq _,rfl⟩,⟨Za,rfl⟩,Za⟩,λc1 hc1=>?_⟩)
 . have h0:c=0:=by
    cases hb:ZE c 0
    . rw[hb]at hf;cases hf
    . exact Nat.eq_of_beq_eq_true hb
   obtain rfl:n=0:=Za
   exact Ql rfl ⟨0,0,false,λ_ _=>0⟩ ⟨⟨Zq _,Zq _⟩,λi hi=>absurd hi (ZP _)⟩ rfl rfl rfl
 . rw[Zu]at hc1 ⊢
   exact Ql rfl ⟨n,c1,true,λi j=>z (0+i) j⟩ ⟨⟨Zq _,hc1⟩,λi _ j _=>(by show z (0+i) j=z i j;rw[Zu])⟩ rfl rfl rfl
end
section
def Qb4 (l:List Dd) (n:Nat) (c v:Int):List Dd:=l.set n ⟨(l.getD n ZR).t,(l.getD n ZR).k,(l.getD n ZR).key,(l.getD n ZR).x,c,v⟩
section
variable {l l':List Dd}{n:Nat}{c v k:Int}
theorem Qow:(Qb4 l n c v).length=l.length:=List.length_set
theorem QdM {q:Nat}(h:q≠n):(Qb4 l n c v).getD q ZR=l.getD q ZR:=by
 unfold Qb4
 rw[Zp,List.getElem?_set_ne (λe=>h e.symm),Zp]
theorem QhX (h:n<l.length):(Qb4 l n c v).getD n ZR=⟨(l.getD n ZR).t,(l.getD n ZR).k,(l.getD n ZR).key,(l.getD n ZR).x,c,v⟩:=by
 unfold Qb4
 rw[Zp,List.getElem?_set_self h];rfl
theorem QdZ (h:∀i,i<n->l'.getD i ZR=l.getD i ZR):∀i,i<=n->lgC k l' i=lgC k l i
 |0,_=>rfl
 |i+1,hi=>by simp only[lgC];rw[QdZ h i Za,h i hi]
theorem LgB.agree (h:∀i,i<n->l'.getD i ZR=l.getD i ZR) {i:Nat}(hi:i<n) (H:LgB k l i):LgB k l' i:=
 ⟨by rw[h i hi];exact H.op,by rw[h i hi,QdZ h i Za];exact H.c,by rw[h i hi,QdZ h i Za];exact H.v⟩
theorem Qss (L:Legal k l) (hn:n<l.length):∀i,i<n->LgB k (Qb4 l n c v) i:=λi hi=>
 (L i Za).agree (λj hj=>QdM Za) hi
theorem bent_op (L:Legal k l) (hn:n<l.length):opOk ((Qb4 l n c v).getD n ZR).k ((Qb4 l n c v).getD n ZR).key ((Qb4 l n c v).getD n ZR).x=true:=by
 rw[QhX hn];exact (L n hn).op
theorem bent_no (L:Legal k l) (hn:n<l.length) (hne:¬((l.getD n ZR).c=c/\(l.getD n ZR).v=v)):
 ¬((objR k (lgC k (Qb4 l n c v) n) ((Qb4 l n c v).getD n ZR).k ((Qb4 l n c v).getD n ZR).key ((Qb4 l n c v).getD n ZR).x).2.1=((Qb4 l n c v).getD n ZR).c/\(objR k (lgC k (Qb4 l n c v) n) ((Qb4 l n c v).getD n ZR).k ((Qb4 l n c v).getD n ZR).key ((Qb4 l n c v).getD n ZR).x).2.2=((Qb4 l n c v).getD n ZR).v):=by
 rw[QhX hn,QdZ (n:=n) (l:=l) (λj hj=>QdM Za) n (Zq n)]
 dsimp only
 rw[(L n hn).c,(L n hn).v]
 exact hne
end
end
section
def Qsp (l:List Dd) (c:Cl):Prop:=c.to=0\/(1<=c.whn/\c.whn<=l.length/\(l.getD (c.whn-1).toNat ZR).t=c.t/\(l.getD (c.whn-1).toNat ZR).k=c.k/\(l.getD (c.whn-1).toNat ZR).key=c.key/\(l.getD (c.whn-1).toNat ZR).x=c.x/\(l.getD (c.whn-1).toNat ZR).c=c.c/\(l.getD (c.whn-1).toNat ZR).v=c.v)
theorem Qr5 {c:Cl}{l:List Dd}{of:Nat->Int}(h:chk1 c l of=0):Qsp l c:=by
 unfold chk1 at h
 split at h
 . exact .inl ‹_›
 split at h
 . exact absurd h Zb
 split at h
 . exact absurd h Zb
 split at h
 . rename_i h1 h2 h3 h4
   exact .inr ⟨Za,Za,h4⟩
 . exact absurd h Zb
theorem QnY {cs:List Cl}{d:Dd}{m:Nat}:∀(n i:Nat),fidx cs d n i=some m->m<i+n/\isOp d (cs.getD m YZ)=true
 |0,i,h=>by cases h
 |n+1,i,h=>by
  unfold fidx at h
  split at h
  . rename_i hx
    injection h with h
    subst h;exact⟨Za,hx⟩
  . have:=QnY n (i+1) h;exact⟨Za,this.2⟩
theorem cont2_ok {cs:List Cl}{l:List Dd}:∀(n k:Nat) (of:Nat->Int),QhI cs l n k of=0->∀q,k<=q->q<k+n->0<of q\/∃i,i<cs.length/\isOp (l.getD q ZR) (cs.getD i YZ)=true
 |0,k,of,_,q,h1,h2=>Za
 |n+1,k,of,h,q,h1,h2=>by
  unfold QhI at h
  by_cases h0:0<of k
  . rw[Zf h0]at h
    by_cases e:q=k
    . subst e;exact .inl h0
    . exact cont2_ok n (k+1) of h q Za Za
  . rw[Ze h0]at h
    cases hx:fidx cs (l.getD k ZR) cs.length 0 with
    |none=>rw[hx]at h;exact absurd (show (8:Int)=0 from h) Zb
    |some i=>
     rw[hx]at h
     dsimp only at h
     cases hb:hasF of ((i:Int)+1) l.length 0
     . rw[hb,cond_false]at h
       have ho:=QnY _ _ hx
       by_cases e:q=k
       . subst e;exact .inr ⟨i,Za,ho.2⟩
       . rcases cont2_ok n (k+1) _ h q Za Za with h3|h3
         . rw[Qs _ _ e]at h3;exact .inl h3
         . exact .inr h3
     . rw[hb,cond_true]at h;exact absurd h Zb
theorem Qky {cs:List Cl}{l:List Dd}:∀(n i:Nat) (of:Nat->Int),cont1 cs l n i of=0->(∀q,i<=q->q<i+n->Qsp l (cs.getD q YZ)) /\
 ∀k,k<l.length->0<of k\/(∃q,i<=q/\q<i+n/\(cs.getD q YZ).to≠0/\((cs.getD q YZ).whn-1).toNat=k)\/∃q,q<cs.length/\isOp (l.getD k ZR) (cs.getD q YZ)=true
 |0,i,of,h=>⟨λq h1 h2=>Za,λk hk=>by
  rcases cont2_ok l.length 0 of h k (Z9 _) Za with h1|h1
  . exact .inl h1
  . exact .inr (.inr h1)⟩
 |n+1,i,of,h=>by
  unfold cont1 at h
  by_cases h0:chk1 (cs.getD i YZ) l of=0
  . rw[Zf h0]at h
    obtain⟨h1,h2⟩:=Qky n (i+1) _ h
    refine⟨λq h3 h4=>?_,λk hk=>?_⟩
    . by_cases e:q=i
      . subst e;exact Qr5 h0
      . exact h1 q Za Za
    . rcases h2 k hk with h3|⟨q,h3,h4,h5,h6⟩|h3
      . unfold nxt1 at h3
        by_cases ht:(cs.getD i YZ).to=0
        . rw[Zf ht]at h3;exact .inl h3
        . rw[Ze ht]at h3
          by_cases e:k=((cs.getD i YZ).whn-1).toNat
          . exact .inr (.inl ⟨i,Zq _,Za,ht,e.symm⟩)
          . rw[Qs _ _ e]at h3;exact .inl h3
      . exact .inr (.inl ⟨q,Za,Za,h5,h6⟩)
      . exact .inr (.inr h3)
  . rw[Ze h0]at h;exact absurd h h0
theorem fit_sound {cs:List Cl}{l:List Dd}(h:fitC cs l=0):(∀q,q<cs.length->Qsp l (cs.getD q YZ)) /\
 ∀k,k<l.length->∃q,q<cs.length/\(cs.getD q YZ).t=(l.getD k ZR).t/\(cs.getD q YZ).k=(l.getD k ZR).k/\(cs.getD q YZ).key=(l.getD k ZR).key/\(cs.getD q YZ).x=(l.getD k ZR).x:=by
 obtain⟨h1,h2⟩:=Qky cs.length 0 _ h
 refine⟨λq hq=>h1 q (Z9 _) Za,λk hk=>?_⟩
 rcases h2 k hk with h3|⟨q,-,h4,h5,h6⟩|⟨q,h3,h4⟩
 . exact absurd h3 (by show ¬(0:Int)<0;decide)
 . rcases h1 q (Z9 _) Za with h7|⟨-,-,h8,h9,h10,h11,-,-⟩
   . exact absurd h7 h5
   . rw[h6]at h8 h9 h10 h11
     exact⟨q,Za,h8.symm,h9.symm,h10.symm,h11.symm⟩
 . have:=of_decide_eq_true h4
   exact⟨q,h3,this.2.1,this.2.2.1,this.2.2.2.1,this.2.2.2.2⟩
theorem Qdd (h:List Ev):∀i,i<=h.length->∀q,q<(Qg (h.take i)).length->∃j,j<i/\(h.getD j YU).kind=1/\((Qg (h.take i)).getD q YZ).t=(h.getD j YU).t/\((Qg (h.take i)).getD q YZ).k=(h.getD j YU).k/\((Qg (h.take i)).getD q YZ).key=(h.getD j YU).key/\((Qg (h.take i)).getD q YZ).x=(h.getD j YU).x
 |0,_,q,hq=>absurd hq (ZP _)
 |i+1,hi,q,hq=>by
  rw[Qde Za]at hq ⊢
  unfold Qav at hq ⊢
  by_cases h1:(h.getD i YU).kind=1
  . rw[Zf h1]at hq ⊢
    rcases getD_snoc (d:=YZ) hq with⟨h2,h3⟩|⟨-,h3⟩
    . rw[h3]
      obtain⟨j,a,b⟩:=Qdd h i Za q h2
      exact⟨j,Za,b⟩
    . rw[h3];exact⟨i,Nat.lt_succ_self _,h1,rfl,rfl,rfl,rfl⟩
  . rw[Ze h1]at hq ⊢
    by_cases h2:(h.getD i YU).kind=2
    . rw[Zf h2,ZN]at hq
      rw[Zf h2,Qab hq]
      obtain⟨j,a,b⟩:=Qdd h i Za q hq
      have e:((Cl.end i (h.getD i YU) ((Qg (h.take i)).getD q YZ)).t=((Qg (h.take i)).getD q YZ).t/\(Cl.end i (h.getD i YU) ((Qg (h.take i)).getD q YZ)).k=((Qg (h.take i)).getD q YZ).k/\(Cl.end i (h.getD i YU) ((Qg (h.take i)).getD q YZ)).key=((Qg (h.take i)).getD q YZ).key/\(Cl.end i (h.getD i YU) ((Qg (h.take i)).getD q YZ)).x=((Qg (h.take i)).getD q YZ).x):=by
       unfold Cl.end;split<;>exact⟨rfl,rfl,rfl,rfl⟩
      rw[e.1,e.2.1,e.2.2.1,e.2.2.2]
      exact⟨j,Za,b⟩
    . rw[Ze h2]at hq ⊢
      obtain⟨j,a,b⟩:=Qdd h i Za q hq
      exact⟨j,Za,b⟩
theorem QgY {h:List Ev}(W:WfH h):∀i,i<=h.length->∀j,j<i->(h.getD j YU).kind=2->∃q,q<(Qg (h.take i)).length/\((Qg (h.take i)).getD q YZ).to≠0/\((Qg (h.take i)).getD q YZ).whn=(h.getD j YU).whn
 |0,_,j,hj,_=>absurd hj (ZP _)
 |i+1,hi,j,hj,hk=>by
  have hw:=W i Za
  rw[Qde Za]
  by_cases e:j=i
  . subst e
    rcases hw with⟨h1,-⟩|⟨h1,n,hO,-⟩|h1
    . omega
    . rw[Qdg h1]
      refine⟨n,by rw[ZN];exact hO.1,?_,?_⟩
      . rw[Qab hO.1,QhH hO.2.1 hO.2.2.1];show (j:Int)+1≠0;omega
      . rw[Qab hO.1,QhH hO.2.1 hO.2.2.1]
    . omega
  . obtain⟨q,h1,h2,h3⟩:=QgY W i Za j Za hk
    unfold Qav
    split
    . refine⟨q,by rw[Zw];omega,?_,?_⟩
      . rw[Xe h1];exact h2
      . rw[Xe h1];exact h3
    split
    . refine⟨q,by rw[ZN];exact h1,?_,?_⟩
      . rw[Qab h1,QcI (.inr h2)];exact h2
      . rw[Qab h1,QcI (.inr h2)];exact h3
    . exact⟨q,h1,h2,h3⟩
section
variable {z:Sh}{g:Gh}{o:List Nat}
theorem HInv.bent (H:HInv z g o) (hn:g.n<=z.deeds.length) {l':List Dd}{n i0:Nat}(hl:l'.length=z.deeds.length) (hd:∀q,q≠n->l'.getD q ZR=(z.deeds.map Vd.d).getD q ZR)
 (hb:¬((l'.getD n ZR).c=(z.deeds.getD n ZaA).d.c/\(l'.getD n ZR).v=(z.deeds.getD n ZaA).d.v)) (hi0:i0<(Qg z.hist).length) (ht0:((Qg z.hist).getD i0 YZ).to≠0) (hw0:((Qg z.hist).getD i0 YZ).whn=(n:Int)+1):
 ∀(m i:Nat) (of:Nat->Int),i+m=(Qg z.hist).length->i<=i0->(∀j,j<o.length->of j=of1 z o i j)->Go.Proofs.YtlafaaeecnifcaaGreatDoor.cont1 (Qg z.hist) l' m i of=13
 |0,i,of,h1,h2,_=>Za
 |m+1,i,of,h1,h2,ho=>by
  have hml:(z.deeds.map Vd.d).length=z.deeds.length:=ZN _
  obtain⟨j0,a1,a2,a3,a4,a5⟩:=H.ans i0 hi0 ht0
  have hj0:j0=n:=by rw[hw0]at a1;omega
  subst hj0
  have hln:=H.ln
  have hil:i<(Qg z.hist).length:=Za
  obtain⟨p1,p2⟩:=H.pass1 hn hil ho
  unfold Go.Proofs.YtlafaaeecnifcaaGreatDoor.cont1
  by_cases e:i=i0
  . subst e
    have hq:(((Qg z.hist).getD i YZ).whn-1).toNat=j0:=by rw[hw0];omega
    have hc:chk1 ((Qg z.hist).getD i YZ) l' of=13:=by
     unfold chk1
     rw[Ze ht0,Ze Za,Ze Za,hq,Ze]
     rintro⟨-,-,-,-,x,y⟩
     exact hb ⟨x.trans a4.symm,y.trans a5.symm⟩
    rw[Ze (by rw[hc];decide),hc]
  . have hc:chk1 ((Qg z.hist).getD i YZ) l' of=0:=by
     by_cases ht:((Qg z.hist).getD i YZ).to=0
     . unfold chk1;rw[Zf ht]
     . obtain⟨j,b1,b2,b3,-,-⟩:=H.ans i hil ht
       have hne:j≠j0:=λx=>by subst x;rw[a3]at b3;exact e b3.symm
       have hq:(((Qg z.hist).getD i YZ).whn-1).toNat=j:=by rw[b1];omega
       have e2:chk1 ((Qg z.hist).getD i YZ) l' of=chk1 ((Qg z.hist).getD i YZ) (z.deeds.map Vd.d) of:=by
        unfold chk1
        rw[hq,hd j hne,hl,hml]
       rw[e2];exact p1
    rw[Zf hc]
    exact HInv.bent H hn hl hd hb hi0 ht0 hw0 m (i+1) _ Za Za p2
theorem HInv.bent13 (H:HInv z g o) (hn:g.n<=z.deeds.length) {l':List Dd}{n i0:Nat}(hl:l'.length=z.deeds.length) (hd:∀q,q≠n->l'.getD q ZR=(z.deeds.map Vd.d).getD q ZR)
 (hb:¬((l'.getD n ZR).c=(z.deeds.getD n ZaA).d.c/\(l'.getD n ZR).v=(z.deeds.getD n ZaA).d.v)) (hi0:i0<(Qg z.hist).length) (ht0:((Qg z.hist).getD i0 YZ).to≠0) (hw0:((Qg z.hist).getD i0 YZ).whn=(n:Int)+1):fitC (Qg z.hist) l'=13:=
 H.bent hn hl hd hb hi0 ht0 hw0 _ 0 _ Za (Z9 _) (λj hj=>by unfold of1;rw[Ze (λh=>Za)])
end
end
section
section
variable {K:Int}{z:Sh}{g:Gh}{n j:Nat}{c v:Int}
theorem Qh4 (W:WfH z.hist) (hj:j<z.hist.length) (hk:(z.hist.getD j YU).kind=2):∃q,q<(Qg z.hist).length/\((Qg z.hist).getD q YZ).to≠0/\((Qg z.hist).getD q YZ).whn=(z.hist.getD j YU).whn:=by
 have:=QgY W z.hist.length (Zq _) j hj hk
 rwa [Yt]at this
theorem bent_fit (F:Fin2 K z g) (W:WfH z.hist) (hn:n<z.deeds.length) (hne:¬(((z.deeds.map Vd.d).getD n ZR).c=c/\((z.deeds.map Vd.d).getD n ZR).v=v)) (hj:j<z.hist.length) (hk:(z.hist.getD j YU).kind=2) (hw:(z.hist.getD j YU).whn=(n:Int)+1):
 fitC (Qg z.hist) (Qb4 (z.deeds.map Vd.d) n c v)=13:=by
 obtain⟨o,H⟩:=F.f.2
 obtain⟨q,h1,h2,h3⟩:=Qh4 W hj hk
 have hml:(z.deeds.map Vd.d).length=z.deeds.length:=ZN _
 have hg:(z.deeds.map Vd.d).getD n ZR=(z.deeds.getD n ZaA).d:=by
  simp[Zp,List.getElem?_map,List.getElem?_eq_getElem hn]
 refine H.bent13 F.f.1.gl.nle (n:=n) (Qow.trans hml) (λq hq=>QdM hq) ?_ h1 h2 (h3.trans hw)
 rw[QhX Za,<- hg]
 exact λh=>hne ⟨h.1.symm,h.2.symm⟩
theorem miss_last (W:WfH z.hist) (h0:0<z.deeds.length) (hj:j<z.hist.length) (hk:(z.hist.getD j YU).kind=2) (hw:(z.hist.getD j YU).whn=(z.deeds.length:Int)):fitC (Qg z.hist) ((z.deeds.map Vd.d).take (z.deeds.length-1))≠0:=λh=>by
 obtain⟨q,h1,h2,h3⟩:=Qh4 W hj hk
 rcases (fit_sound h).1 q h1 with h4|⟨-,h4,-⟩
 . exact h2 h4
 . rw[h3,hw,List.length_take,ZN]at h4
   omega
theorem miss_more {h:List Ev}{l:List Dd}{d:Dd}(hno:∀j,j<h.length->¬((h.getD j YU).kind=1/\(h.getD j YU).t=d.t/\(h.getD j YU).k=d.k/\(h.getD j YU).key=d.key/\(h.getD j YU).x=d.x)):fitC (Qg h) (l++[d])≠0:=λhf=>by
 obtain⟨q,h1,h2,h3,h4,h5⟩:=(fit_sound hf).2 l.length (by rw[Zw,List.length_singleton];omega)
 have e:(l++[d]).getD l.length ZR=d:=by have:=QaF (l:=l) (m:=[d]) (d:=ZR) (i:=0);rw[Nat.add_zero]at this;exact this
 rw[e]at h2 h3 h4 h5
 have:=Qdd h h.length (Zq _) q (by rw[Yt];exact h1)
 rw[Yt]at this
 obtain⟨j,a,b,c1,c2,c3,c4⟩:=this
 exact hno j a ⟨b,c1.symm.trans h2,c2.symm.trans h3,c3.symm.trans h4,c4.symm.trans h5⟩
end
end
end Go.Proofs.YtlafaaeecnifcaaGreatDoor
