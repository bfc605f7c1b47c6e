/- What the proof leans on, gathered. -/
import Derived.Test.YtnhoblgmlmodnaaGreatDoorProg
import Derived.WalkKit
import Derived.LaidEql
import Derived.Stop.Asserts
import Derived.RowKitTokens
import Derived.Test.YtnhoblgmlmodnaaGreatDoorZI5
namespace Go.Proofs.YtnhoblgmlmodnaaGreatDoor
open Cl renaming nil->ZaA
open Classical renaming choose_spec->Zar
open Con renaming mem->ZM,rd->Zet
open Dd renaming nil->Yy
open Ending renaming returned->ZaP
open Go renaming method->Zdt
open Instr renaming typeAssert->Zd7
open Int renaming toNat->Zh,toNat_natCast->Zt
open IntKind renaming wrap->Zi
open List renaming length->Zg,get?Internal->Zk,getD_eq_getElem?_getD->Zp,length_append->Zw,getElem?_eq_getElem->Zy,mem_cons_self->ZB,length_map->ZO,map_cons->Z5,getElem?_map->Z9,take_length->Yt,map->Zaa,map_nil->Zal,mem_cons->ZaV,not_mem_nil->ZcW
open List.Pairwise renaming nil->Zam
open Nat renaming le_refl->Zq,zero_add->Zv,beq->ZE,ble->ZP,not_lt_zero->ZQ,le_trans->ZX,succ->Z8,zero_le->Yc,eq_zero_or_pos->Yu,lt_or_ge->Yw,lt_succ_self->Zbe,ne_of_lt->ZbF,lt_or_gt_of_ne->ZbQ,lt_irrefl->ZdF
open PUnit renaming unit->Zat
open Result renaming andThen->ZbA
open SA renaming c->Zu,a->Zz
open SB renaming cells->Zj,rows->Zn
open SC renaming so->ZbY,er->Zdp,fn->Zdq,v->ZdA
open SV renaming o->ZI
open Seg renaming one->Yz
open Sem renaming run_bind->Zx
open Value renaming int->ZA,nilIface->ZN
open Vd renaming nil->Zav,d->Zb4
open World renaming cell?_alloc_lt->Z6,frozen?_alloc_old->Y5,cell?->ZaU,cell?_alloc_at->Zdo
open _root_.Array renaming getElem?_eq_none->ZaT
set_option linter.unusedVariables false
set_option maxRecDepth 100000
set_option maxHeartbeats 8000000
section
def chk1 (c:Cl) (l:List Dd) (of:Nat->Int):Int:=
 if c.to=0 then 0 else if c.whn<1 then 7 else if (l.length:Int)<c.whn then 7
 else if (l.getD (c.whn-1).toNat Yy).t=c.t/\(l.getD (c.whn-1).toNat Yy).k=c.k/\(l.getD (c.whn-1).toNat Yy).key=c.key/\(l.getD (c.whn-1).toNat Yy).x=c.x/\(l.getD (c.whn-1).toNat Yy).c=c.c/\(l.getD (c.whn-1).toNat Yy).v=c.v then
  (if 0<of (c.whn-1).toNat then 9 else 0)else 13
def nxt1 (c:Cl) (i:Nat) (of:Nat->Int):Nat->Int:=if c.to=0 then of else putF of (c.whn-1).toNat ((i:Int)+1)
def isOp (d:Dd) (c:Cl):Bool:=decide (c.to=0/\c.t=d.t/\c.k=d.k/\c.key=d.key/\c.x=d.x)
def fidx (cs:List Cl) (d:Dd):Nat->Nat->Option Nat
 |0,_=>none
 |n+1,i=>if isOp d (cs.getD i ZaA)=true then some i else fidx cs d n (i+1)
def hasF (of:Nat->Int) (x:Int):Nat->Nat->Bool
 |0,_=>false
 |n+1,j=>(of j==x)||hasF of x n (j+1)
def bad3 (cs:List Cl) (of:Nat->Int) (k j:Nat):Bool:=decide (0<(cs.getD (of k-1).toNat ZaA).to/\(cs.getD (of k-1).toNat ZaA).to<(cs.getD (of j-1).toNat ZaA).fr)
def Qfh (cs:List Cl) (of:Nat->Int) (k:Nat):Nat->Nat->Bool
 |0,_=>false
 |n+1,j=>bad3 cs of k j||Qfh cs of k n (j+1)
def QiR (cs:List Cl) (of:Nat->Int):Nat->Nat->Int
 |0,_=>0
 |n+1,k=>bif Qfh cs of k k 0 then 6 else QiR cs of n (k+1)
def cont2 (cs:List Cl) (l:List Dd):Nat->Nat->(Nat->Int)->Int
 |0,_,of=>QiR cs of l.length 0
 |n+1,k,of=>if 0<of k then cont2 cs l n (k+1) of else
  match fidx cs (l.getD k Yy) cs.length 0 with
  |none=>8
  |some i=>bif hasF of ((i:Int)+1) l.length 0 then 8 else cont2 cs l n (k+1) (putF of k ((i:Int)+1))
def cont1 (cs:List Cl) (l:List Dd):Nat->Nat->(Nat->Int)->Int
 |0,_,of=>cont2 cs l l.length 0 of
 |n+1,i,of=>if chk1 (cs.getD i ZaA) l of=0 then cont1 cs l n (i+1) (nxt1 (cs.getD i ZaA) i of)else chk1 (cs.getD i ZaA) l of
def fitC (cs:List Cl) (l:List Dd):Int:=cont1 cs l cs.length 0 (λ_=>0)
theorem QiJ {cs:List Cl}{d:Dd}:∀(n i:Nat),(∀j,i<=j->j<i+n->isOp d (cs.getD j ZaA)=false)->fidx cs d n i=none
 |0,_,_=>rfl
 |n+1,i,h=>by
  unfold fidx
  rw[Ze (by rw[h i (Zq _) Za];decide)]
  exact QiJ n (i+1) (λj h1 h2=>h j Za Za)
theorem Qgb {cs:List Cl}{d:Dd}{m:Nat}(hm:isOp d (cs.getD m ZaA)=true):∀(n i:Nat),i<=m->m<i+n->(∀j,i<=j->j<m->isOp d (cs.getD j ZaA)=false)->fidx cs d n i=some m
 |0,i,h1,h2,_=>Za
 |n+1,i,h1,h2,h=>by
  unfold fidx
  by_cases e:i=m
  . subst e;rw[Zf hm]
  . rw[Ze (by rw[h i (Zq _) Za];decide)]
    exact Qgb hm n (i+1) Za Za (λj h3 h4=>h j Za h4)
theorem QjA {of:Nat->Int}{x:Int}:∀(n j:Nat),(∀q,j<=q->q<j+n->of q≠x)->hasF of x n j=false
 |0,_,_=>rfl
 |n+1,j,h=>by
  unfold hasF
  rw[beq_eq_false_iff_ne.2 (h j (Zq _) Za),QjA n (j+1) (λq h1 h2=>h q Za Za)];rfl
theorem Qkz {cs:List Cl}{of:Nat->Int}{k:Nat}:∀(n j:Nat),(∀q,j<=q->q<j+n->bad3 cs of k q=false)->Qfh cs of k n j=false
 |0,_,_=>rfl
 |n+1,j,h=>by
  unfold Qfh
  rw[h j (Zq _) Za,Qkz n (j+1) (λq h1 h2=>h q Za Za)];rfl
theorem QkA {cs:List Cl}{of:Nat->Int}:∀(n k:Nat),(∀q,k<=q->q<k+n->∀j,j<q->bad3 cs of q j=false)->QiR cs of n k=0
 |0,_,_=>rfl
 |n+1,k,h=>by
  unfold QiR
  rw[Qkz k 0 (λq _ h2=>h k (Zq _) Za q Za),cond_false]
  exact QkA n (k+1) (λq h1 h2=>h q Za Za)
section
variable {z:Sh}{g:Gh}{o:List Nat}
def of1 (z:Sh) (o:List Nat) (i j:Nat):Int:=if j<o.length/\o.getD j 0<i/\((Qh z.hist).getD (o.getD j 0) ZaA).to≠0 then (o.getD j 0:Int)+1 else 0
def of2 (z:Sh) (o:List Nat) (k j:Nat):Int:=if j<k then (o.getD j 0:Int)+1 else of1 z o (Qh z.hist).length j
theorem HInv.pass1 (H:HInv z g o) (hn:g.n<=z.deeds.length) {of:Nat->Int}{i:Nat}(hi:i<(Qh z.hist).length) (ho:∀j,j<o.length->of j=of1 z o i j):
 chk1 ((Qh z.hist).getD i ZaA) (z.deeds.map Zb4) of=0/\∀j,j<o.length->nxt1 ((Qh z.hist).getD i ZaA) i of j=of1 z o (i+1) j:=by
 have hml:(z.deeds.map Zb4).length=z.deeds.length:=ZO _
 have hln:=H.ln
 by_cases h0:((Qh z.hist).getD i ZaA).to=0
 . refine⟨by unfold chk1;rw[Zf h0],λj hj=>?_⟩
   unfold nxt1
   rw[Zf h0,ho j hj]
   unfold of1
   by_cases e:o.getD j 0=i
   . rw[Ze (λh=>Za),Ze (λh=>h.2.2 (by rw[e];exact h0))]
   . by_cases h:j<o.length/\o.getD j 0<i/\((Qh z.hist).getD (o.getD j 0) ZaA).to≠0
     . rw[Zf h,Zf ⟨h.1,Za,h.2.2⟩]
     . rw[Ze h,Ze (λx=>h ⟨x.1,Za,x.2.2⟩)]
 . obtain⟨j,h1,h2,h3,h4,h5⟩:=H.ans i hi h0
   have hjo:j<o.length:=Za
   obtain⟨o1,o2,o3,o4⟩:=H.op j hjo
   rw[h3]at o1 o2 o3 o4
   have hq:(((Qh z.hist).getD i ZaA).whn-1).toNat=j:=by rw[h1];omega
   have hd:(z.deeds.map Zb4).getD j Yy=(z.deeds.getD j Zav).d:=by simp[Zp,Z9,Zy (show j<z.deeds.length by omega)]
   have hof:of j=0:=by
    rw[ho j hjo];unfold of1
    rw[Ze (λh=>Za)]
   refine⟨?_,λq hq'=>?_⟩
   . unfold chk1
     rw[Ze h0,Ze Za,Ze Za,hq,hd,Zf ⟨o1.symm,o2.symm,o3.symm,o4.symm,h4,h5⟩,hof,Ze Zb]
   . unfold nxt1
     rw[Ze h0,hq]
     by_cases e:q=j
     . subst e
       rw[QO];unfold of1
       rw[Zf ⟨hq',Za,by rw[h3];exact h0⟩,h3]
     . rw[Qs _ _ e,ho q hq']
       unfold of1
       have hne:o.getD q 0≠i:=λh=>by
        rcases ZbQ e with h6|h6
        . exact H.inj q j h6 hjo (h.trans h3.symm)
        . exact H.inj j q h6 hq' (h3.trans h.symm)
       by_cases h:q<o.length/\o.getD q 0<i/\((Qh z.hist).getD (o.getD q 0) ZaA).to≠0
       . rw[Zf h,Zf ⟨h.1,Za,h.2.2⟩]
       . rw[Ze h,Ze (λx=>h ⟨x.1,Za,x.2.2⟩)]
theorem HInv.pass2 (H:HInv z g o) {of:Nat->Int}{k:Nat}(hk:k<o.length) (ho:∀j,j<o.length->of j=of2 z o k j) (h0:¬0<of k):
 fidx (Qh z.hist) ((z.deeds.map Zb4).getD k Yy) (Qh z.hist).length 0=some (o.getD k 0)/\hasF of ((o.getD k 0:Int)+1) (z.deeds.map Zb4).length 0=false:=by
 have hml:(z.deeds.map Zb4).length=z.deeds.length:=ZO _
 have hln:=H.ln
 have hlt:=H.lt k hk
 obtain⟨o1,o2,o3,o4⟩:=H.op k hk
 have hd:(z.deeds.map Zb4).getD k Yy=(z.deeds.getD k Zav).d:=by simp[Zp,Z9,Zy (show k<z.deeds.length by omega)]
 have hto:((Qh z.hist).getD (o.getD k 0) ZaA).to=0:=by
  by_cases h:((Qh z.hist).getD (o.getD k 0) ZaA).to=0
  . exact h
  . rw[ho k hk]at h0
    unfold of2 of1 at h0
    rw[Ze (ZdF _),Zf ⟨hk,hlt,h⟩]at h0
    omega
 refine⟨Qgb (by unfold isOp;rw[hd];exact decide_eq_true ⟨hto,o1,o2,o3,o4⟩) _ 0 (Yc _) Za (λj _ hj=>?_),QjA _ 0 (λq _ hq=>?_)⟩
 . unfold isOp
   rw[hd]
   refine decide_eq_false λh=>?_
   have:=H.uni j (o.getD k 0) Za hlt h.1 hto (h.2.1.trans o1.symm)
   omega
 . have hqo:q<o.length:=Za
   rw[ho q hqo]
   by_cases e:q=k
   . subst e
     intro h
     rw[<- ho q hqo]at h
     omega
   . have hne:o.getD q 0≠o.getD k 0:=by
      rcases ZbQ e with h6|h6
      . exact H.inj q k h6 hk
      . exact λh=>H.inj k q h6 hqo h.symm
     unfold of2 of1
     split
     . omega
     . split<;>omega
theorem HInv.cont2 (H:HInv z g o):∀(n k:Nat) (of:Nat->Int),k+n=o.length->(∀j,j<o.length->of j=of2 z o k j)->cont2 (Qh z.hist) (z.deeds.map Zb4) n k of=0
 |0,k,of,hk,ho=>by
  have hml:(z.deeds.map Zb4).length=z.deeds.length:=ZO _
  have hln:=H.ln
  show QiR _ _ _ _=0
  have e:∀j,j<o.length->of j=(o.getD j 0:Int)+1:=λj hj=>by
   rw[ho j hj];unfold of2;rw[Zf Za]
  refine QkA _ 0 (λq _ hq j hj=>?_)
  unfold bad3
  rw[e q Za,e j Za,show ((o.getD q 0:Int)+1-1).toNat=o.getD q 0 by omega,show ((o.getD j 0:Int)+1-1).toNat=o.getD j 0 by omega]
  refine decide_eq_false λh=>?_
  have:=H.rt j q hj Za Za
  omega
 |n+1,k,of,hk,ho=>by
  unfold Go.Proofs.YtnhoblgmlmodnaaGreatDoor.cont2
  by_cases h0:0<of k
  . rw[Zf h0]
    refine HInv.cont2 H n (k+1) of Za (λj hj=>?_)
    rw[ho j hj]
    unfold of2
    by_cases e:j=k
    . subst e
      rw[Ze (ZdF _),Zf (Zbe _)]
      rw[ho j hj]at h0
      unfold of2 at h0
      rw[Ze (ZdF _)]at h0
      unfold of1 at h0 ⊢
      split
      . rfl
      . rename_i h;rw[Ze h]at h0;omega
    . by_cases h:j<k
      . rw[Zf h,Zf Za]
      . rw[Ze h,Ze Za]
  . rw[Ze h0]
    obtain⟨h1,h2⟩:=H.pass2 Za ho h0
    rw[h1]
    dsimp only
    rw[h2,cond_false]
    refine HInv.cont2 H n (k+1) _ Za (λj hj=>?_)
    by_cases e:j=k
    . subst e;rw[QO];unfold of2;rw[Zf (Zbe _)]
    . rw[Qs _ _ e,ho j hj]
      unfold of2
      by_cases h:j<k
      . rw[Zf h,Zf Za]
      . rw[Ze h,Ze Za]
theorem HInv.cont1 (H:HInv z g o) (hn:g.n<=z.deeds.length):∀(n i:Nat) (of:Nat->Int),i+n=(Qh z.hist).length->(∀j,j<o.length->of j=of1 z o i j)->cont1 (Qh z.hist) (z.deeds.map Zb4) n i of=0
 |0,i,of,hi,ho=>by
  have hml:(z.deeds.map Zb4).length=z.deeds.length:=ZO _
  have hln:=H.ln
  show Go.Proofs.YtnhoblgmlmodnaaGreatDoor.cont2 _ _ _ _ _=0
  rw[hml,<- hln]
  refine H.cont2 _ 0 of Za (λj hj=>?_)
  rw[ho j hj];unfold of2;rw[Ze (ZQ _),show i=(Qh z.hist).length by omega]
 |n+1,i,of,hi,ho=>by
  obtain⟨h1,h2⟩:=H.pass1 hn Za ho
  unfold Go.Proofs.YtnhoblgmlmodnaaGreatDoor.cont1
  rw[Zf h1]
  exact HInv.cont1 H hn n (i+1) _ Za h2
theorem HInv.fits (H:HInv z g o) (hn:g.n<=z.deeds.length):fitC (Qh z.hist) (z.deeds.map Zb4)=0:=
 H.cont1 hn _ 0 _ Za (λj hj=>by unfold of1;rw[Ze (λh=>Za)])
end
end
section
open Go.RowKit
abbrev callSA (x:Nat->Int):SA:=.a [.one (.v (.int .i64 (x 0))),.one (.v (.int .i64 (x 1))),.one (.v (.int .i64 (x 2))),.one (.v (.int .i64 (x 3))),.one (.v (.int .i64 (x 4))),.one (.v (.int .i64 (x 5))),.one (.v (.int .i64 (x 6))),.one (.v (.int .i64 (x 7))),.one (.v (.int .i64 (x 8)))]
abbrev Qod (d:Nat->Int):SB:=.cells [.one (.v (.int .i64 (d 0))),.one (.v (.int .i64 (d 1))),.one (.v (.int .i64 (d 2))),.one (.v (.int .i64 (d 3))),.one (.v (.int .i64 (d 4))),.one (.v (.int .i64 (d 5)))] 44
def opB (x d:Nat->Int):Bool:=decide (x 5=0/\x 0=d 0/\x 1=d 1/\x 2=d 2/\x 3=d 3)
def QeO:MCon:=dcon ((Nat->Int) × (Nat->Int)) (λ_=>True) (λs=>[callSA s.1,.c (.p 0 0)]) (λs=>[Qod s.2]) (λs=>sv (.bool (opB s.1 s.2))) (λs=>[Qod s.2]) 1 (λargs _=>some (blkA args))
theorem opB_eq {y x:Nat->Int}(h5:y 5=0) (h0:y 0=x 0):(bif y 1==x 1 then bif y 2==x 2 then bif y 3==x 3 then true else false else false else false)=opB y x:=by
 unfold opB
 by_cases h1:y 1=x 1<;>by_cases h2:y 2=x 2<;>by_cases h3:y 3=x 3<;>simp[h1,h2,h3,h5,h0]
theorem Qqn:(ZM QeO).holds Tryz.prog 35:=by
 intro w0 S
 refine Qb (Γ:=[]) (λ_=>noW) Tryz.func35 rfl Zc Qg Qd (λ_ _ _ _=>.nil _ _ _) QeO (λs=>[]) (λx0 h s x=>⟨rfl,Zd⟩) (λs ρ w _ _ _=>Qi w _) [] (Ql 1) 400 ?_
 rintro⟨y,x⟩ w - -
 refine⟨rfl,?_⟩
 refine Qj (q:=bif y 5==(0:Int)then bif y 0==x 0 then endN QeO [] (Ql 1) (y,x) (ZI (aB (bif y 1==x 1 then bif y 2==x 2 then bif y 3==x 3 then true else false else false else false))) [Zj [sI (x 0),sI (x 1),sI (x 2),sI (x 3),sI (x 4),sI (x 5)] 44,Zj [sI (y 0),sI (y 1),sI (y 2),sI (y 3),sI (y 4),sI (y 5),sI (y 6),sI (y 7),sI (y 8)] 97]else endN QeO [] (Ql 1) (y,x) (ZI (aB false)) [Zj [sI (x 0),sI (x 1),sI (x 2),sI (x 3),sI (x 4),sI (x 5)] 44,Zj [sI (y 0),sI (y 1),sI (y 2),sI (y 3),sI (y 4),sI (y 5),sI (y 6),sI (y 7),sI (y 8)] 97]else endN QeO [] (Ql 1) (y,x) (ZI (aB false)) [Zj [sI (x 0),sI (x 1),sI (x 2),sI (x 3),sI (x 4),sI (x 5)] 44,Zj [sI (y 0),sI (y 1),sI (y 2),sI (y 3),sI (y 4),sI (y 5),sI (y 6),sI (y 7),sI (y 8)] 97]) Zc ?_
 refine QU (λh5=>QU (λh0=>⟨(),Zd,?_,rfl⟩) (λh0=>⟨(),Zd,?_,rfl⟩)) (λh5=>⟨(),Zd,?_,rfl⟩)
 . exact congrArg (λb=>ZI (Zu (ZdA (.bool b)))) (opB_eq h5 h0)
 . exact congrArg (λb=>ZI (Zu (ZdA (.bool b)))) (show false=opB y x from (decide_eq_false λh=>h0 h.2.1).symm)
 . exact congrArg (λb=>ZI (Zu (ZdA (.bool b)))) (show false=opB y x from (decide_eq_false λh=>h5 h.1).symm)
structure IxS where
 cs:List Cl
 m:Nat
 c:Nat
 nn:Bool
 z:Nat->Nat->Int
 d:Dd
def idxI:Option Nat->Int
 |none=>-1
 |some i=>i
def QiU:MCon:=dcon IxS (λs=>s.cs.length<=1000000000/\(s.cs.length<=s.m/\s.m<=s.c)/\IsC s.z s.cs) (λs=>[.c (.so 0 0 9 s.cs.length s.c s.nn),.c (.fn 35 [(1,0)])]) (λs=>[Qld s.m s.c s.z,Qod s.d.at])
 (λs=>sv (.int .i64 (idxI (fidx s.cs s.d s.cs.length 0)))) (λs=>[Qld s.m s.c s.z,Qod s.d.at]) 2 (λargs _=>match args with
 |[.c (.so b _ _ _ _ _),.c (.fn _ ((x,_)::_))]=>some [b,x]
 |_=>none)
structure IxG (s:IxS) where
 i:Nat
 hi:i<=s.cs.length
 hn:∀j,j<i->isOp s.d (s.cs.getD j ZaA)=false
def Qq0 (s:IxS):Ann where
 σ:=IxG s
 I g:=([(0,.o (.c (.so 0 0 9 s.cs.length s.c s.nn))),(1,.o (.c (.fn 35 [(1,0)]))),(7,sv (.int .i64 s.cs.length)),(8,sv (.int .i64 g.i))],[Qld s.m s.c s.z,Qod s.d.at])
 dec g:=s.cs.length-g.i
 pi _ _:=[0,1]
 nz:=[]
theorem QrO:(ZM QiU).holds Tryz.prog 34:=by
 intro w0 S
 refine Qb (Γ:=[(35,.mem QeO)]) (λ_=>noW) Tryz.func34 rfl Zc Qg Qd (λw S' _ _=>.cons (Qqn w S') (.nil _ _ _)) QiU (λs=>[(34,[(0,Qq0 s)])]) (λx0 h s x=>⟨rfl,Zd⟩) (λs ρ w _ _ _=>Qi w _) [] (Ql 2) 400 ?_
 rintro⟨cs,m,c,nn,z,d⟩ w ⟨h0,h1,h2⟩ -
 refine⟨rfl,?_⟩
 dsimp only at h0 h1 h2
 refine Qj (q:=Zg cs<=c/\(∃(s0:Ann.σ (Qq0 (IxS.mk cs m c nn z d))),(eS (Zu (.so 0 0 9 (Zg cs) c nn)) (Zu (.so 0 0 9 (Zg cs) c nn))/\eS (Zu (.fn 35 [(1,0)])) (Zu (.fn 35 [(1,0)]))/\eS (aI (↑(Zg cs):Int)) (aI (↑(Zg cs):Int))/\eS (aI 0) (aI ↑s0.1)/\True)/\[Zn 97 kI9 9 m c z,Zj [sI (Dd.at d 0),sI (Dd.at d 1),sI (Dd.at d 2),sI (Dd.at d 3),sI (Dd.at d 4),sI (Dd.at d 5)] 44]=[Zn 97 kI9 9 m c z,Zj [sI (Dd.at d 0),sI (Dd.at d 1),sI (Dd.at d 2),sI (Dd.at d 3),sI (Dd.at d 4),sI (Dd.at d 5)] 44])/\∀(s:IxG (IxS.mk cs m c nn z d)),bif decide ((↑s.1:Int)<(↑(Zg cs):Int))then ((0:Int)<=(↑s.1:Int)/\(↑s.1:Int)<(↑(Zg cs):Int)/\0+Zg cs<=c)/\0+Zh (↑s.1:Int)<m/\∃(s_1:(Nat->Int) × (Nat->Int)),[Zz [sI (z (0+Zh (↑s.1:Int)) 0),sI (z (0+Zh (↑s.1:Int)) 1),sI (z (0+Zh (↑s.1:Int)) 2),sI (z (0+Zh (↑s.1:Int)) 3),sI (z (0+Zh (↑s.1:Int)) 4),sI (z (0+Zh (↑s.1:Int)) 5),sI (z (0+Zh (↑s.1:Int)) 6),sI (z (0+Zh (↑s.1:Int)) 7),sI (z (0+Zh (↑s.1:Int)) 8)],aP 1 0]=[Zz [sI (s_1.1 0),sI (s_1.1 1),sI (s_1.1 2),sI (s_1.1 3),sI (s_1.1 4),sI (s_1.1 5),sI (s_1.1 6),sI (s_1.1 7),sI (s_1.1 8)],aP 1 0]/\[Zj [sI (Dd.at d 0),sI (Dd.at d 1),sI (Dd.at d 2),sI (Dd.at d 3),sI (Dd.at d 4),sI (Dd.at d 5)] 44]=[Zj [sI (s_1.2 0),sI (s_1.2 1),sI (s_1.2 2),sI (s_1.2 3),sI (s_1.2 4),sI (s_1.2 5)] 44]/\True/\∀(x:Unit),True->bif decide (s_1.1 5=(0:Int)/\s_1.1 0=s_1.2 0/\s_1.1 1=s_1.2 1/\s_1.1 2=s_1.2 2/\s_1.1 3=s_1.2 3)then endN QiU [] (Ql 2) (IxS.mk cs m c nn z d) (ZI (aI ↑s.1)) [Zn 97 kI9 9 m c z,Zj [sI (s_1.2 0),sI (s_1.2 1),sI (s_1.2 2),sI (s_1.2 3),sI (s_1.2 4),sI (s_1.2 5)] 44]else ∃(s':IxG (IxS.mk cs m c nn z d)),((eS (Zu (.so 0 0 9 (Zg cs) c nn)) (Zu (.so 0 0 9 (Zg cs) c nn))/\eS (Zu (.fn 35 [(1,0)])) (Zu (.fn 35 [(1,0)]))/\eS (aI (↑(Zg cs):Int)) (aI (↑(Zg cs):Int))/\eS (aI (Zi .i64 ((↑s.1:Int)+(1:Int)))) (aI ↑s'.1)/\True)/\[Zn 97 kI9 9 m c z,Zj [sI (s_1.2 0),sI (s_1.2 1),sI (s_1.2 2),sI (s_1.2 3),sI (s_1.2 4),sI (s_1.2 5)] 44]=[Zn 97 kI9 9 m c z,Zj [sI (Dd.at d 0),sI (Dd.at d 1),sI (Dd.at d 2),sI (Dd.at d 3),sI (Dd.at d 4),sI (Dd.at d 5)] 44])/\Zg cs-s'.1<Zg cs-s.1 else endN QiU [] (Ql 2) (IxS.mk cs m c nn z d) (ZI (aI (-1:Int))) [Zn 97 kI9 9 m c z,Zj [sI (Dd.at d 0),sI (Dd.at d 1),sI (Dd.at d 2),sI (Dd.at d 3),sI (Dd.at d 4),sI (Dd.at d 5)] 44]) Zc ?_
 have e0 (j:Nat):0+(j:Int).toNat=j:=by rw[Zt,Zv]
 refine⟨ZX h1.1 h1.2,⟨⟨0,Yc _,λj hj=>absurd hj (ZQ _)⟩,⟨rfl,rfl,rfl,rfl,Zd⟩,rfl⟩,?_⟩
 rintro⟨i,hi,hn⟩
 dsimp only at hi hn ⊢
 rw[e0 i]
 refine Qp (λhlt=>?_) (λhge=>?_)
 . have hlt':i<cs.length:=Za
   have z0:z i 0=(cs.getD i ZaA).t:=h2 i hlt' 0 Zb
   have z1:z i 1=(cs.getD i ZaA).k:=h2 i hlt' 1 Zb
   have z2:z i 2=(cs.getD i ZaA).key:=h2 i hlt' 2 Zb
   have z3:z i 3=(cs.getD i ZaA).x:=h2 i hlt' 3 Zb
   have z5:z i 5=(cs.getD i ZaA).to:=h2 i hlt' 5 Zb
   refine⟨⟨Za,hlt,Za⟩,Za,(z i,d.at),rfl,rfl,Zd,λ_ _=>Q0 (λhb=>?_) (λhb=>?_)⟩
   . have hb:=of_decide_eq_true hb
     dsimp only at hb
     rw[z0,z1,z2,z3,z5]at hb
     have hm:isOp d (cs.getD i ZaA)=true:=decide_eq_true hb
     refine⟨(),Zd,?_,rfl⟩
     exact congrArg (λb=>ZI (Zu (ZdA (.int .i64 b)))) (show (i:Int)=idxI (fidx cs d cs.length 0) by rw[Qgb hm cs.length 0 (Yc _) Za (λj _ hj=>hn j hj)];rfl)
   . have hb:=of_decide_eq_false hb
     dsimp only at hb
     rw[z0,z1,z2,z3,z5]at hb
     refine⟨⟨i+1,hlt',λj hj=>?_⟩,⟨⟨rfl,rfl,rfl,svI (sucI Za),Zd⟩,rfl⟩,by dsimp only;omega⟩
     by_cases e:j=i
     . subst e;exact decide_eq_false hb
     . exact hn j Za
 . have hin:i=cs.length:=Za
   refine⟨(),Zd,?_,rfl⟩
   exact congrArg (λb=>ZI (Zu (ZdA (.int .i64 b)))) (show (-1:Int)=idxI (fidx cs d cs.length 0) by rw[QiJ cs.length 0 (λj _ hj=>hn j Za)];rfl)
structure HsS where
 n:Nat
 m:Nat
 c:Nat
 nn:Bool
 z:Nat->Nat->Int
 x:Int
abbrev Qpg (m c:Nat) (z:Nat->Nat->Int):SB:=.rows 3 [.int .i64] 1 m c z
def QiV:MCon:=dcon HsS (λs=>s.n<=1000000000/\s.n<=s.m/\s.m<=s.c) (λs=>[.c (.so 0 0 1 s.n s.c s.nn),.c (.v (.int .i64 s.x))]) (λs=>[Qpg s.m s.c s.z]) (λs=>sv (.bool (hasF (λj=>s.z j 0) s.x s.n 0))) (λs=>[Qpg s.m s.c s.z]) 1 (λargs _=>some (blkA args))
structure HsG (s:HsS) where
 i:Nat
 hi:i<=s.n
 hn:∀j,j<i->s.z j 0≠s.x
def Qq1 (s:HsS):Ann where
 σ:=HsG s
 I g:=([(0,.o (.c (.so 0 0 1 s.n s.c s.nn))),(1,sv (.int .i64 s.x)),(7,sv (.int .i64 s.n)),(8,sv (.int .i64 g.i))],[Qpg s.m s.c s.z])
 dec g:=s.n-g.i
 pi _ _:=[0]
 nz:=[]
theorem Qkr {of:Nat->Int}{x:Int}{m:Nat}(hm:of m=x):∀(n j:Nat),j<=m->m<j+n->hasF of x n j=true
 |0,j,h1,h2=>Za
 |n+1,j,h1,h2=>by
  unfold hasF
  by_cases e:j=m
  . subst e;rw[beq_iff_eq.2 hm];rfl
  . rw[Qkr hm n (j+1) Za Za,Bool.or_true]
theorem QrP:(ZM QiV).holds Tryz.prog 36:=by
 intro w0 S
 refine Qb (Γ:=[(52,.inl Tryz.f52 (Tryz.f52.body.getD .skip))]) (λ_=>noW) Tryz.func36 rfl Zc Qg Qd (λw S' _ _=>.cons ⟨Zc,rfl,rfl⟩ (.nil _ _ _)) QiV (λs=>[(52,[(0,Qq1 s)])]) (λx0 h s x=>⟨rfl,Zd⟩) (λs ρ w _ _ _=>Qi w _) [] (Ql 1) 400 ?_
 rintro⟨n,m,c,nn,z,x⟩ w ⟨h0,h1,h2⟩ -
 refine⟨rfl,?_⟩
 dsimp only at h0 h1 h2
 refine Qj (q:=n<=c/\(∃(s0:Ann.σ (Qq1 (HsS.mk n m c nn z x))),(eS (Zu (.so 0 0 1 n c nn)) (Zu (.so 0 0 1 n c nn))/\eS (aI x) (aI x)/\eS (aI ↑n) (aI ↑n)/\eS (aI 0) (aI ↑s0.1)/\True)/\[Zn 3 [.int .i64] 1 m c z]=[Zn 3 [.int .i64] 1 m c z])/\∀(s:HsG (HsS.mk n m c nn z x)),bif decide ((↑s.1:Int)<(↑n:Int))then ((0:Int)<=(↑s.1:Int)/\(↑s.1:Int)<(↑n:Int)/\0+n<=c)/\0+Zh (↑s.1:Int)<m/\bif x==z (0+Zh (↑s.1:Int)) 0 then endN QiV [] (Ql 1) (HsS.mk n m c nn z x) (ZI (aB (decide ((↑s.1:Int)>=(0:Int))))) [Zn 3 [.int .i64] 1 m c z]else ∃(s':HsG (HsS.mk n m c nn z x)),((eS (Zu (.so 0 0 1 n c nn)) (Zu (.so 0 0 1 n c nn))/\eS (aI x) (aI x)/\eS (aI ↑n) (aI ↑n)/\eS (aI (Zi .i64 ((↑s.1:Int)+(1:Int)))) (aI ↑s'.1)/\True)/\[Zn 3 [.int .i64] 1 m c z]=[Zn 3 [.int .i64] 1 m c z])/\n-s'.1<n-s.1 else endN QiV [] (Ql 1) (HsS.mk n m c nn z x) (ZI (aB false)) [Zn 3 [.int .i64] 1 m c z]) Zc ?_
 have e0 (j:Nat):0+(j:Int).toNat=j:=by rw[Zt,Zv]
 refine⟨ZX h1 h2,⟨⟨0,Yc _,λj hj=>absurd hj (ZQ _)⟩,⟨rfl,rfl,rfl,rfl,Zd⟩,rfl⟩,?_⟩
 rintro⟨i,hi,hn⟩
 dsimp only at hi hn ⊢
 rw[e0 i]
 refine Qp (λhlt=>?_) (λhge=>?_)
 . have hlt':i<n:=Za
   refine⟨⟨Za,hlt,Za⟩,Za,QU (λhb=>?_) (λhb=>?_)⟩
   . refine⟨(),Zd,?_,rfl⟩
     exact congrArg (λb=>ZI (Zu (ZdA (.bool b)))) (show decide ((i:Int)>=0)=hasF (λj=>z j 0) x n 0 by rw[Qkr (of:=λj=>z j 0) (m:=i) hb.symm n 0 (Yc _) Za];exact decide_eq_true Za)
   . refine⟨⟨i+1,hlt',λj hj=>?_⟩,⟨⟨rfl,rfl,rfl,svI (sucI Za),Zd⟩,rfl⟩,by dsimp only;omega⟩
     by_cases e:j=i
     . subst e;exact λh=>hb h.symm
     . exact hn j Za
 . have hin:i=n:=Za
   refine⟨(),Zd,?_,rfl⟩
   exact congrArg (λb=>ZI (Zu (ZdA (.bool b)))) (show false=hasF (λj=>z j 0) x n 0 by rw[QjA n 0 (λj _ hj=>hn j Za)])
structure FtS where
 h:List Ev
 mh:Nat
 ch:Nat
 nh:Bool
 zh:Nat->Nat->Int
 l:List Dd
 ml:Nat
 cl:Nat
 nl:Bool
 zl:Nat->Nat->Int
def errV (c:Int):Value:=if c=0 then .nilIface else .iface 66 (.int .i64 c)
def Qec:MCon:=dcon FtS (λs=>WfH s.h/\(s.h.length<=1000000000/\(s.h.length<=s.mh/\s.mh<=s.ch)/\IsE s.zh s.h)/\s.l.length<=10000000/\(s.l.length<=s.ml/\s.ml<=s.cl)/\IsR 6 Dd.at Yy s.zl s.l)
 (λs=>[.c (.so 0 0 9 s.h.length s.ch s.nh),.c (.so 1 0 6 s.l.length s.cl s.nl)]) (λs=>[QgK s.mh s.ch s.zh,QmR s.ml s.cl s.zl]) (λs=>.o (.c (.v (errV (fitC (Qh s.h) s.l))))) (λs=>[QgK s.mh s.ch s.zh,QmR s.ml s.cl s.zl]) 2 (λargs _=>match args with
 |[.c (.so b _ _ _ _ _),.c (.so d _ _ _ _ _)]=>some [b,d]
 |_=>none)
structure FtC (s:FtS) where
 mc:Nat
 cc:Nat
 nc:Bool
 fc:Nat->Nat->Int
 fo:Nat->Nat->Int
 hc:(Qh s.h).length<=mc/\mc<=cc
 hf:IsC fc (Qh s.h)
 hb:∀j,j<s.l.length->0<=fo j 0/\fo j 0<=((Qh s.h).length:Int)
abbrev FtC.of {s:FtS}(x:FtC s):Nat->Int:=λj=>x.fo j 0
abbrev FtC.mem {s:FtS}(x:FtC s):List SB:=[QgK s.mh s.ch s.zh,QmR s.ml s.cl s.zl,Qld x.mc x.cc x.fc,Qpg s.l.length s.l.length x.fo]
abbrev FtC.cs {s:FtS}(x:FtC s):SV:=.o (.c (.so 2 0 9 (Qh s.h).length x.cc x.nc))
abbrev FtC.ofs {s:FtS}(x:FtC s):SV:=.o (.c (.so 3 0 1 s.l.length s.l.length true))
abbrev FtS.dl (s:FtS):SV:=.o (.c (.so 1 0 6 s.l.length s.cl s.nl))
structure Ft0 (s:FtS) where
 x:FtC s
 i:Nat
 hi:i<=(Qh s.h).length
 he:cont1 (Qh s.h) s.l ((Qh s.h).length-i) i x.of=fitC (Qh s.h) s.l
def Qq4 (s:FtS):Ann where
 σ:=Ft0 s
 I g:=([(1,s.dl),(5,g.x.cs),(7,g.x.ofs),(29,g.x.cs),(30,sv (.int .i64 (Qh s.h).length)),(31,sv (.int .i64 g.i))],g.x.mem)
 dec g:=(Qh s.h).length-g.i
 pi env _:=[0,1,blkE env 5,blkE env 7]
 nz:=[]
structure Ft2 (s:FtS) where
 x:FtC s
 k:Nat
 hk:k<=s.l.length
 hp:∀j,j<k->1<=x.fo j 0
 he:cont2 (Qh s.h) s.l (s.l.length-k) k x.of=fitC (Qh s.h) s.l
def Qq3 (s:FtS):Ann where
 σ:=Ft2 s
 I g:=([(1,s.dl),(5,g.x.cs),(7,g.x.ofs),(92,s.dl),(93,sv (.int .i64 s.l.length)),(94,sv (.int .i64 g.k))],g.x.mem)
 dec g:=s.l.length-g.k
 pi env _:=[0,1,blkE env 5,blkE env 7]
 nz:=[]
structure Ft4 (s:FtS) where
 x:FtC s
 k:Nat
 hk:k<=s.l.length
 hp:∀j,j<s.l.length->1<=x.fo j 0
 he:QiR (Qh s.h) x.of (s.l.length-k) k=fitC (Qh s.h) s.l
def Qq2 (s:FtS):Ann where
 σ:=Ft4 s
 I g:=([(5,g.x.cs),(7,g.x.ofs),(123,sv (.int .i64 s.l.length)),(124,sv (.int .i64 g.k))],g.x.mem)
 dec g:=s.l.length-g.k
 pi env _:=[0,1,blkE env 5,blkE env 7]
 nz:=[]
structure Ft6 (s:FtS) where
 x:FtC s
 k:Nat
 j:Nat
 hk:k<s.l.length
 hj:j<=k
 hp:∀j,j<s.l.length->1<=x.fo j 0
 he:QiR (Qh s.h) x.of (s.l.length-k) k=fitC (Qh s.h) s.l
 h4:Qfh (Qh s.h) x.of k (k-j) j=Qfh (Qh s.h) x.of k k 0
def annFt6 (s:FtS):Ann where
 σ:=Ft6 s
 I g:=([(5,g.x.cs),(7,g.x.ofs),(14,sv (.int .i64 g.k)),(127,sv (.int .i64 g.k)),(128,sv (.int .i64 g.j)),(123,sv (.int .i64 s.l.length)),(124,sv (.int .i64 g.k))],g.x.mem)
 dec g:=g.k-g.j
 pi env _:=[0,1,blkE env 5,blkE env 7]
 nz:=[]
 rel:=some λs0 s=>s.k=s0.k
theorem Qcn {c e:Int}(h:c=e) (h2:e≠0):ZI (Zu (ZdA (.iface 66 (.int .i64 e))))=ZI (Zu (ZdA (errV c))):=by
 subst h;unfold errV;rw[Ze h2]
theorem b3 {a b c d e f:Int}:(bif a==b then bif c==d then bif e==f then true else false else false else false)=true↔a=b/\c=d/\e=f:=by
 by_cases h1:a=b<;>by_cases h2:c=d<;>by_cases h3:e=f<;>simp[h1,h2,h3]
theorem b2 {a b c d:Int}:(bif a==b then bif c==d then true else false else false)=true↔a=b/\c=d:=by
 by_cases h1:a=b<;>by_cases h2:c=d<;>simp[h1,h2]
theorem upd1 {fo:Nat->Nat->Int}{n:Nat}{a b:Int}(h:a=b):(λq=>updB fo n 0 0 [a] q 0)=putF (λq=>fo q 0) n b:=by
 subst h
 funext q
 by_cases e:q=n
 . subst e;rw[QfC (Zq _) (Zq _),QO];rfl
 . rw[Qg9 e,Qs _ _ e]
theorem QnZ {cs:List Cl}{d:Dd}{m:Nat}:∀(n i:Nat),fidx cs d n i=some m->m<i+n
 |0,i,h=>by cases h
 |n+1,i,h=>by
  unfold fidx at h
  split at h
  . injection h with h;omega
  . have:=QnZ n (i+1) h;omega
theorem ft_con:(ZM Qec).holds Tryz.prog 20:=by
 intro w0 S
 refine Qb (Γ:=[(33,.mem Qe7),(34,.mem QiU),(36,.mem QiV)]) (λ_=>noW) Tryz.func20 rfl Zc Qg Qd (λw S' _ _=>.cons (Qr8 w S') (.cons (QrO w S') (.cons (QrP w S') (.nil _ _ _)))) Qec (λs=>[(20,[(0,Qq4 s),(2,Qq3 s),(4,Qq2 s),(6,annFt6 s)])]) (λx0 h s x=>⟨rfl,Zd⟩) (λs ρ w _ _ _=>Qi w _) [] (Ql 2) 900 ?_
 rintro⟨h,mh,ch,nh,zh,l,ml,cl,nl,zl⟩ w ⟨hw,⟨hl,hm,hz⟩,hl2,hm2,hz2⟩ -
 refine⟨rfl,?_⟩
 dsimp only at hw hl hm hz hl2 hm2 hz2
 refine Qj (q:=∃(s:ClsS),[Zu (.so 0 0 9 (Zg h) ch nh)]=[Zu (.so 0 0 9 (Zg s.1) s.3 s.4)]/\[Zn 53 kI9 9 mh ch zh]=[Zn 53 kI9 9 s.2 s.3 s.5]/\(WfH s.1/\Zg s.1<=1000000000/\(Zg s.1<=s.2/\s.2<=s.3)/\IsE s.5 s.1)/\∀(x:ClsR),(Zg (Qh s.1)<=x.1/\x.1<=x.2)/\IsC x.4 (Qh s.1)->Zg l<=cl/\((0:Int)<=(↑(Zg l):Int)/\(↑(Zg l):Int)=(↑(Zg l):Int)/\(↑(Zg l):Int)<=(68719476736:Int))/\Zg (Qh s.1)<=x.2/\(∃(s0:Ann.σ (Qq4 (FtS.mk h mh ch nh zh l ml cl nl zl))),(eS (Zu (.so 1 0 6 (Zg l) cl nl)) (Zu (.so 1 0 6 (Zg l) cl nl))/\eS (Zu (.so 2 0 9 (Zg (Qh s.1)) x.2 x.3)) (Zu (.so 2 0 9 (Zg (Qh h)) (Ft0.x s0).2 (Ft0.x s0).3))/\eS (Zu (.so 3 0 1 (Zh (↑(Zg l):Int)) (Zh (↑(Zg l):Int)) true)) (Zu (.so 3 0 1 (Zg l) (Zg l) true))/\eS (Zu (.so 2 0 9 (Zg (Qh s.1)) x.2 x.3)) (Zu (.so 2 0 9 (Zg (Qh h)) (Ft0.x s0).2 (Ft0.x s0).3))/\eS (aI (↑(Zg (Qh s.1)):Int)) (aI (↑(Zg (Qh h)):Int))/\eS (aI 0) (aI ↑s0.2)/\True)/\[Zn 53 kI9 9 s.2 s.3 s.5,Zn 44 kI6 6 ml cl zl,Zn 97 kI9 9 x.1 x.2 x.4,Zn 3 [.int .i64] 1 (Zh (↑(Zg l):Int)) (Zh (↑(Zg l):Int)) λ(x x_1:Nat)=>(0:Int)]=[Zn 53 kI9 9 mh ch zh,Zn 44 kI6 6 ml cl zl,Zn 97 kI9 9 (Ft0.x s0).1 (Ft0.x s0).2 (Ft0.x s0).4,Zn 3 [.int .i64] 1 (Zg l) (Zg l) (Ft0.x s0).5])/\∀(s:Ft0 (FtS.mk h mh ch nh zh l ml cl nl zl)),bif decide ((↑s.2:Int)<(↑(Zg (Qh h)):Int))then ((0:Int)<=(↑s.2:Int)/\(↑s.2:Int)<(↑(Zg (Qh h)):Int)/\0+Zg (Qh h)<=(Ft0.x s).2)/\0+Zh (↑s.2:Int)<(Ft0.x s).1/\bif (Ft0.x s).4 (0+Zh (↑s.2:Int)) 5==(0:Int)then ∃(s':Ft0 (FtS.mk h mh ch nh zh l ml cl nl zl)),((eS (Zu (.so 1 0 6 (Zg l) cl nl)) (Zu (.so 1 0 6 (Zg l) cl nl))/\eS (Zu (.so 2 0 9 (Zg (Qh h)) (Ft0.x s).2 (Ft0.x s).3)) (Zu (.so 2 0 9 (Zg (Qh h)) (Ft0.x s').2 (Ft0.x s').3))/\eS (Zu (.so 3 0 1 (Zg l) (Zg l) true)) (Zu (.so 3 0 1 (Zg l) (Zg l) true))/\eS (Zu (.so 2 0 9 (Zg (Qh h)) (Ft0.x s).2 (Ft0.x s).3)) (Zu (.so 2 0 9 (Zg (Qh h)) (Ft0.x s').2 (Ft0.x s').3))/\eS (aI (↑(Zg (Qh h)):Int)) (aI (↑(Zg (Qh h)):Int))/\eS (aI (Zi .i64 ((↑s.2:Int)+(1:Int)))) (aI ↑s'.2)/\True)/\[Zn 53 kI9 9 mh ch zh,Zn 44 kI6 6 ml cl zl,Zn 97 kI9 9 (Ft0.x s).1 (Ft0.x s).2 (Ft0.x s).4,Zn 3 [.int .i64] 1 (Zg l) (Zg l) (Ft0.x s).5]=[Zn 53 kI9 9 mh ch zh,Zn 44 kI6 6 ml cl zl,Zn 97 kI9 9 (Ft0.x s').1 (Ft0.x s').2 (Ft0.x s').4,Zn 3 [.int .i64] 1 (Zg l) (Zg l) (Ft0.x s').5])/\Zg (Qh h)-s'.2<Zg (Qh h)-s.2 else bif decide ((Ft0.x s).4 (0+Zh (↑s.2:Int)) 6<(1:Int))then endN Qec [] (Ql 2) (FtS.mk h mh ch nh zh l ml cl nl zl) (ZI (Zu (.v (.iface 66 (ZA .i64 (7:Int)))))) [Zn 53 kI9 9 mh ch zh,Zn 44 kI6 6 ml cl zl,Zn 97 kI9 9 (Ft0.x s).1 (Ft0.x s).2 (Ft0.x s).4,Zn 3 [.int .i64] 1 (Zg l) (Zg l) (Ft0.x s).5,Zj [sI ((Ft0.x s).4 (0+Zh (↑s.2:Int)) 0),sI ((Ft0.x s).4 (0+Zh (↑s.2:Int)) 1),sI ((Ft0.x s).4 (0+Zh (↑s.2:Int)) 2),sI ((Ft0.x s).4 (0+Zh (↑s.2:Int)) 3),sI ((Ft0.x s).4 (0+Zh (↑s.2:Int)) 4),sI ((Ft0.x s).4 (0+Zh (↑s.2:Int)) 5),sI ((Ft0.x s).4 (0+Zh (↑s.2:Int)) 6),sI ((Ft0.x s).4 (0+Zh (↑s.2:Int)) 7),sI ((Ft0.x s).4 (0+Zh (↑s.2:Int)) 8)] 97]else Zg l<=cl/\bif decide ((Ft0.x s).4 (0+Zh (↑s.2:Int)) 6>(↑(Zg l):Int))then endN Qec [] (Ql 2) (FtS.mk h mh ch nh zh l ml cl nl zl) (ZI (Zu (.v (.iface 66 (ZA .i64 (7:Int)))))) [Zn 53 kI9 9 mh ch zh,Zn 44 kI6 6 ml cl zl,Zn 97 kI9 9 (Ft0.x s).1 (Ft0.x s).2 (Ft0.x s).4,Zn 3 [.int .i64] 1 (Zg l) (Zg l) (Ft0.x s).5,Zj [sI ((Ft0.x s).4 (0+Zh (↑s.2:Int)) 0),sI ((Ft0.x s).4 (0+Zh (↑s.2:Int)) 1),sI ((Ft0.x s).4 (0+Zh (↑s.2:Int)) 2),sI ((Ft0.x s).4 (0+Zh (↑s.2:Int)) 3),sI ((Ft0.x s).4 (0+Zh (↑s.2:Int)) 4),sI ((Ft0.x s).4 (0+Zh (↑s.2:Int)) 5),sI ((Ft0.x s).4 (0+Zh (↑s.2:Int)) 6),sI ((Ft0.x s).4 (0+Zh (↑s.2:Int)) 7),sI ((Ft0.x s).4 (0+Zh (↑s.2:Int)) 8)] 97]else ((0:Int)<=Zi .i64 ((Ft0.x s).4 (0+Zh (↑s.2:Int)) 6-(1:Int))/\Zi .i64 ((Ft0.x s).4 (0+Zh (↑s.2:Int)) 6-(1:Int))<(↑(Zg l):Int)/\0+Zg l<=cl)/\0+Zh (Zi .i64 ((Ft0.x s).4 (0+Zh (↑s.2:Int)) 6-(1:Int)))<ml/\bif zl (0+Zh (Zi .i64 ((Ft0.x s).4 (0+Zh (↑s.2:Int)) 6-(1:Int)))) 0 != (Ft0.x s).4 (0+Zh (↑s.2:Int)) 0 then endN Qec [] (Ql 2) (FtS.mk h mh ch nh zh l ml cl nl zl) (ZI (Zu (.v (.iface 66 (ZA .i64 (13:Int)))))) [Zn 53 kI9 9 mh ch zh,Zn 44 kI6 6 ml cl zl,Zn 97 kI9 9 (Ft0.x s).1 (Ft0.x s).2 (Ft0.x s).4,Zn 3 [.int .i64] 1 (Zg l) (Zg l) (Ft0.x s).5,Zj [sI ((Ft0.x s).4 (0+Zh (↑s.2:Int)) 0),sI ((Ft0.x s).4 (0+Zh (↑s.2:Int)) 1),sI ((Ft0.x s).4 (0+Zh (↑s.2:Int)) 2),sI ((Ft0.x s).4 (0+Zh (↑s.2:Int)) 3),sI ((Ft0.x s).4 (0+Zh (↑s.2:Int)) 4),sI ((Ft0.x s).4 (0+Zh (↑s.2:Int)) 5),sI ((Ft0.x s).4 (0+Zh (↑s.2:Int)) 6),sI ((Ft0.x s).4 (0+Zh (↑s.2:Int)) 7),sI ((Ft0.x s).4 (0+Zh (↑s.2:Int)) 8)] 97,Zj [sI (zl (0+Zh (Zi .i64 ((Ft0.x s).4 (0+Zh (↑s.2:Int)) 6-(1:Int)))) 0),sI (zl (0+Zh (Zi .i64 ((Ft0.x s).4 (0+Zh (↑s.2:Int)) 6-(1:Int)))) 1),sI (zl (0+Zh (Zi .i64 ((Ft0.x s).4 (0+Zh (↑s.2:Int)) 6-(1:Int)))) 2),sI (zl (0+Zh (Zi .i64 ((Ft0.x s).4 (0+Zh (↑s.2:Int)) 6-(1:Int)))) 3),sI (zl (0+Zh (Zi .i64 ((Ft0.x s).4 (0+Zh (↑s.2:Int)) 6-(1:Int)))) 4),sI (zl (0+Zh (Zi .i64 ((Ft0.x s).4 (0+Zh (↑s.2:Int)) 6-(1:Int)))) 5)] 44]else bif bif bif zl (0+Zh (Zi .i64 ((Ft0.x s).4 (0+Zh (↑s.2:Int)) 6-(1:Int)))) 1==(Ft0.x s).4 (0+Zh (↑s.2:Int)) 1 then bif zl (0+Zh (Zi .i64 ((Ft0.x s).4 (0+Zh (↑s.2:Int)) 6-(1:Int)))) 2==(Ft0.x s).4 (0+Zh (↑s.2:Int)) 2 then bif zl (0+Zh (Zi .i64 ((Ft0.x s).4 (0+Zh (↑s.2:Int)) 6-(1:Int)))) 3==(Ft0.x s).4 (0+Zh (↑s.2:Int)) 3 then true else false else false else false then false else true then endN Qec [] (Ql 2) (FtS.mk h mh ch nh zh l ml cl nl zl) (ZI (Zu (.v (.iface 66 (ZA .i64 (13:Int)))))) [Zn 53 kI9 9 mh ch zh,Zn 44 kI6 6 ml cl zl,Zn 97 kI9 9 (Ft0.x s).1 (Ft0.x s).2 (Ft0.x s).4,Zn 3 [.int .i64] 1 (Zg l) (Zg l) (Ft0.x s).5,Zj [sI ((Ft0.x s).4 (0+Zh (↑s.2:Int)) 0),sI ((Ft0.x s).4 (0+Zh (↑s.2:Int)) 1),sI ((Ft0.x s).4 (0+Zh (↑s.2:Int)) 2),sI ((Ft0.x s).4 (0+Zh (↑s.2:Int)) 3),sI ((Ft0.x s).4 (0+Zh (↑s.2:Int)) 4),sI ((Ft0.x s).4 (0+Zh (↑s.2:Int)) 5),sI ((Ft0.x s).4 (0+Zh (↑s.2:Int)) 6),sI ((Ft0.x s).4 (0+Zh (↑s.2:Int)) 7),sI ((Ft0.x s).4 (0+Zh (↑s.2:Int)) 8)] 97,Zj [sI (zl (0+Zh (Zi .i64 ((Ft0.x s).4 (0+Zh (↑s.2:Int)) 6-(1:Int)))) 0),sI (zl (0+Zh (Zi .i64 ((Ft0.x s).4 (0+Zh (↑s.2:Int)) 6-(1:Int)))) 1),sI (zl (0+Zh (Zi .i64 ((Ft0.x s).4 (0+Zh (↑s.2:Int)) 6-(1:Int)))) 2),sI (zl (0+Zh (Zi .i64 ((Ft0.x s).4 (0+Zh (↑s.2:Int)) 6-(1:Int)))) 3),sI (zl (0+Zh (Zi .i64 ((Ft0.x s).4 (0+Zh (↑s.2:Int)) 6-(1:Int)))) 4),sI (zl (0+Zh (Zi .i64 ((Ft0.x s).4 (0+Zh (↑s.2:Int)) 6-(1:Int)))) 5)] 44]else bif bif bif zl (0+Zh (Zi .i64 ((Ft0.x s).4 (0+Zh (↑s.2:Int)) 6-(1:Int)))) 4==(Ft0.x s).4 (0+Zh (↑s.2:Int)) 7 then bif zl (0+Zh (Zi .i64 ((Ft0.x s).4 (0+Zh (↑s.2:Int)) 6-(1:Int)))) 5==(Ft0.x s).4 (0+Zh (↑s.2:Int)) 8 then true else false else false then false else true then endN Qec [] (Ql 2) (FtS.mk h mh ch nh zh l ml cl nl zl) (ZI (Zu (.v (.iface 66 (ZA .i64 (13:Int)))))) [Zn 53 kI9 9 mh ch zh,Zn 44 kI6 6 ml cl zl,Zn 97 kI9 9 (Ft0.x s).1 (Ft0.x s).2 (Ft0.x s).4,Zn 3 [.int .i64] 1 (Zg l) (Zg l) (Ft0.x s).5,Zj [sI ((Ft0.x s).4 (0+Zh (↑s.2:Int)) 0),sI ((Ft0.x s).4 (0+Zh (↑s.2:Int)) 1),sI ((Ft0.x s).4 (0+Zh (↑s.2:Int)) 2),sI ((Ft0.x s).4 (0+Zh (↑s.2:Int)) 3),sI ((Ft0.x s).4 (0+Zh (↑s.2:Int)) 4),sI ((Ft0.x s).4 (0+Zh (↑s.2:Int)) 5),sI ((Ft0.x s).4 (0+Zh (↑s.2:Int)) 6),sI ((Ft0.x s).4 (0+Zh (↑s.2:Int)) 7),sI ((Ft0.x s).4 (0+Zh (↑s.2:Int)) 8)] 97,Zj [sI (zl (0+Zh (Zi .i64 ((Ft0.x s).4 (0+Zh (↑s.2:Int)) 6-(1:Int)))) 0),sI (zl (0+Zh (Zi .i64 ((Ft0.x s).4 (0+Zh (↑s.2:Int)) 6-(1:Int)))) 1),sI (zl (0+Zh (Zi .i64 ((Ft0.x s).4 (0+Zh (↑s.2:Int)) 6-(1:Int)))) 2),sI (zl (0+Zh (Zi .i64 ((Ft0.x s).4 (0+Zh (↑s.2:Int)) 6-(1:Int)))) 3),sI (zl (0+Zh (Zi .i64 ((Ft0.x s).4 (0+Zh (↑s.2:Int)) 6-(1:Int)))) 4),sI (zl (0+Zh (Zi .i64 ((Ft0.x s).4 (0+Zh (↑s.2:Int)) 6-(1:Int)))) 5)] 44]else ((0:Int)<=Zi .i64 ((Ft0.x s).4 (0+Zh (↑s.2:Int)) 6-(1:Int))/\Zi .i64 ((Ft0.x s).4 (0+Zh (↑s.2:Int)) 6-(1:Int))<(↑(Zg l):Int)/\0+Zg l<=Zg l)/\0+Zh (Zi .i64 ((Ft0.x s).4 (0+Zh (↑s.2:Int)) 6-(1:Int)))<Zg l/\bif decide ((Ft0.x s).5 (0+Zh (Zi .i64 ((Ft0.x s).4 (0+Zh (↑s.2:Int)) 6-(1:Int)))) 0>(0:Int))then endN Qec [] (Ql 2) (FtS.mk h mh ch nh zh l ml cl nl zl) (ZI (Zu (.v (.iface 66 (ZA .i64 (9:Int)))))) [Zn 53 kI9 9 mh ch zh,Zn 44 kI6 6 ml cl zl,Zn 97 kI9 9 (Ft0.x s).1 (Ft0.x s).2 (Ft0.x s).4,Zn 3 [.int .i64] 1 (Zg l) (Zg l) (Ft0.x s).5,Zj [sI ((Ft0.x s).4 (0+Zh (↑s.2:Int)) 0),sI ((Ft0.x s).4 (0+Zh (↑s.2:Int)) 1),sI ((Ft0.x s).4 (0+Zh (↑s.2:Int)) 2),sI ((Ft0.x s).4 (0+Zh (↑s.2:Int)) 3),sI ((Ft0.x s).4 (0+Zh (↑s.2:Int)) 4),sI ((Ft0.x s).4 (0+Zh (↑s.2:Int)) 5),sI ((Ft0.x s).4 (0+Zh (↑s.2:Int)) 6),sI ((Ft0.x s).4 (0+Zh (↑s.2:Int)) 7),sI ((Ft0.x s).4 (0+Zh (↑s.2:Int)) 8)] 97,Zj [sI (zl (0+Zh (Zi .i64 ((Ft0.x s).4 (0+Zh (↑s.2:Int)) 6-(1:Int)))) 0),sI (zl (0+Zh (Zi .i64 ((Ft0.x s).4 (0+Zh (↑s.2:Int)) 6-(1:Int)))) 1),sI (zl (0+Zh (Zi .i64 ((Ft0.x s).4 (0+Zh (↑s.2:Int)) 6-(1:Int)))) 2),sI (zl (0+Zh (Zi .i64 ((Ft0.x s).4 (0+Zh (↑s.2:Int)) 6-(1:Int)))) 3),sI (zl (0+Zh (Zi .i64 ((Ft0.x s).4 (0+Zh (↑s.2:Int)) 6-(1:Int)))) 4),sI (zl (0+Zh (Zi .i64 ((Ft0.x s).4 (0+Zh (↑s.2:Int)) 6-(1:Int)))) 5)] 44]else ((0:Int)<=Zi .i64 ((Ft0.x s).4 (0+Zh (↑s.2:Int)) 6-(1:Int))/\Zi .i64 ((Ft0.x s).4 (0+Zh (↑s.2:Int)) 6-(1:Int))<(↑(Zg l):Int)/\0+Zg l<=Zg l)/\0+Zh (Zi .i64 ((Ft0.x s).4 (0+Zh (↑s.2:Int)) 6-(1:Int)))<Zg l/\∃(s':Ft0 (FtS.mk h mh ch nh zh l ml cl nl zl)),((eS (Zu (.so 1 0 6 (Zg l) cl nl)) (Zu (.so 1 0 6 (Zg l) cl nl))/\eS (Zu (.so 2 0 9 (Zg (Qh h)) (Ft0.x s).2 (Ft0.x s).3)) (Zu (.so 2 0 9 (Zg (Qh h)) (Ft0.x s').2 (Ft0.x s').3))/\eS (Zu (.so 3 0 1 (Zg l) (Zg l) true)) (Zu (.so 3 0 1 (Zg l) (Zg l) true))/\eS (Zu (.so 2 0 9 (Zg (Qh h)) (Ft0.x s).2 (Ft0.x s).3)) (Zu (.so 2 0 9 (Zg (Qh h)) (Ft0.x s').2 (Ft0.x s').3))/\eS (aI (↑(Zg (Qh h)):Int)) (aI (↑(Zg (Qh h)):Int))/\eS (aI (Zi .i64 ((↑s.2:Int)+(1:Int)))) (aI ↑s'.2)/\True)/\[Zn 53 kI9 9 mh ch zh,Zn 44 kI6 6 ml cl zl,Zn 97 kI9 9 (Ft0.x s).1 (Ft0.x s).2 (Ft0.x s).4,Zn 3 [.int .i64] 1 (Zg l) (Zg l) λ(i j:Nat)=>bif match ZE i (0+Zh (Zi .i64 ((Ft0.x s).4 (0+Zh (↑s.2:Int)) 6-(1:Int))))with|false=>false|true=>ZP j 0 then match Zk [Zi .i64 ((↑s.2:Int)+(1:Int))] j with|some x=>x|none=>(0:Int)else (Ft0.x s).5 i j]=[Zn 53 kI9 9 mh ch zh,Zn 44 kI6 6 ml cl zl,Zn 97 kI9 9 (Ft0.x s').1 (Ft0.x s').2 (Ft0.x s').4,Zn 3 [.int .i64] 1 (Zg l) (Zg l) (Ft0.x s').5])/\Zg (Qh h)-s'.2<Zg (Qh h)-s.2 else Zg l<=cl/\(∃(s0:Ann.σ (Qq3 (FtS.mk h mh ch nh zh l ml cl nl zl))),(eS (Zu (.so 1 0 6 (Zg l) cl nl)) (Zu (.so 1 0 6 (Zg l) cl nl))/\eS (Zu (.so 2 0 9 (Zg (Qh h)) (Ft0.x s).2 (Ft0.x s).3)) (Zu (.so 2 0 9 (Zg (Qh h)) (Ft2.x s0).2 (Ft2.x s0).3))/\eS (Zu (.so 3 0 1 (Zg l) (Zg l) true)) (Zu (.so 3 0 1 (Zg l) (Zg l) true))/\eS (Zu (.so 1 0 6 (Zg l) cl nl)) (Zu (.so 1 0 6 (Zg l) cl nl))/\eS (aI (↑(Zg l):Int)) (aI (↑(Zg l):Int))/\eS (aI 0) (aI ↑s0.2)/\True)/\[Zn 53 kI9 9 mh ch zh,Zn 44 kI6 6 ml cl zl,Zn 97 kI9 9 (Ft0.x s).1 (Ft0.x s).2 (Ft0.x s).4,Zn 3 [.int .i64] 1 (Zg l) (Zg l) (Ft0.x s).5]=[Zn 53 kI9 9 mh ch zh,Zn 44 kI6 6 ml cl zl,Zn 97 kI9 9 (Ft2.x s0).1 (Ft2.x s0).2 (Ft2.x s0).4,Zn 3 [.int .i64] 1 (Zg l) (Zg l) (Ft2.x s0).5])/\∀(s:Ft2 (FtS.mk h mh ch nh zh l ml cl nl zl)),bif decide ((↑s.2:Int)<(↑(Zg l):Int))then ((0:Int)<=(↑s.2:Int)/\(↑s.2:Int)<(↑(Zg l):Int)/\0+Zg l<=cl)/\0+Zh (↑s.2:Int)<ml/\((0:Int)<=(↑s.2:Int)/\(↑s.2:Int)<(↑(Zg l):Int)/\0+Zg l<=Zg l)/\0+Zh (↑s.2:Int)<Zg l/\bif decide ((Ft2.x s).5 (0+Zh (↑s.2:Int)) 0>(0:Int))then ∃(s':Ft2 (FtS.mk h mh ch nh zh l ml cl nl zl)),((eS (Zu (.so 1 0 6 (Zg l) cl nl)) (Zu (.so 1 0 6 (Zg l) cl nl))/\eS (Zu (.so 2 0 9 (Zg (Qh h)) (Ft2.x s).2 (Ft2.x s).3)) (Zu (.so 2 0 9 (Zg (Qh h)) (Ft2.x s').2 (Ft2.x s').3))/\eS (Zu (.so 3 0 1 (Zg l) (Zg l) true)) (Zu (.so 3 0 1 (Zg l) (Zg l) true))/\eS (Zu (.so 1 0 6 (Zg l) cl nl)) (Zu (.so 1 0 6 (Zg l) cl nl))/\eS (aI (↑(Zg l):Int)) (aI (↑(Zg l):Int))/\eS (aI (Zi .i64 ((↑s.2:Int)+(1:Int)))) (aI ↑s'.2)/\True)/\[Zn 53 kI9 9 mh ch zh,Zn 44 kI6 6 ml cl zl,Zn 97 kI9 9 (Ft2.x s).1 (Ft2.x s).2 (Ft2.x s).4,Zn 3 [.int .i64] 1 (Zg l) (Zg l) (Ft2.x s).5]=[Zn 53 kI9 9 mh ch zh,Zn 44 kI6 6 ml cl zl,Zn 97 kI9 9 (Ft2.x s').1 (Ft2.x s').2 (Ft2.x s').4,Zn 3 [.int .i64] 1 (Zg l) (Zg l) (Ft2.x s').5])/\Zg l-s'.2<Zg l-s.2 else ∃(s_1:IxS),[Zu (.so 2 0 9 (Zg (Qh h)) (Ft2.x s).2 (Ft2.x s).3),Zu (.fn 35 [(4,0)])]=[Zu (.so 2 0 9 (Zg s_1.1) s_1.3 s_1.4),Zu (.fn 35 [(4,0)])]/\[Zn 97 kI9 9 (Ft2.x s).1 (Ft2.x s).2 (Ft2.x s).4,Zj [sI (zl (0+Zh (↑s.2:Int)) 0),sI (zl (0+Zh (↑s.2:Int)) 1),sI (zl (0+Zh (↑s.2:Int)) 2),sI (zl (0+Zh (↑s.2:Int)) 3),sI (zl (0+Zh (↑s.2:Int)) 4),sI (zl (0+Zh (↑s.2:Int)) 5)] 44]=[Zn 97 kI9 9 s_1.2 s_1.3 s_1.5,Zj [sI (Dd.at s_1.6 0),sI (Dd.at s_1.6 1),sI (Dd.at s_1.6 2),sI (Dd.at s_1.6 3),sI (Dd.at s_1.6 4),sI (Dd.at s_1.6 5)] 44]/\(Zg s_1.1<=1000000000/\(Zg s_1.1<=s_1.2/\s_1.2<=s_1.3)/\IsC s_1.5 s_1.1)/\∀(x:Unit),True->bif decide ((match fidx s_1.1 s_1.6 (Zg s_1.1) 0 with|none=>(-1:Int)|some i=>(↑i:Int))<(0:Int))then endN Qec [] (Ql 2) (FtS.mk h mh ch nh zh l ml cl nl zl) (ZI (Zu (.v (.iface 66 (ZA .i64 (8:Int)))))) [Zn 53 kI9 9 mh ch zh,Zn 44 kI6 6 ml cl zl,Zn 97 kI9 9 s_1.2 s_1.3 s_1.5,Zn 3 [.int .i64] 1 (Zg l) (Zg l) (Ft2.x s).5,Zj [sI (Dd.at s_1.6 0),sI (Dd.at s_1.6 1),sI (Dd.at s_1.6 2),sI (Dd.at s_1.6 3),sI (Dd.at s_1.6 4),sI (Dd.at s_1.6 5)] 44]else ∃(s_2:HsS),[Zu (.so 3 0 1 (Zg l) (Zg l) true),aI (Zi .i64 ((match fidx s_1.1 s_1.6 (Zg s_1.1) 0 with|none=>(-1:Int)|some i=>(↑i:Int))+(1:Int)))]=[Zu (.so 3 0 1 s_2.1 s_2.3 s_2.4),aI s_2.6]/\[Zn 3 [.int .i64] 1 (Zg l) (Zg l) (Ft2.x s).5]=[Zn 3 [.int .i64] 1 s_2.2 s_2.3 s_2.5]/\(s_2.1<=1000000000/\s_2.1<=s_2.2/\s_2.2<=s_2.3)/\∀(x:Unit),True->bif hasF (λ(j:Nat)=>s_2.5 j 0) s_2.6 s_2.1 0 then endN Qec [] (Ql 2) (FtS.mk h mh ch nh zh l ml cl nl zl) (ZI (Zu (.v (.iface 66 (ZA .i64 (8:Int)))))) [Zn 53 kI9 9 mh ch zh,Zn 44 kI6 6 ml cl zl,Zn 97 kI9 9 s_1.2 s_1.3 s_1.5,Zn 3 [.int .i64] 1 s_2.2 s_2.3 s_2.5,Zj [sI (Dd.at s_1.6 0),sI (Dd.at s_1.6 1),sI (Dd.at s_1.6 2),sI (Dd.at s_1.6 3),sI (Dd.at s_1.6 4),sI (Dd.at s_1.6 5)] 44]else ((0:Int)<=(↑s.2:Int)/\(↑s.2:Int)<(↑(Zg l):Int)/\0+Zg l<=Zg l)/\0+Zh (↑s.2:Int)<s_2.2/\∃(s':Ft2 (FtS.mk h mh ch nh zh l ml cl nl zl)),((eS (Zu (.so 1 0 6 (Zg l) cl nl)) (Zu (.so 1 0 6 (Zg l) cl nl))/\eS (Zu (.so 2 0 9 (Zg (Qh h)) (Ft2.x s).2 (Ft2.x s).3)) (Zu (.so 2 0 9 (Zg (Qh h)) (Ft2.x s').2 (Ft2.x s').3))/\eS (Zu (.so 3 0 1 (Zg l) (Zg l) true)) (Zu (.so 3 0 1 (Zg l) (Zg l) true))/\eS (Zu (.so 1 0 6 (Zg l) cl nl)) (Zu (.so 1 0 6 (Zg l) cl nl))/\eS (aI (↑(Zg l):Int)) (aI (↑(Zg l):Int))/\eS (aI (Zi .i64 ((↑s.2:Int)+(1:Int)))) (aI ↑s'.2)/\True)/\[Zn 53 kI9 9 mh ch zh,Zn 44 kI6 6 ml cl zl,Zn 97 kI9 9 s_1.2 s_1.3 s_1.5,Zn 3 [.int .i64] 1 s_2.2 s_2.3 λ(i j:Nat)=>bif match ZE i (0+Zh (↑s.2:Int))with|false=>false|true=>ZP j 0 then match Zk [Zi .i64 ((match fidx s_1.1 s_1.6 (Zg s_1.1) 0 with|none=>(-1:Int)|some i=>(↑i:Int))+(1:Int))] j with|some x=>x|none=>(0:Int)else s_2.5 i j]=[Zn 53 kI9 9 mh ch zh,Zn 44 kI6 6 ml cl zl,Zn 97 kI9 9 (Ft2.x s').1 (Ft2.x s').2 (Ft2.x s').4,Zn 3 [.int .i64] 1 (Zg l) (Zg l) (Ft2.x s').5])/\Zg l-s'.2<Zg l-s.2 else Zg l<=Zg l/\(∃(s0:Ann.σ (Qq2 (FtS.mk h mh ch nh zh l ml cl nl zl))),(eS (Zu (.so 2 0 9 (Zg (Qh h)) (Ft2.x s).2 (Ft2.x s).3)) (Zu (.so 2 0 9 (Zg (Qh h)) (Ft4.x s0).2 (Ft4.x s0).3))/\eS (Zu (.so 3 0 1 (Zg l) (Zg l) true)) (Zu (.so 3 0 1 (Zg l) (Zg l) true))/\eS (aI (↑(Zg l):Int)) (aI (↑(Zg l):Int))/\eS (aI 0) (aI ↑s0.2)/\True)/\[Zn 53 kI9 9 mh ch zh,Zn 44 kI6 6 ml cl zl,Zn 97 kI9 9 (Ft2.x s).1 (Ft2.x s).2 (Ft2.x s).4,Zn 3 [.int .i64] 1 (Zg l) (Zg l) (Ft2.x s).5]=[Zn 53 kI9 9 mh ch zh,Zn 44 kI6 6 ml cl zl,Zn 97 kI9 9 (Ft4.x s0).1 (Ft4.x s0).2 (Ft4.x s0).4,Zn 3 [.int .i64] 1 (Zg l) (Zg l) (Ft4.x s0).5])/\∀(s:Ft4 (FtS.mk h mh ch nh zh l ml cl nl zl)),bif decide ((↑s.2:Int)<(↑(Zg l):Int))then ∃(s0:Ft6 (FtS.mk h mh ch nh zh l ml cl nl zl)),((eS (Zu (.so 2 0 9 (Zg (Qh h)) (Ft4.x s).2 (Ft4.x s).3)) (Zu (.so 2 0 9 (Zg (Qh h)) (Ft6.x s0).2 (Ft6.x s0).3))/\eS (Zu (.so 3 0 1 (Zg l) (Zg l) true)) (Zu (.so 3 0 1 (Zg l) (Zg l) true))/\eS (aI ↑s.2) (aI ↑s0.2)/\eS (aI ↑s.2) (aI ↑s0.2)/\eS (aI 0) (aI ↑s0.3)/\eS (aI (↑(Zg l):Int)) (aI (↑(Zg l):Int))/\eS (aI ↑s.2) (aI ↑s0.2)/\True)/\[Zn 53 kI9 9 mh ch zh,Zn 44 kI6 6 ml cl zl,Zn 97 kI9 9 (Ft4.x s).1 (Ft4.x s).2 (Ft4.x s).4,Zn 3 [.int .i64] 1 (Zg l) (Zg l) (Ft4.x s).5]=[Zn 53 kI9 9 mh ch zh,Zn 44 kI6 6 ml cl zl,Zn 97 kI9 9 (Ft6.x s0).1 (Ft6.x s0).2 (Ft6.x s0).4,Zn 3 [.int .i64] 1 (Zg l) (Zg l) (Ft6.x s0).5])/\s0.2=s0.2/\∀(s_1:Ft6 (FtS.mk h mh ch nh zh l ml cl nl zl)),s_1.2=s0.2->bif decide ((↑s_1.3:Int)<(↑s_1.2:Int))then ((0:Int)<=(↑s_1.3:Int)/\(↑s_1.3:Int)<(↑(Zg l):Int)/\0+Zg l<=Zg l)/\0+Zh (↑s_1.3:Int)<Zg l/\((0:Int)<=Zi .i64 ((Ft6.x s_1).5 (0+Zh (↑s_1.3:Int)) 0-(1:Int))/\Zi .i64 ((Ft6.x s_1).5 (0+Zh (↑s_1.3:Int)) 0-(1:Int))<(↑(Zg (Qh h)):Int)/\0+Zg (Qh h)<=(Ft6.x s_1).2)/\0+Zh (Zi .i64 ((Ft6.x s_1).5 (0+Zh (↑s_1.3:Int)) 0-(1:Int)))<(Ft6.x s_1).1/\((0:Int)<=(↑s_1.2:Int)/\(↑s_1.2:Int)<(↑(Zg l):Int)/\0+Zg l<=Zg l)/\0+Zh (↑s_1.2:Int)<Zg l/\((0:Int)<=Zi .i64 ((Ft6.x s_1).5 (0+Zh (↑s_1.2:Int)) 0-(1:Int))/\Zi .i64 ((Ft6.x s_1).5 (0+Zh (↑s_1.2:Int)) 0-(1:Int))<(↑(Zg (Qh h)):Int)/\0+Zg (Qh h)<=(Ft6.x s_1).2)/\0+Zh (Zi .i64 ((Ft6.x s_1).5 (0+Zh (↑s_1.2:Int)) 0-(1:Int)))<(Ft6.x s_1).1/\dP Tryz.f20 33 4 [⟨19,[],[5],[],false⟩,⟨18,[],[4],[],false⟩,⟨17,[],[5],[5],false⟩,⟨16,[],[4],[4],false⟩,xR 15 2,xF 14 2,xE 13,xR 12 3,xF 11 3,xE 10,xF 9 3,xF 8 2,xR 7 2,xF 6 2,xE 5,xR 4 3,xF 3 3,xE 2,xF 1 3,xF 0 2]/\bif decide ((Ft6.x s_1).4 (0+Zh (Zi .i64 ((Ft6.x s_1).5 (0+Zh (↑s_1.2:Int)) 0-(1:Int)))) 5>(0:Int))then bif decide ((Ft6.x s_1).4 (0+Zh (Zi .i64 ((Ft6.x s_1).5 (0+Zh (↑s_1.2:Int)) 0-(1:Int)))) 5<(Ft6.x s_1).4 (0+Zh (Zi .i64 ((Ft6.x s_1).5 (0+Zh (↑s_1.3:Int)) 0-(1:Int)))) 4)then endN Qec [] (Ql 2) (FtS.mk h mh ch nh zh l ml cl nl zl) (ZI (Zu (.v (.iface 66 (ZA .i64 (6:Int)))))) [Zn 53 kI9 9 mh ch zh,Zn 44 kI6 6 ml cl zl,Zn 97 kI9 9 (Ft6.x s_1).1 (Ft6.x s_1).2 (Ft6.x s_1).4,Zn 3 [.int .i64] 1 (Zg l) (Zg l) (Ft6.x s_1).5,Zj [sI ((Ft6.x s_1).4 (0+Zh (Zi .i64 ((Ft6.x s_1).5 (0+Zh (↑s_1.3:Int)) 0-(1:Int)))) 0),sI ((Ft6.x s_1).4 (0+Zh (Zi .i64 ((Ft6.x s_1).5 (0+Zh (↑s_1.3:Int)) 0-(1:Int)))) 1),sI ((Ft6.x s_1).4 (0+Zh (Zi .i64 ((Ft6.x s_1).5 (0+Zh (↑s_1.3:Int)) 0-(1:Int)))) 2),sI ((Ft6.x s_1).4 (0+Zh (Zi .i64 ((Ft6.x s_1).5 (0+Zh (↑s_1.3:Int)) 0-(1:Int)))) 3),sI ((Ft6.x s_1).4 (0+Zh (Zi .i64 ((Ft6.x s_1).5 (0+Zh (↑s_1.3:Int)) 0-(1:Int)))) 4),sI ((Ft6.x s_1).4 (0+Zh (Zi .i64 ((Ft6.x s_1).5 (0+Zh (↑s_1.3:Int)) 0-(1:Int)))) 5),sI ((Ft6.x s_1).4 (0+Zh (Zi .i64 ((Ft6.x s_1).5 (0+Zh (↑s_1.3:Int)) 0-(1:Int)))) 6),sI ((Ft6.x s_1).4 (0+Zh (Zi .i64 ((Ft6.x s_1).5 (0+Zh (↑s_1.3:Int)) 0-(1:Int)))) 7),sI ((Ft6.x s_1).4 (0+Zh (Zi .i64 ((Ft6.x s_1).5 (0+Zh (↑s_1.3:Int)) 0-(1:Int)))) 8)] 97,Zj [sI ((Ft6.x s_1).4 (0+Zh (Zi .i64 ((Ft6.x s_1).5 (0+Zh (↑s_1.2:Int)) 0-(1:Int)))) 0),sI ((Ft6.x s_1).4 (0+Zh (Zi .i64 ((Ft6.x s_1).5 (0+Zh (↑s_1.2:Int)) 0-(1:Int)))) 1),sI ((Ft6.x s_1).4 (0+Zh (Zi .i64 ((Ft6.x s_1).5 (0+Zh (↑s_1.2:Int)) 0-(1:Int)))) 2),sI ((Ft6.x s_1).4 (0+Zh (Zi .i64 ((Ft6.x s_1).5 (0+Zh (↑s_1.2:Int)) 0-(1:Int)))) 3),sI ((Ft6.x s_1).4 (0+Zh (Zi .i64 ((Ft6.x s_1).5 (0+Zh (↑s_1.2:Int)) 0-(1:Int)))) 4),sI ((Ft6.x s_1).4 (0+Zh (Zi .i64 ((Ft6.x s_1).5 (0+Zh (↑s_1.2:Int)) 0-(1:Int)))) 5),sI ((Ft6.x s_1).4 (0+Zh (Zi .i64 ((Ft6.x s_1).5 (0+Zh (↑s_1.2:Int)) 0-(1:Int)))) 6),sI ((Ft6.x s_1).4 (0+Zh (Zi .i64 ((Ft6.x s_1).5 (0+Zh (↑s_1.2:Int)) 0-(1:Int)))) 7),sI ((Ft6.x s_1).4 (0+Zh (Zi .i64 ((Ft6.x s_1).5 (0+Zh (↑s_1.2:Int)) 0-(1:Int)))) 8)] 97]else ∃(s':Ft6 (FtS.mk h mh ch nh zh l ml cl nl zl)),((eS (Zu (.so 2 0 9 (Zg (Qh h)) (Ft6.x s_1).2 (Ft6.x s_1).3)) (Zu (.so 2 0 9 (Zg (Qh h)) (Ft6.x s').2 (Ft6.x s').3))/\eS (Zu (.so 3 0 1 (Zg l) (Zg l) true)) (Zu (.so 3 0 1 (Zg l) (Zg l) true))/\eS (aI ↑s_1.2) (aI ↑s'.2)/\eS (aI ↑s_1.2) (aI ↑s'.2)/\eS (aI (Zi .i64 ((↑s_1.3:Int)+(1:Int)))) (aI ↑s'.3)/\eS (aI (↑(Zg l):Int)) (aI (↑(Zg l):Int))/\eS (aI ↑s_1.2) (aI ↑s'.2)/\True)/\[Zn 53 kI9 9 mh ch zh,Zn 44 kI6 6 ml cl zl,Zn 97 kI9 9 (Ft6.x s_1).1 (Ft6.x s_1).2 (Ft6.x s_1).4,Zn 3 [.int .i64] 1 (Zg l) (Zg l) (Ft6.x s_1).5]=[Zn 53 kI9 9 mh ch zh,Zn 44 kI6 6 ml cl zl,Zn 97 kI9 9 (Ft6.x s').1 (Ft6.x s').2 (Ft6.x s').4,Zn 3 [.int .i64] 1 (Zg l) (Zg l) (Ft6.x s').5])/\s'.2=s0.2/\s'.2-s'.3<s_1.2-s_1.3 else ∃(s':Ft6 (FtS.mk h mh ch nh zh l ml cl nl zl)),((eS (Zu (.so 2 0 9 (Zg (Qh h)) (Ft6.x s_1).2 (Ft6.x s_1).3)) (Zu (.so 2 0 9 (Zg (Qh h)) (Ft6.x s').2 (Ft6.x s').3))/\eS (Zu (.so 3 0 1 (Zg l) (Zg l) true)) (Zu (.so 3 0 1 (Zg l) (Zg l) true))/\eS (aI ↑s_1.2) (aI ↑s'.2)/\eS (aI ↑s_1.2) (aI ↑s'.2)/\eS (aI (Zi .i64 ((↑s_1.3:Int)+(1:Int)))) (aI ↑s'.3)/\eS (aI (↑(Zg l):Int)) (aI (↑(Zg l):Int))/\eS (aI ↑s_1.2) (aI ↑s'.2)/\True)/\[Zn 53 kI9 9 mh ch zh,Zn 44 kI6 6 ml cl zl,Zn 97 kI9 9 (Ft6.x s_1).1 (Ft6.x s_1).2 (Ft6.x s_1).4,Zn 3 [.int .i64] 1 (Zg l) (Zg l) (Ft6.x s_1).5]=[Zn 53 kI9 9 mh ch zh,Zn 44 kI6 6 ml cl zl,Zn 97 kI9 9 (Ft6.x s').1 (Ft6.x s').2 (Ft6.x s').4,Zn 3 [.int .i64] 1 (Zg l) (Zg l) (Ft6.x s').5])/\s'.2=s0.2/\s'.2-s'.3<s_1.2-s_1.3 else ∃(s':Ft4 (FtS.mk h mh ch nh zh l ml cl nl zl)),((eS (Zu (.so 2 0 9 (Zg (Qh h)) (Ft6.x s_1).2 (Ft6.x s_1).3)) (Zu (.so 2 0 9 (Zg (Qh h)) (Ft4.x s').2 (Ft4.x s').3))/\eS (Zu (.so 3 0 1 (Zg l) (Zg l) true)) (Zu (.so 3 0 1 (Zg l) (Zg l) true))/\eS (aI (↑(Zg l):Int)) (aI (↑(Zg l):Int))/\eS (aI (Zi .i64 ((↑s_1.2:Int)+(1:Int)))) (aI ↑s'.2)/\True)/\[Zn 53 kI9 9 mh ch zh,Zn 44 kI6 6 ml cl zl,Zn 97 kI9 9 (Ft6.x s_1).1 (Ft6.x s_1).2 (Ft6.x s_1).4,Zn 3 [.int .i64] 1 (Zg l) (Zg l) (Ft6.x s_1).5]=[Zn 53 kI9 9 mh ch zh,Zn 44 kI6 6 ml cl zl,Zn 97 kI9 9 (Ft4.x s').1 (Ft4.x s').2 (Ft4.x s').4,Zn 3 [.int .i64] 1 (Zg l) (Zg l) (Ft4.x s').5])/\Zg l-s'.2<Zg l-s.2 else endN Qec [] (Ql 2) (FtS.mk h mh ch nh zh l ml cl nl zl) (ZI (Zu (.v ZN))) [Zn 53 kI9 9 mh ch zh,Zn 44 kI6 6 ml cl zl,Zn 97 kI9 9 (Ft4.x s).1 (Ft4.x s).2 (Ft4.x s).4,Zn 3 [.int .i64] 1 (Zg l) (Zg l) (Ft4.x s).5]) Zc ?_
 have e0 (j:Nat):0+(j:Int).toNat=j:=by rw[Zt,Zv]
 have hcl:(Qh h).length<=1000000000:=by
  have:=Qgh h h.length (Zq _)
  rw[Yt]at this;omega
 refine⟨⟨h,mh,ch,nh,zh⟩,rfl,rfl,⟨hw,hl,hm,hz⟩,?_⟩
 rintro⟨mc,cc,nc,fc⟩ ⟨hc,hf⟩
 dsimp only at hc hf
 refine⟨ZX hm2.1 hm2.2,⟨Za,rfl,Za⟩,ZX hc.1 hc.2,⟨⟨⟨mc,cc,nc,fc,λ_ _=>0,hc,hf,λj hj=>(by show (0:Int)<=0/\(0:Int)<=((Qh h).length:Int);omega)⟩,0,Yc _,rfl⟩,⟨rfl,rfl,rfl,rfl,rfl,rfl,Zd⟩,rfl⟩,?_⟩
 clear hc hf
 rintro⟨⟨mc,cc,nc,fc,fo,hc,hf,hb⟩,i,hi,he⟩
 dsimp +instances only at hc hf hb hi he ⊢
 rw[e0 i]
 refine Qp (λhlt=>?_) (λhge=>?_)
 . have hlt':i<(Qh h).length:=Za
   obtain⟨C,hC⟩:∃C,C=(Qh h).getD i ZaA:=⟨_,rfl⟩
   have hk:∀q,q<9->fc i q=C.at q:=λq hq=>by rw[hC];exact hf i hlt' q hq
   have c0:fc i 0=C.t:=hk 0 Zb
   have c1:fc i 1=C.k:=hk 1 Zb
   have c2:fc i 2=C.key:=hk 2 Zb
   have c3:fc i 3=C.x:=hk 3 Zb
   have c5:fc i 5=C.to:=hk 5 Zb
   have c6:fc i 6=C.whn:=hk 6 Zb
   have c7:fc i 7=C.c:=hk 7 Zb
   have c8:fc i 8=C.v:=hk 8 Zb
   rw[show (Qh h).length-i=(Qh h).length-(i+1)+1 by omega]at he
   unfold cont1 at he
   rw[<- hC]at he
   have fail (e:Int) (h1:chk1 C l (λj=>fo j 0)=e) (h2:e≠0):fitC (Qh h) l=e:=by rw[<- he,Ze (by rw[h1];exact h2),h1]
   rw[c0,c1,c2,c3,c5,c6,c7,c8]
   refine⟨⟨Za,hlt,Za⟩,Za,QU (λh5=>?_) (λh5=>Qp (λh6=>?_) (λh6=>⟨ZX hm2.1 hm2.2,Qp (λh7=>?_) (λh7=>?_)⟩))⟩
   . have hk0:chk1 C l (λj=>fo j 0)=0:=Zf h5
     have hn0:nxt1 C i (λj=>fo j 0)=λj=>fo j 0:=Zf h5
     rw[Zf hk0,hn0]at he
     exact⟨⟨⟨mc,cc,nc,fc,fo,hc,hf,hb⟩,i+1,hlt',he⟩,⟨⟨rfl,rfl,rfl,rfl,rfl,svI (sucI Za),Zd⟩,rfl⟩,by dsimp only;omega⟩
   . exact⟨(),Zd,Qcn (fail 7 (by unfold chk1;rw[Ze h5,Zf h6]) Zb) Zb,rfl⟩
   . exact⟨(),Zd,Qcn (fail 7 (by unfold chk1;rw[Ze h5,Ze h6,Zf h7]) Zb) Zb,rfl⟩
   . obtain⟨j,hj⟩:∃j:Nat,C.whn=(j:Int)+1:=⟨(C.whn-1).toNat,Za⟩
     have hq:(C.whn-1).toNat=j:=by rw[hj];omega
     have hjl:j<l.length:=Za
     rw[hj,show (j:Int)+1-1=(j:Int) by omega,Qx (x:=(j:Int)) Za Za,e0 j]
     obtain⟨D,hD⟩:∃D,D=l.getD j Yy:=⟨_,rfl⟩
     have hd:∀q,q<6->zl j q=D.at q:=λq hq=>by rw[hD];exact hz2 j hjl q hq
     have d0:zl j 0=D.t:=hd 0 Zb
     have d1:zl j 1=D.k:=hd 1 Zb
     have d2:zl j 2=D.key:=hd 2 Zb
     have d3:zl j 3=D.x:=hd 3 Zb
     have d4:zl j 4=D.c:=hd 4 Zb
     have d5:zl j 5=D.v:=hd 5 Zb
     rw[d0,d1,d2,d3,d4,d5]
     have f13 (hx:¬(D.t=C.t/\D.k=C.k/\D.key=C.key/\D.x=C.x/\D.c=C.c/\D.v=C.v)):fitC (Qh h) l=13:=fail 13 (by
      unfold chk1
      rw[Ze h5,Ze h6,Ze h7,hq,<- hD,Ze hx]) Zb
     refine⟨⟨Za,Za,Za⟩,Za,QC (λh8=>⟨(),Zd,Qcn (f13 λx=>h8 x.1) Zb,rfl⟩) (λh8=>Xs (λh9=>?_) (λh9=>Xs (λh10=>?_) (λh10=>⟨⟨Za,Za,Za⟩,Za,Qp (λh11=>?_) (λh11=>⟨⟨Za,Za,Za⟩,Za,?_⟩)⟩)))⟩
     . exact⟨(),Zd,Qcn (f13 λx=>by rw[b3.2 ⟨x.2.1,x.2.2.1,x.2.2.2.1⟩]at h9;cases h9) Zb,rfl⟩
     . exact⟨(),Zd,Qcn (f13 λx=>by rw[b2.2 ⟨x.2.2.2.2.1,x.2.2.2.2.2⟩]at h10;cases h10) Zb,rfl⟩
     all_goals
      obtain⟨g1,g2,g3⟩:=b3.1 h9
      obtain⟨g4,g5⟩:=b2.1 h10
      have hall:D.t=C.t/\D.k=C.k/\D.key=C.key/\D.x=C.x/\D.c=C.c/\D.v=C.v:=⟨h8,g1,g2,g3,g4,g5⟩
     . exact⟨(),Zd,Qcn (fail 9 (by unfold chk1;rw[Ze h5,Ze h6,Ze h7,hq,<- hD,Zf hall,Zf h11]) Zb) Zb,rfl⟩
     . have hk0:chk1 C l (λj=>fo j 0)=0:=by unfold chk1;rw[Ze h5,Ze h6,Ze h7,hq,<- hD,Zf hall,Ze h11]
       have hn0:nxt1 C i (λj=>fo j 0)=putF (λj=>fo j 0) j ((i:Int)+1):=by unfold nxt1;rw[Ze h5,hq]
       rw[Zf hk0,hn0]at he
       have hu:=upd1 (fo:=fo) (n:=j) (sucI (show i<=1000000000 by omega))
       refine⟨⟨⟨mc,cc,nc,fc,updB fo j 0 0 [Zi .i64 ((i:Int)+1)],hc,hf,λq hq=>?_⟩,i+1,hlt',?_⟩,⟨⟨rfl,rfl,rfl,rfl,rfl,svI (sucI Za),Zd⟩,Zc⟩,by dsimp only;omega⟩
       . have hq:q<l.length:=hq
         show 0<=updB fo j 0 0 [Zi .i64 ((i:Int)+1)] q 0/\updB fo j 0 0 [Zi .i64 ((i:Int)+1)] q 0<=((Qh h).length:Int)
         rw[show updB fo j 0 0 [Zi .i64 ((i:Int)+1)] q 0=putF (λq=>fo q 0) j ((i+1:Nat):Int) q from congrFun hu q]
         by_cases e:q=j
         . subst e;rw[QO];omega
         . rw[Qs _ _ e];exact hb q hq
       . show cont1 (Qh h) l ((Qh h).length-(i+1)) (i+1) (λq=>updB fo j 0 0 [Zi .i64 ((i:Int)+1)] q 0)=_
         rw[hu];exact he
 have hin:(Qh h).length-i=0:=Za
 rw[hin]at he
 refine⟨ZX hm2.1 hm2.2,⟨⟨⟨mc,cc,nc,fc,fo,hc,hf,hb⟩,0,Yc _,λj hj=>absurd hj (ZQ _),he⟩,⟨rfl,rfl,rfl,rfl,rfl,rfl,Zd⟩,rfl⟩,?_⟩
 clear hc hf hb he hin hge hi
 rintro⟨⟨mc,cc,nc,fc,fo,hc,hf,hb⟩,k,hk,hp,he⟩
 dsimp +instances only at hc hf hb hk hp he ⊢
 rw[e0 k]
 refine Qp (λhlt=>?_) (λhge=>?_)
 . have hlt':k<l.length:=Za
   obtain⟨D,hD⟩:∃D,D=l.getD k Yy:=⟨_,rfl⟩
   have hd:∀q,q<6->zl k q=D.at q:=λq hq=>by rw[hD];exact hz2 k hlt' q hq
   rw[show l.length-k=l.length-(k+1)+1 by omega]at he
   unfold cont2 at he
   rw[<- hD]at he
   rw[hd 0 Zb,hd 1 Zb,hd 2 Zb,hd 3 Zb,hd 4 Zb,hd 5 Zb]
   refine⟨⟨Za,hlt,Za⟩,Za,⟨Za,hlt,Za⟩,Za,Qp (λh0=>?_) (λh0=>⟨⟨Qh h,mc,cc,nc,fc,D⟩,rfl,rfl,⟨hcl,hc,hf⟩,λ_ _=>?_⟩)⟩
   . rw[Zf h0]at he
     refine⟨⟨⟨mc,cc,nc,fc,fo,hc,hf,hb⟩,k+1,hlt',λj hj=>?_,he⟩,⟨⟨rfl,rfl,rfl,rfl,rfl,svI (sucI Za),Zd⟩,rfl⟩,by dsimp only;omega⟩
     by_cases e:j=k
     . subst e;show 1<=fo j 0;omega
     . exact hp j Za
   . dsimp +instances only
     rw[Ze h0]at he
     cases hx:fidx (Qh h) D (Qh h).length 0 with
     |none=>
      rw[hx]at he
      exact Qp (λ_=>⟨(),Zd,Qcn he.symm Zb,rfl⟩) (λh=>absurd Zb h)
     |some m=>
      rw[hx]at he
      have hml:=QnZ _ _ hx
      have hw2:Zi .i64 ((m:Int)+1)=(m:Int)+1:=Qx Za Za
      dsimp +instances only at he ⊢
      refine Qp (λh=>absurd h Za) (λ_=>⟨⟨l.length,l.length,l.length,true,fo,(m:Int)+1⟩,congrArg (λq=>[Zu (ZbY 3 0 1 l.length l.length true),Zu (ZdA (.int .i64 q))]) hw2,rfl,⟨(by show l.length<=1000000000;omega),Zq _,Zq _⟩,λ_ _=>Q0 (λhb2=>?_) (λhb2=>⟨⟨Za,hlt,Za⟩,(by show k<l.length;omega),?_⟩)⟩)
      . have hb2:hasF (λj=>fo j 0) ((m:Int)+1) l.length 0=true:=hb2
        rw[hb2]at he
        exact⟨(),Zd,Qcn (Eq.symm he) Zb,rfl⟩
      . have hb2:hasF (λj=>fo j 0) ((m:Int)+1) l.length 0=false:=hb2
        rw[hb2]at he
        have he:cont2 (Qh h) l (l.length-(k+1)) (k+1) (putF (λj=>fo j 0) k ((m:Int)+1))=fitC (Qh h) l:=he
        have hu:=upd1 (fo:=fo) (n:=k) hw2
        have hv (q:Nat):updB fo k 0 0 [Zi .i64 ((m:Int)+1)] q 0=putF (λq=>fo q 0) k ((m:Int)+1) q:=congrFun hu q
        refine⟨⟨⟨mc,cc,nc,fc,updB fo k 0 0 [Zi .i64 ((m:Int)+1)],hc,hf,λq hq=>?_⟩,k+1,hlt',λq hq=>?_,?_⟩,⟨⟨rfl,rfl,rfl,rfl,rfl,svI (sucI Za),Zd⟩,Zc⟩,by dsimp only;omega⟩
        . have hq:q<l.length:=hq
          show 0<=updB fo k 0 0 [Zi .i64 ((m:Int)+1)] q 0/\updB fo k 0 0 [Zi .i64 ((m:Int)+1)] q 0<=((Qh h).length:Int)
          rw[hv]
          by_cases e:q=k
          . subst e;rw[QO];omega
          . rw[Qs _ _ e];exact hb q hq
        . dsimp only
          rw[hv]
          by_cases e:q=k
          . subst e;rw[QO];omega
          . rw[Qs _ _ e];exact hp q Za
        . show cont2 (Qh h) l (l.length-(k+1)) (k+1) (λq=>updB fo k 0 0 [Zi .i64 ((m:Int)+1)] q 0)=_
          rw[hu];exact he
 have hkn:l.length-k=0:=Za
 rw[hkn]at he
 refine⟨Zq _,⟨⟨⟨mc,cc,nc,fc,fo,hc,hf,hb⟩,0,Yc _,λj hj=>hp j (by have hj:j<l.length:=hj;omega),he⟩,⟨rfl,rfl,rfl,rfl,Zd⟩,rfl⟩,?_⟩
 clear hc hf hb he hkn hge hk hp
 rintro⟨⟨mcO,ccO,ncO,fcO,foO,hcO,hfO,hbO⟩,k,hkO,hpO,heO⟩
 dsimp +instances only at hcO hfO hbO hkO hpO heO ⊢
 refine Qp (λhlt=>?_) (λhge=>?_)
 . have hlt':k<l.length:=Za
   refine⟨⟨⟨mcO,ccO,ncO,fcO,foO,hcO,hfO,hbO⟩,k,0,hlt',Yc _,hpO,heO,rfl⟩,⟨⟨rfl,rfl,rfl,rfl,rfl,rfl,rfl,Zd⟩,rfl⟩,rfl,?_⟩
   rintro⟨⟨mc,cc,nc,fc,fo,hc,hf,hb⟩,k2,j,hk,hj,hp,he,h4⟩ hkk
   have hkk:k2=k:=hkk
   subst hkk
   dsimp +instances only at hc hf hb hk hj hp he h4 ⊢
   rw[e0 j,e0 k2]
   have he0:=he
   rw[show l.length-k2=l.length-(k2+1)+1 by omega]at he
   unfold QiR at he
   have bk:=hb k2 hk
   have pk:=hp k2 hk
   obtain⟨b,hb1⟩:∃b:Nat,fo k2 0=(b:Int)+1:=⟨(fo k2 0-1).toNat,Za⟩
   refine Qp (λhlt2=>?_) (λhge2=>?_)
   . have hj2:j<k2:=Za
     have bj:=hb j Za
     have pj:=hp j Za
     obtain⟨a,ha1⟩:∃a:Nat,fo j 0=(a:Int)+1:=⟨(fo j 0-1).toNat,Za⟩
     have hal:a<(Qh h).length:=Za
     have hbl:b<(Qh h).length:=Za
     have ea:((λj=>fo j 0) j-1).toNat=a:=by dsimp only;rw[ha1];omega
     have eb:((λj=>fo j 0) k2-1).toNat=b:=by dsimp only;rw[hb1];omega
     rw[ha1,hb1,show (a:Int)+1-1=(a:Int) by omega,show (b:Int)+1-1=(b:Int) by omega,Qx (x:=(a:Int)) Za Za,Qx (x:=(b:Int)) Za Za,e0 a,e0 b]
     have c5:fc b 5=((Qh h).getD b ZaA).to:=hf b hbl 5 Zb
     have c4:fc a 4=((Qh h).getD a ZaA).fr:=hf a hal 4 Zb
     rw[c5,c4]
     rw[show k2-j=k2-(j+1)+1 by omega]at h4
     have h4:(bad3 (Qh h) (λj=>fo j 0) k2 j||Qfh (Qh h) (λj=>fo j 0) k2 (k2-(j+1)) (j+1))=Qfh (Qh h) (λj=>fo j 0) k2 k2 0:=h4
     have nx (hx:bad3 (Qh h) (λj=>fo j 0) k2 j=false):Qfh (Qh h) (λj=>fo j 0) k2 (k2-(j+1)) (j+1)=Qfh (Qh h) (λj=>fo j 0) k2 k2 0:=by
      rw[hx,Bool.false_or]at h4;exact h4
     refine⟨⟨Za,Za,Za⟩,Za,⟨Za,Za,Za⟩,Za,⟨Za,Za,Za⟩,Za,⟨Za,Za,Za⟩,Za,Qe Zc,Qp (λh5=>Qp (λh6=>?_) (λh6=>?_)) (λh5=>?_)⟩
     . have hx:bad3 (Qh h) (λj=>fo j 0) k2 j=true:=by
        unfold bad3;rw[ea,eb];exact decide_eq_true ⟨h5,h6⟩
       have hy:Qfh (Qh h) (λj=>fo j 0) k2 k2 0=true:=by rw[<- h4,hx];rfl
       rw[hy]at he
       exact⟨(),Zd,Qcn (Eq.symm he) Zb,rfl⟩
     . have hx:bad3 (Qh h) (λj=>fo j 0) k2 j=false:=by
        unfold bad3;rw[ea,eb];exact decide_eq_false λx=>h6 x.2
       exact⟨⟨⟨mc,cc,nc,fc,fo,hc,hf,hb⟩,k2,j+1,hk,hj2,hp,he0,nx hx⟩,⟨⟨rfl,rfl,rfl,rfl,svI (sucI Za),rfl,rfl,Zd⟩,rfl⟩,rfl,by dsimp only;omega⟩
     . have hx:bad3 (Qh h) (λj=>fo j 0) k2 j=false:=by
        unfold bad3;rw[ea,eb];exact decide_eq_false λx=>h5 x.1
       exact⟨⟨⟨mc,cc,nc,fc,fo,hc,hf,hb⟩,k2,j+1,hk,hj2,hp,he0,nx hx⟩,⟨⟨rfl,rfl,rfl,rfl,svI (sucI Za),rfl,rfl,Zd⟩,rfl⟩,rfl,by dsimp only;omega⟩
   . rw[show k2-j=0 by omega]at h4
     have h4:false=Qfh (Qh h) (λj=>fo j 0) k2 k2 0:=h4
     rw[<- h4]at he
     exact⟨⟨⟨mc,cc,nc,fc,fo,hc,hf,hb⟩,k2+1,hk,hp,he⟩,⟨⟨rfl,rfl,rfl,svI (sucI Za),Zd⟩,rfl⟩,by dsimp only;omega⟩
 . have hkn:l.length-k=0:=Za
   rw[hkn]at heO
   have he:(0:Int)=fitC (Qh h) l:=heO
   refine⟨(),Zd,?_,rfl⟩
   show ZI (Zu (ZdA .nilIface))=ZI (Zu (ZdA (errV (fitC (Qh h) l))))
   rw[<- he];rfl
theorem MCon.spec {c:MCon}{P:Program}{w0:World}{S:Nat->Prop}{f:FuncId}(h:(ZM c).holdsAt P w0 S f) {pre':c.σ->Prop}{val':c.σ->c.χ->SV}(hp:∀s,pre' s->c.pre s) (hv:∀s x ρ,pre' s->(val' s x).den ρ=(c.val s x).den ρ):
 (ZM { c with pre:=pre',val:=val' }).holdsAt P w0 S f:=by
 refine⟨h.1,h.2.1,λρ s w hpp hK HM=>(h.2.2 ρ s w (hp s hpp) hK HM).mono ?_⟩
 rintro e w' ⟨x,ρ',h1,h2,h3,h4,h5⟩
 refine⟨x,ρ',h1,h2,h3,?_,h5⟩
 rw[h4]
 show ZaP ((c.val s x).den ρ')=ZaP ((val' s x).den ρ')
 rw[hv s x ρ' hpp]
def Qoi:MCon:={ Qec with pre:=λs=>Qec.pre s/\fitC (Qh (FtS.h s)) (FtS.l s)=0,val:=λ_ _=>.o (.c (.v .nilIface)) }
theorem ft0_con:(ZM Qoi).holds Tryz.prog 20:=λw0 S=>MCon.spec (ft_con w0 S) (λs h=>h.1) (λs x ρ h=>by
 show (ZI (.c (.v .nilIface))).den ρ=(ZI (.c (.v (errV (fitC (Qh (FtS.h s)) (FtS.l s)))))).den ρ
 rw[h.2];rfl)
end
section
section
variable {K:Int}{z:Sh}{g:Gh}{t:Nat}
def NoH (z:Sh):Prop:=∀u,u<4->¬Xq (z.w u)
theorem ShInv.free (I:ShInv K z g) (h:NoH z):z.m 0=0:=by
 rcases I.lk with h1|⟨u,h1,-,h2,-⟩
 . exact h1.1
 . exact absurd h2 (h u h1)
theorem noh_crash (z:Sh) (l:Int):NoH (z.crash l):=λu hu hh=>by
 have h1:4<=((z.w u).again).does:=hh.1
 have h2:((z.w u).again).does<=15:=hh.2
 unfold Wk.again at h1 h2
 by_cases e:(z.w u).does=0
 . rw[Zf e]at h1;omega
 . rw[Ze e]at h2;exact absurd h2 (by show ¬(17:Int)<=15;decide)
structure Rest (K:Int) (i:Nat) (z:Sh) (g:Gh):Prop where
 f:Fin2 K z g
 n:NoH z
 i:∀u,u<i->(z.w u).does=0
theorem Rest.next {i:Nat}(R:Rest K i z g) (hi:i<4) (hs:z.steps<90000000) {n:Nat}(hn:92<=n):∃g',Rest K (i+1) (z.run i n) g'/\z.ran i n<=92/\∀u,u≠i->(z.run i n).w u=z.w u:=by
 obtain⟨g',Q,hr⟩:=quit hi R.f (.inl (R.f.f.1.free R.n)) hs hn
 refine⟨g',⟨Q.fin,λu hu=>?_,λu hu=>?_⟩,hr,Q.W⟩
 . by_cases e:u=i
   . subst e;intro hh;have:=hh.1;rw[Q.idle]at this;omega
   . rw[Q.W u e];exact R.n u hu
 . by_cases e:u=i
   . subst e;exact Q.idle
   . rw[Q.W u e];exact R.i u Za
end
end
section
section
variable {K:Int}{z:Sh}{g:Gh}{t:Nat}
theorem QkU {u:Nat}(hu:u≠t):(z.step t).w u=z.w u:=by
 by_cases h:(z.w t).does=0
 . have e:z.step t=z:=Zf h
   rw[e]
 . exact QgE h hu
theorem Qik {u:Nat}(hu:u≠t):∀(n:Nat) (z:Sh),(z.run t n).w u=z.w u
 |0,z=>rfl
 |n+1,z=>(Qik hu n (z.step t)).trans (QkU hu)
structure Rnd (K:Int) (p:Nat) (z:Sh) (g:Gh):Prop where
 f:Fin2 K z g
 c:(∃h,h<4/\p<=h/\Xq (z.w h))\/(NoH z/\∀u q,u<4->4<=q->q<p->q%4=u->(z.w u).does=0)
theorem Rnd.start (F:Fin2 K z g):Rnd K 0 z g:=by
 refine⟨F,?_⟩
 rcases F.f.1.lk with⟨-,h⟩|⟨h,h4,-,hh,-⟩
 . exact .inr ⟨h,λu q _ _ hq=>absurd hq (ZQ _)⟩
 . exact .inl ⟨h,h4,Yc _,hh⟩
theorem Rnd.next {p:Nat}(A:Rnd K p z g) (hs:z.steps<90000000) {n:Nat}(hn:92<=n) (hn2:n<=1000):∃g',Rnd K (p+1) (z.run (p%4) n) g':=by
 have hp4:p%4<4:=Nat.mod_lt _ Zb
 rcases A.c with⟨h,h4,hph,hh⟩|⟨hN,hI⟩
 . have e:p%4=p:=Nat.mod_eq_of_lt Za
   rw[e]
   by_cases hp:p=h
   . subst hp
     obtain⟨g',Q,-⟩:=quit h4 A.f (.inr ⟨hh.1,by have:=hh.2;omega⟩) hs hn
     refine⟨g',Q.fin,.inr ⟨λu hu=>?_,λu q _ h1 h2 _=>Za⟩⟩
     by_cases e:u=p
     . subst e;intro hx;have:=hx.1;rw[Q.idle]at this;omega
     . rw[Q.W u e]
       rcases A.f.f.1.lk with⟨-,hx⟩|⟨h',h4',-,hh',hx⟩
       . exact absurd hh (hx p h4)
       . have:p=h':=by
          by_cases e2:p=h'
          . exact e2
          . exact absurd hh (hx p h4 e2)
         exact hx u hu (λe2=>e (e2.trans this.symm))
   . obtain⟨g',F'⟩:=QrT (t:=p) Za n A.f Za
     exact⟨g',F',.inl ⟨h,h4,Za,by rw[Qik (λe=>hp e.symm)];exact hh⟩⟩
 . obtain⟨g',Q,-⟩:=quit hp4 A.f (.inl (A.f.f.1.free hN)) hs hn
   refine⟨g',Q.fin,.inr ⟨λu hu=>?_,λu q hu h1 h2 h3=>?_⟩⟩
   . by_cases e:u=p%4
     . subst e;intro hx;have:=hx.1;rw[Q.idle]at this;omega
     . rw[Q.W u e];exact hN u hu
   . by_cases e:u=p%4
     . subst e;exact Q.idle
     . rw[Q.W u e]
       exact hI u q hu h1 (by
        rcases Yw q p with h|h
        . exact h
        . exfalso;have:q=p:=Za
          subst this;exact e h3.symm) h3
theorem Rnd.done (A:Rnd K 12 z g):∀u,u<4->(z.w u).does=0:=λu hu=>by
 rcases A.c with⟨h,h4,hph,-⟩|⟨-,hI⟩
 . omega
 . exact hI u (4+u) hu Za Za Za
theorem Qko:∀(m n:Nat) (f:Nat->Nat),(∀i,i<n->f i<m)->(∀i j,i<j->j<n->f i≠f j)->n<=m
 |0,n,f,h1,_=>by
  rcases Yu n with h|h
  . omega
  . exact absurd (h1 0 h) (ZQ _)
 |m+1,n,f,h1,h2=>by
  by_cases he:∃i,i<n/\f i=m
  . obtain⟨i0,hi0,hm⟩:=he
    have:=Qko m (n-1) (λi=>f (if i<i0 then i else i+1)) (λi hi=>?_) (λi j hij hj=>?_)
    . omega
    . have h3:(if i<i0 then i else i+1)<n/\(if i<i0 then i else i+1)≠i0:=by split<;>omega
      have h4:=h1 _ h3.1
      have h5:f (if i<i0 then i else i+1)≠m:=λe=>by
       rcases ZbQ h3.2 with h|h
       . exact h2 _ _ h hi0 (e.trans hm.symm)
       . exact h2 _ _ h h3.1 (hm.trans e.symm)
      omega
    . apply h2
      . split<;>split<;>omega
      . split<;>omega
  . have:=Qko m n f (λi hi=>by
     have:=h1 i hi
     have h3:f i≠m:=λe=>he ⟨i,hi,e⟩
     omega) h2
    omega
def Qei (h:List Ev):Nat:=h.countP λe=>e.kind==1
theorem Qgl (h:List Ev) (e:Ev):Qei (h++[e])=Qei h+(if e.kind=1 then 1 else 0):=by
 unfold Qei
 rw[List.countP_append,List.countP_singleton]
 by_cases hk:e.kind=1
 . rw[Zf hk,Zf (by simpa using hk)]
 . rw[Ze hk,Ze (by simpa using hk)]
theorem Qgi (h:List Ev):∀i,i<=h.length->(Qh (h.take i)).length=Qei (h.take i)
 |0,_=>rfl
 |i+1,hi=>by
  have ih:=Qgi h i Za
  rw[QeP Za,QbO (d:=Ev.nil) Za,Qgl]
  unfold Qay
  by_cases h1:(h.getD i Ev.nil).kind=1
  . rw[Zf h1,Zf h1,Zw,ih];rfl
  . rw[Ze h1,Ze h1]
    split
    . rw[ZO,ih];rfl
    . rw[ih];rfl
theorem HInv.count {o:List Nat}(H:HInv z g o) (hn:g.n<=z.deeds.length) (hi:∀u,u<4->(z.w u).does=0):z.deeds.length=Qei z.hist:=by
 have hc:=Qgi z.hist z.hist.length (Zq _)
 rw[Yt]at hc
 rw[<- hc]
 have h1:=Qko (Qh z.hist).length o.length (λj=>o.getD j 0) H.lt H.inj
 have key:∀i,i<(Qh z.hist).length->∃j,j<o.length/\o.getD j 0=i:=λi hil=>by
  obtain⟨u,hu,ht⟩:=H.th i hil
  obtain⟨j,-,hj,ho,-,-⟩:=H.ans i hil (H.idl u hu (hi u hu) i hil ht)
  have:=H.ln
  exact⟨j,Za,ho⟩
 have h2:=Qko o.length (Qh z.hist).length (λi=>if h:i<(Qh z.hist).length then Classical.choose (key i h)else 0) (λi hil=>by
  rw[dif_pos hil];exact (Zar (key i hil)).1) (λi j hij hj=>by
  rw[dif_pos Za,dif_pos hj]
  intro e
  have a:=(Zar (key i Za)).2
  have b:=(Zar (key j hj)).2
  rw[e,b]at a
  omega)
 have:=H.ln
 omega
end
end
section
open Go.RowKit
def ftZ (h:List Ev) (l:List Dd) (a d:RwR):FtS:=⟨h,a.m,a.c,a.nn,a.z,l,d.m,d.c,d.nn,d.z⟩
theorem ftZ_pre {K:Int}{z:Sh}{g:Gh}(F:Fin2 K z g) (W:WfH z.hist) (hs:z.steps<2000000) {a d:RwR}(ha:(z.hist.length<=a.m/\a.m<=a.c)/\IsE a.z z.hist) (hd:(z.deeds.length<=d.m/\d.m<=d.c)/\IsR 6 Dd.at Yy d.z (z.deeds.map Zb4)):
 Qoi.pre (ftZ z.hist (z.deeds.map Zb4) a d):=by
 have hL:=F.fi.lens Za
 have hcb:=F.f.1.gl.cb
 obtain⟨o,H⟩:=F.f.2
 exact⟨⟨W,⟨hL.1,ha.1,ha.2⟩,by show (z.deeds.map Zb4).length<=10000000;rw[ZO];omega,by show (z.deeds.map Zb4).length<=d.m/\d.m<=d.c;rw[ZO];exact hd.1,hd.2⟩,H.fits F.f.1.gl.nle⟩
theorem ftZ_args (z:Sh) (b c:Nat) (a d:RwR):[Zu (.so b 0 9 z.hist.length a.c a.nn),Zu (.so c 0 6 z.deeds.length d.c d.nn)]=(Qoi.args (ftZ z.hist (z.deeds.map Zb4) a d)).map (SA.ren (ofL [b,c])):=by
 show _=[Zu (.so b 0 9 z.hist.length a.c a.nn),Zu (.so c 0 6 (z.deeds.map Zb4).length d.c d.nn)]
 rw[ZO]
theorem Qr9 {h:List Ev}{i:Nat}(hi:i<h.length):Qei (h.take (i+1))=Qei (h.take i)+(if (h.getD i Ev.nil).kind=1 then 1 else 0):=by
 rw[QbO hi,Qgl]
theorem callsN_le (h:List Ev):Qei h<=h.length:=List.countP_le_length
theorem Rest.skip {K:Int}{i:Nat}{z:Sh}{g:Gh}(R:Rest K i z g) (h:(z.w i).does=0):Rest K (i+1) z g:=⟨R.f,R.n,λu hu=>by
 by_cases e:u=i
 . rw[e];exact h
 . exact R.i u Za⟩
theorem count4 {K:Int}{z:Sh}{g:Gh}(R:Rest K 4 z g):z.deeds.length=Qei z.hist:=by
 obtain⟨o,H⟩:=R.f.f.2
 exact H.count R.f.f.1.gl.nle R.i
end
section
open Go.RowKit Go.Extern.Stop Go.Stop Go.Extern
theorem Qg6 (t:Addr) (w:World):(ReflectliteValue.unpack (.iface 116 (.pointer (some t)))).run Tryz.prog w
 = .ok (.agg #[.pointer (some ⟨1,116,none⟩),.pointer (some ⟨w.heap.size,0,none⟩),.int .u64 150]) (w.alloc (.cells #[.pointer (some t)] 116)):=Zc
theorem QoC (a:Addr) (w:World):(ReflectliteValue.methodAny (ReflectliteValue.valueError "reflectlite.Value.Type" 0) (λt _ _ _=>ReflectliteType.toType t) #[.agg #[.pointer (some ⟨1,116,none⟩),.pointer (some a),.int .u64 150]]).run Tryz.prog w
 = .ok (.iface 175 (.agg #[.pointer (some ⟨1,116,none⟩)])) w:=Zc
theorem Qfa (h:Value) (w:World):(Zdt 346 175 (.agg #[h]) "Kind").run Tryz.prog w=.ok (130,h) w:=Zc
theorem QoF (w:World):((ReflectliteType.abiMethod λt=>(λa:Nat=>ZA IntKind.u8 (a:Int)) <$> Rtype.kind t) #[.pointer (some ⟨1,116,none⟩)]).run Tryz.prog w=.ok (.int .u8 22) w:=Zc
theorem QoG (w:World):((ReflectliteType.abiMethod λt=>(λa:Nat=>ZA IntKind.u8 (a:Int)) <$> Rtype.kind t) #[.pointer (some ⟨1,66,none⟩)]).run Tryz.prog w=.ok (.int .u8 2) w:=Zc
theorem rlm (z:Sem Value) (f:TypeId->Addr->Nat->Nat->Sem Value) (v:Value):
 ReflectliteValue.method z f #[v]=(do match <- ReflectliteValue.parts v with|none=>z|some (t,a,fl)=>f t a fl (fl%32)):=rfl
theorem QkG (a:Addr) (w:World):(ReflectliteValue.parts (.agg #[.pointer (some ⟨1,116,none⟩),.pointer (some a),.int .u64 150])).run Tryz.prog w=.ok (some (116,a,150)) w:=Zc
theorem QkH (a p:Addr) (W:World) (ha:W.cell? a=some (.pointer (some p))):
 (ReflectliteValue.method (ReflectliteValue.valueError "reflectlite.Value.IsNil" 0) ReflectliteValue.isNil #[.agg #[.pointer (some ⟨1,116,none⟩),.pointer (some a),.int .u64 150]]).run Tryz.prog W=.ok (.bool false) W:=by
 rw[rlm]
 simp only[Zx,QkG,ZbA]
 simp[ReflectliteValue.isNil,loadVar,isAgg,underlying,Tryz.underlying116,ha,ZbA]
theorem Qfb (h:Value) (w:World):(Zdt 346 175 (.agg #[h]) "Elem").run Tryz.prog w=.ok (142,.agg #[h]) w:=Zc
theorem QbL (h:Value) (w:World):(Zdt 346 175 (.agg #[h]) "Implements").run Tryz.prog w=.ok (143,.agg #[h]) w:=Zc
theorem Qa7 (h:Value) (w:World):(Zdt 346 175 (.agg #[h]) "AssignableTo").run Tryz.prog w=.ok (140,.agg #[h]) w:=Zc
theorem QoI (w:World):(ReflectliteType.method ReflectliteType.elem #[.agg #[.pointer (some ⟨1,116,none⟩)]]).run Tryz.prog w=.ok (.iface 175 (.agg #[.pointer (some ⟨1,66,none⟩)])) w:=Zc
theorem Qel (w:World):(ReflectliteType.relation "Implements" ReflectliteType.implements_ #[.agg #[.pointer (some ⟨1,66,none⟩)],.iface 175 (.agg #[.pointer (some ⟨1,33,none⟩)])]).run Tryz.prog w=.ok (.bool true) w:=Zc
theorem Qi7 (v:Value) (w:World):(ReflectliteType.typeOf #[.iface 66 v]).run Tryz.prog w=.ok (.iface 175 (.agg #[.pointer (some ⟨1,66,none⟩)])) w:=Zc
theorem QoD (v:Value) (w:World):(ReflectliteType.typeOf #[.iface 112 v]).run Tryz.prog w=.ok (.iface 175 (.agg #[.pointer (some ⟨1,112,none⟩)])) w:=Zc
theorem Qem (w:World):(ReflectliteType.relation "AssignableTo" ReflectliteType.assignableTo #[.agg #[.pointer (some ⟨1,66,none⟩)],.iface 175 (.agg #[.pointer (some ⟨1,66,none⟩)])]).run Tryz.prog w=.ok (.bool true) w:=Zc
theorem Qh1 (w:World):(ReflectliteType.relation "AssignableTo" ReflectliteType.assignableTo #[.agg #[.pointer (some ⟨1,112,none⟩)],.iface 175 (.agg #[.pointer (some ⟨1,66,none⟩)])]).run Tryz.prog w=.ok (.bool false) w:=Zc
theorem Qg7 (e:Int) (w:World):(ReflectliteValue.unpack (.iface 66 (.int .i64 e))).run Tryz.prog w
 = .ok (.agg #[.pointer (some ⟨1,66,none⟩),.pointer (some ⟨w.heap.size,0,none⟩),.int .u64 130]) (w.alloc (.cells #[.int .i64 e] 66)):=Zc
theorem QoJ (w:World):(Rtype.elem? 116).run Tryz.prog w=.ok (some 66) w:=Zc
theorem asMkE (p:Addr) (w:World):(ReflectliteValue.mk 66 p ReflectliteValue.flagAddr).run Tryz.prog w=.ok (.agg #[.pointer (some ⟨1,66,none⟩),.pointer (some p),.int .u64 386]) w:=Zc
theorem QoH (a p:Addr) (W:World) (ha:W.cell? a=some (.pointer (some p))):
 (ReflectliteValue.method (ReflectliteValue.valueError "reflectlite.Value.Elem" 0) ReflectliteValue.elem #[.agg #[.pointer (some ⟨1,116,none⟩),.pointer (some a),.int .u64 150]]).run Tryz.prog W
  = .ok (.agg #[.pointer (some ⟨1,66,none⟩),.pointer (some p),.int .u64 386]) W:=by
 rw[rlm]
 simp only[Zx,QkG,ZbA]
 simp[ReflectliteValue.elem,loadVar,isAgg,underlying,Tryz.underlying116,ha,ZbA,QoJ,asMkE]
theorem rls (v x:Value):ReflectliteValue.set #[v,x]=(do
 let (some (dst,a,fl),some (src,b,_)):=(<- ReflectliteValue.parts v,<- ReflectliteValue.parts x)
  |unsupported (.noEntry "extern/(internal/reflectlite.Value).Set.zeroValue")
 if fl/ReflectliteValue.flagAddr%2==0 then unsupported (.noEntry "extern/(internal/reflectlite.Value).Set.unaddressable")
 let val <- loadVar src b
 if <- Rtype.directlyAssignable dst src then storeVar dst a val
 else if <- Rtype.implements dst src then
  if (<- Rtype.kind src)==20 then
   match val with
   |.nilIface=>unsupported (.noEntry "extern/reflectlite: a nil value of one interface type handed on as a value of another")
   |_=>storeVar dst a val
  else storeVar dst a (.iface src val)
 else panicString ("reflectlite.Set: value of type " ++(<- Rtype.spelt src)++ " is not assignable to type " ++(<- Rtype.spelt dst))
 pure (.tuple #[])):=rfl
theorem QoE (a:Addr) (w:World):(ReflectliteValue.parts (.agg #[.pointer (some ⟨1,66,none⟩),.pointer (some a),.int .u64 386])).run Tryz.prog w=.ok (some (66,a,386)) w:=Zc
theorem QqC (a:Addr) (w:World):(ReflectliteValue.parts (.agg #[.pointer (some ⟨1,66,none⟩),.pointer (some a),.int .u64 130])).run Tryz.prog w=.ok (some (66,a,130)) w:=Zc
theorem QoK (w:World):(Rtype.directlyAssignable 66 66).run Tryz.prog w=.ok true w:=Zc
theorem QqW (ta b:Addr) (e:Int) (old:Value) (W:World) (hb:W.cell? b=some (.int .i64 e)) (ht:W.cell? ta=some old) (hf:W.frozen? ta=false):
 (ReflectliteValue.set #[.agg #[.pointer (some ⟨1,66,none⟩),.pointer (some ta),.int .u64 386],.agg #[.pointer (some ⟨1,66,none⟩),.pointer (some b),.int .u64 130]]).run Tryz.prog W
  = .ok (.tuple #[]) (W.setCell ta (.int .i64 e)):=by
 rw[rls]
 simp only[Zx,QoE,QqC,ZbA]
 simp[ReflectliteValue.flagAddr,loadVar,isAgg,underlying,Tryz.underlying66,hb,ZbA,QoK,storeVar,Value.cells,storeCells,Addr.add]
 rw[run_store Tryz.prog W ta _ _ (by rfl)]
 simp[ht,hf]
def asW (w:World) (t:Addr):World:=((w.alloc (.cells #[.pointer (some t)] 116)).alloc (.cells #[.pointer (some ⟨1,116,none⟩),.pointer (some ⟨w.heap.size,0,none⟩),.int .u64 150] 152)).alloc (.cells #[.pointer (some ⟨1,116,none⟩),.pointer (some ⟨w.heap.size,0,none⟩),.int .u64 150] 152)
set_option maxHeartbeats 4000000 in
theorem QqB (e:Int) (t:Addr) (old:Value) (w:World) (hg:w.cell? ⟨0,0,none⟩=some (.iface 175 (.agg #[.pointer (some ⟨1,33,none⟩)]))) (ht0:w.cell? t=some old) (hf0:w.frozen? t=false):
 Calls Tryz.prog 46 #[.iface 66 (.int .i64 e),.iface 116 (.pointer (some t))] w λev w'=>ev=.returned (.bool true)/\w'=((asW w t).alloc (.cells #[.int .i64 e] 66)).setCell t (.int .i64 e):=by
 have h6:=@run_callFunc_extern Tryz.prog 64 _ (λargs=>ReflectliteValue.unpack (args.getD 0 (.tuple #[]))) Tryz.func64 Zc Zc Zc Zc
 have h7:=@run_callFunc_extern Tryz.prog 65 _ (ReflectliteValue.methodAny (ReflectliteValue.valueError "reflectlite.Value.Type" 0) (λt _ _ _=>ReflectliteType.toType t)) Tryz.func65 Zc Zc Zc Zc
 have h8:=@run_callFunc_extern Tryz.prog 66 _ (ReflectliteValue.method (ReflectliteValue.valueError "reflectlite.Value.IsNil" 0) ReflectliteValue.isNil) Tryz.func66 Zc Zc Zc Zc
 have h27:=@run_callFunc_extern Tryz.prog 130 _ (ReflectliteType.abiMethod λt=>do pure (.int .u8 (<- Rtype.kind t))) Tryz.func130 Zc Zc Zc Zc
 have h37:=@run_callFunc_extern Tryz.prog 142 _ (ReflectliteType.method ReflectliteType.elem) Tryz.func142 Zc Zc Zc Zc
 have h38:=@run_callFunc_extern Tryz.prog 143 _ (ReflectliteType.relation "Implements" ReflectliteType.implements_) Tryz.func143 Zc Zc Zc Zc
 have h10:=@run_callFunc_extern Tryz.prog 83 _ ReflectliteType.typeOf Tryz.func83 Zc Zc Zc Zc
 have h35:=@run_callFunc_extern Tryz.prog 140 _ (ReflectliteType.relation "AssignableTo" ReflectliteType.assignableTo) Tryz.func140 Zc Zc Zc Zc
 have h11:=@run_callFunc_extern Tryz.prog 84 _ (ReflectliteValue.method (ReflectliteValue.valueError "reflectlite.Value.Elem" 0) ReflectliteValue.elem) Tryz.func84 Zc Zc Zc Zc
 have h12:=@run_callFunc_extern Tryz.prog 85 _ ReflectliteValue.set Tryz.func85 Zc Zc Zc Zc
 have tO:=Qi7
 have mA:=Qa7
 have a25:=Qem
 have v25:=Qg7
 have f6:=Qg6
 have f7:=QoC
 have mK:=Qfa
 have mE:=Qfb
 have mI:=QbL
 have k27:=QoF
 have k25:=QoG
 have e27:=QoI
 have i25:=Qel
 have n8:=QkH ⟨w.heap.size,0,none⟩ t ((w.alloc (.cells #[.pointer (some t)] 116)).alloc (.cells #[.pointer (some ⟨1,116,none⟩),.pointer (some ⟨w.heap.size,0,none⟩),.int .u64 150] 152)) (by simp)
 have hlt:0<w.heap.size:=by
  rcases Yu w.heap.size with h0|h
  . simp[ZaU,h0]at hg
  . exact h
 have hg2:((w.alloc (.cells #[.pointer (some t)] 116)).alloc (.cells #[.pointer (some ⟨1,116,none⟩),.pointer (some ⟨w.heap.size,0,none⟩),.int .u64 150] 152)).cell? ⟨0,0,none⟩=some (.iface 175 (.agg #[.pointer (some ⟨1,33,none⟩)])):=by
  rw[Z6 _ _ ⟨0,0,none⟩ (by simp),Z6 _ _ ⟨0,0,none⟩ hlt];exact hg
 have htl:t.block<w.heap.size:=by
  rcases Yw t.block w.heap.size with h|h
  . exact h
  . simp[ZaU,ZaT h]at ht0
 have el:=QoH ⟨w.heap.size,0,none⟩ t (asW w t) (by unfold asW;rw[Z6 _ _ ⟨w.heap.size,0,none⟩ (by simp;omega)];simp)
 have st:=QqW t ⟨w.heap.size+1+1+1,0,none⟩ e old ((asW w t).alloc (.cells #[.int .i64 e] 66))
  (by rw[Zdo _ _ _ _ (by simp[asW])];rfl)
  (by unfold asW;rw[Z6 _ _ t (by simp;omega),Z6 _ _ t (by simp;omega),Z6 _ _ t (by simp;omega),Z6 _ _ t htl];exact ht0)
  (by unfold asW;rw[Y5 _ _ t (by simp;omega),Y5 _ _ t (by simp;omega),Y5 _ _ t (by simp;omega),Y5 _ _ t (ZbF htl)];exact hf0)
 unfold asW at el st ⊢
 go_enter Tryz.func46,Tryz.ntmps46
 go_wp2
 refine wp_loop_rounds 1 ?_
 rw[rounds_succ]
 go_wp2
 go_ret
 exact⟨rfl,rfl⟩
theorem asNoAs (v:Value) (xT:TypeId) (w:World):(Zd7 (.iface 112 v) xT 180 true).run Tryz.prog w=.ok (.tuple #[.nilIface,.bool false]) w:=run_typeAssert_lacksB Tryz.underlying180 Zc Zc v xT w
theorem QjP (v:Value) (xT:TypeId) (w:World):(Zd7 (.iface 112 v) xT 183 true).run Tryz.prog w=.ok (.tuple #[.iface 112 v,.bool true]) w:=run_typeAssert_hasB Tryz.underlying183 Zc v xT w
theorem QgD (h:Value) (w:World):(Zdt 346 112 h "Unwrap").run Tryz.prog w=.ok (135,h) w:=Zc
set_option maxHeartbeats 4000000 in
theorem as_at (e:Int) (pb po:Nat) (t:Addr) (old:Value) (w:World) (hg:w.cell? ⟨0,0,none⟩=some (.iface 175 (.agg #[.pointer (some ⟨1,33,none⟩)]))) (ht0:w.cell? t=some old) (hf0:w.frozen? t=false) (hp:w.cell? ⟨pb,po,none⟩=some (.int .i64 e)):
 Calls Tryz.prog 46 #[.iface 112 (.pointer (some ⟨pb,po,none⟩)),.iface 116 (.pointer (some t))] w λev w'=>ev=.returned (.bool true)/\w'=((asW w t).alloc (.cells #[.int .i64 e] 66)).setCell t (.int .i64 e):=by
 have h6:=@run_callFunc_extern Tryz.prog 64 _ (λargs=>ReflectliteValue.unpack (args.getD 0 (.tuple #[]))) Tryz.func64 Zc Zc Zc Zc
 have h7:=@run_callFunc_extern Tryz.prog 65 _ (ReflectliteValue.methodAny (ReflectliteValue.valueError "reflectlite.Value.Type" 0) (λt _ _ _=>ReflectliteType.toType t)) Tryz.func65 Zc Zc Zc Zc
 have h8:=@run_callFunc_extern Tryz.prog 66 _ (ReflectliteValue.method (ReflectliteValue.valueError "reflectlite.Value.IsNil" 0) ReflectliteValue.isNil) Tryz.func66 Zc Zc Zc Zc
 have h27:=@run_callFunc_extern Tryz.prog 130 _ (ReflectliteType.abiMethod λt=>do pure (.int .u8 (<- Rtype.kind t))) Tryz.func130 Zc Zc Zc Zc
 have h37:=@run_callFunc_extern Tryz.prog 142 _ (ReflectliteType.method ReflectliteType.elem) Tryz.func142 Zc Zc Zc Zc
 have h38:=@run_callFunc_extern Tryz.prog 143 _ (ReflectliteType.relation "Implements" ReflectliteType.implements_) Tryz.func143 Zc Zc Zc Zc
 have h10:=@run_callFunc_extern Tryz.prog 83 _ ReflectliteType.typeOf Tryz.func83 Zc Zc Zc Zc
 have h35:=@run_callFunc_extern Tryz.prog 140 _ (ReflectliteType.relation "AssignableTo" ReflectliteType.assignableTo) Tryz.func140 Zc Zc Zc Zc
 have h11:=@run_callFunc_extern Tryz.prog 84 _ (ReflectliteValue.method (ReflectliteValue.valueError "reflectlite.Value.Elem" 0) ReflectliteValue.elem) Tryz.func84 Zc Zc Zc Zc
 have h12:=@run_callFunc_extern Tryz.prog 85 _ ReflectliteValue.set Tryz.func85 Zc Zc Zc Zc
 have tO:=Qi7
 have tA:=QoD
 have a26:=Qh1
 have nA:=asNoAs
 have hU:=QjP
 have mU:=QgD
 have mA:=Qa7
 have a25:=Qem
 have v25:=Qg7
 have f6:=Qg6
 have f7:=QoC
 have mK:=Qfa
 have mE:=Qfb
 have mI:=QbL
 have k27:=QoF
 have k25:=QoG
 have e27:=QoI
 have i25:=Qel
 have n8:=QkH ⟨w.heap.size,0,none⟩ t ((w.alloc (.cells #[.pointer (some t)] 116)).alloc (.cells #[.pointer (some ⟨1,116,none⟩),.pointer (some ⟨w.heap.size,0,none⟩),.int .u64 150] 152)) (by simp)
 have hlt:0<w.heap.size:=by
  rcases Yu w.heap.size with h0|h
  . simp[ZaU,h0]at hg
  . exact h
 have hg2:((w.alloc (.cells #[.pointer (some t)] 116)).alloc (.cells #[.pointer (some ⟨1,116,none⟩),.pointer (some ⟨w.heap.size,0,none⟩),.int .u64 150] 152)).cell? ⟨0,0,none⟩=some (.iface 175 (.agg #[.pointer (some ⟨1,33,none⟩)])):=by
  rw[Z6 _ _ ⟨0,0,none⟩ (by simp),Z6 _ _ ⟨0,0,none⟩ hlt];exact hg
 have htl:t.block<w.heap.size:=by
  rcases Yw t.block w.heap.size with h|h
  . exact h
  . simp[ZaU,ZaT h]at ht0
 have el:=QoH ⟨w.heap.size,0,none⟩ t (asW w t) (by unfold asW;rw[Z6 _ _ ⟨w.heap.size,0,none⟩ (by simp;omega)];simp)
 have st:=QqW t ⟨w.heap.size+1+1+1,0,none⟩ e old ((asW w t).alloc (.cells #[.int .i64 e] 66))
  (by rw[Zdo _ _ _ _ (by simp[asW])];rfl)
  (by unfold asW;rw[Z6 _ _ t (by simp;omega),Z6 _ _ t (by simp;omega),Z6 _ _ t (by simp;omega),Z6 _ _ t htl];exact ht0)
  (by unfold asW;rw[Y5 _ _ t (by simp;omega),Y5 _ _ t (by simp;omega),Y5 _ _ t (by simp;omega),Y5 _ _ t (ZbF htl)];exact hf0)
 have hpl:pb<w.heap.size:=by
  rcases Yw pb w.heap.size with h|h
  . exact h
  . simp[ZaU,ZaT h]at hp
 have hp2:(asW w t).cell? ⟨pb,po,none⟩=some (.int .i64 e):=by
  unfold asW;rw[Z6 _ _ ⟨pb,po,none⟩ (by simp;omega),Z6 _ _ ⟨pb,po,none⟩ (by simp;omega),Z6 _ _ ⟨pb,po,none⟩ hpl];exact hp
 unfold asW at el st hp2 ⊢
 go_enter Tryz.func46,Tryz.ntmps46
 go_wp2
 refine wp_loop_rounds 2 ?_
 rw[rounds_succ]
 go_wp2
 rw[rounds_succ]
 go_wp2
 go_ret
 exact⟨rfl,rfl⟩
end
section
open Go.RowKit
theorem QoB (w:World) (t:Addr):Below w.heap.size w (asW w t):=(((Below.refl _ _).alloc (Zq _) _).alloc (by simp) _).alloc (by simp;omega) _
theorem Qrm (v:Value) (e:Int) (w:World) (hg:ErrType w) (hv:v=.iface 66 (.int .i64 e)\/∃pb po,v=.iface 112 (.pointer (some ⟨pb,po,none⟩))/\w.cell? ⟨pb,po,none⟩=some (.int .i64 e)):
 Calls Tryz.prog 27 #[v] w λev w'=>ev=.returned (.int .i64 e)/\Below w.heap.size w w':=by
 have hlt:0<w.heap.size:=by
  rcases Yu w.heap.size with h0|h
  . simp[ErrType,ZaU,h0]at hg
  . exact h
 have hg1:(w.alloc (.cells #[.int .i64 0] 66)).cell? ⟨0,0,none⟩=some (.iface 175 (.agg #[.pointer (some ⟨1,33,none⟩)])):=by
  rw[Z6 _ _ ⟨0,0,none⟩ hlt];exact hg
 have ht1:(w.alloc (.cells #[.int .i64 0] 66)).cell? ⟨w.heap.size,0,none⟩=some (.int .i64 0):=by simp
 have hf1:(w.alloc (.cells #[.int .i64 0] 66)).frozen? ⟨w.heap.size,0,none⟩=false:=by simp
 have hc:Calls Tryz.prog 46 #[v,.iface 116 (.pointer (some ⟨w.heap.size,0,none⟩))] (w.alloc (.cells #[.int .i64 0] 66)) λev w'=>ev=.returned (.bool true)/\w'.cell? ⟨w.heap.size,0,none⟩=some (.int .i64 e)/\Below w.heap.size w w':=by
  have fin:∀w',w'=((asW (w.alloc (.cells #[.int .i64 0] 66)) ⟨w.heap.size,0,none⟩).alloc (.cells #[.int .i64 e] 66)).setCell ⟨w.heap.size,0,none⟩ (.int .i64 e)->w'.cell? ⟨w.heap.size,0,none⟩=some (.int .i64 e)/\Below w.heap.size w w':=by
   rintro w' rfl
   refine⟨World.cell?_setCell_same _ _ _ (u:=.int .i64 0) ?_,?_⟩
   . unfold asW
     rw[Z6 _ _ ⟨w.heap.size,0,none⟩ (by simp;omega),Z6 _ _ ⟨w.heap.size,0,none⟩ (by simp;omega),Z6 _ _ ⟨w.heap.size,0,none⟩ (by simp;omega),Z6 _ _ ⟨w.heap.size,0,none⟩ (by simp)]
     exact ht1
   . have b1:Below w.heap.size w (asW (w.alloc (.cells #[.int .i64 0] 66)) ⟨w.heap.size,0,none⟩):=((Below.refl _ _).alloc (Zq _) _).trans ((QoB _ _).mono (by simp))
     exact Below.setCell (b1.alloc (by simp[asW];omega) _) (p:=⟨w.heap.size,0,none⟩) (Zq w.heap.size) _
  rcases hv with rfl|⟨pb,po,rfl,hp⟩
  . exact (QqB e _ _ _ hg1 ht1 hf1).mono λev w' ⟨h1,h2⟩=>⟨h1,fin w' h2⟩
  . refine (as_at e pb po _ _ _ hg1 ht1 hf1 ?_).mono λev w' ⟨h1,h2⟩=>⟨h1,fin w' h2⟩
    rw[Z6 _ _ ⟨pb,po,none⟩ (by
     show pb<w.heap.size
     rcases Yw pb w.heap.size with h|h
     . exact h
     . simp[ZaU,ZaT h]at hp)]
    exact hp
 have hn:∃t u,v=.iface t u:=by
  rcases hv with rfl|⟨pb,po,rfl,-⟩
  . exact⟨_,_,rfl⟩
  . exact⟨_,_,rfl⟩
 clear hv
 obtain⟨ty,u,rfl⟩:=hn
 go_enter Tryz.func27,Tryz.ntmps27
 go_wp2_with (go_at_call 46;refine hc.mono ?_;rintro e w' ⟨rfl,hcell,hbel⟩)
 go_ret
 exact⟨rfl,hbel⟩
inductive TellS where
 |no (e:Int)
 |at (e p:Int)
def TellS.e:TellS->Int
 |.no e=>e
 |.at e _=>e
def QhM:RCon where
 σ:=TellS
 χ:=Unit
 pre _:=True
 args s:=match s with
  |.no e=>[.c (.v (.iface 66 (.int .i64 e)))]
  |.at _ _=>[.c (.i 112 0 0)]
 mem s:=match s with
  |.no _=>[]
  |.at e p=>[.cells [.one (.v (.int .i64 e)),.one (.v (.int .i64 p))] 114]
 ok _ _:=True
 val s _:=sv (.int .i64 s.e)
 new _ _:=[]
 len:=0
 det:=some ()
 find args M:=match args with
  |[.c (.i _ b _)]=>some [b]
  |_=>some []
theorem Qo1 (W:World) (hE:ErrType W):(Zet QhM).holdsAt Tryz.prog W (λ_=>False) 27:=by
 refine⟨Zc,λx0 h s x=>⟨rfl,Zd⟩,λρ s w _ hK hM=>?_⟩
 have hlt:0<W.heap.size:=by
  rcases Yu W.heap.size with h0|h
  . simp[ErrType,ZaU,h0]at hE
  . exact h
 have hg:ErrType w:=(hK.cell hlt (λh=>h)).trans hE
 have key:∀v:Value,(v=.iface 66 (.int .i64 s.e)\/∃pb po,v=.iface 112 (.pointer (some ⟨pb,po,none⟩))/\w.cell? ⟨pb,po,none⟩=some (.int .i64 s.e))->Calls Tryz.prog 27 #[v] w λe w'=>∃(x:Unit) (ρ':Nat->Nat),True/\(∀i,i<(QhM.mem s).length->ρ' i=ρ i)/\0=0/\e=.returned ((QhM.val s x).den ρ')/\Mem w (λ_=>False) [] w':=λv hv=>by
  refine (Qrm v s.e w hg hv).mono λe w' ⟨h1,h2⟩=>⟨(),ρ,Zd,λ_ _=>rfl,rfl,h1,⟨(Kept.refl _ w).trans (Kept.of_below h2),by simp,by simp,Zam⟩⟩
 cases s with
 |no e=>exact key _ (.inl rfl)
 | «at» e p=>
   have h0:(En.blk (ρ 0) [.int .i64 e,.int .i64 p] 114).at w:=hM _ (List.mem_singleton.2 rfl)
   exact key _ (.inr ⟨ρ 0,0,rfl,Blk.cell h0 0⟩)
abbrev rowsE (m c:Nat) (z:Nat->Nat->Int):SB:=.rows 53 [.int .i64,.int .i64,.int .i64,.int .i64,.int .i64,.int .i64,.int .i64,.int .i64,.int .i64] 9 m c z
abbrev rowsJ (m c:Nat) (z:Nat->Nat->Int):SB:=.rows 44 [.int .i64,.int .i64,.int .i64,.int .i64,.int .i64,.int .i64] 6 m c z
def evL:List (List Int):=[[1,0,1,0,3,0,0,0,0],[2,0,1,0,3,1,0,1,0]]
def deL:List (List Int):=[[0,1,0,3,1,0],[1,2,0,0,1,3]]
def Qee:RCon where
 σ:=Unit
 χ:=Unit
 pre _:=True
 args _:=[.c (.so 0 0 9 2 2 true),.c (.so 1 0 6 1 2 true)]
 mem _:=[rowsE 2 2 (zOf evL),rowsJ 2 2 (zOf deL)]
 ok _ _:=True
 val _ _:=.o (.c (.v .nilIface))
 new _ _:=[]
 len:=0
 det:=some ()
 find args M:=match args with
  |[.c (.so b _ _ _ _ _),.c (.so d _ _ _ _ _)]=>some [b,d]
  |_=>none
def Qed:RCon where
 σ:=Unit
 χ:=Unit
 pre _:=True
 args _:=[.c (.so 0 0 9 2 2 true),.c (.v (.slice none 0 0))]
 mem _:=[rowsE 2 2 (zOf evL)]
 ok _ _:=True
 val _ _:=.o (.c (.v (.iface 66 (.int .i64 7))))
 new _ _:=[]
 len:=0
 det:=some ()
 find args M:=match args with
  |[.c (.so b _ _ _ _ _),.c (.v _)]=>some [b]
  |_=>none
theorem QnO:(Zet Qed).holds Tryz.prog 20:=by
 intro w0 S
 refine QdP (AG:=[]) (Γ:=[(33,.inl Tryz.f33 (Tryz.f33.body.getD .skip))]) Tryz.func20 rfl Zc Qg Qd (λ_ _=>.cons ⟨Zc,Tryz.func33,rfl⟩ (.nil _ _ _)) Qed (λx0 h s x=>⟨rfl,Zd⟩) [] (λ_ _=>[]) 2000 ?_
 rintro⟨⟩ ρ w - - hM
 have hE:RowAt w (ρ 0) 53 9 2 2 (QJ (ckAt [.int .i64,.int .i64,.int .i64,.int .i64,.int .i64,.int .i64,.int .i64,.int .i64,.int .i64]) 9 (zOf evL) 2):=hM _ (List.mem_singleton.2 rfl)
 obtain⟨a,c',e1,hr,ha,hnc⟩:=Qhg (b:=0) (lo:=0) (n:=2) (nn:=true) (kf:=λ_=>.i64) hE rfl rfl (Zq _)
 refine⟨[.c (.r a 2 c' 2 9 (λ_=>.i64) (λi=>zOf evL (0+i))),.c (.v (.slice none 0 0))],by simp only[Qed,Z5,Zal,SA.den,e1];rfl,rfl,?_⟩
 refine Qj (q:=((Rws 9 (λ(x:Nat)=>.i64) w a 2 c' λ(i j:Nat)=>match Zk (match Zk [[(1:Int),(0:Int),(1:Int),(0:Int),(3:Int),(0:Int),(0:Int),(0:Int),(0:Int)],[(2:Int),(0:Int),(1:Int),(0:Int),(3:Int),(1:Int),(0:Int),(1:Int),(0:Int)]] (0+i)with|some x=>x|none=>[]) j with|some x=>x|none=>(0:Int))/\(0:Int)<=(0:Int)/\(0:Int)<(2:Int)/\0<2)/\((Rws 9 (λ(x:Nat)=>.i64) w a 2 c' λ(i j:Nat)=>match Zk (match Zk [[(1:Int),(0:Int),(1:Int),(0:Int),(3:Int),(0:Int),(0:Int),(0:Int),(0:Int)],[(2:Int),(0:Int),(1:Int),(0:Int),(3:Int),(1:Int),(0:Int),(1:Int),(0:Int)]] (0+i)with|some x=>x|none=>[]) j with|some x=>x|none=>(0:Int))/\0<2)/\false=false/\(True/\(1<=1/\1=1)/\1<=68719476736)/\∀(c:Nat),1<=c->((Rws 9 (λ(x:Nat)=>.i64) w a 2 c' λ(i j:Nat)=>match Zk (match Zk [[(1:Int),(0:Int),(1:Int),(0:Int),(3:Int),(0:Int),(0:Int),(0:Int),(0:Int)],[(2:Int),(0:Int),(1:Int),(0:Int),(3:Int),(1:Int),(0:Int),(1:Int),(0:Int)]] (0+i)with|some x=>x|none=>[]) j with|some x=>x|none=>(0:Int))/\(0:Int)<=(1:Int)/\(1:Int)<(2:Int)/\1<2)/\((Rws 9 (λ(x:Nat)=>.i64) w a 2 c' λ(i j:Nat)=>match Zk (match Zk [[(1:Int),(0:Int),(1:Int),(0:Int),(3:Int),(0:Int),(0:Int),(0:Int),(0:Int)],[(2:Int),(0:Int),(1:Int),(0:Int),(3:Int),(1:Int),(0:Int),(1:Int),(0:Int)]] (0+i)with|some x=>x|none=>[]) j with|some x=>x|none=>(0:Int))/\1<2)/\((0:Int)<=(0:Int)/\(0:Int)<(1:Int)/\1<=c)/\0<1/\dP Tryz.f33 16 7 [xE 11,xE 10,xR 9 5,xF 8 5,xR 7 4,xF 6 4,xF 5 4,xE 4,xF 3 4,xE 2,xE 1,xE 0]/\((0:Int)<=(0:Int)/\(0:Int)<(1:Int)/\1<=c)/\0<1/\((0:Int)<=(0:Int)/\(0:Int)<(1:Int)/\1<=c)/\0<1/\((0:Int)<=(0:Int)/\(0:Int)<(1:Int)/\1<=c)/\0<1/\dP Tryz.f33 18 7 [⟨20,[],[4],[],false⟩,xF 19 4,xF 18 4,⟨17,[],[4],[],false⟩,xF 16 4,xF 15 4,⟨14,[],[4],[],false⟩,xF 13 4,xF 12 4,xR 11 5,xF 10 5,xR 9 5,xF 8 5,xE 7,xE 6,xE 5,xF 4 4,xE 3,xF 2 4,xE 1,xF 0 4]/\true=true/\((0:Int)<=(0:Int)/\(0:Int)=(0:Int)/\(0:Int)<=(68719476736:Int))/\1<=c/\((0:Int)<=(0:Int)/\(0:Int)<(1:Int)/\1<=c)/\0<1/\endD Qed [] (λ(x:SV) (x_1:List SB)=>[]) Zat (ZI (Zu (.v (.iface 66 (ZA .i64 (7:Int)))))) [SB.mf (λ(x:Int)=>bif x==(0:Int)then false else bif x==(0:Int)then true else false) λ(x:Int)=>bif x==(0:Int)then (0:Int)else (0:Int),Zj [sI 1,sI 0,sI 1,sI 0,sI 3,sI 0,sI 0,sI 0,sI 0] 53,Zj [sI 10,sI 0] 114,Zn 97 kI9 9 1 1 λ(i j:Nat)=>match Zk (match Zk [[(0:Int),(1:Int),(0:Int),(3:Int),(1:Int),(0:Int),(0:Int),(0:Int),(0:Int)]] i with|some x=>x|none=>[]) j with|some x=>x|none=>(0:Int),Zn 97 kI9 9 1 c λ(i j:Nat)=>bif match ZE i 0 with|false=>false|true=>match ZP 7 j with|false=>false|true=>ZP j 8 then match Zk [(1:Int),(0:Int)] (match match match match match match match j with|0=>0|Z8 a=>a with|0=>0|Z8 a=>a with|0=>0|Z8 a=>a with|0=>0|Z8 a=>a with|0=>0|Z8 a=>a with|0=>0|Z8 a=>a with|0=>0|Z8 a=>a)with|some x=>x|none=>(0:Int)else bif match ZE i 0 with|false=>false|true=>match ZP 6 j with|false=>false|true=>ZP j 6 then match Zk [(1:Int)] (match match match match match match j with|0=>0|Z8 a=>a with|0=>0|Z8 a=>a with|0=>0|Z8 a=>a with|0=>0|Z8 a=>a with|0=>0|Z8 a=>a with|0=>0|Z8 a=>a)with|some x=>x|none=>(0:Int)else bif match ZE i 0 with|false=>false|true=>match ZP 5 j with|false=>false|true=>ZP j 5 then match Zk [(2:Int)] (match match match match match j with|0=>0|Z8 a=>a with|0=>0|Z8 a=>a with|0=>0|Z8 a=>a with|0=>0|Z8 a=>a with|0=>0|Z8 a=>a)with|some x=>x|none=>(0:Int)else match Zk (match Zk [[(0:Int),(1:Int),(0:Int),(3:Int),(1:Int),(0:Int),(0:Int),(0:Int),(0:Int)]] (0+i)with|some x=>x|none=>[]) j with|some x=>x|none=>(0:Int),Zj [sI 2,sI 0,sI 1,sI 0,sI 3,sI 1,sI 0,sI 1,sI 0] 53,Zj [sI 10,sI 1] 114,Zn 3 [.int .i64] 1 0 0 λ(x x_1:Nat)=>(0:Int),Zj [sI 0,sI 1,sI 0,sI 3,sI 1,sI 2,sI 1,sI 1,sI 0] 97]) Zc ?_
 refine⟨⟨Qj (q:=Rws 9 (λ_=>.i64) w a 2 c' (λi=>zOf evL (0+i))) Zc hr,Zb,Zb,Zb⟩,⟨Qj (q:=Rws 9 (λ_=>.i64) w a 2 c' (λi=>zOf evL (0+i))) Zc hr,Zb⟩,?_⟩
 first
  |refine⟨⟨Zd,⟨Zq _,rfl⟩,Zb⟩,λc hc=>?_⟩
  |refine⟨rfl,⟨Zd,⟨Zq _,rfl⟩,Zb⟩,λc hc=>?_⟩
 repeat' (first|(show Rws 9 (λ_=>.i64) w a 2 c' _;exact Qj (q:=Rws 9 (λ_=>.i64) w a 2 c' (λi=>zOf evL (0+i))) Zc hr)|exact (rfl:false=false)|exact Qe Zc|exact hc|omega|refine And.intro ?_ ?_)
 all_goals first|exact⟨(),Zd,rfl,rfl⟩|kernel_rfl
theorem QnP:(Zet Qee).holds Tryz.prog 20:=by
 intro w0 S
 refine QdP (AG:=[]) (Γ:=[(33,.inl Tryz.f33 (Tryz.f33.body.getD .skip))]) Tryz.func20 rfl Zc Qg Qd (λ_ _=>.cons ⟨Zc,Tryz.func33,rfl⟩ (.nil _ _ _)) Qee (λx0 h s x=>⟨rfl,Zd⟩) [] (λ_ _=>[]) 2000 ?_
 rintro⟨⟩ ρ w - - hM
 have hE:RowAt w (ρ 0) 53 9 2 2 (QJ (ckAt [.int .i64,.int .i64,.int .i64,.int .i64,.int .i64,.int .i64,.int .i64,.int .i64,.int .i64]) 9 (zOf evL) 2):=hM _ ZB
 have hD:RowAt w (ρ 1) 44 6 2 2 (QJ (ckAt [.int .i64,.int .i64,.int .i64,.int .i64,.int .i64,.int .i64]) 6 (zOf deL) 2):=hM _ (List.mem_cons_of_mem _ ZB)
 obtain⟨a2,c2,e2,hr2,ha2,hnc2⟩:=Qhg (b:=1) (lo:=0) (n:=1) (nn:=true) (kf:=λ_=>.i64) hD rfl rfl Zb
 obtain⟨a,c',e1,hr,ha,hnc⟩:=Qhg (b:=0) (lo:=0) (n:=2) (nn:=true) (kf:=λ_=>.i64) hE rfl rfl (Zq _)
 refine⟨[.c (.r a 2 c' 2 9 (λ_=>.i64) (λi=>zOf evL (0+i))),.c (.r a2 1 c2 1 6 (λ_=>.i64) (λi=>zOf deL (0+i)))],by simp only[Qee,Z5,Zal,SA.den,e1,e2];rfl,rfl,?_⟩
 refine Qj (q:=((Rws 9 (λ(x:Nat)=>.i64) w a 2 c' λ(i j:Nat)=>match Zk (match Zk [[(1:Int),(0:Int),(1:Int),(0:Int),(3:Int),(0:Int),(0:Int),(0:Int),(0:Int)],[(2:Int),(0:Int),(1:Int),(0:Int),(3:Int),(1:Int),(0:Int),(1:Int),(0:Int)]] (0+i)with|some x=>x|none=>[]) j with|some x=>x|none=>(0:Int))/\(0:Int)<=(0:Int)/\(0:Int)<(2:Int)/\0<2)/\((Rws 9 (λ(x:Nat)=>.i64) w a 2 c' λ(i j:Nat)=>match Zk (match Zk [[(1:Int),(0:Int),(1:Int),(0:Int),(3:Int),(0:Int),(0:Int),(0:Int),(0:Int)],[(2:Int),(0:Int),(1:Int),(0:Int),(3:Int),(1:Int),(0:Int),(1:Int),(0:Int)]] (0+i)with|some x=>x|none=>[]) j with|some x=>x|none=>(0:Int))/\0<2)/\false=false/\(True/\(1<=1/\1=1)/\1<=68719476736)/\∀(c:Nat),1<=c->((Rws 9 (λ(x:Nat)=>.i64) w a 2 c' λ(i j:Nat)=>match Zk (match Zk [[(1:Int),(0:Int),(1:Int),(0:Int),(3:Int),(0:Int),(0:Int),(0:Int),(0:Int)],[(2:Int),(0:Int),(1:Int),(0:Int),(3:Int),(1:Int),(0:Int),(1:Int),(0:Int)]] (0+i)with|some x=>x|none=>[]) j with|some x=>x|none=>(0:Int))/\(0:Int)<=(1:Int)/\(1:Int)<(2:Int)/\1<2)/\((Rws 9 (λ(x:Nat)=>.i64) w a 2 c' λ(i j:Nat)=>match Zk (match Zk [[(1:Int),(0:Int),(1:Int),(0:Int),(3:Int),(0:Int),(0:Int),(0:Int),(0:Int)],[(2:Int),(0:Int),(1:Int),(0:Int),(3:Int),(1:Int),(0:Int),(1:Int),(0:Int)]] (0+i)with|some x=>x|none=>[]) j with|some x=>x|none=>(0:Int))/\1<2)/\((0:Int)<=(0:Int)/\(0:Int)<(1:Int)/\1<=c)/\0<1/\dP Tryz.f33 16 7 [xE 11,xE 10,xR 9 5,xF 8 5,xR 7 4,xF 6 4,xF 5 4,xE 4,xF 3 4,xE 2,xE 1,xE 0]/\((0:Int)<=(0:Int)/\(0:Int)<(1:Int)/\1<=c)/\0<1/\((0:Int)<=(0:Int)/\(0:Int)<(1:Int)/\1<=c)/\0<1/\((0:Int)<=(0:Int)/\(0:Int)<(1:Int)/\1<=c)/\0<1/\dP Tryz.f33 18 7 [⟨20,[],[4],[],false⟩,xF 19 4,xF 18 4,⟨17,[],[4],[],false⟩,xF 16 4,xF 15 4,⟨14,[],[4],[],false⟩,xF 13 4,xF 12 4,xR 11 5,xF 10 5,xR 9 5,xF 8 5,xE 7,xE 6,xE 5,xF 4 4,xE 3,xF 2 4,xE 1,xF 0 4]/\true=true/\((0:Int)<=(1:Int)/\(1:Int)=(1:Int)/\(1:Int)<=(68719476736:Int))/\1<=c/\((0:Int)<=(0:Int)/\(0:Int)<(1:Int)/\1<=c)/\0<1/\((Rws 6 (λ(x:Nat)=>.i64) w a2 1 c2 λ(i j:Nat)=>match Zk (match Zk [[(0:Int),(1:Int),(0:Int),(3:Int),(1:Int),(0:Int)],[(1:Int),(2:Int),(0:Int),(0:Int),(1:Int),(3:Int)]] (0+i)with|some x=>x|none=>[]) j with|some x=>x|none=>(0:Int))/\(0:Int)<=(0:Int)/\(0:Int)<(1:Int)/\0<1)/\((Rws 6 (λ(x:Nat)=>.i64) w a2 1 c2 λ(i j:Nat)=>match Zk (match Zk [[(0:Int),(1:Int),(0:Int),(3:Int),(1:Int),(0:Int)],[(1:Int),(2:Int),(0:Int),(0:Int),(1:Int),(3:Int)]] (0+i)with|some x=>x|none=>[]) j with|some x=>x|none=>(0:Int))/\0<1)/\((0:Int)<=(0:Int)/\(0:Int)<(1:Int)/\1<=1)/\0<1/\((0:Int)<=(0:Int)/\(0:Int)<(1:Int)/\1<=1)/\0<1/\((Rws 6 (λ(x:Nat)=>.i64) w a2 1 c2 λ(i j:Nat)=>match Zk (match Zk [[(0:Int),(1:Int),(0:Int),(3:Int),(1:Int),(0:Int)],[(1:Int),(2:Int),(0:Int),(0:Int),(1:Int),(3:Int)]] (0+i)with|some x=>x|none=>[]) j with|some x=>x|none=>(0:Int))/\(0:Int)<=(0:Int)/\(0:Int)<(1:Int)/\0<1)/\((Rws 6 (λ(x:Nat)=>.i64) w a2 1 c2 λ(i j:Nat)=>match Zk (match Zk [[(0:Int),(1:Int),(0:Int),(3:Int),(1:Int),(0:Int)],[(1:Int),(2:Int),(0:Int),(0:Int),(1:Int),(3:Int)]] (0+i)with|some x=>x|none=>[]) j with|some x=>x|none=>(0:Int))/\0<1)/\((0:Int)<=(0:Int)/\(0:Int)<(1:Int)/\1<=1)/\0<1/\1<=1/\endD Qee [] (λ(x:SV) (x_1:List SB)=>[]) Zat (ZI (Zu (.v ZN))) [SB.mf (λ(x:Int)=>bif x==(0:Int)then false else bif x==(0:Int)then true else false) λ(x:Int)=>bif x==(0:Int)then (0:Int)else (0:Int),Zj [sI 1,sI 0,sI 1,sI 0,sI 3,sI 0,sI 0,sI 0,sI 0] 53,Zj [sI 10,sI 0] 114,Zn 97 kI9 9 1 1 λ(i j:Nat)=>match Zk (match Zk [[(0:Int),(1:Int),(0:Int),(3:Int),(1:Int),(0:Int),(0:Int),(0:Int),(0:Int)]] i with|some x=>x|none=>[]) j with|some x=>x|none=>(0:Int),Zn 97 kI9 9 1 c λ(i j:Nat)=>bif match ZE i 0 with|false=>false|true=>match ZP 7 j with|false=>false|true=>ZP j 8 then match Zk [(1:Int),(0:Int)] (match match match match match match match j with|0=>0|Z8 a=>a with|0=>0|Z8 a=>a with|0=>0|Z8 a=>a with|0=>0|Z8 a=>a with|0=>0|Z8 a=>a with|0=>0|Z8 a=>a with|0=>0|Z8 a=>a)with|some x=>x|none=>(0:Int)else bif match ZE i 0 with|false=>false|true=>match ZP 6 j with|false=>false|true=>ZP j 6 then match Zk [(1:Int)] (match match match match match match j with|0=>0|Z8 a=>a with|0=>0|Z8 a=>a with|0=>0|Z8 a=>a with|0=>0|Z8 a=>a with|0=>0|Z8 a=>a with|0=>0|Z8 a=>a)with|some x=>x|none=>(0:Int)else bif match ZE i 0 with|false=>false|true=>match ZP 5 j with|false=>false|true=>ZP j 5 then match Zk [(2:Int)] (match match match match match j with|0=>0|Z8 a=>a with|0=>0|Z8 a=>a with|0=>0|Z8 a=>a with|0=>0|Z8 a=>a with|0=>0|Z8 a=>a)with|some x=>x|none=>(0:Int)else match Zk (match Zk [[(0:Int),(1:Int),(0:Int),(3:Int),(1:Int),(0:Int),(0:Int),(0:Int),(0:Int)]] (0+i)with|some x=>x|none=>[]) j with|some x=>x|none=>(0:Int),Zj [sI 2,sI 0,sI 1,sI 0,sI 3,sI 1,sI 0,sI 1,sI 0] 53,Zj [sI 10,sI 1] 114,Zn 3 [.int .i64] 1 1 1 λ(i j:Nat)=>bif match ZE i 0 with|false=>false|true=>ZP j 0 then match Zk [(1:Int)] j with|some x=>x|none=>(0:Int)else (0:Int),Zj [sI 0,sI 1,sI 0,sI 3,sI 1,sI 2,sI 1,sI 1,sI 0] 97,Zj [sI 0,sI 1,sI 0,sI 3,sI 1,sI 0] 44,Zj [sI 0,sI 1,sI 0,sI 3,sI 1,sI 0] 44]) Zc ?_
 refine⟨⟨Qj (q:=Rws 9 (λ_=>.i64) w a 2 c' (λi=>zOf evL (0+i))) Zc hr,Zb,Zb,Zb⟩,⟨Qj (q:=Rws 9 (λ_=>.i64) w a 2 c' (λi=>zOf evL (0+i))) Zc hr,Zb⟩,?_⟩
 first
  |refine⟨⟨Zd,⟨Zq _,rfl⟩,Zb⟩,λc hc=>?_⟩
  |refine⟨rfl,⟨Zd,⟨Zq _,rfl⟩,Zb⟩,λc hc=>?_⟩
 repeat' (first|(show Rws 9 (λ_=>.i64) w a 2 c' _;exact Qj (q:=Rws 9 (λ_=>.i64) w a 2 c' (λi=>zOf evL (0+i))) Zc hr)|(show Rws 6 (λ_=>.i64) w a2 1 c2 _;exact Qj (q:=Rws 6 (λ_=>.i64) w a2 1 c2 (λi=>zOf deL (0+i))) Zc hr2)|exact (rfl:false=false)|exact Qe Zc|exact hc|omega|refine And.intro ?_ ?_)
 all_goals first|exact⟨(),Zd,rfl,rfl⟩|kernel_rfl
def Qfw:RCon where
 σ:=Int
 χ:=Unit
 pre _:=True
 args k:=[.c (.v (.int .i64 k)),.c (.v (.slice none 0 0))]
 mem _:=[]
 ok _ _:=True
 val _ _:=.o (Qdp (λ_=>0))
 new _ _:=[]
 len:=0
 det:=some ()
 find _ _:=some []
theorem Qng:(Zet Qfw).holds Tryz.prog 26:=by
 intro w0 S
 refine QdP (AG:=[]) (Γ:=[]) Tryz.func26 rfl Zc Qg Qd (λ_ _=>.nil _ _ _) Qfw (λx0 h s x=>⟨rfl,Zd⟩) [] (λ_ _=>[]) 400 ?_
 rintro k ρ w - - -
 refine⟨[.c (.v (.int .i64 k)),.c (.r none 0 0 0 3 (λ_=>.i64) (λ_ _=>0))],rfl,rfl,?_⟩
 refine Qj (q:=((0:Int)<=(0:Int)/\(0:Int)<=(0:Int))/\endD Qfw [] (λ(x:SV) (x_1:List SB)=>[]) k (ZI (Zz [nU 17 zF])) [Zj [nU 17 zF] 62,Zj [nU 17 zF] 62]) Zc ?_
 exact⟨⟨Zb,Zb⟩,(),Zd,rfl,rfl⟩
def QcM:PCon:=⟨λargs=>match args with
 |[]=>True
 |_=>False,λ_=>sv (.bool true),λ_=>none⟩
theorem Qst (W:World) (hE:ErrType W):(Con.pure QcM).holdsAt Tryz.prog W (λ_=>False) 9:=by
 have hlt:0<W.heap.size:=by
  rcases Yu W.heap.size with h0|h
  . simp[ErrType,ZaU,h0]at hE
  . exact h
 refine QcB (Γ:=[(24,.pure QiT),(26,.rd Qfw),(44,.pure Qog),(45,.pure QaJ),(25,.inl Tryz.f25 (Tryz.f25.body.getD .skip)),(27,.rd QhM),(20,.rd Qee),(20,.rd Qed)]) Tryz.func9 rfl Zc Qg Qd
  (λw hK=>.cons (QmZ w _) (.cons (Qng w _) (.cons (QqQ w _) (.cons (QqT w _) (.cons ⟨Zc,Tryz.func25,rfl⟩ (.cons (Qo1 w ((hK.cell hlt (λh=>h)).trans hE)) (.cons (QnP w _) (.cons (QnO w _) (.nil _ _ _))))))))) QcM (λ_=>[]) 2000 ?_
 intro w args hp hK
 unfold QcM at hp;dsimp only at hp;split at hp
 case h_2=>exact hp.elim
 refine⟨rfl,?_⟩
 refine Qj (q:=True/\True/\2<=2/\((0:Int)<=(0:Int)/\(0:Int)<(2:Int)/\2<=2)/\0<2/\(17=17/\QbQ (1:Int) (toN 17 zF))/\((0:Int)<=(1:Int)/\(1:Int)<(2:Int)/\2<=2)/\1<2/\(17=17/\QbQ (1:Int) (toN 17 (fL (objR (1:Int) (toN 17 zF) (1:Int) (0:Int) (3:Int)).1)))/\((0:Int)<=(1:Int)/\(1:Int)<=(2:Int)/\(2:Int)<=(2:Int)/\(0=0\/(1:Int)<(2:Int)))/\True/\1<=2/\((0:Int)<=(0:Int)/\(0:Int)<(1:Int)/\2<=2)/\1<2/\(17=17/\QbQ (1:Int) (toN 17 zF))/\True/\True/\∃(s:Int),[aI 1,Zu (.v (.slice none 0 0))]=[aI s,Zu (.v (.slice none 0 0))]/\eN/\True/\∀(x:Unit),True->∃(s:TellS),[Zu (.i 112 15 0)]=Zaa (λ(x:SA)=>match x with|Zu x=>Zu (match x with|SC.p b off=>SC.p (match Zk [15] b with|some x=>x|none=>0) off|SC.e b off ix=>SC.e (match Zk [15] b with|some x=>x|none=>0) off ix|SC.s b off n c=>SC.s (match Zk [15] b with|some x=>x|none=>0) off n c|SC.i t b off=>SC.i t (match Zk [15] b with|some x=>x|none=>0) off|SC.o b n c=>SC.o (match Zk [15] b with|some x=>x|none=>0) n c|Zdp b sz ix g=>Zdp (match Zk [15] b with|some x=>x|none=>0) sz ix g|ZbY b lo sz n c nn=>ZbY (match Zk [15] b with|some x=>x|none=>0) lo sz n c nn|Zdq g cs=>Zdq g (Zaa (λ(q:Nat × Nat)=>(match Zk [15] q.1 with|some x=>x|none=>0,q.2)) cs)|SC.m b=>SC.m (match Zk [15] b with|some x=>x|none=>0)|x=>x)|Zz l=>Zz (Zaa (λ(x:Seg)=>match x with|Yz x=>Yz (match x with|SC.p b off=>SC.p (match Zk [15] b with|some x=>x|none=>0) off|SC.e b off ix=>SC.e (match Zk [15] b with|some x=>x|none=>0) off ix|SC.s b off n c=>SC.s (match Zk [15] b with|some x=>x|none=>0) off n c|SC.i t b off=>SC.i t (match Zk [15] b with|some x=>x|none=>0) off|SC.o b n c=>SC.o (match Zk [15] b with|some x=>x|none=>0) n c|Zdp b sz ix g=>Zdp (match Zk [15] b with|some x=>x|none=>0) sz ix g|ZbY b lo sz n c nn=>ZbY (match Zk [15] b with|some x=>x|none=>0) lo sz n c nn|Zdq g cs=>Zdq g (Zaa (λ(q:Nat × Nat)=>(match Zk [15] q.1 with|some x=>x|none=>0,q.2)) cs)|SC.m b=>SC.m (match Zk [15] b with|some x=>x|none=>0)|x=>x)|s=>s) l)) (match s with|TellS.no e=>[Zu (.v (.iface 66 (ZA .i64 e)))]|TellS.at e p=>[Zu (.i 112 0 0)])/\[Zj [sI 13,sI 0] 114]=Zaa (λ(x:SB)=>match x with|Zj l t=>Zj (Zaa (λ(x:Seg)=>match x with|Yz x=>Yz (match x with|SC.p b off=>SC.p (match Zk [15] b with|some x=>x|none=>0) off|SC.e b off ix=>SC.e (match Zk [15] b with|some x=>x|none=>0) off ix|SC.s b off n c=>SC.s (match Zk [15] b with|some x=>x|none=>0) off n c|SC.i t b off=>SC.i t (match Zk [15] b with|some x=>x|none=>0) off|SC.o b n c=>SC.o (match Zk [15] b with|some x=>x|none=>0) n c|Zdp b sz ix g=>Zdp (match Zk [15] b with|some x=>x|none=>0) sz ix g|ZbY b lo sz n c nn=>ZbY (match Zk [15] b with|some x=>x|none=>0) lo sz n c nn|Zdq g cs=>Zdq g (Zaa (λ(q:Nat × Nat)=>(match Zk [15] q.1 with|some x=>x|none=>0,q.2)) cs)|SC.m b=>SC.m (match Zk [15] b with|some x=>x|none=>0)|x=>x)|s=>s) l) t|b=>b) (match s with|TellS.no e=>[]|TellS.at e p=>[Zj [sI e,sI p] 114])/\True/\∀(x:Unit),True->bif (match s with|TellS.no e=>e|TellS.at e p=>e)==(13:Int)then ((0:Int)<=(1:Int)/\(1:Int)<=(2:Int))/\∃(s:Unit),[Zu (.so 17 0 9 2 2 true),Zu (.so 0 0 6 1 2 true)]=[Zu (.so 17 0 9 2 2 true),Zu (.so 0 0 6 1 2 true)]/\[Zn 53 kI9 9 2 2 λ(i j:Nat)=>match Zk (match Zk [[(1:Int),(0:Int),(1:Int),(0:Int),(3:Int),(0:Int),(0:Int),(0:Int),(0:Int)],[(2:Int),(0:Int),(1:Int),(0:Int),(3:Int),(1:Int),(0:Int),(1:Int),(0:Int)]] i with|some x=>x|none=>[]) j with|some x=>x|none=>(0:Int),Zn 44 kI6 6 2 2 λ(i j:Nat)=>match Zk (match Zk [[(0:Int),(1:Int),(0:Int),(3:Int),(1:Int),(0:Int)],[(1:Int),(2:Int),(0:Int),(0:Int),(1:Int),(3:Int)]] i with|some x=>x|none=>[]) j with|some x=>x|none=>(0:Int)]=[Zn 53 kI9 9 2 2 λ(i j:Nat)=>match Zk (match Zk [[(1:Int),(0:Int),(1:Int),(0:Int),(3:Int),(0:Int),(0:Int),(0:Int),(0:Int)],[(2:Int),(0:Int),(1:Int),(0:Int),(3:Int),(1:Int),(0:Int),(1:Int),(0:Int)]] i with|some x=>x|none=>[]) j with|some x=>x|none=>(0:Int),Zn 44 kI6 6 2 2 λ(i j:Nat)=>match Zk (match Zk [[(0:Int),(1:Int),(0:Int),(3:Int),(1:Int),(0:Int)],[(1:Int),(2:Int),(0:Int),(0:Int),(1:Int),(3:Int)]] i with|some x=>x|none=>[]) j with|some x=>x|none=>(0:Int)]/\True/\∀(x:Unit),True->∃(s:Unit),[Zu (.so 17 0 9 2 2 true),Zu (.v (.slice none 0 0))]=[Zu (.so 17 0 9 2 2 true),Zu (.v (.slice none 0 0))]/\[Zn 53 kI9 9 2 2 λ(i j:Nat)=>match Zk (match Zk [[(1:Int),(0:Int),(1:Int),(0:Int),(3:Int),(0:Int),(0:Int),(0:Int),(0:Int)],[(2:Int),(0:Int),(1:Int),(0:Int),(3:Int),(1:Int),(0:Int),(1:Int),(0:Int)]] i with|some x=>x|none=>[]) j with|some x=>x|none=>(0:Int)]=[Zn 53 kI9 9 2 2 λ(i j:Nat)=>match Zk (match Zk [[(1:Int),(0:Int),(1:Int),(0:Int),(3:Int),(0:Int),(0:Int),(0:Int),(0:Int)],[(2:Int),(0:Int),(1:Int),(0:Int),(3:Int),(1:Int),(0:Int),(1:Int),(0:Int)]] i with|some x=>x|none=>[]) j with|some x=>x|none=>(0:Int)]/\True/\∀(x:Unit),True->∃(s:TellS),[Zu (.v (.iface 66 (ZA .i64 (7:Int))))]=Zaa (λ(x:SA)=>match x with|Zu x=>Zu (match x with|SC.p b off=>SC.p 0 off|SC.e b off ix=>SC.e 0 off ix|SC.s b off n c=>SC.s 0 off n c|SC.i t b off=>SC.i t 0 off|SC.o b n c=>SC.o 0 n c|Zdp b sz ix g=>Zdp 0 sz ix g|ZbY b lo sz n c nn=>ZbY 0 lo sz n c nn|Zdq g cs=>Zdq g (Zaa (λ(q:Nat × Nat)=>(0,q.2)) cs)|SC.m b=>SC.m 0|x=>x)|Zz l=>Zz (Zaa (λ(x:Seg)=>match x with|Yz x=>Yz (match x with|SC.p b off=>SC.p 0 off|SC.e b off ix=>SC.e 0 off ix|SC.s b off n c=>SC.s 0 off n c|SC.i t b off=>SC.i t 0 off|SC.o b n c=>SC.o 0 n c|Zdp b sz ix g=>Zdp 0 sz ix g|ZbY b lo sz n c nn=>ZbY 0 lo sz n c nn|Zdq g cs=>Zdq g (Zaa (λ(q:Nat × Nat)=>(0,q.2)) cs)|SC.m b=>SC.m 0|x=>x)|s=>s) l)) (match s with|TellS.no e=>[Zu (.v (.iface 66 (ZA .i64 e)))]|TellS.at e p=>[Zu (.i 112 0 0)])/\[]=Zaa (λ(x:SB)=>match x with|Zj l t=>Zj (Zaa (λ(x:Seg)=>match x with|Yz x=>Yz (match x with|SC.p b off=>SC.p 0 off|SC.e b off ix=>SC.e 0 off ix|SC.s b off n c=>SC.s 0 off n c|SC.i t b off=>SC.i t 0 off|SC.o b n c=>SC.o 0 n c|Zdp b sz ix g=>Zdp 0 sz ix g|ZbY b lo sz n c nn=>ZbY 0 lo sz n c nn|Zdq g cs=>Zdq g (Zaa (λ(q:Nat × Nat)=>(0,q.2)) cs)|SC.m b=>SC.m 0|x=>x)|s=>s) l) t|b=>b) (match s with|TellS.no e=>[]|TellS.at e p=>[Zj [sI e,sI p] 114])/\True/\∀(x:Unit),True->dP Tryz.f9 5 18 [xE 25,xE 24,xE 23,xE 22,xR 21 17,xF 20 17,xE 19,xE 18,xE 17,⟨16,[17,0],[],[],false⟩,xF 15 0,xF 14 0,xF 13 17,xE 12,xE 11,xE 10,xR 9 15,xF 8 15,xE 7,xE 6,xE 5,xE 4,xR 3 9,xE 2,xE 1,xE 0]/\endP QcM [] (ZI (aB ((match s with|TellS.no e=>e|TellS.at e p=>e)==(7:Int)))) []else dP Tryz.f9 5 18 [xE 25,xE 24,xE 23,xE 22,xE 21,xE 20,xE 19,xE 18,xE 17,xE 16,xE 15,xE 14,xE 13,xE 12,xE 11,xE 10,xR 9 15,xF 8 15,xE 7,xE 6,xE 5,xE 4,xR 3 9,xE 2,xE 1,xE 0]/\endP QcM [] (ZI (aB false)) []) Zc ?_
 have ok0:QbQ 1 (toN 17 λ_=>0):=QeD 1 Zb Zb
 have ok1:QbQ 1 (toN 17 (fL (objR 1 (toN 17 λ_=>0) 1 0 3).1)):=by
  have:=Qjt ok0 1 0 3 rfl
  rw[Qbk (XP this)];exact this
 refine⟨Zd,Zd,Zb,⟨Zb,Zb,Zb⟩,Zb,⟨rfl,ok0⟩,⟨Zb,Zb,Zb⟩,Zb,⟨rfl,ok1⟩,⟨Zb,Zb,Zb,.inl rfl⟩,Zd,Zb,⟨Zb,Zb,Zb⟩,Zb,⟨rfl,ok0⟩,Zd,Zd,(1:Int),rfl,rfl,Zd,λ_ _=>⟨TellS.at 13 0,rfl,rfl,Zd,λ_ _=>?_⟩⟩
 refine QU (λ_=>?_) (λh=>absurd rfl h)
 exact⟨⟨Zb,Zb⟩,(),rfl,rfl,Zd,λ_ _=>⟨(),rfl,rfl,Zd,λ_ _=>⟨TellS.no 7,rfl,rfl,Zd,λ_ _=>⟨Qe Zc,rfl,λρ=>rfl⟩⟩⟩⟩
end
section
section
variable {K:Int}{z:Sh}{g:Gh}{t:Nat}{k key x:Nat->Int}
structure Sds (K:Int) (z:Sh) (g:Gh) (k key x:Nat->Int) (i:Nat) (Z:Sh):Prop where
 f:Fin2 K Z g
 lo:∀u,u<i->(Z.w u).does=3/\Z.m (3+2*u)=1-z.tog u+1/\Z.m (2+2*u)=opW (k u) (key u) (x u)
 hi:∀u,i<=u->u<4->(Z.w u).does=0
 m0:Z.m 0=0
 deeds:Z.deeds=z.deeds
 tog:Z.tog=z.tog
 s:Z.s=z.s
 steps:Z.steps=z.steps+3*(i:Int)
theorem Sds.start (F:Fin2 K z g) (hi:∀u,u<4->(z.w u).does=0):Sds K z g k key x 0 z:=
 ⟨F,λu h=>absurd h (ZQ _),λu _ h=>hi u h,(F.fi.idle4 hi).1,rfl,rfl,rfl,Za⟩
theorem Sds.next {i:Nat}{Z:Sh}(S:Sds K z g k key x i Z) (hi:i<4) (ho:opOk (k i) (key i) (x i)=true) (hs:z.steps<80000000):
 Sds K z g k key x (i+1) ((Z.call i (k i) (key i) (x i)).run i 2)/\(Z.call i (k i) (key i) (x i)).ran i 2=2:=by
 have hst:=S.steps
 obtain⟨Sd,-⟩:=Qrs S.f.f hi (S.hi i (Zq _) hi) ho Za
 have hF1:=Qp4 S.f hi (k i) (key i) (x i)
 have hs1:=(QeR Z i (k i) (key i) (x i)).2
 obtain⟨z1,hz1⟩:∃z1,z1=Z.call i (k i) (key i) (x i):=⟨_,rfl⟩
 rw[<- hz1]at Sd hF1 hs1 ⊢
 refine⟨⟨⟨Sd.f,QfO hi 2 hF1.f hF1.p Za⟩,λu hu=>?_,λu h1 h2=>?_,Sd.m0.trans S.m0,Sd.deeds.trans S.deeds,Sd.tog.trans S.tog,Sd.s.trans S.s,by rw[Sd.steps,hst];omega⟩,?_⟩
 . by_cases e:u=i
   . subst e
     refine⟨Sd.does,?_,Sd.mo⟩
     rw[Sd.ms];show 1-Z.tog u+1=_;rw[S.tog]
   . obtain⟨a,b,c⟩:=S.lo u Za
     exact⟨by rw[Sd.W u e];exact a,by rw[Sd.om (3+2*u) Za Za];exact b,by rw[Sd.om (2+2*u) Za Za];exact c⟩
 . rw[Sd.W u Za];exact S.hi u Za h2
 . have d1:(z1.w i).does≠0:=λe=>by
    have:=(Qc0 i 2 e).1
    have h3:=Sd.does
    rw[this]at h3;omega
   have d2:((z1.step i).w i).does≠0:=λe=>by
    have:=(Qc0 i 1 e).1
    have h3:=Sd.does
    rw[show z1.run i 2=(z1.step i).run i 1 from rfl,this]at h3;omega
   show (if (z1.w i).does=0 then 0 else (if ((z1.step i).w i).does=0 then 0 else 0+1)+1)=2
   rw[Ze d1,Ze d2]
def ask4 (z:Sh) (k key x:Nat->Int):List Ask:=[⟨0,1-z.tog 0,k 0,key 0,x 0⟩,⟨1,1-z.tog 1,k 1,key 1,x 1⟩,⟨2,1-z.tog 2,k 2,key 2,x 2⟩,⟨3,1-z.tog 3,k 3,key 3,x 3⟩]
structure Qsq (K:Int) (t:Nat) (z:Sh) (g:Gh) (k key x:Nat->Int) (V:Sh) (g':Gh):Prop where
 fin:Fin2 K V g'
 idle:(V.w t).does=0
 ver:V.s.now 0=z.s.now 0+1
 len:V.deeds.length=z.deeds.length+4
 dd:∀u,u<4->(V.deeds.getD (z.deeds.length+u) Zav).d.t=u/\(V.deeds.getD (z.deeds.length+u) Zav).d.k=k u/\(V.deeds.getD (z.deeds.length+u) Zav).d.key=key u/\(V.deeds.getD (z.deeds.length+u) Zav).d.x=x u
theorem many {Z:Sh}(F:Fin2 K z g) (hid:∀u,u<4->(z.w u).does=0) (S:Sds K z g k key x 4 Z) (ht:t<4) (ho:∀u,u<4->opOk (k u) (key u) (x u)=true) (hs:z.steps<80000000):
 ∃g',Qsq K t z g k key x (Z.run t 100) g':=by
 have hst:=S.steps
 obtain⟨c,hc⟩:∃c:SoC,c=⟨λu=>Z.m (3+2*u),λu=>Z.m (2+2*u),Z.w,Z.tog,Z.hist,Z.deeds,g.R,g.V⟩:=⟨_,rfl⟩
 have So:Solo t c Z g:=by
  subst hc
  have hd:=(S.lo t ht).1
  exact⟨Za,Za,λ_ _=>rfl,λ_ _=>rfl,λ_=>S.m0,λ_ _=>rfl,rfl,rfl,λ_=>⟨rfl,rfl,rfl⟩,λh=>Za,λh=>Za,λh=>Za,λh=>Za⟩
 have hB:∀u,u<4->askB c.R c.ms u=true:=λu hu=>by
  subst hc
  exact QmO F.f.1 hu (hid u hu) (S.lo u hu).2.1
 have hl:left c (Z.w t)=85:=by
  rw[QrN c (S.lo t ht).1]
  simp only[askN]
  rw[hB 0 Zb,hB (0+1) Zb,hB (0+1+1) Zb,hB (0+1+1+1) Zb];rfl
 have hL:askL c.R c.ms c.mo 4=ask4 z k key x:=by
  have ha:∀u,u<4->Qoz c.ms c.mo u=⟨u,1-z.tog u,k u,key u,x u⟩:=λu hu=>by
   have hb:=Qhn (ho u hu)
   subst hc
   unfold Qoz
   dsimp only
   rw[(S.lo u hu).2.1,(S.lo u hu).2.2,hb.1,hb.2.1,hb.2.2.1,show 1-z.tog u+1-1=1-z.tog u by omega]
  simp only[askL]
  rw[hB 0 Zb,hB 1 Zb,hB 2 Zb,hB 3 Zb,ha 0 Zb,ha 1 Zb,ha 2 Zb,ha 3 Zb];rfl
 obtain⟨g',E,hk⟩:=QjZ ht 85 S.f.f So hl Za
 have eR:c.R=g.R:=by subst hc;rfl
 have eV:c.V=g.V:=by subst hc;rfl
 have eD:c.deeds=z.deeds:=by subst hc;exact S.deeds
 have h100:=(hk 100 Zb).1
 rw[h100]
 have T:∀u,u<4->Qo g.R.tog u=z.tog u:=λu hu=>((F.f.1.th u hu).idle (hid u hu)).1
 have tg:∀u,u<4->z.tog u=0\/z.tog u=1:=λu hu=>(F.f.1.th u hu).tg01
 have hok:AsksOK (ask4 z k key x):=λa ha=>by
  have key1:∀u,u<4->Ask.ok ⟨u,1-z.tog u,k u,key u,x u⟩:=λu hu=>⟨hu,by have:=tg u hu;show 1-z.tog u=0\/1-z.tog u=1;omega,ho u hu⟩
  unfold ask4 at ha
  simp only[ZaV,ZcW,or_false]at ha
  rcases ha with rfl|rfl|rfl|rfl
  . exact key1 0 Zb
  . exact key1 1 Zb
  . exact key1 2 Zb
  . exact key1 3 Zb
 have hop:∀a∈ask4 z k key x,bOpen g.R a=true:=λa ha=>by
  have key1:∀u,u<4->bOpen g.R ⟨u,1-z.tog u,k u,key u,x u⟩=true:=λu hu=>by
   have h2:Qo g.R.tog u≠1-z.tog u:=by rw[T u hu];have:=tg u hu;omega
   simpa [bOpen] using h2
  unfold ask4 at ha
  simp only[ZaV,ZcW,or_false]at ha
  rcases ha with rfl|rfl|rfl|rfl
  . exact key1 0 Zb
  . exact key1 1 Zb
  . exact key1 2 Zb
  . exact key1 3 Zb
 have hA:=Qox F.f.1.gl.sumR.ok hok (by unfold ask4;simp) hop
 have hl4:(bD g.R (ask4 z k key x)).length=4:=hA.1
 have hdeeds:(Z.run t 85).deeds=z.deeds++(bD g.R (ask4 z k key x)).map (Vd.mk (g.V+1)):=by rw[E.deeds,hL,eR,eV,eD]
 refine⟨g',⟨E.fine,QfO ht 85 S.f.f S.f.p Za⟩,E.idle,?_,by rw[hdeeds,Zw,ZO,hl4],λu hu=>?_⟩
 . rw[E.fine.1.gl.now0,E.V,eV,F.f.1.gl.now0]
 . rw[hdeeds,QaH]
   have hu4:u<(bD g.R (ask4 z k key x)).length:=Za
   have e1:((bD g.R (ask4 z k key x)).map (Vd.mk (g.V+1))).getD u Zav=Vd.mk (g.V+1) ((bD g.R (ask4 z k key x)).getD u Yy):=by
    simp[Zp,Z9,Zy hu4]
   rw[e1]
   obtain⟨a,b,c,d⟩:=hA.2 u hu
   show ((bD g.R (ask4 z k key x)).getD u Yy).t=u/\((bD g.R (ask4 z k key x)).getD u Yy).k=k u/\((bD g.R (ask4 z k key x)).getD u Yy).key=key u/\((bD g.R (ask4 z k key x)).getD u Yy).x=x u
   rw[a,b,c,d]
   rcases (show u=0\/u=1\/u=2\/u=3 by omega)with rfl|rfl|rfl|rfl<;>exact⟨rfl,rfl,rfl,rfl⟩
end
end
end Go.Proofs.YtnhoblgmlmodnaaGreatDoor
