/- JudgeMissing: the walk of the law. -/
import Derived.Test.YtlafaaeecnifcaaGreatDoorZJ6
namespace Go.Proofs.YtlafaaeecnifcaaGreatDoor
open Dd renaming nil->ZR
open EvS renaming x->Zaz
open IntKind renaming wrap->Zi
open List renaming length->Zg,get?Internal->Zl,getD_eq_getElem?_getD->Zp
open Nat renaming le_refl->Zq,ble->ZL,le_trans->ZV
open SA renaming c->Zt
open SB renaming cells->Zj,rows->Zk,abs->Yl
open SC renaming so->Zas
open SV renaming o->ZG
open ShS renaming z->Yv
open Go.RowKit
set_option linter.unusedVariables false
set_option maxRecDepth 100000
set_option maxHeartbeats 4000000
theorem more_rows {z z2:Nat->Nat->Int}{l:List Dd}{n:Nat}{a b c d e f:Int}(hn:l.length=n) (h:IsR 6 Dd.at ZR z l) (h2:∀i,i<n->∀j,j<6->z2 i j=z i j):
 IsR 6 Dd.at ZR (λi j=>bif ZL (i+1) n then z2 i j else match Zl (match Zl [[a,b,c,d,e,f]] (0+(i-n))with|some x=>x|none=>[]) j with|some x=>x|none=>0) (l++[⟨a,b,c,d,e,f⟩]):=λi hi j hj=>by
 subst hn
 rcases getD_snoc (d:=ZR) hi with⟨h3,h4⟩|⟨h3,h4⟩
 . rw[h4]
   dsimp only
   rw[show ZL (i+1) l.length=true from Nat.ble_eq_true_of_le h3,cond_true,h2 i h3 j hj]
   exact h i h3 j hj
 . rw[h4,h3]
   dsimp only
   rw[show ZL (l.length+1) l.length=false from by
    cases hb:ZL (l.length+1) l.length
    . rfl
    . exact absurd (Nat.le_of_ble_eq_true hb) Za,cond_false,Nat.sub_self]
   rcases (show j=0\/j=1\/j=2\/j=3\/j=4\/j=5 by omega)with rfl|rfl|rfl|rfl|rfl|rfl<;>rfl
theorem miss_end {h:List Ev}{l:List Dd}{t k key x c v:Int}(ho:hasE (Qe9 t k key x) h=false):(bif fitC (Qg h) (l++[⟨t,k,key,x,c,v⟩])==(0:Int)then false else true)=true:=by
 have:=miss_more (h:=h) (l:=l) (d:=⟨t,k,key,x,c,v⟩) (λj hj hh=>by
  have h1:=hasE_f ho j hj
  unfold Qe9 at h1
  rw[hh.1,hh.2.1,hh.2.2.1,hh.2.2.2.1,hh.2.2.2.2]at h1
  simp at h1)
 rw[beq_eq_false_iff_ne.2 this];rfl
theorem svQ {a b:Bool}(h:a=b):ZG (Zt (SC.v (.bool a)))=ZG (Zt (SC.v (.bool b))):=by rw[h]
def tabLz:Tab:=[(3,.one (.int .i64 0) (.int .i64)),
 (37,.one (.int .u64 0) (.int .u64)),
 (4,.one (.bool false) .bool),
 (28,.one (.pointer none) (.ptr 73)),
 (119,.str [.one (.v (.int .i64 0)),.one (.v (.int .i64 0)),.one (.v (.int .i64 0)),.one (.v (.int .i64 0)),.one (.v (.int .i64 0)),.one (.v (.int .i64 0)),.one (.v (.int .u64 0))] [(0,1,false),(1,1,false),(2,3,true),(5,1,false),(6,1,false)]),
 (22,.one (.slice none 0 0) (.slice 119)),
 (34,.str [.one (.v (.int .i64 0)),.one (.v (.int .i64 0)),.one (.v (.int .i64 0))] [(0,1,false),(1,1,false),(2,1,false)]),
 (24,.str [.one (.v (.int .i64 0)),.one (.v (.int .i64 0))] [(0,1,false),(1,1,false)]),
 (41,.one (.nilIface) .iface),
 (50,.one (.int .i64 0) (.int .i64)),
 (47,.str [.one (.v (.int .i64 0)),.one (.v (.int .i64 0)),.one (.v (.int .i64 0)),.one (.v (.int .i64 0)),.one (.v (.int .i64 0)),.one (.v (.int .i64 0)),.one (.v (.int .i64 0)),.one (.v (.int .i64 0)),.one (.v (.int .i64 0))] [(0,1,false),(1,1,false),(2,3,true),(5,2,true),(7,1,false),(8,1,false)]),
 (45,.one (.slice none 0 0) (.slice 47)),
 (36,.str [.one (.v (.int .i64 0)),.one (.v (.int .i64 0)),.one (.v (.int .i64 0)),.one (.v (.int .i64 0)),.one (.v (.int .i64 0)),.one (.v (.int .i64 0))] [(0,1,false),(1,3,true),(4,2,true)]),
 (30,.one (.slice none 0 0) (.slice 36)),
 (96,.arr [.ints (.int .u64) 32 (λ_=>0)] 32 1 false),
 (82,.str [.one (.v (.int .i64 0)),.one (.v (.int .i64 0))] [(0,1,false),(1,1,false)]),
 (80,.one (.pointer none) (.ptr 82)),
 (39,.arr [.ints (.int .u64) 17 (λ_=>0)] 17 1 false)]
theorem tabLz_ok:TabOk Tryz.prog tabLz:=.cons (⟨Zc,Zc,Zc,Zc,Zc⟩) (.cons (⟨Zc,Zc,Zc,Zc,Zc⟩) (.cons (⟨Zc,Zc,Zc,Zc,Zc⟩) (.cons (⟨Zc,Zc,Zc,Zc,Zc⟩) (.cons (⟨Zc,Zc,Zc,Zc⟩) (.cons (⟨Zc,Zc,Zc,Zc,Zc⟩) (.cons (⟨Zc,Zc,Zc,Zc⟩) (.cons (⟨Zc,Zc,Zc,Zc⟩) (.cons (⟨Zc,Zc,Zc,Zc,Zc⟩) (.cons (⟨Zc,Zc,Zc,Zc,Zc⟩) (.cons (⟨Zc,Zc,Zc,Zc⟩) (.cons (⟨Zc,Zc,Zc,Zc,Zc⟩) (.cons (⟨Zc,Zc,Zc,Zc⟩) (.cons (⟨Zc,Zc,Zc,Zc,Zc⟩) (.cons (⟨Zc,Zc,Zc,Zc⟩) (.cons (⟨Zc,Zc,Zc,Zc⟩) (.cons (⟨Zc,Zc,Zc,Zc,Zc⟩) (.cons (⟨Zc,Zc,Zc,Zc⟩) (TabOk.nil _))))))))))))))))))
theorem tabLz_tys:TysOk Tryz.prog tabLz:=TysOk.of Zc Zc
theorem walk_JudgeMissing (a0:Int) (a1:Option Addr) (len1 cap1:Nat) (z1:Nat->Nat->Int) (x2_0 x2_1 x2_2 x2_3 x2_4 x2_5:Int) (W:World) (hE:ErrType W) (w0:(Lit.int .i64 a0).wf=true) (w1:MvIn W a1 len1 cap1 z1):
 Calls Tryz.prog 4 #[.int .i64 a0,.slice a1 len1 cap1,.agg #[.int .i64 x2_0,.int .i64 x2_1,.int .i64 x2_2,.int .i64 x2_3,.int .i64 x2_4,.int .i64 x2_5]] W λe w'=>e=.returned (.bool true)/\Below W.heap.size W w':=by
 refine QrA (AG:=[]) (Γ:=[(5,.pure QhK),(7,.inl Tryz.f7 (Tryz.f7.body.getD .skip)),(8,.pure Qgd),(9,.inl Tryz.f9 (Tryz.f9.body.getD .skip)),(29,.mem (QjE W)),(6,.pure QcM),(10,.mem ddsC.sh),(14,.mem hisC.sh),(13,.mem Qoj),(13,.mem Qoi),(17,.mem conFtQ),(20,.mem QhS)]) Tryz.func4 rfl tabLz_ok tabLz_tys
  (.cons (shops_con W _) (.cons (⟨Zc,rfl,rfl⟩) (.cons (Qsq W _) (.cons (⟨Zc,rfl,rfl⟩) (.cons (play_con W) (.cons (Qsr W hE) (.cons (ddsH W _) (.cons (hisH W _) (.cons (heL_con W _) (.cons (heO_con W _) (.cons (ftQ_con W _) (.cons (cloD_con W _) (.nil _ _ _)))))))))))))
  [.c (.v (.int .i64 a0)),.c (.r a1 len1 cap1 len1 7 mvK z1),.a [.one (.v (.int .i64 x2_0)),.one (.v (.int .i64 x2_1)),.one (.v (.int .i64 x2_2)),.one (.v (.int .i64 x2_3)),.one (.v (.int .i64 x2_4)),.one (.v (.int .i64 x2_5))]] (.bool true) 1200 rfl ?_ rfl
 refine Qk (q:=True/\True/\bif bif decide ((↑len1:Int)<=(120:Int))then false else true then ZG (aB true)=ZG (aB true)else True/\∃(s:PlS),[aI ((1:Int)+Qhg a0 (6:Int)),Zt (.r a1 len1 cap1 len1 7 (λ(j:Nat)=>bif Nat.beq j 6 then .u64 else .i64) z1)]=[aI s.1,Zt (.r s.2 s.3 s.4 s.3 7 (λ(j:Nat)=>bif Nat.beq j 6 then .u64 else .i64) s.5)]/\eN/\(((1:Int)<=s.1/\s.1<=(6:Int))/\s.3<=3000/\Rws 7 mvK W (PlS.a s) (PlS.n s) s.4 s.5/\∀(i:Nat),i<s.3->U64 (s.5 i 6))/\∀(x:List Nat),True->∃(s_1:Sh × Unit × List Nat),[aP 1 0]=[aP 1 0]/\[Yl (QD shM Yv ShS.good (XJ s.1 (mvL s.5 s.3))) x]=[Yl (QD shM Yv ShS.good s_1.1) s_1.2.2]/\Zg s_1.1.6<=1000000000/\∀(x:List Nat × RwR),(Zg s_1.1.6<=x.2.1/\x.2.1<=x.2.2)/\IsE x.2.4 s_1.1.6->∃(s:Sh × Unit × List Nat),[aP 1 0]=[aP 1 0]/\[Yl (QD shM Yv ShS.good s_1.1) x.1]=[Yl (QD shM Yv ShS.good s.1) s.2.2]/\Zg s.1.7<=1000000000/\∀(x_1:List Nat × RwR),(Zg s.1.7<=x_1.2.1/\x_1.2.1<=x_1.2.2)/\IsR 6 Dd.at ZR x_1.2.4 (List.map (λ(self:Vd)=>self.2) s.1.7)->∃(s_2:EvS DvS),[Zt (.so 2 0 9 (Zg s_1.1.6) x.2.2 x.2.3),Zt (.fn 18 [(4,0)])]=[Zt (.so 2 0 9 (Zg s_2.1) s_2.3 s_2.4),Zt (.fn 18 [(4,0)])]/\[Zk 47 kI9 9 x.2.1 x.2.2 x.2.4,Zj [sS 3 0 6 (Zg s.1.7) x_1.2.2 x_1.2.3] 30,Zk 36 kI6 6 x_1.2.1 x_1.2.2 x_1.2.4]=[Zk 47 kI9 9 s_2.2 s_2.3 s_2.5,Zj [sS 3 0 6 (Zaz s_2).1 (Zaz s_2).3 (Zaz s_2).4] 30,Zk 36 kI6 6 (Zaz s_2).2 (Zaz s_2).3 (Zaz s_2).5]/\((Zg s_2.1<=1000000000/\(Zg s_2.1<=s_2.2/\s_2.2<=s_2.3)/\IsE s_2.5 s_2.1)/\(Zaz s_2).1<=1000000000/\(Zaz s_2).1<=(Zaz s_2).3)/\∀(x_2:Unit),True->(Zaz s_2).1<=(Zaz s_2).3/\bif decide ((↑(Zaz s_2).1:Int)>(0:Int))then bif hasE (Qby (↑(Zaz s_2).1:Int)) s_2.1 then (Zaz s_2).1<=(Zaz s_2).3/\((0:Int)<=Zi .i64 ((↑(Zaz s_2).1:Int)-(1:Int))/\Zi .i64 ((↑(Zaz s_2).1:Int)-(1:Int))<=(↑(Zaz s_2).3:Int))/\∃(s:FtS),[Zt (.so 2 0 9 (Zg s_1.1.6) x.2.2 x.2.3),Zt (.so 3 0 6 (Int.toNat (Zi .i64 ((↑(Zaz s_2).1:Int)-(1:Int)))) (Zaz s_2).3 (Zaz s_2).4)]=[Zt (.so 2 0 9 (Zg s.1) s.3 s.4),Zt (.so 3 0 6 (Zg s.6) s.8 s.9)]/\[Zk 47 kI9 9 s_2.2 s_2.3 s_2.5,Zk 36 kI6 6 (Zaz s_2).2 (Zaz s_2).3 (Zaz s_2).5]=[Zk 47 kI9 9 s.2 s.3 s.5,Zk 36 kI6 6 s.7 s.8 s.10]/\(WfH s.1/\(Zg s.1<=1000000000/\(Zg s.1<=s.2/\s.2<=s.3)/\IsE s.5 s.1)/\Zg s.6<=10000000/\(Zg s.6<=s.7/\s.7<=s.8)/\IsR 6 Dd.at ZR s.10 s.6)/\∀(x_3:Unit),True->bif bif bif fitC (Qg s.1) s.6==(0:Int)then false else true then false else true then ZG (aB false)=ZG (aB true)else ∃(s_3:EvS (Nat->Int)),[Zt (.so 2 0 9 (Zg s_1.1.6) x.2.2 x.2.3),Zt (.fn 19 [(0,0)])]=[Zt (.so 2 0 9 (Zg s_3.1) s_3.3 s_3.4),Zt (.fn 19 [(0,0)])]/\[Zk 47 kI9 9 s.2 s.3 s.5,Zj [sI x2_0,sI x2_1,sI x2_2,sI x2_3,sI x2_4,sI x2_5] 36]=[Zk 47 kI9 9 s_3.2 s_3.3 s_3.5,Zj [sI (s_3.6 0),sI (s_3.6 1),sI (s_3.6 2),sI (s_3.6 3),sI (s_3.6 4),sI (s_3.6 5)] 36]/\((Zg s_3.1<=1000000000/\(Zg s_3.1<=s_3.2/\s_3.2<=s_3.3)/\IsE s_3.5 s_3.1)/\True)/\∀(x_4:Unit),True->bif hasE (Qe9 (s_3.6 0) (s_3.6 1) (s_3.6 2) (s_3.6 3)) s_3.1 then dP Tryz.f4 13 5 [xE 11,xE 10,xE 9,xE 8,xE 7,xE 4,xE 6,xE 5,xE 3,xE 2,xE 1,xE 0]/\ZG (aB true)=ZG (aB true)else dP Tryz.f4 13 5 [⟨4,[],[3,6],[],true⟩,⟨6,[],[5],[5],false⟩,xR 5 0,⟨3,[4],[],[3],false⟩,xF 2 2,xE 1,xE 0]/\∃(s_4:CdS),[Zt (.so 3 0 6 (Zaz s_2).1 (Zaz s_2).3 (Zaz s_2).4)]=[Zt (.so 3 0 6 s_4.1 s_4.3 s_4.4)]/\[Zk 36 kI6 6 s.7 s.8 s.10]=[Zk 36 kI6 6 s_4.2 s_4.3 s_4.5]/\(s_4.1<=10000000/\s_4.1<=s_4.2/\s_4.2<=s_4.3)/\∀(x_5:CdR),((s_4.1<=x_5.1/\x_5.1<=x_5.2)/\∀(i:Nat),i<s_4.1->∀(j:Nat),j<6->x_5.4 i j=s_4.5 i j)->dP Tryz.f4 13 5 [⟨7,[5],[6,7],[],true⟩,⟨4,[],[3,6],[6],true⟩,⟨6,[],[5],[5],false⟩,xR 5 0,⟨3,[4],[],[3],false⟩,xF 2 2,xE 1,xE 0]/\((s_4.1<=x_5.1/\x_5.2=x_5.2)/\(1<=1/\1=1)/\s_4.1+1<=68719476736)/\∀(c:Nat),s_4.1+1<=c->∃(s:FtS),[Zt (.so 2 0 9 (Zg s_1.1.6) x.2.2 x.2.3),Zt (.so 7 0 6 (s_4.1+1) c x_5.3)]=[Zt (.so 2 0 9 (Zg s.1) s.3 s.4),Zt (.so 7 0 6 (Zg s.6) s.8 s.9)]/\[Zk 47 kI9 9 s_3.2 s_3.3 s_3.5,Zk 36 kI6 6 (s_4.1+1) c λ(i j:Nat)=>bif ZL (i+1) s_4.1 then x_5.4 i j else match Zl (match Zl [[s_3.6 0,s_3.6 1,s_3.6 2,s_3.6 3,s_3.6 4,s_3.6 5]] (0+(i-s_4.1))with|some x=>x|none=>[]) j with|some x=>x|none=>(0:Int)]=[Zk 47 kI9 9 s.2 s.3 s.5,Zk 36 kI6 6 s.7 s.8 s.10]/\(WfH s.1/\(Zg s.1<=1000000000/\(Zg s.1<=s.2/\s.2<=s.3)/\IsE s.5 s.1)/\Zg s.6<=10000000/\(Zg s.6<=s.7/\s.7<=s.8)/\IsR 6 Dd.at ZR s.10 s.6)/\∀(x:Unit),True->dP Tryz.f4 13 5 [xE 11,xE 10,xE 9,⟨8,[],[2,7],[],false⟩,⟨7,[5],[6,7],[7],true⟩,⟨4,[],[3,6],[6],true⟩,⟨6,[],[5],[5],false⟩,xR 5 0,⟨3,[4],[],[3],false⟩,xF 2 2,xE 1,xE 0]/\ZG (aB (bif fitC (Qg s.1) s.6==(0:Int)then false else true))=ZG (aB true)else ∃(s:EvS (Nat->Int)),[Zt (.so 2 0 9 (Zg s_1.1.6) x.2.2 x.2.3),Zt (.fn 19 [(0,0)])]=[Zt (.so 2 0 9 (Zg s.1) s.3 s.4),Zt (.fn 19 [(0,0)])]/\[Zk 47 kI9 9 s_2.2 s_2.3 s_2.5,Zj [sI x2_0,sI x2_1,sI x2_2,sI x2_3,sI x2_4,sI x2_5] 36]=[Zk 47 kI9 9 s.2 s.3 s.5,Zj [sI (s.6 0),sI (s.6 1),sI (s.6 2),sI (s.6 3),sI (s.6 4),sI (s.6 5)] 36]/\((Zg s.1<=1000000000/\(Zg s.1<=s.2/\s.2<=s.3)/\IsE s.5 s.1)/\True)/\∀(x_3:Unit),True->bif hasE (Qe9 (s.6 0) (s.6 1) (s.6 2) (s.6 3)) s.1 then dP Tryz.f4 13 5 [xE 11,xE 10,xE 9,xE 8,xE 7,xE 4,xE 6,xE 5,xE 3,xE 2,xE 1,xE 0]/\ZG (aB true)=ZG (aB true)else dP Tryz.f4 13 5 [⟨4,[],[3,6],[],true⟩,⟨6,[],[5],[5],false⟩,xR 5 0,⟨3,[4],[],[3],false⟩,xF 2 2,xE 1,xE 0]/\∃(s_3:CdS),[Zt (.so 3 0 6 (Zaz s_2).1 (Zaz s_2).3 (Zaz s_2).4)]=[Zt (.so 3 0 6 s_3.1 s_3.3 s_3.4)]/\[Zk 36 kI6 6 (Zaz s_2).2 (Zaz s_2).3 (Zaz s_2).5]=[Zk 36 kI6 6 s_3.2 s_3.3 s_3.5]/\(s_3.1<=10000000/\s_3.1<=s_3.2/\s_3.2<=s_3.3)/\∀(x_4:CdR),((s_3.1<=x_4.1/\x_4.1<=x_4.2)/\∀(i:Nat),i<s_3.1->∀(j:Nat),j<6->x_4.4 i j=s_3.5 i j)->dP Tryz.f4 13 5 [⟨7,[5],[6,7],[],true⟩,⟨4,[],[3,6],[6],true⟩,⟨6,[],[5],[5],false⟩,xR 5 0,⟨3,[4],[],[3],false⟩,xF 2 2,xE 1,xE 0]/\((s_3.1<=x_4.1/\x_4.2=x_4.2)/\(1<=1/\1=1)/\s_3.1+1<=68719476736)/\∀(c:Nat),s_3.1+1<=c->∃(s_4:FtS),[Zt (.so 2 0 9 (Zg s_1.1.6) x.2.2 x.2.3),Zt (.so 7 0 6 (s_3.1+1) c x_4.3)]=[Zt (.so 2 0 9 (Zg s_4.1) s_4.3 s_4.4),Zt (.so 7 0 6 (Zg s_4.6) s_4.8 s_4.9)]/\[Zk 47 kI9 9 s.2 s.3 s.5,Zk 36 kI6 6 (s_3.1+1) c λ(i j:Nat)=>bif ZL (i+1) s_3.1 then x_4.4 i j else match Zl (match Zl [[s.6 0,s.6 1,s.6 2,s.6 3,s.6 4,s.6 5]] (0+(i-s_3.1))with|some x=>x|none=>[]) j with|some x=>x|none=>(0:Int)]=[Zk 47 kI9 9 s_4.2 s_4.3 s_4.5,Zk 36 kI6 6 s_4.7 s_4.8 s_4.10]/\(WfH s_4.1/\(Zg s_4.1<=1000000000/\(Zg s_4.1<=s_4.2/\s_4.2<=s_4.3)/\IsE s_4.5 s_4.1)/\Zg s_4.6<=10000000/\(Zg s_4.6<=s_4.7/\s_4.7<=s_4.8)/\IsR 6 Dd.at ZR s_4.10 s_4.6)/\∀(x:Unit),True->dP Tryz.f4 13 5 [xE 11,xE 10,xE 9,⟨8,[],[2,7],[],false⟩,⟨7,[5],[6,7],[7],true⟩,⟨4,[],[3,6],[6],true⟩,⟨6,[],[5],[5],false⟩,xR 5 0,⟨3,[4],[],[3],false⟩,xF 2 2,xE 1,xE 0]/\ZG (aB (bif fitC (Qg s_4.1) s_4.6==(0:Int)then false else true))=ZG (aB true)else ∃(s:EvS (Nat->Int)),[Zt (.so 2 0 9 (Zg s_1.1.6) x.2.2 x.2.3),Zt (.fn 19 [(0,0)])]=[Zt (.so 2 0 9 (Zg s.1) s.3 s.4),Zt (.fn 19 [(0,0)])]/\[Zk 47 kI9 9 s_2.2 s_2.3 s_2.5,Zj [sI x2_0,sI x2_1,sI x2_2,sI x2_3,sI x2_4,sI x2_5] 36]=[Zk 47 kI9 9 s.2 s.3 s.5,Zj [sI (s.6 0),sI (s.6 1),sI (s.6 2),sI (s.6 3),sI (s.6 4),sI (s.6 5)] 36]/\((Zg s.1<=1000000000/\(Zg s.1<=s.2/\s.2<=s.3)/\IsE s.5 s.1)/\True)/\∀(x_3:Unit),True->bif hasE (Qe9 (s.6 0) (s.6 1) (s.6 2) (s.6 3)) s.1 then dP Tryz.f4 13 5 [xE 11,xE 10,xE 9,xE 8,xE 7,xE 4,xE 6,xE 5,xE 3,xE 2,xE 1,xE 0]/\ZG (aB true)=ZG (aB true)else dP Tryz.f4 13 5 [⟨4,[],[3,6],[],true⟩,⟨6,[],[5],[5],false⟩,xR 5 0,⟨3,[4],[],[3],false⟩,xF 2 2,xE 1,xE 0]/\∃(s_3:CdS),[Zt (.so 3 0 6 (Zaz s_2).1 (Zaz s_2).3 (Zaz s_2).4)]=[Zt (.so 3 0 6 s_3.1 s_3.3 s_3.4)]/\[Zk 36 kI6 6 (Zaz s_2).2 (Zaz s_2).3 (Zaz s_2).5]=[Zk 36 kI6 6 s_3.2 s_3.3 s_3.5]/\(s_3.1<=10000000/\s_3.1<=s_3.2/\s_3.2<=s_3.3)/\∀(x_4:CdR),((s_3.1<=x_4.1/\x_4.1<=x_4.2)/\∀(i:Nat),i<s_3.1->∀(j:Nat),j<6->x_4.4 i j=s_3.5 i j)->dP Tryz.f4 13 5 [⟨7,[5],[6,7],[],true⟩,⟨4,[],[3,6],[6],true⟩,⟨6,[],[5],[5],false⟩,xR 5 0,⟨3,[4],[],[3],false⟩,xF 2 2,xE 1,xE 0]/\((s_3.1<=x_4.1/\x_4.2=x_4.2)/\(1<=1/\1=1)/\s_3.1+1<=68719476736)/\∀(c:Nat),s_3.1+1<=c->∃(s_4:FtS),[Zt (.so 2 0 9 (Zg s_1.1.6) x.2.2 x.2.3),Zt (.so 7 0 6 (s_3.1+1) c x_4.3)]=[Zt (.so 2 0 9 (Zg s_4.1) s_4.3 s_4.4),Zt (.so 7 0 6 (Zg s_4.6) s_4.8 s_4.9)]/\[Zk 47 kI9 9 s.2 s.3 s.5,Zk 36 kI6 6 (s_3.1+1) c λ(i j:Nat)=>bif ZL (i+1) s_3.1 then x_4.4 i j else match Zl (match Zl [[s.6 0,s.6 1,s.6 2,s.6 3,s.6 4,s.6 5]] (0+(i-s_3.1))with|some x=>x|none=>[]) j with|some x=>x|none=>(0:Int)]=[Zk 47 kI9 9 s_4.2 s_4.3 s_4.5,Zk 36 kI6 6 s_4.7 s_4.8 s_4.10]/\(WfH s_4.1/\(Zg s_4.1<=1000000000/\(Zg s_4.1<=s_4.2/\s_4.2<=s_4.3)/\IsE s_4.5 s_4.1)/\Zg s_4.6<=10000000/\(Zg s_4.6<=s_4.7/\s_4.7<=s_4.8)/\IsR 6 Dd.at ZR s_4.10 s_4.6)/\∀(x:Unit),True->dP Tryz.f4 13 5 [xE 11,xE 10,xE 9,⟨8,[],[2,7],[],false⟩,⟨7,[5],[6,7],[7],true⟩,⟨4,[],[3,6],[6],true⟩,⟨6,[],[5],[5],false⟩,xR 5 0,⟨3,[4],[],[3],false⟩,xF 2 2,xE 1,xE 0]/\ZG (aB (bif fitC (Qg s_4.1) s_4.6==(0:Int)then false else true))=ZG (aB true)) Zc ?_
 have k1:1<=1+Qhg a0 6:=by have:=QeX a0 6 Zb;omega
 have k6:1+Qhg a0 6<=6:=by have:=Qj8 a0 6 Zb;omega
 generalize 1+Qhg a0 6=K at k1 k6 ⊢
 refine⟨Zd,Zd,QjJ (λ_=>rfl) (λhh=>⟨Zd,⟨K,a1,len1,cap1,z1⟩,rfl,rfl,⟨⟨k1,k6⟩,(by show len1<=3000;omega),w1.1,w1.2⟩,λx _=>?_⟩)⟩
 obtain⟨g,F2,hs⟩:=QnV k1 k6 len1 (mvL z1 len1) (QrF z1 len1) Za
 have hs2:(XJ K (mvL z1 len1)).steps<=120000:=Za
 have F:=F2.fi
 have hL:=F.lens Za
 have hT:=F.steps0
 have hI:=F.i
 have hW:=QoZ k1 k6 len1 (mvL z1 len1) (QrF z1 len1) Za
 generalize XJ K (mvL z1 len1)=Z at *
 have hml:(Z.deeds.map Vd.d).length=Z.deeds.length:=List.length_map _
 have hal:(Z.deeds.map Vd.d++[(⟨x2_0,x2_1,x2_2,x2_3,x2_4,x2_5⟩:Dd)]).length=Z.deeds.length+1:=by rw[List.length_append,hml];rfl
 have hcb:=F2.f.1.gl.cb
 have hlen:Z.deeds.length<=9000000:=Za
 refine⟨(Z,(),x),rfl,rfl,hL.1,λy hy=>⟨(Z,(),y.1),rfl,rfl,hL.2,λy2 hy2=>⟨⟨Z.hist,y.2.m,y.2.c,y.2.nn,y.2.z,⟨Z.deeds.length,y2.2.m,y2.2.c,y2.2.nn,y2.2.z⟩⟩,rfl,rfl,⟨⟨hL.1,hy.1,hy.2⟩,hL.2,ZV hy2.1.1 hy2.1.2⟩,λ_ _=>⟨ZV hy2.1.1 hy2.1.2,?_⟩⟩⟩⟩
 dsimp only
 have hy1:Z.hist.length<=y.2.m/\y.2.m<=y.2.c:=hy.1
 have hy3:Z.deeds.length<=y2.2.m/\y2.2.m<=y2.2.c:=hy2.1
 have hlen:Z.deeds.length<=10000000:=Za
 refine Qo (λh0=>QL (λhl=>?_) (λhl=>?_)) (λh0=>?_)
 . have hm:fitC (Qg Z.hist) ((Z.deeds.map Vd.d).take (Z.deeds.length-1))≠0:=by
    obtain⟨j,hj,hp⟩:=hasE_t hl
    have hp:((Z.hist.getD j Ev.nil).kind==2&&(Z.hist.getD j Ev.nil).whn==(Z.deeds.length:Int))=true:=hp
    rw[Bool.and_eq_true,beq_iff_eq,beq_iff_eq]at hp
    exact miss_last hW Za hj hp.1 hp.2
   have hw:Zi .i64 ((Z.deeds.length:Int)-1)=((Z.deeds.length-1:Nat):Int):=by rw[Qx Za Za];omega
   have htl:((Z.deeds.map Vd.d).take (Z.deeds.length-1)).length=Z.deeds.length-1:=by rw[List.length_take,hml];omega
   rw[hw,Int.toNat_natCast]
   refine⟨Za,⟨Za,Za⟩,⟨Z.hist,y.2.m,y.2.c,y.2.nn,y.2.z,(Z.deeds.map Vd.d).take (Z.deeds.length-1),y2.2.m,y2.2.c,y2.2.nn,y2.2.z⟩,congrArg (λq=>[Zt (Zas 2 0 9 Z.hist.length y.2.c y.2.nn),Zt (Zas 3 0 6 q y2.2.c y2.2.nn)]) htl.symm,rfl,⟨hW,⟨hL.1,hy.1,hy.2⟩,(by show Zg _<=_;rw[htl];omega),(by show Zg _<=_/\_;rw[htl];exact⟨ZV (Nat.sub_le _ _) hy3.1,hy3.2⟩),λi hi j hj=>?_⟩,λ_ _=>Xn (λhz=>?_) (λ_=>?_)⟩
   . have hi:i<((Z.deeds.map Vd.d).take (Z.deeds.length-1)).length:=hi
     rw[htl]at hi
     show y2.2.z i j=_
     rw[hy2.2 i (Nat.lt_of_lt_of_eq (show i<Z.deeds.length by omega) hml.symm) j hj]
     congr 1
     rw[Zp,Zp,List.getElem?_take,Zf hi]
   . dsimp only at hz
     rw[beq_eq_false_iff_ne.2 hm]at hz;cases hz
   . exact⟨⟨Z.hist,y.2.m,y.2.c,y.2.nn,y.2.z,λi=>[x2_0,x2_1,x2_2,x2_3,x2_4,x2_5].getD i 0⟩,rfl,rfl,⟨⟨hL.1,hy.1,hy.2⟩,Zd⟩,λ_ _=>QL (λ_=>⟨Qd Zc,rfl⟩) (λho=>⟨Qd Zc,⟨Z.deeds.length,y2.2.m,y2.2.c,y2.2.nn,y2.2.z⟩,rfl,rfl,⟨hlen,hy2.1⟩,λr hr=>⟨Qd Zc,⟨⟨hr.1.1,rfl⟩,⟨Zq _,rfl⟩,(by show Z.deeds.length+1<=_;omega)⟩,λc hc=>⟨⟨Z.hist,y.2.m,y.2.c,y.2.nn,y.2.z,Z.deeds.map Vd.d++[(⟨x2_0,x2_1,x2_2,x2_3,x2_4,x2_5⟩:Dd)],Z.deeds.length+1,c,r.nn,_⟩,congrArg (λq=>[Zt (Zas 2 0 9 Z.hist.length y.2.c y.2.nn),Zt (Zas 7 0 6 q c r.nn)]) hal.symm,rfl,⟨hW,⟨hL.1,hy.1,hy.2⟩,(by show Zg _<=_;rw[hal];omega),(by show Zg _<=_/\_;rw[hal];exact⟨Zq _,hc⟩),more_rows (a:=x2_0) (b:=x2_1) (c:=x2_2) (d:=x2_3) (e:=x2_4) (f:=x2_5) hml hy2.2 hr.2⟩,λ_ _=>⟨Qd Zc,svQ (miss_end ho)⟩⟩⟩⟩)⟩
 . exact⟨⟨Z.hist,y.2.m,y.2.c,y.2.nn,y.2.z,λi=>[x2_0,x2_1,x2_2,x2_3,x2_4,x2_5].getD i 0⟩,rfl,rfl,⟨⟨hL.1,hy.1,hy.2⟩,Zd⟩,λ_ _=>QL (λ_=>⟨Qd Zc,rfl⟩) (λho=>⟨Qd Zc,⟨Z.deeds.length,y2.2.m,y2.2.c,y2.2.nn,y2.2.z⟩,rfl,rfl,⟨hlen,hy2.1⟩,λr hr=>⟨Qd Zc,⟨⟨hr.1.1,rfl⟩,⟨Zq _,rfl⟩,(by show Z.deeds.length+1<=_;omega)⟩,λc hc=>⟨⟨Z.hist,y.2.m,y.2.c,y.2.nn,y.2.z,Z.deeds.map Vd.d++[(⟨x2_0,x2_1,x2_2,x2_3,x2_4,x2_5⟩:Dd)],Z.deeds.length+1,c,r.nn,_⟩,congrArg (λq=>[Zt (Zas 2 0 9 Z.hist.length y.2.c y.2.nn),Zt (Zas 7 0 6 q c r.nn)]) hal.symm,rfl,⟨hW,⟨hL.1,hy.1,hy.2⟩,(by show Zg _<=_;rw[hal];omega),(by show Zg _<=_/\_;rw[hal];exact⟨Zq _,hc⟩),more_rows (a:=x2_0) (b:=x2_1) (c:=x2_2) (d:=x2_3) (e:=x2_4) (f:=x2_5) hml hy2.2 hr.2⟩,λ_ _=>⟨Qd Zc,svQ (miss_end ho)⟩⟩⟩⟩)⟩
 . exact⟨⟨Z.hist,y.2.m,y.2.c,y.2.nn,y.2.z,λi=>[x2_0,x2_1,x2_2,x2_3,x2_4,x2_5].getD i 0⟩,rfl,rfl,⟨⟨hL.1,hy.1,hy.2⟩,Zd⟩,λ_ _=>QL (λ_=>⟨Qd Zc,rfl⟩) (λho=>⟨Qd Zc,⟨Z.deeds.length,y2.2.m,y2.2.c,y2.2.nn,y2.2.z⟩,rfl,rfl,⟨hlen,hy2.1⟩,λr hr=>⟨Qd Zc,⟨⟨hr.1.1,rfl⟩,⟨Zq _,rfl⟩,(by show Z.deeds.length+1<=_;omega)⟩,λc hc=>⟨⟨Z.hist,y.2.m,y.2.c,y.2.nn,y.2.z,Z.deeds.map Vd.d++[(⟨x2_0,x2_1,x2_2,x2_3,x2_4,x2_5⟩:Dd)],Z.deeds.length+1,c,r.nn,_⟩,congrArg (λq=>[Zt (Zas 2 0 9 Z.hist.length y.2.c y.2.nn),Zt (Zas 7 0 6 q c r.nn)]) hal.symm,rfl,⟨hW,⟨hL.1,hy.1,hy.2⟩,(by show Zg _<=_;rw[hal];omega),(by show Zg _<=_/\_;rw[hal];exact⟨Zq _,hc⟩),more_rows (a:=x2_0) (b:=x2_1) (c:=x2_2) (d:=x2_3) (e:=x2_4) (f:=x2_5) hml hy2.2 hr.2⟩,λ_ _=>⟨Qd Zc,svQ (miss_end ho)⟩⟩⟩⟩)⟩
end Go.Proofs.YtlafaaeecnifcaaGreatDoor
