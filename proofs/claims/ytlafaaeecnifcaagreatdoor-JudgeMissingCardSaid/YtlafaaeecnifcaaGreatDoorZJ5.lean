/- What the proof leans on, gathered. -/
import Derived.Test.YtlafaaeecnifcaaGreatDoorRows
import Derived.WalkKit
import Derived.Test.YtlafaaeecnifcaaGreatDoorProg
import Derived.ChangeVars
import Derived.JoinedOf
import Derived.RowKit
import Derived.LaidLaws
import Derived.LaidHandle
import Derived.Stop.Joined
import Derived.Deep.Slices
import Derived.Deep.Fields
import Derived.ChangeSame
import Derived.ProofKit
import Derived.Test.YtlafaaeecnifcaaGreatDoorZJ4
namespace Go.Proofs.YtlafaaeecnifcaaGreatDoor
open Addr renaming add->Zce
open Bool renaming and_eq_true->Zr,and_false->ZaI
open Classical renaming choose_spec->Zbr
open Con renaming mem->ZH
open DataW renaming trod->Y9,Trod->ZbV,trod_struct->Zb5
open Dd renaming nil->ZR
open Ending renaming returned->ZaN
open Ev renaming nil->YU
open Go.Deep renaming add_add->Zeh
open Int renaming toNat->Zh,toNat_natCast->Zv,le_refl->ZQ,eq_ofNat_of_zero_le->Z6,le_trans->ZaR
open IntKind renaming wrap->Zi
open List renaming length->Zg,get?Internal->Zl,getD_eq_getElem?_getD->Zp,length_append->Zw,getElem?_eq_getElem->Zy,mem_cons_self->ZC,mem_cons_of_mem->ZF,length_map->ZN,getElem?_take->ZO,length_take->ZW,take->ZY,mem_append_right->Z0,range->Z2,mem_append_left->Yc,length_singleton->Yd,length_cons->Yf,map_congr_left->Yr,take_length->Yt,pairwise_singleton->YB,map->YN,map_append->YW,getElem_mem->ZaB,drop->ZaC,dropLast_concat_getLast->ZaP,take_add_one->Za5,reverse_append->Zcn,foldl_append->ZdR
open List.Pairwise renaming nil->Zal
open List.cons renaming injEq->Zaa
open Lit renaming int->YS
open Nat renaming le_refl->Zq,zero_add->Zu,beq->ZE,ble->ZL,not_lt_zero->ZP,le_trans->ZV,zero_le->Z9,sub_self->Ye,succ->Yg,ble_eq_true_of_le->Ys,add_zero->Yu,min_eq_left->YM,add_assoc->Zab,lt_of_lt_of_le->Zbe,ne_of_lt->ZbH
open Option renaming toList_some->Zcz
open Option.some renaming inj->YP
open PUnit renaming unit->Zay
open Qb renaming s->ZI
open Rec renaming words->Zai,new->Zaw
open SA renaming c->Zt,a->Zz,den->Y2
open SB renaming cells->Zj,rows->Zk,gone->ZB,abs->Yl,mf->ZcT
open SC renaming v->ZbP
open SV renaming o->ZG,t->ZS,ren->ZbL
open Seg renaming one->Yp
open Sh renaming w->ZX,s->ZaO,new->Za9,stepped->ZbU,evict->Zcw,call->Zc1,step->ZdP
open ShS renaming z->Yv,mk->Y3
open Sto renaming crash->Yw,new->ZcJ,evict->Zdo
open Value renaming int->ZA,nilIface->ZM,cells->Zad,okWide->ZdT
open Vd renaming nil->ZaA,mk->Zd7
open Wk renaming next->Y1
open WkS renaming w->Zs
open World renaming cells?_some->ZdS,cell?_spot->Zd2
open _root_.Array renaming toArray_toList->Zbw
set_option linter.unusedVariables false
set_option maxRecDepth 100000
set_option maxHeartbeats 8000000
section
open Go.RowKit
theorem Qrn {ρ:Nat->Nat}{i:Nat}{a b:Sto}(h1:∀j,j<72->a.now j=b.now j) (h2:∀j,j<72->a.good j=b.good j) (h3:∀j,j<36->a.want j=b.want j) (h4:a.fl=b.fl) (h5:a.fe=b.fe):denB ρ i (stoB a)=denB ρ i (stoB b):=by
 have e1:(Z2 72).map (λi=>mkV (.int .u64) (a.now i))=(Z2 72).map (λi=>mkV (.int .u64) (b.now i)):=Yr λj hj=>by rw[h1 j (List.mem_range.1 hj)]
 have e2:(Z2 72).map (λi=>mkV (.int .u64) (a.good i))=(Z2 72).map (λi=>mkV (.int .u64) (b.good i)):=Yr λj hj=>by rw[h2 j (List.mem_range.1 hj)]
 have e3:(Z2 36).map (λi=>mkV .bool (a.want i))=(Z2 36).map (λi=>mkV .bool (b.want i)):=Yr λj hj=>by rw[h3 j (List.mem_range.1 hj)]
 simp only[denB,Qh,Seg.den]
 rw[e1,e2,e3,h4,h5]
structure QbK where
 s:Sto
 l:Int
def crTo (s:QbK) (n:Nat):Sto:={ s.s with now:=λj=>bif decide (j/8<n)then Qu s.l s.s j else s.s.now j,good:=λj=>bif decide (j/8<n)then Qu s.l s.s j else s.s.good j }
theorem Qoe (s:QbK):crTo s 0=s.s:=by
 unfold crTo
 have e (j:Nat):decide (j/8<0)=false:=decide_eq_false (ZP _)
 simp only[e,cond_false]
def lnB (i j:Nat):Bool:=ZL (8*i) j&&ZL j (8*i+1+1+1+1+1+1+1)
theorem lnB_d (i j:Nat):lnB i j=decide (j/8=i):=by
 unfold lnB
 rw[Ql8,Ql8,<- Bool.decide_and,decide_eq_decide];omega
theorem Qhq {f g:Nat->Int}{i j:Nat}:(bif lnB i j then f (8*i+(j-8*i))else g j)=(bif decide (j/8=i)then f j else g j):=by
 rw[lnB_d]
 by_cases e:j/8=i
 . rw[decide_eq_true e,show 8*i+(j-8*i)=j by omega]
 . rw[decide_eq_false e];rfl
theorem Qhp (i j:Nat):decide (j/8<i+1)=(decide (j/8=i)||decide (j/8<i)):=by
 rw[<- Bool.decide_or,decide_eq_decide];omega
theorem Qp9 (s:QbK) {i:Nat}(hi:i<9) (hb:s.l/2^i%2=1) (j:Nat):(bif decide (j/8=i)then (crTo s i).now j else (crTo s i).good j)=(crTo s (i+1)).good j:=by
 unfold crTo
 dsimp only
 rw[Qhp]
 by_cases e:j/8=i
 . rw[decide_eq_true e,decide_eq_false (show ¬j/8<i by omega)]
   show s.s.now j=Qu s.l s.s j
   unfold Qu
   rw[decide_eq_true (show j<72 by omega),e,decide_eq_true hb];rfl
 . rw[decide_eq_false e];rfl
theorem QrY (s:QbK) {i:Nat}(hi:i<9) (hb:s.l/2^i%2=1) (j:Nat):(bif decide (j/8=i)then (crTo s (i+1)).good j else (crTo s i).now j)=(crTo s (i+1)).now j:=by
 unfold crTo
 dsimp only
 rw[Qhp]
 by_cases e:j/8=i
 . rw[decide_eq_true e];rfl
 . rw[decide_eq_false e];rfl
theorem QrZ (s:QbK) {i:Nat}(hi:i<9) (hb:s.l/2^i%2≠1) (j:Nat):(bif decide (j/8=i)then (crTo s i).good j else (crTo s i).now j)=(crTo s (i+1)).now j:=by
 unfold crTo
 dsimp only
 rw[Qhp]
 by_cases e:j/8=i
 . rw[decide_eq_true e,decide_eq_false (show ¬j/8<i by omega)]
   show s.s.good j=Qu s.l s.s j
   unfold Qu
   rw[e,decide_eq_false hb,ZaI];rfl
 . rw[decide_eq_false e];rfl
theorem Qqa (s:QbK) {i:Nat}(hi:i<9) (hb:s.l/2^i%2≠1) (j:Nat):(crTo s i).good j=(crTo s (i+1)).good j:=by
 unfold crTo
 dsimp only
 rw[Qhp]
 by_cases e:j/8=i
 . rw[decide_eq_true e,decide_eq_false (show ¬j/8<i by omega)]
   show s.s.good j=Qu s.l s.s j
   unfold Qu
   rw[e,decide_eq_false hb,ZaI];rfl
 . rw[decide_eq_false e];rfl
theorem bit_at {l:Int}(h:U64 l) {i:Nat}(hi:i<9):bits BinOp.and .u64 (Int.fdiv l (2^min (Zh (i:Int)) 64)) 1=l/2^i%2:=by
 have:=Qhy (w:=l) (a:=(i:Int)) (n:=1) h (by unfold Qcq;exact decide_eq_true Za)
 rw[show Qgs 1=1 from rfl]at this
 rw[this]
 have ht:(l.toNat:Int)=l:=by have:=h.1;omega
 unfold getZ getN
 rw[Zv]
 have hc:i=0\/i=1\/i=2\/i=3\/i=4\/i=5\/i=6\/i=7\/i=8:=Za
 rcases hc with rfl|rfl|rfl|rfl|rfl|rfl|rfl|rfl|rfl<;>(simp only[Int.toNat_one,Nat.pow_one,Nat.reducePow,Int.reducePow];omega)
theorem Qmr {a b:Sto}{n g:Nat->Int}(h1:n=b.now) (h2:g=b.good) (h3:a.want=b.want) (h4:a.fl=b.fl) (h5:a.fe=b.fe):[stoB ⟨n,g,a.want,a.fl,a.fe⟩]=[stoB b]:=by
 rw[h1,h2,h3,h4,h5]
def Qec (b:Bool):MCon:=dcon QbK (λs=>U64 s.l) (λs=>[.c (.p 0 0),.c (.v (.int .u64 s.l))]) (λs=>[stoB s.s]) (λs=>.t []) (λs=>[stoB (bif b then s.s.crash s.l else { crTo s 9 with want:=λ_=>0 })]) 1 (λargs _=>some (blkA args))
structure CrG where
 i:Nat
 hi:i<=9
def annCr (s:QbK):Ann where
 σ:=CrG
 I g:=([(0,.o (.c (.p 0 0))),(1,sv (.int .u64 s.l)),(5,sv (.int .i64 g.i))],[stoB (crTo s g.i)])
 dec g:=9-g.i
 pi env _:=[0]
 nz:=[]
theorem Qmq:(ZH (Qec false)).holds Tryz.prog 46:=by
 intro w0 S
 refine Qa (Γ:=[]) (λ_=>noW) Tryz.func46 rfl Zc Qf Qc (λw S' _ _=>.nil _ _ _) (Qec false) (λs=>[(46,[(0,annCr s)])]) (λx0 h s x=>⟨rfl,Zd⟩) (λs ρ w _ _ _=>Qj w _) [] (Qi 1) 400 ?_
 rintro⟨s,l⟩ w h0 -
 refine⟨rfl,?_⟩
 have h0:U64 l:=h0
 refine Qk (q:=(∃(s0:Ann.σ (annCr (QbK.mk s l))),(eS (aP 0 0) (aP 0 0)/\eS (aU l) (aU l)/\eS (aI 0) (aI ↑s0.1)/\True)/\[Zj [nU 72 s.1,nU 72 s.2,nB 36 s.3,sI s.4,sI s.5] 158]=[Zj [nU 72 λ(j:Nat)=>bif decide (j/8<s0.1)then Qu l s j else s.1 j,nU 72 λ(j:Nat)=>bif decide (j/8<s0.1)then Qu l s j else s.2 j,nB 36 s.3,sI s.4,sI s.5] 158])/\∀(s_1:CrG),bif decide ((↑s_1.1:Int)<(9:Int))then (0:Int)<=(↑s_1.1:Int)/\bif bits BinOp.and .u64 (Int.fdiv l ((2:Int)^min (Zh (↑s_1.1:Int)) 64)) (1:Int)==(1:Int)then (iR (↑s_1.1:Int) (9:Int))/\t8 s_1.1+1+1+1+1+1+1+1+1<=72/\(iR (↑s_1.1:Int) (9:Int))/\t8 s_1.1+1+1+1+1+1+1+1+1<=72/\dP Tryz.f46 4 1 [⟨11,[],[0],[],false⟩,xF 10 0,xF 9 0,xF 8 0,xR 7 0,xF 6 0,xF 5 0,xF 4 0,xE 3,xF 2 0,xE 1,xF 0 0]/\(iR (↑s_1.1:Int) (9:Int))/\t8 s_1.1+1+1+1+1+1+1+1+1<=72/\(iR (↑s_1.1:Int) (9:Int))/\t8 s_1.1+1+1+1+1+1+1+1+1<=72/\dP Tryz.f46 5 1 [⟨11,[],[0],[],false⟩,xF 10 0,xF 9 0,xF 8 0,xR 7 0,xF 6 0,xF 5 0,xF 4 0,xE 3,xF 2 0,xE 1,xF 0 0]/\∃(s':CrG),((eS (aP 0 0) (aP 0 0)/\eS (aU l) (aU l)/\eS (aI (Zi .i64 ((↑s_1.1:Int)+(1:Int)))) (aI ↑s'.1)/\True)/\[Zj [nU 72 λ(j:Nat)=>bif match ZL (t8 s_1.1) j with|false=>false|true=>ZL j (t8 s_1.1+1+1+1+1+1+1+1)then bif match ZL (t8 s_1.1) (t8 s_1.1+(j-(t8 s_1.1)))with|false=>false|true=>ZL (t8 s_1.1+(j-(t8 s_1.1))) (t8 s_1.1+1+1+1+1+1+1+1)then bif decide ((t8 s_1.1+(t8 s_1.1+(j-(t8 s_1.1))-(t8 s_1.1)))/8<s_1.1)then Qu l s (t8 s_1.1+(t8 s_1.1+(j-(t8 s_1.1))-(t8 s_1.1)))else s.1 (t8 s_1.1+(t8 s_1.1+(j-(t8 s_1.1))-(t8 s_1.1)))else bif decide ((t8 s_1.1+(j-(t8 s_1.1)))/8<s_1.1)then Qu l s (t8 s_1.1+(j-(t8 s_1.1)))else s.2 (t8 s_1.1+(j-(t8 s_1.1)))else bif decide (j/8<s_1.1)then Qu l s j else s.1 j,nU 72 λ(j:Nat)=>bif match ZL (t8 s_1.1) j with|false=>false|true=>ZL j (t8 s_1.1+1+1+1+1+1+1+1)then bif decide ((t8 s_1.1+(j-(t8 s_1.1)))/8<s_1.1)then Qu l s (t8 s_1.1+(j-(t8 s_1.1)))else s.1 (t8 s_1.1+(j-(t8 s_1.1)))else bif decide (j/8<s_1.1)then Qu l s j else s.2 j,nB 36 s.3,sI s.4,sI s.5] 158]=[Zj [nU 72 λ(j:Nat)=>bif decide (j/8<s'.1)then Qu l s j else s.1 j,nU 72 λ(j:Nat)=>bif decide (j/8<s'.1)then Qu l s j else s.2 j,nB 36 s.3,sI s.4,sI s.5] 158])/\9-s'.1<9-s_1.1 else (iR (↑s_1.1:Int) (9:Int))/\t8 s_1.1+1+1+1+1+1+1+1+1<=72/\(iR (↑s_1.1:Int) (9:Int))/\t8 s_1.1+1+1+1+1+1+1+1+1<=72/\dP Tryz.f46 5 1 [⟨11,[],[0],[],false⟩,xF 10 0,xF 9 0,xF 8 0,xR 7 0,xF 6 0,xF 5 0,xF 4 0,xE 3,xF 2 0,xE 1,xF 0 0]/\∃(s':CrG),((eS (aP 0 0) (aP 0 0)/\eS (aU l) (aU l)/\eS (aI (Zi .i64 ((↑s_1.1:Int)+(1:Int)))) (aI ↑s'.1)/\True)/\[Zj [nU 72 λ(j:Nat)=>bif match ZL (t8 s_1.1) j with|false=>false|true=>ZL j (t8 s_1.1+1+1+1+1+1+1+1)then bif decide ((t8 s_1.1+(j-(t8 s_1.1)))/8<s_1.1)then Qu l s (t8 s_1.1+(j-(t8 s_1.1)))else s.2 (t8 s_1.1+(j-(t8 s_1.1)))else bif decide (j/8<s_1.1)then Qu l s j else s.1 j,nU 72 λ(j:Nat)=>bif decide (j/8<s_1.1)then Qu l s j else s.2 j,nB 36 s.3,sI s.4,sI s.5] 158]=[Zj [nU 72 λ(j:Nat)=>bif decide (j/8<s'.1)then Qu l s j else s.1 j,nU 72 λ(j:Nat)=>bif decide (j/8<s'.1)then Qu l s j else s.2 j,nB 36 s.3,sI s.4,sI s.5] 158])/\9-s'.1<9-s_1.1 else endN (Qec false) [] (Qi 1) (QbK.mk s l) (ZS []) [Zj [nU 72 λ(j:Nat)=>bif decide (j/8<s_1.1)then Qu l s j else s.1 j,nU 72 λ(j:Nat)=>bif decide (j/8<s_1.1)then Qu l s j else s.2 j,nB 36 zF,sI s.4,sI s.5] 158]) Zc ?_
 unfold t8
 refine⟨⟨⟨0,Zb⟩,⟨rfl,rfl,rfl,Zd⟩,?_⟩,?_⟩
 . show [stoB s]=[stoB (crTo ⟨s,l⟩ 0)]
   rw[Qoe]
 rintro⟨i,hi⟩
 dsimp only at hi ⊢
 refine Qo (λhlt=>?_) (λhge=>?_)
 . have hlt':i<9:=Za
   have e8:0+i+i+i+i+i+i+i+i=8*i:=Za
   rw[bit_at h0 hlt',Zv,e8]
   refine⟨Za,QP (λhb=>?_) (λhb=>?_)⟩
   . refine⟨⟨Za,Za⟩,Za,⟨Za,Za⟩,Za,Qd Zc,⟨Za,Za⟩,Za,⟨Za,Za⟩,Za,Qd Zc,⟨i+1,hlt'⟩,⟨⟨rfl,rfl,svI (sucI Za),Zd⟩,?_⟩,by dsimp only;omega⟩
     have hgood:(λj=>bif lnB i j then (crTo ⟨s,l⟩ i).now (8*i+(j-8*i))else (crTo ⟨s,l⟩ i).good j)=(crTo ⟨s,l⟩ (i+1)).good:=funext λj=>Qhq.trans (Qp9 ⟨s,l⟩ hlt' hb j)
     have hnow:(λj=>bif lnB i j then (λj=>bif lnB i j then (crTo ⟨s,l⟩ i).now (8*i+(j-8*i))else (crTo ⟨s,l⟩ i).good j) (8*i+(j-8*i))else (crTo ⟨s,l⟩ i).now j)=(crTo ⟨s,l⟩ (i+1)).now:=by
      rw[hgood];exact funext λj=>Qhq.trans (QrY ⟨s,l⟩ hlt' hb j)
     exact Qmr (a:=crTo ⟨s,l⟩ i) (b:=crTo ⟨s,l⟩ (i+1)) hnow hgood rfl rfl rfl
   . refine⟨⟨Za,Za⟩,Za,⟨Za,Za⟩,Za,Qd Zc,⟨i+1,hlt'⟩,⟨⟨rfl,rfl,svI (sucI Za),Zd⟩,?_⟩,by dsimp only;omega⟩
     have hgood:(crTo ⟨s,l⟩ i).good=(crTo ⟨s,l⟩ (i+1)).good:=funext λj=>Qqa ⟨s,l⟩ hlt' hb j
     have hnow:(λj=>bif lnB i j then (crTo ⟨s,l⟩ i).good (8*i+(j-8*i))else (crTo ⟨s,l⟩ i).now j)=(crTo ⟨s,l⟩ (i+1)).now:=funext λj=>Qhq.trans (QrZ ⟨s,l⟩ hlt' hb j)
     exact Qmr (a:=crTo ⟨s,l⟩ i) (b:=crTo ⟨s,l⟩ (i+1)) hnow hgood rfl rfl rfl
 . obtain rfl:i=9:=Za
   exact Ql rfl () trivial rfl rfl rfl
theorem Qia:(ZH (Qec true)).holds Tryz.prog 46:=by
 intro w0 S
 have h:=Qmq w0 S
 refine⟨h.1,λx0 _ s x=>⟨rfl,Zd⟩,λρ s w hp hk hm=>(h.2.2 ρ s w hp hk hm).mono ?_⟩
 rintro e w' ⟨x,ρ',-,h1,h2,h3,h4⟩
 refine⟨(),ρ',Zd,h1,rfl,h3,?_⟩
 have e:denM ρ' 0 [stoB { crTo s 9 with want:=λ_=>0 }]=denM ρ' 0 [stoB (s.s.crash s.l)]:=by
  simp only[denM]
  rw[Qrn (a:={ crTo s 9 with want:=λ_=>0 }) (b:=s.s.crash s.l) (λj hj=>?_) (λj hj=>?_) (λ_ _=>rfl) rfl rfl]
  . show (bif decide (j/8<9)then Qu s.l s.s j else s.s.now j)=Qu s.l s.s j
    rw[decide_eq_true Za];rfl
  . show (bif decide (j/8<9)then Qu s.l s.s j else s.s.good j)=Qu s.l s.s j
    rw[decide_eq_true Za];rfl
 show Mem w _ (denM ρ' 0 [stoB (s.s.crash s.l)]) w'
 rw[<- e];exact h4
structure QcT where
 s:Sto
 l:Int
def QbH:MCon:=dcon QcT (λ_=>True) (λs=>[.c (.p 0 0),.c (.v (.int .i64 s.l))]) (λs=>[stoB s.s]) (λs=>.o (.c (.v (bif decide (0<=s.l/\s.l<9)then .nilIface else .iface 50 (.int .i64 2))))) (λs=>[stoB (bif decide (0<=s.l/\s.l<9)then s.s.evict s.l.toNat else s.s)]) 1 (λargs _=>some (blkA args))
theorem Qh9:(ZH QbH).holds Tryz.prog 41:=by
 intro w0 S
 refine Qa (Γ:=[]) (λ_=>noW) Tryz.func41 rfl Zc Qf Qc (λw S' _ _=>.nil _ _ _) QbH (λs=>[]) (λx0 h s x=>⟨rfl,Zd⟩) (λs ρ w _ _ _=>Qj w _) [] (Qi 1) 400 ?_
 rintro⟨s,l⟩ w - -
 refine⟨rfl,?_⟩
 refine Qk (q:=bif decide (l<(0:Int))then endN QbH [] (Qi 1) (QcT.mk s l) (ZG (Zt (.v (.iface 50 (ZA .i64 (2:Int)))))) [Zj [nU 72 s.1,nU 72 s.2,nB 36 s.3,sI s.4,sI s.5] 158]else bif decide (l>=(9:Int))then endN QbH [] (Qi 1) (QcT.mk s l) (ZG (Zt (.v (.iface 50 (ZA .i64 (2:Int)))))) [Zj [nU 72 s.1,nU 72 s.2,nB 36 s.3,sI s.4,sI s.5] 158]else (iR l (9:Int))/\0+Zh l+Zh l+Zh l+Zh l+Zh l+Zh l+Zh l+Zh l+1+1+1+1+1+1+1+1<=72/\(iR l (9:Int))/\0+Zh l+Zh l+Zh l+Zh l+Zh l+Zh l+Zh l+Zh l+1+1+1+1+1+1+1+1<=72/\dP Tryz.f41 3 1 [⟨11,[],[0],[],false⟩,xF 10 0,xF 9 0,xF 8 0,xR 7 0,xF 6 0,xF 5 0,xF 4 0,xE 3,xF 2 0,xE 1,xF 0 0]/\endN QbH [] (Qi 1) (QcT.mk s l) (ZG (Zt (.v ZM))) [Zj [nU 72 s.1,nU 72 λ(j:Nat)=>bif match ZL (0+Zh l+Zh l+Zh l+Zh l+Zh l+Zh l+Zh l+Zh l) j with|false=>false|true=>ZL j (0+Zh l+Zh l+Zh l+Zh l+Zh l+Zh l+Zh l+Zh l+1+1+1+1+1+1+1)then s.1 (0+Zh l+Zh l+Zh l+Zh l+Zh l+Zh l+Zh l+Zh l+(j-(0+Zh l+Zh l+Zh l+Zh l+Zh l+Zh l+Zh l+Zh l)))else s.2 j,nB 36 s.3,sI s.4,sI s.5] 158]) Zc ?_
 refine Qo (λh=>?_) (λh=>Qo (λh2=>?_) (λh2=>?_))
 . have e:decide (0<=l/\l<9)=false:=decide_eq_false Za
   refine Ql rfl () trivial rfl ?_ ?_
   . show _=ZbL _ (.o (.c (.v (bif decide (0<=l/\l<9)then _ else _))))
     rw[e];rfl
   . show _=[stoB (bif decide (0<=l/\l<9)then s.evict l.toNat else s)].map _
     rw[e];rfl
 . have e:decide (0<=l/\l<9)=false:=decide_eq_false Za
   refine Ql rfl () trivial rfl ?_ ?_
   . show _=ZbL _ (.o (.c (.v (bif decide (0<=l/\l<9)then _ else _))))
     rw[e];rfl
   . show _=[stoB (bif decide (0<=l/\l<9)then s.evict l.toNat else s)].map _
     rw[e];rfl
 . have e:decide (0<=l/\l<9)=true:=decide_eq_true Za
   have e8:0+l.toNat+l.toNat+l.toNat+l.toNat+l.toNat+l.toNat+l.toNat+l.toNat=8*l.toNat:=Za
   rw[e8]
   refine⟨⟨Za,Za⟩,Za,⟨Za,Za⟩,Za,Qd Zc,Ql rfl () trivial rfl ?_ ?_⟩
   . show _=ZbL _ (.o (.c (.v (bif decide (0<=l/\l<9)then _ else _))))
     rw[e];rfl
   . show [stoB ⟨s.now,λj=>bif lnB l.toNat j then s.now (8*l.toNat+(j-8*l.toNat))else s.good j,s.want,s.fl,s.fe⟩]=[stoB (bif decide (0<=l/\l<9)then s.evict l.toNat else s)].map _
     rw[e,show (λj=>bif lnB l.toNat j then s.now (8*l.toNat+(j-8*l.toNat))else s.good j)=(s.evict l.toNat).good from funext λj=>Qhq];rfl
def Qfw:MCon:=dcon (Nat->Int) (λ_=>True) (λ_=>[.c (.p 0 0)]) (λs=>[ramB s]) (λ_=>.t []) (λ_=>[ramB (λ_=>0)]) 1 (λargs _=>some (blkA args))
theorem Qon:(ZH Qfw).holds Tryz.prog 47:=by
 intro w0 S
 refine Qa (Γ:=[]) (λ_=>noW) Tryz.func47 rfl Zc Qf Qc (λw S' _ _=>.nil _ _ _) Qfw (λs=>[]) (λx0 h s x=>⟨rfl,Zd⟩) (λs ρ w _ _ _=>Qj w _) [] (Qi 1) 400 ?_
 rintro s w - -
 refine⟨rfl,?_⟩
 refine Qk (q:=endN Qfw [] (Qi 1) s (ZS []) [Zj [nU 16 zF] 101]) Zc ?_
 exact⟨(),Zd,rfl,rfl⟩
def Qeb:MCon where
 σ:=Unit
 χ:=Unit
 pre _:=True
 args _:=[]
 mem _:=[]
 ok _ _:=True
 val _ _:=.o (.c (.p 0 0))
 mem' _ _:=[stoB ZcJ]
 k:=0
 len:=1
 det:=some ()
 find _ _:=some []
theorem QkQ:(ZH Qeb).holds Tryz.prog 39:=by
 intro w0 S
 refine Qa (Γ:=[]) (λ_=>noW) Tryz.func39 rfl Zc Qf Qc (λw S' _ _=>.nil _ _ _) Qeb (λ_=>[]) (λx0 h s x=>⟨rfl,Zd⟩) (λs ρ w _ _ _=>Qj w _) [] (λ_ _=>[0]) 400 ?_
 rintro⟨⟩ W - -
 refine⟨rfl,?_⟩
 refine Qk (q:=endN Qeb [] (λ(x:SV) (x_1:List SB)=>[0]) Zay (ZG (aP 0 0)) [Zj [nU 72 zF,nU 72 zF,nB 36 zF,sI 0,sI 0] 158]) Zc ?_
 exact⟨(),Zd,rfl,rfl⟩
def Qn5 (t:Nat):TCon Sh Unit Unit where
 pre z _:=True
 args _:=[.c (.v (.int .i64 t))]
 ok _ _ _:=True
 next z _ _:=z
 val _ z _ _:=sv (.int .i64 (z.w t).does)
 new _ _ _ _:=[]
 len:=0
abbrev QaY (t:Nat):MCon:=(Qn5 t).low shM Yv ShS.good 17 7 Qdn
theorem QiL:(ZH (QaY 0)).holds Tryz.prog 27:=by
 intro w0 S
 refine Qa (Γ:=[(42,.inl Tryz.f42 (Tryz.f42.body.getD .skip))]) (λ_=>noW) Tryz.func27 rfl Zc Qf Qc (λw S' _ _=>.cons ⟨Zc,rfl,rfl⟩ (.nil _ _ _)) (QaY 0) (λ_=>[]) (λx0 h=>by cases h) (λs ρ w _ _ _=>Qj w _) [] (λ_ M=>shAt M 0) 600 ?_
 rintro⟨⟨z,r,mh,ch,nh,zh,mv,cv,nv,zv⟩,⟨⟩⟩ W ⟨h0,-⟩ -
 refine⟨rfl,?_⟩
 refine Qk (q:=i04/\endN (QaY 0) [] (λ(x:SV) (M:List SB)=>shAt M 0) (Y3 z r mh ch nh zh mv cv nv zv,Zay) (ZG (aI (ZX z 0).2)) (shI (shD z.4 z.5 15 (Zg z.6) ch nh 16 (Zg z.7) cv nv) z.1 (ZaO z) (stX (ZX z) r) (stA r) (stD r) (evB mh ch zh) (vdB mv cv zv) [])) Zc ?_
 have h0:(⟨z,r,mh,ch,nh,zh,mv,cv,nv,zv⟩:ShS).good:=h0
 exact⟨⟨Zb,Zb⟩,Ql rfl ⟨⟨z,r,mh,ch,nh,zh,mv,cv,nv,zv⟩,()⟩ ⟨h0,rfl,Zd⟩ rfl rfl rfl⟩
theorem Qn8:(ZH (QaY 1)).holds Tryz.prog 27:=by
 intro w0 S
 refine Qa (Γ:=[(42,.inl Tryz.f42 (Tryz.f42.body.getD .skip))]) (λ_=>noW) Tryz.func27 rfl Zc Qf Qc (λw S' _ _=>.cons ⟨Zc,rfl,rfl⟩ (.nil _ _ _)) (QaY 1) (λ_=>[]) (λx0 h=>by cases h) (λs ρ w _ _ _=>Qj w _) [] (λ_ M=>shAt M 0) 600 ?_
 rintro⟨⟨z,r,mh,ch,nh,zh,mv,cv,nv,zv⟩,⟨⟩⟩ W ⟨h0,-⟩ -
 refine⟨rfl,?_⟩
 refine Qk (q:=(iR (1:Int) (4:Int))/\endN (QaY 1) [] (λ(x:SV) (M:List SB)=>shAt M 0) (Y3 z r mh ch nh zh mv cv nv zv,Zay) (ZG (aI (ZX z 1).2)) (shI (shD z.4 z.5 15 (Zg z.6) ch nh 16 (Zg z.7) cv nv) z.1 (ZaO z) (stX (ZX z) r) (stA r) (stD r) (evB mh ch zh) (vdB mv cv zv) [])) Zc ?_
 have h0:(⟨z,r,mh,ch,nh,zh,mv,cv,nv,zv⟩:ShS).good:=h0
 exact⟨⟨Zb,Zb⟩,Ql rfl ⟨⟨z,r,mh,ch,nh,zh,mv,cv,nv,zv⟩,()⟩ ⟨h0,rfl,Zd⟩ rfl rfl rfl⟩
theorem Qn7:(ZH (QaY 2)).holds Tryz.prog 27:=by
 intro w0 S
 refine Qa (Γ:=[(42,.inl Tryz.f42 (Tryz.f42.body.getD .skip))]) (λ_=>noW) Tryz.func27 rfl Zc Qf Qc (λw S' _ _=>.cons ⟨Zc,rfl,rfl⟩ (.nil _ _ _)) (QaY 2) (λ_=>[]) (λx0 h=>by cases h) (λs ρ w _ _ _=>Qj w _) [] (λ_ M=>shAt M 0) 600 ?_
 rintro⟨⟨z,r,mh,ch,nh,zh,mv,cv,nv,zv⟩,⟨⟩⟩ W ⟨h0,-⟩ -
 refine⟨rfl,?_⟩
 refine Qk (q:=(iR (2:Int) (4:Int))/\endN (QaY 2) [] (λ(x:SV) (M:List SB)=>shAt M 0) (Y3 z r mh ch nh zh mv cv nv zv,Zay) (ZG (aI (ZX z 2).2)) (shI (shD z.4 z.5 15 (Zg z.6) ch nh 16 (Zg z.7) cv nv) z.1 (ZaO z) (stX (ZX z) r) (stA r) (stD r) (evB mh ch zh) (vdB mv cv zv) [])) Zc ?_
 have h0:(⟨z,r,mh,ch,nh,zh,mv,cv,nv,zv⟩:ShS).good:=h0
 exact⟨⟨Zb,Zb⟩,Ql rfl ⟨⟨z,r,mh,ch,nh,zh,mv,cv,nv,zv⟩,()⟩ ⟨h0,rfl,Zd⟩ rfl rfl rfl⟩
theorem Qn6:(ZH (QaY 3)).holds Tryz.prog 27:=by
 intro w0 S
 refine Qa (Γ:=[(42,.inl Tryz.f42 (Tryz.f42.body.getD .skip))]) (λ_=>noW) Tryz.func27 rfl Zc Qf Qc (λw S' _ _=>.cons ⟨Zc,rfl,rfl⟩ (.nil _ _ _)) (QaY 3) (λ_=>[]) (λx0 h=>by cases h) (λs ρ w _ _ _=>Qj w _) [] (λ_ M=>shAt M 0) 600 ?_
 rintro⟨⟨z,r,mh,ch,nh,zh,mv,cv,nv,zv⟩,⟨⟩⟩ W ⟨h0,-⟩ -
 refine⟨rfl,?_⟩
 refine Qk (q:=(iR (3:Int) (4:Int))/\endN (QaY 3) [] (λ(x:SV) (M:List SB)=>shAt M 0) (Y3 z r mh ch nh zh mv cv nv zv,Zay) (ZG (aI (ZX z 3).2)) (shI (shD z.4 z.5 15 (Zg z.6) ch nh 16 (Zg z.7) cv nv) z.1 (ZaO z) (stX (ZX z) r) (stA r) (stD r) (evB mh ch zh) (vdB mv cv zv) [])) Zc ?_
 have h0:(⟨z,r,mh,ch,nh,zh,mv,cv,nv,zv⟩:ShS).good:=h0
 exact⟨⟨Zb,Zb⟩,Ql rfl ⟨⟨z,r,mh,ch,nh,zh,mv,cv,nv,zv⟩,()⟩ ⟨h0,rfl,Zd⟩ rfl rfl rfl⟩
def evC:TCon Sh Int Unit where
 pre z _:=True
 args a:=[.c (.v (.int .i64 a))]
 ok _ _ _:=True
 next z a _:=z.evict a
 val _ z a _:=.o (.c (.v (bif decide (0<=a/\a<9)then .nilIface else .iface 50 (.int .i64 2))))
 new _ _ _ _:=[]
 len:=0
abbrev Qr2:MCon:=evC.low shM Yv ShS.good 17 7 Qdn
theorem Qp4 (z:Sh) (a:Int):z.evict a={ z with s:=bif decide (0<=a/\a<9)then z.s.evict a.toNat else z.s }:=by
 unfold Zcw
 by_cases h:0<=a/\a<9
 . rw[Zf h,decide_eq_true h];rfl
 . rw[Ze h,decide_eq_false h];rfl
theorem ev_con:(ZH Qr2).holds Tryz.prog 50:=by
 intro w0 S
 refine Qa (Γ:=[(41,.mem QbH)]) (λ_=>noW) Tryz.func50 rfl Zc Qf Qc (λw S' _ _=>.cons (Qh9 w S') (.nil _ _ _)) Qr2 (λ_=>[]) (λx0 h=>by cases h) (λs ρ w _ _ _=>Qj w _) [] (λ_ M=>shAt M 0) 600 ?_
 rintro⟨⟨z,r,mh,ch,nh,zh,mv,cv,nv,zv⟩,a⟩ W ⟨h0,-⟩ -
 refine⟨rfl,?_⟩
 refine Qk (q:=∃(s:QcT),[aP 2 0,aI a]=[aP 2 0,aI s.2]/\[stoB (ZaO z)]=[stoB (QcT.s s)]/\True/\∀(x:Unit),True->endN Qr2 [] (λ(x:SV) (M:List SB)=>shAt M 0) (Y3 z r mh ch nh zh mv cv nv zv,a) (ZG (Zt (.v (bif decide (iR s.2 (9:Int))then ZM else Value.iface 50 (ZA .i64 (2:Int)))))) (shI (shD z.4 z.5 15 (Zg z.6) ch nh 16 (Zg z.7) cv nv) z.1 (bif decide ((0:Int)<=QcT.l s/\QcT.l s<(9:Int))then Zdo (QcT.s s) (Zh (QcT.l s))else QcT.s s) (stX (ZX z) r) (stA r) (stD r) (evB mh ch zh) (vdB mv cv zv) [])) Zc ?_
 have h0:(⟨z,r,mh,ch,nh,zh,mv,cv,nv,zv⟩:ShS).good:=h0
 refine⟨⟨z.s,a⟩,rfl,rfl,Zd,λ_ _=>?_⟩
 exact Ql rfl ⟨⟨{ z with s:=bif decide (0<=a/\a<9)then z.s.evict a.toNat else z.s },r,mh,ch,nh,zh,mv,cv,nv,zv⟩,()⟩ ⟨⟨h0.w,h0.h1,h0.h2,h0.h,h0.v1,h0.v2,h0.v⟩,(Qp4 z a).symm,Zd⟩ rfl rfl rfl
structure RwR where
 m:Nat
 c:Nat
 nn:Bool
 z:Nat->Nat->Int
def ddsC:TCon Sh Unit RwR where
 pre z _:=z.deeds.length<=1000000000
 args _:=[]
 ok z _ r:=(z.deeds.length<=r.m/\r.m<=r.c)/\IsR 6 Dd.at ZR r.z (z.deeds.map Vd.d)
 next z _ _:=z
 val n z _ r:=.o (.c (.so n 0 6 z.deeds.length r.c r.nn))
 new _ _ _ r:=[wkD r.m r.c r.z]
 len:=1
abbrev Qom:MCon:=ddsC.low shM Yv ShS.good 17 7 Qdn
structure DdsG (z:Sh) where
 i:Nat
 ln:Nat
 r:RwR
 hi:i<=z.deeds.length
 hl:i=ln
 h1:i<=r.m
 h2:r.m<=r.c
 h:IsR 6 Dd.at ZR r.z ((z.deeds.take i).map Vd.d)
abbrev nzDd (t:Nat):NZ:=.tmp t 36 6 [.int .i64,.int .i64,.int .i64,.int .i64,.int .i64,.int .i64]
def Qq4 (s:ShS):Ann where
 σ:=DdsG s.z
 I g:=([(0,.o (.c (.p 0 0))),(3,.o (.c (.so 17 0 6 g.ln g.r.c g.r.nn))),(9,.o (.c (.so 16 0 7 s.z.deeds.length s.cv s.nv))),(10,sv (.int .i64 s.z.deeds.length)),(11,sv (.int .i64 g.i))],shM s++[wkD g.r.m g.r.c g.r.z])
 dec g:=s.z.deeds.length-g.i
 pi env M:=shAt M 0++[blkE env 3]
 nz:=[nzDd 3]
theorem QrW:(ZH Qom).holds Tryz.prog 10:=by
 intro w0 S
 refine Qa (Γ:=[]) (λ_=>noW) Tryz.func10 rfl Zc Qf Qc (λw S' _ _=>.nil _ _ _) Qom (λs=>[(10,[(0,Qq4 s.1)])]) (λx0 h=>by cases h) (λs ρ w _ _ _=>Qj w _) [] (λx M=>shAt M 0++(match x with
  |.o (.c (.so b _ _ _ _ _))=>[b]
  |_=>[])) 600 ?_
 rintro⟨⟨z,r,mh,ch,nh,zh,mv,cv,nv,zv⟩,⟨⟩⟩ W ⟨h0,h1⟩ -
 refine⟨rfl,?_⟩
 dsimp only
 refine Qk (q:=Zg z.7<=cv/\(∃(s0:Ann.σ (Qq4 (Y3 z r mh ch nh zh mv cv nv zv))),(eS (aP 0 0) (aP 0 0)/\eS (Zt (.so 17 0 6 0 0 false)) (Zt (.so 17 0 6 s0.2 (DdsG.r s0).2 (DdsG.r s0).3))/\eS (Zt (.so 16 0 7 (Zg z.7) cv nv)) (Zt (.so 16 0 7 (Zg z.7) cv nv))/\eS (aI (↑(Zg z.7):Int)) (aI (↑(Zg z.7):Int))/\eS (aI 0) (aI ↑s0.1)/\True)/\(shI (shD z.4 z.5 15 (Zg z.6) ch nh 16 (Zg z.7) cv nv) z.1 (ZaO z) (stX (ZX z) r) (stA r) (stD r) (evB mh ch zh) (vdB mv cv zv) [wd0])=(shI (shD z.4 z.5 15 (Zg z.6) ch nh 16 (Zg z.7) cv nv) z.1 (ZaO z) (stX (ZX z) r) (stA r) (stD r) (evB mh ch zh) (vdB mv cv zv) [wkD (DdsG.r s0).1 (DdsG.r s0).2 (DdsG.r s0).4]))/\∀(s:DdsG z),bif decide ((↑s.1:Int)<(↑(Zg z.7):Int))then ((0:Int)<=(↑s.1:Int)/\(↑s.1:Int)<(↑(Zg z.7):Int)/\0+Zg z.7<=cv)/\0+Zh (↑s.1:Int)<mv/\((s.2<=(DdsG.r s).1/\(DdsG.r s).2=(DdsG.r s).2)/\(1<=1/\1=1)/\s.2+1<=68719476736)/\∀(c:Nat),s.2+1<=c->∃(s':DdsG z),((eS (aP 0 0) (aP 0 0)/\eS (Zt (.so 20 0 6 (s.2+1) c (DdsG.r s).3)) (Zt (.so 20 0 6 s'.2 (DdsG.r s').2 (DdsG.r s').3))/\eS (Zt (.so 16 0 7 (Zg z.7) cv nv)) (Zt (.so 16 0 7 (Zg z.7) cv nv))/\eS (aI (↑(Zg z.7):Int)) (aI (↑(Zg z.7):Int))/\eS (aI (Zi .i64 ((↑s.1:Int)+(1:Int)))) (aI ↑s'.1)/\True)/\(shI (shD z.4 z.5 15 (Zg z.6) ch nh 16 (Zg z.7) cv nv) z.1 (ZaO z) (stX (ZX z) r) (stA r) (stD r) (evB mh ch zh) (vdB mv cv zv) [wkD (s.2+1) c λ(i j:Nat)=>bif ZL (i+1) s.2 then (DdsG.r s).4 i j else match Zl (match Zl [[zv (0+Zh (↑s.1:Int)) 1,zv (0+Zh (↑s.1:Int)) 2,zv (0+Zh (↑s.1:Int)) 3,zv (0+Zh (↑s.1:Int)) 4,zv (0+Zh (↑s.1:Int)) 5,zv (0+Zh (↑s.1:Int)) 6]] (0+(i-s.2))with|some x=>x|none=>[]) j with|some x=>x|none=>(0:Int)])=(shI (shD z.4 z.5 15 (Zg z.6) ch nh 16 (Zg z.7) cv nv) z.1 (ZaO z) (stX (ZX z) r) (stA r) (stD r) (evB mh ch zh) (vdB mv cv zv) [wkD (DdsG.r s').1 (DdsG.r s').2 (DdsG.r s').4]))/\Zg z.7-s'.1<Zg z.7-s.1 else endN Qom [] (λ(x:SV) (M:List SB)=>shAt M 0++match x with|ZG (Zt (.so b lo sz n c nn))=>[b]|x=>[]) (Y3 z r mh ch nh zh mv cv nv zv,Zay) (ZG (Zt (.so 17 0 6 s.2 (DdsG.r s).2 (DdsG.r s).3))) (shI (shD z.4 z.5 15 (Zg z.6) ch nh 16 (Zg z.7) cv nv) z.1 (ZaO z) (stX (ZX z) r) (stA r) (stD r) (evB mh ch zh) (vdB mv cv zv) [wkD (DdsG.r s).1 (DdsG.r s).2 (DdsG.r s).4])) Zc ?_
 have h0:(⟨z,r,mh,ch,nh,zh,mv,cv,nv,zv⟩:ShS).good:=h0
 have h1:z.deeds.length<=1000000000:=h1
 have hv1:=h0.v1
 have hv2:=h0.v2
 have hzv:=h0.v
 dsimp only at hv1 hv2 hzv
 refine⟨Za,⟨⟨0,0,⟨0,0,false,λ_ _=>0⟩,Z9 _,rfl,Zq _,Zq _,λi hi=>absurd hi (ZP _)⟩,⟨rfl,rfl,rfl,rfl,rfl,Zd⟩,rfl⟩,?_⟩
 rintro⟨i,ln,⟨m,c,nn,zz⟩,hi,hl,g1,g2,gz⟩
 dsimp only at hi hl g1 g2 gz ⊢
 subst hl
 refine Qo (λhlt=>?_) (λhge=>?_)
 . have hlt':i<z.deeds.length:=Za
   have hx:(z.deeds.take (i+1)).map Vd.d=(z.deeds.take i).map Vd.d++[(z.deeds.getD i ZaA).d]:=by
    rw[Za5,Zy hlt',Zcz,YW,Zp,Zy hlt'];rfl
   have hlen:((z.deeds.take i).map Vd.d).length=i:=by rw[ZN,ZW];omega
   refine⟨⟨Za,Za,Za⟩,Za,⟨⟨g1,rfl⟩,⟨Zq _,rfl⟩,Za⟩,λc' hc'=>⟨⟨i+1,i+1,⟨i+1,c',nn,_⟩,hlt',rfl,Zq _,hc',?_⟩,⟨⟨rfl,rfl,rfl,rfl,svI (sucI Za),Zd⟩,rfl⟩,by dsimp only;omega⟩⟩
   rw[hx]
   refine gz.snoc (λj hj k _=>catT Za) (λj hj=>?_)
   rw[hlen]
   refine catF.trans ?_
   rw[Ye,Zv,Zu]
   have hq:=hzv i hlt'
   match j,hj with
   |0,_=>exact hq 1 Zb
   |1,_=>exact hq 2 Zb
   |2,_=>exact hq 3 Zb
   |3,_=>exact hq 4 Zb
   |4,_=>exact hq 5 Zb
   |5,_=>exact hq 6 Zb
 . obtain rfl:i=z.deeds.length:=Za
   rw[Yt]at gz
   exact Ql rfl ⟨⟨z,r,mh,ch,nh,zh,mv,cv,nv,zv⟩,⟨m,c,nn,zz⟩⟩ ⟨h0,rfl,⟨g1,g2⟩,gz⟩ rfl rfl rfl
def hisC:TCon Sh Unit RwR where
 pre z _:=z.hist.length<=1000000000
 args _:=[]
 ok z _ r:=(z.hist.length<=r.m/\r.m<=r.c)/\IsE r.z z.hist
 next z _ _:=z
 val n z _ r:=.o (.c (.so n 0 9 z.hist.length r.c r.nn))
 new _ _ _ r:=[evB r.m r.c r.z]
 len:=1
abbrev Qoh:MCon:=hisC.low shM Yv ShS.good 17 7 Qdn
theorem QrN:(ZH Qoh).holds Tryz.prog 14:=by
 intro w0 S
 refine Qa (Γ:=[]) (λ_=>noW) Tryz.func14 rfl Zc Qf Qc (λw S' _ _=>.nil _ _ _) Qoh (λs=>[]) (λx0 h=>by cases h) (λs ρ w _ _ _=>Qj w _) [] (λx M=>shAt M 0++(match x with
  |.o (.c (.so b _ _ _ _ _))=>[b]
  |_=>[])) 600 ?_
 rintro⟨⟨z,r,mh,ch,nh,zh,mv,cv,nv,zv⟩,⟨⟩⟩ W ⟨h0,h1⟩ -
 refine⟨rfl,?_⟩
 refine Qk (q:=(True/\(0+Zg z.6<=mh/\ch=ch)/\0+Zg z.6<=68719476736)/\∀(c:Nat),0+Zg z.6<=c->endN Qoh [] (λ(x:SV) (M:List SB)=>shAt M 0++match x with|ZG (Zt (.so b lo sz n c nn))=>[b]|x=>[]) (Y3 z r mh ch nh zh mv cv nv zv,Zay) (ZG (Zt (.so 17 0 9 (0+Zg z.6) c false))) (shI (shD z.4 z.5 15 (Zg z.6) ch nh 16 (Zg z.7) cv nv) z.1 (ZaO z) (stX (ZX z) r) (stA r) (stD r) (evB mh ch zh) (vdB mv cv zv) [evB (0+Zg z.6) c λ(i j:Nat)=>zh (0+i) j])) Zc ?_
 have h0:(⟨z,r,mh,ch,nh,zh,mv,cv,nv,zv⟩:ShS).good:=h0
 have h1:z.hist.length<=1000000000:=h1
 have hh1:=h0.h1
 have hh2:=h0.h2
 have hzh:=h0.h
 dsimp only at hh1 hh2 hzh
 refine⟨⟨Zd,⟨Za,rfl⟩,Za⟩,λc hc=>?_⟩
 rw[Zu]at hc ⊢
 refine Ql rfl ⟨⟨z,r,mh,ch,nh,zh,mv,cv,nv,zv⟩,⟨z.hist.length,c,false,_⟩⟩ ⟨h0,rfl,⟨Zq _,hc⟩,hzh.sub (λj hj k _=>?_)⟩ rfl rfl rfl
 show zh (0+j) k=zh j k
 rw[Zu]
def oneC (t:Nat):TCon Sh Unit Unit where
 pre z _:=True
 args _:=[.c (.v (.int .i64 t))]
 ok _ _ _:=True
 next z _ _:=z
 val n z _ _:=.t [.c (.p (bif n.beq 17 then 3+t else 0) 0),.c (.v .nilIface)]
 new _ _ _ _:=[]
 len:=0
abbrev Qef (t:Nat):MCon:=(oneC t).low shM Yv ShS.good 17 7 Qdn
def QeV (n0:Nat) (n1:Nat) (z:Sh) (r:Nat->WkR) (mh:Nat) (ch:Nat) (nh:Bool) (zh:Nat->Nat->Int) (mv:Nat) (cv:Nat) (nv:Bool) (zv:Nat->Nat->Int):Prop:=(iR (n0:Int) (4:Int))/\endN (Qef n0) [] (λ(x:SV) (M:List SB)=>shAt M 0) (Y3 z r mh ch nh zh mv cv nv zv,Zay) (ZS [aP n1 0,Zt (.v ZM)]) (shI (shD z.4 z.5 15 (Zg z.6) ch nh 16 (Zg z.7) cv nv) z.1 (ZaO z) (stX (ZX z) r) (stA r) (stD r) (evB mh ch zh) (vdB mv cv zv) [])
theorem Qkb:(ZH (Qef 0)).holds Tryz.prog 42:=by
 intro w0 S
 refine Qa (Γ:=[]) (λ_=>noW) Tryz.func42 rfl Zc Qf Qc (λw S' _ _=>.nil _ _ _) (Qef 0) (λ_=>[]) (λx0 h=>by cases h) (λs ρ w _ _ _=>Qj w _) [] (λ_ M=>shAt M 0) 600 ?_
 rintro⟨⟨z,r,mh,ch,nh,zh,mv,cv,nv,zv⟩,⟨⟩⟩ W ⟨h0,-⟩ -
 refine⟨rfl,?_⟩
 refine Qk (q:=QeV 0 3 z r mh ch nh zh mv cv nv zv) Zc ?_
 unfold QeV
 have h0:(⟨z,r,mh,ch,nh,zh,mv,cv,nv,zv⟩:ShS).good:=h0
 exact⟨⟨Zb,Zb⟩,Ql rfl ⟨⟨z,r,mh,ch,nh,zh,mv,cv,nv,zv⟩,()⟩ ⟨h0,rfl,Zd⟩ rfl rfl rfl⟩
theorem Qpy:(ZH (Qef 1)).holds Tryz.prog 42:=by
 intro w0 S
 refine Qa (Γ:=[]) (λ_=>noW) Tryz.func42 rfl Zc Qf Qc (λw S' _ _=>.nil _ _ _) (Qef 1) (λ_=>[]) (λx0 h=>by cases h) (λs ρ w _ _ _=>Qj w _) [] (λ_ M=>shAt M 0) 600 ?_
 rintro⟨⟨z,r,mh,ch,nh,zh,mv,cv,nv,zv⟩,⟨⟩⟩ W ⟨h0,-⟩ -
 refine⟨rfl,?_⟩
 refine Qk (q:=QeV 1 4 z r mh ch nh zh mv cv nv zv) Zc ?_
 unfold QeV
 have h0:(⟨z,r,mh,ch,nh,zh,mv,cv,nv,zv⟩:ShS).good:=h0
 exact⟨⟨Zb,Zb⟩,Ql rfl ⟨⟨z,r,mh,ch,nh,zh,mv,cv,nv,zv⟩,()⟩ ⟨h0,rfl,Zd⟩ rfl rfl rfl⟩
theorem Qpx:(ZH (Qef 2)).holds Tryz.prog 42:=by
 intro w0 S
 refine Qa (Γ:=[]) (λ_=>noW) Tryz.func42 rfl Zc Qf Qc (λw S' _ _=>.nil _ _ _) (Qef 2) (λ_=>[]) (λx0 h=>by cases h) (λs ρ w _ _ _=>Qj w _) [] (λ_ M=>shAt M 0) 600 ?_
 rintro⟨⟨z,r,mh,ch,nh,zh,mv,cv,nv,zv⟩,⟨⟩⟩ W ⟨h0,-⟩ -
 refine⟨rfl,?_⟩
 refine Qk (q:=QeV 2 5 z r mh ch nh zh mv cv nv zv) Zc ?_
 unfold QeV
 have h0:(⟨z,r,mh,ch,nh,zh,mv,cv,nv,zv⟩:ShS).good:=h0
 exact⟨⟨Zb,Zb⟩,Ql rfl ⟨⟨z,r,mh,ch,nh,zh,mv,cv,nv,zv⟩,()⟩ ⟨h0,rfl,Zd⟩ rfl rfl rfl⟩
theorem Qpw:(ZH (Qef 3)).holds Tryz.prog 42:=by
 intro w0 S
 refine Qa (Γ:=[]) (λ_=>noW) Tryz.func42 rfl Zc Qf Qc (λw S' _ _=>.nil _ _ _) (Qef 3) (λ_=>[]) (λx0 h=>by cases h) (λs ρ w _ _ _=>Qj w _) [] (λ_ M=>shAt M 0) 600 ?_
 rintro⟨⟨z,r,mh,ch,nh,zh,mv,cv,nv,zv⟩,⟨⟩⟩ W ⟨h0,-⟩ -
 refine⟨rfl,?_⟩
 refine Qk (q:=QeV 3 6 z r mh ch nh zh mv cv nv zv) Zc ?_
 unfold QeV
 have h0:(⟨z,r,mh,ch,nh,zh,mv,cv,nv,zv⟩:ShS).good:=h0
 exact⟨⟨Zb,Zb⟩,Ql rfl ⟨⟨z,r,mh,ch,nh,zh,mv,cv,nv,zv⟩,()⟩ ⟨h0,rfl,Zd⟩ rfl rfl rfl⟩
theorem Qry (v:Value) (a:Int) (h:a<0\/4<=a) (w:World):Calls Tryz.prog 42 #[v,.int .i64 a] w λe w'=>e=.returned (.tuple #[.pointer none,.iface 50 (.int .i64 2)])/\w=w':=by
 rcases h with h|h
 . have h1:decide (a<0)=true:=decide_eq_true h
   go_enter Tryz.func42,Tryz.ntmps42
   go_wp2
   go_ret2
   exact⟨rfl,rfl⟩
 . have h1:decide (a<0)=false:=decide_eq_false Za
   have h2:decide (a>=4)=true:=decide_eq_true h
   go_enter Tryz.func42,Tryz.ntmps42
   go_wp2
   go_ret2
   exact⟨rfl,rfl⟩
def QhN:PCon:=⟨λargs=>match args with
 |[.c _,.c (.v (.int .i64 a))]=>a<0\/4<=a
 |_=>False,λargs=>.t [.c (.v (.pointer none)),.c (.v (.iface 50 (.int .i64 2)))],λ_=>none⟩
theorem Qka:(Con.pure QhN).holds Tryz.prog 42:=by
 intro w0 S
 refine⟨Zc,λρ args w hp hK=>?_⟩
 unfold QhN at hp;dsimp only at hp;split at hp
 case h_2=>exact hp.elim
 rename_i x a
 refine (Qry (x.den ρ) a hp w).mono ?_
 rintro e w' ⟨rfl,rfl⟩
 exact⟨rfl,Below.refl _ _⟩
def calX:TCon Sh (Int × OpA) Unit where
 pre z a:=a.1<0\/4<=a.1
 args a:=[.c (.v (.int .i64 a.1)),.a [.one (.v (.int .i64 a.2.k)),.one (.v (.int .i64 a.2.key)),.one (.v (.int .i64 a.2.x))]]
 ok _ _ _:=True
 next z _ _:=z
 val n z _ _:=.o (.c (.v (.iface 50 (.int .i64 2))))
 new _ _ _ _:=[]
 len:=0
abbrev QjH:MCon:=calX.low shM Yv ShS.good 17 7 Qdn
theorem Qqn:(ZH QjH).holds Tryz.prog 22:=by
 intro w0 S
 refine Qa (Γ:=[(42,.pure QhN)]) (λ_=>noW) Tryz.func22 rfl Zc Qf Qc (λw S' _ _=>.cons (Qka w _) (.nil _ _ _)) QjH (λ_=>[]) (λx0 h=>by cases h) (λs ρ w _ _ _=>Qj w _) [] (λ_ M=>shAt M 0) 600 ?_
 rintro⟨⟨z,r,mh,ch,nh,zh,mv,cv,nv,zv⟩,a,k,key,x⟩ W ⟨h0,h1⟩ -
 refine⟨rfl,?_⟩
 refine Qk (q:=(a<(0:Int)\/(4:Int)<=a)/\endN QjH [] (λ(x:SV) (M:List SB)=>shAt M 0) (Y3 z r mh ch nh zh mv cv nv zv,a,OpA.mk k key x) (ZG (Zt (.v (.iface 50 (ZA .i64 (2:Int)))))) (shI (shD z.4 z.5 15 (Zg z.6) ch nh 16 (Zg z.7) cv nv) z.1 (ZaO z) (stX (ZX z) r) (stA r) (stD r) (evB mh ch zh) (vdB mv cv zv) [Zj [sI k,sI key,sI x] 34])) Zc ?_
 have h0:(⟨z,r,mh,ch,nh,zh,mv,cv,nv,zv⟩:ShS).good:=h0
 exact⟨h1,Ql rfl ⟨⟨z,r,mh,ch,nh,zh,mv,cv,nv,zv⟩,()⟩ ⟨h0,rfl,Zd⟩ rfl rfl rfl⟩
def TCon.Does {X Y α χ:Type}(c:TCon Y α χ) (L:X->List SB) (y:X->Y) (good:X->Prop) (P:Program) (w0:World) (S:Nat->Prop) (f:FuncId) (a:α):Prop:=
 ∀(ρ:Nat->Nat) (z:Y) (F:List Nat) (w:World),c.pre z a->Kept S w0 w->Mem w (feet (denM ρ 0 [.abs (QD L y good z) F])) (denM ρ 0 [.abs (QD L y good z) F]) w ->
  Calls P f ((Zt (.p 0 0)::c.args a).map (Y2 ρ)).toArray w λe w'=>∃(x:List Nat × χ) (ρ':Nat->Nat),c.ok z a x.2/\(∀i,i<1->ρ' i=ρ i)/\(Yl (QD L y good (c.next z a x.2)) x.1::c.new 1 z a x.2).length=1+c.len/\e=.returned ((c.val 1 z a x.2).den ρ') /\
   Mem w (feet (denM ρ 0 [.abs (QD L y good z) F])) (denM ρ' 0 (.abs (QD L y good (c.next z a x.2)) x.1::c.new 1 z a x.2)) w'
theorem TCon.high_of {X Y α χ:Type}{c:TCon Y α χ}{L:X->List SB}{y:X->Y}{good:X->Prop}{P:Program}{f:FuncId}{w0:World}{S:Nat->Prop}(he:Qbt P f=true) (h:∀a,c.Does L y good P w0 S f a):(ZH (c.high L y good)).holdsAt P w0 S f:=
 ⟨he,λx0 h=>(by cases h),λρ s w hp hK HM=>h s.2.1 ρ s.1 s.2.2 w hp hK HM⟩
theorem TCon.does_of {X Y α χ α' χ':Type}(c:TCon Y α χ) (c':TCon Y α' χ') {L:X->List SB}{y:X->Y}{good:X->Prop}{n k:Nat}{find:List SA->List SB->Option (List Nat)}{P:Program}{f:FuncId}{w0:World}{S:Nat->Prop}
 (h:(ZH (c.low L y good n k find)).holdsAt P w0 S f) (hk:0<k) (hn:∀x,good x->(L x).length=n) (a:α) (a':α') (harg:c'.args a'=c.args a) (ha:QaN (sc 1) (c.args a)=true) (hpre:∀z,c'.pre z a'->c.pre z a)
 (hv:∀z r,c'.pre (y z) a'->c.ok (y z) a r->∀ρ ρ':Nat->Nat,(∀i,ρ' (1+i)=ρ (n+i))->ρ' 0=ρ 0->∃r',c'.ok (y z) a' r'/\c'.next (y z) a' r'=c.next (y z) a r/\(c'.val 1 (y z) a' r').den ρ'=(c.val n (y z) a r).den ρ/\denM ρ' 1 (c'.new 1 (y z) a' r')=denM ρ n (c.new n (y z) a r)/\(c'.new 1 (y z) a' r').length=c'.len):c'.Does L y good P w0 S f a':=by
 intro ρ z F w hp hK HM
 have hA:=HM.holds (.abs (ρ 0) (QD L y good z) F) (List.mem_singleton.2 rfl)
 obtain⟨x,ρ1,rfl,hg,hρ,HM1,hF⟩:=hA
 have harg2:(Zt (.p 0 0)::c'.args a').map (Y2 ρ)=(Zt (.p 0 0)::c.args a).map (Y2 ρ1):=by
  rw[harg]
  refine Yr λv hv=>?_
  have hav:v.av (sc 1)=true:=by
   rcases List.mem_cons.1 hv with rfl|hv
   . rfl
   . exact Qbk ha v hv
  exact SA.av_den (λi hi=>by have:=Xv hi;obtain rfl:i=0:=Za;exact hρ.symm) hav
 have hfe:∀g,feet (denM ρ 0 [.abs (QD L y good (y x)) F]) g↔feet (denM ρ1 0 (L x)) g:=λg=>by
  rw[hF g]
  exact⟨λ⟨e,he,hf⟩=>by obtain rfl:=List.mem_singleton.1 he;exact hf,λhg=>⟨_,List.mem_singleton.2 rfl,hg⟩⟩
 have:=h.2.2 ρ1 (x,a) w ⟨hg,hpre _ hp⟩ hK HM1
 rw[harg2]
 refine this.mono ?_
 rintro e w' ⟨⟨x',r⟩,ρ',⟨hg',hy',hok⟩,hag,hlen,rfl,HM'⟩
 have HM':Mem w (feet (denM ρ1 0 (L x))) (denM ρ' 0 (L x'++c.new n (y x) a r)) w':=HM'
 have hl':=hn x' hg'
 rw[Qft,hl',Zu]at HM'
 obtain⟨r',hok',hnext,hv1,hv2,hv4⟩:=hv x r hp hok ρ' (λi=>if i=0 then ρ' 0 else ρ' (n+(i-1))) (λi=>by rw[Ze Za,show 1+i-1=i by omega]) rfl
 refine⟨(feetL (denM ρ' 0 (L x')),r'),λi=>if i=0 then ρ' 0 else ρ' (n+(i-1)),hok',λi hi=>?_,?_,?_,?_⟩
 . obtain rfl:i=0:=Za
   show (if 0=0 then ρ' 0 else ρ' (n+(0-1)))=ρ 0
   rw[Zf rfl,hag 0 hk];exact hρ
 . show (c'.new 1 (y x) a' r').length+1=1+c'.len
   omega
 . show ZaN ((c.val n (y x) a r).den ρ')=ZaN ((c'.val 1 (y x) a' r').den (λi=>if i=0 then ρ' 0 else ρ' (n+(i-1))))
   rw[hv1]
 . show Mem w _ ([En.abs (if 0=0 then ρ' 0 else ρ' (n+(0-1))) (QD L y good (c'.next (y x) a' r')) (feetL (denM ρ' 0 (L x')))]++denM _ 1 (c'.new 1 (y x) a' r')) w'
   rw[Zf rfl,hv2,hnext]
   have hd:=List.pairwise_append.1 HM'.dist
   refine (Mem.subset (S:=feet (denM ρ1 0 (L x))) ⟨HM'.kept,λe he=>?_,λe he g hg=>?_,List.pairwise_append.2 ⟨YB _ _,hd.2.1,λe he f hf g hg hfg=>?_⟩⟩ (λg hg=>(hfe g).2 hg))
   . rcases List.mem_append.1 he with he|he
     . obtain rfl:=List.mem_singleton.1 he
       exact⟨x',ρ',hy',hg',rfl,⟨Kept.refl _ _,λe he=>HM'.holds e (Yc _ he),λe he g hg=>.inl ⟨e,he,hg⟩,hd.1⟩,λg=>(feetL_iff _ g).symm⟩
     . exact HM'.holds e (Z0 _ he)
   . rcases List.mem_append.1 he with he|he
     . obtain rfl:=List.mem_singleton.1 he
       obtain⟨e',he',hf'⟩:=(feetL_iff _ g).1 hg
       exact HM'.own e' (Yc _ he') g hf'
     . exact HM'.own e (Z0 _ he) g hg
   . obtain rfl:=List.mem_singleton.1 he
     obtain⟨e',he',hf'⟩:=(feetL_iff _ g).1 hg
     exact hd.2.2 e' he' f hf g hf' hfg
end
section
structure Cl where
 t:Int
 k:Int
 key:Int
 x:Int
 fr:Int
 to:Int
 whn:Int
 c:Int
 v:Int
def Cl.nil:Cl:=⟨0,0,0,0,0,0,0,0,0⟩
def Cl.end (i:Nat) (e:Ev) (c:Cl):Cl:=if c.t=e.t/\c.to=0 then { c with to:=(i:Int)+1,whn:=e.whn,c:=e.c,v:=e.v } else c
def Qav (l:List Cl) (i:Nat) (e:Ev):List Cl:=if e.kind=1 then l++[⟨e.t,e.k,e.key,e.x,(i:Int)+1,0,0,0,0⟩]else if e.kind=2 then l.map (Cl.end i e)else l
def clTo:List Ev->List Cl × Nat:=List.foldl (λp e=>(Qav p.1 p.2 e,p.2+1)) ([],0)
def Qg (h:List Ev):List Cl:=(clTo h).1
theorem Qql (h:List Ev):(clTo h).2=h.length:=by
 have key:∀(h:List Ev) (p:List Cl × Nat),(h.foldl (λp e=>(Qav p.1 p.2 e,p.2+1)) p).2=p.2+h.length:=by
  intro h
  induction h with
  |nil=>intro p;rfl
  |cons e h ih=>intro p;rw[List.foldl_cons,ih,Yf];dsimp only;omega
 have:=key h ([],0)
 unfold clTo;rw[this];exact Zu _
theorem Qdf (h:List Ev) (e:Ev):Qg (h++[e])=Qav (Qg h) h.length e:=by
 have e1:clTo (h++[e])=(Qav (clTo h).1 (clTo h).2 e,(clTo h).2+1):=by
  unfold clTo;rw[ZdR];rfl
 unfold Qg
 rw[e1,Qql]
theorem Qab {α:Type}{f:α->α}{l:List α}{d:α}{i:Nat}(h:i<l.length):(l.map f).getD i d=f (l.getD i d):=by
 simp[Zp,h]
structure EvOK (z:Sh) (g:Gh) (e:Ev):Prop where
 kind:e.kind=1\/e.kind=2\/e.kind=3
 t:e.kind≠3->∃t:Nat,t<4/\e.t=t
 op:e.kind≠3->opOk e.k e.key e.x=true
 s0:1<=e.step
 s1:e.step<=z.steps
 ans:e.kind=2->∃j:Nat,e.whn=(j:Int)+1/\j<g.n/\(z.deeds.getD j ZaA).d.c=e.c/\(z.deeds.getD j ZaA).d.v=e.v
structure Link (R:Rec) (of:List Nat) (t:Nat) (tog:Int) (i:Nat):Prop where
 yes:Qp R.tog t=tog->∃j:Nat,j<of.length/\R.whn.getD t 0=(j:Int)+1/\of.getD j 0=i
 no:Qp R.tog t≠tog->∀j,j<of.length->of.getD j 0≠i
structure HInv (z:Sh) (g:Gh) (of:List Nat):Prop where
 ln:of.length=z.deeds.length
 lt:∀j,j<of.length->of.getD j 0<(Qg z.hist).length
 op:∀j,j<of.length->((Qg z.hist).getD (of.getD j 0) Cl.nil).t=(z.deeds.getD j ZaA).d.t/\((Qg z.hist).getD (of.getD j 0) Cl.nil).k=(z.deeds.getD j ZaA).d.k/\((Qg z.hist).getD (of.getD j 0) Cl.nil).key=(z.deeds.getD j ZaA).d.key/\((Qg z.hist).getD (of.getD j 0) Cl.nil).x=(z.deeds.getD j ZaA).d.x
 inj:∀j k,j<k->k<of.length->of.getD j 0≠of.getD k 0
 ans:∀i,i<(Qg z.hist).length->((Qg z.hist).getD i Cl.nil).to≠0->∃j:Nat,((Qg z.hist).getD i Cl.nil).whn=(j:Int)+1/\j<g.n/\of.getD j 0=i/\(z.deeds.getD j ZaA).d.c=((Qg z.hist).getD i Cl.nil).c/\(z.deeds.getD j ZaA).d.v=((Qg z.hist).getD i Cl.nil).v
 opn:∀t,t<4->(z.w t).does≠0->∃i,i<(Qg z.hist).length/\((Qg z.hist).getD i Cl.nil).t=t/\((Qg z.hist).getD i Cl.nil).to=0/\((Qg z.hist).getD i Cl.nil).k=(z.w t).k/\((Qg z.hist).getD i Cl.nil).key=(z.w t).key/\((Qg z.hist).getD i Cl.nil).x=(z.w t).x/\Link g.R of t (z.w t).tog i/\Link g.Q (of.take g.n) t (z.w t).tog i
 uni:∀i i',i<(Qg z.hist).length->i'<(Qg z.hist).length->((Qg z.hist).getD i Cl.nil).to=0->((Qg z.hist).getD i' Cl.nil).to=0->((Qg z.hist).getD i Cl.nil).t=((Qg z.hist).getD i' Cl.nil).t->i=i'
 idl:∀t,t<4->(z.w t).does=0->∀i,i<(Qg z.hist).length->((Qg z.hist).getD i Cl.nil).t=t->((Qg z.hist).getD i Cl.nil).to≠0
 th:∀i,i<(Qg z.hist).length->∃t:Nat,t<4/\((Qg z.hist).getD i Cl.nil).t=t
 rt:∀j k,j<k->k<of.length->((Qg z.hist).getD (of.getD k 0) Cl.nil).to≠0->((Qg z.hist).getD (of.getD j 0) Cl.nil).fr<=((Qg z.hist).getD (of.getD k 0) Cl.nil).to
 tos:∀i,i<(Qg z.hist).length->0<=((Qg z.hist).getD i Cl.nil).to/\((Qg z.hist).getD i Cl.nil).to<=z.hist.length/\1<=((Qg z.hist).getD i Cl.nil).fr/\((Qg z.hist).getD i Cl.nil).fr<=z.hist.length
 ev:∀e∈z.hist,EvOK z g e
 clk:z.hist.Pairwise (λa b=>a.step<b.step)
 sl:(z.hist.length:Int)<=z.steps
theorem QpT (K:Int):HInv (Za9 K) (Gh.new K) [] where
 ln:=rfl
 lt:=λj hj=>absurd hj (ZP _)
 op:=λj hj=>absurd hj (ZP _)
 inj:=λj k _ hk=>absurd hk (ZP _)
 ans:=λi hi=>absurd hi (ZP _)
 opn:=λt _ h=>absurd rfl h
 uni:=λi _ hi=>absurd hi (ZP _)
 idl:=λ_ _ _ i hi=>absurd hi (ZP _)
 th:=λi hi=>absurd hi (ZP _)
 rt:=λj k _ hk=>absurd hk (ZP _)
 tos:=λi hi=>absurd hi (ZP _)
 ev:=λe he=>(by cases he)
 clk:=Zal
 sl:=ZQ 0
theorem EvOK.mono {z z':Sh}{g g':Gh}{e:Ev}(h:EvOK z g e) (hs:z.steps<=z'.steps) (hn:g.n<=g'.n) (hd:∀j,j<g.n->z'.deeds.getD j ZaA=z.deeds.getD j ZaA):EvOK z' g' e:=
 ⟨h.kind,h.t,h.op,h.s0,ZaR h.s1 hs,λhk=>by
  obtain⟨j,h1,h2,h3,h4⟩:=h.ans hk
  exact⟨j,h1,Zbe h2 hn,by rw[hd j h2];exact h3,by rw[hd j h2];exact h4⟩⟩
section
variable {z z':Sh}{g:Gh}{of:List Nat}
theorem HInv.same (H:HInv z g of) (hh:z'.hist=z.hist) (hd:z'.deeds=z.deeds) (hs:z.steps<=z'.steps) (hw:∀t,t<4->((z'.w t).does=0↔(z.w t).does=0)/\(z'.w t).tog=(z.w t).tog/\(z'.w t).k=(z.w t).k/\(z'.w t).key=(z.w t).key/\(z'.w t).x=(z.w t).x):HInv z' g of where
 ln:=by rw[hd];exact H.ln
 lt:=by rw[hh];exact H.lt
 op:=by rw[hh,hd];exact H.op
 inj:=H.inj
 ans:=by rw[hh,hd];exact H.ans
 opn:=λt ht hn=>by
  obtain⟨h0,h1,h2,h3,h4⟩:=hw t ht
  rw[hh,h1,h2,h3,h4]
  exact H.opn t ht (λh=>hn (h0.2 h))
 uni:=by rw[hh];exact H.uni
 idl:=λt ht h=>by rw[hh];exact H.idl t ht ((hw t ht).1.1 h)
 th:=by rw[hh];exact H.th
 rt:=by rw[hh];exact H.rt
 tos:=by rw[hh];exact H.tos
 ev:=by rw[hh];exact λe he=>(H.ev e he).mono hs (Zq _) (λj _=>by rw[hd])
 clk:=by rw[hh];exact H.clk
 sl:=by rw[hh];exact ZaR H.sl hs
theorem HInv.tell (H:HInv z g of) (hn:g.n<=z.deeds.length) {V' dv':Int}:HInv z ⟨V',g.R,dv',g.R,z.deeds.length⟩ of:=
 { H with
   ans:=λi hi h=>by
    obtain⟨j,a,b,c⟩:=H.ans i hi h
    exact⟨j,a,Zbe b hn,c⟩
   opn:=λt ht h=>by
    obtain⟨i,a,b,c,d,e,f,k,l⟩:=H.opn t ht h
    refine⟨i,a,b,c,d,e,f,k,?_⟩
    show Link g.R (of.take z.deeds.length) t _ i
    rw[<- H.ln,Yt];exact k
   ev:=λe he=>(H.ev e he).mono (ZQ _) hn (λ_ _=>rfl) }
theorem HInv.cut (H:HInv z g of) (hn:g.n<=z.deeds.length) (hw:∀t,t<4->((z'.w t).does=0↔(z.w t).does=0)/\(z'.w t).tog=(z.w t).tog/\(z'.w t).k=(z.w t).k/\(z'.w t).key=(z.w t).key/\(z'.w t).x=(z.w t).x) (hh:z'.hist=z.hist) (hd:z'.deeds=z.deeds.take g.n) (hs:z.steps<=z'.steps) {V':Int}:HInv z' ⟨V',g.Q,V',g.Q,g.n⟩ (of.take g.n):=by
 have hl:(of.take g.n).length=g.n:=by rw[ZW,H.ln];omega
 have ho:∀j,j<g.n->(of.take g.n).getD j 0=of.getD j 0:=λj hj=>by
  simp only[Zp,ZO];rw[Zf hj]
 have hD:∀j,j<g.n->(z.deeds.take g.n).getD j ZaA=z.deeds.getD j ZaA:=λj hj=>by
  simp only[Zp,ZO];rw[Zf hj]
 have hlen:g.n<=of.length:=by rw[H.ln];exact hn
 refine⟨by rw[hl,hd,ZW];omega,λj hj=>?_,λj hj=>?_,λj k h hk=>?_,λi hi h=>?_,λt ht h=>?_,?_,λt ht h=>?_,?_,λj k h hk=>?_,?_,?_,?_,?_⟩
 . rw[hl]at hj;rw[ho j hj,hh];exact H.lt j Za
 . rw[hl]at hj;rw[ho j hj,hh,hd,hD j hj];exact H.op j Za
 . rw[hl]at hk;rw[ho j Za,ho k hk];exact H.inj j k h Za
 . rw[hh]at hi h
   obtain⟨j,a,b,c,d,e⟩:=H.ans i hi h
   exact⟨j,by rw[hh];exact a,b,by rw[ho j b];exact c,by rw[hd,hD j b,hh];exact d,by rw[hd,hD j b,hh];exact e⟩
 . obtain⟨h0,h1,h2,h3,h4⟩:=hw t ht
   obtain⟨i,a,b,c,d,e,f,k,l⟩:=H.opn t ht (λh'=>h (h0.2 h'))
   rw[hh,h1,h2,h3,h4]
   refine⟨i,a,b,c,d,e,f,l,?_⟩
   show Link g.Q ((of.take g.n).take g.n) t _ i
   rw[List.take_take,Nat.min_self];exact l
 . rw[hh];exact H.uni
 . rw[hh];exact H.idl t ht ((hw t ht).1.1 h)
 . rw[hh];exact H.th
 . rw[hl]at hk;rw[ho j Za,ho k hk,hh];exact H.rt j k h Za
 . rw[hh];exact H.tos
 . rw[hh];exact λe he=>(H.ev e he).mono hs (Zq _) (λj hj=>by rw[hd,hD j hj])
 . rw[hh];exact H.clk
 . rw[hh];exact ZaR H.sl hs
theorem HInv.crashed (H:HInv z g of) (hh:z'.hist=z.hist++[⟨3,0,0,0,0,0,0,0,z.steps+1⟩]) (hd:z'.deeds=z.deeds) (hs:z'.steps=z.steps+1) (hw:z'.w=z.w):HInv z' g of:=by
 have hc:Qg z'.hist=Qg z.hist:=by
  rw[hh,Qdf];unfold Qav;rw[Ze (by show ¬(3:Int)=1;decide),Ze (by show ¬(3:Int)=2;decide)]
 have hl:(z'.hist.length:Int)=z.hist.length+1:=by rw[hh,Zw];rfl
 have hsl:=H.sl
 refine⟨by rw[hd];exact H.ln,by rw[hc];exact H.lt,by rw[hc,hd];exact H.op,H.inj,by rw[hc,hd];exact H.ans,by rw[hc,hw];exact H.opn,by rw[hc];exact H.uni,by rw[hc,hw];exact H.idl,by rw[hc];exact H.th,by rw[hc];exact H.rt,λi hi=>?_,?_,?_,by rw[hl,hs];omega⟩
 . rw[hc]at hi ⊢
   have:=H.tos i hi
   rw[hl];omega
 . rw[hh]
   intro e he
   rcases List.mem_append.1 he with he|he
   . exact (H.ev e he).mono Za (Zq _) (λj _=>by rw[hd])
   . obtain rfl:=List.mem_singleton.1 he
     exact⟨.inr (.inr rfl),λh=>absurd rfl h,λh=>absurd rfl h,by show (1:Int)<=z.steps+1;omega,by show z.steps+1<=z'.steps;omega,λh=>absurd h (by show ¬(3:Int)=2;decide)⟩
 . rw[hh]
   refine List.pairwise_append.2 ⟨H.clk,YB _ _,λa ha b hb=>?_⟩
   obtain rfl:=List.mem_singleton.1 hb
   have:=(H.ev a ha).s1
   show a.step<z.steps+1
   omega
end
end
section
section
variable {K:Int}{z:Sh}{g:Gh}{of:List Nat}{t:Nat}
theorem HInv.called (H:HInv z g of) (I:ShInv K z g) (ht:t<4) (hd:(z.w t).does=0) {k key x:Int}(ho:opOk k key x=true):HInv (z.called t k key x) g of:=by
 have hc:Qg (z.called t k key x).hist=Qg z.hist++[⟨t,k,key,x,(z.hist.length:Int)+1,0,0,0,0⟩]:=by
  show Qg (z.hist++[_])=_
  rw[Qdf];unfold Qav;rw[Zf rfl]
 have hl:(Qg (z.called t k key x).hist).length=(Qg z.hist).length+1:=by rw[hc,Zw];rfl
 have hold:∀i,i<(Qg z.hist).length->(Qg (z.called t k key x).hist).getD i Cl.nil=(Qg z.hist).getD i Cl.nil:=λi hi=>by rw[hc];exact Xe hi
 have hnew:(Qg (z.called t k key x).hist).getD (Qg z.hist).length Cl.nil=⟨t,k,key,x,(z.hist.length:Int)+1,0,0,0,0⟩:=by
  rw[hc];have:=QaF (l:=Qg z.hist) (m:=[(⟨t,k,key,x,(z.hist.length:Int)+1,0,0,0,0⟩:Cl)]) (d:=Cl.nil) (i:=0);rw[Yu]at this;exact this
 have hcase:∀i,i<(Qg (z.called t k key x).hist).length->i<(Qg z.hist).length\/i=(Qg z.hist).length:=λi hi=>Za
 have hhl:((z.called t k key x).hist.length:Int)=z.hist.length+1:=by show ((z.hist++[_]).length:Int)=_;rw[Zw];rfl
 have T:=I.th t ht
 obtain⟨i1,i2,-⟩:=T.idle hd
 have h01:=T.tg01
 have hsl:=H.sl
 have hw:∀u,u≠t->(z.called t k key x).w u=z.w u:=λu hu=>Xd _ _ hu
 have hwt:(z.called t k key x).w t=Wk.call (z.w t).th k key x (1-z.tog t) false:=Qm _ _ _
 refine⟨H.ln,λj hj=>by rw[hl];exact Nat.lt_succ_of_lt (H.lt j hj),λj hj=>by rw[hold _ (H.lt j hj)];exact H.op j hj,H.inj,λi hi h=>?_,λu hu hn=>?_,λi i' hi hi' h h' e=>?_,λu hu hn i hi e=>?_,λi hi=>?_,λj k' hjk hk h=>?_,λi hi=>?_,?_,?_,?_⟩
 . rcases hcase i hi with h1|h1
   . rw[hold i h1]at h ⊢;exact H.ans i h1 h
   . rw[h1,hnew]at h;exact absurd rfl h
 . by_cases e:u=t
   . subst e
     refine⟨(Qg z.hist).length,Za,by rw[hnew],by rw[hnew],by rw[hnew,hwt];rfl,by rw[hnew,hwt];rfl,by rw[hnew,hwt];rfl,⟨λh=>?_,λ_ j hj=>ZbH (H.lt j hj)⟩,⟨λh=>?_,λ_ j hj=>?_⟩⟩
     . rw[hwt]at h;exact absurd h (by show ¬Qp g.R.tog u=1-z.tog u;omega)
     . rw[hwt]at h;exact absurd h (by show ¬Qp g.Q.tog u=1-z.tog u;omega)
     . rw[ZW]at hj
       have:(of.take g.n).getD j 0=of.getD j 0:=by simp only[Zp,ZO];rw[Zf Za]
       rw[this];exact ZbH (H.lt j Za)
   . rw[hw u e]at hn ⊢
     obtain⟨i,a,b,c,d⟩:=H.opn u hu hn
     exact⟨i,Za,by rw[hold i a];exact b,by rw[hold i a];exact c,by rw[hold i a];exact d⟩
 . rcases hcase i hi with h1|h1<;>rcases hcase i' hi' with h2|h2
   . rw[hold i h1]at h e;rw[hold i' h2]at h' e;exact H.uni i i' h1 h2 h h' e
   . rw[h2,hnew,hold i h1]at e;rw[hold i h1]at h;exact absurd h (H.idl t ht hd i h1 e)
   . rw[h1,hnew,hold i' h2]at e;rw[hold i' h2]at h';exact absurd h' (H.idl t ht hd i' h2 e.symm)
   . omega
 . by_cases eu:u=t
   . subst eu;rw[hwt]at hn;exact absurd hn (by show ¬(1:Int)=0;decide)
   . rw[hw u eu]at hn
     rcases hcase i hi with h1|h1
     . rw[hold i h1]at e ⊢;exact H.idl u hu hn i h1 e
     . rw[h1,hnew]at e;exact absurd e (by show ¬(t:Int)=u;omega)
 . rcases hcase i hi with h1|h1
   . rw[hold i h1];exact H.th i h1
   . rw[h1,hnew];exact⟨t,ht,rfl⟩
 . have h1:=H.lt j Za
   have h2:=H.lt k' hk
   rw[hold _ h1,hold _ h2];rw[hold _ h2]at h;exact H.rt j k' hjk hk h
 . rcases hcase i hi with h1|h1
   . rw[hold i h1];have:=H.tos i h1;omega
   . rw[h1,hnew];dsimp only;omega
 . intro e he
   rcases List.mem_append.1 (show e∈z.hist++[_]from he)with he|he
   . exact (H.ev e he).mono (by show z.steps<=z.steps+1;omega) (Zq _) (λj _=>rfl)
   . obtain rfl:=List.mem_singleton.1 he
     exact⟨.inl rfl,λ_=>⟨t,ht,rfl⟩,λ_=>ho,by show (1:Int)<=z.steps+1;omega,by show z.steps+1<=z.steps+1;omega,λh=>absurd h (by show ¬(1:Int)=2;decide)⟩
 . refine List.pairwise_append.2 ⟨H.clk,YB _ _,λa ha b hb=>?_⟩
   obtain rfl:=List.mem_singleton.1 hb
   have:=(H.ev a ha).s1
   show a.step<z.steps+1
   omega
 . rw[hhl];show _<=z.steps+1;omega
theorem QqC {c v c' v':Int}(h:QX c v) (h':QX c' v') (e:ansW c v=ansW c' v'):c=c'/\v=v':=by
 have a:=Qeq h
 have b:=Qeq h'
 rw[e]at a
 exact⟨a.1.symm.trans b.1,a.2.1.symm.trans b.2.1⟩
theorem HInv.answered (H:HInv z g of) (I:ShInv K z g) (ht:t<4) (hn:(z.w t).does≠0) {w':Wk}(hT:Told g.Q t w') (e0:w'.does=0) (e1:w'.tog=(z.w t).tog/\w'.k=(z.w t).k/\w'.key=(z.w t).key/\w'.x=(z.w t).x) {m':Nat->Int}{s':Sto}:HInv ((z.moved t ⟨w',m',s'⟩).answered t w') g of:=by
 obtain⟨i0,a0,b0,c0,d1,d2,d3,-,LQ⟩:=H.opn t ht hn
 have hhist:((z.moved t ⟨w',m',s'⟩).answered t w').hist=z.hist++[⟨2,t,w'.k,w'.key,w'.x,w'.oc,w'.ov,w'.whn,z.steps+1⟩]:=rfl
 generalize hz':(z.moved t ⟨w',m',s'⟩).answered t w'=z' at hhist ⊢
 have hdeeds:z'.deeds=z.deeds:=by rw[<- hz'];rfl
 have hsteps:z'.steps=z.steps+1:=by rw[<- hz'];rfl
 have hwt:z'.w t=w':=by rw[<- hz'];exact Qm _ _ _
 have hw:∀u,u≠t->z'.w u=z.w u:=λu hu=>by rw[<- hz'];exact Xd _ _ hu
 have hc:Qg z'.hist=(Qg z.hist).map (Cl.end z.hist.length ⟨2,t,w'.k,w'.key,w'.x,w'.oc,w'.ov,w'.whn,z.steps+1⟩):=by
  rw[hhist,Qdf];unfold Qav;rw[Ze (by show ¬(2:Int)=1;decide),Zf rfl]
 have hl:(Qg z'.hist).length=(Qg z.hist).length:=by rw[hc,ZN]
 have hC:∀i,i<(Qg z.hist).length->i≠i0->(Qg z'.hist).getD i Cl.nil=(Qg z.hist).getD i Cl.nil:=λi hi hne=>by
  rw[hc,Qab hi]
  unfold Cl.end
  rw[Ze]
  rintro⟨h1,h2⟩
  exact hne (H.uni i i0 hi a0 h2 c0 (by rw[b0];exact h1))
 have hC0:(Qg z'.hist).getD i0 Cl.nil={ (Qg z.hist).getD i0 Cl.nil with to:=(z.hist.length:Int)+1,whn:=w'.whn,c:=w'.oc,v:=w'.ov }:=by
  rw[hc,Qab a0]
  unfold Cl.end
  rw[Zf ⟨b0,c0⟩]
 have hfr:∀i,i<(Qg z.hist).length->((Qg z'.hist).getD i Cl.nil).fr=((Qg z.hist).getD i Cl.nil).fr/\((Qg z'.hist).getD i Cl.nil).t=((Qg z.hist).getD i Cl.nil).t/\((Qg z'.hist).getD i Cl.nil).k=((Qg z.hist).getD i Cl.nil).k/\((Qg z'.hist).getD i Cl.nil).key=((Qg z.hist).getD i Cl.nil).key/\((Qg z'.hist).getD i Cl.nil).x=((Qg z.hist).getD i Cl.nil).x:=λi hi=>by
  by_cases e:i=i0
  . subst e;rw[hC0];exact⟨rfl,rfl,rfl,rfl,rfl⟩
  . rw[hC i hi e];exact⟨rfl,rfl,rfl,rfl,rfl⟩
 have hhl:(z'.hist.length:Int)=z.hist.length+1:=by rw[hhist,Zw];rfl
 have hsl:=H.sl
 obtain⟨j0,f1,f2,f3⟩:=LQ.yes (hT.bit.trans e1.1)
 have f1':j0<g.n/\j0<of.length:=by rw[ZW]at f1;omega
 have f3':of.getD j0 0=i0:=by rw[<- f3];simp only[Zp,ZO];rw[Zf f1'.1]
 have hD:(z.deeds.take g.n).getD j0 ZaA=z.deeds.getD j0 ZaA:=by simp only[Zp,ZO];rw[Zf f1'.1]
 have hcv:(z.deeds.getD j0 ZaA).d.c=w'.oc/\(z.deeds.getD j0 ZaA).d.v=w'.ov:=by
  rcases I.gl.sumQ.each t ht with⟨h0,h1,h2⟩|⟨i,h1,h2,h3,h4,h5,-⟩
  . omega
  . obtain rfl:i=j0:=Za
    rw[hD]at h4 h5
    exact QqC h4 hT.ok (h5.symm.trans hT.ans)
 have hwhn:w'.whn=(j0:Int)+1:=by rw[<- hT.whn];exact f2
 refine⟨by rw[hdeeds];exact H.ln,λj hj=>by rw[hl];exact H.lt j hj,λj hj=>?_,H.inj,λi hi h=>?_,λu hu hn'=>?_,λi i' hi hi' h h' e=>?_,λu hu hn' i hi e=>?_,λi hi=>?_,λj k' hjk hk h=>?_,λi hi=>?_,?_,?_,?_⟩
 . have h1:=hfr _ (H.lt j hj)
   rw[h1.2.1,h1.2.2.1,h1.2.2.2.1,h1.2.2.2.2,hdeeds];exact H.op j hj
 . rw[hl]at hi
   by_cases e:i=i0
   . subst e
     rw[hC0,hdeeds]
     exact⟨j0,hwhn,f1'.1,f3',hcv.1,hcv.2⟩
   . rw[hC i hi e]at h ⊢
     rw[hdeeds];exact H.ans i hi h
 . by_cases e:u=t
   . subst e;rw[hwt]at hn';exact absurd e0 hn'
   . rw[hw u e]at hn' ⊢
     obtain⟨i,a,b,c,d⟩:=H.opn u hu hn'
     have hne:i≠i0:=λh=>by rw[h,b0]at b;omega
     exact⟨i,by rw[hl];exact a,by rw[hC i a hne];exact b,by rw[hC i a hne];exact c,by rw[hC i a hne];exact d⟩
 . rw[hl]at hi hi'
   have n1:i≠i0:=λh1=>by rw[h1,hC0]at h;exact absurd h (by show ¬(z.hist.length:Int)+1=0;omega)
   have n2:i'≠i0:=λh1=>by rw[h1,hC0]at h';exact absurd h' (by show ¬(z.hist.length:Int)+1=0;omega)
   rw[hC i hi n1]at h e;rw[hC i' hi' n2]at h' e
   exact H.uni i i' hi hi' h h' e
 . rw[hl]at hi
   by_cases ei:i=i0
   . subst ei;rw[hC0];show ¬(z.hist.length:Int)+1=0;omega
   . rw[hC i hi ei]at e ⊢
     by_cases eu:u=t
     . subst eu
       intro h
       exact ei (H.uni i i0 hi a0 h c0 (by rw[b0];exact e))
     . rw[hw u eu]at hn';exact H.idl u hu hn' i hi e
 . rw[hl]at hi;rw[(hfr i hi).2.1];exact H.th i hi
 . have h1:=H.lt j Za
   have h2:=H.lt k' hk
   rw[(hfr _ h1).1]
   by_cases e:of.getD k' 0=i0
   . rw[e,hC0]
     have:=H.tos _ h1
     show _<=(z.hist.length:Int)+1
     omega
   . rw[hC _ h2 e]at h ⊢;exact H.rt j k' hjk hk h
 . rw[hl]at hi
   rw[(hfr i hi).1,hhl]
   have:=H.tos i hi
   by_cases e:i=i0
   . subst e;rw[hC0];dsimp only;omega
   . rw[hC i hi e];omega
 . rw[hhist]
   intro e he
   rcases List.mem_append.1 he with he|he
   . exact (H.ev e he).mono Za (Zq _) (λj _=>by rw[hdeeds])
   . obtain rfl:=List.mem_singleton.1 he
     refine⟨.inr (.inl rfl),λ_=>⟨t,ht,rfl⟩,λ_=>?_,by show (1:Int)<=z.steps+1;omega,by show z.steps+1<=z'.steps;omega,λ_=>⟨j0,hwhn,f1'.1,by rw[hdeeds];exact hcv.1,by rw[hdeeds];exact hcv.2⟩⟩
     show opOk w'.k w'.key w'.x=true
     rw[e1.2.1,e1.2.2.1,e1.2.2.2];exact (I.th t ht).op hn
 . rw[hhist]
   refine List.pairwise_append.2 ⟨H.clk,YB _ _,λa ha b hb=>?_⟩
   obtain rfl:=List.mem_singleton.1 hb
   have:=(H.ev a ha).s1
   show a.step<z.steps+1
   omega
 . rw[hhl,hsteps];omega
theorem QqQ:∀ {l:List Ask}{B:Int}{r:Rec},RecOK B r->AsksOK l->l.Pairwise (λa b=>a.t≠b.t)->(∀a∈l,bOpen r a=true) ->
 (bD r l).length=l.length/\∀i,i<l.length->((bD r l).getD i ZR).t=(l.getD i Ask.nil).t/\((bD r l).getD i ZR).k=(l.getD i Ask.nil).k/\((bD r l).getD i ZR).key=(l.getD i Ask.nil).key/\((bD r l).getD i ZR).x=(l.getD i Ask.nil).x
 |[],B,r,_,_,_,_=>⟨rfl,λi hi=>absurd hi (ZP _)⟩
 |a::l,B,r,h,ha,hp,ho=>by
  rw[List.pairwise_cons]at hp
  have h1:=ho a ZC
  have ed:bDs r a=[QdN r a]:=by unfold bDs;rw[h1];rfl
  have e:bD r (a::l)=QdN r a::bD (Xw r a) l:=by show bDs r a++bD (Xw r a) l=_;rw[ed];rfl
  have ih:=QqQ (l:=l) (Qdi h (ha a ZC)) ha.tail hp.2 (λb hb=>by
   have hb1:=ho b (ZF _ hb)
   have h2:=QcS h (ha a ZC) b.t (ha b (ZF _ hb)).1
   rw[Ze (λe=>hp.1 b hb e.symm)]at h2
   unfold bOpen at hb1 ⊢
   rw[h2];exact hb1)
  rw[e]
  refine⟨by rw[Yf,Yf,ih.1],λi hi=>?_⟩
  cases i with
  |zero=>exact⟨rfl,rfl,rfl,rfl⟩
  |succ i=>
   have:=ih.2 i (by rw[Yf]at hi;omega)
   simpa using this
end
end
section
section
variable {K:Int}{z:Sh}{g:Gh}{of:List Nat}{t:Nat}
theorem HInv.indexed (H:HInv z g of) (I:ShInv K z g) (hs:z.steps<100000000) {z':Sh}{l:List Ask}{i4 h0:Nat}(hG:Gath z.w g.R h0 l i4) (hV:g.V=g.dv)
 (hh:z'.hist=z.hist) (hd:z'.deeds=z.deeds++(bD g.R l).map (Zd7 (g.V+1))) (hst:z.steps<=z'.steps) (hw:∀t,t<4->((z'.w t).does=0↔(z.w t).does=0)/\(z'.w t).tog=(z.w t).tog/\(z'.w t).k=(z.w t).k/\(z'.w t).key=(z.w t).key/\(z'.w t).x=(z.w t).x) {V':Int}:
 ∃of',HInv z' ⟨V',bDo g.R l,g.dv,g.Q,g.n⟩ of':=by
 have hok:=hG.okA I
 have hne:l.Pairwise (λa b=>a.t≠b.t):=hG.asc.imp (λh=>ZbH h)
 have hop:∀a∈l,bOpen g.R a=true:=λa ha=>by
  have:=(hG.want a ha).opn
  unfold bOpen;simpa using this
 obtain⟨b1,b2⟩:=QqQ I.gl.sumR.ok hok hne hop
 have hnn:g.n=z.deeds.length:=(I.gl.same hV).2
 have hN:=(I.gl.next hs hok).1
 have hex:∀t,∃i,t<4->(z.w t).does≠0->i<(Qg z.hist).length/\((Qg z.hist).getD i Cl.nil).t=t/\((Qg z.hist).getD i Cl.nil).to=0/\((Qg z.hist).getD i Cl.nil).k=(z.w t).k/\((Qg z.hist).getD i Cl.nil).key=(z.w t).key/\((Qg z.hist).getD i Cl.nil).x=(z.w t).x/\Link g.R of t (z.w t).tog i/\Link g.Q (of.take g.n) t (z.w t).tog i:=λt=>by
  by_cases h:t<4/\(z.w t).does≠0
  . obtain⟨i,hi⟩:=H.opn t h.1 h.2
    exact⟨i,λ_ _=>hi⟩
  . exact⟨0,λh1 h2=>absurd ⟨h1,h2⟩ h⟩
 obtain⟨ix,hix⟩:=Classical.axiomOfChoice hex
 have hW:∀i,i<l.length->Want z.w g.R (l.getD i Ask.nil):=λi hi=>by
  rw[Zp,Zy hi];exact hG.want _ (ZaB hi)
 have hX:∀i,i<l.length->_:=λi hi=>hix (l.getD i Ask.nil).t (hW i hi).t4 (hW i hi).act
 have hpair:∀i j,i<j->j<l.length->(l.getD i Ask.nil).t≠(l.getD j Ask.nil).t:=λi j hij hj=>by
  have:=List.pairwise_iff_getElem.1 hne i j Za hj hij
  simpa [Zp,Zy (show i<l.length by omega),Zy hj] using this
 have hlm:(l.map λa=>ix a.t).length=l.length:=ZN _
 have oN:∀i,i<l.length->(of++l.map λa=>ix a.t).getD (of.length+i) 0=ix (l.getD i Ask.nil).t:=λi hi=>by
  rw[QaF];simp[Zp,hi]
 have oO:∀j,j<of.length->(of++l.map λa=>ix a.t).getD j 0=of.getD j 0:=λj hj=>Xe hj
 have dO:∀j,j<z.deeds.length->(z.deeds++(bD g.R l).map (Zd7 (g.V+1))).getD j ZaA=z.deeds.getD j ZaA:=λj hj=>Xe hj
 have dN:∀i,i<l.length->((z.deeds++(bD g.R l).map (Zd7 (g.V+1))).getD (z.deeds.length+i) ZaA).d=(bD g.R l).getD i ZR:=λi hi=>by
  rw[QaF];simp[Zp,show i<(bD g.R l).length by omega]
 have hlen:(of++l.map λa=>ix a.t).length=of.length+l.length:=by rw[Zw,hlm]
 have hdl:(z.deeds++(bD g.R l).map (Zd7 (g.V+1))).length=z.deeds.length+l.length:=by rw[Zw,ZN,b1]
 have split:∀j,j<of.length+l.length->j<of.length\/∃i,i<l.length/\j=of.length+i:=λj hj=>by
  by_cases h:j<of.length
  . exact .inl h
  . exact .inr ⟨j-of.length,Za,Za⟩
 have hol:=H.ln
 refine⟨of++l.map λa=>ix a.t,by rw[hlen,hd,hdl,hol],λj hj=>?_,λj hj=>?_,λj k hjk hk=>?_,λi hi h=>?_,λu hu hn=>?_,by rw[hh];exact H.uni,λu hu hn=>by rw[hh];exact H.idl u hu ((hw u hu).1.1 hn),by rw[hh];exact H.th,λj k hjk hk h=>?_,by rw[hh];exact H.tos,?_,by rw[hh];exact H.clk,by rw[hh];exact ZaR H.sl hst⟩
 . rw[hlen]at hj;rw[hh]
   rcases split j hj with h|⟨i,hi,rfl⟩
   . rw[oO j h];exact H.lt j h
   . rw[oN i hi];exact (hX i hi).1
 . rw[hlen]at hj;rw[hh,hd]
   rcases split j hj with h|⟨i,hi,rfl⟩
   . rw[oO j h,dO j Za];exact H.op j h
   . have e:=hX i hi
     have w:=hW i hi
     have b:=b2 i hi
     rw[oN i hi,hol,dN i hi,b.1,b.2.1,b.2.2.1,b.2.2.2]
     exact⟨e.2.1,e.2.2.2.1.trans w.k,e.2.2.2.2.1.trans w.key,e.2.2.2.2.2.1.trans w.x⟩
 . rw[hlen]at hk
   rcases split k hk with h|⟨i,hi,rfl⟩
   . rw[oO j Za,oO k h];exact H.inj j k hjk h
   . rw[oN i hi]
     rcases split j Za with h2|⟨i2,hi2,rfl⟩
     . rw[oO j h2]
       exact (hX i hi).2.2.2.2.2.2.1.no (by rw[(hW i hi).tog];exact (hW i hi).opn) j h2
     . rw[oN i2 hi2]
       intro e
       have h1:=(hX i2 hi2).2.1
       rw[e,(hX i hi).2.1]at h1
       exact hpair i2 i Za hi Za
 . rw[hh]at hi h
   obtain⟨j,a,b,c,d,e⟩:=H.ans i hi h
   have b':j<g.n:=b
   exact⟨j,by rw[hh];exact a,b,by rw[oO j Za];exact c,by rw[hd,dO j Za,hh];exact d,by rw[hd,dO j Za,hh];exact e⟩
 . obtain⟨w0,w1,w2,w3,w4⟩:=hw u hu
   have hn0:(z.w u).does≠0:=λh=>hn (w0.2 h)
   obtain⟨i1,i2,i3,i4,i5,i6,i7,i8⟩:=hix u hu hn0
   refine⟨ix u,by rw[hh];exact i1,by rw[hh];exact i2,by rw[hh];exact i3,by rw[hh,w2];exact i4,by rw[hh,w3];exact i5,by rw[hh,w4];exact i6,?_,?_⟩
   . rw[w1]
     show Link (bDo g.R l) _ u _ _
     by_cases hx:∃i,i<l.length/\(l.getD i Ask.nil).t=u
     . obtain⟨p,hp,hpu⟩:=hx
       have hmem:l.getD p Ask.nil∈l:=by rw[Zp,Zy hp];exact ZaB hp
       have hbit:Qp (bR g.R l).tog u=(z.w u).tog:=by
        have h1:=QhZ I.gl.sumR.ok hok hne _ hmem
        have h2:Qp (bR g.R l).tog (l.getD p Ask.nil).t=(l.getD p Ask.nil).g:=by simpa [bOpen] using h1
        rw[hpu]at h2
        have h3:=(hW p hp).tog
        rw[hpu]at h3
        rw[h2,h3]
       refine⟨λ_=>?_,λh=>absurd hbit h⟩
       have hdp:((z.deeds++(bD g.R l).map (Zd7 (g.V+1))).getD (z.deeds.length+p) ZaA).d.t=u:=by rw[dN p hp,(b2 p hp).1];exact congrArg (λq:Nat=>(q:Int)) hpu
       rcases hN.each u hu with⟨h0,-,-⟩|⟨q,q1,q2,q3,q4,q5,q6⟩
       . exfalso
         unfold cntT at h0
         rw[List.countP_eq_zero]at h0
         have hlt:z.deeds.length+p<(z.deeds++(bD g.R l).map (Zd7 (g.V+1))).length:=Za
         have h2:=h0 _ (ZaB hlt)
         rw[Zp,Zy hlt]at hdp
         exact h2 (by simpa using hdp)
       . rw[hdl]at q2
         have hqp:q=z.deeds.length+p:=by
          rcases Nat.lt_trichotomy q (z.deeds.length+p)with h|h|h
          . exact absurd hdp (q6 _ h Za)
          . exact h
          . obtain⟨i',rfl⟩:∃i',q=z.deeds.length+i':=⟨q-z.deeds.length,Za⟩
            rw[dN i' Za,(b2 i' Za).1]at q3
            exact absurd Za (hpair p i' Za Za)
         exact⟨q,by rw[hlen];omega,q1,by rw[hqp,<- hol,oN p hp,hpu]⟩
     . have hnot:∀a∈l,a.t≠u:=λa ha e=>by
        obtain⟨p,hp,rfl⟩:=List.mem_iff_getElem.1 ha
        exact hx ⟨p,hp,by rw[Zp,Zy hp];exact e⟩
       have hk:=Qfy I.gl.sumR.ok hok u hu hnot
       refine⟨λh=>?_,λh j hj=>?_⟩
       . have h':Qp g.R.tog u=(z.w u).tog:=hk.2.2.symm.trans h
         obtain⟨j,c1,c2,c3⟩:=i7.yes h'
         exact⟨j,by rw[hlen];omega,hk.2.1.trans c2,by rw[oO j c1];exact c3⟩
       . have h':Qp g.R.tog u≠(z.w u).tog:=λe=>h (hk.2.2.trans e)
         rw[hlen]at hj
         rcases split j hj with h2|⟨i',hi',rfl⟩
         . rw[oO j h2];exact i7.no h' j h2
         . rw[oN i' hi']
           intro e
           have h3:=(hX i' hi').2.1
           rw[e,i2]at h3
           exact hx ⟨i',hi',Za⟩
   . rw[w1]
     show Link g.Q (ZY g.n _) u _ _
     have e1:(of++l.map λa=>ix a.t).take g.n=of.take g.n:=by
      rw[hnn,<- hol,List.take_left',Yt];rfl
     rw[e1];exact i8
 . rw[hlen]at hk
   rw[hh]at h ⊢
   rcases split k hk with h2|⟨i,hi,rfl⟩
   . rw[oO k h2]at h ⊢;rw[oO j Za];exact H.rt j k hjk h2 h
   . rw[oN i hi]at h;exact absurd (hX i hi).2.2.1 h
 . rw[hh]
   intro e he
   refine (H.ev e he).mono hst (Zq _) (λj hj=>?_)
   rw[hd,dO j Za]
theorem QcB (w:Wk) (n d:Int):(w.next n d).th=w.th/\(w.next n d).tog=w.tog/\(w.next n d).k=w.k/\(w.next n d).key=w.key/\(w.next n d).x=w.x:=by
 unfold Y1;split<;>exact⟨rfl,rfl,rfl,rfl,rfl⟩
theorem Qfz (w:Wk):w.all.th=w.th/\w.all.tog=w.tog/\w.all.k=w.k/\w.all.key=w.key/\w.all.x=w.x/\w.all.does=w.does:=by
 unfold Wk.all;split<;>exact⟨rfl,rfl,rfl,rfl,rfl,rfl⟩
theorem QgB (z:WSt):(Qe z).1.w.th=z.w.th/\(Qe z).1.w.tog=z.w.tog/\(Qe z).1.w.k=z.w.k/\(Qe z).1.w.key=z.w.key/\(Qe z).1.w.x=z.w.x:=by
 unfold Qe
 split
 . exact⟨rfl,rfl,rfl,rfl,rfl⟩
 split
 . unfold sayP;repeat' split
   all_goals exact⟨rfl,rfl,rfl,rfl,rfl⟩
 split
 . unfold Qat
   split
   . exact⟨rfl,rfl,rfl,rfl,rfl⟩
   split
   . exact QcB _ 32 6
   split
   . split
     . exact⟨rfl,rfl,rfl,rfl,rfl⟩
     . have a:=Qfz (Y1 z.w 4 8)
       have b:=QcB z.w 4 8
       exact⟨a.1.trans b.1,a.2.1.trans b.2.1,a.2.2.1.trans b.2.2.1,a.2.2.2.1.trans b.2.2.2.1,a.2.2.2.2.1.trans b.2.2.2.2⟩
   . have a:=Qfz (Y1 { z.w with asks:=Xo z.w.asks (z.m (2+2*z.w.i.toNat)/281474976710656%65536) (z.m (2+2*z.w.i.toNat)/4294967296%65536) (z.m (2+2*z.w.i.toNat)%4294967296),does:=6 } 4 8)
     have b:=QcB { z.w with asks:=Xo z.w.asks (z.m (2+2*z.w.i.toNat)/281474976710656%65536) (z.m (2+2*z.w.i.toNat)/4294967296%65536) (z.m (2+2*z.w.i.toNat)%4294967296),does:=6 } 4 8
     exact⟨a.1.trans b.1,a.2.1.trans b.2.1,a.2.2.1.trans b.2.2.1,a.2.2.2.1.trans b.2.2.2.1,a.2.2.2.2.1.trans b.2.2.2.2⟩
 split
 . unfold XK
   split
   . exact QcB z.w 32 9
   split
   . exact QcB z.w 4 10
   repeat' split
   all_goals exact⟨rfl,rfl,rfl,rfl,rfl⟩
 split
 . unfold QaP;repeat' split
   all_goals exact⟨rfl,rfl,rfl,rfl,rfl⟩
 . unfold Q1;repeat' split
   all_goals exact⟨rfl,rfl,rfl,rfl,rfl⟩
theorem QcC {w:Wk}{n d:Int}(h:w.does≠0) (hd:d≠0):(w.next n d).does≠0:=by unfold Y1;split<;>assumption
theorem QkT (z:WSt) (h:z.w.does≠0) (hb:(Qe z).2=false):(Qe z).1.w.does≠0:=by
 unfold Qe at hb ⊢
 rw[Ze h]at hb ⊢
 split
 . unfold sayP;repeat' split
   all_goals (first|(show ¬(2:Int)=0;decide)|(show ¬(3:Int)=0;decide)|(show ¬(4:Int)=0;decide)|(show ¬(17:Int)=0;decide))
 rename_i h1
 rw[Ze h1]at hb
 split
 . unfold Qat
   split
   . show ¬(5:Int)=0;decide
   split
   . exact QcC h Zb
   split
   . split
     . show ¬(7:Int)=0;decide
     . show (Wk.all _).does≠0
       rw[(Qfz _).2.2.2.2.2];exact QcC h Zb
   . show (Wk.all _).does≠0
     rw[(Qfz _).2.2.2.2.2];exact QcC (by show ¬(6:Int)=0;decide) Zb
 rename_i h2
 rw[Ze h2]at hb
 split
 . unfold XK
   split
   . exact QcC h Zb
   split
   . exact QcC h Zb
   repeat' split
   all_goals (first|(show ¬(11:Int)=0;decide)|(show ¬(12:Int)=0;decide)|(show ¬(13:Int)=0;decide)|(show ¬(14:Int)=0;decide))
 rename_i h3
 rw[Ze h3]at hb
 split
 . rename_i h4
   rw[Zf h4]at hb
   unfold QaP at hb ⊢
   split
   . show ¬(15:Int)=0;decide
   rename_i h5
   rw[Ze h5]at hb
   split
   . show ¬(16:Int)=0;decide
   rename_i h6
   rw[Ze h6]at hb;cases hb
 rename_i h4
 rw[Ze h4]at hb
 unfold Q1 at hb ⊢
 split
 . show ¬(18:Int)=0;decide
 rename_i h5
 rw[Ze h5]at hb
 split
 . show ¬(19:Int)=0;decide
 rename_i h6
 rw[Ze h6]at hb
 split
 . show ¬(20:Int)=0;decide
 rename_i h7
 rw[Ze h7]at hb
 split
 . show ¬(21:Int)=0;decide
 rename_i h8
 rw[Ze h8]at hb
 split
 . rename_i h9
   rw[Zf h9]at hb;cases hb
 . show ¬(if z.w.said then (3:Int)else 1)=0
   split<;>decide
theorem QjP (I:ShInv K z g) (ht:t<4) (hn:(z.w t).does≠0) (hb:(Qe (z.wst t)).2=true):Told g.Q t (Qe (z.wst t)).1.w/\(Qe (z.wst t)).1.w.does=0/\(Qe (z.wst t)).1.m=z.m/\(Qe (z.wst t)).1.s=z.s/\((z.w t).does=16\/(z.w t).does=21):=by
 have T:=I.th t ht
 have h0:=T.d0
 have h21:=T.d21
 have hn':¬(z.wst t).w.does=0:=hn
 unfold Qe at hb ⊢
 rw[Ze hn']at hb ⊢
 by_cases c1:(z.wst t).w.does<=3
 . rw[Zf c1]at hb;cases hb
 rw[Ze c1]at hb ⊢
 by_cases c2:(z.wst t).w.does<=7
 . rw[Zf c2]at hb;cases hb
 rw[Ze c2]at hb ⊢
 by_cases c3:(z.wst t).w.does<=13
 . rw[Zf c3]at hb;cases hb
 rw[Ze c3]at hb ⊢
 by_cases c4:(z.wst t).w.does<=16
 . rw[Zf c4]at hb ⊢
   unfold QaP at hb ⊢
   by_cases c5:(z.wst t).w.does=14
   . rw[Zf c5]at hb;cases hb
   rw[Ze c5]at hb ⊢
   by_cases c6:(z.wst t).w.does=15
   . rw[Zf c6]at hb;cases hb
   rw[Ze c6]at hb ⊢
   have h16:(z.w t).does=16:=by
    have a:¬(z.w t).does<=13:=c3
    have b:(z.w t).does<=16:=c4
    have c:¬(z.w t).does=14:=c5
    have d:¬(z.w t).does=15:=c6
    omega
   have:=(T.rep h16).1
   exact⟨⟨this.bit,this.ok,this.ans,this.whn⟩,rfl,rfl,rfl,.inl h16⟩
 . rw[Ze c4]at hb ⊢
   unfold Q1 at hb ⊢
   by_cases c5:(z.wst t).w.does=17
   . rw[Zf c5]at hb;cases hb
   rw[Ze c5]at hb ⊢
   by_cases c6:(z.wst t).w.does=18
   . rw[Zf c6]at hb;cases hb
   rw[Ze c6]at hb ⊢
   by_cases c7:(z.wst t).w.does=19
   . rw[Zf c7]at hb;cases hb
   rw[Ze c7]at hb ⊢
   by_cases c8:(z.wst t).w.does=20
   . rw[Zf c8]at hb;cases hb
   rw[Ze c8]at hb ⊢
   by_cases c9:(z.wst t).m 1=(z.wst t).w.v/\Qp ((z.wst t).w.seen 0) (z.wst t).w.th=(z.wst t).w.tog
   . rw[Zf c9]
     have e21:(z.w t).does=21:=by
      have a:¬(z.w t).does<=16:=c4
      have b:¬(z.w t).does=17:=c5
      have c:¬(z.w t).does=18:=c6
      have d:¬(z.w t).does=19:=c7
      have e:¬(z.w t).does=20:=c8
      omega
     obtain⟨d1,d2⟩:=c9
     have d1:z.m 1=(z.w t).v:=d1
     have d2:Qp ((z.w t).seen 0) (z.w t).th=(z.w t).tog:=d2
     have hv:(z.w t).v=g.dv:=by rw[<- d1];exact I.gl.done
     rw[T.th,T.lk2 Za hv]at d2
     obtain⟨c,v,hA,ha,-⟩:=I.toldQ ht hn d2
     have hc:=Qeq hA
     have e1:(z.w t).seen 1=ansW c v:=(T.lk3 Za hv).trans ha
     refine⟨⟨d2,?_,?_,?_⟩,rfl,rfl,rfl,.inr e21⟩
     . show QX ((z.w t).seen 1/4294967296%4294967296) ((z.w t).seen 1%4294967296)
       rw[e1,hc.1,hc.2.1];exact hA
     . show _=ansW ((z.w t).seen 1/4294967296%4294967296) ((z.w t).seen 1%4294967296)
       rw[e1,hc.1,hc.2.1];exact ha
     . exact (T.lk4 Za hv).symm
   . rw[Ze c9]at hb;cases hb
def Fine (K:Int) (z:Sh) (g:Gh):Prop:=ShInv K z g/\∃of,HInv z g of
theorem Qkt {K:Int}(h1:1<=K) (h6:K<=6):Fine K (Za9 K) (Gh.new K):=⟨Qnp h1 h6,[],QpT K⟩
theorem QnU (F:Fine K z g) (ht:t<4) (k key x:Int):Fine K (z.call t k key x) g:=by
 obtain⟨I,of,H⟩:=F
 refine⟨Qkk I ht k key x,of,?_⟩
 unfold Zc1
 split
 . rename_i h;exact H.called I ht h.1 h.2
 . exact H
theorem QlS (F:Fine K z g) (l:Int):Fine K (z.evict l) g:=by
 obtain⟨I,of,H⟩:=F
 refine⟨Qiw I l,of,?_⟩
 unfold Zcw
 split
 . exact H.same rfl rfl (ZQ _) (λt _=>⟨Iff.rfl,rfl,rfl,rfl,rfl⟩)
 . exact H
theorem QmL {α:Type}{f:Nat->α}{t:Nat}{x:α}{p:Nat->α->Prop}(h:p t x) (h2:∀u,u≠t->p u (f u)) (u:Nat):p u (setF f t x u):=by
 by_cases e:u=t
 . subst e;rw[Qm];exact h
 . rw[Xd _ _ e];exact h2 u e
theorem Qe2 (F:Fine K z g) (ht:t<4) (hs:z.steps<100000000) (hn:(z.w t).does≠0):Fine K (z.stepped t) (g.step z t):=by
 obtain⟨I,of,H⟩:=F
 refine⟨Qf1 I ht hs hn,?_⟩
 have hsame:=QgB (z.wst t)
 have hw (hb:(Qe (z.wst t)).2=false):∀u,u<4->((setF z.w t (Qe (z.wst t)).1.w u).does=0↔(z.w u).does=0)/\(setF z.w t (Qe (z.wst t)).1.w u).tog=(z.w u).tog/\(setF z.w t (Qe (z.wst t)).1.w u).k=(z.w u).k/\(setF z.w t (Qe (z.wst t)).1.w u).key=(z.w u).key/\(setF z.w t (Qe (z.wst t)).1.w u).x=(z.w u).x:=λu _=>
  QmL (p:=λu (w:Wk)=>(w.does=0↔(z.w u).does=0)/\w.tog=(z.w u).tog/\w.k=(z.w u).k/\w.key=(z.w u).key/\w.x=(z.w u).x)
   ⟨⟨λh=>absurd h (QkT _ hn hb),λh=>absurd h hn⟩,hsame.2.1,hsame.2.2.1,hsame.2.2.2.1,hsame.2.2.2.2⟩ (λu _=>⟨Iff.rfl,rfl,rfl,rfl,rfl⟩) u
 unfold Gh.step
 by_cases e11:(z.w t).does=11
 . rw[Zf e11]
   have hb:=QcX e11
   have e:Qe (z.wst t)=((Qe (z.wst t)).1,false):=by rw[<- hb]
   rw[Qcb e11 e]
   have hho:XC (z.w t):=⟨Za,Za⟩
   have O:=I.ho t ht hho
   have hV:=O.low (.inl Za)
   have hv:=O.ver Za Za
   obtain⟨hG,hD,-,-⟩:=O.nx Za Za
   have e2:(Qe (z.wst t)).1=⟨{ z.w t with does:=12 },z.m,z.s.save 0 ((z.w t).v+1)⟩:=by
    have:Qe (z.wst t)=(⟨{ z.w t with does:=12 },z.m,z.s.save 0 ((z.w t).v+1)⟩,false):=by simp[Qe,XK,Sh.wst,e11]
    rw[this]
   refine H.indexed I hs hG hV (z':=(z.moved t (Qe (z.wst t)).1).counted (Qe (z.wst t)).1.w.deeds) rfl ?_ (by show z.steps<=z.steps+1;omega) (hw hb)
   rw[e2]
   show z.deeds++(z.w t).deeds.map (Zd7 (putF z.s.now 0 ((z.w t).v+1) 0))=_
   rw[hD,QY,hv,hV]
 . rw[Ze e11]
   have hnoans:(Qe (z.wst t)).2=false->HInv (z.stepped t) g of:=λhb=>by
    have e:Qe (z.wst t)=((Qe (z.wst t)).1,false):=by rw[<- hb]
    rw[Qw e11 e]
    exact H.same rfl rfl (by show z.steps<=z.steps+1;omega) (hw hb)
   by_cases e14:(z.w t).does=14
   . rw[Zf e14]
     have hb:(Qe (z.wst t)).2=false:=by simp[Qe,QaP,Sh.wst,e14]
     have H2:=hnoans hb
     have e:Qe (z.wst t)=((Qe (z.wst t)).1,false):=by rw[<- hb]
     have hdd:(z.stepped t).deeds=z.deeds:=by rw[Qw e11 e];rfl
     have:=H2.tell (by rw[hdd];exact I.gl.nle) (V':=g.V) (dv':=g.V)
     rw[hdd]at this
     exact⟨of,this⟩
   . rw[Ze e14]
     cases hb:(Qe (z.wst t)).2
     . exact⟨of,hnoans hb⟩
     . obtain⟨hT,h0,hm,hss,-⟩:=QjP I ht hn hb
       have e:Qe (z.wst t)=((Qe (z.wst t)).1,true):=by rw[<- hb]
       rw[Qca e11 e]
       exact⟨of,H.answered I ht hn hT h0 ⟨hsame.2.1,hsame.2.2.1,hsame.2.2.2.1,hsame.2.2.2.2⟩⟩
theorem Qf8 (F:Fine K z g) (ht:t<4) (hs:z.steps<100000000):∃g',Fine K (z.step t) g':=by
 unfold ZdP
 split
 . exact⟨g,F⟩
 . rename_i h;exact⟨_,Qe2 F ht hs h⟩
def Gh.crash (g:Gh) (z:Sh) (lands:Int):Gh:=if Qu lands z.s 0=g.V then ⟨g.V,g.R,g.V,g.R,z.deeds.length⟩else ⟨g.dv,g.Q,g.dv,g.Q,g.n⟩
theorem QlT (F:Fine K z g) (lands:Int):Fine K (z.crash lands) (g.crash z lands):=by
 obtain⟨I,of,H⟩:=F
 have hw:∀u,u<4->(((z.w u).again).does=0↔(z.w u).does=0)/\((z.w u).again).tog=(z.w u).tog/\((z.w u).again).k=(z.w u).k/\((z.w u).again).key=(z.w u).key/\((z.w u).again).x=(z.w u).x:=λu _=>by
  unfold Wk.again
  split
  . exact⟨Iff.rfl,rfl,rfl,rfl,rfl⟩
  . rename_i h;exact⟨⟨λh'=>absurd h' (by show ¬(17:Int)=0;decide),λh'=>absurd h' h⟩,rfl,rfl,rfl,rfl⟩
 have hc:=H.crashed (z':={ z with hist:=z.hist++[⟨3,0,0,0,0,0,0,0,z.steps+1⟩],steps:=z.steps+1 }) rfl rfl rfl rfl
 unfold Gh.crash
 rcases inv_crash I lands with⟨h1,h2,h3⟩|⟨h1,h2,h3,h4,h5⟩
 . rw[Zf h1]
   refine⟨h2,of,?_⟩
   have h6:=hc.tell (V':=g.V) (dv':=g.V) I.gl.nle
   exact h6.same (z':=z.crash lands) rfl h3 (ZQ _) hw
 . rw[Ze Za]
   exact⟨h4,of.take g.n,hc.cut (z':=z.crash lands) I.gl.nle hw rfl h5 (ZQ _)⟩
theorem QbN (z:Sh) (t:Nat):z.steps<=(z.step t).steps/\(z.step t).steps<=z.steps+1:=by
 unfold ZdP
 split
 . omega
 . unfold ZbU
   dsimp only
   split<;>split<;>(show z.steps<=z.steps+1/\z.steps+1<=z.steps+1;omega)
theorem QdS (t:Nat):∀(n:Nat) (z:Sh),z.steps<=(z.run t n).steps/\(z.run t n).steps<=z.steps+n
 |0,z=>by show z.steps<=z.steps/\z.steps<=z.steps+((0:Nat):Int);omega
 |n+1,z=>by
  have h1:=QbN z t
  have h2:=QdS t n (z.step t)
  show z.steps<=((z.step t).run t n).steps/\((z.step t).run t n).steps<=z.steps+((n+1:Nat):Int)
  omega
theorem Qks (ht:t<4):∀(n:Nat) {z:Sh}{g:Gh},Fine K z g->z.steps+n<100000000->∃g',Fine K (z.run t n) g'
 |0,z,g,F,_=>⟨g,F⟩
 |n+1,z,g,F,hs=>by
  obtain⟨g1,F1⟩:=Qf8 F ht Za
  have:=QbN z t
  exact Qks ht n F1 Za
end
end
section
structure SoC where
 ms:Nat->Int
 mo:Nat->Int
 W:Nat->Wk
 tog:Nat->Int
 hist:List Ev
 deeds:List Vd
 R:Rec
 V:Int
def askB (R:Rec) (ms:Nat->Int) (u:Nat):Bool:=decide (ms u≠0/\ms u-1≠Qp R.tog u)
def askN (R:Rec) (ms:Nat->Int) (i:Nat):Nat->Nat
 |0=>0
 |n+1=>(bif askB R ms i then 2 else 1)+askN R ms (i+1) n
def left (c:SoC) (w:Wk):Nat:=
 if w.does=3 then 77+askN c.R c.ms 0 4 else if w.does=4 then 76+askN c.R c.ms 0 4
 else if w.does=5 then 43+(32-w.i.toNat)+askN c.R c.ms 0 4 else if w.does=6 then 43+askN c.R c.ms w.i.toNat (4-w.i.toNat)
 else if w.does=7 then 44+askN c.R c.ms (w.i.toNat+1) (3-w.i.toNat)else if w.does=8 then 11+(32-w.i.toNat)
 else if w.does=9 then 7+(4-w.i.toNat)else (17-w.does).toNat
section
variable {K:Int}{z:Sh}{g:Gh}{t:Nat}{c:SoC}
theorem Qj2 (t:Nat):∀(n:Nat) {z:Sh},(z.w t).does=0->z.run t n=z/\z.ran t n=0
 |0,z,_=>⟨rfl,rfl⟩
 |n+1,z,h=>by
  have e:z.step t=z:=Zf h
  refine⟨?_,Zf h⟩
  show (z.step t).run t n=z
  rw[e];exact (Qj2 t n h).1
theorem Qjl (t:Nat):∀(n k:Nat) (z:Sh),z.run t (n+k)=(z.run t n).run t k
 |0,k,z=>by rw[Zu];rfl
 |n+1,k,z=>by rw[Nat.add_right_comm];exact Qjl t n k (z.step t)
end
end
section
def inT (a:Int):Bool:=decide (0<=a/\a<4)
def runB (n:Int):Bool:=decide (0<=n/\n<=1000)
structure Mv where
 kind:Int
 t:Int
 k:Int
 key:Int
 x:Int
 n:Int
 l:Int
def Sh.runA (z:Sh) (t n:Int):Sh:=bif inT t then z.run t.toNat (bif runB n then n.toNat else 0)else z
def Sh.callA (z:Sh) (t k key x:Int):Sh:=bif inT t then z.call t.toNat k key x else z
def Sh.move (z:Sh) (m:Mv):Sh:=
 if m.kind=1 then z.callA m.t m.k m.key m.x else if m.kind=2 then z.runA m.t m.n else if m.kind=3 then z.evict m.n else if m.kind=4 then z.crash m.l else z
def XJ (K:Int) (l:List Mv):Sh:=l.foldl Sh.move (Za9 K)
theorem QbQ (K:Int) (l:List Mv) (m:Mv):XJ K (l++[m])=(XJ K l).move m:=by unfold XJ;rw[ZdR];rfl
theorem QcF {a:Int}(h:inT a=true):0<=a/\a<4/\a.toNat<4:=by
 have:=of_decide_eq_true h
 omega
theorem Qg0 (z:Sh) (t:Nat) (k key x:Int):z.steps<=(z.call t k key x).steps/\(z.call t k key x).steps<=z.steps+1:=by
 unfold Zc1
 split
 . show z.steps<=z.steps+1/\z.steps+1<=z.steps+1;omega
 . omega
theorem QeF (z:Sh) (m:Mv):z.steps<=(z.move m).steps/\(z.move m).steps<=z.steps+1000:=by
 unfold Sh.move
 split
 . unfold Sh.callA
   cases inT m.t
   . rw[cond_false];omega
   . rw[cond_true];have:=Qg0 z m.t.toNat m.k m.key m.x;omega
 split
 . unfold Sh.runA
   cases inT m.t
   . rw[cond_false];omega
   . rw[cond_true]
     have:=QdS m.t.toNat (bif runB m.n then m.n.toNat else 0) z
     cases hb:runB m.n
     . rw[hb]at this
       rw[cond_false]at this ⊢;omega
     . rw[hb]at this
       have h2:=of_decide_eq_true hb
       rw[cond_true]at this ⊢;omega
 split
 . unfold Zcw
   split
   . show z.steps<=z.steps/\z.steps<=z.steps+1000;omega
   . omega
 split
 . show z.steps<=z.steps+1/\z.steps+1<=z.steps+1000;omega
 . omega
section
variable {K:Int}{z:Sh}{g:Gh}
theorem QnT (F:Fine K z g) (hs:z.steps<90000000) (t n:Int):∃g',Fine K (z.runA t n) g':=by
 unfold Sh.runA
 cases ht:inT t
 . exact⟨g,F⟩
 . rw[cond_true]
   cases hb:runB n
   . exact⟨g,F⟩
   . have h2:=of_decide_eq_true hb
     exact Qks (QcF ht).2.2 n.toNat F Za
theorem QlU (F:Fine K z g) (t k key x:Int):Fine K (z.callA t k key x) g:=by
 unfold Sh.callA
 cases ht:inT t
 . exact F
 . exact QnU F (QcF ht).2.2 k key x
theorem QiD (F:Fine K z g) (hs:z.steps<90000000) (m:Mv):∃g',Fine K (z.move m) g':=by
 unfold Sh.move
 split
 . exact⟨g,QlU F _ _ _ _⟩
 split
 . exact QnT F hs _ _
 split
 . exact⟨g,QlS F _⟩
 split
 . exact⟨_,QlT F _⟩
 . exact⟨g,F⟩
end
theorem QgP {K:Int}(h1:1<=K) (h6:K<=6):∀(n:Nat) (l:List Mv),l.length=n->n<=80000->∃g,Fine K (XJ K l) g/\(XJ K l).steps<=1000*(n:Int)
 |0,l,hl,_=>by
  have:=List.length_eq_zero_iff.1 hl
  subst this
  exact⟨_,Qkt h1 h6,ZQ 0⟩
 |n+1,l,hl,hn=>by
  obtain⟨l',m,rfl⟩:∃l' m,l=l'++[m]:=⟨l.dropLast,l.getLast (by intro h;rw[h]at hl;cases hl),(ZaP _).symm⟩
  rw[Zw,Yd]at hl
  obtain⟨g,F,hs⟩:=QgP h1 h6 n l' Za Za
  rw[QbQ]
  obtain⟨g',F'⟩:=QiD F Za m
  have:=QeF (XJ K l') m
  exact⟨g',F',Za⟩
end
section
open Go.RowKit
abbrev TCon.sh {α χ:Type}(c:TCon Sh α χ):MCon:=c.high shM Yv ShS.good
theorem Xi (x:ShS):(shM x).length=17:=rfl
theorem verH:(ZH verC.sh).holds Tryz.prog 26:=λw0 S=>verC.lift (Qrf w0 S) Zb (λx _=>Xi x) (λ_=>rfl) (λ_ _ _ _ _ _ _ _=>⟨rfl,rfl,rfl,rfl⟩)
theorem evH:(ZH evC.sh).holds Tryz.prog 50:=λw0 S=>evC.lift (ev_con w0 S) Zb (λx _=>Xi x) (λ_=>rfl) (λ_ _ _ _ _ _ _ _=>⟨rfl,rfl,rfl,rfl⟩)
theorem QmG {ρ ρ':Nat->Nat}{sz l c:Nat}{nn:Bool}(h:∀i,ρ' (1+i)=ρ (17+i)):(ZG (.c (.so 1 0 sz l c nn))).den ρ'=(ZG (.c (.so 17 0 sz l c nn))).den ρ:=by
 simp only[SV.den,Y2,SC.den]
 rw[show ρ' 1=ρ 17 from h 0]
theorem Qih {ρ ρ':Nat->Nat}{t:Nat}{ks:List CK}{sz m c:Nat}{z:Nat->Nat->Int}(h:∀i,ρ' (1+i)=ρ (17+i)):denM ρ' 1 [.rows t ks sz m c z]=denM ρ 17 [.rows t ks sz m c z]:=by
 simp only[denM,denB]
 rw[show ρ' 1=ρ 17 from h 0]
theorem ddsH:(ZH ddsC.sh).holds Tryz.prog 10:=λw0 S=>ddsC.lift (QrW w0 S) Zb (λx _=>Xi x) (λ_=>rfl) (λ_ _ _ _ _ _ h _=>⟨QmG h,Qih h,rfl,rfl⟩)
theorem hisH:(ZH hisC.sh).holds Tryz.prog 14:=λw0 S=>hisC.lift (QrN w0 S) Zb (λx _=>Xi x) (λ_=>rfl) (λ_ _ _ _ _ _ h _=>⟨QmG h,Qih h,rfl,rfl⟩)
def QjB:TCon Sh Nat Unit where
 pre z t:=t<4
 args t:=[.c (.v (.int .i64 t))]
 ok _ _ _:=True
 next z _ _:=z
 val _ z t _:=sv (.int .i64 (z.w t).does)
 new _ _ _ _:=[]
 len:=0
structure StpOK (z:Sh) (t:Nat):Prop where
 t4:t<4
 ok:stOK z t
 pre:(z.w t).does≠0->Qbg (z.wst t)
def QkU:TCon Sh Nat Unit where
 pre z t:=StpOK z t
 args t:=[.c (.v (.int .i64 t))]
 ok _ _ _:=True
 next z t _:=z.step t
 val _ z t _:=QM z t
 new _ _ _ _:=[]
 len:=0
def oneA:TCon Sh Nat Value where
 pre z t:=t<4
 args t:=[.c (.v (.int .i64 t))]
 ok _ _ _:=True
 next z _ _:=z
 val _ z t r:=.t [.c (.v r),.c (.v .nilIface)]
 new _ _ _ _:=[]
 len:=0
theorem lt4 {t:Nat}(h:t<4):t=0\/t=1\/t=2\/t=3:=Za
theorem QfW {X Y α χ:Type}{c:TCon Y α χ}{L:X->List SB}{y:X->Y}{good:X->Prop}{P:Program}{w0:World}{S:Nat->Prop}{f:FuncId}{a:α}(h:∀z,¬c.pre z a):c.Does L y good P w0 S f a:=λ_ z _ _ hp _ _=>absurd hp (h z)
theorem doesH:(ZH QjB.sh).holds Tryz.prog 27:=λw0 S=>TCon.high_of (QiL w0 S).1 λt=>by
 by_cases h:t<4
 . rcases lt4 h with rfl|rfl|rfl|rfl
   . exact (Qn5 0).does_of QjB (QiL w0 S) Zb (λx _=>Xi x) () 0 rfl rfl (λ_ _=>trivial) (λ_ _ _ _ _ _ _ _=>⟨(),Zd,rfl,rfl,rfl,rfl⟩)
   . exact (Qn5 1).does_of QjB (Qn8 w0 S) Zb (λx _=>Xi x) () 1 rfl rfl (λ_ _=>trivial) (λ_ _ _ _ _ _ _ _=>⟨(),Zd,rfl,rfl,rfl,rfl⟩)
   . exact (Qn5 2).does_of QjB (Qn7 w0 S) Zb (λx _=>Xi x) () 2 rfl rfl (λ_ _=>trivial) (λ_ _ _ _ _ _ _ _=>⟨(),Zd,rfl,rfl,rfl,rfl⟩)
   . exact (Qn5 3).does_of QjB (Qn6 w0 S) Zb (λx _=>Xi x) () 3 rfl rfl (λ_ _=>trivial) (λ_ _ _ _ _ _ _ _=>⟨(),Zd,rfl,rfl,rfl,rfl⟩)
 . exact QfW λ_=>h
theorem stepH:(ZH QkU.sh).holds Tryz.prog 45:=λw0 S=>TCon.high_of (QjW w0 S).1 λt=>by
 by_cases h:t<4
 . rcases lt4 h with rfl|rfl|rfl|rfl
   . exact (stC 0).does_of QkU (QjW w0 S) Zb (λx _=>Xi x) () 0 rfl rfl (λ_ h=>⟨h.ok,h.pre⟩) (λ_ _ _ _ _ _ _ _=>⟨(),Zd,rfl,rfl,rfl,rfl⟩)
   . exact (stC 1).does_of QkU (Qo7 w0 S) Zb (λx _=>Xi x) () 1 rfl rfl (λ_ h=>⟨h.ok,h.pre⟩) (λ_ _ _ _ _ _ _ _=>⟨(),Zd,rfl,rfl,rfl,rfl⟩)
   . exact (stC 2).does_of QkU (Qo6 w0 S) Zb (λx _=>Xi x) () 2 rfl rfl (λ_ h=>⟨h.ok,h.pre⟩) (λ_ _ _ _ _ _ _ _=>⟨(),Zd,rfl,rfl,rfl,rfl⟩)
   . exact (stC 3).does_of QkU (Qo5 w0 S) Zb (λx _=>Xi x) () 3 rfl rfl (λ_ h=>⟨h.ok,h.pre⟩) (λ_ _ _ _ _ _ _ _=>⟨(),Zd,rfl,rfl,rfl,rfl⟩)
 . exact QfW λ_ hp=>h hp.t4
theorem oneH:(ZH oneA.sh).holds Tryz.prog 42:=λw0 S=>TCon.high_of (Qkb w0 S).1 λt=>by
 by_cases h:t<4
 . rcases lt4 h with rfl|rfl|rfl|rfl
   . exact (oneC 0).does_of oneA (Qkb w0 S) Zb (λx _=>Xi x) () 0 rfl rfl (λ_ _=>trivial) (λ_ _ _ _ ρ _ _ _=>⟨.pointer (some ⟨ρ 3,0,none⟩),Zd,rfl,rfl,rfl,rfl⟩)
   . exact (oneC 1).does_of oneA (Qpy w0 S) Zb (λx _=>Xi x) () 1 rfl rfl (λ_ _=>trivial) (λ_ _ _ _ ρ _ _ _=>⟨.pointer (some ⟨ρ 4,0,none⟩),Zd,rfl,rfl,rfl,rfl⟩)
   . exact (oneC 2).does_of oneA (Qpx w0 S) Zb (λx _=>Xi x) () 2 rfl rfl (λ_ _=>trivial) (λ_ _ _ _ ρ _ _ _=>⟨.pointer (some ⟨ρ 5,0,none⟩),Zd,rfl,rfl,rfl,rfl⟩)
   . exact (oneC 3).does_of oneA (Qpw w0 S) Zb (λx _=>Xi x) () 3 rfl rfl (λ_ _=>trivial) (λ_ _ _ _ ρ _ _ _=>⟨.pointer (some ⟨ρ 6,0,none⟩),Zd,rfl,rfl,rfl,rfl⟩)
 . exact QfW λ_=>h
structure CallOK (z:Sh):Prop where
 st0:0<=z.steps
 st1:z.steps<100000000
 h:z.hist.length<=1000000000
 tog:∀t,t<4->z.tog t=0\/z.tog t=1
def callA:TCon Sh (Int × OpA) Unit where
 pre z a:=CallOK z
 args a:=[.c (.v (.int .i64 a.1)),.a [.one (.v (.int .i64 a.2.k)),.one (.v (.int .i64 a.2.key)),.one (.v (.int .i64 a.2.x))]]
 ok _ _ _:=True
 next z a _:=bif inT a.1 then z.call a.1.toNat a.2.k a.2.key a.2.x else z
 val _ z a _:=.o (.c (.v (bif inT a.1 then (bif (z.w a.1.toNat).does==0 then (bif opOk a.2.k a.2.key a.2.x then .nilIface else .iface 50 (.int .i64 1))else .iface 50 (.int .i64 6))else .iface 50 (.int .i64 2))))
 new _ _ _ _:=[]
 len:=0
theorem callH:(ZH callA.sh).holds Tryz.prog 22:=λw0 S=>TCon.high_of (QkC w0 S).1 λ⟨a,o⟩=>by
 by_cases h:0<=a/\a<4
 . obtain⟨t,rfl⟩:=Z6 h.1
   rcases lt4 (t:=t) Za with rfl|rfl|rfl|rfl
   . exact (clC 0).does_of callA (QkC w0 S) Zb (λx _=>Xi x) o _ rfl rfl (λ_ h=>⟨⟨h.st0,h.st1⟩,h.h,h.tog 0 Zb⟩) (λ_ _ _ _ _ _ _ _=>⟨(),Zd,rfl,rfl,rfl,rfl⟩)
   . exact (clC 1).does_of callA (Qqq w0 S) Zb (λx _=>Xi x) o _ rfl rfl (λ_ h=>⟨⟨h.st0,h.st1⟩,h.h,h.tog 1 Zb⟩) (λ_ _ _ _ _ _ _ _=>⟨(),Zd,rfl,rfl,rfl,rfl⟩)
   . exact (clC 2).does_of callA (Qqp w0 S) Zb (λx _=>Xi x) o _ rfl rfl (λ_ h=>⟨⟨h.st0,h.st1⟩,h.h,h.tog 2 Zb⟩) (λ_ _ _ _ _ _ _ _=>⟨(),Zd,rfl,rfl,rfl,rfl⟩)
   . exact (clC 3).does_of callA (Qqo w0 S) Zb (λx _=>Xi x) o _ rfl rfl (λ_ h=>⟨⟨h.st0,h.st1⟩,h.h,h.tog 3 Zb⟩) (λ_ _ _ _ _ _ _ _=>⟨(),Zd,rfl,rfl,rfl,rfl⟩)
 . have hb:inT a=false:=decide_eq_false h
   refine calX.does_of callA (Qqn w0 S) Zb (λx _=>Xi x) (a,o) (a,o) rfl rfl (λ_ _=>(by show a<0\/4<=a;omega)) (λz _ _ _ _ _ _ _=>⟨(),Zd,?_,?_,rfl,rfl⟩)
   . show (bif inT a then _ else _)=z.z
     rw[hb];rfl
   . show (ZG (.c (.v (bif inT a then _ else _)))).den _=_
     rw[hb];rfl
structure RunOK (z:Sh) (t:Nat) (n:Int):Prop where
 ok:0<=n->n<=1000->∀k:Nat,(k:Int)<n->stOK (z.run t k) t/\(((z.run t k).w t).does≠0->Qbg ((z.run t k).wst t))
def runN:TCon Sh (Nat × Int) Unit where
 pre z a:=a.1<4/\RunOK z a.1 a.2
 args a:=[.c (.v (.int .i64 a.1)),.c (.v (.int .i64 a.2))]
 ok _ _ _:=True
 next z a _:=z.run a.1 (bif runB a.2 then a.2.toNat else 0)
 val _ z a _:=.t [.c (.v (.int .i64 (bif runB a.2 then ((z.ran a.1 a.2.toNat:Nat):Int)else 0))),.c (.v (bif runB a.2 then .nilIface else .iface 50 (.int .i64 1)))]
 new _ _ _ _:=[]
 len:=0
structure RunG (z:Sh) (t:Nat) (n:Int) where
 k:Nat
 F:List Nat
 hk:k<=n.toNat
 hr:z.ran t n.toNat=k+(z.run t k).ran t (n.toNat-k)
def QqS (z:Sh) (t:Nat) (n:Int):Ann where
 σ:=RunG z t n
 I g:=([(0,.o (.c (.p 0 0))),(1,sv (.int .i64 t)),(2,sv (.int .i64 n)),(27,sv (.int .i64 n)),(28,sv (.int .i64 g.k))],[.abs (QD shM Yv ShS.good (z.run t g.k)) g.F])
 dec g:=n.toNat-g.k
 pi env M:=[0]
 nz:=[]
theorem Qpl {z:Sh}{t:Nat}{m:Nat}(h:(z.w t).does≠0):z.ran t (m+1)=(z.step t).ran t m+1:=Ze h
theorem Qj1 (z:Sh) (t k:Nat):z.run t (k+1)=(z.run t k).step t:=by rw[Qjl];rfl
theorem Qj3:(ZH runN.sh).holds Tryz.prog 24:=by
 intro w0 S
 refine Qa (Γ:=[(42,.mem oneA.sh),(27,.mem QjB.sh),(45,.mem QkU.sh)]) (λ_=>noW) Tryz.func24 rfl Zc Qf Qc (λw S' _ _=>.cons (oneH w S') (.cons (doesH w S') (.cons (stepH w S') (.nil _ _ _)))) runN.sh (λs=>[(24,[(0,QqS s.1 s.2.1.1 s.2.1.2)])]) (λx0 h=>by cases h) (λs ρ w _ _ _=>Qj w _) [] (λ_ M=>[0]) 600 ?_
 rintro⟨z,⟨t,n⟩,F⟩ W ⟨ht,h1⟩ -
 refine⟨rfl,?_⟩
 dsimp only
 refine Qk (q:=∃(s:Sh × Nat × List Nat),[aP 0 0,aI ↑t]=[aP 0 0,aI (↑s.2.1:Int)]/\[Yl (QD shM Yv ShS.good z) F]=[Yl (QD shM Yv ShS.good s.1) s.2.2]/\s.2.1<4/\∀(x:List Nat × Value),True->bif decide (n<(0:Int))then endN (TCon.sh runN) [] (λ(x:SV) (M:List SB)=>[0]) (z,(t,n),F) (ZS [aI 0,Zt (.v (.iface 50 (ZA .i64 (1:Int))))]) [Yl (QD shM Yv ShS.good s.1) x.1]else bif decide (n>(1000:Int))then endN (TCon.sh runN) [] (λ(x:SV) (M:List SB)=>[0]) (z,(t,n),F) (ZS [aI 0,Zt (.v (.iface 50 (ZA .i64 (1:Int))))]) [Yl (QD shM Yv ShS.good s.1) x.1]else (∃(s0:Ann.σ (QqS z t n)),(eS (aP 0 0) (aP 0 0)/\eS (aI ↑t) (aI ↑t)/\eS (aI n) (aI n)/\eS (aI n) (aI n)/\eS (aI 0) (aI ↑s0.1)/\True)/\[Yl (QD shM Yv ShS.good s.1) x.1]=[Yl (QD shM Yv ShS.good (Sh.run z t s0.1)) s0.2])/\∀(s:RunG z t n),bif decide ((↑s.1:Int)<n)then ∃(s_1:Sh × Nat × List Nat),[aP 0 0,aI ↑t]=[aP 0 0,aI (↑s_1.2.1:Int)]/\[Yl (QD shM Yv ShS.good (Sh.run z t s.1)) s.2]=[Yl (QD shM Yv ShS.good s_1.1) s_1.2.2]/\s_1.2.1<4/\∀(x:List Nat × Unit),True->bif (ZX s_1.1 s_1.2.1).2==(0:Int)then endN (TCon.sh runN) [] (λ(x:SV) (M:List SB)=>[0]) (z,(t,n),F) (ZS [aI ↑s.1,Zt (.v ZM)]) [Yl (QD shM Yv ShS.good s_1.1) x.1]else ∃(s_2:Sh × Nat × List Nat),[aP 0 0,aI ↑t]=[aP 0 0,aI (↑s_2.2.1:Int)]/\[Yl (QD shM Yv ShS.good s_1.1) x.1]=[Yl (QD shM Yv ShS.good s_2.1) s_2.2.2]/\StpOK s_2.1 s_2.2.1/\∀(x:List Nat × Unit),True->∃(s':RunG z t n),((eS (aP 0 0) (aP 0 0)/\eS (aI ↑t) (aI ↑t)/\eS (aI n) (aI n)/\eS (aI n) (aI n)/\eS (aI (Zi .i64 ((↑s.1:Int)+(1:Int)))) (aI ↑s'.1)/\True)/\[Yl (QD shM Yv ShS.good (ZdP s_2.1 s_2.2.1)) x.1]=[Yl (QD shM Yv ShS.good (Sh.run z t s'.1)) s'.2])/\Zh n-s'.1<Zh n-s.1 else endN (TCon.sh runN) [] (λ(x:SV) (M:List SB)=>[0]) (z,(t,n),F) (ZS [aI n,Zt (.v ZM)]) [Yl (QD shM Yv ShS.good (Sh.run z t s.1)) s.2]) Zc ?_
 have h1:RunOK z t n:=h1
 have ht:t<4:=ht
 have bad (hb:runB n=false) (G:List Nat):endN runN.sh [] (λ_ _=>[0]) (z,(t,n),F) (ZS [Zt (ZbP (.int .i64 0)),Zt (ZbP (.iface 50 (.int .i64 1)))]) [Yl (QD shM Yv ShS.good z) G]:=by
  refine Ql rfl ⟨G,()⟩ trivial rfl ?_ ?_
  . show _=ZbL _ (.t [.c (.v (.int .i64 (bif runB n then _ else _))),.c (.v (bif runB n then _ else _))])
    rw[hb];rfl
  . show _=[Yl (QD shM Yv ShS.good (z.run t (bif runB n then n.toNat else 0))) G].map _
    rw[hb];rfl
 have fin (hb:runB n=true) {k:Nat}(hk:k<=n.toNat) (hr:z.ran t n.toNat=k+(z.run t k).ran t (n.toNat-k)) (hd:k=n.toNat\/((z.run t k).w t).does=0) (G:List Nat):endN runN.sh [] (λ_ _=>[0]) (z,(t,n),F) (ZS [Zt (ZbP (.int .i64 (k:Int))),Zt (ZbP .nilIface)]) [Yl (QD shM Yv ShS.good (z.run t k)) G]:=by
  have e:z.ran t n.toNat=k/\z.run t n.toNat=z.run t k:=by
   rcases hd with rfl|hd
   . rw[Ye]at hr;exact⟨hr,rfl⟩
   . have a:=Qj2 t (n.toNat-k) hd
     rw[a.2]at hr
     refine⟨hr,?_⟩
     have b:=Qjl t k (n.toNat-k) z
     rw[show k+(n.toNat-k)=n.toNat by omega,a.1]at b;exact b
  refine Ql rfl ⟨G,()⟩ trivial rfl ?_ ?_
  . show _=ZbL _ (.t [.c (.v (.int .i64 (bif runB n then ((z.ran t n.toNat:Nat):Int)else _))),.c (.v (bif runB n then _ else _))])
    rw[hb,e.1];rfl
  . show _=[Yl (QD shM Yv ShS.good (z.run t (bif runB n then n.toNat else 0))) G].map _
    rw[hb]
    show _=[Yl (QD shM Yv ShS.good (z.run t n.toNat)) G].map _
    rw[e.2];rfl
 refine⟨(z,t,F),rfl,rfl,ht,λx _=>Qo (λhlt=>bad (decide_eq_false Za) x.1) (λhge=>Qo (λhgt=>bad (decide_eq_false Za) x.1) (λhle=>?_))⟩
 have hb:runB n=true:=decide_eq_true Za
 refine⟨⟨⟨0,x.1,Z9 _,(by rw[Zu,Nat.sub_zero];rfl)⟩,⟨rfl,rfl,rfl,rfl,rfl,Zd⟩,rfl⟩,?_⟩
 rintro⟨k,G,hk,hr⟩
 dsimp only at hk hr ⊢
 refine Qo (λhlt=>?_) (λhge=>?_)
 . refine⟨(z.run t k,t,G),rfl,rfl,ht,λx1 _=>QP (λhd=>fin hb hk hr (.inr hd) x1.1) (λhd=>?_)⟩
   have hok:=h1.ok Za Za k Za
   have hr':z.ran t n.toNat=k+1+(z.run t (k+1)).ran t (n.toNat-(k+1)):=by
    rw[hr,Qj1,show n.toNat-k=(n.toNat-(k+1))+1 by omega,Qpl (z:=z.run t k) (t:=t) hd];omega
   exact⟨(z.run t k,t,x1.1),rfl,rfl,⟨ht,hok.1,hok.2⟩,λx2 _=>⟨⟨k+1,x2.1,Za,hr'⟩,⟨⟨rfl,rfl,rfl,rfl,svI (sucI Za),Zd⟩,congrArg (λs=>[Yl (QD shM Yv ShS.good s) x2.1]) (Qj1 z t k).symm⟩,by dsimp only;omega⟩⟩
 . obtain hkn:k=n.toNat:=Za
   have:=fin hb hk hr (.inl hkn) G
   rw[show (k:Int)=n by omega]at this;exact this
def QmN:TCon Sh (Int × Int) Unit where
 pre z a:=inT a.1=true->RunOK z a.1.toNat a.2
 args a:=[.c (.v (.int .i64 a.1)),.c (.v (.int .i64 a.2))]
 ok _ _ _:=True
 next z a _:=z.runA a.1 a.2
 val _ z a _:=.t [.c (.v (.int .i64 (bif inT a.1 then (bif runB a.2 then ((z.ran a.1.toNat a.2.toNat:Nat):Int)else 0)else 0))),.c (.v (bif inT a.1 then (bif runB a.2 then .nilIface else .iface 50 (.int .i64 1))else .iface 50 (.int .i64 2)))]
 new _ _ _ _:=[]
 len:=0
def runX:TCon Sh (Int × Int) Unit where
 pre z a:=a.1<0\/4<=a.1
 args a:=[.c (.v (.int .i64 a.1)),.c (.v (.int .i64 a.2))]
 ok _ _ _:=True
 next z a _:=z
 val _ z a _:=.t [.c (.v (.int .i64 0)),.c (.v (.iface 50 (.int .i64 2)))]
 new _ _ _ _:=[]
 len:=0
theorem Qpf:(ZH runX.sh).holds Tryz.prog 24:=by
 intro w0 S
 refine Qa (Γ:=[(42,.pure QhN)]) (λ_=>noW) Tryz.func24 rfl Zc Qf Qc (λw S' _ _=>.cons (Qka w _) (.nil _ _ _)) runX.sh (λs=>[]) (λx0 h=>by cases h) (λs ρ w _ _ _=>Qj w _) [] (λ_ M=>[0]) 600 ?_
 rintro⟨z,⟨a,n⟩,F⟩ W h1 -
 refine⟨rfl,?_⟩
 refine Qk (q:=(a<(0:Int)\/(4:Int)<=a)/\endN (TCon.sh runX) [] (λ(x:SV) (M:List SB)=>[0]) (z,(a,n),F) (ZS [aI 0,Zt (.v (.iface 50 (ZA .i64 (2:Int))))]) [Yl (QD shM Yv ShS.good z) F]) Zc ?_
 have h1:a<0\/4<=a:=h1
 exact⟨h1,Ql rfl ⟨F,()⟩ trivial rfl rfl rfl⟩
theorem runH:(ZH QmN.sh).holds Tryz.prog 24:=λw0 S=>TCon.high_of (Qj3 w0 S).1 λ⟨a,n⟩=>by
 intro ρ z F w hp hK HM
 by_cases h:0<=a/\a<4
 . have hb:inT a=true:=decide_eq_true h
   obtain⟨t,rfl⟩:=Z6 h.1
   have ht:t<4:=Za
   have hp':RunOK z t n:=by have:=hp hb;rw[Zv]at this;exact this
   have:=(Qj3 w0 S).2.2 ρ (z,(t,n),F) w ⟨ht,hp'⟩ hK HM
   have e1:z.runA t n=z.run t (bif runB n then n.toNat else 0):=by unfold Sh.runA;rw[hb,Zv];rfl
   have e2:QmN.val 1 z ((t:Int),n) ()=runN.val 1 z (t,n) ():=by
    show ZS [.c (.v (.int .i64 (bif inT t then (bif runB n then ((z.ran (t:Int).toNat n.toNat:Nat):Int)else 0)else 0))),.c (.v (bif inT t then _ else _))]=_
    rw[hb,Zv];rfl
   refine this.mono ?_
   rintro e w' ⟨⟨G,⟨⟩⟩,ρ',h1,h2,h3,h4,h5⟩
   refine⟨⟨G,()⟩,ρ',Zd,h2,rfl,?_,?_⟩
   . rw[e2];exact h4
   . show Mem w _ (denM ρ' 0 (.abs (QD shM Yv ShS.good (z.runA t n)) G::[])) w'
     rw[e1];exact h5
 . have hb:inT a=false:=decide_eq_false h
   have:=(Qpf w0 S).2.2 ρ (z,(a,n),F) w (by show a<0\/4<=a;omega) hK HM
   have e1:z.runA a n=z:=by unfold Sh.runA;rw[hb];rfl
   have e2:QmN.val 1 z (a,n) ()=runX.val 1 z (a,n) ():=by
    show ZS [.c (.v (.int .i64 (bif inT a then _ else 0))),.c (.v (bif inT a then _ else _))]=_
    rw[hb];rfl
   refine this.mono ?_
   rintro e w' ⟨⟨G,⟨⟩⟩,ρ',h1,h2,h3,h4,h5⟩
   refine⟨⟨G,()⟩,ρ',Zd,h2,rfl,?_,?_⟩
   . rw[e2];exact h4
   . show Mem w _ (denM ρ' 0 (.abs (QD shM Yv ShS.good (z.runA a n)) G::[])) w'
     rw[e1];exact h5
end
section
open Go.RowKit
structure NewS where
 k:Int
def QhP:MCon where
 σ:=NewS
 χ:=ShS
 pre s:=1<=s.k/\s.k<=6
 args s:=[.c (.v (.int .i64 s.k))]
 mem _:=[]
 ok s x:=x.good/\x.z=Za9 s.k
 val _ _:=.t [.c (.p 0 0),.c (.v .nilIface)]
 mem' _ x:=shM x
 k:=0
 len:=17
 det:=none
 find _ _:=some []
def msAt (M:List SB) (b:Nat):List Nat:=match getB M b with
 |.cells l _=>match segGet l 0,segGet l 1 with
  |some (.p m _),some (.p s _)=>[b,m,s]
  |_,_=>[]
 |_=>[]
def newM (k:Int) (f:Nat->Int):List SB:=[.cells [.one (.p 1 0),.one (.p 2 0),.one (.v (.pointer none)),.one (.v (.pointer none)),.one (.v (.pointer none)),.one (.v (.pointer none)),.ints (.int .i64) 4 (λ_=>0),.one (.v (.int .i64 0)),.one (.v (.slice none 0 0)),.one (.v (.slice none 0 0))] 73,ramB (λ_=>0),stoB { ZcJ with now:=f },.cells [.ints (.int .u64) 32 (fL (Zaw k).words)] 96]
structure NewG where
 i:Nat
 hi:i<=32
def QqT (k:Int):Ann where
 σ:=NewG
 I g:=([(4,.o (.c (.p 3 0))),(6,.o (.c (.p 0 0))),(24,.o (.a [.ints (.int .u64) 32 (fL (Zaw k).words)])),(25,sv (.int .i64 g.i))],
   [.cells [.one (.p 1 0),.one (.p 2 0),.one (.v (.pointer none)),.one (.v (.pointer none)),.one (.v (.pointer none)),.one (.v (.pointer none)),.ints (.int .i64) 4 (λ_=>0),.one (.v (.int .i64 0)),.one (.v (.slice none 0 0)),.one (.v (.slice none 0 0))] 73,ramB (λ_=>0),stoB { ZcJ with now:=XY k g.i },.cells [.ints (.int .u64) 32 (fL (Zaw k).words)] 96])
 dec g:=32-g.i
 pi env M:=msAt M (blkE env 6)++[blkE env 4]
 nz:=[]
abbrev nzE (b:Nat):NZ:=.blk b 11 47 9 [.int .i64,.int .i64,.int .i64,.int .i64,.int .i64,.int .i64,.int .i64,.int .i64,.int .i64]
abbrev nzVd (b:Nat):NZ:=.blk b 12 75 7 [.int .u64,.int .i64,.int .i64,.int .i64,.int .i64,.int .i64,.int .i64]
abbrev nzWA (b:Nat):NZ:=.blk b 41 198 5 [.int .i64,.int .i64,.int .i64,.int .i64,.int .i64]
abbrev nzWD (b:Nat):NZ:=.blk b 42 36 6 [.int .i64,.int .i64,.int .i64,.int .i64,.int .i64,.int .i64]
structure QaU where
 s:Sto
 n:Nat
def QiO:MCon:=dcon QaU (λs=>s.n<9) (λs=>[.c (.p 0 0),.c (.v (.int .i64 (s.n:Int)))]) (λs=>[stoB s.s]) (λs=>.o (.c (.v .nilIface))) (λs=>[stoB (s.s.evict s.n)]) 1 (λargs _=>some (blkA args))
theorem QkR:(ZH QiO).holds Tryz.prog 41:=by
 intro w0 S
 have h:=Qh9 w0 S
 refine⟨h.1,λx0 hx s x=>⟨rfl,Zd⟩,λρ ⟨s,n⟩ w hp hK HM=>(h.2.2 ρ ⟨s,n⟩ w trivial hK HM).mono ?_⟩
 have hp:n<9:=hp
 have e1:decide ((0:Int)<=(n:Int)/\(n:Int)<9)=true:=decide_eq_true Za
 have ev:QbH.val ⟨s,n⟩ ()=.o (.c (.v .nilIface)):=by
  show ZG (.c (.v (bif decide ((0:Int)<=(n:Int)/\(n:Int)<9)then _ else _)))=_
  rw[e1];rfl
 have em:QbH.mem' ⟨s,n⟩ ()=[stoB (s.evict n)]:=by
  show [stoB (bif decide ((0:Int)<=(n:Int)/\(n:Int)<9)then s.evict (n:Int).toNat else s)]=_
  rw[e1,Zv];rfl
 rintro e w' ⟨⟨⟩,ρ',h1,h2,h3,h4,h5⟩
 refine⟨(),ρ',Zd,h2,rfl,?_,?_⟩
 . rw[h4,ev];rfl
 . rw[em]at h5;exact h5
theorem evict4 (k:Int) {A:Sto}(hA:A={ ZcJ with now:=XY k 32 }):(((A.evict 1).evict 2).evict 3).evict 4={ ZcJ with now:=XY k 32,good:=XY k 32 }:=by
 have e2:((((A.evict 1).evict 2).evict 3).evict 4).good=XY k 32:=funext λj=>by
  subst hA
  show (bif decide (j/8=4)then XY k 32 j else bif decide (j/8=3)then XY k 32 j else bif decide (j/8=2)then XY k 32 j else bif decide (j/8=1)then XY k 32 j else 0)=XY k 32 j
  by_cases h:8<=j/\j<40
  . rcases (show j/8=1\/j/8=2\/j/8=3\/j/8=4 by omega)with h|h|h|h<;>rw[h]<;>rfl
  . rw[QcE k j Za,decide_eq_false (show ¬j/8=4 by omega),decide_eq_false (show ¬j/8=3 by omega),decide_eq_false (show ¬j/8=2 by omega),decide_eq_false (show ¬j/8=1 by omega)];rfl
 show (⟨A.now,((((A.evict 1).evict 2).evict 3).evict 4).good,A.want,A.fl,A.fe⟩:Sto)=_
 rw[e2,hA]
def Qrr:SV->List SB->List Nat
 |.t [.c (.p b _),_],M=>shAt M b
 |_,_=>[]
def newS0 (k:Int):ShS:=⟨Za9 k,λ_=>⟨0,0,false,λ_ _=>0,0,0,false,λ_ _=>0⟩,0,0,false,λ_ _=>0,0,0,false,λ_ _=>0⟩
theorem Qle (k:Int):(newS0 k).good:=⟨λt _=>⟨⟨Zq _,Zq _⟩,λi hi=>absurd hi (ZP _),⟨Zq _,Zq _⟩,λi hi=>absurd hi (ZP _)⟩,Zq _,Zq _,IsR.nil _ _ _ _,Zq _,Zq _,IsR.nil _ _ _ _⟩
attribute [local irreducible] endN
theorem QpC (k:Int) {S:Sto}(hS:S={ ZcJ with now:=XY k 32,good:=XY k 32 }):endN QhP [nzE 0,nzVd 0,nzWA 4,nzWD 4,nzWA 5,nzWD 5,nzWA 6,nzWD 6,nzWA 7,nzWD 7] Qrr ⟨k⟩ (.t [.c (.p 0 0),.c (.v .nilIface)])
 [.cells [.one (.p 1 0),.one (.p 2 0),.one (.p 4 0),.one (.p 5 0),.one (.p 6 0),.one (.p 7 0),.ints (.int .i64) 4 (λ_=>0),.one (.v (.int .i64 0)),.one (.v (.slice none 0 0)),.one (.v (.slice none 0 0))] 73,ramB (λ_=>0),stoB S,.cells [.ints (.int .u64) 32 (fL (Zaw k).words)] 96,.cells [.one (.v (.int .i64 0)),.one (.v (.int .i64 0)),.one (.v (.int .i64 0)),.one (.v (.int .i64 0)),.one (.v (.int .i64 0)),.one (.v (.int .i64 0)),.one (.v (.bool false)),.one (.v (.int .i64 0)),.one (.v (.int .u64 0)),.ints (.int .u64) 32 (λ_=>0),.one (.v (.slice none 0 0)),.one (.v (.slice none 0 0)),.ints (.int .u64) 3 (λ_=>0),.one (.v (.int .i64 0)),.one (.v (.int .i64 0)),.one (.v (.int .i64 0))] 108,.cells [.one (.v (.int .i64 1)),.one (.v (.int .i64 0)),.one (.v (.int .i64 0)),.one (.v (.int .i64 0)),.one (.v (.int .i64 0)),.one (.v (.int .i64 0)),.one (.v (.bool false)),.one (.v (.int .i64 0)),.one (.v (.int .u64 0)),.ints (.int .u64) 32 (λ_=>0),.one (.v (.slice none 0 0)),.one (.v (.slice none 0 0)),.ints (.int .u64) 3 (λ_=>0),.one (.v (.int .i64 0)),.one (.v (.int .i64 0)),.one (.v (.int .i64 0))] 108,.cells [.one (.v (.int .i64 2)),.one (.v (.int .i64 0)),.one (.v (.int .i64 0)),.one (.v (.int .i64 0)),.one (.v (.int .i64 0)),.one (.v (.int .i64 0)),.one (.v (.bool false)),.one (.v (.int .i64 0)),.one (.v (.int .u64 0)),.ints (.int .u64) 32 (λ_=>0),.one (.v (.slice none 0 0)),.one (.v (.slice none 0 0)),.ints (.int .u64) 3 (λ_=>0),.one (.v (.int .i64 0)),.one (.v (.int .i64 0)),.one (.v (.int .i64 0))] 108,.cells [.one (.v (.int .i64 3)),.one (.v (.int .i64 0)),.one (.v (.int .i64 0)),.one (.v (.int .i64 0)),.one (.v (.int .i64 0)),.one (.v (.int .i64 0)),.one (.v (.bool false)),.one (.v (.int .i64 0)),.one (.v (.int .u64 0)),.ints (.int .u64) 32 (λ_=>0),.one (.v (.slice none 0 0)),.one (.v (.slice none 0 0)),.ints (.int .u64) 3 (λ_=>0),.one (.v (.int .i64 0)),.one (.v (.int .i64 0)),.one (.v (.int .i64 0))] 108]:=by
 refine Ql (x':=.t [.c (.p 0 0),.c (.v .nilIface)]) (M':=[.cells [.one (.p 1 0),.one (.p 2 0),.one (.p 4 0),.one (.p 5 0),.one (.p 6 0),.one (.p 7 0),.ints (.int .i64) 4 (λ_=>0),.one (.v (.int .i64 0)),.one (.so 8 0 9 0 0 false),.one (.so 9 0 7 0 0 false)] 73,ramB (λ_=>0),stoB S,.cells [.ints (.int .u64) 32 (fL (Zaw k).words)] 96,.cells [.one (.v (.int .i64 0)),.one (.v (.int .i64 0)),.one (.v (.int .i64 0)),.one (.v (.int .i64 0)),.one (.v (.int .i64 0)),.one (.v (.int .i64 0)),.one (.v (.bool false)),.one (.v (.int .i64 0)),.one (.v (.int .u64 0)),.ints (.int .u64) 32 (λ_=>0),.one (.so 10 0 5 0 0 false),.one (.so 11 0 6 0 0 false),.ints (.int .u64) 3 (λ_=>0),.one (.v (.int .i64 0)),.one (.v (.int .i64 0)),.one (.v (.int .i64 0))] 108,.cells [.one (.v (.int .i64 1)),.one (.v (.int .i64 0)),.one (.v (.int .i64 0)),.one (.v (.int .i64 0)),.one (.v (.int .i64 0)),.one (.v (.int .i64 0)),.one (.v (.bool false)),.one (.v (.int .i64 0)),.one (.v (.int .u64 0)),.ints (.int .u64) 32 (λ_=>0),.one (.so 12 0 5 0 0 false),.one (.so 13 0 6 0 0 false),.ints (.int .u64) 3 (λ_=>0),.one (.v (.int .i64 0)),.one (.v (.int .i64 0)),.one (.v (.int .i64 0))] 108,.cells [.one (.v (.int .i64 2)),.one (.v (.int .i64 0)),.one (.v (.int .i64 0)),.one (.v (.int .i64 0)),.one (.v (.int .i64 0)),.one (.v (.int .i64 0)),.one (.v (.bool false)),.one (.v (.int .i64 0)),.one (.v (.int .u64 0)),.ints (.int .u64) 32 (λ_=>0),.one (.so 14 0 5 0 0 false),.one (.so 15 0 6 0 0 false),.ints (.int .u64) 3 (λ_=>0),.one (.v (.int .i64 0)),.one (.v (.int .i64 0)),.one (.v (.int .i64 0))] 108,.cells [.one (.v (.int .i64 3)),.one (.v (.int .i64 0)),.one (.v (.int .i64 0)),.one (.v (.int .i64 0)),.one (.v (.int .i64 0)),.one (.v (.int .i64 0)),.one (.v (.bool false)),.one (.v (.int .i64 0)),.one (.v (.int .u64 0)),.ints (.int .u64) 32 (λ_=>0),.one (.so 16 0 5 0 0 false),.one (.so 17 0 6 0 0 false),.ints (.int .u64) 3 (λ_=>0),.one (.v (.int .i64 0)),.one (.v (.int .i64 0)),.one (.v (.int .i64 0))] 108,evB 0 0 (λ_ _=>0),vdB 0 0 (λ_ _=>0),wkA 0 0 (λ_ _=>0),wkD 0 0 (λ_ _=>0),wkA 0 0 (λ_ _=>0),wkD 0 0 (λ_ _=>0),wkA 0 0 (λ_ _=>0),wkD 0 0 (λ_ _=>0),wkA 0 0 (λ_ _=>0),wkD 0 0 (λ_ _=>0)]) Zc (newS0 k) ⟨Qle k,rfl⟩ Zc Zc ?_
 subst hS
 kernel_rfl
theorem QpD:(ZH QhP).holds Tryz.prog 21:=by
 intro w0 S
 refine Qa (Γ:=[(38,.pure QdK),(39,.mem Qeb),(40,.mem Xt),(41,.mem QiO)]) (λ_=>noW) Tryz.func21 rfl Zc Qf Qc (λw S' _ _=>.cons (Qpj w _) (.cons (QkQ w S') (.cons (Qad w S') (.cons (QkR w S') (.nil _ _ _))))) QhP (λs=>[(21,[(0,QqT s.k)])]) (λx0 h=>by cases h) (λs ρ w _ _ _=>Qj w _) [nzE 0,nzVd 0,nzWA 4,nzWD 4,nzWA 5,nzWD 5,nzWA 6,nzWD 6,nzWA 7,nzWD 7] Qrr 900 ?_
 rintro⟨k⟩ W ⟨h1,h6⟩ -
 refine⟨rfl,?_⟩
 refine Qk (q:=((1:Int)<=k/\k<=(6:Int))/\∃(s:Unit),([]:List SA)=[]/\eN/\True/\∀(x:Unit),True->(∃(s0:Ann.σ (QqT k)),(eS (aP 0 0) (aP 0 0)/\eS (aP 3 0) (aP 3 0)/\eS (Zz [nU 32 (fL (Zai (Zaw k)))]) (Zz [nU 32 (fL (Zai (Zaw k)))])/\eS (aI 0) (aI ↑s0.1)/\True)/\[Zj [sP 1 0,sP 2 0,Yp (.v (.pointer none)),Yp (.v (.pointer none)),Yp (.v (.pointer none)),Yp (.v (.pointer none)),nI 4 zF,sI 0,Yp (.v (.slice none 0 0)),Yp (.v (.slice none 0 0))] 73,Zj [nU 16 zF] 101,Zj [nU 72 Sto.new.1,nU 72 Sto.new.2,nB 36 Sto.new.3,sI 0,sI 0] 158,Zj [nU 32 (fL (Zai (Zaw k)))] 96]=[Zj [sP 1 0,sP 2 0,Yp (.v (.pointer none)),Yp (.v (.pointer none)),Yp (.v (.pointer none)),Yp (.v (.pointer none)),nI 4 zF,sI 0,Yp (.v (.slice none 0 0)),Yp (.v (.slice none 0 0))] 73,Zj [nU 16 zF] 101,Zj [nU 72 (XY k s0.1),nU 72 Sto.new.2,nB 36 Sto.new.3,sI 0,sI 0] 158,Zj [nU 32 (fL (Zai (Zaw k)))] 96])/\∀(s:NewG),bif decide ((↑s.1:Int)<(32:Int))then (iR (↑s.1:Int) (32:Int))/\∃(s_1:Xh),[aP 2 0,aI (Zi .i64 ((8:Int)+(↑s.1:Int))),aU (fL (Zai (Zaw k)) (Zh (↑s.1:Int)))]=[aP 2 0,aI s_1.2,aU s_1.3]/\[Zj [nU 72 (XY k s.1),nU 72 Sto.new.2,nB 36 Sto.new.3,sI 0,sI 0] 158]=[stoB (Xh.s s_1)]/\(iR s_1.2 (72:Int))/\∀(x:Unit),True->∃(s':NewG),((eS (aP 3 0) (aP 3 0)/\eS (aP 0 0) (aP 0 0)/\eS (Zz [nU 32 (fL (Zai (Zaw k)))]) (Zz [nU 32 (fL (Zai (Zaw k)))])/\eS (aI (Zi .i64 ((↑s.1:Int)+(1:Int)))) (aI ↑s'.1)/\True)/\[Zj [sP 1 0,sP 2 0,Yp (.v (.pointer none)),Yp (.v (.pointer none)),Yp (.v (.pointer none)),Yp (.v (.pointer none)),nI 4 zF,sI 0,Yp (.v (.slice none 0 0)),Yp (.v (.slice none 0 0))] 73,Zj [nU 16 zF] 101,stoB (Sto.save (Xh.s s_1) (Zh (Xh.a s_1)) (Xh.x s_1)),Zj [nU 32 (fL (Zai (Zaw k)))] 96]=[Zj [sP 1 0,sP 2 0,Yp (.v (.pointer none)),Yp (.v (.pointer none)),Yp (.v (.pointer none)),Yp (.v (.pointer none)),nI 4 zF,sI 0,Yp (.v (.slice none 0 0)),Yp (.v (.slice none 0 0))] 73,Zj [nU 16 zF] 101,Zj [nU 72 (XY k s'.1),nU 72 Sto.new.2,nB 36 Sto.new.3,sI 0,sI 0] 158,Zj [nU 32 (fL (Zai (Zaw k)))] 96])/\32-s'.1<32-s.1 else ∃(s_1:QaU),[aP 2 0,aI 1]=[aP 2 0,aI ↑s_1.2]/\[Zj [nU 72 (XY k s.1),nU 72 Sto.new.2,nB 36 Sto.new.3,sI 0,sI 0] 158]=[stoB (QaU.s s_1)]/\s_1.2<9/\∀(x:Unit),True->∃(s:QaU),[aP 2 0,aI 2]=[aP 2 0,aI ↑s.2]/\[stoB (Zdo (QaU.s s_1) (QaU.n s_1))]=[stoB (QaU.s s)]/\s.2<9/\∀(x:Unit),True->∃(s_2:QaU),[aP 2 0,aI 3]=[aP 2 0,aI ↑s_2.2]/\[stoB (Zdo (QaU.s s) (QaU.n s))]=[stoB (QaU.s s_2)]/\s_2.2<9/\∀(x:Unit),True->∃(s:QaU),[aP 2 0,aI 4]=[aP 2 0,aI ↑s.2]/\[stoB (Zdo (QaU.s s_2) (QaU.n s_2))]=[stoB (QaU.s s)]/\s.2<9/\∀(x:Unit),True->i04/\(iR (1:Int) (4:Int))/\(iR (2:Int) (4:Int))/\(iR (3:Int) (4:Int))/\endN QhP [nzE 0,nzVd 0,nzWA 4,nzWD 4,nzWA 5,nzWD 5,nzWA 6,nzWD 6,nzWA 7,nzWD 7] Qrr (NewS.mk k) (ZS [aP 0 0,Zt (.v ZM)]) [Zj [sP 1 0,sP 2 0,sP 4 0,sP 5 0,sP 6 0,sP 7 0,nI 4 zF,sI 0,Yp (.v (.slice none 0 0)),Yp (.v (.slice none 0 0))] 73,Zj [nU 16 zF] 101,stoB (Zdo (QaU.s s) (QaU.n s)),Zj [nU 32 (fL (Zai (Zaw k)))] 96,Zj [sI 0,sI 0,sI 0,sI 0,sI 0,sI 0,sB false,sI 0,sU 0,nU 32 zF,Yp (.v (.slice none 0 0)),Yp (.v (.slice none 0 0)),nU 3 zF,sI 0,sI 0,sI 0] 108,Zj [sI 1,sI 0,sI 0,sI 0,sI 0,sI 0,sB false,sI 0,sU 0,nU 32 zF,Yp (.v (.slice none 0 0)),Yp (.v (.slice none 0 0)),nU 3 zF,sI 0,sI 0,sI 0] 108,Zj [sI 2,sI 0,sI 0,sI 0,sI 0,sI 0,sB false,sI 0,sU 0,nU 32 zF,Yp (.v (.slice none 0 0)),Yp (.v (.slice none 0 0)),nU 3 zF,sI 0,sI 0,sI 0] 108,Zj [sI 3,sI 0,sI 0,sI 0,sI 0,sI 0,sB false,sI 0,sU 0,nU 32 zF,Yp (.v (.slice none 0 0)),Yp (.v (.slice none 0 0)),nU 3 zF,sI 0,sI 0,sI 0] 108]) Zc ?_
 have h1:1<=k:=h1
 have h6:k<=6:=h6
 refine⟨⟨h1,h6⟩,(),rfl,rfl,Zd,λ_ _=>⟨⟨⟨0,Zb⟩,⟨rfl,rfl,rfl,rfl,Zd⟩,?_⟩,?_⟩⟩
 . exact congrArg (newM k) (Qlp k).symm
 rintro⟨i,hi⟩
 dsimp only at hi ⊢
 refine Qo (λhlt=>?_) (λhge=>?_)
 . have ea:Zi .i64 (8+(i:Int))=((8+i:Nat):Int):=by rw[Qx Za Za];omega
   rw[ea]
   exact⟨⟨Za,Za⟩,⟨{ ZcJ with now:=XY k i },((8+i:Nat):Int),fL (Zaw k).words i⟩,rfl,rfl,⟨(by omega:(0:Int)<=((8+i:Nat):Int)),(by omega:((8+i:Nat):Int)<72)⟩,λ_ _=>⟨⟨i+1,Za⟩,⟨⟨rfl,rfl,rfl,svI (sucI Za),Zd⟩,congrArg (newM k) (Qlq k i)⟩,by dsimp only;omega⟩⟩
 . obtain rfl:i=32:=Za
   obtain⟨A,hA⟩:∃A:Sto,A={ ZcJ with now:=XY k 32 }:=⟨_,rfl⟩
   exact⟨⟨A,1⟩,rfl,by rw[hA];rfl,(by decide:1<9),λ_ _=>⟨⟨A.evict 1,2⟩,rfl,rfl,(by decide:2<9),λ_ _=>⟨⟨(A.evict 1).evict 2,3⟩,rfl,rfl,(by decide:3<9),λ_ _=>⟨⟨((A.evict 1).evict 2).evict 3,4⟩,rfl,rfl,(by decide:4<9),λ_ _=>⟨⟨Zb,Zb⟩,⟨Zb,Zb⟩,⟨Zb,Zb⟩,⟨Zb,Zb⟩,QpC k (evict4 k hA)⟩⟩⟩⟩⟩
def QjG:MCon where
 σ:=NewS
 χ:=List Nat
 pre s:=1<=s.k/\s.k<=6
 args s:=[.c (.v (.int .i64 s.k))]
 mem _:=[]
 ok _ _:=True
 val _ _:=.t [.c (.p 0 0),.c (.v .nilIface)]
 mem' s F:=[.abs (QD shM Yv ShS.good (Za9 s.k)) F]
 k:=0
 len:=1
 det:=none
 find _ _:=some []
theorem newH:(ZH QjG).holds Tryz.prog 21:=by
 intro w0 S
 have h:=QpD w0 S
 refine⟨h.1,λx0 h=>(by cases h),λρ s w hp hK HM=>(h.2.2 ρ s w hp hK HM).mono ?_⟩
 rintro e w' ⟨x,ρ',⟨hg,hz⟩,hag,hlen,rfl,HM'⟩
 have HM':Mem w (feet (denM ρ 0 [])) (denM ρ' 0 (shM x)) w':=HM'
 refine⟨feetL (denM ρ' 0 (shM x)),ρ',Zd,λi hi=>absurd hi (ZP _),rfl,rfl,?_⟩
 show Mem w (feet (denM ρ 0 [])) [En.abs (ρ' 0) (QD shM Yv ShS.good (Za9 s.k)) (feetL (denM ρ' 0 (shM x)))] w'
 refine⟨HM'.kept,λe he=>?_,λe he g hg=>?_,YB _ _⟩
 . obtain rfl:=List.mem_singleton.1 he
   exact⟨x,ρ',hz,hg,rfl,⟨Kept.refl _ _,λe he=>HM'.holds e he,λe he g hg=>.inl ⟨e,he,hg⟩,HM'.dist⟩,λg=>(feetL_iff _ g).symm⟩
 . obtain rfl:=List.mem_singleton.1 he
   obtain⟨e',he',hf'⟩:=(feetL_iff _ g).1 hg
   exact HM'.own e' he' g hf'
end
section
open Go.RowKit
def craC:TCon Sh Int Unit where
 pre z l:=Qmd z l
 args l:=[.c (.v (.int .u64 l))]
 ok _ _ _:=True
 next z l _:=z.crash l
 val _ _ _ _:=.t []
 new _ _ _ _:=[]
 len:=0
abbrev Q4:MCon:=craC.low shM Yv ShS.good 17 7 Qdn
structure CraG (z:Sh) (l:Int) where
 n:Nat
 mh:Nat
 ch:Nat
 nh:Bool
 zh:Nat->Nat->Int
 hn:n<=z.deeds.length
 hu:upTo (Qu l z.s 0) (z.deeds.take n)=upTo (Qu l z.s 0) z.deeds
 lh:Nat
 hl:lh=z.hist.length+1
 h1:lh<=mh
 h2:mh<=ch
 h:IsE zh (z.hist++[⟨3,0,0,0,0,0,0,0,z.steps+1⟩])
def Qq5 (s:ShS) (l:Int):Ann where
 σ:=CraG s.z l
 I g:=([(0,.o (.c (.p 0 0))),(4,sv (.int .i64 (Qu l s.z.s 0))),(5,sv (.int .i64 ((g.n:Int)-1)))],
   shX (putF (λ_=>0) 1 (Qu l s.z.s 0)) (s.z.s.crash l) s.z.w s.z.tog (s.z.steps+1) s.r g.lh g.mh g.ch g.nh g.zh g.n s.mv s.cv s.nv s.zv)
 dec g:=g.n
 pi env M:=shAt M 0
 nz:=[]
theorem Qmm {l:List Vd}{n:Nat}(h0:0<n) (hn:n<=l.length):l.take n=l.take (n-1)++[l.getD (n-1) ZaA]:=by
 obtain⟨m,rfl⟩:∃m,n=m+1:=⟨n-1,Za⟩
 rw[Nat.add_sub_cancel,Za5,Zy Za,Zcz,Zp,Zy Za];rfl
theorem Qrh {v:Int}{l:List Vd}{d:Vd}(h:v<d.ver):upTo v (l++[d])=upTo v l:=by
 unfold upTo
 rw[Zcn]
 show (List.dropWhile _ (d::l.reverse)).reverse=_
 rw[List.dropWhile_cons_of_pos (by simpa using h)]
theorem Qrg {v:Int}{l:List Vd}{d:Vd}(h:¬v<d.ver):upTo v (l++[d])=l++[d]:=by
 unfold upTo
 rw[Zcn]
 show (List.dropWhile _ (d::l.reverse)).reverse=_
 rw[List.dropWhile_cons_of_neg (by simpa using h),List.reverse_cons,List.reverse_reverse]
def agW (a:Bool) (w:Wk):Wk:=bif a then Wk.call w.th w.k w.key w.x w.tog true else w
def agR (a:Bool) (r:WkR):WkR:=bif a then ⟨0,0,false,λ_ _=>0,0,0,false,λ_ _=>0⟩else r
def agH (a:Bool) (w:Wk):Prop:=if a then w.does≠0 else w.does=0
theorem Qfd {a:Bool}{w:Wk}(h:agH a w):w.again=agW a w:=by
 unfold Wk.again
 cases a
 . exact Zf h
 . exact Ze h
theorem QfA {a:Bool}{w:Wk}{r:WkR}(h:(wkS w r).good):(wkS (agW a w) (agR a r)).good:=by
 cases a
 . exact h
 . exact⟨⟨Zq _,Zq _⟩,λi hi=>absurd hi (ZP _),⟨Zq _,Zq _⟩,λi hi=>absurd hi (ZP _)⟩
def sel4 {α:Type}(x0 x1 x2 x3:α):Nat->α
 |0=>x0
 |1=>x1
 |2=>x2
 |_=>x3
theorem QA {z:Sh}{r:Nat->WkR}{mh ch:Nat}{nh:Bool}{zh:Nat->Nat->Int}{mv cv:Nat}{nv:Bool}{zv:Nat->Nat->Int}{l:Int}(h0:(⟨z,r,mh,ch,nh,zh,mv,cv,nv,zv⟩:ShS).good)
 {n lh mh' ch':Nat}{nh':Bool}{zh':Nat->Nat->Int}(hn:n<=z.deeds.length) (hz:z.deeds.take n=upTo (Qu l z.s 0) z.deeds) (hl:lh=z.hist.length+1) (g1:lh<=mh') (g2:mh'<=ch') (g3:IsE zh' (z.hist++[⟨3,0,0,0,0,0,0,0,z.steps+1⟩]))
 {a0 a1 a2 a3:Bool}{M:List SB}(hc:(nodB (shAt M 0)&&QaZ M.length (shAt M 0)&&idB 0 7 (shAt M 0))=true)
 (hM:(shAt M 0).map (getB M)=(shX (putF (λ_=>0) 1 (Qu l z.s 0)) (z.s.crash l) (sel4 (agW a0 (z.w 0)) (agW a1 (z.w 1)) (agW a2 (z.w 2)) (agW a3 (z.w 3))) z.tog (z.steps+1) (sel4 (agR a0 (r 0)) (agR a1 (r 1)) (agR a2 (r 2)) (agR a3 (r 3))) lh mh' ch' nh' zh' n mv cv nv zv).map (SB.ren (ofL (shAt M 0))))
 (e0:agH a0 (z.w 0)) (e1:agH a1 (z.w 1)) (e2:agH a2 (z.w 2)) (e3:agH a3 (z.w 3)):
 endN Q4 [] (λ(x:SV) (M:List SB)=>shAt M 0) (⟨z,r,mh,ch,nh,zh,mv,cv,nv,zv⟩,l) (ZS []) M:=by
 have hw:=h0.w
 have v1:=h0.v1
 have v2:=h0.v2
 dsimp only at hw v1 v2
 refine Ql rfl ⟨⟨z.crash l,sel4 (agR a0 (r 0)) (agR a1 (r 1)) (agR a2 (r 2)) (agR a3 (r 3)),mh',ch',nh',zh',mv,cv,nv,zv⟩,()⟩ ⟨⟨λt ht=>?_,?_,g2,g3,?_,v2,?_⟩,rfl,Zd⟩ ?_ rfl ?_
 . rcases (show t=0\/t=1\/t=2\/t=3 by omega)with rfl|rfl|rfl|rfl
   . show (wkS ((z.w 0).again) (agR a0 (r 0))).good
     rw[Qfd e0];exact QfA (hw 0 Zb)
   . show (wkS ((z.w 1).again) (agR a1 (r 1))).good
     rw[Qfd e1];exact QfA (hw 1 Zb)
   . show (wkS ((z.w 2).again) (agR a2 (r 2))).good
     rw[Qfd e2];exact QfA (hw 2 Zb)
   . show (wkS ((z.w 3).again) (agR a3 (r 3))).good
     rw[Qfd e3];exact QfA (hw 3 Zb)
 . show (z.hist++[_]).length<=mh'
   rw[Zw]
   show z.hist.length+1<=mh'
   omega
 . show (upTo (Qu l z.s 0) z.deeds).length<=mv
   rw[<- hz,ZW];omega
 . show IsV zv (upTo (Qu l z.s 0) z.deeds)
   rw[<- hz];exact IsR.take h0.v n
 . simp only[Zr]at hc ⊢
   exact⟨⟨⟨hc,rfl⟩,rfl⟩,rfl⟩
 . refine hM.trans (congrArg (YN _) ?_)
   show _=shX (putF (λ_=>0) 1 (Qu l z.s 0)) (z.s.crash l) (λt=>(z.w t).again) z.tog (z.steps+1) (sel4 (agR a0 (r 0)) (agR a1 (r 1)) (agR a2 (r 2)) (agR a3 (r 3))) (z.hist++[_]).length mh' ch' nh' zh' (upTo (Qu l z.s 0) z.deeds).length mv cv nv zv++[]
   rw[<- hz,ZW,YM hn,Zw,List.append_nil,hl]
   dsimp only[shX]
   rw[Qfd e0,Qfd e1,Qfd e2,Qfd e3];rfl
theorem QrX:(ZH Q4).holds Tryz.prog 25:=by
 intro w0 S
 refine Qa (Γ:=[(46,.mem (Qec true)),(47,.mem Qfw),(26,.inl Tryz.f26 (Tryz.f26.body.getD .skip)),(49,.mem QN),(48,.mem Xk),(44,.mem (Qbw true))]) (λ_=>noW) Tryz.func25 rfl Zc Qf Qc (λw S' _ _=>.cons (Qia w S') (.cons (Qon w S') (.cons ⟨Zc,rfl,rfl⟩ (.cons (QQ w S') (.cons (Qaf w S') (.cons (Qor w S') (.nil _ _ _))))))) Q4 (λs=>[(25,[(0,Qq5 s.1 s.2)])]) (λx0 h=>by cases h) (λs ρ w _ _ _=>Qj w _) [] (λ_ M=>shAt M 0) 600 ?_
 rintro⟨⟨z,r,mh,ch,nh,zh,mv,cv,nv,zv⟩,l⟩ W ⟨h0,h1⟩ -
 refine⟨rfl,?_⟩
 dsimp only
 refine Qk (q:=dP Tryz.f25 1 17 [⟨11,[17],[15,18],[],true⟩,⟨10,[],[17],[17],false⟩,xE 9,xR 8 0,xF 7 0,xF 6 0,xF 5 0,⟨4,[0],[],[15],false⟩,xF 3 0,xF 2 0,xF 1 0,xF 0 0]/\((Zg z.6<=mh/\ch=ch)/\(1<=1/\1=1)/\Zg z.6+1<=68719476736)/\∀(c:Nat),Zg z.6+1<=c->dP Tryz.f25 1 17 [⟨14,[],[0],[1,2,3,4,5,6,18,16],false⟩,xF 13 0,xF 12 0,⟨11,[17],[15,18],[18],true⟩,⟨10,[],[17],[17],false⟩,xE 9,xR 8 0,xF 7 0,xF 6 0,xF 5 0,⟨4,[0],[],[15],false⟩,xF 3 0,xF 2 0,xF 1 0,xF 0 0]/\∃(s:QbK),[aP 2 0,aU l]=[aP 2 0,aU s.2]/\[stoB (ZaO z)]=[stoB (QbK.s s)]/\U64 s.2/\∀(x:Unit),True->∃(s_1:Nat->Int),[aP 1 0]=[aP 1 0]/\[ramB z.1]=[ramB s_1]/\True/\∀(x:Unit),True->∃(s_2:QC),[aP 2 0,aI 0]=[aP 2 0,aI s_2.2]/\[stoB (bif true then Yw (QbK.s s) (QbK.l s)else have __src:=crTo s 9;Sto.mk (Sto.now __src) (Sto.good __src) (zF) (Sto.fl __src) (Sto.fe __src))]=[stoB (QC.s s_2)]/\(iR s_2.2 (72:Int))/\∀(x:Unit),True->∃(s:Qa6),[aP 1 0,aI 1,aU (Zi .u64 (Zi .i64 ((QC.s s_2).1 (Zh s_2.2))))]=[aP 1 0,aI s.2,aU s.3]/\[Zj [nU 16 zF] 101]=[ramB s.1]/\(iR s.2 (16:Int))/\∀(x:Unit),True->Zg z.7<=cv/\(∃(s0:Ann.σ (Qq5 (Y3 z r mh ch nh zh mv cv nv zv) l)),(eS (aP 0 0) (aP 0 0)/\eS (aI (Zi .i64 ((QC.s s_2).1 (Zh s_2.2)))) (aI (Qu l z.2 0))/\eS (aI (Zi .i64 ((↑(Zg z.7):Int)-(1:Int)))) (aI ((↑s0.1:Int)-(1:Int)))/\True)/\(shI (shD z.4 (Zi .i64 (z.5+(1:Int))) 18 (Zg z.6+1) c nh 16 (Zg z.7) cv nv) (putF s.1 (Zh s.2) s.3) (QC.s s_2) (stX (ZX z) r) (stA r) (stD r) (evB (Zg z.6+1) c λ(i j:Nat)=>bif ZL (i+1) (Zg z.6)then zh i j else match Zl (match Zl [[(3:Int),(0:Int),(0:Int),(0:Int),(0:Int),(0:Int),(0:Int),(0:Int),Zi .i64 (z.5+(1:Int))]] (0+(i-Zg z.6))with|some x=>x|none=>[]) j with|some x=>x|none=>(0:Int)) (vdB mv cv zv) [])=(shI (shD z.4 (z.5+(1:Int)) 18 s0.8 s0.3 s0.4 16 s0.1 cv nv) (putF (zF) 1 (Qu l z.2 0)) (Yw (ZaO z) l) (stX (ZX z) r) (stA r) (stD r) (evB s0.2 s0.3 s0.5) (vdB mv cv zv) []))/\∀(s:CraG z l),bif decide ((↑s.1:Int)-(1:Int)>=(0:Int))then ((0:Int)<=(↑s.1:Int)-(1:Int)/\(↑s.1:Int)-(1:Int)<(↑s.1:Int)/\0+s.1<=cv)/\0+Zh ((↑s.1:Int)-(1:Int))<mv/\bif decide (zv (0+Zh ((↑s.1:Int)-(1:Int))) 0>Zi .u64 (Qu l z.2 0))then ((0:Int)<=(↑s.1:Int)-(1:Int)/\(↑s.1:Int)-(1:Int)<=(↑cv:Int))/\∃(s':CraG z l),((eS (aP 0 0) (aP 0 0)/\eS (aI (Qu l z.2 0)) (aI (Qu l z.2 0))/\eS (aI (Zi .i64 ((↑s.1:Int)-(1:Int)-(1:Int)))) (aI ((↑s'.1:Int)-(1:Int)))/\True)/\(shI (shD z.4 (z.5+(1:Int)) 15 s.8 s.3 s.4 16 (Zh ((↑s.1:Int)-(1:Int))) cv nv) (putF (zF) 1 (Qu l z.2 0)) (Yw (ZaO z) l) (stX (ZX z) r) (stA r) (stD r) (evB s.2 s.3 s.5) (vdB mv cv zv) [])=(shI (shD z.4 (z.5+(1:Int)) 15 s'.8 s'.3 s'.4 16 s'.1 cv nv) (putF (zF) 1 (Qu l z.2 0)) (Yw (ZaO z) l) (stX (ZX z) r) (stA r) (stD r) (evB s'.2 s'.3 s'.5) (vdB mv cv zv) []))/\s'.1<s.1 else i04/\bif (ZX z 0).2 != (0:Int)then ∃(s_3:Qb),[aP 3 0,Zz [sI (ZX z 0).3,sI (ZX z 0).4,sI (ZX z 0).5],aI (ZX z 0).6,aB true]=[aP 3 0,Zz [sI s_3.2,sI s_3.3,sI s_3.4],aI s_3.5,aB true]/\[wkR 7 8 (ZX z 0) (r 0),waR (r 0),wdR (r 0)]=[wkC 7 8 (Zs (ZI s_3)) (ZI s_3).3 (ZI s_3).4 (ZI s_3).7 (ZI s_3).8,wkA (ZI s_3).2 (ZI s_3).3 (ZI s_3).5,wkD (ZI s_3).6 (ZI s_3).7 (ZI s_3).9]/\True/\∀(x:Unit),True->dP Tryz.f25 14 17 [⟨9,[],[3,7,8,17,18],[17,18],false⟩,xR 8 3,xF 7 3,xF 6 3,xF 5 3,xR 4 3,xF 3 3,xF 2 3,xF 1 3,xF 0 3]/\(iR (1:Int) (4:Int))/\bif (ZX z 1).2 != (0:Int)then ∃(s_4:Qb),[aP 4 0,Zz [sI (ZX z 1).3,sI (ZX z 1).4,sI (ZX z 1).5],aI (ZX z 1).6,aB true]=[aP 4 0,Zz [sI s_4.2,sI s_4.3,sI s_4.4],aI s_4.5,aB true]/\[wkR 9 10 (ZX z 1) (r 1),waR (r 1),wdR (r 1)]=[wkC 9 10 (Zs (ZI s_4)) (ZI s_4).3 (ZI s_4).4 (ZI s_4).7 (ZI s_4).8,wkA (ZI s_4).2 (ZI s_4).3 (ZI s_4).5,wkD (ZI s_4).6 (ZI s_4).7 (ZI s_4).9]/\True/\∀(x:Unit),True->dP Tryz.f25 14 19 [⟨9,[],[4,9,10,19,20],[19,20],false⟩,xR 8 4,xF 7 4,xF 6 4,xF 5 4,xR 4 4,xF 3 4,xF 2 4,xF 1 4,xF 0 4]/\(iR (2:Int) (4:Int))/\bif (ZX z 2).2 != (0:Int)then ∃(s_5:Qb),[aP 5 0,Zz [sI (ZX z 2).3,sI (ZX z 2).4,sI (ZX z 2).5],aI (ZX z 2).6,aB true]=[aP 5 0,Zz [sI s_5.2,sI s_5.3,sI s_5.4],aI s_5.5,aB true]/\[wkR 11 12 (ZX z 2) (r 2),waR (r 2),wdR (r 2)]=[wkC 11 12 (Zs (ZI s_5)) (ZI s_5).3 (ZI s_5).4 (ZI s_5).7 (ZI s_5).8,wkA (ZI s_5).2 (ZI s_5).3 (ZI s_5).5,wkD (ZI s_5).6 (ZI s_5).7 (ZI s_5).9]/\True/\∀(x:Unit),True->dP Tryz.f25 14 21 [⟨9,[],[5,11,12,21,22],[21,22],false⟩,xR 8 5,xF 7 5,xF 6 5,xF 5 5,xR 4 5,xF 3 5,xF 2 5,xF 1 5,xF 0 5]/\(iR (3:Int) (4:Int))/\bif (ZX z 3).2 != (0:Int)then ∃(s_6:Qb),[aP 6 0,Zz [sI (ZX z 3).3,sI (ZX z 3).4,sI (ZX z 3).5],aI (ZX z 3).6,aB true]=[aP 6 0,Zz [sI s_6.2,sI s_6.3,sI s_6.4],aI s_6.5,aB true]/\[wkR 13 14 (ZX z 3) (r 3),waR (r 3),wdR (r 3)]=[wkC 13 14 (Zs (ZI s_6)) (ZI s_6).3 (ZI s_6).4 (ZI s_6).7 (ZI s_6).8,wkA (ZI s_6).2 (ZI s_6).3 (ZI s_6).5,wkD (ZI s_6).6 (ZI s_6).7 (ZI s_6).9]/\True/\∀(x:Unit),True->dP Tryz.f25 14 23 [⟨9,[],[6,13,14,23,24],[23,24],false⟩,xR 8 6,xF 7 6,xF 6 6,xF 5 6,xR 4 6,xF 3 6,xF 2 6,xF 1 6,xF 0 6]/\endN Q4 [] (λ(x:SV) (M:List SB)=>shAt M 0) (Y3 z r mh ch nh zh mv cv nv zv,l) (ZS []) (shI (shD z.4 (z.5+(1:Int)) 15 s.8 s.3 s.4 16 s.1 cv nv) (putF (zF) 1 (Qu l z.2 0)) (Yw (ZaO z) l) (setF (setF (setF (setF (stX (ZX z) r) 0 (wkZ 17 18 (wcA s_3))) 1 (wkZ 19 20 (wcA s_4))) 2 (wkZ 21 22 (wcA s_5))) 3 (wkZ 23 24 (wcA s_6))) (setF (setF (setF (setF (stA r) 0 ZB) 1 ZB) 2 ZB) 3 ZB) (setF (setF (setF (setF (stD r) 0 ZB) 1 ZB) 2 ZB) 3 ZB) (evB s.2 s.3 s.5) (vdB mv cv zv) [wa0,wd0,wa0,wd0,wa0,wd0,wa0,wd0])else endN Q4 [] (λ(x:SV) (M:List SB)=>shAt M 0) (Y3 z r mh ch nh zh mv cv nv zv,l) (ZS []) (shI (shD z.4 (z.5+(1:Int)) 15 s.8 s.3 s.4 16 s.1 cv nv) (putF (zF) 1 (Qu l z.2 0)) (Yw (ZaO z) l) (setF (setF (setF (stX (ZX z) r) 0 (wkZ 17 18 (wcA s_3))) 1 (wkZ 19 20 (wcA s_4))) 2 (wkZ 21 22 (wcA s_5))) (setF (setF (setF (stA r) 0 ZB) 1 ZB) 2 ZB) (setF (setF (setF (stD r) 0 ZB) 1 ZB) 2 ZB) (evB s.2 s.3 s.5) (vdB mv cv zv) [wa0,wd0,wa0,wd0,wa0,wd0])else (iR (3:Int) (4:Int))/\bif (ZX z 3).2 != (0:Int)then ∃(s_5:Qb),[aP 6 0,Zz [sI (ZX z 3).3,sI (ZX z 3).4,sI (ZX z 3).5],aI (ZX z 3).6,aB true]=[aP 6 0,Zz [sI s_5.2,sI s_5.3,sI s_5.4],aI s_5.5,aB true]/\[wkR 13 14 (ZX z 3) (r 3),waR (r 3),wdR (r 3)]=[wkC 13 14 (Zs (ZI s_5)) (ZI s_5).3 (ZI s_5).4 (ZI s_5).7 (ZI s_5).8,wkA (ZI s_5).2 (ZI s_5).3 (ZI s_5).5,wkD (ZI s_5).6 (ZI s_5).7 (ZI s_5).9]/\True/\∀(x:Unit),True->dP Tryz.f25 14 21 [⟨9,[],[6,13,14,21,22],[21,22],false⟩,xR 8 6,xF 7 6,xF 6 6,xF 5 6,xR 4 6,xF 3 6,xF 2 6,xF 1 6,xF 0 6]/\endN Q4 [] (λ(x:SV) (M:List SB)=>shAt M 0) (Y3 z r mh ch nh zh mv cv nv zv,l) (ZS []) (shI (shD z.4 (z.5+(1:Int)) 15 s.8 s.3 s.4 16 s.1 cv nv) (putF (zF) 1 (Qu l z.2 0)) (Yw (ZaO z) l) (setF (setF (setF (stX (ZX z) r) 0 (wkZ 17 18 (wcA s_3))) 1 (wkZ 19 20 (wcA s_4))) 3 (wkZ 21 22 (wcA s_5))) (setF (setF (setF (stA r) 0 ZB) 1 ZB) 3 ZB) (setF (setF (setF (stD r) 0 ZB) 1 ZB) 3 ZB) (evB s.2 s.3 s.5) (vdB mv cv zv) [wa0,wd0,wa0,wd0,wa0,wd0])else endN Q4 [] (λ(x:SV) (M:List SB)=>shAt M 0) (Y3 z r mh ch nh zh mv cv nv zv,l) (ZS []) (shI (shD z.4 (z.5+(1:Int)) 15 s.8 s.3 s.4 16 s.1 cv nv) (putF (zF) 1 (Qu l z.2 0)) (Yw (ZaO z) l) (setF (setF (stX (ZX z) r) 0 (wkZ 17 18 (wcA s_3))) 1 (wkZ 19 20 (wcA s_4))) (setF (setF (stA r) 0 ZB) 1 ZB) (setF (setF (stD r) 0 ZB) 1 ZB) (evB s.2 s.3 s.5) (vdB mv cv zv) [wa0,wd0,wa0,wd0])else (iR (2:Int) (4:Int))/\bif (ZX z 2).2 != (0:Int)then ∃(s_4:Qb),[aP 5 0,Zz [sI (ZX z 2).3,sI (ZX z 2).4,sI (ZX z 2).5],aI (ZX z 2).6,aB true]=[aP 5 0,Zz [sI s_4.2,sI s_4.3,sI s_4.4],aI s_4.5,aB true]/\[wkR 11 12 (ZX z 2) (r 2),waR (r 2),wdR (r 2)]=[wkC 11 12 (Zs (ZI s_4)) (ZI s_4).3 (ZI s_4).4 (ZI s_4).7 (ZI s_4).8,wkA (ZI s_4).2 (ZI s_4).3 (ZI s_4).5,wkD (ZI s_4).6 (ZI s_4).7 (ZI s_4).9]/\True/\∀(x:Unit),True->dP Tryz.f25 14 19 [⟨9,[],[5,11,12,19,20],[19,20],false⟩,xR 8 5,xF 7 5,xF 6 5,xF 5 5,xR 4 5,xF 3 5,xF 2 5,xF 1 5,xF 0 5]/\(iR (3:Int) (4:Int))/\bif (ZX z 3).2 != (0:Int)then ∃(s_5:Qb),[aP 6 0,Zz [sI (ZX z 3).3,sI (ZX z 3).4,sI (ZX z 3).5],aI (ZX z 3).6,aB true]=[aP 6 0,Zz [sI s_5.2,sI s_5.3,sI s_5.4],aI s_5.5,aB true]/\[wkR 13 14 (ZX z 3) (r 3),waR (r 3),wdR (r 3)]=[wkC 13 14 (Zs (ZI s_5)) (ZI s_5).3 (ZI s_5).4 (ZI s_5).7 (ZI s_5).8,wkA (ZI s_5).2 (ZI s_5).3 (ZI s_5).5,wkD (ZI s_5).6 (ZI s_5).7 (ZI s_5).9]/\True/\∀(x:Unit),True->dP Tryz.f25 14 21 [⟨9,[],[6,13,14,21,22],[21,22],false⟩,xR 8 6,xF 7 6,xF 6 6,xF 5 6,xR 4 6,xF 3 6,xF 2 6,xF 1 6,xF 0 6]/\endN Q4 [] (λ(x:SV) (M:List SB)=>shAt M 0) (Y3 z r mh ch nh zh mv cv nv zv,l) (ZS []) (shI (shD z.4 (z.5+(1:Int)) 15 s.8 s.3 s.4 16 s.1 cv nv) (putF (zF) 1 (Qu l z.2 0)) (Yw (ZaO z) l) (setF (setF (setF (stX (ZX z) r) 0 (wkZ 17 18 (wcA s_3))) 2 (wkZ 19 20 (wcA s_4))) 3 (wkZ 21 22 (wcA s_5))) (setF (setF (setF (stA r) 0 ZB) 2 ZB) 3 ZB) (setF (setF (setF (stD r) 0 ZB) 2 ZB) 3 ZB) (evB s.2 s.3 s.5) (vdB mv cv zv) [wa0,wd0,wa0,wd0,wa0,wd0])else endN Q4 [] (λ(x:SV) (M:List SB)=>shAt M 0) (Y3 z r mh ch nh zh mv cv nv zv,l) (ZS []) (shI (shD z.4 (z.5+(1:Int)) 15 s.8 s.3 s.4 16 s.1 cv nv) (putF (zF) 1 (Qu l z.2 0)) (Yw (ZaO z) l) (setF (setF (stX (ZX z) r) 0 (wkZ 17 18 (wcA s_3))) 2 (wkZ 19 20 (wcA s_4))) (setF (setF (stA r) 0 ZB) 2 ZB) (setF (setF (stD r) 0 ZB) 2 ZB) (evB s.2 s.3 s.5) (vdB mv cv zv) [wa0,wd0,wa0,wd0])else (iR (3:Int) (4:Int))/\bif (ZX z 3).2 != (0:Int)then ∃(s_4:Qb),[aP 6 0,Zz [sI (ZX z 3).3,sI (ZX z 3).4,sI (ZX z 3).5],aI (ZX z 3).6,aB true]=[aP 6 0,Zz [sI s_4.2,sI s_4.3,sI s_4.4],aI s_4.5,aB true]/\[wkR 13 14 (ZX z 3) (r 3),waR (r 3),wdR (r 3)]=[wkC 13 14 (Zs (ZI s_4)) (ZI s_4).3 (ZI s_4).4 (ZI s_4).7 (ZI s_4).8,wkA (ZI s_4).2 (ZI s_4).3 (ZI s_4).5,wkD (ZI s_4).6 (ZI s_4).7 (ZI s_4).9]/\True/\∀(x:Unit),True->dP Tryz.f25 14 19 [⟨9,[],[6,13,14,19,20],[19,20],false⟩,xR 8 6,xF 7 6,xF 6 6,xF 5 6,xR 4 6,xF 3 6,xF 2 6,xF 1 6,xF 0 6]/\endN Q4 [] (λ(x:SV) (M:List SB)=>shAt M 0) (Y3 z r mh ch nh zh mv cv nv zv,l) (ZS []) (shI (shD z.4 (z.5+(1:Int)) 15 s.8 s.3 s.4 16 s.1 cv nv) (putF (zF) 1 (Qu l z.2 0)) (Yw (ZaO z) l) (setF (setF (stX (ZX z) r) 0 (wkZ 17 18 (wcA s_3))) 3 (wkZ 19 20 (wcA s_4))) (setF (setF (stA r) 0 ZB) 3 ZB) (setF (setF (stD r) 0 ZB) 3 ZB) (evB s.2 s.3 s.5) (vdB mv cv zv) [wa0,wd0,wa0,wd0])else endN Q4 [] (λ(x:SV) (M:List SB)=>shAt M 0) (Y3 z r mh ch nh zh mv cv nv zv,l) (ZS []) (shI (shD z.4 (z.5+(1:Int)) 15 s.8 s.3 s.4 16 s.1 cv nv) (putF (zF) 1 (Qu l z.2 0)) (Yw (ZaO z) l) (setF (stX (ZX z) r) 0 (wkZ 17 18 (wcA s_3))) (setF (stA r) 0 ZB) (setF (stD r) 0 ZB) (evB s.2 s.3 s.5) (vdB mv cv zv) [wa0,wd0])else (iR (1:Int) (4:Int))/\bif (ZX z 1).2 != (0:Int)then ∃(s_3:Qb),[aP 4 0,Zz [sI (ZX z 1).3,sI (ZX z 1).4,sI (ZX z 1).5],aI (ZX z 1).6,aB true]=[aP 4 0,Zz [sI s_3.2,sI s_3.3,sI s_3.4],aI s_3.5,aB true]/\[wkR 9 10 (ZX z 1) (r 1),waR (r 1),wdR (r 1)]=[wkC 9 10 (Zs (ZI s_3)) (ZI s_3).3 (ZI s_3).4 (ZI s_3).7 (ZI s_3).8,wkA (ZI s_3).2 (ZI s_3).3 (ZI s_3).5,wkD (ZI s_3).6 (ZI s_3).7 (ZI s_3).9]/\True/\∀(x:Unit),True->dP Tryz.f25 14 17 [⟨9,[],[4,9,10,17,18],[17,18],false⟩,xR 8 4,xF 7 4,xF 6 4,xF 5 4,xR 4 4,xF 3 4,xF 2 4,xF 1 4,xF 0 4]/\(iR (2:Int) (4:Int))/\bif (ZX z 2).2 != (0:Int)then ∃(s_4:Qb),[aP 5 0,Zz [sI (ZX z 2).3,sI (ZX z 2).4,sI (ZX z 2).5],aI (ZX z 2).6,aB true]=[aP 5 0,Zz [sI s_4.2,sI s_4.3,sI s_4.4],aI s_4.5,aB true]/\[wkR 11 12 (ZX z 2) (r 2),waR (r 2),wdR (r 2)]=[wkC 11 12 (Zs (ZI s_4)) (ZI s_4).3 (ZI s_4).4 (ZI s_4).7 (ZI s_4).8,wkA (ZI s_4).2 (ZI s_4).3 (ZI s_4).5,wkD (ZI s_4).6 (ZI s_4).7 (ZI s_4).9]/\True/\∀(x:Unit),True->dP Tryz.f25 14 19 [⟨9,[],[5,11,12,19,20],[19,20],false⟩,xR 8 5,xF 7 5,xF 6 5,xF 5 5,xR 4 5,xF 3 5,xF 2 5,xF 1 5,xF 0 5]/\(iR (3:Int) (4:Int))/\bif (ZX z 3).2 != (0:Int)then ∃(s_5:Qb),[aP 6 0,Zz [sI (ZX z 3).3,sI (ZX z 3).4,sI (ZX z 3).5],aI (ZX z 3).6,aB true]=[aP 6 0,Zz [sI s_5.2,sI s_5.3,sI s_5.4],aI s_5.5,aB true]/\[wkR 13 14 (ZX z 3) (r 3),waR (r 3),wdR (r 3)]=[wkC 13 14 (Zs (ZI s_5)) (ZI s_5).3 (ZI s_5).4 (ZI s_5).7 (ZI s_5).8,wkA (ZI s_5).2 (ZI s_5).3 (ZI s_5).5,wkD (ZI s_5).6 (ZI s_5).7 (ZI s_5).9]/\True/\∀(x:Unit),True->dP Tryz.f25 14 21 [⟨9,[],[6,13,14,21,22],[21,22],false⟩,xR 8 6,xF 7 6,xF 6 6,xF 5 6,xR 4 6,xF 3 6,xF 2 6,xF 1 6,xF 0 6]/\endN Q4 [] (λ(x:SV) (M:List SB)=>shAt M 0) (Y3 z r mh ch nh zh mv cv nv zv,l) (ZS []) (shI (shD z.4 (z.5+(1:Int)) 15 s.8 s.3 s.4 16 s.1 cv nv) (putF (zF) 1 (Qu l z.2 0)) (Yw (ZaO z) l) (setF (setF (setF (stX (ZX z) r) 1 (wkZ 17 18 (wcA s_3))) 2 (wkZ 19 20 (wcA s_4))) 3 (wkZ 21 22 (wcA s_5))) (setF (setF (setF (stA r) 1 ZB) 2 ZB) 3 ZB) (setF (setF (setF (stD r) 1 ZB) 2 ZB) 3 ZB) (evB s.2 s.3 s.5) (vdB mv cv zv) [wa0,wd0,wa0,wd0,wa0,wd0])else endN Q4 [] (λ(x:SV) (M:List SB)=>shAt M 0) (Y3 z r mh ch nh zh mv cv nv zv,l) (ZS []) (shI (shD z.4 (z.5+(1:Int)) 15 s.8 s.3 s.4 16 s.1 cv nv) (putF (zF) 1 (Qu l z.2 0)) (Yw (ZaO z) l) (setF (setF (stX (ZX z) r) 1 (wkZ 17 18 (wcA s_3))) 2 (wkZ 19 20 (wcA s_4))) (setF (setF (stA r) 1 ZB) 2 ZB) (setF (setF (stD r) 1 ZB) 2 ZB) (evB s.2 s.3 s.5) (vdB mv cv zv) [wa0,wd0,wa0,wd0])else (iR (3:Int) (4:Int))/\bif (ZX z 3).2 != (0:Int)then ∃(s_4:Qb),[aP 6 0,Zz [sI (ZX z 3).3,sI (ZX z 3).4,sI (ZX z 3).5],aI (ZX z 3).6,aB true]=[aP 6 0,Zz [sI s_4.2,sI s_4.3,sI s_4.4],aI s_4.5,aB true]/\[wkR 13 14 (ZX z 3) (r 3),waR (r 3),wdR (r 3)]=[wkC 13 14 (Zs (ZI s_4)) (ZI s_4).3 (ZI s_4).4 (ZI s_4).7 (ZI s_4).8,wkA (ZI s_4).2 (ZI s_4).3 (ZI s_4).5,wkD (ZI s_4).6 (ZI s_4).7 (ZI s_4).9]/\True/\∀(x:Unit),True->dP Tryz.f25 14 19 [⟨9,[],[6,13,14,19,20],[19,20],false⟩,xR 8 6,xF 7 6,xF 6 6,xF 5 6,xR 4 6,xF 3 6,xF 2 6,xF 1 6,xF 0 6]/\endN Q4 [] (λ(x:SV) (M:List SB)=>shAt M 0) (Y3 z r mh ch nh zh mv cv nv zv,l) (ZS []) (shI (shD z.4 (z.5+(1:Int)) 15 s.8 s.3 s.4 16 s.1 cv nv) (putF (zF) 1 (Qu l z.2 0)) (Yw (ZaO z) l) (setF (setF (stX (ZX z) r) 1 (wkZ 17 18 (wcA s_3))) 3 (wkZ 19 20 (wcA s_4))) (setF (setF (stA r) 1 ZB) 3 ZB) (setF (setF (stD r) 1 ZB) 3 ZB) (evB s.2 s.3 s.5) (vdB mv cv zv) [wa0,wd0,wa0,wd0])else endN Q4 [] (λ(x:SV) (M:List SB)=>shAt M 0) (Y3 z r mh ch nh zh mv cv nv zv,l) (ZS []) (shI (shD z.4 (z.5+(1:Int)) 15 s.8 s.3 s.4 16 s.1 cv nv) (putF (zF) 1 (Qu l z.2 0)) (Yw (ZaO z) l) (setF (stX (ZX z) r) 1 (wkZ 17 18 (wcA s_3))) (setF (stA r) 1 ZB) (setF (stD r) 1 ZB) (evB s.2 s.3 s.5) (vdB mv cv zv) [wa0,wd0])else (iR (2:Int) (4:Int))/\bif (ZX z 2).2 != (0:Int)then ∃(s_3:Qb),[aP 5 0,Zz [sI (ZX z 2).3,sI (ZX z 2).4,sI (ZX z 2).5],aI (ZX z 2).6,aB true]=[aP 5 0,Zz [sI s_3.2,sI s_3.3,sI s_3.4],aI s_3.5,aB true]/\[wkR 11 12 (ZX z 2) (r 2),waR (r 2),wdR (r 2)]=[wkC 11 12 (Zs (ZI s_3)) (ZI s_3).3 (ZI s_3).4 (ZI s_3).7 (ZI s_3).8,wkA (ZI s_3).2 (ZI s_3).3 (ZI s_3).5,wkD (ZI s_3).6 (ZI s_3).7 (ZI s_3).9]/\True/\∀(x:Unit),True->dP Tryz.f25 14 17 [⟨9,[],[5,11,12,17,18],[17,18],false⟩,xR 8 5,xF 7 5,xF 6 5,xF 5 5,xR 4 5,xF 3 5,xF 2 5,xF 1 5,xF 0 5]/\(iR (3:Int) (4:Int))/\bif (ZX z 3).2 != (0:Int)then ∃(s_4:Qb),[aP 6 0,Zz [sI (ZX z 3).3,sI (ZX z 3).4,sI (ZX z 3).5],aI (ZX z 3).6,aB true]=[aP 6 0,Zz [sI s_4.2,sI s_4.3,sI s_4.4],aI s_4.5,aB true]/\[wkR 13 14 (ZX z 3) (r 3),waR (r 3),wdR (r 3)]=[wkC 13 14 (Zs (ZI s_4)) (ZI s_4).3 (ZI s_4).4 (ZI s_4).7 (ZI s_4).8,wkA (ZI s_4).2 (ZI s_4).3 (ZI s_4).5,wkD (ZI s_4).6 (ZI s_4).7 (ZI s_4).9]/\True/\∀(x:Unit),True->dP Tryz.f25 14 19 [⟨9,[],[6,13,14,19,20],[19,20],false⟩,xR 8 6,xF 7 6,xF 6 6,xF 5 6,xR 4 6,xF 3 6,xF 2 6,xF 1 6,xF 0 6]/\endN Q4 [] (λ(x:SV) (M:List SB)=>shAt M 0) (Y3 z r mh ch nh zh mv cv nv zv,l) (ZS []) (shI (shD z.4 (z.5+(1:Int)) 15 s.8 s.3 s.4 16 s.1 cv nv) (putF (zF) 1 (Qu l z.2 0)) (Yw (ZaO z) l) (setF (setF (stX (ZX z) r) 2 (wkZ 17 18 (wcA s_3))) 3 (wkZ 19 20 (wcA s_4))) (setF (setF (stA r) 2 ZB) 3 ZB) (setF (setF (stD r) 2 ZB) 3 ZB) (evB s.2 s.3 s.5) (vdB mv cv zv) [wa0,wd0,wa0,wd0])else endN Q4 [] (λ(x:SV) (M:List SB)=>shAt M 0) (Y3 z r mh ch nh zh mv cv nv zv,l) (ZS []) (shI (shD z.4 (z.5+(1:Int)) 15 s.8 s.3 s.4 16 s.1 cv nv) (putF (zF) 1 (Qu l z.2 0)) (Yw (ZaO z) l) (setF (stX (ZX z) r) 2 (wkZ 17 18 (wcA s_3))) (setF (stA r) 2 ZB) (setF (stD r) 2 ZB) (evB s.2 s.3 s.5) (vdB mv cv zv) [wa0,wd0])else (iR (3:Int) (4:Int))/\bif (ZX z 3).2 != (0:Int)then ∃(s_3:Qb),[aP 6 0,Zz [sI (ZX z 3).3,sI (ZX z 3).4,sI (ZX z 3).5],aI (ZX z 3).6,aB true]=[aP 6 0,Zz [sI s_3.2,sI s_3.3,sI s_3.4],aI s_3.5,aB true]/\[wkR 13 14 (ZX z 3) (r 3),waR (r 3),wdR (r 3)]=[wkC 13 14 (Zs (ZI s_3)) (ZI s_3).3 (ZI s_3).4 (ZI s_3).7 (ZI s_3).8,wkA (ZI s_3).2 (ZI s_3).3 (ZI s_3).5,wkD (ZI s_3).6 (ZI s_3).7 (ZI s_3).9]/\True/\∀(x:Unit),True->dP Tryz.f25 14 17 [⟨9,[],[6,13,14,17,18],[17,18],false⟩,xR 8 6,xF 7 6,xF 6 6,xF 5 6,xR 4 6,xF 3 6,xF 2 6,xF 1 6,xF 0 6]/\endN Q4 [] (λ(x:SV) (M:List SB)=>shAt M 0) (Y3 z r mh ch nh zh mv cv nv zv,l) (ZS []) (shI (shD z.4 (z.5+(1:Int)) 15 s.8 s.3 s.4 16 s.1 cv nv) (putF (zF) 1 (Qu l z.2 0)) (Yw (ZaO z) l) (setF (stX (ZX z) r) 3 (wkZ 17 18 (wcA s_3))) (setF (stA r) 3 ZB) (setF (stD r) 3 ZB) (evB s.2 s.3 s.5) (vdB mv cv zv) [wa0,wd0])else endN Q4 [] (λ(x:SV) (M:List SB)=>shAt M 0) (Y3 z r mh ch nh zh mv cv nv zv,l) (ZS []) (shI (shD z.4 (z.5+(1:Int)) 15 s.8 s.3 s.4 16 s.1 cv nv) (putF (zF) 1 (Qu l z.2 0)) (Yw (ZaO z) l) (stX (ZX z) r) (stA r) (stD r) (evB s.2 s.3 s.5) (vdB mv cv zv) [])else i04/\bif (ZX z 0).2 != (0:Int)then ∃(s_3:Qb),[aP 3 0,Zz [sI (ZX z 0).3,sI (ZX z 0).4,sI (ZX z 0).5],aI (ZX z 0).6,aB true]=[aP 3 0,Zz [sI s_3.2,sI s_3.3,sI s_3.4],aI s_3.5,aB true]/\[wkR 7 8 (ZX z 0) (r 0),waR (r 0),wdR (r 0)]=[wkC 7 8 (Zs (ZI s_3)) (ZI s_3).3 (ZI s_3).4 (ZI s_3).7 (ZI s_3).8,wkA (ZI s_3).2 (ZI s_3).3 (ZI s_3).5,wkD (ZI s_3).6 (ZI s_3).7 (ZI s_3).9]/\True/\∀(x:Unit),True->dP Tryz.f25 14 17 [⟨9,[],[3,7,8,17,18],[17,18],false⟩,xR 8 3,xF 7 3,xF 6 3,xF 5 3,xR 4 3,xF 3 3,xF 2 3,xF 1 3,xF 0 3]/\(iR (1:Int) (4:Int))/\bif (ZX z 1).2 != (0:Int)then ∃(s_4:Qb),[aP 4 0,Zz [sI (ZX z 1).3,sI (ZX z 1).4,sI (ZX z 1).5],aI (ZX z 1).6,aB true]=[aP 4 0,Zz [sI s_4.2,sI s_4.3,sI s_4.4],aI s_4.5,aB true]/\[wkR 9 10 (ZX z 1) (r 1),waR (r 1),wdR (r 1)]=[wkC 9 10 (Zs (ZI s_4)) (ZI s_4).3 (ZI s_4).4 (ZI s_4).7 (ZI s_4).8,wkA (ZI s_4).2 (ZI s_4).3 (ZI s_4).5,wkD (ZI s_4).6 (ZI s_4).7 (ZI s_4).9]/\True/\∀(x:Unit),True->dP Tryz.f25 14 19 [⟨9,[],[4,9,10,19,20],[19,20],false⟩,xR 8 4,xF 7 4,xF 6 4,xF 5 4,xR 4 4,xF 3 4,xF 2 4,xF 1 4,xF 0 4]/\(iR (2:Int) (4:Int))/\bif (ZX z 2).2 != (0:Int)then ∃(s_5:Qb),[aP 5 0,Zz [sI (ZX z 2).3,sI (ZX z 2).4,sI (ZX z 2).5],aI (ZX z 2).6,aB true]=[aP 5 0,Zz [sI s_5.2,sI s_5.3,sI s_5.4],aI s_5.5,aB true]/\[wkR 11 12 (ZX z 2) (r 2),waR (r 2),wdR (r 2)]=[wkC 11 12 (Zs (ZI s_5)) (ZI s_5).3 (ZI s_5).4 (ZI s_5).7 (ZI s_5).8,wkA (ZI s_5).2 (ZI s_5).3 (ZI s_5).5,wkD (ZI s_5).6 (ZI s_5).7 (ZI s_5).9]/\True/\∀(x:Unit),True->dP Tryz.f25 14 21 [⟨9,[],[5,11,12,21,22],[21,22],false⟩,xR 8 5,xF 7 5,xF 6 5,xF 5 5,xR 4 5,xF 3 5,xF 2 5,xF 1 5,xF 0 5]/\(iR (3:Int) (4:Int))/\bif (ZX z 3).2 != (0:Int)then ∃(s_6:Qb),[aP 6 0,Zz [sI (ZX z 3).3,sI (ZX z 3).4,sI (ZX z 3).5],aI (ZX z 3).6,aB true]=[aP 6 0,Zz [sI s_6.2,sI s_6.3,sI s_6.4],aI s_6.5,aB true]/\[wkR 13 14 (ZX z 3) (r 3),waR (r 3),wdR (r 3)]=[wkC 13 14 (Zs (ZI s_6)) (ZI s_6).3 (ZI s_6).4 (ZI s_6).7 (ZI s_6).8,wkA (ZI s_6).2 (ZI s_6).3 (ZI s_6).5,wkD (ZI s_6).6 (ZI s_6).7 (ZI s_6).9]/\True/\∀(x:Unit),True->dP Tryz.f25 14 23 [⟨9,[],[6,13,14,23,24],[23,24],false⟩,xR 8 6,xF 7 6,xF 6 6,xF 5 6,xR 4 6,xF 3 6,xF 2 6,xF 1 6,xF 0 6]/\endN Q4 [] (λ(x:SV) (M:List SB)=>shAt M 0) (Y3 z r mh ch nh zh mv cv nv zv,l) (ZS []) (shI (shD z.4 (z.5+(1:Int)) 15 s.8 s.3 s.4 16 s.1 cv nv) (putF (zF) 1 (Qu l z.2 0)) (Yw (ZaO z) l) (setF (setF (setF (setF (stX (ZX z) r) 0 (wkZ 17 18 (wcA s_3))) 1 (wkZ 19 20 (wcA s_4))) 2 (wkZ 21 22 (wcA s_5))) 3 (wkZ 23 24 (wcA s_6))) (setF (setF (setF (setF (stA r) 0 ZB) 1 ZB) 2 ZB) 3 ZB) (setF (setF (setF (setF (stD r) 0 ZB) 1 ZB) 2 ZB) 3 ZB) (evB s.2 s.3 s.5) (vdB mv cv zv) [wa0,wd0,wa0,wd0,wa0,wd0,wa0,wd0])else endN Q4 [] (λ(x:SV) (M:List SB)=>shAt M 0) (Y3 z r mh ch nh zh mv cv nv zv,l) (ZS []) (shI (shD z.4 (z.5+(1:Int)) 15 s.8 s.3 s.4 16 s.1 cv nv) (putF (zF) 1 (Qu l z.2 0)) (Yw (ZaO z) l) (setF (setF (setF (stX (ZX z) r) 0 (wkZ 17 18 (wcA s_3))) 1 (wkZ 19 20 (wcA s_4))) 2 (wkZ 21 22 (wcA s_5))) (setF (setF (setF (stA r) 0 ZB) 1 ZB) 2 ZB) (setF (setF (setF (stD r) 0 ZB) 1 ZB) 2 ZB) (evB s.2 s.3 s.5) (vdB mv cv zv) [wa0,wd0,wa0,wd0,wa0,wd0])else (iR (3:Int) (4:Int))/\bif (ZX z 3).2 != (0:Int)then ∃(s_5:Qb),[aP 6 0,Zz [sI (ZX z 3).3,sI (ZX z 3).4,sI (ZX z 3).5],aI (ZX z 3).6,aB true]=[aP 6 0,Zz [sI s_5.2,sI s_5.3,sI s_5.4],aI s_5.5,aB true]/\[wkR 13 14 (ZX z 3) (r 3),waR (r 3),wdR (r 3)]=[wkC 13 14 (Zs (ZI s_5)) (ZI s_5).3 (ZI s_5).4 (ZI s_5).7 (ZI s_5).8,wkA (ZI s_5).2 (ZI s_5).3 (ZI s_5).5,wkD (ZI s_5).6 (ZI s_5).7 (ZI s_5).9]/\True/\∀(x:Unit),True->dP Tryz.f25 14 21 [⟨9,[],[6,13,14,21,22],[21,22],false⟩,xR 8 6,xF 7 6,xF 6 6,xF 5 6,xR 4 6,xF 3 6,xF 2 6,xF 1 6,xF 0 6]/\endN Q4 [] (λ(x:SV) (M:List SB)=>shAt M 0) (Y3 z r mh ch nh zh mv cv nv zv,l) (ZS []) (shI (shD z.4 (z.5+(1:Int)) 15 s.8 s.3 s.4 16 s.1 cv nv) (putF (zF) 1 (Qu l z.2 0)) (Yw (ZaO z) l) (setF (setF (setF (stX (ZX z) r) 0 (wkZ 17 18 (wcA s_3))) 1 (wkZ 19 20 (wcA s_4))) 3 (wkZ 21 22 (wcA s_5))) (setF (setF (setF (stA r) 0 ZB) 1 ZB) 3 ZB) (setF (setF (setF (stD r) 0 ZB) 1 ZB) 3 ZB) (evB s.2 s.3 s.5) (vdB mv cv zv) [wa0,wd0,wa0,wd0,wa0,wd0])else endN Q4 [] (λ(x:SV) (M:List SB)=>shAt M 0) (Y3 z r mh ch nh zh mv cv nv zv,l) (ZS []) (shI (shD z.4 (z.5+(1:Int)) 15 s.8 s.3 s.4 16 s.1 cv nv) (putF (zF) 1 (Qu l z.2 0)) (Yw (ZaO z) l) (setF (setF (stX (ZX z) r) 0 (wkZ 17 18 (wcA s_3))) 1 (wkZ 19 20 (wcA s_4))) (setF (setF (stA r) 0 ZB) 1 ZB) (setF (setF (stD r) 0 ZB) 1 ZB) (evB s.2 s.3 s.5) (vdB mv cv zv) [wa0,wd0,wa0,wd0])else (iR (2:Int) (4:Int))/\bif (ZX z 2).2 != (0:Int)then ∃(s_4:Qb),[aP 5 0,Zz [sI (ZX z 2).3,sI (ZX z 2).4,sI (ZX z 2).5],aI (ZX z 2).6,aB true]=[aP 5 0,Zz [sI s_4.2,sI s_4.3,sI s_4.4],aI s_4.5,aB true]/\[wkR 11 12 (ZX z 2) (r 2),waR (r 2),wdR (r 2)]=[wkC 11 12 (Zs (ZI s_4)) (ZI s_4).3 (ZI s_4).4 (ZI s_4).7 (ZI s_4).8,wkA (ZI s_4).2 (ZI s_4).3 (ZI s_4).5,wkD (ZI s_4).6 (ZI s_4).7 (ZI s_4).9]/\True/\∀(x:Unit),True->dP Tryz.f25 14 19 [⟨9,[],[5,11,12,19,20],[19,20],false⟩,xR 8 5,xF 7 5,xF 6 5,xF 5 5,xR 4 5,xF 3 5,xF 2 5,xF 1 5,xF 0 5]/\(iR (3:Int) (4:Int))/\bif (ZX z 3).2 != (0:Int)then ∃(s_5:Qb),[aP 6 0,Zz [sI (ZX z 3).3,sI (ZX z 3).4,sI (ZX z 3).5],aI (ZX z 3).6,aB true]=[aP 6 0,Zz [sI s_5.2,sI s_5.3,sI s_5.4],aI s_5.5,aB true]/\[wkR 13 14 (ZX z 3) (r 3),waR (r 3),wdR (r 3)]=[wkC 13 14 (Zs (ZI s_5)) (ZI s_5).3 (ZI s_5).4 (ZI s_5).7 (ZI s_5).8,wkA (ZI s_5).2 (ZI s_5).3 (ZI s_5).5,wkD (ZI s_5).6 (ZI s_5).7 (ZI s_5).9]/\True/\∀(x:Unit),True->dP Tryz.f25 14 21 [⟨9,[],[6,13,14,21,22],[21,22],false⟩,xR 8 6,xF 7 6,xF 6 6,xF 5 6,xR 4 6,xF 3 6,xF 2 6,xF 1 6,xF 0 6]/\endN Q4 [] (λ(x:SV) (M:List SB)=>shAt M 0) (Y3 z r mh ch nh zh mv cv nv zv,l) (ZS []) (shI (shD z.4 (z.5+(1:Int)) 15 s.8 s.3 s.4 16 s.1 cv nv) (putF (zF) 1 (Qu l z.2 0)) (Yw (ZaO z) l) (setF (setF (setF (stX (ZX z) r) 0 (wkZ 17 18 (wcA s_3))) 2 (wkZ 19 20 (wcA s_4))) 3 (wkZ 21 22 (wcA s_5))) (setF (setF (setF (stA r) 0 ZB) 2 ZB) 3 ZB) (setF (setF (setF (stD r) 0 ZB) 2 ZB) 3 ZB) (evB s.2 s.3 s.5) (vdB mv cv zv) [wa0,wd0,wa0,wd0,wa0,wd0])else endN Q4 [] (λ(x:SV) (M:List SB)=>shAt M 0) (Y3 z r mh ch nh zh mv cv nv zv,l) (ZS []) (shI (shD z.4 (z.5+(1:Int)) 15 s.8 s.3 s.4 16 s.1 cv nv) (putF (zF) 1 (Qu l z.2 0)) (Yw (ZaO z) l) (setF (setF (stX (ZX z) r) 0 (wkZ 17 18 (wcA s_3))) 2 (wkZ 19 20 (wcA s_4))) (setF (setF (stA r) 0 ZB) 2 ZB) (setF (setF (stD r) 0 ZB) 2 ZB) (evB s.2 s.3 s.5) (vdB mv cv zv) [wa0,wd0,wa0,wd0])else (iR (3:Int) (4:Int))/\bif (ZX z 3).2 != (0:Int)then ∃(s_4:Qb),[aP 6 0,Zz [sI (ZX z 3).3,sI (ZX z 3).4,sI (ZX z 3).5],aI (ZX z 3).6,aB true]=[aP 6 0,Zz [sI s_4.2,sI s_4.3,sI s_4.4],aI s_4.5,aB true]/\[wkR 13 14 (ZX z 3) (r 3),waR (r 3),wdR (r 3)]=[wkC 13 14 (Zs (ZI s_4)) (ZI s_4).3 (ZI s_4).4 (ZI s_4).7 (ZI s_4).8,wkA (ZI s_4).2 (ZI s_4).3 (ZI s_4).5,wkD (ZI s_4).6 (ZI s_4).7 (ZI s_4).9]/\True/\∀(x:Unit),True->dP Tryz.f25 14 19 [⟨9,[],[6,13,14,19,20],[19,20],false⟩,xR 8 6,xF 7 6,xF 6 6,xF 5 6,xR 4 6,xF 3 6,xF 2 6,xF 1 6,xF 0 6]/\endN Q4 [] (λ(x:SV) (M:List SB)=>shAt M 0) (Y3 z r mh ch nh zh mv cv nv zv,l) (ZS []) (shI (shD z.4 (z.5+(1:Int)) 15 s.8 s.3 s.4 16 s.1 cv nv) (putF (zF) 1 (Qu l z.2 0)) (Yw (ZaO z) l) (setF (setF (stX (ZX z) r) 0 (wkZ 17 18 (wcA s_3))) 3 (wkZ 19 20 (wcA s_4))) (setF (setF (stA r) 0 ZB) 3 ZB) (setF (setF (stD r) 0 ZB) 3 ZB) (evB s.2 s.3 s.5) (vdB mv cv zv) [wa0,wd0,wa0,wd0])else endN Q4 [] (λ(x:SV) (M:List SB)=>shAt M 0) (Y3 z r mh ch nh zh mv cv nv zv,l) (ZS []) (shI (shD z.4 (z.5+(1:Int)) 15 s.8 s.3 s.4 16 s.1 cv nv) (putF (zF) 1 (Qu l z.2 0)) (Yw (ZaO z) l) (setF (stX (ZX z) r) 0 (wkZ 17 18 (wcA s_3))) (setF (stA r) 0 ZB) (setF (stD r) 0 ZB) (evB s.2 s.3 s.5) (vdB mv cv zv) [wa0,wd0])else (iR (1:Int) (4:Int))/\bif (ZX z 1).2 != (0:Int)then ∃(s_3:Qb),[aP 4 0,Zz [sI (ZX z 1).3,sI (ZX z 1).4,sI (ZX z 1).5],aI (ZX z 1).6,aB true]=[aP 4 0,Zz [sI s_3.2,sI s_3.3,sI s_3.4],aI s_3.5,aB true]/\[wkR 9 10 (ZX z 1) (r 1),waR (r 1),wdR (r 1)]=[wkC 9 10 (Zs (ZI s_3)) (ZI s_3).3 (ZI s_3).4 (ZI s_3).7 (ZI s_3).8,wkA (ZI s_3).2 (ZI s_3).3 (ZI s_3).5,wkD (ZI s_3).6 (ZI s_3).7 (ZI s_3).9]/\True/\∀(x:Unit),True->dP Tryz.f25 14 17 [⟨9,[],[4,9,10,17,18],[17,18],false⟩,xR 8 4,xF 7 4,xF 6 4,xF 5 4,xR 4 4,xF 3 4,xF 2 4,xF 1 4,xF 0 4]/\(iR (2:Int) (4:Int))/\bif (ZX z 2).2 != (0:Int)then ∃(s_4:Qb),[aP 5 0,Zz [sI (ZX z 2).3,sI (ZX z 2).4,sI (ZX z 2).5],aI (ZX z 2).6,aB true]=[aP 5 0,Zz [sI s_4.2,sI s_4.3,sI s_4.4],aI s_4.5,aB true]/\[wkR 11 12 (ZX z 2) (r 2),waR (r 2),wdR (r 2)]=[wkC 11 12 (Zs (ZI s_4)) (ZI s_4).3 (ZI s_4).4 (ZI s_4).7 (ZI s_4).8,wkA (ZI s_4).2 (ZI s_4).3 (ZI s_4).5,wkD (ZI s_4).6 (ZI s_4).7 (ZI s_4).9]/\True/\∀(x:Unit),True->dP Tryz.f25 14 19 [⟨9,[],[5,11,12,19,20],[19,20],false⟩,xR 8 5,xF 7 5,xF 6 5,xF 5 5,xR 4 5,xF 3 5,xF 2 5,xF 1 5,xF 0 5]/\(iR (3:Int) (4:Int))/\bif (ZX z 3).2 != (0:Int)then ∃(s_5:Qb),[aP 6 0,Zz [sI (ZX z 3).3,sI (ZX z 3).4,sI (ZX z 3).5],aI (ZX z 3).6,aB true]=[aP 6 0,Zz [sI s_5.2,sI s_5.3,sI s_5.4],aI s_5.5,aB true]/\[wkR 13 14 (ZX z 3) (r 3),waR (r 3),wdR (r 3)]=[wkC 13 14 (Zs (ZI s_5)) (ZI s_5).3 (ZI s_5).4 (ZI s_5).7 (ZI s_5).8,wkA (ZI s_5).2 (ZI s_5).3 (ZI s_5).5,wkD (ZI s_5).6 (ZI s_5).7 (ZI s_5).9]/\True/\∀(x:Unit),True->dP Tryz.f25 14 21 [⟨9,[],[6,13,14,21,22],[21,22],false⟩,xR 8 6,xF 7 6,xF 6 6,xF 5 6,xR 4 6,xF 3 6,xF 2 6,xF 1 6,xF 0 6]/\endN Q4 [] (λ(x:SV) (M:List SB)=>shAt M 0) (Y3 z r mh ch nh zh mv cv nv zv,l) (ZS []) (shI (shD z.4 (z.5+(1:Int)) 15 s.8 s.3 s.4 16 s.1 cv nv) (putF (zF) 1 (Qu l z.2 0)) (Yw (ZaO z) l) (setF (setF (setF (stX (ZX z) r) 1 (wkZ 17 18 (wcA s_3))) 2 (wkZ 19 20 (wcA s_4))) 3 (wkZ 21 22 (wcA s_5))) (setF (setF (setF (stA r) 1 ZB) 2 ZB) 3 ZB) (setF (setF (setF (stD r) 1 ZB) 2 ZB) 3 ZB) (evB s.2 s.3 s.5) (vdB mv cv zv) [wa0,wd0,wa0,wd0,wa0,wd0])else endN Q4 [] (λ(x:SV) (M:List SB)=>shAt M 0) (Y3 z r mh ch nh zh mv cv nv zv,l) (ZS []) (shI (shD z.4 (z.5+(1:Int)) 15 s.8 s.3 s.4 16 s.1 cv nv) (putF (zF) 1 (Qu l z.2 0)) (Yw (ZaO z) l) (setF (setF (stX (ZX z) r) 1 (wkZ 17 18 (wcA s_3))) 2 (wkZ 19 20 (wcA s_4))) (setF (setF (stA r) 1 ZB) 2 ZB) (setF (setF (stD r) 1 ZB) 2 ZB) (evB s.2 s.3 s.5) (vdB mv cv zv) [wa0,wd0,wa0,wd0])else (iR (3:Int) (4:Int))/\bif (ZX z 3).2 != (0:Int)then ∃(s_4:Qb),[aP 6 0,Zz [sI (ZX z 3).3,sI (ZX z 3).4,sI (ZX z 3).5],aI (ZX z 3).6,aB true]=[aP 6 0,Zz [sI s_4.2,sI s_4.3,sI s_4.4],aI s_4.5,aB true]/\[wkR 13 14 (ZX z 3) (r 3),waR (r 3),wdR (r 3)]=[wkC 13 14 (Zs (ZI s_4)) (ZI s_4).3 (ZI s_4).4 (ZI s_4).7 (ZI s_4).8,wkA (ZI s_4).2 (ZI s_4).3 (ZI s_4).5,wkD (ZI s_4).6 (ZI s_4).7 (ZI s_4).9]/\True/\∀(x:Unit),True->dP Tryz.f25 14 19 [⟨9,[],[6,13,14,19,20],[19,20],false⟩,xR 8 6,xF 7 6,xF 6 6,xF 5 6,xR 4 6,xF 3 6,xF 2 6,xF 1 6,xF 0 6]/\endN Q4 [] (λ(x:SV) (M:List SB)=>shAt M 0) (Y3 z r mh ch nh zh mv cv nv zv,l) (ZS []) (shI (shD z.4 (z.5+(1:Int)) 15 s.8 s.3 s.4 16 s.1 cv nv) (putF (zF) 1 (Qu l z.2 0)) (Yw (ZaO z) l) (setF (setF (stX (ZX z) r) 1 (wkZ 17 18 (wcA s_3))) 3 (wkZ 19 20 (wcA s_4))) (setF (setF (stA r) 1 ZB) 3 ZB) (setF (setF (stD r) 1 ZB) 3 ZB) (evB s.2 s.3 s.5) (vdB mv cv zv) [wa0,wd0,wa0,wd0])else endN Q4 [] (λ(x:SV) (M:List SB)=>shAt M 0) (Y3 z r mh ch nh zh mv cv nv zv,l) (ZS []) (shI (shD z.4 (z.5+(1:Int)) 15 s.8 s.3 s.4 16 s.1 cv nv) (putF (zF) 1 (Qu l z.2 0)) (Yw (ZaO z) l) (setF (stX (ZX z) r) 1 (wkZ 17 18 (wcA s_3))) (setF (stA r) 1 ZB) (setF (stD r) 1 ZB) (evB s.2 s.3 s.5) (vdB mv cv zv) [wa0,wd0])else (iR (2:Int) (4:Int))/\bif (ZX z 2).2 != (0:Int)then ∃(s_3:Qb),[aP 5 0,Zz [sI (ZX z 2).3,sI (ZX z 2).4,sI (ZX z 2).5],aI (ZX z 2).6,aB true]=[aP 5 0,Zz [sI s_3.2,sI s_3.3,sI s_3.4],aI s_3.5,aB true]/\[wkR 11 12 (ZX z 2) (r 2),waR (r 2),wdR (r 2)]=[wkC 11 12 (Zs (ZI s_3)) (ZI s_3).3 (ZI s_3).4 (ZI s_3).7 (ZI s_3).8,wkA (ZI s_3).2 (ZI s_3).3 (ZI s_3).5,wkD (ZI s_3).6 (ZI s_3).7 (ZI s_3).9]/\True/\∀(x:Unit),True->dP Tryz.f25 14 17 [⟨9,[],[5,11,12,17,18],[17,18],false⟩,xR 8 5,xF 7 5,xF 6 5,xF 5 5,xR 4 5,xF 3 5,xF 2 5,xF 1 5,xF 0 5]/\(iR (3:Int) (4:Int))/\bif (ZX z 3).2 != (0:Int)then ∃(s_4:Qb),[aP 6 0,Zz [sI (ZX z 3).3,sI (ZX z 3).4,sI (ZX z 3).5],aI (ZX z 3).6,aB true]=[aP 6 0,Zz [sI s_4.2,sI s_4.3,sI s_4.4],aI s_4.5,aB true]/\[wkR 13 14 (ZX z 3) (r 3),waR (r 3),wdR (r 3)]=[wkC 13 14 (Zs (ZI s_4)) (ZI s_4).3 (ZI s_4).4 (ZI s_4).7 (ZI s_4).8,wkA (ZI s_4).2 (ZI s_4).3 (ZI s_4).5,wkD (ZI s_4).6 (ZI s_4).7 (ZI s_4).9]/\True/\∀(x:Unit),True->dP Tryz.f25 14 19 [⟨9,[],[6,13,14,19,20],[19,20],false⟩,xR 8 6,xF 7 6,xF 6 6,xF 5 6,xR 4 6,xF 3 6,xF 2 6,xF 1 6,xF 0 6]/\endN Q4 [] (λ(x:SV) (M:List SB)=>shAt M 0) (Y3 z r mh ch nh zh mv cv nv zv,l) (ZS []) (shI (shD z.4 (z.5+(1:Int)) 15 s.8 s.3 s.4 16 s.1 cv nv) (putF (zF) 1 (Qu l z.2 0)) (Yw (ZaO z) l) (setF (setF (stX (ZX z) r) 2 (wkZ 17 18 (wcA s_3))) 3 (wkZ 19 20 (wcA s_4))) (setF (setF (stA r) 2 ZB) 3 ZB) (setF (setF (stD r) 2 ZB) 3 ZB) (evB s.2 s.3 s.5) (vdB mv cv zv) [wa0,wd0,wa0,wd0])else endN Q4 [] (λ(x:SV) (M:List SB)=>shAt M 0) (Y3 z r mh ch nh zh mv cv nv zv,l) (ZS []) (shI (shD z.4 (z.5+(1:Int)) 15 s.8 s.3 s.4 16 s.1 cv nv) (putF (zF) 1 (Qu l z.2 0)) (Yw (ZaO z) l) (setF (stX (ZX z) r) 2 (wkZ 17 18 (wcA s_3))) (setF (stA r) 2 ZB) (setF (stD r) 2 ZB) (evB s.2 s.3 s.5) (vdB mv cv zv) [wa0,wd0])else (iR (3:Int) (4:Int))/\bif (ZX z 3).2 != (0:Int)then ∃(s_3:Qb),[aP 6 0,Zz [sI (ZX z 3).3,sI (ZX z 3).4,sI (ZX z 3).5],aI (ZX z 3).6,aB true]=[aP 6 0,Zz [sI s_3.2,sI s_3.3,sI s_3.4],aI s_3.5,aB true]/\[wkR 13 14 (ZX z 3) (r 3),waR (r 3),wdR (r 3)]=[wkC 13 14 (Zs (ZI s_3)) (ZI s_3).3 (ZI s_3).4 (ZI s_3).7 (ZI s_3).8,wkA (ZI s_3).2 (ZI s_3).3 (ZI s_3).5,wkD (ZI s_3).6 (ZI s_3).7 (ZI s_3).9]/\True/\∀(x:Unit),True->dP Tryz.f25 14 17 [⟨9,[],[6,13,14,17,18],[17,18],false⟩,xR 8 6,xF 7 6,xF 6 6,xF 5 6,xR 4 6,xF 3 6,xF 2 6,xF 1 6,xF 0 6]/\endN Q4 [] (λ(x:SV) (M:List SB)=>shAt M 0) (Y3 z r mh ch nh zh mv cv nv zv,l) (ZS []) (shI (shD z.4 (z.5+(1:Int)) 15 s.8 s.3 s.4 16 s.1 cv nv) (putF (zF) 1 (Qu l z.2 0)) (Yw (ZaO z) l) (setF (stX (ZX z) r) 3 (wkZ 17 18 (wcA s_3))) (setF (stA r) 3 ZB) (setF (stD r) 3 ZB) (evB s.2 s.3 s.5) (vdB mv cv zv) [wa0,wd0])else endN Q4 [] (λ(x:SV) (M:List SB)=>shAt M 0) (Y3 z r mh ch nh zh mv cv nv zv,l) (ZS []) (shI (shD z.4 (z.5+(1:Int)) 15 s.8 s.3 s.4 16 s.1 cv nv) (putF (zF) 1 (Qu l z.2 0)) (Yw (ZaO z) l) (stX (ZX z) r) (stA r) (stD r) (evB s.2 s.3 s.5) (vdB mv cv zv) [])) Zc ?_
 have h0:(⟨z,r,mh,ch,nh,zh,mv,cv,nv,zv⟩:ShS).good:=h0
 have h1:Qmd z l:=h1
 have hst0:=h1.st0
 have hst1:=h1.st1
 have hhl:=h1.h
 have hdl:=h1.d
 have hv0:=h1.v0
 have hv1:=h1.v1
 have q1:=h0.h1
 have q2:=h0.h2
 have p1:=h0.v1
 have p2:=h0.v2
 dsimp only at q1 q2 p1 p2
 have es:Zi .i64 (z.steps+1)=z.steps+1:=Qx Za Za
 have ev:Zi .i64 ((z.s.crash l).now (Zh 0))=Qu l z.s 0:=Qx (by show -9223372036854775808<=Qu l z.s 0;omega) (by show Qu l z.s 0<=9223372036854775807;omega)
 have eu:Zi .u64 (Qu l z.s 0)=Qu l z.s 0:=QaL Za Za
 rw[es]
 refine⟨Qd Zc,⟨⟨q1,rfl⟩,⟨Zq _,rfl⟩,Za⟩,λc hc=>⟨Qd Zc,⟨z.s,l⟩,rfl,rfl,h1.lu,λ_ _=>⟨z.m,rfl,rfl,Zd,λ_ _=>⟨⟨z.s.crash l,0⟩,rfl,rfl,⟨(by decide:(0:Int)<=0),(by decide:(0:Int)<72)⟩,λ_ _=>?_⟩⟩⟩⟩
 dsimp only
 rw[ev,eu]
 refine⟨⟨λ_=>0,1,Qu l z.s 0⟩,rfl,rfl,⟨(by decide:(0:Int)<=1),(by decide:(1:Int)<16)⟩,λ_ _=>⟨ZV p1 p2,⟨⟨z.deeds.length,z.hist.length+1,c,nh,_,Zq _,by rw[Yt],z.hist.length+1,rfl,Zq _,hc,?_⟩,⟨rfl,rfl,svI (Qx Za Za),Zd⟩,rfl⟩,?_⟩⟩
 . refine h0.h.snoc (λj hj k _=>catT hj) (λj hj=>?_)
   refine catF.trans ?_
   rw[Ye]
   match j,hj with
   |0,_=>rfl
   |1,_=>rfl
   |2,_=>rfl
   |3,_=>rfl
   |4,_=>rfl
   |5,_=>rfl
   |6,_=>rfl
   |7,_=>rfl
   |8,_=>rfl
 rintro⟨n,mh',ch',nh',zh',hn,hu,lh,hl,g1,g2,g3⟩
 dsimp only at hn hu hl g1 g2 g3 ⊢
 refine Qo (λhge=>?_) (λhlt=>?_)
 . have en:((n:Int)-1).toNat=n-1:=Za
   have hz0:zv (0+((n:Int)-1).toNat) 0=(z.deeds.getD (n-1) ZaA).ver:=by rw[Zu,en];exact h0.v (n-1) (by show n-1<z.deeds.length;omega) 0 Zb
   have ht:=Qmm (l:=z.deeds) (n:=n) Za hn
   refine⟨⟨Za,Za,Za⟩,Za,Qo (λhgt=>?_) (λhle=>?_)⟩
   . rw[hz0]at hgt
     refine⟨⟨Za,Za⟩,⟨((n:Int)-1).toNat,mh',ch',nh',zh',Za,?_,lh,hl,g1,g2,g3⟩,⟨⟨rfl,rfl,svI (show Zi .i64 ((n:Int)-1-1)=(((n:Int)-1).toNat:Int)-1 by rw[Qx Za Za];omega),Zd⟩,rfl⟩,by dsimp only;omega⟩
     rw[en,<- hu,ht,Qrh hgt]
   . rw[hz0]at hle
     have hz:z.deeds.take n=upTo (Qu l z.s 0) z.deeds:=by rw[<- hu,ht];exact (Qrg Za).symm
     exact⟨⟨Zb,Zb⟩,QB (λk0=>⟨⟨wkS (z.w 0) (r 0),(z.w 0).k,(z.w 0).key,(z.w 0).x,(z.w 0).tog⟩,rfl,rfl,Zd,λ_ _=>⟨Qd Zc,⟨⟨Zb,Zb⟩,QB (λk1=>⟨⟨wkS (z.w 1) (r 1),(z.w 1).k,(z.w 1).key,(z.w 1).x,(z.w 1).tog⟩,rfl,rfl,Zd,λ_ _=>⟨Qd Zc,⟨⟨Zb,Zb⟩,QB (λk2=>⟨⟨wkS (z.w 2) (r 2),(z.w 2).k,(z.w 2).key,(z.w 2).x,(z.w 2).tog⟩,rfl,rfl,Zd,λ_ _=>⟨Qd Zc,⟨⟨Zb,Zb⟩,QB (λk3=>⟨⟨wkS (z.w 3) (r 3),(z.w 3).k,(z.w 3).key,(z.w 3).x,(z.w 3).tog⟩,rfl,rfl,Zd,λ_ _=>⟨Qd Zc,QA h0 hn hz hl g1 g2 g3 (a0:=true) (a1:=true) (a2:=true) (a3:=true) rfl rfl k0 k1 k2 k3⟩⟩) (λk3=>QA h0 hn hz hl g1 g2 g3 (a0:=true) (a1:=true) (a2:=true) (a3:=false) rfl rfl k0 k1 k2 k3)⟩⟩⟩) (λk2=>⟨⟨Zb,Zb⟩,QB (λk3=>⟨⟨wkS (z.w 3) (r 3),(z.w 3).k,(z.w 3).key,(z.w 3).x,(z.w 3).tog⟩,rfl,rfl,Zd,λ_ _=>⟨Qd Zc,QA h0 hn hz hl g1 g2 g3 (a0:=true) (a1:=true) (a2:=false) (a3:=true) rfl rfl k0 k1 k2 k3⟩⟩) (λk3=>QA h0 hn hz hl g1 g2 g3 (a0:=true) (a1:=true) (a2:=false) (a3:=false) rfl rfl k0 k1 k2 k3)⟩)⟩⟩⟩) (λk1=>⟨⟨Zb,Zb⟩,QB (λk2=>⟨⟨wkS (z.w 2) (r 2),(z.w 2).k,(z.w 2).key,(z.w 2).x,(z.w 2).tog⟩,rfl,rfl,Zd,λ_ _=>⟨Qd Zc,⟨⟨Zb,Zb⟩,QB (λk3=>⟨⟨wkS (z.w 3) (r 3),(z.w 3).k,(z.w 3).key,(z.w 3).x,(z.w 3).tog⟩,rfl,rfl,Zd,λ_ _=>⟨Qd Zc,QA h0 hn hz hl g1 g2 g3 (a0:=true) (a1:=false) (a2:=true) (a3:=true) rfl rfl k0 k1 k2 k3⟩⟩) (λk3=>QA h0 hn hz hl g1 g2 g3 (a0:=true) (a1:=false) (a2:=true) (a3:=false) rfl rfl k0 k1 k2 k3)⟩⟩⟩) (λk2=>⟨⟨Zb,Zb⟩,QB (λk3=>⟨⟨wkS (z.w 3) (r 3),(z.w 3).k,(z.w 3).key,(z.w 3).x,(z.w 3).tog⟩,rfl,rfl,Zd,λ_ _=>⟨Qd Zc,QA h0 hn hz hl g1 g2 g3 (a0:=true) (a1:=false) (a2:=false) (a3:=true) rfl rfl k0 k1 k2 k3⟩⟩) (λk3=>QA h0 hn hz hl g1 g2 g3 (a0:=true) (a1:=false) (a2:=false) (a3:=false) rfl rfl k0 k1 k2 k3)⟩)⟩)⟩⟩⟩) (λk0=>⟨⟨Zb,Zb⟩,QB (λk1=>⟨⟨wkS (z.w 1) (r 1),(z.w 1).k,(z.w 1).key,(z.w 1).x,(z.w 1).tog⟩,rfl,rfl,Zd,λ_ _=>⟨Qd Zc,⟨⟨Zb,Zb⟩,QB (λk2=>⟨⟨wkS (z.w 2) (r 2),(z.w 2).k,(z.w 2).key,(z.w 2).x,(z.w 2).tog⟩,rfl,rfl,Zd,λ_ _=>⟨Qd Zc,⟨⟨Zb,Zb⟩,QB (λk3=>⟨⟨wkS (z.w 3) (r 3),(z.w 3).k,(z.w 3).key,(z.w 3).x,(z.w 3).tog⟩,rfl,rfl,Zd,λ_ _=>⟨Qd Zc,QA h0 hn hz hl g1 g2 g3 (a0:=false) (a1:=true) (a2:=true) (a3:=true) rfl rfl k0 k1 k2 k3⟩⟩) (λk3=>QA h0 hn hz hl g1 g2 g3 (a0:=false) (a1:=true) (a2:=true) (a3:=false) rfl rfl k0 k1 k2 k3)⟩⟩⟩) (λk2=>⟨⟨Zb,Zb⟩,QB (λk3=>⟨⟨wkS (z.w 3) (r 3),(z.w 3).k,(z.w 3).key,(z.w 3).x,(z.w 3).tog⟩,rfl,rfl,Zd,λ_ _=>⟨Qd Zc,QA h0 hn hz hl g1 g2 g3 (a0:=false) (a1:=true) (a2:=false) (a3:=true) rfl rfl k0 k1 k2 k3⟩⟩) (λk3=>QA h0 hn hz hl g1 g2 g3 (a0:=false) (a1:=true) (a2:=false) (a3:=false) rfl rfl k0 k1 k2 k3)⟩)⟩⟩⟩) (λk1=>⟨⟨Zb,Zb⟩,QB (λk2=>⟨⟨wkS (z.w 2) (r 2),(z.w 2).k,(z.w 2).key,(z.w 2).x,(z.w 2).tog⟩,rfl,rfl,Zd,λ_ _=>⟨Qd Zc,⟨⟨Zb,Zb⟩,QB (λk3=>⟨⟨wkS (z.w 3) (r 3),(z.w 3).k,(z.w 3).key,(z.w 3).x,(z.w 3).tog⟩,rfl,rfl,Zd,λ_ _=>⟨Qd Zc,QA h0 hn hz hl g1 g2 g3 (a0:=false) (a1:=false) (a2:=true) (a3:=true) rfl rfl k0 k1 k2 k3⟩⟩) (λk3=>QA h0 hn hz hl g1 g2 g3 (a0:=false) (a1:=false) (a2:=true) (a3:=false) rfl rfl k0 k1 k2 k3)⟩⟩⟩) (λk2=>⟨⟨Zb,Zb⟩,QB (λk3=>⟨⟨wkS (z.w 3) (r 3),(z.w 3).k,(z.w 3).key,(z.w 3).x,(z.w 3).tog⟩,rfl,rfl,Zd,λ_ _=>⟨Qd Zc,QA h0 hn hz hl g1 g2 g3 (a0:=false) (a1:=false) (a2:=false) (a3:=true) rfl rfl k0 k1 k2 k3⟩⟩) (λk3=>QA h0 hn hz hl g1 g2 g3 (a0:=false) (a1:=false) (a2:=false) (a3:=false) rfl rfl k0 k1 k2 k3)⟩)⟩)⟩)⟩
 . obtain rfl:n=0:=Za
   have hz:z.deeds.take 0=upTo (Qu l z.s 0) z.deeds:=by rw[<- hu];rfl
   exact⟨⟨Zb,Zb⟩,QB (λk0=>⟨⟨wkS (z.w 0) (r 0),(z.w 0).k,(z.w 0).key,(z.w 0).x,(z.w 0).tog⟩,rfl,rfl,Zd,λ_ _=>⟨Qd Zc,⟨⟨Zb,Zb⟩,QB (λk1=>⟨⟨wkS (z.w 1) (r 1),(z.w 1).k,(z.w 1).key,(z.w 1).x,(z.w 1).tog⟩,rfl,rfl,Zd,λ_ _=>⟨Qd Zc,⟨⟨Zb,Zb⟩,QB (λk2=>⟨⟨wkS (z.w 2) (r 2),(z.w 2).k,(z.w 2).key,(z.w 2).x,(z.w 2).tog⟩,rfl,rfl,Zd,λ_ _=>⟨Qd Zc,⟨⟨Zb,Zb⟩,QB (λk3=>⟨⟨wkS (z.w 3) (r 3),(z.w 3).k,(z.w 3).key,(z.w 3).x,(z.w 3).tog⟩,rfl,rfl,Zd,λ_ _=>⟨Qd Zc,QA h0 hn hz hl g1 g2 g3 (a0:=true) (a1:=true) (a2:=true) (a3:=true) rfl rfl k0 k1 k2 k3⟩⟩) (λk3=>QA h0 hn hz hl g1 g2 g3 (a0:=true) (a1:=true) (a2:=true) (a3:=false) rfl rfl k0 k1 k2 k3)⟩⟩⟩) (λk2=>⟨⟨Zb,Zb⟩,QB (λk3=>⟨⟨wkS (z.w 3) (r 3),(z.w 3).k,(z.w 3).key,(z.w 3).x,(z.w 3).tog⟩,rfl,rfl,Zd,λ_ _=>⟨Qd Zc,QA h0 hn hz hl g1 g2 g3 (a0:=true) (a1:=true) (a2:=false) (a3:=true) rfl rfl k0 k1 k2 k3⟩⟩) (λk3=>QA h0 hn hz hl g1 g2 g3 (a0:=true) (a1:=true) (a2:=false) (a3:=false) rfl rfl k0 k1 k2 k3)⟩)⟩⟩⟩) (λk1=>⟨⟨Zb,Zb⟩,QB (λk2=>⟨⟨wkS (z.w 2) (r 2),(z.w 2).k,(z.w 2).key,(z.w 2).x,(z.w 2).tog⟩,rfl,rfl,Zd,λ_ _=>⟨Qd Zc,⟨⟨Zb,Zb⟩,QB (λk3=>⟨⟨wkS (z.w 3) (r 3),(z.w 3).k,(z.w 3).key,(z.w 3).x,(z.w 3).tog⟩,rfl,rfl,Zd,λ_ _=>⟨Qd Zc,QA h0 hn hz hl g1 g2 g3 (a0:=true) (a1:=false) (a2:=true) (a3:=true) rfl rfl k0 k1 k2 k3⟩⟩) (λk3=>QA h0 hn hz hl g1 g2 g3 (a0:=true) (a1:=false) (a2:=true) (a3:=false) rfl rfl k0 k1 k2 k3)⟩⟩⟩) (λk2=>⟨⟨Zb,Zb⟩,QB (λk3=>⟨⟨wkS (z.w 3) (r 3),(z.w 3).k,(z.w 3).key,(z.w 3).x,(z.w 3).tog⟩,rfl,rfl,Zd,λ_ _=>⟨Qd Zc,QA h0 hn hz hl g1 g2 g3 (a0:=true) (a1:=false) (a2:=false) (a3:=true) rfl rfl k0 k1 k2 k3⟩⟩) (λk3=>QA h0 hn hz hl g1 g2 g3 (a0:=true) (a1:=false) (a2:=false) (a3:=false) rfl rfl k0 k1 k2 k3)⟩)⟩)⟩⟩⟩) (λk0=>⟨⟨Zb,Zb⟩,QB (λk1=>⟨⟨wkS (z.w 1) (r 1),(z.w 1).k,(z.w 1).key,(z.w 1).x,(z.w 1).tog⟩,rfl,rfl,Zd,λ_ _=>⟨Qd Zc,⟨⟨Zb,Zb⟩,QB (λk2=>⟨⟨wkS (z.w 2) (r 2),(z.w 2).k,(z.w 2).key,(z.w 2).x,(z.w 2).tog⟩,rfl,rfl,Zd,λ_ _=>⟨Qd Zc,⟨⟨Zb,Zb⟩,QB (λk3=>⟨⟨wkS (z.w 3) (r 3),(z.w 3).k,(z.w 3).key,(z.w 3).x,(z.w 3).tog⟩,rfl,rfl,Zd,λ_ _=>⟨Qd Zc,QA h0 hn hz hl g1 g2 g3 (a0:=false) (a1:=true) (a2:=true) (a3:=true) rfl rfl k0 k1 k2 k3⟩⟩) (λk3=>QA h0 hn hz hl g1 g2 g3 (a0:=false) (a1:=true) (a2:=true) (a3:=false) rfl rfl k0 k1 k2 k3)⟩⟩⟩) (λk2=>⟨⟨Zb,Zb⟩,QB (λk3=>⟨⟨wkS (z.w 3) (r 3),(z.w 3).k,(z.w 3).key,(z.w 3).x,(z.w 3).tog⟩,rfl,rfl,Zd,λ_ _=>⟨Qd Zc,QA h0 hn hz hl g1 g2 g3 (a0:=false) (a1:=true) (a2:=false) (a3:=true) rfl rfl k0 k1 k2 k3⟩⟩) (λk3=>QA h0 hn hz hl g1 g2 g3 (a0:=false) (a1:=true) (a2:=false) (a3:=false) rfl rfl k0 k1 k2 k3)⟩)⟩⟩⟩) (λk1=>⟨⟨Zb,Zb⟩,QB (λk2=>⟨⟨wkS (z.w 2) (r 2),(z.w 2).k,(z.w 2).key,(z.w 2).x,(z.w 2).tog⟩,rfl,rfl,Zd,λ_ _=>⟨Qd Zc,⟨⟨Zb,Zb⟩,QB (λk3=>⟨⟨wkS (z.w 3) (r 3),(z.w 3).k,(z.w 3).key,(z.w 3).x,(z.w 3).tog⟩,rfl,rfl,Zd,λ_ _=>⟨Qd Zc,QA h0 hn hz hl g1 g2 g3 (a0:=false) (a1:=false) (a2:=true) (a3:=true) rfl rfl k0 k1 k2 k3⟩⟩) (λk3=>QA h0 hn hz hl g1 g2 g3 (a0:=false) (a1:=false) (a2:=true) (a3:=false) rfl rfl k0 k1 k2 k3)⟩⟩⟩) (λk2=>⟨⟨Zb,Zb⟩,QB (λk3=>⟨⟨wkS (z.w 3) (r 3),(z.w 3).k,(z.w 3).key,(z.w 3).x,(z.w 3).tog⟩,rfl,rfl,Zd,λ_ _=>⟨Qd Zc,QA h0 hn hz hl g1 g2 g3 (a0:=false) (a1:=false) (a2:=false) (a3:=true) rfl rfl k0 k1 k2 k3⟩⟩) (λk3=>QA h0 hn hz hl g1 g2 g3 (a0:=false) (a1:=false) (a2:=false) (a3:=false) rfl rfl k0 k1 k2 k3)⟩)⟩)⟩)⟩
end
section
def PosV (z:Sh):Prop:=∀d∈z.deeds,0<=d.ver
theorem QjR {v:Int}{l:List Vd}{d:Vd}(h:d∈upTo v l):d∈l:=by
 unfold upTo at h
 rw[List.mem_reverse]at h
 exact List.mem_reverse.1 ((List.dropWhile_sublist _).subset h)
section
variable {K:Int}{z:Sh}{g:Gh}{t:Nat}
theorem Fine.now (F:Fine K z g):0<=z.s.now 0:=by
 have h1:=F.1.gl.now0
 have h2:=F.1.gl.v0
 have h3:=F.1.gl.vd
 omega
theorem Qpn (F:Fine K z g) (p:PosV z) (ht:t<4) (hs:z.steps<100000000):PosV (z.step t):=by
 unfold ZdP
 split
 . exact p
 . rename_i hn
   have h0:=(Qe2 F ht hs hn).now
   have e:(z.stepped t).s=(Qe (z.wst t)).1.s:=by
    unfold ZbU
    dsimp only
    split<;>split<;>rfl
   rw[e]at h0
   have e2:(z.stepped t).deeds=z.deeds\/(z.stepped t).deeds=z.deeds++(Qe (z.wst t)).1.w.deeds.map (Zd7 ((Qe (z.wst t)).1.s.now 0)):=by
    unfold ZbU
    dsimp only
    split<;>split<;>first|exact .inl rfl|exact .inr rfl
   intro d hd
   rcases e2 with e2|e2
   . rw[e2]at hd;exact p d hd
   . rw[e2]at hd
     rcases List.mem_append.1 hd with hd|hd
     . exact p d hd
     . obtain⟨x,-,rfl⟩:=List.mem_map.1 hd
       exact h0
theorem QmX (ht:t<4):∀(n:Nat) {z:Sh}{g:Gh},Fine K z g->PosV z->z.steps+n<100000000->PosV (z.run t n)
 |0,z,g,_,p,_=>p
 |n+1,z,g,F,p,hs=>by
  obtain⟨g',F'⟩:=Qf8 F ht Za
  have:=(QbN z t).2
  exact QmX ht n F' (Qpn F p ht Za) Za
theorem Qpo (F:Fine K z g) (p:PosV z) (hs:z.steps<90000000) (m:Mv):PosV (z.move m):=by
 unfold Sh.move
 split
 . unfold Sh.callA
   cases hb:inT m.t
   . exact p
   . rw[cond_true]
     unfold Zc1
     split<;>exact p
 split
 . unfold Sh.runA
   cases hb:inT m.t
   . exact p
   . rw[cond_true]
     cases hc:runB m.n
     . exact p
     . have h2:=of_decide_eq_true hc
       exact QmX (QcF hb).2.2 m.n.toNat F p Za
 split
 . unfold Zcw
   split<;>exact p
 split
 . intro d hd
   exact p d (QjR hd)
 . exact p
structure Fin2 (K:Int) (z:Sh) (g:Gh):Prop where
 f:Fine K z g
 p:PosV z
theorem Qp1 (F:Fin2 K z g) (hs:z.steps<90000000) (m:Mv):∃g',Fin2 K (z.move m) g':=by
 obtain⟨g',F'⟩:=QiD F.f hs m
 exact⟨g',F',Qpo F.f F.p hs m⟩
theorem QrQ {K:Int}(h1:1<=K) (h6:K<=6):Fin2 K (Za9 K) (Gh.new K):=⟨Qkt h1 h6,λd hd=>by cases hd⟩
theorem QnV {K:Int}(h1:1<=K) (h6:K<=6):∀(n:Nat) (l:List Mv),l.length=n->n<=80000->∃g,Fin2 K (XJ K l) g/\(XJ K l).steps<=1000*(n:Int)
 |0,l,hl,_=>by
  have:=List.length_eq_zero_iff.1 hl
  subst this
  exact⟨_,QrQ h1 h6,ZQ 0⟩
 |n+1,l,hl,hn=>by
  obtain⟨l',m,rfl⟩:∃l' m,l=l'++[m]:=⟨l.dropLast,l.getLast (by intro h;rw[h]at hl;cases hl),(ZaP _).symm⟩
  rw[Zw,Yd]at hl
  obtain⟨g,F,hs⟩:=QnV h1 h6 n l' Za Za
  rw[QbQ]
  obtain⟨g',F'⟩:=Qp1 F Za m
  have:=QeF (XJ K l') m
  exact⟨g',F',Za⟩
end
end
section
section
variable {K:Int}{z:Sh}{g:Gh}{t:Nat}
end
end
section
def mvAt (z:Nat->Nat->Int) (i:Nat):Mv:=⟨z i 0,z i 1,z i 2,z i 3,z i 4,z i 5,z i 6⟩
def mvL (z:Nat->Nat->Int) (n:Nat):List Mv:=(Z2 n).map (mvAt z)
theorem QpE (z:Nat->Nat->Int) (i:Nat):mvL z (i+1)=mvL z i++[mvAt z i]:=by unfold mvL;rw[List.range_succ,YW];rfl
theorem QrF (z:Nat->Nat->Int) (n:Nat):(mvL z n).length=n:=by unfold mvL;rw[ZN,List.length_range]
end
section
open Go.RowKit
def mvK:Nat->IntKind:=λj=>bif ZE j 6 then .u64 else .i64
def MvIn (W:World) (a:Option Addr) (n c:Nat) (z:Nat->Nat->Int):Prop:=Rws 7 mvK W a n c z/\∀i,i<n->U64 (z i 6)
end
section
structure FinI (K:Int) (z:Sh) (g:Gh):Prop where
 i:ShInv K z g
 p:PosV z
 s:(z.hist.length:Int)<=z.steps
section
variable {K:Int}{z:Sh}{g:Gh}{t:Nat}
theorem ShInv.now (I:ShInv K z g):0<=z.s.now 0:=by
 have h1:=I.gl.now0
 have h2:=I.gl.v0
 have h3:=I.gl.vd
 omega
theorem QrR (F:FinI K z g) (ht:t<4) (hs:z.steps<100000000):∃g',FinI K (z.step t) g':=by
 unfold ZdP
 split
 . exact⟨g,F⟩
 . rename_i hn
   have I':=Qf1 F.i ht hs hn
   have h0:=I'.now
   have e:(z.stepped t).s=(Qe (z.wst t)).1.s:=by
    unfold ZbU
    dsimp only
    split<;>split<;>rfl
   rw[e]at h0
   have e2:(z.stepped t).deeds=z.deeds\/(z.stepped t).deeds=z.deeds++(Qe (z.wst t)).1.w.deeds.map (Zd7 ((Qe (z.wst t)).1.s.now 0)):=by
    unfold ZbU
    dsimp only
    split<;>split<;>first|exact .inl rfl|exact .inr rfl
   have e3:(z.stepped t).steps=z.steps+1:=by
    unfold ZbU
    dsimp only
    split<;>split<;>rfl
   have e4:(z.stepped t).hist.length<=z.hist.length+1:=by
    unfold ZbU
    dsimp only
    split<;>split<;>first|exact Nat.le_succ _|(show (z.hist++[_]).length<=_;rw[Zw];exact Zq _)
   refine⟨_,I',λd hd=>?_,by have:=F.s;omega⟩
   rcases e2 with e2|e2
   . rw[e2]at hd;exact F.p d hd
   . rw[e2]at hd
     rcases List.mem_append.1 hd with hd|hd
     . exact F.p d hd
     . obtain⟨x,-,rfl⟩:=List.mem_map.1 hd
       exact h0
theorem Qku (ht:t<4):∀(n:Nat) {z:Sh}{g:Gh},FinI K z g->z.steps+n<100000000->∃g',FinI K (z.run t n) g'
 |0,z,g,F,_=>⟨g,F⟩
 |n+1,z,g,F,hs=>by
  obtain⟨g',F'⟩:=QrR F ht Za
  have:=(QbN z t).2
  exact Qku ht n F' Za
theorem Qn0 (F:FinI K z g) (ht:t<4) (k key x:Int):FinI K (z.call t k key x) g:=by
 refine⟨Qkk F.i ht k key x,?_,?_⟩
 . unfold Zc1
   split<;>exact F.p
 . have:=F.s
   unfold Zc1
   split
   . show ((z.hist++[_]).length:Int)<=z.steps+1
     rw[Zw,Yd];omega
   . exact F.s
theorem Qp2 (F:FinI K z g) (l:Int):FinI K (z.evict l) g:=by
 refine⟨Qiw F.i l,?_,?_⟩
 . unfold Zcw
   split<;>exact F.p
 . unfold Zcw
   split<;>exact F.s
theorem Qp3 (F:FinI K z g) (l:Int):∃g',FinI K (z.crash l) g':=by
 have hp:PosV (z.crash l):=λd hd=>F.p d (QjR hd)
 have hs:((z.crash l).hist.length:Int)<=(z.crash l).steps:=by
  have:=F.s
  show ((z.hist++[_]).length:Int)<=z.steps+1
  rw[Zw,Yd];omega
 rcases inv_crash F.i l with⟨-,h,-⟩|⟨-,-,-,h,-⟩
 . exact⟨_,h,hp,hs⟩
 . exact⟨_,h,hp,hs⟩
theorem QrS (F:FinI K z g) (hs:z.steps<90000000) (t n:Int):∃g',FinI K (z.runA t n) g':=by
 unfold Sh.runA
 cases hb:inT t
 . exact⟨g,F⟩
 . rw[cond_true]
   cases hc:runB n
   . exact⟨g,F⟩
   . have h2:=of_decide_eq_true hc
     exact Qku (QcF hb).2.2 n.toNat F Za
theorem QrT (F:FinI K z g) (hs:z.steps<90000000) (m:Mv):∃g',FinI K (z.move m) g':=by
 unfold Sh.move
 split
 . unfold Sh.callA
   cases hb:inT m.t
   . exact⟨g,F⟩
   . exact⟨g,Qn0 F (QcF hb).2.2 _ _ _⟩
 split
 . exact QrS F hs _ _
 split
 . exact⟨g,Qp2 F _⟩
 split
 . exact Qp3 F _
 . exact⟨g,F⟩
theorem QqM {K:Int}(h1:1<=K) (h6:K<=6):FinI K (Za9 K) (Gh.new K):=⟨Qnp h1 h6,λd hd=>(by cases hd),ZQ 0⟩
theorem Qkv {K:Int}(h1:1<=K) (h6:K<=6):∀(n:Nat) (l:List Mv),l.length=n->n<=80000->∃g,FinI K (XJ K l) g/\(XJ K l).steps<=1000*(n:Int)
 |0,l,hl,_=>by
  have:=List.length_eq_zero_iff.1 hl
  subst this
  exact⟨_,QqM h1 h6,ZQ 0⟩
 |n+1,l,hl,hn=>by
  obtain⟨l',m,rfl⟩:∃l' m,l=l'++[m]:=⟨l.dropLast,l.getLast (by intro h;rw[h]at hl;cases hl),(ZaP _).symm⟩
  rw[Zw,Yd]at hl
  obtain⟨g,F,hs⟩:=Qkv h1 h6 n l' Za Za
  rw[QbQ]
  obtain⟨g',F'⟩:=QrT F Za m
  have:=QeF (XJ K l') m
  exact⟨g',F',Za⟩
theorem FinI.steps0 (F:FinI K z g):0<=z.steps:=by have:=F.s;omega
theorem FinI.lens (F:FinI K z g) (hs:z.steps<100000000):z.hist.length<=1000000000/\z.deeds.length<=1000000000:=by
 have h1:=F.s
 have h2:=F.i.gl.cb
 omega
theorem QqP:∀(l:List Ask) (r:Rec),(bD r l).length<=l.length
 |[],r=>Zq _
 |a::l,r=>by
  show (bDs r a++bD (Xw r a) l).length<=l.length+1
  rw[Zw]
  have:=QqP l (Xw r a)
  have h2:(bDs r a).length<=1:=by
   unfold bDs
   cases bOpen r a
   . exact Z9 _
   . exact Zq _
  omega
theorem FinI.stOK (F:FinI K z g) (ht:t<4) (hs:z.steps<100000000):stOK z t:=by
 have hl:=F.lens hs
 refine⟨F.steps0,hs,hl.1,hl.2,(F.i.th t ht).th,λh11=>?_⟩
 have O:=F.i.ho t ht ⟨Za,Za⟩
 obtain⟨hG,hD,-,-⟩:=O.nx Za Za
 have e:(Qe (z.wst t)).1.w.deeds=(z.w t).deeds:=by simp[Qe,XK,Sh.wst,h11]
 rw[e,hD]
 have h4:=hG.len
 have:=QqP (z.w t).asks g.R
 omega
theorem FinI.craOK (F:FinI K z g) (hs:z.steps<100000000) {l:Int}(hu:U64 l):Qmd z l:=by
 have hl:=F.lens hs
 have G:=F.i.gl
 have h0:=G.v0
 have hd:=G.vd
 have hv:Qu l z.s 0=g.dv\/Qu l z.s 0=g.V:=by
  rcases land_mix l z.s 0 with h|h
  . rw[h];exact G.good0
  . rw[h];exact .inr G.now0
 have hb:=G.vb
 exact⟨F.steps0,hs,hl.1,hl.2,hu,Za,Za,λd hd=>⟨F.p d hd,by have:=G.topR d hd;omega⟩⟩
theorem Fin2.fi (F:Fin2 K z g):FinI K z g:=⟨F.f.1,F.p,by
 obtain⟨I,of,H⟩:=F.f
 exact H.sl⟩
end
end
section
open Go.RowKit
theorem craH:(ZH craC.sh).holds Tryz.prog 25:=λw0 S=>craC.lift (QrX w0 S) Zb (λx _=>Xi x) (λ_=>rfl) (λ_ _ _ _ _ _ _ _=>⟨rfl,rfl,rfl,rfl⟩)
structure PlS where
 k:Int
 a:Option Addr
 n:Nat
 c:Nat
 z:Nat->Nat->Int
def QjE (W:World):MCon where
 σ:=PlS
 χ:=List Nat
 pre s:=(1<=s.k/\s.k<=6)/\s.n<=3000/\Rws 7 mvK W s.a s.n s.c s.z/\∀i,i<s.n->U64 (s.z i 6)
 args s:=[.c (.v (.int .i64 s.k)),.c (.r s.a s.n s.c s.n 7 mvK s.z)]
 mem s:=[]
 ok s x:=True
 val s x:=.t [.c (.p 0 0),.c (.v .nilIface)]
 mem' s x:=[.abs (QD shM Yv ShS.good (XJ s.k (mvL s.z s.n))) x]
 k:=0
 len:=1
 det:=none
 find args M:=some []
structure PlG (s:PlS) where
 i:Nat
 F:List Nat
 hi:i<=s.n
def QoO (s:PlS):Ann where
 σ:=PlG s
 I g:=([(6,.o (.c (.p 0 0))),(18,.o (.c (.r s.a s.n s.c s.n 7 mvK s.z))),(19,sv (.int .i64 s.n)),(20,sv (.int .i64 g.i))],[.abs (QD shM Yv ShS.good (XJ s.k (mvL s.z g.i))) g.F])
 dec g:=s.n-g.i
 pi env _:=[blkE env 6]
 nz:=[]
theorem CallOK.of {K:Int}{z:Sh}{g:Gh}(F:FinI K z g) (hs:z.steps<100000000):CallOK z:=⟨F.steps0,hs,(F.lens hs).1,λt ht=>(F.i.th t ht).tg01⟩
theorem StpOK.of {K:Int}{z:Sh}{g:Gh}{t:Nat}(F:FinI K z g) (ht:t<4) (hs:z.steps<100000000):StpOK z t:=⟨ht,F.stOK ht hs,λhn=>QkS F.i ht (by have:=F.i.gl.vb;omega) hn⟩
theorem RunOK.of {K:Int}{z:Sh}{g:Gh}{t:Nat}(F:FinI K z g) (ht:t<4) (hs:z.steps<90000000) (n:Int):RunOK z t n:=⟨λh0 h1 k hk=>by
 obtain⟨g',F'⟩:=Qku ht k F Za
 have:=(QdS t k z).2
 have S:=StpOK.of F' ht Za
 exact⟨S.ok,S.pre⟩⟩
theorem play_con (W:World):(ZH (QjE W)).holdsAt Tryz.prog W (λ_=>False) 29:=by
 refine Qa (Γ:=[(21,.mem QjG),(22,.mem callA.sh),(24,.mem QmN.sh),(50,.mem evC.sh),(25,.mem craC.sh)]) (λw=>w) Tryz.func29 rfl Zc Qf Qc (λw S' _ _=>.cons (newH w _) (.cons (callH w _) (.cons (runH w _) (.cons (evH w _) (.cons (craH w _) (.nil _ _ _)))))) (QjE W) (λs=>[(29,[(0,QoO s)])]) (λx0 h=>by cases h)
  (λs ρ w _ _ _=>OldOk.none w) [] (λx M=>match x with
  |.t [.c (.p b _),_]=>[b]
  |_=>[]) 600 ?_
 rintro⟨k,a,n,c,z⟩ w ⟨⟨h1,h6⟩,hn,hr,hu⟩ hK
 refine⟨rfl,?_⟩
 have hr:=Rws.below hr (hK.below (Zq _) (λ_ h=>h.elim))
 refine Qk (q:=∃(s:NewS),[aI k]=[aI s.1]/\eN/\((1:Int)<=s.1/\s.1<=(6:Int))/\∀(x:List Nat),True->(∃(s0:Ann.σ (QoO (PlS.mk k a n c z))),(eS (aP 0 0) (aP 0 0)/\eS (Zt (.r a n c n 7 (λ(j:Nat)=>bif ZE j 6 then .u64 else .i64) z)) (Zt (.r a n c n 7 (λ(j:Nat)=>bif ZE j 6 then .u64 else .i64) z))/\eS (aI ↑n) (aI ↑n)/\eS (aI 0) (aI ↑s0.1)/\True)/\[Yl (QD shM Yv ShS.good (Za9 s.1)) x]=[Yl (QD shM Yv ShS.good (XJ k (mvL z s0.1))) s0.2])/\∀(s:PlG (PlS.mk k a n c z)),bif decide ((↑s.1:Int)<(↑n:Int))then (Rws 7 mvK w a n c z/\(0:Int)<=(↑s.1:Int)/\(↑s.1:Int)<(↑n:Int)/\Zh (↑s.1:Int)<n)/\(Rws 7 (λ(j:Nat)=>bif ZE j 6 then .u64 else .i64) w a n c z/\Zh (↑s.1:Int)<n)/\bif z (Zh (↑s.1:Int)) 0==(1:Int)then ∃(s_1:Sh × (Int × OpA) × List Nat),[aP 0 0,aI (z (Zh (↑s.1:Int)) 1),Zz [sI (z (Zh (↑s.1:Int)) 2),sI (z (Zh (↑s.1:Int)) 3),sI (z (Zh (↑s.1:Int)) 4)]]=[aP 0 0,aI s_1.2.1.1,Zz [sI s_1.2.1.2.1,sI s_1.2.1.2.2,sI s_1.2.1.2.3]]/\[Yl (QD shM Yv ShS.good (XJ k (mvL z s.1))) s.2]=[Yl (QD shM Yv ShS.good s_1.1) s_1.2.2]/\CallOK s_1.1/\∀(x:List Nat × Unit),True->∃(s':PlG (PlS.mk k a n c z)),((eS (aP 0 0) (aP 0 0)/\eS (Zt (.r a n c n 7 (λ(j:Nat)=>bif ZE j 6 then .u64 else .i64) z)) (Zt (.r a n c n 7 (λ(j:Nat)=>bif ZE j 6 then .u64 else .i64) z))/\eS (aI ↑n) (aI ↑n)/\eS (aI (Zi .i64 ((↑s.1:Int)+(1:Int)))) (aI ↑s'.1)/\True)/\[Yl (QD shM Yv ShS.good (bif inT s_1.2.1.1 then Zc1 s_1.1 (Zh s_1.2.1.1) s_1.2.1.2.1 s_1.2.1.2.2 s_1.2.1.2.3 else s_1.1)) x.1]=[Yl (QD shM Yv ShS.good (XJ k (mvL z s'.1))) s'.2])/\n-s'.1<n-s.1 else bif z (Zh (↑s.1:Int)) 0==(2:Int)then ∃(s_1:Sh × (Int × Int) × List Nat),[aP 0 0,aI (z (Zh (↑s.1:Int)) 1),aI (z (Zh (↑s.1:Int)) 5)]=[aP 0 0,aI s_1.2.1.1,aI s_1.2.1.2]/\[Yl (QD shM Yv ShS.good (XJ k (mvL z s.1))) s.2]=[Yl (QD shM Yv ShS.good s_1.1) s_1.2.2]/\(inT s_1.2.1.1=true->RunOK s_1.1 (Zh s_1.2.1.1) s_1.2.1.2)/\∀(x:List Nat × Unit),True->∃(s':PlG (PlS.mk k a n c z)),((eS (aP 0 0) (aP 0 0)/\eS (Zt (.r a n c n 7 (λ(j:Nat)=>bif ZE j 6 then .u64 else .i64) z)) (Zt (.r a n c n 7 (λ(j:Nat)=>bif ZE j 6 then .u64 else .i64) z))/\eS (aI ↑n) (aI ↑n)/\eS (aI (Zi .i64 ((↑s.1:Int)+(1:Int)))) (aI ↑s'.1)/\True)/\[Yl (QD shM Yv ShS.good (Sh.runA s_1.1 s_1.2.1.1 s_1.2.1.2)) x.1]=[Yl (QD shM Yv ShS.good (XJ k (mvL z s'.1))) s'.2])/\n-s'.1<n-s.1 else bif z (Zh (↑s.1:Int)) 0==(3:Int)then ∃(s_1:Sh × Int × List Nat),[aP 0 0,aI (z (Zh (↑s.1:Int)) 5)]=[aP 0 0,aI s_1.2.1]/\[Yl (QD shM Yv ShS.good (XJ k (mvL z s.1))) s.2]=[Yl (QD shM Yv ShS.good s_1.1) s_1.2.2]/\True/\∀(x:List Nat × Unit),True->∃(s':PlG (PlS.mk k a n c z)),((eS (aP 0 0) (aP 0 0)/\eS (Zt (.r a n c n 7 (λ(j:Nat)=>bif ZE j 6 then .u64 else .i64) z)) (Zt (.r a n c n 7 (λ(j:Nat)=>bif ZE j 6 then .u64 else .i64) z))/\eS (aI ↑n) (aI ↑n)/\eS (aI (Zi .i64 ((↑s.1:Int)+(1:Int)))) (aI ↑s'.1)/\True)/\[Yl (QD shM Yv ShS.good (Zcw s_1.1 s_1.2.1)) x.1]=[Yl (QD shM Yv ShS.good (XJ k (mvL z s'.1))) s'.2])/\n-s'.1<n-s.1 else bif z (Zh (↑s.1:Int)) 0==(4:Int)then ∃(s_1:Sh × Int × List Nat),[aP 0 0,aU (z (Zh (↑s.1:Int)) 6)]=[aP 0 0,aU s_1.2.1]/\[Yl (QD shM Yv ShS.good (XJ k (mvL z s.1))) s.2]=[Yl (QD shM Yv ShS.good s_1.1) s_1.2.2]/\Qmd s_1.1 s_1.2.1/\∀(x:List Nat × Unit),True->∃(s':PlG (PlS.mk k a n c z)),((eS (aP 0 0) (aP 0 0)/\eS (Zt (.r a n c n 7 (λ(j:Nat)=>bif ZE j 6 then .u64 else .i64) z)) (Zt (.r a n c n 7 (λ(j:Nat)=>bif ZE j 6 then .u64 else .i64) z))/\eS (aI ↑n) (aI ↑n)/\eS (aI (Zi .i64 ((↑s.1:Int)+(1:Int)))) (aI ↑s'.1)/\True)/\[Yl (QD shM Yv ShS.good (Sh.crash s_1.1 s_1.2.1)) x.1]=[Yl (QD shM Yv ShS.good (XJ k (mvL z s'.1))) s'.2])/\n-s'.1<n-s.1 else ∃(s':PlG (PlS.mk k a n c z)),((eS (aP 0 0) (aP 0 0)/\eS (Zt (.r a n c n 7 (λ(j:Nat)=>bif ZE j 6 then .u64 else .i64) z)) (Zt (.r a n c n 7 (λ(j:Nat)=>bif ZE j 6 then .u64 else .i64) z))/\eS (aI ↑n) (aI ↑n)/\eS (aI (Zi .i64 ((↑s.1:Int)+(1:Int)))) (aI ↑s'.1)/\True)/\[Yl (QD shM Yv ShS.good (XJ k (mvL z s.1))) s.2]=[Yl (QD shM Yv ShS.good (XJ k (mvL z s'.1))) s'.2])/\n-s'.1<n-s.1 else endN (QjE W) [] (λ(x:SV) (M:List SB)=>match x with|ZS [Zt (.p b off),head]=>[b]|x=>[]) (PlS.mk k a n c z) (ZS [aP 0 0,Zt (.v ZM)]) [Yl (QD shM Yv ShS.good (XJ k (mvL z s.1))) s.2]) Zc ?_
 have h1:1<=k:=h1
 have h6:k<=6:=h6
 have hn:n<=3000:=hn
 have hu:∀i,i<n->U64 (z i 6):=hu
 refine⟨⟨k⟩,rfl,rfl,⟨h1,h6⟩,λx _=>⟨⟨⟨0,x,Z9 _⟩,⟨rfl,rfl,rfl,rfl,Zd⟩,rfl⟩,?_⟩⟩
 rintro⟨i,F,hi⟩
 have hi:i<=n:=hi
 dsimp only
 rw[Zv]
 obtain⟨g,Fi,hs⟩:=Qkv h1 h6 i (mvL z i) (QrF z i) Za
 have hs2:(XJ k (mvL z i)).steps<100000000:=Za
 have enx:XJ k (mvL z (i+1))=(XJ k (mvL z i)).move (mvAt z i):=by rw[QpE,QbQ]
 refine Qo (λhlt=>?_) (λhge=>?_)
 . have hlt':i<n:=Za
   have go (S:Sh) (G:List Nat) (e:S=XJ k (mvL z (i+1))):[Yl (QD shM Yv ShS.good S) G]=[Yl (QD shM Yv ShS.good (XJ k (mvL z (i+1)))) G]:=by rw[e]
   refine⟨⟨hr,Za,hlt,hlt'⟩,⟨hr,hlt'⟩,QP (λhk=>?_) (λhk1=>QP (λhk=>?_) (λhk2=>QP (λhk=>?_) (λhk3=>QP (λhk=>?_) (λhk4=>?_))))⟩
   . exact⟨(XJ k (mvL z i),(z i 1,⟨z i 2,z i 3,z i 4⟩),F),rfl,rfl,CallOK.of Fi hs2,λy _=>⟨⟨i+1,y.1,hlt'⟩,⟨⟨rfl,rfl,rfl,svI (sucI Za),Zd⟩,go _ _ (by rw[enx];exact (Zf hk).symm)⟩,by dsimp only;omega⟩⟩
   . exact⟨(XJ k (mvL z i),(z i 1,z i 5),F),rfl,rfl,λht=>RunOK.of Fi (QcF ht).2.2 Za _,λy _=>⟨⟨i+1,y.1,hlt'⟩,⟨⟨rfl,rfl,rfl,svI (sucI Za),Zd⟩,go _ _ (by rw[enx];exact ((Ze hk1).trans (Zf hk)).symm)⟩,by dsimp only;omega⟩⟩
   . exact⟨(XJ k (mvL z i),z i 5,F),rfl,rfl,Zd,λy _=>⟨⟨i+1,y.1,hlt'⟩,⟨⟨rfl,rfl,rfl,svI (sucI Za),Zd⟩,go _ _ (by rw[enx];exact ((Ze hk1).trans ((Ze hk2).trans (Zf hk))).symm)⟩,by dsimp only;omega⟩⟩
   . exact⟨(XJ k (mvL z i),z i 6,F),rfl,rfl,Fi.craOK Za (hu i hlt'),λy _=>⟨⟨i+1,y.1,hlt'⟩,⟨⟨rfl,rfl,rfl,svI (sucI Za),Zd⟩,go _ _ (by rw[enx];exact ((Ze hk1).trans ((Ze hk2).trans ((Ze hk3).trans (Zf hk)))).symm)⟩,by dsimp only;omega⟩⟩
   . exact⟨⟨i+1,F,hlt'⟩,⟨⟨rfl,rfl,rfl,svI (sucI Za),Zd⟩,go _ _ (by rw[enx];exact ((Ze hk1).trans ((Ze hk2).trans ((Ze hk3).trans (Ze hk4)))).symm)⟩,by dsimp only;omega⟩
 . obtain rfl:i=n:=Za
   exact Ql rfl F trivial rfl rfl rfl
theorem TCon.weak {X Y α χ:Type}(c c':TCon Y α χ) {L:X->List SB}{y:X->Y}{good:X->Prop}{P:Program}{f:FuncId}(h:(ZH (c.high L y good)).holds P f)
 (e:c'={ c with pre:=c'.pre,val:=c'.val }) (hp:∀z a,c'.pre z a->c.pre z a) (hv:∀n z a r,c'.pre z a->c'.val n z a r=c.val n z a r):(ZH (c'.high L y good)).holds P f:=by
 obtain⟨pre',args',ok',next',val',new',len'⟩:=c'
 dsimp only at e hp hv
 injection e with _ e1 e2 e3 _ e4 e5
 subst e1 e2 e3 e4 e5
 intro w0 S
 have h:=h w0 S
 refine⟨h.1,λx0 h=>(by cases h),λρ s w hpp hK HM=>(h.2.2 ρ s w (hp _ _ hpp) hK HM).mono ?_⟩
 rintro e w' ⟨x,ρ',h1,h2,h3,h4,h5⟩
 refine⟨x,ρ',h1,h2,h3,?_,h5⟩
 rw[h4]
 show ZaN ((c.val 1 s.1 s.2.1 x.2).den ρ')=ZaN ((val' 1 s.1 s.2.1 x.2).den ρ')
 rw[hv 1 s.1 s.2.1 x.2 hpp]
def Qsa:TCon Sh (Int × OpA) Unit where
 pre z a:=CallOK z/\(inT a.1=true/\(z.w a.1.toNat).does=0/\opOk a.2.k a.2.key a.2.x=true)
 args a:=[.c (.v (.int .i64 a.1)),.a [.one (.v (.int .i64 a.2.k)),.one (.v (.int .i64 a.2.key)),.one (.v (.int .i64 a.2.x))]]
 ok _ _ _:=True
 next z a _:=bif inT a.1 then z.call a.1.toNat a.2.k a.2.key a.2.x else z
 val _ z a _:=.o (.c (.v .nilIface))
 new _ _ _ _:=[]
 len:=0
theorem callNH:(ZH Qsa.sh).holds Tryz.prog 22:=TCon.weak callA Qsa callH rfl (λz a h=>h.1) (λn z a r h=>by
 obtain⟨h1,h2,h3⟩:=h.2
 show ZG (.c (.v .nilIface))=.o (.c (.v (bif inT a.1 then (bif (z.w a.1.toNat).does==0 then (bif opOk a.2.k a.2.key a.2.x then .nilIface else _)else _)else _)))
 rw[h1,h3,show ((z.w a.1.toNat).does==0)=true from beq_iff_eq.2 h2];rfl)
def runG:TCon Sh (Int × Int) Unit where
 pre z a:=(inT a.1=true->RunOK z a.1.toNat a.2)/\(inT a.1=true/\runB a.2=true)
 args a:=[.c (.v (.int .i64 a.1)),.c (.v (.int .i64 a.2))]
 ok _ _ _:=True
 next z a _:=z.runA a.1 a.2
 val _ z a _:=.t [.c (.v (.int .i64 (z.ran a.1.toNat a.2.toNat:Nat))),.c (.v .nilIface)]
 new _ _ _ _:=[]
 len:=0
theorem runGH:(ZH runG.sh).holds Tryz.prog 24:=TCon.weak QmN runG runH rfl (λz a h=>h.1) (λn z a r h=>by
 obtain⟨h1,h2⟩:=h.2
 show ZS [.c (.v (.int .i64 _)),.c (.v .nilIface)]=.t [.c (.v (.int .i64 (bif inT a.1 then (bif runB a.2 then _ else 0)else 0))),.c (.v (bif inT a.1 then (bif runB a.2 then .nilIface else _)else _))]
 rw[h1,h2];rfl)
def QhK:PCon:=⟨λargs=>match args with
 |[]=>True
 |_=>False,λ_=>sv (.bool true),λ_=>none⟩
theorem shops_con:(Con.pure QhK).holds Tryz.prog 5:=by
 refine QG (AG:=[]) (Γ:=[(21,.mem QjG),(23,.pure QiP),(22,.mem Qsa.sh),(24,.mem runG.sh),(25,.mem craC.sh),(26,.mem verC.sh),(10,.mem ddsC.sh),(14,.mem hisC.sh),(27,.mem QjB.sh)]) Tryz.func5 rfl Zc Qf Qc
  (λW=>.cons (newH W _) (.cons (QmV W _) (.cons (callNH W _) (.cons (runGH W _) (.cons (craH W _) (.cons (verH W _) (.cons (ddsH W _) (.cons (hisH W _) (.cons (doesH W _) (.nil _ _ _)))))))))) QhK 400 ?_
 intro W args hp
 unfold QhK at hp;dsimp only at hp;split at hp
 case h_2=>exact hp.elim
 refine⟨rfl,?_⟩
 refine Qk (q:=∃(s:NewS),[aI 1]=[aI s.1]/\eN/\((1:Int)<=s.1/\s.1<=(6:Int))/\∀(x:List Nat),True->True/\∃(s_1:Sh × (Int × OpA) × List Nat),[aP 0 0,aI 0,Zz [sI 1,sI 0,sI 3]]=[aP 0 0,aI s_1.2.1.1,Zz [sI s_1.2.1.2.1,sI s_1.2.1.2.2,sI s_1.2.1.2.3]]/\[Yl (QD shM Yv ShS.good (Za9 s.1)) x]=[Yl (QD shM Yv ShS.good s_1.1) s_1.2.2]/\(CallOK s_1.1/\inT s_1.2.1.1=true/\(ZX s_1.1 (Zh s_1.2.1.1)).2=(0:Int)/\opOk s_1.2.1.2.1 s_1.2.1.2.2 s_1.2.1.2.3=true)/\∀(x:List Nat × Unit),True->∃(s:Sh × (Int × Int) × List Nat),[aP 0 0,aI 0,aI 200]=[aP 0 0,aI s.2.1.1,aI s.2.1.2]/\[Yl (QD shM Yv ShS.good (bif inT s_1.2.1.1 then Zc1 s_1.1 (Zh s_1.2.1.1) s_1.2.1.2.1 s_1.2.1.2.2 s_1.2.1.2.3 else s_1.1)) x.1]=[Yl (QD shM Yv ShS.good s.1) s.2.2]/\((inT s.2.1.1=true->RunOK s.1 (Zh s.2.1.1) s.2.1.2)/\inT s.2.1.1=true/\runB s.2.1.2=true)/\∀(x:List Nat × Unit),True->∃(s_2:Sh × Int × List Nat),[aP 0 0,aU 0]=[aP 0 0,aU s_2.2.1]/\[Yl (QD shM Yv ShS.good (Sh.runA s.1 s.2.1.1 s.2.1.2)) x.1]=[Yl (QD shM Yv ShS.good s_2.1) s_2.2.2]/\Qmd s_2.1 s_2.2.1/\∀(x:List Nat × Unit),True->bif (↑(Sh.ran s.1 (Zh s.2.1.1) (Zh s.2.1.2)):Int)==(84:Int)then ∃(s:Sh × Unit × List Nat),[aP 0 0]=[aP 0 0]/\[Yl (QD shM Yv ShS.good (Sh.crash s_2.1 s_2.2.1)) x.1]=[Yl (QD shM Yv ShS.good s.1) s.2.2]/\((0:Int)<=(ZaO s.1).1 0/\(ZaO s.1).1 0<(1000000000:Int))/\∀(x:List Nat × Unit),True->bif (ZaO s.1).1 0==(1:Int)then ∃(s_3:Sh × Unit × List Nat),[aP 0 0]=[aP 0 0]/\[Yl (QD shM Yv ShS.good s.1) x.1]=[Yl (QD shM Yv ShS.good s_3.1) s_3.2.2]/\Zg s_3.1.7<=1000000000/\∀(x:List Nat × RwR),(Zg s_3.1.7<=x.2.1/\x.2.1<=x.2.2)/\IsR 6 Dd.at ZR x.2.4 (YN (λ(self:Vd)=>self.2) s_3.1.7)->Zg s_3.1.7<=x.2.2/\bif (↑(Zg s_3.1.7):Int)==(1:Int)then ∃(s:Sh × Unit × List Nat),[aP 0 0]=[aP 0 0]/\[Yl (QD shM Yv ShS.good s_3.1) x.1]=[Yl (QD shM Yv ShS.good s.1) s.2.2]/\Zg s.1.6<=1000000000/\∀(x:List Nat × RwR),(Zg s.1.6<=x.2.1/\x.2.1<=x.2.2)/\IsE x.2.4 s.1.6->Zg s.1.6<=x.2.2/\bif (↑(Zg s.1.6):Int)==(3:Int)then ∃(s_4:Sh × Nat × List Nat),[aP 0 0,aI 0]=[aP 0 0,aI (↑s_4.2.1:Int)]/\[Yl (QD shM Yv ShS.good s.1) x.1]=[Yl (QD shM Yv ShS.good s_4.1) s_4.2.2]/\s_4.2.1<4/\∀(x:List Nat × Unit),True->ZG (aB ((ZX s_4.1 s_4.2.1).2==(0:Int)))=ZG (aB true)/\true=true else ZG (aB false)=ZG (aB true)/\true=true else ZG (aB false)=ZG (aB true)/\true=true else ZG (aB false)=ZG (aB true)/\true=true else ZG (aB false)=ZG (aB true)/\true=true) Zc ?_
 have l1:((Za9 1).call 0 1 0 3).ran 0 200=84:=Zc
 have l2:((((Za9 1).call 0 1 0 3).run 0 200).crash 0).s.now 0=1:=Zc
 have l3:((((Za9 1).call 0 1 0 3).run 0 200).crash 0).deeds.length=1:=Zc
 have l4:((((Za9 1).call 0 1 0 3).run 0 200).crash 0).hist.length=3:=Zc
 have l5:(((((Za9 1).call 0 1 0 3).run 0 200).crash 0).w 0).does=0:=Zc
 have F0:=QqM (K:=1) Zb Zb
 have s1:((Za9 1).call 0 1 0 3).steps<=1:=(Qg0 (Za9 1) 0 1 0 3).2
 have F1:=Qn0 F0 (t:=0) Zb 1 0 3
 have hst:=(QdS 0 200 ((Za9 1).call 0 1 0 3)).2
 obtain⟨g,Fg⟩:=Qku (t:=0) Zb 200 F1 Za
 obtain⟨z1,hz1⟩:∃z1,z1=(Za9 1).call 0 1 0 3:=⟨_,rfl⟩
 rw[<- hz1]at l1 l2 l3 l4 l5 Fg hst s1 F1
 have er:z1.runA 0 200=z1.run 0 200:=by unfold Sh.runA;rw[show inT 0=true from rfl,show runB 200=true from rfl];rfl
 obtain⟨z2,hz2⟩:∃z2,z2=z1.run 0 200:=⟨_,rfl⟩
 rw[<- hz2]at l2 l3 l4 l5 Fg hst
 obtain⟨z3,hz3⟩:∃z3,z3=z2.crash 0:=⟨_,rfl⟩
 rw[<- hz3]at l2 l3 l4 l5
 have go {S T:Sh}(G:List Nat) (e:S=T):[Yl (QD shM Yv ShS.good S) G]=[Yl (QD shM Yv ShS.good T) G]:=by rw[e]
 have c0:CallOK (Za9 1):=CallOK.of F0 (by show (0:Int)<100000000;decide)
 have c1:RunOK z1 0 200:=RunOK.of F1 Zb Za 200
 have c2:Qmd z2 0:=Fg.craOK Za ⟨Zb,Zb⟩
 have q1:((z1.ran (Zh 0) (Zh 200):Nat):Int)=84:=by
  rw[show z1.ran (Zh 0) (Zh 200)=84 from l1];rfl
 exact⟨⟨1⟩,rfl,rfl,⟨Zb,Zb⟩,λx _=>⟨Zd,(Za9 1,(0,⟨1,0,3⟩),x),rfl,rfl,⟨c0,rfl,rfl,(by decide:opOk 1 0 3=true)⟩,λy _=>⟨(z1,(0,200),y.1),rfl,go y.1 hz1.symm,⟨λ_=>c1,rfl,rfl⟩,λy _=>⟨(z2,0,y.1),rfl,go y.1 (er.trans hz2.symm),c2,λy _=>QP
  (λ_=>⟨(z3,(),y.1),rfl,go y.1 hz3.symm,⟨by show 0<=z3.s.now 0;omega,by show z3.s.now 0<1000000000;omega⟩,λy _=>QP
   (λ_=>⟨(z3,(),y.1),rfl,rfl,by show z3.deeds.length<=1000000000;omega,λy hy=>⟨ZV hy.1.1 hy.1.2,QP
    (λ_=>⟨(z3,(),y.1),rfl,rfl,by show z3.hist.length<=1000000000;omega,λy hy=>⟨ZV hy.1.1 hy.1.2,QP
     (λ_=>⟨(z3,0,y.1),rfl,rfl,by show 0<4;decide,λy _=>⟨by rw[show (((z3.w 0).does==0):Bool)=true from beq_iff_eq.2 l5],rfl⟩⟩)
     (λh=>absurd (by show ((z3.hist.length:Nat):Int)=3;omega) h)⟩⟩)
    (λh=>absurd (by show ((z3.deeds.length:Nat):Int)=1;omega) h)⟩⟩)
   (λh=>absurd (by show z3.s.now 0=1;omega) h)⟩)
  (λh=>absurd q1 h)⟩⟩⟩⟩
end
section
section
variable {K:Int}{z:Sh}{g:Gh}{t:Nat}
end
end
section
section
variable {K:Int}{z:Sh}{g:Gh}{t:Nat}
end
end
section
section
variable {K:Int}{z:Sh}{g:Gh}{t:Nat}
end
end
section
open Go.ChangeShapes Go.WideShapes Go.RowKit
theorem lOwn:ownKnob Tryz.prog.godebug=none:=Zc
theorem lEt:Tryz.prog.globalNamed "errors.errorType" =some 0:=Zc
theorem lRt:(Tryz.prog.cutTypes.find? (·.1 == "internal/reflectlite.rtype")).map (·.2)=some 173:=Zc
theorem lSize:Tryz.prog.types.size=248:=Zc
theorem lRow:((Z2 248).filter λt=>Tryz.prog.rowNamed t [101,114,114,111,114])=[41]:=Zc
abbrev laidL:List (String × DataW Unit):=[("errors.errorType",Rows.laid_errors_errorType)]
abbrev ErrType (W:World):Prop:=W.cell? ⟨0,0,none⟩=some (.iface 173 (.agg #[.pointer (some ⟨1,41,none⟩)]))
theorem handle_of_laid {W:World}(h:laidMetH Tryz.prog laidL W):ErrType W:=by
 have h':laidMet Tryz.prog [] W/\handlesMet Tryz.prog laidL W:=h
 obtain⟨name,u,ty,e1,e2,e3,e4,e5⟩:=h'.2 _ (List.mem_singleton.2 rfl)
 have en:name=[101,114,114,111,114]:=(YP e1).symm
 subst en
 obtain rfl:=YP (lRt.symm.trans e2)
 have hm:ty∈(Z2 248).filter λt=>Tryz.prog.rowNamed t [101,114,114,111,114]:=List.mem_filter.2 ⟨List.mem_range.2 (by rw[<- lSize];exact e3),e4⟩
 rw[lRow]at hm
 obtain rfl:=List.mem_singleton.1 hm
 have hh:typeHandle Tryz.prog 41=.pointer (some ⟨1,41,none⟩):=Zc
 rw[hh]at e5
 simpa using World.var?_cell lEt e5 0
noncomputable def laidWorld (os:Os):World:=
 let w0:=World.holding Tryz.prog os ⟨#[],#[],[]⟩
 { w0 with heap:=w0.heap.modify 0 fun
  |.cells _ t frozen=>.cells #[.iface 173 (.agg #[.pointer (some ⟨1,41,none⟩)])] t frozen
  |o=>o }
theorem laidWorld_met (os:Os) (args:Array Value):laidMetH Tryz.prog laidL ((laidWorld os).forCall (λ_ _=>0) ⟨#[],args,[]⟩).memory:=
 laidMetH_of_parts (laidMet_nil _ _) Zc
end
section
open Go.ChangeShapes Go.WideShapes Go.Deep Go.ChangeAt
theorem blk_lt {w:World}{b o:Nat}{v:Value}(h:w.cell? ⟨b,o,none⟩=some v):b<w.heap.size:=by
 unfold World.cell? at h
 by_cases hb:b<w.heap.size
 . exact hb
 . simp[Array.getElem?_eq_none (Nat.le_of_not_lt hb)]at h
theorem one_int {H:Type}{enc:TypeId × Value->H}{w:World}{base:Nat}{spare:Nat->Bool}{held:Bool}{n:Nat}{t:TypeId}{k:IntKind}{v:Value}{y:Option (DataW H × List MemPlace)}(ht:Tryz.prog.underlying t=some (.int k))
 (h:Y9 enc Tryz.prog w base spare held n t [v]=y) (hy:y.isSome):∃z,v=.int k z/\(YS k z).wf=true:=by
 obtain⟨x,rfl⟩:=Option.isSome_iff_exists.1 hy
 obtain⟨z,h1,-,h2⟩:=DataW.trod_int ht h
 simp at h1
 exact⟨z,h1,h2⟩
theorem u64_of_wf {x:Int}(h:(YS .u64 x).wf=true):U64 x:=by
 have h2:(decide ((0:Int)<=x)&&decide (x<=18446744073709551615))=true:=h
 simp only[Zr,decide_eq_true_eq]at h2
 exact⟨h2.1,Za⟩
theorem cellsOp_of {H:Type}{enc:TypeId × Value->H}{w:World}{base:Nat}{spare:Nat->Bool}{held:Bool}{n:Nat}{cs:List Value}{y:Option (DataW H × List MemPlace)}
 (h:Y9 enc Tryz.prog w base spare held n 34 cs=y) (hy:y.isSome):
 ∃z0 z1 z2:Int,cs=[.int .i64 z0,.int .i64 z1,.int .i64 z2]/\(YS .i64 z0).wf=true/\(YS .i64 z1).wf=true/\(YS .i64 z2).wf=true:=by
 obtain⟨x,rfl⟩:=Option.isSome_iff_exists.1 hy
 obtain⟨ys,n',-,-,hlen,hyl,hf⟩:=Zb5 Tryz.underlying34 h
 have hc:Tryz.prog.cellsOf 34=3:=Zc
 have hc_int:Tryz.prog.cellsOf 3=1:=Zc
 rw[hc]at hlen
 match cs,hlen with
 |[v0,v1,v2],_=>
  have hyl':ys.length=3:=hyl
  have g0:Y9 enc Tryz.prog w base spare held n' 3 (([v0,v1,v2].drop 0).take (Tryz.prog.cellsOf 3))=ys[0]?:=hf 0 _ rfl
  rw[hc_int]at g0
  dsimp only[ZaC,ZY]at g0
  have g1:Y9 enc Tryz.prog w base spare held n' 3 (([v0,v1,v2].drop 1).take (Tryz.prog.cellsOf 3))=ys[1]?:=hf 1 _ rfl
  rw[hc_int]at g1
  dsimp only[ZaC,ZY]at g1
  have g2:Y9 enc Tryz.prog w base spare held n' 3 (([v0,v1,v2].drop 2).take (Tryz.prog.cellsOf 3))=ys[2]?:=hf 2 _ rfl
  rw[hc_int]at g2
  dsimp only[ZaC,ZY]at g2
  obtain⟨z0,rfl,w0⟩:=one_int Tryz.underlying3 g0 (by simp[hyl'])
  obtain⟨z1,rfl,w1⟩:=one_int Tryz.underlying3 g1 (by simp[hyl'])
  obtain⟨z2,rfl,w2⟩:=one_int Tryz.underlying3 g2 (by simp[hyl'])
  exact⟨z0,z1,z2,rfl,w0,w1,w2⟩
theorem cellsMove_of {H:Type}{enc:TypeId × Value->H}{w:World}{base:Nat}{spare:Nat->Bool}{held:Bool}{n:Nat}{cs:List Value}{y:Option (DataW H × List MemPlace)}
 (h:Y9 enc Tryz.prog w base spare held n 119 cs=y) (hy:y.isSome):
 ∃z0 z1 z2 z3 z4 z5 z6:Int,cs=[.int .i64 z0,.int .i64 z1,.int .i64 z2,.int .i64 z3,.int .i64 z4,.int .i64 z5,.int .u64 z6]/\(YS .i64 z0).wf=true/\(YS .i64 z1).wf=true/\(YS .i64 z2).wf=true/\(YS .i64 z3).wf=true/\(YS .i64 z4).wf=true/\(YS .i64 z5).wf=true/\(YS .u64 z6).wf=true:=by
 obtain⟨x,rfl⟩:=Option.isSome_iff_exists.1 hy
 obtain⟨ys,n',-,-,hlen,hyl,hf⟩:=Zb5 Tryz.underlying119 h
 have hc:Tryz.prog.cellsOf 119=7:=Zc
 have hc_int:Tryz.prog.cellsOf 3=1:=Zc
 have hc_Op:Tryz.prog.cellsOf 34=3:=Zc
 have hc_u64:Tryz.prog.cellsOf 37=1:=Zc
 rw[hc]at hlen
 match cs,hlen with
 |[v0,v1,v2,v3,v4,v5,v6],_=>
  have hyl':ys.length=5:=hyl
  have g0:Y9 enc Tryz.prog w base spare held n' 3 (([v0,v1,v2,v3,v4,v5,v6].drop 0).take (Tryz.prog.cellsOf 3))=ys[0]?:=hf 0 _ rfl
  rw[hc_int]at g0
  dsimp only[ZaC,ZY]at g0
  have g1:Y9 enc Tryz.prog w base spare held n' 3 (([v0,v1,v2,v3,v4,v5,v6].drop 1).take (Tryz.prog.cellsOf 3))=ys[1]?:=hf 1 _ rfl
  rw[hc_int]at g1
  dsimp only[ZaC,ZY]at g1
  have g2:Y9 enc Tryz.prog w base spare held n' 34 (([v0,v1,v2,v3,v4,v5,v6].drop 2).take (Tryz.prog.cellsOf 34))=ys[2]?:=hf 2 _ rfl
  rw[hc_Op]at g2
  dsimp only[ZaC,ZY]at g2
  have g3:Y9 enc Tryz.prog w base spare held n' 3 (([v0,v1,v2,v3,v4,v5,v6].drop 5).take (Tryz.prog.cellsOf 3))=ys[3]?:=hf 3 _ rfl
  rw[hc_int]at g3
  dsimp only[ZaC,ZY]at g3
  have g4:Y9 enc Tryz.prog w base spare held n' 37 (([v0,v1,v2,v3,v4,v5,v6].drop 6).take (Tryz.prog.cellsOf 37))=ys[4]?:=hf 4 _ rfl
  rw[hc_u64]at g4
  dsimp only[ZaC,ZY]at g4
  obtain⟨z0,rfl,w0⟩:=one_int Tryz.underlying3 g0 (by simp[hyl'])
  obtain⟨z1,rfl,w1⟩:=one_int Tryz.underlying3 g1 (by simp[hyl'])
  obtain⟨z2,z3,z4,he2,w2,w3,w4⟩:=cellsOp_of g2 (by simp[hyl'])
  simp only[Zaa,and_true]at he2
  obtain⟨rfl,rfl,rfl⟩:=he2
  obtain⟨z5,rfl,w5⟩:=one_int Tryz.underlying3 g3 (by simp[hyl'])
  obtain⟨z6,rfl,w6⟩:=one_int Tryz.underlying37 g4 (by simp[hyl'])
  exact⟨z0,z1,z2,z3,z4,z5,z6,rfl,w0,w1,w2,w3,w4,w5,w6⟩
theorem rowsMove_of {H:Type}{enc:TypeId × Value->H}{w:World}{base:Nat}{spare:Nat->Bool}{held:Bool}{a0:Option Addr}{len0 cap0:Nat}{d0:DataW H}{p0:List MemPlace}
 (h:ZbV enc Tryz.prog w base spare held 22 (.slice a0 len0 cap0) d0 p0):∃f,MvIn w a0 len0 cap0 f:=by
 obtain⟨fuel,hf⟩:=h
 have hc:Tryz.prog.cellsOf 119=7:=Zc
 rcases open_slice Tryz.underlying22 hf with⟨hcs,-⟩|⟨a,len,cap,m,n,D,Pl,hcs,hb,hl,hm,hmm,hx,hi⟩
 . simp[Zad]at hcs
   obtain⟨rfl,rfl,rfl⟩:=hcs
   exact⟨λ_ _=>0,⟨Zq _,Za,.inl rfl⟩,λi hi=>absurd hi (ZP _)⟩
 . simp[Zad]at hcs
   obtain⟨rfl,rfl,rfl⟩:=hcs
   unfold maxLen at hm
   rw[hc]at hi
   have hi':∀i,i<len0->∃z:Nat->Int,∀j,j<7->w.cell? (a.add (i*7+j))=some (.int (mvK j) (z j))/\(YS (mvK j) (z j)).wf=true:=by
    intro i hil
    obtain⟨cs,h1,h2⟩:=hi i (by rw[hmm];split<;>omega)
    obtain⟨z0,z1,z2,z3,z4,z5,z6,rfl,w0,w1,w2,w3,w4,w5,w6⟩:=cellsMove_of h2 (by rfl)
    obtain⟨-,-,hat⟩:=ZdS h1
    refine⟨λj=>[z0,z1,z2,z3,z4,z5,z6].getD j 0,λj hj=>?_⟩
    rw[<- Zeh,hat j (by simpa using hj)]
    match j,hj with
    |0,_=>exact⟨rfl,w0⟩
    |1,_=>exact⟨rfl,w1⟩
    |2,_=>exact⟨rfl,w2⟩
    |3,_=>exact⟨rfl,w3⟩
    |4,_=>exact⟨rfl,w4⟩
    |5,_=>exact⟨rfl,w5⟩
    |6,_=>exact⟨rfl,w6⟩
   by_cases h0:len0=0
   . subst h0;exact⟨λ_ _=>0,⟨Z9 _,Za,.inl rfl⟩,λi hi=>absurd hi (ZP _)⟩
   . obtain⟨z,hz⟩:=hi' 0 Za
     obtain⟨b,off,spot⟩:=a
     have hspot:spot=none:=by simpa [Zce] using Zd2 (hz 0 Za).1
     subst hspot
     have hadd:∀i,(⟨b,off,none⟩:Addr).add i=⟨b,off+i,none⟩:=λi=>by
      unfold Zce;split
      . subst i;rfl
      . rfl
     classical
     let F:Nat->Nat->Int:=λi=>if h:i<len0 then Classical.choose (hi' i h)else λ_=>0
     refine⟨F,⟨hl,Za,.inr ⟨b,off,rfl,?_,λj hj i hi0=>?_⟩⟩,λj hj=>?_⟩
     . have:=(hz 0 Za).1;rw[hadd]at this;exact blk_lt this
     . have hF:F j=Classical.choose (hi' j hj):=by simp only[F,dif_pos hj]
       obtain⟨c1,c2⟩:=Zbr (hi' j hj) i hi0
       rw[<- hF]at c1 c2
       rw[hadd,<- Zab]at c1
       exact⟨c1,Zd⟩
     . have hF:F j=Classical.choose (hi' j hj):=by simp only[F,dif_pos hj]
       have c2:=(Zbr (hi' j hj) 6 Zb).2
       rw[<- hF]at c2
       exact u64_of_wf c2
theorem aggOp_of {H:Type}{enc:TypeId × Value->H}{w:World}{base b0:Nat}{spare:Nat->Bool}{held:Bool}{v:Value}{d:DataW H}{p:List MemPlace}
 (hv:ZdT Tryz.prog w .any b0 34 v) (h:ZbV enc Tryz.prog w base spare held 34 v d p):
 ∃z0 z1 z2:Int,v=.agg #[.int .i64 z0,.int .i64 z1,.int .i64 z2]/\(YS .i64 z0).wf=true/\(YS .i64 z1).wf=true/\(YS .i64 z2).wf=true:=by
 obtain⟨cs,rfl,hs⟩:=okWide_struct Tryz.underlying34 hv
 obtain⟨fuel,hf⟩:=h
 obtain⟨z0,z1,z2,hc,w0,w1,w2⟩:=cellsOp_of hf (by rfl)
 refine⟨z0,z1,z2,?_,w0,w1,w2⟩
 have:cs.toList=[.int .i64 z0,.int .i64 z1,.int .i64 z2]:=hc
 rw[<- Zbw (xs:=cs),this]
end
section
open Go.ChangeShapes Go.WideShapes Go.Deep Go.ChangeAt
section
open Go.RowKit
def RowIn (sz:Nat) (ks:Nat->IntKind) (W:World) (a:Option Addr) (n c:Nat) (z:Nat->Nat->Int):Prop:=Rws sz ks W a n c z/\∀i,i<n->∀j,j<sz->(Lit.int (ks j) (z i j)).wf=true
abbrev NumIn:=RowIn 1 (λ_=>.i64)
abbrev WrdIn:=RowIn 1 (λ_=>.u64)
abbrev OpsIn:=RowIn 3 (λ_=>.i64)
end
section
variable {H:Type}{enc:TypeId × Value->H}{w:World}{base b0:Nat}{spare:Nat->Bool}{held:Bool}{a0:Option Addr}{len0 cap0:Nat}{d0 d:DataW H}{p0 p:List MemPlace}
theorem rows_of {sz:Nat}(h0:0<sz) {ks:Nat->IntKind}{tS tE:TypeId}(hS:Tryz.prog.underlying tS=some (.slice tE)) (hc:Tryz.prog.cellsOf tE=sz)
 (hE:∀n cs,(Y9 enc Tryz.prog w base spare held n tE cs).isSome->∃z:Nat->Int,∀j,j<sz->cs[j]?=some (.int (ks j) (z j))/\(YS (ks j) (z j)).wf=true)
 (h:ZbV enc Tryz.prog w base spare held tS (.slice a0 len0 cap0) d0 p0):∃f,RowIn sz ks w a0 len0 cap0 f:=by
 obtain⟨fuel,hf⟩:=h
 rcases open_slice hS hf with⟨hcs,-⟩|⟨a,len,cap,m,n,D,Pl,hcs,hb,hl,hm,hmm,hx,hi⟩
 . simp[Zad]at hcs
   obtain⟨rfl,rfl,rfl⟩:=hcs
   exact⟨λ_ _=>0,⟨Zq _,Za,.inl rfl⟩,λi hi=>absurd hi (ZP _)⟩
 . simp[Zad]at hcs
   obtain⟨rfl,rfl,rfl⟩:=hcs
   unfold maxLen at hm
   rw[hc]at hi
   have hi':∀i,i<len0->∃z:Nat->Int,∀j,j<sz->w.cell? (a.add (i*sz+j))=some (.int (ks j) (z j))/\(YS (ks j) (z j)).wf=true:=by
    intro i hil
    obtain⟨cs,h1,h2⟩:=hi i (by rw[hmm];split<;>omega)
    obtain⟨z,hz⟩:=hE n cs (by rw[h2];rfl)
    obtain⟨-,-,hat⟩:=ZdS h1
    refine⟨z,λj hj=>?_⟩
    rw[<- Zeh,hat j hj]
    exact hz j hj
   by_cases h1:len0=0
   . subst h1;exact⟨λ_ _=>0,⟨Z9 _,Za,.inl rfl⟩,λi hi=>absurd hi (ZP _)⟩
   . obtain⟨z,hz⟩:=hi' 0 Za
     obtain⟨b,off,spot⟩:=a
     have hspot:spot=none:=by simpa [Zce] using Zd2 (hz 0 h0).1
     subst hspot
     have hadd:∀i,(⟨b,off,none⟩:Addr).add i=⟨b,off+i,none⟩:=λi=>by
      unfold Zce;split
      . subst i;rfl
      . rfl
     classical
     let F:Nat->Nat->Int:=λi=>if h:i<len0 then Classical.choose (hi' i h)else λ_=>0
     have hF (j:Nat) (hj:j<len0):F j=Classical.choose (hi' j hj):=by simp only[F,dif_pos hj]
     refine⟨F,⟨hl,Za,.inr ⟨b,off,rfl,?_,λj hj i hi0=>?_⟩⟩,λj hj i hi0=>?_⟩
     . have:=(hz 0 h0).1;rw[hadd]at this;exact blk_lt this
     . obtain⟨c1,c2⟩:=Zbr (hi' j hj) i hi0
       rw[<- hF j hj]at c1
       rw[hadd,<- Zab]at c1
       exact⟨c1,Zd⟩
     . have c2:=(Zbr (hi' j hj) i hi0).2
       rw[<- hF j hj]at c2
       exact c2
theorem one_row {k:IntKind}{t:TypeId}(ht:Tryz.prog.underlying t=some (.int k)) (n:Nat) (cs:List Value) (h:(Y9 enc Tryz.prog w base spare held n t cs).isSome):∃z:Nat->Int,∀j,j<1->cs[j]?=some (.int k (z j))/\(YS k (z j)).wf=true:=by
 obtain⟨x,hx⟩:=Option.isSome_iff_exists.1 h
 obtain⟨z,h1,-,h2⟩:=DataW.trod_int ht hx
 refine⟨λ_=>z,λj hj=>?_⟩
 obtain rfl:j=0:=Za
 rw[h1];exact⟨rfl,h2⟩
theorem rowsInt_of (h:ZbV enc Tryz.prog w base spare held 89 (.slice a0 len0 cap0) d0 p0):∃f,NumIn w a0 len0 cap0 f:=
 rows_of Zb Tryz.underlying89 Zc (λn cs=>one_row Tryz.underlying3 n cs) h
theorem rowsWord_of (h:ZbV enc Tryz.prog w base spare held 168 (.slice a0 len0 cap0) d0 p0):∃f,WrdIn w a0 len0 cap0 f:=
 rows_of Zb Tryz.underlying168 Zc (λn cs=>one_row Tryz.underlying37 n cs) h
theorem rowsOps_of (h:ZbV enc Tryz.prog w base spare held 117 (.slice a0 len0 cap0) d0 p0):∃f,OpsIn w a0 len0 cap0 f:=
 rows_of Zb Tryz.underlying117 Zc (λn cs hs=>by
  obtain⟨z0,z1,z2,rfl,w0,w1,w2⟩:=cellsOp_of rfl hs
  refine⟨λj=>[z0,z1,z2].getD j 0,λj hj=>?_⟩
  match j,hj with
  |0,_=>exact⟨rfl,w0⟩
  |1,_=>exact⟨rfl,w1⟩
  |2,_=>exact⟨rfl,w2⟩) h
theorem cellsAns_of {n:Nat}{cs:List Value}{y:Option (DataW H × List MemPlace)}(h:Y9 enc Tryz.prog w base spare held n 24 cs=y) (hy:y.isSome):
 ∃z0 z1:Int,cs=[.int .i64 z0,.int .i64 z1]/\(YS .i64 z0).wf=true/\(YS .i64 z1).wf=true:=by
 obtain⟨x,rfl⟩:=Option.isSome_iff_exists.1 hy
 obtain⟨ys,n',-,-,hlen,hyl,hf⟩:=Zb5 Tryz.underlying24 h
 have hc:Tryz.prog.cellsOf 24=2:=Zc
 have hc_int:Tryz.prog.cellsOf 3=1:=Zc
 rw[hc]at hlen
 match cs,hlen with
 |[v0,v1],_=>
  have hyl':ys.length=2:=hyl
  have g0:Y9 enc Tryz.prog w base spare held n' 3 (([v0,v1].drop 0).take (Tryz.prog.cellsOf 3))=ys[0]?:=hf 0 _ rfl
  rw[hc_int]at g0
  dsimp only[ZaC,ZY]at g0
  have g1:Y9 enc Tryz.prog w base spare held n' 3 (([v0,v1].drop 1).take (Tryz.prog.cellsOf 3))=ys[1]?:=hf 1 _ rfl
  rw[hc_int]at g1
  dsimp only[ZaC,ZY]at g1
  obtain⟨z0,rfl,w0⟩:=one_int Tryz.underlying3 g0 (by simp[hyl'])
  obtain⟨z1,rfl,w1⟩:=one_int Tryz.underlying3 g1 (by simp[hyl'])
  exact⟨z0,z1,rfl,w0,w1⟩
theorem aggAns_of {v:Value}(hv:ZdT Tryz.prog w .any b0 24 v) (h:ZbV enc Tryz.prog w base spare held 24 v d p):
 ∃z0 z1:Int,v=.agg #[.int .i64 z0,.int .i64 z1]/\(YS .i64 z0).wf=true/\(YS .i64 z1).wf=true:=by
 obtain⟨cs,rfl,hs⟩:=okWide_struct Tryz.underlying24 hv
 obtain⟨fuel,hf⟩:=h
 obtain⟨z0,z1,hc,w0,w1⟩:=cellsAns_of hf (by rfl)
 refine⟨z0,z1,?_,w0,w1⟩
 have:cs.toList=[.int .i64 z0,.int .i64 z1]:=hc
 rw[<- Zbw (xs:=cs),this]
theorem cellsDeed_of {n:Nat}{cs:List Value}{y:Option (DataW H × List MemPlace)}(h:Y9 enc Tryz.prog w base spare held n 36 cs=y) (hy:y.isSome):
 ∃z0 z1 z2 z3 z4 z5:Int,cs=[.int .i64 z0,.int .i64 z1,.int .i64 z2,.int .i64 z3,.int .i64 z4,.int .i64 z5]/\(YS .i64 z0).wf=true/\(YS .i64 z1).wf=true/\(YS .i64 z2).wf=true/\(YS .i64 z3).wf=true/\(YS .i64 z4).wf=true/\(YS .i64 z5).wf=true:=by
 obtain⟨x,rfl⟩:=Option.isSome_iff_exists.1 hy
 obtain⟨ys,n',-,-,hlen,hyl,hf⟩:=Zb5 Tryz.underlying36 h
 have hc:Tryz.prog.cellsOf 36=6:=Zc
 have hc_int:Tryz.prog.cellsOf 3=1:=Zc
 have hc_Op:Tryz.prog.cellsOf 34=3:=Zc
 have hc_An:Tryz.prog.cellsOf 24=2:=Zc
 rw[hc]at hlen
 match cs,hlen with
 |[v0,v1,v2,v3,v4,v5],_=>
  have hyl':ys.length=3:=hyl
  have g0:Y9 enc Tryz.prog w base spare held n' 3 (([v0,v1,v2,v3,v4,v5].drop 0).take (Tryz.prog.cellsOf 3))=ys[0]?:=hf 0 _ rfl
  rw[hc_int]at g0
  dsimp only[ZaC,ZY]at g0
  have g1:Y9 enc Tryz.prog w base spare held n' 34 (([v0,v1,v2,v3,v4,v5].drop 1).take (Tryz.prog.cellsOf 34))=ys[1]?:=hf 1 _ rfl
  rw[hc_Op]at g1
  dsimp only[ZaC,ZY]at g1
  have g2:Y9 enc Tryz.prog w base spare held n' 24 (([v0,v1,v2,v3,v4,v5].drop 4).take (Tryz.prog.cellsOf 24))=ys[2]?:=hf 2 _ rfl
  rw[hc_An]at g2
  dsimp only[ZaC,ZY]at g2
  obtain⟨z0,rfl,w0⟩:=one_int Tryz.underlying3 g0 (by simp[hyl'])
  obtain⟨z1,z2,z3,he,w1,w2,w3⟩:=cellsOp_of g1 (by simp[hyl'])
  simp only[Zaa,and_true]at he
  obtain⟨rfl,rfl,rfl⟩:=he
  obtain⟨z4,z5,he,w4,w5⟩:=cellsAns_of g2 (by simp[hyl'])
  simp only[Zaa,and_true]at he
  obtain⟨rfl,rfl⟩:=he
  exact⟨z0,z1,z2,z3,z4,z5,rfl,w0,w1,w2,w3,w4,w5⟩
theorem aggDeed_of {v:Value}(hv:ZdT Tryz.prog w .any b0 36 v) (h:ZbV enc Tryz.prog w base spare held 36 v d p):
 ∃z0 z1 z2 z3 z4 z5:Int,v=.agg #[.int .i64 z0,.int .i64 z1,.int .i64 z2,.int .i64 z3,.int .i64 z4,.int .i64 z5]/\(YS .i64 z0).wf=true/\(YS .i64 z1).wf=true/\(YS .i64 z2).wf=true/\(YS .i64 z3).wf=true/\(YS .i64 z4).wf=true/\(YS .i64 z5).wf=true:=by
 obtain⟨cs,rfl,hs⟩:=okWide_struct Tryz.underlying36 hv
 obtain⟨fuel,hf⟩:=h
 obtain⟨z0,z1,z2,z3,z4,z5,hc,w0,w1,w2,w3,w4,w5⟩:=cellsDeed_of hf (by rfl)
 refine⟨z0,z1,z2,z3,z4,z5,?_,w0,w1,w2,w3,w4,w5⟩
 have:cs.toList=[.int .i64 z0,.int .i64 z1,.int .i64 z2,.int .i64 z3,.int .i64 z4,.int .i64 z5]:=hc
 rw[<- Zbw (xs:=cs),this]
end
end
section
def QkK (cs:List Cl) (t:Int) (n:Nat):Prop:=n<cs.length/\(cs.getD n Cl.nil).t=t/\(cs.getD n Cl.nil).to=0/\∀j,j<cs.length->j≠n->(cs.getD j Cl.nil).t=t->(cs.getD j Cl.nil).to≠0
def QkL (cs:List Cl) (t:Int):Prop:=∀j,j<cs.length->(cs.getD j Cl.nil).t=t->(cs.getD j Cl.nil).to≠0
def WfE (cs:List Cl) (e:Ev):Prop:=(e.kind=1/\QkL cs e.t)\/(e.kind=2/\∃n,QkK cs e.t n/\(cs.getD n Cl.nil).k=e.k/\(cs.getD n Cl.nil).key=e.key/\(cs.getD n Cl.nil).x=e.x)\/e.kind=3
def WfH (h:List Ev):Prop:=∀i,i<h.length->WfE (Qg (h.take i)) (h.getD i YU)
theorem WfH.snoc {h:List Ev}(W:WfH h) {e:Ev}(hE:WfE (Qg h) e):WfH (h++[e]):=λi hi=>by
 rcases getD_snoc (d:=YU) hi with⟨h1,h2⟩|⟨h1,h2⟩
 . rw[h2,List.take_append_of_le_length Za];exact W i h1
 . rw[h2,h1,List.take_left];exact hE
theorem Qgo {α:Type}{h:List α}{d:α}{i:Nat}(hi:i<h.length):h.take (i+1)=h.take i++[h.getD i d]:=by
 rw[Za5,Zp,Zy hi];rfl
theorem Qde {h:List Ev}{i:Nat}(hi:i<h.length):Qg (h.take (i+1))=Qav (Qg (h.take i)) i (h.getD i YU):=by
 rw[Qgo (d:=YU) hi,Qdf,ZW,YM Za]
section
variable {K:Int}{z:Sh}{g:Gh}{t:Nat}
theorem Qre (F:Fine K z g) (W:WfH z.hist) (ht:t<4) (k key x:Int):WfH (z.call t k key x).hist:=by
 obtain⟨I,of,H⟩:=F
 unfold Zc1
 split
 . rename_i h
   exact W.snoc (.inl ⟨rfl,λj hj hjt=>H.idl t ht h.1 j hj hjt⟩)
 . exact W
theorem Qrb (F:Fine K z g) (W:WfH z.hist) (ht:t<4):WfH (z.step t).hist:=by
 obtain⟨I,of,H⟩:=F
 unfold ZdP
 split
 . exact W
 rename_i hn
 unfold ZbU
 dsimp only
 have hs:=QgB (z.wst t)
 obtain⟨i,h1,h2,h3,h4,h5,h6,-⟩:=H.opn t ht hn
 have key:∀e:Ev,e.kind=2->e.t=t->e.k=(z.w t).k->e.key=(z.w t).key->e.x=(z.w t).x->WfE (Qg z.hist) e:=λe e1 e2 e3 e4 e5=>
  .inr (.inl ⟨e1,i,⟨h1,h2.trans e2.symm,h3,λj hj hne hjt h0=>hne (H.uni j i hj h1 h0 h3 (hjt.trans (e2.trans h2.symm)))⟩,h4.trans e3.symm,h5.trans e4.symm,h6.trans e5.symm⟩)
 split<;>split
 . exact W.snoc (key _ rfl rfl hs.2.2.1 hs.2.2.2.1 hs.2.2.2.2)
 . exact W.snoc (key _ rfl rfl hs.2.2.1 hs.2.2.2.1 hs.2.2.2.2)
 . exact W
 . exact W
theorem QqE (ht:t<4):∀(n:Nat) {z:Sh}{g:Gh},Fine K z g->WfH z.hist->z.steps+n<100000000->WfH (z.run t n).hist
 |0,z,g,_,W,_=>W
 |n+1,z,g,F,W,hs=>by
  obtain⟨g',F'⟩:=Qf8 F ht Za
  have:=(QbN z t).2
  exact QqE ht n F' (Qrb F W ht) Za
theorem Qo0 (W:WfH z.hist) (l:Int):WfH (z.crash l).hist:=W.snoc (.inr (.inr rfl))
theorem Qrc (F:Fine K z g) (W:WfH z.hist) (hs:z.steps<90000000) (t n:Int):WfH (z.runA t n).hist:=by
 unfold Sh.runA
 cases ht:inT t
 . exact W
 . rw[cond_true]
   cases hb:runB n
   . exact W
   . have h2:=of_decide_eq_true hb
     exact QqE (QcF ht).2.2 n.toNat F W Za
theorem Qrd (F:Fine K z g) (W:WfH z.hist) (hs:z.steps<90000000) (m:Mv):WfH (z.move m).hist:=by
 unfold Sh.move
 split
 . unfold Sh.callA
   cases ht:inT m.t
   . exact W
   . exact Qre F W (QcF ht).2.2 _ _ _
 split
 . exact Qrc F W hs _ _
 split
 . unfold Zcw
   split<;>exact W
 split
 . exact Qo0 W _
 . exact W
end
theorem QoZ {K:Int}(h1:1<=K) (h6:K<=6):∀(n:Nat) (l:List Mv),l.length=n->n<=80000->WfH (XJ K l).hist
 |0,l,hl,_=>by
  have:=List.length_eq_zero_iff.1 hl
  subst this
  exact λi hi=>absurd hi (ZP _)
 |n+1,l,hl,hn=>by
  obtain⟨l',m,rfl⟩:∃l' m,l=l'++[m]:=⟨l.dropLast,l.getLast (by intro h;rw[h]at hl;cases hl),(ZaP _).symm⟩
  rw[Zw,Yd]at hl
  obtain⟨g,F,hs⟩:=QgP h1 h6 n l' Za Za
  rw[QbQ]
  exact Qrd F (QoZ h1 h6 n l' Za Za) Za m
structure MapOf (cs:List Cl) (h:Int->Bool) (v:Int->Int):Prop where
 yes:∀t,h t=true->∃n:Nat,v t=n/\QkK cs t n
 no:∀t,h t=false->QkL cs t
theorem MapOf.nil:MapOf [] (λ_=>false) (λ_=>0):=⟨λt h=>(by cases h),λt _ j hj=>absurd hj (ZP _)⟩
theorem MapOf.call {cs:List Cl}{h:Int->Bool}{v:Int->Int}(M:MapOf cs h v) {i:Nat}{e:Ev}(hk:e.kind=1) (hN:QkL cs e.t):
 MapOf (Qav cs i e) (λx=>bif x==e.t then true else h x) (λx=>bif x==e.t then (cs.length:Int)else v x):=by
 have ec:Qav cs i e=cs++[⟨e.t,e.k,e.key,e.x,(i:Int)+1,0,0,0,0⟩]:=Zf hk
 rw[ec]
 have hlen:(cs++[(⟨e.t,e.k,e.key,e.x,(i:Int)+1,0,0,0,0⟩:Cl)]).length=cs.length+1:=Zw
 have hlast:(cs++[(⟨e.t,e.k,e.key,e.x,(i:Int)+1,0,0,0,0⟩:Cl)]).getD cs.length Cl.nil=⟨e.t,e.k,e.key,e.x,(i:Int)+1,0,0,0,0⟩:=by
  have:=QaF (l:=cs) (m:=[(⟨e.t,e.k,e.key,e.x,(i:Int)+1,0,0,0,0⟩:Cl)]) (d:=Cl.nil) (i:=0)
  rwa [Yu]at this
 refine⟨λt ht=>?_,λt ht=>?_⟩
 . by_cases e1:t=e.t
   . subst e1
     refine⟨cs.length,by rw[beq_self_eq_true];rfl,by rw[hlen];omega,by rw[hlast],by rw[hlast],λj hj hne hjt=>?_⟩
     rw[hlen]at hj
     rw[Xe Za]at hjt ⊢
     exact hN j Za hjt
   . have hb:(t==e.t)=false:=beq_eq_false_iff_ne.2 e1
     rw[hb]at ht
     obtain⟨n,h1,h2,h3,h4,h5⟩:=M.yes t ht
     refine⟨n,by rw[hb];exact h1,by rw[hlen];omega,by rw[Xe h2];exact h3,by rw[Xe h2];exact h4,λj hj hne hjt=>?_⟩
     rw[hlen]at hj
     by_cases e2:j=cs.length
     . subst e2;rw[hlast]at hjt;exact absurd hjt.symm e1
     . rw[Xe Za]at hjt ⊢
       exact h5 j Za hne hjt
 . have e1:t≠e.t:=λe1=>by subst e1;rw[beq_self_eq_true]at ht;cases ht
   have hb:(t==e.t)=false:=beq_eq_false_iff_ne.2 e1
   rw[hb]at ht
   intro j hj hjt
   rw[hlen]at hj
   by_cases e2:j=cs.length
   . subst e2;rw[hlast]at hjt;exact absurd hjt.symm e1
   . rw[Xe Za]at hjt ⊢
     exact M.no t ht j Za hjt
theorem QcI {c:Cl}{i:Nat}{e:Ev}(h:c.t≠e.t\/c.to≠0):Cl.end i e c=c:=by
 unfold Cl.end
 rw[Ze (λx=>by rcases h with h|h;exact h x.1;exact h x.2)]
theorem QhH {c:Cl}{i:Nat}{e:Ev}(h1:c.t=e.t) (h2:c.to=0):Cl.end i e c={ c with to:=(i:Int)+1,whn:=e.whn,c:=e.c,v:=e.v }:=Zf ⟨h1,h2⟩
theorem Qdg {cs:List Cl}{i:Nat}{e:Ev}(hk:e.kind=2):Qav cs i e=cs.map (Cl.end i e):=by
 unfold Qav;rw[Ze Za,Zf hk]
theorem MapOf.ans {cs:List Cl}{h:Int->Bool}{v:Int->Int}(M:MapOf cs h v) {i:Nat}{e:Ev}(hk:e.kind=2) {n:Nat}(hO:QkK cs e.t n):
 MapOf (Qav cs i e) (λx=>bif x==e.t then false else h x) v:=by
 rw[Qdg hk]
 have hlen:(cs.map (Cl.end i e)).length=cs.length:=ZN _
 have hoth:∀j,j<cs.length->(cs.getD j Cl.nil).t≠e.t->(cs.map (Cl.end i e)).getD j Cl.nil=cs.getD j Cl.nil:=λj hj h=>by rw[Qab hj,QcI (.inl h)]
 have hend:∀j,j<cs.length->((cs.map (Cl.end i e)).getD j Cl.nil).t=(cs.getD j Cl.nil).t:=λj hj=>by
  rw[Qab hj];unfold Cl.end;split<;>rfl
 refine⟨λt ht=>?_,λt ht=>?_⟩
 . have e1:t≠e.t:=λe1=>by subst e1;rw[beq_self_eq_true]at ht;cases ht
   have hb:(t==e.t)=false:=beq_eq_false_iff_ne.2 e1
   rw[hb]at ht
   obtain⟨n,h1,h2,h3,h4,h5⟩:=M.yes t ht
   refine⟨n,h1,by rw[hlen];exact h2,by rw[hend n h2];exact h3,by rw[hoth n h2 (by rw[h3];exact e1)];exact h4,λj hj hne hjt=>?_⟩
   rw[hlen]at hj
   rw[hend j hj]at hjt
   rw[hoth j hj (by rw[hjt];exact e1)]
   exact h5 j hj hne hjt
 . intro j hj hjt
   rw[hlen]at hj
   rw[hend j hj]at hjt
   by_cases e1:t=e.t
   . by_cases h0:(cs.getD j Cl.nil).to=0
     . rw[Qab hj,QhH (hjt.trans e1) h0];show (i:Int)+1≠0;omega
     . rw[Qab hj,QcI (.inr h0)];exact h0
   . have hb:(t==e.t)=false:=beq_eq_false_iff_ne.2 e1
     rw[hb]at ht
     rw[hoth j hj (by rw[hjt];exact e1)]
     exact M.no t ht j hj hjt
theorem Qoq {cs:List Cl}{i:Nat}{e:Ev}(hk:e.kind=3):Qav cs i e=cs:=by
 unfold Qav;rw[Ze Za,Ze Za]
def Cl.at (c:Cl):Nat->Int
 |0=>c.t
 |1=>c.k
 |2=>c.key
 |3=>c.x
 |4=>c.fr
 |5=>c.to
 |6=>c.whn
 |7=>c.c
 |_=>c.v
abbrev IsC:=IsR 9 Cl.at Cl.nil
end
section
open Go.RowKit
abbrev ckC:List CK:=[.int .i64,.int .i64,.int .i64,.int .i64,.int .i64,.int .i64,.int .i64,.int .i64,.int .i64]
abbrev Qla (m c:Nat) (z:Nat->Nat->Int):SB:=.rows 91 ckC 9 m c z
abbrev Qbo (m c:Nat) (z:Nat->Nat->Int):SB:=.rows 47 ckC 9 m c z
structure ClsS where
 h:List Ev
 m:Nat
 c:Nat
 nn:Bool
 z:Nat->Nat->Int
structure ClsR where
 m:Nat
 c:Nat
 nn:Bool
 z:Nat->Nat->Int
def Qe7:MCon where
 σ:=ClsS
 χ:=ClsR
 pre s:=WfH s.h/\s.h.length<=1000000000/\(s.h.length<=s.m/\s.m<=s.c)/\IsE s.z s.h
 args s:=[.c (.so 0 0 9 s.h.length s.c s.nn)]
 mem s:=[Qbo s.m s.c s.z]
 ok s x:=((Qg s.h).length<=x.m/\x.m<=x.c)/\IsC x.z (Qg s.h)
 val s x:=.t [.c (.so 1 0 9 (Qg s.h).length x.c x.nn),.c (.v .nilIface)]
 mem' s x:=[Qbo s.m s.c s.z,Qla x.m x.c x.z]
 k:=1
 len:=2
 det:=none
 find args M:=some (blkA args)
structure ClsG (s:ClsS) where
 i:Nat
 m:Nat
 c:Nat
 nn:Bool
 f:Nat->Nat->Int
 h:Int->Bool
 v:Int->Int
 hi:i<=s.h.length
 hm:(Qg (s.h.take i)).length<=m/\m<=c
 hf:IsC f (Qg (s.h.take i))
 ho:MapOf (Qg (s.h.take i)) h v
def Qq6 (s:ClsS):Ann where
 σ:=ClsG s
 I g:=([(4,.o (.c (.so 1 0 9 (Qg (s.h.take g.i)).length g.c g.nn))),(5,.o (.c (.m 2))),(12,.o (.c (.so 0 0 9 s.h.length s.c s.nn))),(13,sv (.int .i64 s.h.length)),(14,sv (.int .i64 g.i))],[Qbo s.m s.c s.z,Qla g.m g.c g.f,.mf g.h g.v])
 dec g:=s.h.length-g.i
 pi env _:=[0,blkE env 4,blkE env 5]
 nz:=[.tmp 4 91 9 ckC]
def updB (z:Nat->Nat->Int) (ix f l:Nat) (zs:List Int):Nat->Nat->Int:=λi j=>bif i.beq ix&&(f.ble j&&j.ble l)then zs.getD (j-f) 0 else z i j
theorem Qg7 {z:Nat->Nat->Int}{ix f l:Nat}{zs:List Int}{q:Nat}(h:q≠ix) (j:Nat):updB z ix f l zs q j=z q j:=by
 unfold updB;rw[show q.beq ix=false from nbeq h];rfl
theorem QcW {z:Nat->Nat->Int}{ix f l:Nat}{zs:List Int}{q j:Nat}(h:j<f\/l<j):updB z ix f l zs q j=z q j:=by
 unfold updB
 have hb:(f.ble j&&j.ble l)=false:=by
  cases hb:(f.ble j&&j.ble l)
  . rfl
  . simp only[Zr]at hb
    have h1:=XZ hb.1
    have h2:=XZ hb.2
    omega
 rw[hb,ZaI];rfl
theorem QfC {z:Nat->Nat->Int}{ix f l:Nat}{zs:List Int}{j:Nat}(h1:f<=j) (h2:j<=l):updB z ix f l zs ix j=zs.getD (j-f) 0:=by
 unfold updB
 rw[show ix.beq ix=true from Nat.beq_refl ix,show f.ble j=true from Ys h1,show j.ble l=true from Ys h2];rfl
def ansR (f:Nat->Nat->Int) (n:Nat) (a b c d:Int):Nat->Nat->Int:=updB (updB (updB f n 5 5 [a]) n 6 6 [b]) n 7 8 [c,d]
theorem Qsk {f:Nat->Nat->Int}{n:Nat}{a b c d:Int}{q:Nat}(h:q≠n) (j:Nat):ansR f n a b c d q j=f q j:=by
 unfold ansR;rw[Qg7 h,Qg7 h,Qg7 h]
theorem Qsl {f:Nat->Nat->Int}{n:Nat}{a b c d:Int}{x:Cl}(h:∀j,j<9->f n j=x.at j):∀j,j<9->ansR f n a b c d n j=Cl.at { x with to:=a,whn:=b,c:=c,v:=d } j:=by
 intro j hj
 unfold ansR
 rcases (show j<5\/j=5\/j=6\/j=7\/j=8 by omega)with h1|rfl|rfl|rfl|rfl
 . rw[QcW (.inl Za),QcW (.inl Za),QcW (.inl Za),h j hj]
   rcases (show j=0\/j=1\/j=2\/j=3\/j=4 by omega)with rfl|rfl|rfl|rfl|rfl<;>rfl
 . rw[QcW (.inl Zb),QcW (.inl Zb),QfC Zb Zb];rfl
 . rw[QcW (.inl Zb),QfC Zb Zb];rfl
 . rw[QfC Zb Zb];rfl
 . rw[QfC Zb Zb];rfl
theorem Qgf (h:List Ev):∀i,i<=h.length->(Qg (h.take i)).length<=i
 |0,_=>Zq _
 |i+1,hi=>by
  have:=Qgf h i Za
  rw[Qde Za]
  unfold Qav
  split
  . rw[Zw,Yd];omega
  split
  . rw[ZN];omega
  . omega
theorem Qr4:(ZH Qe7).holds Tryz.prog 34:=by
 intro w0 S
 refine Qa (Γ:=[]) (λ_=>noW) Tryz.func34 rfl Zc Qf Qc (λw S' _ _=>.nil _ _ _) Qe7 (λs=>[(34,[(0,Qq6 s)])]) (λx0 h=>by cases h) (λs ρ w _ _ _=>Qj w _) [] (λv M=>match v with
  |.t [.c (.so b _ _ _ _ _),_]=>[0,b]
  |_=>[]) 600 ?_
 rintro⟨h,m,c,nn,z⟩ w ⟨hw,hl,hm,hz⟩ -
 refine⟨rfl,?_⟩
 dsimp only at hw hl hm hz
 refine Qk (q:=Zg h<=c/\(∃(s0:Ann.σ (Qq6 (ClsS.mk h m c nn z))),(eS (Zt (.so 2 0 9 0 0 false)) (Zt (.so 2 0 9 (Zg (Qg (ZY s0.1 h))) s0.3 s0.4))/\eS (Zt (.m 1)) (Zt (.m 1))/\eS (Zt (.so 0 0 9 (Zg h) c nn)) (Zt (.so 0 0 9 (Zg h) c nn))/\eS (aI (↑(Zg h):Int)) (aI (↑(Zg h):Int))/\eS (aI 0) (aI ↑s0.1)/\True)/\[Zk 47 kI9 9 m c z,Zk 91 kI9 9 0 0 λ(x x_1:Nat)=>(0:Int),ZcT (λ(x:Int)=>false) λ(x:Int)=>(0:Int)]=[Zk 47 kI9 9 m c z,Zk 91 kI9 9 s0.2 s0.3 s0.5,ZcT s0.6 s0.7])/\∀(s:ClsG (ClsS.mk h m c nn z)),bif decide ((↑s.1:Int)<(↑(Zg h):Int))then ((0:Int)<=(↑s.1:Int)/\(↑s.1:Int)<(↑(Zg h):Int)/\0+Zg h<=c)/\0+Zh (↑s.1:Int)<m/\bif z (0+Zh (↑s.1:Int)) 0==(1:Int)then bif s.6 (z (0+Zh (↑s.1:Int)) 1)then endN Qe7 [] (λ(v:SV) (M:List SB)=>match v with|ZS [Zt (.so b lo sz n c nn),head]=>[0,b]|x=>[]) (ClsS.mk h m c nn z) (ZS [Zt (.v (.slice none 0 0)),Zt (.i 80 4 0)]) [Zk 47 kI9 9 m c z,Zk 91 kI9 9 s.2 s.3 s.5,ZcT s.6 s.7,Zj [sI (z (0+Zh (↑s.1:Int)) 0),sI (z (0+Zh (↑s.1:Int)) 1),sI (z (0+Zh (↑s.1:Int)) 2),sI (z (0+Zh (↑s.1:Int)) 3),sI (z (0+Zh (↑s.1:Int)) 4),sI (z (0+Zh (↑s.1:Int)) 5),sI (z (0+Zh (↑s.1:Int)) 6),sI (z (0+Zh (↑s.1:Int)) 7),sI (z (0+Zh (↑s.1:Int)) 8)] 47,Zj [sI 10,sI (↑s.1:Int)] 82]else Zg (Qg (ZY s.1 h))<=s.3/\s.6 (z (0+Zh (↑s.1:Int)) 1)=false/\((Zg (Qg (ZY s.1 h))<=s.2/\s.3=s.3)/\(1<=1/\1=1)/\Zg (Qg (ZY s.1 h))+1<=68719476736)/\∀(c_1:Nat),Zg (Qg (ZY s.1 h))+1<=c_1->∃(s':ClsG (ClsS.mk h m c nn z)),((eS (Zt (.so 6 0 9 (Zg (Qg (ZY s.1 h))+1) c_1 s.4)) (Zt (.so 6 0 9 (Zg (Qg (ZY s'.1 h))) s'.3 s'.4))/\eS (Zt (.m 2)) (Zt (.m 2))/\eS (Zt (.so 0 0 9 (Zg h) c nn)) (Zt (.so 0 0 9 (Zg h) c nn))/\eS (aI (↑(Zg h):Int)) (aI (↑(Zg h):Int))/\eS (aI (Zi .i64 ((↑s.1:Int)+(1:Int)))) (aI ↑s'.1)/\True)/\[Zk 47 kI9 9 m c z,Zk 91 kI9 9 (Zg (Qg (ZY s.1 h))+1) c_1 λ(i j:Nat)=>bif ZL (i+1) (Zg (Qg (ZY s.1 h)))then s.5 i j else match Zl (match Zl [[z (0+Zh (↑s.1:Int)) 1,z (0+Zh (↑s.1:Int)) 2,z (0+Zh (↑s.1:Int)) 3,z (0+Zh (↑s.1:Int)) 4,Zi .i64 ((↑s.1:Int)+(1:Int)),(0:Int),(0:Int),(0:Int),(0:Int)]] (0+(i-Zg (Qg (ZY s.1 h))))with|some x=>x|none=>[]) j with|some x=>x|none=>(0:Int),ZcT (λ(x:Int)=>bif x==z (0+Zh (↑s.1:Int)) 1 then true else s.6 x) λ(x:Int)=>bif x==z (0+Zh (↑s.1:Int)) 1 then (↑(Zg (Qg (ZY s.1 h))):Int)else s.7 x]=[Zk 47 kI9 9 m c z,Zk 91 kI9 9 s'.2 s'.3 s'.5,ZcT s'.6 s'.7])/\Zg h-s'.1<Zg h-s.1 else bif z (0+Zh (↑s.1:Int)) 0==(2:Int)then bif bif s.6 (z (0+Zh (↑s.1:Int)) 1)then false else true then dP Tryz.f34 16 5 [xE 11,xE 10,xE 9,xE 8,xE 7,xE 6,xE 5,xE 4,xE 3,xE 2,xE 1,xE 0]/\endN Qe7 [] (λ(v:SV) (M:List SB)=>match v with|ZS [Zt (.so b lo sz n c nn),head]=>[0,b]|x=>[]) (ClsS.mk h m c nn z) (ZS [Zt (.v (.slice none 0 0)),Zt (.i 80 4 0)]) [Zk 47 kI9 9 m c z,Zk 91 kI9 9 s.2 s.3 s.5,ZcT s.6 s.7,Zj [sI (z (0+Zh (↑s.1:Int)) 0),sI (z (0+Zh (↑s.1:Int)) 1),sI (z (0+Zh (↑s.1:Int)) 2),sI (z (0+Zh (↑s.1:Int)) 3),sI (z (0+Zh (↑s.1:Int)) 4),sI (z (0+Zh (↑s.1:Int)) 5),sI (z (0+Zh (↑s.1:Int)) 6),sI (z (0+Zh (↑s.1:Int)) 7),sI (z (0+Zh (↑s.1:Int)) 8)] 47,Zj [sI 10,sI (↑s.1:Int)] 82]else (((0:Int)<=bif s.6 (z (0+Zh (↑s.1:Int)) 1)then s.7 (z (0+Zh (↑s.1:Int)) 1)else (0:Int))/\(bif s.6 (z (0+Zh (↑s.1:Int)) 1)then s.7 (z (0+Zh (↑s.1:Int)) 1)else (0:Int))<(↑(Zg (Qg (ZY s.1 h))):Int)/\0+Zg (Qg (ZY s.1 h))<=s.3)/\0+Zh (bif s.6 (z (0+Zh (↑s.1:Int)) 1)then s.7 (z (0+Zh (↑s.1:Int)) 1)else (0:Int))<s.2/\dP Tryz.f34 16 5 [xE 11,xE 10,xR 9 3,xF 8 3,xR 7 1,xF 6 1,xF 5 1,xE 4,xF 3 1,xE 2,xE 1,xE 0]/\bif bif bif s.5 (0+Zh (bif s.6 (z (0+Zh (↑s.1:Int)) 1)then s.7 (z (0+Zh (↑s.1:Int)) 1)else (0:Int))) 1==z (0+Zh (↑s.1:Int)) 2 then bif s.5 (0+Zh (bif s.6 (z (0+Zh (↑s.1:Int)) 1)then s.7 (z (0+Zh (↑s.1:Int)) 1)else (0:Int))) 2==z (0+Zh (↑s.1:Int)) 3 then bif s.5 (0+Zh (bif s.6 (z (0+Zh (↑s.1:Int)) 1)then s.7 (z (0+Zh (↑s.1:Int)) 1)else (0:Int))) 3==z (0+Zh (↑s.1:Int)) 4 then true else false else false else false then false else true then endN Qe7 [] (λ(v:SV) (M:List SB)=>match v with|ZS [Zt (.so b lo sz n c nn),head]=>[0,b]|x=>[]) (ClsS.mk h m c nn z) (ZS [Zt (.v (.slice none 0 0)),Zt (.i 80 4 0)]) [Zk 47 kI9 9 m c z,Zk 91 kI9 9 s.2 s.3 s.5,ZcT s.6 s.7,Zj [sI (z (0+Zh (↑s.1:Int)) 0),sI (z (0+Zh (↑s.1:Int)) 1),sI (z (0+Zh (↑s.1:Int)) 2),sI (z (0+Zh (↑s.1:Int)) 3),sI (z (0+Zh (↑s.1:Int)) 4),sI (z (0+Zh (↑s.1:Int)) 5),sI (z (0+Zh (↑s.1:Int)) 6),sI (z (0+Zh (↑s.1:Int)) 7),sI (z (0+Zh (↑s.1:Int)) 8)] 47,Zj [sI 10,sI (↑s.1:Int)] 82]else (((0:Int)<=bif s.6 (z (0+Zh (↑s.1:Int)) 1)then s.7 (z (0+Zh (↑s.1:Int)) 1)else (0:Int))/\(bif s.6 (z (0+Zh (↑s.1:Int)) 1)then s.7 (z (0+Zh (↑s.1:Int)) 1)else (0:Int))<(↑(Zg (Qg (ZY s.1 h))):Int)/\0+Zg (Qg (ZY s.1 h))<=s.3)/\0+Zh (bif s.6 (z (0+Zh (↑s.1:Int)) 1)then s.7 (z (0+Zh (↑s.1:Int)) 1)else (0:Int))<s.2/\(((0:Int)<=bif s.6 (z (0+Zh (↑s.1:Int)) 1)then s.7 (z (0+Zh (↑s.1:Int)) 1)else (0:Int))/\(bif s.6 (z (0+Zh (↑s.1:Int)) 1)then s.7 (z (0+Zh (↑s.1:Int)) 1)else (0:Int))<(↑(Zg (Qg (ZY s.1 h))):Int)/\0+Zg (Qg (ZY s.1 h))<=s.3)/\0+Zh (bif s.6 (z (0+Zh (↑s.1:Int)) 1)then s.7 (z (0+Zh (↑s.1:Int)) 1)else (0:Int))<s.2/\(((0:Int)<=bif s.6 (z (0+Zh (↑s.1:Int)) 1)then s.7 (z (0+Zh (↑s.1:Int)) 1)else (0:Int))/\(bif s.6 (z (0+Zh (↑s.1:Int)) 1)then s.7 (z (0+Zh (↑s.1:Int)) 1)else (0:Int))<(↑(Zg (Qg (ZY s.1 h))):Int)/\0+Zg (Qg (ZY s.1 h))<=s.3)/\0+Zh (bif s.6 (z (0+Zh (↑s.1:Int)) 1)then s.7 (z (0+Zh (↑s.1:Int)) 1)else (0:Int))<s.2/\dP Tryz.f34 18 5 [⟨20,[],[1],[],false⟩,xF 19 1,xF 18 1,⟨17,[],[1],[],false⟩,xF 16 1,xF 15 1,⟨14,[],[1],[],false⟩,xF 13 1,xF 12 1,xR 11 3,xF 10 3,xR 9 3,xF 8 3,xE 7,xE 6,xE 5,xF 4 1,xE 3,xF 2 1,xE 1,xF 0 1]/\s.6 (z (0+Zh (↑s.1:Int)) 1)=true/\∃(s':ClsG (ClsS.mk h m c nn z)),((eS (Zt (.so 1 0 9 (Zg (Qg (ZY s.1 h))) s.3 s.4)) (Zt (.so 1 0 9 (Zg (Qg (ZY s'.1 h))) s'.3 s'.4))/\eS (Zt (.m 2)) (Zt (.m 2))/\eS (Zt (.so 0 0 9 (Zg h) c nn)) (Zt (.so 0 0 9 (Zg h) c nn))/\eS (aI (↑(Zg h):Int)) (aI (↑(Zg h):Int))/\eS (aI (Zi .i64 ((↑s.1:Int)+(1:Int)))) (aI ↑s'.1)/\True)/\[Zk 47 kI9 9 m c z,Zk 91 kI9 9 s.2 s.3 λ(i j:Nat)=>bif match ZE i (0+Zh (bif s.6 (z (0+Zh (↑s.1:Int)) 1)then s.7 (z (0+Zh (↑s.1:Int)) 1)else (0:Int)))with|false=>false|true=>match ZL 7 j with|false=>false|true=>ZL j 8 then match Zl [z (0+Zh (↑s.1:Int)) 5,z (0+Zh (↑s.1:Int)) 6] (match match match match match match match j with|0=>0|Yg a=>a with|0=>0|Yg a=>a with|0=>0|Yg a=>a with|0=>0|Yg a=>a with|0=>0|Yg a=>a with|0=>0|Yg a=>a with|0=>0|Yg a=>a)with|some x=>x|none=>(0:Int)else bif match ZE i (0+Zh (bif s.6 (z (0+Zh (↑s.1:Int)) 1)then s.7 (z (0+Zh (↑s.1:Int)) 1)else (0:Int)))with|false=>false|true=>match ZL 6 j with|false=>false|true=>ZL j 6 then match Zl [z (0+Zh (↑s.1:Int)) 7] (match match match match match match j with|0=>0|Yg a=>a with|0=>0|Yg a=>a with|0=>0|Yg a=>a with|0=>0|Yg a=>a with|0=>0|Yg a=>a with|0=>0|Yg a=>a)with|some x=>x|none=>(0:Int)else bif match ZE i (0+Zh (bif s.6 (z (0+Zh (↑s.1:Int)) 1)then s.7 (z (0+Zh (↑s.1:Int)) 1)else (0:Int)))with|false=>false|true=>match ZL 5 j with|false=>false|true=>ZL j 5 then match Zl [Zi .i64 ((↑s.1:Int)+(1:Int))] (match match match match match j with|0=>0|Yg a=>a with|0=>0|Yg a=>a with|0=>0|Yg a=>a with|0=>0|Yg a=>a with|0=>0|Yg a=>a)with|some x=>x|none=>(0:Int)else s.5 i j,ZcT (λ(x:Int)=>bif x==z (0+Zh (↑s.1:Int)) 1 then false else s.6 x) s.7]=[Zk 47 kI9 9 m c z,Zk 91 kI9 9 s'.2 s'.3 s'.5,ZcT s'.6 s'.7])/\Zg h-s'.1<Zg h-s.1 else bif z (0+Zh (↑s.1:Int)) 0==(3:Int)then ∃(s':ClsG (ClsS.mk h m c nn z)),((eS (Zt (.so 1 0 9 (Zg (Qg (ZY s.1 h))) s.3 s.4)) (Zt (.so 1 0 9 (Zg (Qg (ZY s'.1 h))) s'.3 s'.4))/\eS (Zt (.m 2)) (Zt (.m 2))/\eS (Zt (.so 0 0 9 (Zg h) c nn)) (Zt (.so 0 0 9 (Zg h) c nn))/\eS (aI (↑(Zg h):Int)) (aI (↑(Zg h):Int))/\eS (aI (Zi .i64 ((↑s.1:Int)+(1:Int)))) (aI ↑s'.1)/\True)/\[Zk 47 kI9 9 m c z,Zk 91 kI9 9 s.2 s.3 s.5,ZcT s.6 s.7]=[Zk 47 kI9 9 m c z,Zk 91 kI9 9 s'.2 s'.3 s'.5,ZcT s'.6 s'.7])/\Zg h-s'.1<Zg h-s.1 else endN Qe7 [] (λ(v:SV) (M:List SB)=>match v with|ZS [Zt (.so b lo sz n c nn),head]=>[0,b]|x=>[]) (ClsS.mk h m c nn z) (ZS [Zt (.v (.slice none 0 0)),Zt (.i 80 4 0)]) [Zk 47 kI9 9 m c z,Zk 91 kI9 9 s.2 s.3 s.5,ZcT s.6 s.7,Zj [sI (z (0+Zh (↑s.1:Int)) 0),sI (z (0+Zh (↑s.1:Int)) 1),sI (z (0+Zh (↑s.1:Int)) 2),sI (z (0+Zh (↑s.1:Int)) 3),sI (z (0+Zh (↑s.1:Int)) 4),sI (z (0+Zh (↑s.1:Int)) 5),sI (z (0+Zh (↑s.1:Int)) 6),sI (z (0+Zh (↑s.1:Int)) 7),sI (z (0+Zh (↑s.1:Int)) 8)] 47,Zj [sI 10,sI (↑s.1:Int)] 82]else endN Qe7 [] (λ(v:SV) (M:List SB)=>match v with|ZS [Zt (.so b lo sz n c nn),head]=>[0,b]|x=>[]) (ClsS.mk h m c nn z) (ZS [Zt (.so 1 0 9 (Zg (Qg (ZY s.1 h))) s.3 s.4),Zt (.v ZM)]) [Zk 47 kI9 9 m c z,Zk 91 kI9 9 s.2 s.3 s.5,ZcT s.6 s.7]) Zc ?_
 have e0 (j:Nat):0+(j:Int).toNat=j:=by rw[Zv,Zu]
 refine⟨ZV hm.1 hm.2,⟨⟨0,0,0,false,λ_ _=>0,λ_=>false,λ_=>0,Z9 _,⟨Zq _,Zq _⟩,IsR.nil _ _ _ _,MapOf.nil⟩,⟨rfl,rfl,rfl,rfl,rfl,Zd⟩,rfl⟩,?_⟩
 rintro⟨i,m2,c2,n2,f,hh,vv,hi,hm2,hf,ho⟩
 dsimp only at hi hm2 hf ho ⊢
 have hcl:=Qgf h i hi
 rw[e0 i]
 refine Qo (λhlt=>?_) (λhge=>?_)
 . have hlt':i<h.length:=Za
   obtain⟨E,hE⟩:∃E,E=h.getD i YU:=⟨_,rfl⟩
   have hk:∀j,j<9->z i j=E.at j:=λj hj=>by rw[hE];exact hz i hlt' j hj
   have k0:z i 0=E.kind:=hk 0 Zb
   have k1:z i 1=E.t:=hk 1 Zb
   have k2:z i 2=E.k:=hk 2 Zb
   have k3:z i 3=E.key:=hk 3 Zb
   have k4:z i 4=E.x:=hk 4 Zb
   have k5:z i 5=E.c:=hk 5 Zb
   have k6:z i 6=E.v:=hk 6 Zb
   have k7:z i 7=E.whn:=hk 7 Zb
   have W:=hw i hlt'
   have hcs:=Qde hlt'
   rw[<- hE]at W hcs
   rw[k0,k1,k2,k3,k4,k5,k6,k7]
   refine⟨⟨Za,hlt,Za⟩,Za,QP (λh1=>?_) (λh1=>QP (λh2=>?_) (λh2=>QP (λh3=>?_) (λh3=>?_)))⟩
   . have hN:QkL (Qg (h.take i)) E.t:=by
      rcases W with⟨-,hN⟩|⟨hx,-⟩|hx
      . exact hN
      . omega
      . omega
     have hb:hh E.t=false:=by
      cases hb:hh E.t
      . rfl
      . obtain⟨n,-,hO⟩:=ho.yes _ hb
        exact absurd hO.2.2.1 (hN n hO.1 hO.2.1)
     have ec:Qav (Qg (h.take i)) i E=Qg (h.take i)++[⟨E.t,E.k,E.key,E.x,(i:Int)+1,0,0,0,0⟩]:=Zf h1
     have el:(Qg (h.take (i+1))).length=(Qg (h.take i)).length+1:=by rw[hcs,ec,Zw];rfl
     refine QL (λh=>absurd (hb.symm.trans h) Zb) (λ_=>⟨ZV hm2.1 hm2.2,hb,⟨⟨hm2.1,rfl⟩,⟨Zq _,rfl⟩,Za⟩,λc1 hc1=>⟨⟨i+1,(Qg (h.take i)).length+1,c1,n2,_,_,_,hlt',⟨by rw[el];exact Zq _,hc1⟩,?_,?_⟩,⟨⟨congrArg (λq=>some (ZG (Zt (SC.so 6 0 9 q c1 n2)))) el.symm,rfl,rfl,rfl,svI (sucI Za),Zd⟩,rfl⟩,by dsimp only;omega⟩⟩)
     . rw[hcs,ec]
       refine IsR.snoc hf (λq hq j hj=>catT hq) (λj hj=>?_)
       have hb2:ZL ((Qg (h.take i)).length+1) (Qg (h.take i)).length=false:=by
        cases hx:ZL ((Qg (h.take i)).length+1) (Qg (h.take i)).length
        . rfl
        . exact absurd (Nat.le_of_ble_eq_true hx) Za
       simp only[hb2,Ye]
       rw[sucI (show i<=1000000000 by omega)]
       rcases (show j=0\/j=1\/j=2\/j=3\/j=4\/j=5\/j=6\/j=7\/j=8 by omega)with rfl|rfl|rfl|rfl|rfl|rfl|rfl|rfl|rfl<;>rfl
     . rw[hcs];exact ho.call h1 hN
   . obtain⟨n,hO,q1,q2,q3⟩:∃n,QkK (Qg (h.take i)) E.t n/\((Qg (h.take i)).getD n Cl.nil).k=E.k/\((Qg (h.take i)).getD n Cl.nil).key=E.key/\((Qg (h.take i)).getD n Cl.nil).x=E.x:=by
      rcases W with⟨hx,-⟩|⟨-,hx⟩|hx
      . omega
      . exact hx
      . omega
     have hb:hh E.t=true:=by
      cases hb:hh E.t
      . exact absurd hO.2.2.1 (ho.no _ hb n hO.1 hO.2.1)
      . rfl
     have hn:vv E.t=n:=by
      obtain⟨n',h1',hO'⟩:=ho.yes _ hb
      by_cases e:n'=n
      . rw[h1',e]
      . exact absurd hO'.2.2.1 (hO.2.2.2 n' hO'.1 e hO'.2.1)
     have ev:(bif hh E.t then vv E.t else 0)=(n:Int):=by rw[hb,hn];rfl
     have hnl:=hO.1
     have r1:f n 1=E.k:=(hf n hnl 1 Zb).trans q1
     have r2:f n 2=E.key:=(hf n hnl 2 Zb).trans q2
     have r3:f n 3=E.x:=(hf n hnl 3 Zb).trans q3
     have el:(Qg (h.take (i+1))).length=(Qg (h.take i)).length:=by rw[hcs,Qdg h2,ZN]
     rw[ev,e0 n]
     refine Xn (λh=>absurd (hb.symm.trans h) Zb) (λ_=>⟨⟨Za,Za,Za⟩,Za,Qd Zc,Xn (λh=>absurd h (by rw[r1,r2,r3];simp)) (λ_=>⟨⟨Za,Za,Za⟩,Za,⟨Za,Za,Za⟩,Za,⟨Za,Za,Za⟩,Za,Qd Zc,hb,⟨i+1,m2,c2,n2,ansR f n (Zi .i64 ((i:Int)+1)) E.whn E.c E.v,λx=>bif x==E.t then false else hh x,vv,hlt',⟨by rw[el];exact hm2.1,hm2.2⟩,?_,?_⟩,⟨⟨congrArg (λq=>some (ZG (Zt (SC.so 1 0 9 q c2 n2)))) el.symm,rfl,rfl,rfl,svI (sucI Za),Zd⟩,Zc⟩,by dsimp only;omega⟩)⟩)
     . rw[hcs,Qdg h2]
       intro q hq j hj
       rw[ZN]at hq
       rw[Qab hq]
       by_cases e:q=n
       . subst e
         rw[QhH hO.2.1 hO.2.2.1,sucI (show i<=1000000000 by omega)]
         exact Qsl (x:=(Qg (h.take i)).getD q Cl.nil) (λj hj=>hf q hq j hj) j hj
       . rw[Qsk e,hf q hq j hj,QcI]
         by_cases ht:((Qg (h.take i)).getD q Cl.nil).t=E.t
         . exact .inr (hO.2.2.2 q hq e ht)
         . exact .inl ht
     . rw[hcs];exact ho.ans h2 hO
   . have ec:Qg (h.take (i+1))=Qg (h.take i):=by rw[hcs,Qoq h3]
     exact⟨⟨i+1,m2,c2,n2,f,hh,vv,hlt',by rw[ec];exact hm2,by rw[ec];exact hf,by rw[ec];exact ho⟩,⟨⟨congrArg (λq=>some (ZG (Zt (SC.so 1 0 9 q c2 n2)))) (congrArg Zg ec).symm,rfl,rfl,rfl,svI (sucI Za),Zd⟩,rfl⟩,by dsimp only;omega⟩
   . exfalso
     rcases W with⟨hx,-⟩|⟨hx,-⟩|hx
     . exact h1 hx
     . exact h2 hx
     . exact h3 hx
 . obtain rfl:i=h.length:=Za
   rw[Yt]at hm2 hf ⊢
   exact Ql rfl ⟨m2,c2,n2,f⟩ ⟨hm2,hf⟩ rfl rfl rfl
end
section
def chk1 (c:Cl) (l:List Dd) (of:Nat->Int):Int:=
 if c.to=0 then 0 else if c.whn<1 then 7 else if (l.length:Int)<c.whn then 7
 else if (l.getD (c.whn-1).toNat ZR).t=c.t/\(l.getD (c.whn-1).toNat ZR).k=c.k/\(l.getD (c.whn-1).toNat ZR).key=c.key/\(l.getD (c.whn-1).toNat ZR).x=c.x/\(l.getD (c.whn-1).toNat ZR).c=c.c/\(l.getD (c.whn-1).toNat ZR).v=c.v then
  (if 0<of (c.whn-1).toNat then 9 else 0)else 13
def nxt1 (c:Cl) (i:Nat) (of:Nat->Int):Nat->Int:=if c.to=0 then of else putF of (c.whn-1).toNat ((i:Int)+1)
def isOp (d:Dd) (c:Cl):Bool:=decide (c.to=0/\c.t=d.t/\c.k=d.k/\c.key=d.key/\c.x=d.x)
def fidx (cs:List Cl) (d:Dd):Nat->Nat->Option Nat
 |0,_=>none
 |n+1,i=>if isOp d (cs.getD i Cl.nil)=true then some i else fidx cs d n (i+1)
def hasF (of:Nat->Int) (x:Int):Nat->Nat->Bool
 |0,_=>false
 |n+1,j=>(of j==x)||hasF of x n (j+1)
def bad3 (cs:List Cl) (of:Nat->Int) (k j:Nat):Bool:=decide (0<(cs.getD (of k-1).toNat Cl.nil).to/\(cs.getD (of k-1).toNat Cl.nil).to<(cs.getD (of j-1).toNat Cl.nil).fr)
def Qgx (cs:List Cl) (of:Nat->Int) (k:Nat):Nat->Nat->Bool
 |0,_=>false
 |n+1,j=>bad3 cs of k j||Qgx cs of k n (j+1)
def Qog (cs:List Cl) (of:Nat->Int):Nat->Nat->Int
 |0,_=>0
 |n+1,k=>bif Qgx cs of k k 0 then 6 else Qog cs of n (k+1)
def QhI (cs:List Cl) (l:List Dd):Nat->Nat->(Nat->Int)->Int
 |0,_,of=>Qog cs of l.length 0
 |n+1,k,of=>if 0<of k then QhI cs l n (k+1) of else
  match fidx cs (l.getD k ZR) cs.length 0 with
  |none=>8
  |some i=>bif hasF of ((i:Int)+1) l.length 0 then 8 else QhI cs l n (k+1) (putF of k ((i:Int)+1))
def cont1 (cs:List Cl) (l:List Dd):Nat->Nat->(Nat->Int)->Int
 |0,_,of=>QhI cs l l.length 0 of
 |n+1,i,of=>if chk1 (cs.getD i Cl.nil) l of=0 then cont1 cs l n (i+1) (nxt1 (cs.getD i Cl.nil) i of)else chk1 (cs.getD i Cl.nil) l of
def fitC (cs:List Cl) (l:List Dd):Int:=cont1 cs l cs.length 0 (λ_=>0)
theorem QiG {cs:List Cl}{d:Dd}:∀(n i:Nat),(∀j,i<=j->j<i+n->isOp d (cs.getD j Cl.nil)=false)->fidx cs d n i=none
 |0,_,_=>rfl
 |n+1,i,h=>by
  unfold fidx
  rw[Ze (by rw[h i (Zq _) Za];decide)]
  exact QiG n (i+1) (λj h1 h2=>h j Za Za)
theorem QiF {cs:List Cl}{d:Dd}{m:Nat}(hm:isOp d (cs.getD m Cl.nil)=true):∀(n i:Nat),i<=m->m<i+n->(∀j,i<=j->j<m->isOp d (cs.getD j Cl.nil)=false)->fidx cs d n i=some m
 |0,i,h1,h2,_=>Za
 |n+1,i,h1,h2,h=>by
  unfold fidx
  by_cases e:i=m
  . subst e;rw[Zf hm]
  . rw[Ze (by rw[h i (Zq _) Za];decide)]
    exact QiF hm n (i+1) Za Za (λj h3 h4=>h j Za h4)
theorem QnD {of:Nat->Int}{x:Int}:∀(n j:Nat),(∀q,j<=q->q<j+n->of q≠x)->hasF of x n j=false
 |0,_,_=>rfl
 |n+1,j,h=>by
  unfold hasF
  rw[beq_eq_false_iff_ne.2 (h j (Zq _) Za),QnD n (j+1) (λq h1 h2=>h q Za Za)];rfl
section
variable {z:Sh}{g:Gh}{o:List Nat}
def of1 (z:Sh) (o:List Nat) (i j:Nat):Int:=if j<o.length/\o.getD j 0<i/\((Qg z.hist).getD (o.getD j 0) Cl.nil).to≠0 then (o.getD j 0:Int)+1 else 0
theorem HInv.pass1 (H:HInv z g o) (hn:g.n<=z.deeds.length) {of:Nat->Int}{i:Nat}(hi:i<(Qg z.hist).length) (ho:∀j,j<o.length->of j=of1 z o i j):
 chk1 ((Qg z.hist).getD i Cl.nil) (z.deeds.map Vd.d) of=0/\∀j,j<o.length->nxt1 ((Qg z.hist).getD i Cl.nil) i of j=of1 z o (i+1) j:=by
 have hml:(z.deeds.map Vd.d).length=z.deeds.length:=ZN _
 have hln:=H.ln
 by_cases h0:((Qg z.hist).getD i Cl.nil).to=0
 . refine⟨by unfold chk1;rw[Zf h0],λj hj=>?_⟩
   unfold nxt1
   rw[Zf h0,ho j hj]
   unfold of1
   by_cases e:o.getD j 0=i
   . rw[Ze (λh=>Za),Ze (λh=>h.2.2 (by rw[e];exact h0))]
   . by_cases h:j<o.length/\o.getD j 0<i/\((Qg z.hist).getD (o.getD j 0) Cl.nil).to≠0
     . rw[Zf h,Zf ⟨h.1,Za,h.2.2⟩]
     . rw[Ze h,Ze (λx=>h ⟨x.1,Za,x.2.2⟩)]
 . obtain⟨j,h1,h2,h3,h4,h5⟩:=H.ans i hi h0
   have hjo:j<o.length:=Za
   obtain⟨o1,o2,o3,o4⟩:=H.op j hjo
   rw[h3]at o1 o2 o3 o4
   have hq:(((Qg z.hist).getD i Cl.nil).whn-1).toNat=j:=by rw[h1];omega
   have hd:(z.deeds.map Vd.d).getD j ZR=(z.deeds.getD j ZaA).d:=by simp[Zp,List.getElem?_map,Zy (show j<z.deeds.length by omega)]
   have hof:of j=0:=by
    rw[ho j hjo];unfold of1
    rw[Ze (λh=>Za)]
   refine⟨?_,λq hq'=>?_⟩
   . unfold chk1
     rw[Ze h0,Ze Za,Ze Za,hq,hd,Zf ⟨o1.symm,o2.symm,o3.symm,o4.symm,h4,h5⟩,hof,Ze Zb]
   . unfold nxt1
     rw[Ze h0,hq]
     by_cases e:q=j
     . subst e
       rw[QY];unfold of1
       rw[Zf ⟨hq',Za,by rw[h3];exact h0⟩,h3]
     . rw[Qs _ _ e,ho q hq']
       unfold of1
       have hne:o.getD q 0≠i:=λh=>by
        rcases Nat.lt_or_gt_of_ne e with h6|h6
        . exact H.inj q j h6 hjo (h.trans h3.symm)
        . exact H.inj j q h6 hq' (h3.trans h.symm)
       by_cases h:q<o.length/\o.getD q 0<i/\((Qg z.hist).getD (o.getD q 0) Cl.nil).to≠0
       . rw[Zf h,Zf ⟨h.1,Za,h.2.2⟩]
       . rw[Ze h,Ze (λx=>h ⟨x.1,Za,x.2.2⟩)]
end
end
section
open Go.RowKit
abbrev callSA (x:Nat->Int):SA:=.a [.one (.v (.int .i64 (x 0))),.one (.v (.int .i64 (x 1))),.one (.v (.int .i64 (x 2))),.one (.v (.int .i64 (x 3))),.one (.v (.int .i64 (x 4))),.one (.v (.int .i64 (x 5))),.one (.v (.int .i64 (x 6))),.one (.v (.int .i64 (x 7))),.one (.v (.int .i64 (x 8)))]
abbrev Qod (d:Nat->Int):SB:=.cells [.one (.v (.int .i64 (d 0))),.one (.v (.int .i64 (d 1))),.one (.v (.int .i64 (d 2))),.one (.v (.int .i64 (d 3))),.one (.v (.int .i64 (d 4))),.one (.v (.int .i64 (d 5)))] 36
def opB (x d:Nat->Int):Bool:=decide (x 5=0/\x 0=d 0/\x 1=d 1/\x 2=d 2/\x 3=d 3)
def QeQ:MCon:=dcon ((Nat->Int) × (Nat->Int)) (λ_=>True) (λs=>[callSA s.1,.c (.p 0 0)]) (λs=>[Qod s.2]) (λs=>sv (.bool (opB s.1 s.2))) (λs=>[Qod s.2]) 1 (λargs _=>some (blkA args))
theorem opB_eq {y x:Nat->Int}(h5:y 5=0) (h0:y 0=x 0):(bif y 1==x 1 then bif y 2==x 2 then bif y 3==x 3 then true else false else false else false)=opB y x:=by
 unfold opB
 by_cases h1:y 1=x 1<;>by_cases h2:y 2=x 2<;>by_cases h3:y 3=x 3<;>simp[h1,h2,h3,h5,h0]
theorem Qqk:(ZH QeQ).holds Tryz.prog 36:=by
 intro w0 S
 refine Qa (Γ:=[]) (λ_=>noW) Tryz.func36 rfl Zc Qf Qc (λ_ _ _ _=>.nil _ _ _) QeQ (λs=>[]) (λx0 h s x=>⟨rfl,Zd⟩) (λs ρ w _ _ _=>Qj w _) [] (Qi 1) 400 ?_
 rintro⟨y,x⟩ w - -
 refine⟨rfl,?_⟩
 refine Qk (q:=bif y 5==(0:Int)then bif y 0==x 0 then endN QeQ [] (Qi 1) (y,x) (ZG (aB (bif y 1==x 1 then bif y 2==x 2 then bif y 3==x 3 then true else false else false else false))) [Zj [sI (x 0),sI (x 1),sI (x 2),sI (x 3),sI (x 4),sI (x 5)] 36,Zj [sI (y 0),sI (y 1),sI (y 2),sI (y 3),sI (y 4),sI (y 5),sI (y 6),sI (y 7),sI (y 8)] 91]else endN QeQ [] (Qi 1) (y,x) (ZG (aB false)) [Zj [sI (x 0),sI (x 1),sI (x 2),sI (x 3),sI (x 4),sI (x 5)] 36,Zj [sI (y 0),sI (y 1),sI (y 2),sI (y 3),sI (y 4),sI (y 5),sI (y 6),sI (y 7),sI (y 8)] 91]else endN QeQ [] (Qi 1) (y,x) (ZG (aB false)) [Zj [sI (x 0),sI (x 1),sI (x 2),sI (x 3),sI (x 4),sI (x 5)] 36,Zj [sI (y 0),sI (y 1),sI (y 2),sI (y 3),sI (y 4),sI (y 5),sI (y 6),sI (y 7),sI (y 8)] 91]) Zc ?_
 refine QP (λh5=>QP (λh0=>⟨(),Zd,?_,rfl⟩) (λh0=>⟨(),Zd,?_,rfl⟩)) (λh5=>⟨(),Zd,?_,rfl⟩)
 . exact congrArg (λb=>ZG (Zt (ZbP (.bool b)))) (opB_eq h5 h0)
 . exact congrArg (λb=>ZG (Zt (ZbP (.bool b)))) (show false=opB y x from (decide_eq_false λh=>h0 h.2.1).symm)
 . exact congrArg (λb=>ZG (Zt (ZbP (.bool b)))) (show false=opB y x from (decide_eq_false λh=>h5 h.1).symm)
structure IxS where
 cs:List Cl
 m:Nat
 c:Nat
 nn:Bool
 z:Nat->Nat->Int
 d:Dd
def idxI:Option Nat->Int
 |none=>-1
 |some i=>i
def QiQ:MCon:=dcon IxS (λs=>s.cs.length<=1000000000/\(s.cs.length<=s.m/\s.m<=s.c)/\IsC s.z s.cs) (λs=>[.c (.so 0 0 9 s.cs.length s.c s.nn),.c (.fn 36 [(1,0)])]) (λs=>[Qla s.m s.c s.z,Qod s.d.at])
 (λs=>sv (.int .i64 (idxI (fidx s.cs s.d s.cs.length 0)))) (λs=>[Qla s.m s.c s.z,Qod s.d.at]) 2 (λargs _=>match args with
 |[.c (.so b _ _ _ _ _),.c (.fn _ ((x,_)::_))]=>some [b,x]
 |_=>none)
structure IxG (s:IxS) where
 i:Nat
 hi:i<=s.cs.length
 hn:∀j,j<i->isOp s.d (s.cs.getD j Cl.nil)=false
def QqV (s:IxS):Ann where
 σ:=IxG s
 I g:=([(0,.o (.c (.so 0 0 9 s.cs.length s.c s.nn))),(1,.o (.c (.fn 36 [(1,0)]))),(7,sv (.int .i64 s.cs.length)),(8,sv (.int .i64 g.i))],[Qla s.m s.c s.z,Qod s.d.at])
 dec g:=s.cs.length-g.i
 pi _ _:=[0,1]
 nz:=[]
theorem QrI:(ZH QiQ).holds Tryz.prog 35:=by
 intro w0 S
 refine Qa (Γ:=[(36,.mem QeQ)]) (λ_=>noW) Tryz.func35 rfl Zc Qf Qc (λw S' _ _=>.cons (Qqk w S') (.nil _ _ _)) QiQ (λs=>[(35,[(0,QqV s)])]) (λx0 h s x=>⟨rfl,Zd⟩) (λs ρ w _ _ _=>Qj w _) [] (Qi 2) 400 ?_
 rintro⟨cs,m,c,nn,z,d⟩ w ⟨h0,h1,h2⟩ -
 refine⟨rfl,?_⟩
 dsimp only at h0 h1 h2
 refine Qk (q:=Zg cs<=c/\(∃(s0:Ann.σ (QqV (IxS.mk cs m c nn z d))),(eS (Zt (.so 0 0 9 (Zg cs) c nn)) (Zt (.so 0 0 9 (Zg cs) c nn))/\eS (Zt (.fn 36 [(1,0)])) (Zt (.fn 36 [(1,0)]))/\eS (aI (↑(Zg cs):Int)) (aI (↑(Zg cs):Int))/\eS (aI 0) (aI ↑s0.1)/\True)/\[Zk 91 kI9 9 m c z,Zj [sI (Dd.at d 0),sI (Dd.at d 1),sI (Dd.at d 2),sI (Dd.at d 3),sI (Dd.at d 4),sI (Dd.at d 5)] 36]=[Zk 91 kI9 9 m c z,Zj [sI (Dd.at d 0),sI (Dd.at d 1),sI (Dd.at d 2),sI (Dd.at d 3),sI (Dd.at d 4),sI (Dd.at d 5)] 36])/\∀(s:IxG (IxS.mk cs m c nn z d)),bif decide ((↑s.1:Int)<(↑(Zg cs):Int))then ((0:Int)<=(↑s.1:Int)/\(↑s.1:Int)<(↑(Zg cs):Int)/\0+Zg cs<=c)/\0+Zh (↑s.1:Int)<m/\∃(s_1:(Nat->Int) × (Nat->Int)),[Zz [sI (z (0+Zh (↑s.1:Int)) 0),sI (z (0+Zh (↑s.1:Int)) 1),sI (z (0+Zh (↑s.1:Int)) 2),sI (z (0+Zh (↑s.1:Int)) 3),sI (z (0+Zh (↑s.1:Int)) 4),sI (z (0+Zh (↑s.1:Int)) 5),sI (z (0+Zh (↑s.1:Int)) 6),sI (z (0+Zh (↑s.1:Int)) 7),sI (z (0+Zh (↑s.1:Int)) 8)],aP 1 0]=[Zz [sI (s_1.1 0),sI (s_1.1 1),sI (s_1.1 2),sI (s_1.1 3),sI (s_1.1 4),sI (s_1.1 5),sI (s_1.1 6),sI (s_1.1 7),sI (s_1.1 8)],aP 1 0]/\[Zj [sI (Dd.at d 0),sI (Dd.at d 1),sI (Dd.at d 2),sI (Dd.at d 3),sI (Dd.at d 4),sI (Dd.at d 5)] 36]=[Zj [sI (s_1.2 0),sI (s_1.2 1),sI (s_1.2 2),sI (s_1.2 3),sI (s_1.2 4),sI (s_1.2 5)] 36]/\True/\∀(x:Unit),True->bif decide (s_1.1 5=(0:Int)/\s_1.1 0=s_1.2 0/\s_1.1 1=s_1.2 1/\s_1.1 2=s_1.2 2/\s_1.1 3=s_1.2 3)then endN QiQ [] (Qi 2) (IxS.mk cs m c nn z d) (ZG (aI ↑s.1)) [Zk 91 kI9 9 m c z,Zj [sI (s_1.2 0),sI (s_1.2 1),sI (s_1.2 2),sI (s_1.2 3),sI (s_1.2 4),sI (s_1.2 5)] 36]else ∃(s':IxG (IxS.mk cs m c nn z d)),((eS (Zt (.so 0 0 9 (Zg cs) c nn)) (Zt (.so 0 0 9 (Zg cs) c nn))/\eS (Zt (.fn 36 [(1,0)])) (Zt (.fn 36 [(1,0)]))/\eS (aI (↑(Zg cs):Int)) (aI (↑(Zg cs):Int))/\eS (aI (Zi .i64 ((↑s.1:Int)+(1:Int)))) (aI ↑s'.1)/\True)/\[Zk 91 kI9 9 m c z,Zj [sI (s_1.2 0),sI (s_1.2 1),sI (s_1.2 2),sI (s_1.2 3),sI (s_1.2 4),sI (s_1.2 5)] 36]=[Zk 91 kI9 9 m c z,Zj [sI (Dd.at d 0),sI (Dd.at d 1),sI (Dd.at d 2),sI (Dd.at d 3),sI (Dd.at d 4),sI (Dd.at d 5)] 36])/\Zg cs-s'.1<Zg cs-s.1 else endN QiQ [] (Qi 2) (IxS.mk cs m c nn z d) (ZG (aI (-1:Int))) [Zk 91 kI9 9 m c z,Zj [sI (Dd.at d 0),sI (Dd.at d 1),sI (Dd.at d 2),sI (Dd.at d 3),sI (Dd.at d 4),sI (Dd.at d 5)] 36]) Zc ?_
 have e0 (j:Nat):0+(j:Int).toNat=j:=by rw[Zv,Zu]
 refine⟨ZV h1.1 h1.2,⟨⟨0,Z9 _,λj hj=>absurd hj (ZP _)⟩,⟨rfl,rfl,rfl,rfl,Zd⟩,rfl⟩,?_⟩
 rintro⟨i,hi,hn⟩
 dsimp only at hi hn ⊢
 rw[e0 i]
 refine Qo (λhlt=>?_) (λhge=>?_)
 . have hlt':i<cs.length:=Za
   have z0:z i 0=(cs.getD i Cl.nil).t:=h2 i hlt' 0 Zb
   have z1:z i 1=(cs.getD i Cl.nil).k:=h2 i hlt' 1 Zb
   have z2:z i 2=(cs.getD i Cl.nil).key:=h2 i hlt' 2 Zb
   have z3:z i 3=(cs.getD i Cl.nil).x:=h2 i hlt' 3 Zb
   have z5:z i 5=(cs.getD i Cl.nil).to:=h2 i hlt' 5 Zb
   refine⟨⟨Za,hlt,Za⟩,Za,(z i,d.at),rfl,rfl,Zd,λ_ _=>QL (λhb=>?_) (λhb=>?_)⟩
   . have hb:=of_decide_eq_true hb
     dsimp only at hb
     rw[z0,z1,z2,z3,z5]at hb
     have hm:isOp d (cs.getD i Cl.nil)=true:=decide_eq_true hb
     refine⟨(),Zd,?_,rfl⟩
     exact congrArg (λb=>ZG (Zt (ZbP (.int .i64 b)))) (show (i:Int)=idxI (fidx cs d cs.length 0) by rw[QiF hm cs.length 0 (Z9 _) Za (λj _ hj=>hn j hj)];rfl)
   . have hb:=of_decide_eq_false hb
     dsimp only at hb
     rw[z0,z1,z2,z3,z5]at hb
     refine⟨⟨i+1,hlt',λj hj=>?_⟩,⟨⟨rfl,rfl,rfl,svI (sucI Za),Zd⟩,rfl⟩,by dsimp only;omega⟩
     by_cases e:j=i
     . subst e;exact decide_eq_false hb
     . exact hn j Za
 . have hin:i=cs.length:=Za
   refine⟨(),Zd,?_,rfl⟩
   exact congrArg (λb=>ZG (Zt (ZbP (.int .i64 b)))) (show (-1:Int)=idxI (fidx cs d cs.length 0) by rw[QiG cs.length 0 (λj _ hj=>hn j Za)];rfl)
structure HsS where
 n:Nat
 m:Nat
 c:Nat
 nn:Bool
 z:Nat->Nat->Int
 x:Int
abbrev Qph (m c:Nat) (z:Nat->Nat->Int):SB:=.rows 3 [.int .i64] 1 m c z
def QiR:MCon:=dcon HsS (λs=>s.n<=1000000000/\s.n<=s.m/\s.m<=s.c) (λs=>[.c (.so 0 0 1 s.n s.c s.nn),.c (.v (.int .i64 s.x))]) (λs=>[Qph s.m s.c s.z]) (λs=>sv (.bool (hasF (λj=>s.z j 0) s.x s.n 0))) (λs=>[Qph s.m s.c s.z]) 1 (λargs _=>some (blkA args))
structure HsG (s:HsS) where
 i:Nat
 hi:i<=s.n
 hn:∀j,j<i->s.z j 0≠s.x
def QqZ (s:HsS):Ann where
 σ:=HsG s
 I g:=([(0,.o (.c (.so 0 0 1 s.n s.c s.nn))),(1,sv (.int .i64 s.x)),(7,sv (.int .i64 s.n)),(8,sv (.int .i64 g.i))],[Qph s.m s.c s.z])
 dec g:=s.n-g.i
 pi _ _:=[0]
 nz:=[]
theorem Qkp {of:Nat->Int}{x:Int}{m:Nat}(hm:of m=x):∀(n j:Nat),j<=m->m<j+n->hasF of x n j=true
 |0,j,h1,h2=>Za
 |n+1,j,h1,h2=>by
  unfold hasF
  by_cases e:j=m
  . subst e;rw[beq_iff_eq.2 hm];rfl
  . rw[Qkp hm n (j+1) Za Za,Bool.or_true]
theorem QrM:(ZH QiR).holds Tryz.prog 37:=by
 intro w0 S
 refine Qa (Γ:=[(66,.inl Tryz.f66 (Tryz.f66.body.getD .skip))]) (λ_=>noW) Tryz.func37 rfl Zc Qf Qc (λw S' _ _=>.cons ⟨Zc,rfl,rfl⟩ (.nil _ _ _)) QiR (λs=>[(66,[(0,QqZ s)])]) (λx0 h s x=>⟨rfl,Zd⟩) (λs ρ w _ _ _=>Qj w _) [] (Qi 1) 400 ?_
 rintro⟨n,m,c,nn,z,x⟩ w ⟨h0,h1,h2⟩ -
 refine⟨rfl,?_⟩
 dsimp only at h0 h1 h2
 refine Qk (q:=n<=c/\(∃(s0:Ann.σ (QqZ (HsS.mk n m c nn z x))),(eS (Zt (.so 0 0 1 n c nn)) (Zt (.so 0 0 1 n c nn))/\eS (aI x) (aI x)/\eS (aI ↑n) (aI ↑n)/\eS (aI 0) (aI ↑s0.1)/\True)/\[Zk 3 [.int .i64] 1 m c z]=[Zk 3 [.int .i64] 1 m c z])/\∀(s:HsG (HsS.mk n m c nn z x)),bif decide ((↑s.1:Int)<(↑n:Int))then ((0:Int)<=(↑s.1:Int)/\(↑s.1:Int)<(↑n:Int)/\0+n<=c)/\0+Zh (↑s.1:Int)<m/\bif x==z (0+Zh (↑s.1:Int)) 0 then endN QiR [] (Qi 1) (HsS.mk n m c nn z x) (ZG (aB (decide ((↑s.1:Int)>=(0:Int))))) [Zk 3 [.int .i64] 1 m c z]else ∃(s':HsG (HsS.mk n m c nn z x)),((eS (Zt (.so 0 0 1 n c nn)) (Zt (.so 0 0 1 n c nn))/\eS (aI x) (aI x)/\eS (aI ↑n) (aI ↑n)/\eS (aI (Zi .i64 ((↑s.1:Int)+(1:Int)))) (aI ↑s'.1)/\True)/\[Zk 3 [.int .i64] 1 m c z]=[Zk 3 [.int .i64] 1 m c z])/\n-s'.1<n-s.1 else endN QiR [] (Qi 1) (HsS.mk n m c nn z x) (ZG (aB false)) [Zk 3 [.int .i64] 1 m c z]) Zc ?_
 have e0 (j:Nat):0+(j:Int).toNat=j:=by rw[Zv,Zu]
 refine⟨ZV h1 h2,⟨⟨0,Z9 _,λj hj=>absurd hj (ZP _)⟩,⟨rfl,rfl,rfl,rfl,Zd⟩,rfl⟩,?_⟩
 rintro⟨i,hi,hn⟩
 dsimp only at hi hn ⊢
 rw[e0 i]
 refine Qo (λhlt=>?_) (λhge=>?_)
 . have hlt':i<n:=Za
   refine⟨⟨Za,hlt,Za⟩,Za,QP (λhb=>?_) (λhb=>?_)⟩
   . refine⟨(),Zd,?_,rfl⟩
     exact congrArg (λb=>ZG (Zt (ZbP (.bool b)))) (show decide ((i:Int)>=0)=hasF (λj=>z j 0) x n 0 by rw[Qkp (of:=λj=>z j 0) (m:=i) hb.symm n 0 (Z9 _) Za];exact decide_eq_true Za)
   . refine⟨⟨i+1,hlt',λj hj=>?_⟩,⟨⟨rfl,rfl,rfl,svI (sucI Za),Zd⟩,rfl⟩,by dsimp only;omega⟩
     by_cases e:j=i
     . subst e;exact λh=>hb h.symm
     . exact hn j Za
 . have hin:i=n:=Za
   refine⟨(),Zd,?_,rfl⟩
   exact congrArg (λb=>ZG (Zt (ZbP (.bool b)))) (show false=hasF (λj=>z j 0) x n 0 by rw[QnD n 0 (λj _ hj=>hn j Za)])
end
end Go.Proofs.YtlafaaeecnifcaaGreatDoor
