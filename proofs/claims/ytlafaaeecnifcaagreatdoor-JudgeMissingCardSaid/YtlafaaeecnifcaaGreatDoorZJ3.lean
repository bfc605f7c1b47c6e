/- What the proof leans on, gathered. -/
import Derived.Test.YtlafaaeecnifcaaGreatDoorProg
import Derived.Test.YtlafaaeecnifcaaGreatDoorShl
import Derived.Shelf.Spec.SlicesInsertGrow
import Derived.Test.YtlafaaeecnifcaaGreatDoorZJ2
namespace Go.Proofs.YtlafaaeecnifcaaGreatDoor
open And renaming intro->ZcU
open BinOp renaming and->ZcW,or->ZdO
open Bool renaming and_false->ZaI,true_and->ZbM,and_self->ZbN,not_true->Zca
open Builtin renaming zeroCells->Zan
open Con renaming mem->ZH,pure->YE
open GamOk renaming nil->Za2
open Int renaming toNat->Zh,toNat_natCast->Zv,eq_ofNat_of_zero_le->Z6,tdiv->Z7,tmod_eq_emod_of_nonneg->YR,tmod->YT,tdiv_eq_ediv_of_nonneg->Zax,fdiv->ZbO
open IntKind renaming wrap->Zi,signed->ZaK,bits->Za4
open List renaming length->Zg,get?Internal->Zl,getD_eq_getElem?_getD->Zp,length_append->Zw,getElem?_eq_getElem->Zy,mem_cons_self->ZC,length_map->ZN,getElem?_take->ZO,getElem?_eq_none->ZU,take->ZY,map_cons->Z4,getElem?_map->Ya,append_assoc->Yb,length_cons->Yf,take_of_length_le->Yn,nil_append->YA,replicate->YH,mem_singleton->Y0,take_append_of_le_length->Zam,map_nil->Zar,length_eraseIdx->Zau,take_take->ZaJ,length_set->ZbQ,take_zero->ZbZ
open NZ renaming tmp->ZdF
open Nat renaming le_refl->Zq,zero_add->Zu,beq->ZE,ble->ZL,not_lt_zero->ZP,le_trans->ZV,zero_le->Z9,sub_self->Ye,succ->Yg,lt_or_ge->Yy,min_eq_left->YM,le_of_eq->Zae,mul_comm->ZaE,zero_mul->ZaF,sub_zero->ZaQ,beq_refl->Zbk,two_pow_add_eq_or_of_lt->Zbt,mul_one->Zbx,add_comm->Zb0,sub_le->Zc0
open ObjForm renaming list->Zco
open PCon renaming out->Zby
open Prod renaming fst->ZJ,snd->Yx
open Rec renaming words->Zai,ofW->Zb3,done->Zch,words_len->Zdz
open RecW renaming of->Zex
open SA renaming c->Zt,a->Zz,den->Y2
open SB renaming cells->Zj,rows->Zk,gone->ZB
open SV renaming o->ZG,t->ZS,den->Zci
open Value renaming int->ZA,nilIface->ZM,cells->Zad
set_option linter.unusedVariables false
set_option maxRecDepth 100000
set_option maxHeartbeats 8000000
section
structure Wk where
 th:Nat
 does:Int
 k:Int
 key:Int
 x:Int
 tog:Int
 said:Bool
 i:Int
 v:Int
 r:Nat->Int
 asks:List Ask
 deeds:List Dd
 seen:Nat->Int
 oc:Int
 ov:Int
 whn:Int
def Qr (v:Int):Nat:=8+32*(v%2).toNat
def Wk.next (w:Wk) (n does:Int):Wk:=if w.i+1=n then { w with i:=0,does:=does } else { w with i:=w.i+1 }
def QmP (f:Nat->Int):Rec:=Zb3 (toN 32 f)
def Wk.all (w:Wk):Wk:=
 if w.does=8 then
  let q:=bDo (QmP w.r) w.asks
  { w with r:=fL q.words,deeds:=bD (QmP w.r) w.asks,oc:=fL q.words (18+w.th)/4294967296%4294967296,ov:=fL q.words (18+w.th)%4294967296,whn:=fL q.words (22+w.th) }
 else w
def Xo (l:List Ask) (k key x:Int):List Ask:=l.dropLast++[⟨(l.getLastD Ask.nil).t,(l.getLastD Ask.nil).g,k,key,x⟩]
theorem QbB (l:List Ask) (a:Ask) (k key x:Int):Xo (l++[a]) k key x=l++[⟨a.t,a.g,k,key,x⟩]:=by
 unfold Xo
 rw[List.dropLast_concat,List.getLastD_concat]
def Wk.sim (a b:Wk):Prop:={ a with r:=b.r }=b/\toN 32 a.r=toN 32 b.r
theorem Wk.sim_rfl (a:Wk):a.sim a:=⟨rfl,rfl⟩
def Wk.allOK (w:Wk):Prop:=AsksOK w.asks/\w.asks.length<=4/\∃q,RecOK 1099511000000 q/\q.ver<1000000000/\toN 32 w.r=q.words
theorem Qpk {B:Int}{q:Rec}(h:RecOK B q) (hB:B<=1099511627776) {f:Nat->Int}(hf:toN 32 f=q.words) (t:Nat) (ht:t<4):
 U64 (f (18+t))/\0<=f (22+t)/\f (22+t)<=9223372036854775807/\(Xc (f (18+t)/4294967296%4294967296) (f (18+t)%4294967296)=false->f (18+t)=0/\f (22+t)=0):=by
 have e (i:Nat) (hi:i<32):f i=fL q.words i:=by rw[<- hf,Qe3 hi]
 have h3:=QgG h hB t ht
 rw[<- e (18+t) Za,<- e (22+t) Za]at h3
 refine⟨h3.1,h3.2.1,h3.2.2,λhn=>?_⟩
 have e1:f (18+t)=q.ans.getD t 0:=(e (18+t) Za).trans (Qg3 h t ht)
 have e2:f (22+t)=q.whn.getD t 0:=(e (22+t) Za).trans (Qg2 h t ht)
 rcases h.each t ht with h1|⟨⟨c,v,ha,hw⟩,-,-⟩
 . rw[e1,e2];exact h1
 . have hc:=Qeq ha
   rw[e1,hw,hc.1,hc.2.1,(Qb6 _ _).2 ha]at hn
   cases hn
theorem Qj6 {B:Int}{q:Rec}(h:RecOK B q) (hB:B<=1099511627776) {f:Nat->Int}(hf:toN 32 f=q.words):QmP f=q:=(Zex h hB hf).2
theorem Wk.all_not {w:Wk}(h:w.does≠8):w.all=w:=by unfold Wk.all;rw[Ze h]
structure WSt where
 w:Wk
 m:Nat->Int
 s:Sto
def Q1 (z:WSt):WSt × Bool:=
 if z.w.does=17 then ({ z with w:={ z.w with v:=z.m 1,does:=18 } },false)
 else if z.w.does=18 then ({ z with w:={ z.w with seen:=putF z.w.seen 0 (z.s.now (Qr z.w.v+26)),does:=19 } },false)
 else if z.w.does=19 then ({ z with w:={ z.w with seen:=putF z.w.seen 1 (z.s.now (Qr z.w.v+18+z.w.th)),does:=20 } },false)
 else if z.w.does=20 then ({ z with w:={ z.w with seen:=putF z.w.seen 2 (z.s.now (Qr z.w.v+22+z.w.th)),does:=21 } },false)
 else
  (if z.m 1=z.w.v/\Qp (z.w.seen 0) z.w.th=z.w.tog then ({ z with w:={ z.w with oc:=z.w.seen 1/4294967296%4294967296,ov:=z.w.seen 1%4294967296,whn:=z.w.seen 2,does:=0 } },true)
   else ({ z with w:={ z.w with does:=if z.w.said then 3 else 1 } },false))
theorem Qit (z:WSt) (h:z.w.does=21):Q1 z=(if z.m 1=z.w.v/\Qp (z.w.seen 0) z.w.th=z.w.tog then ({ z with w:={ z.w with oc:=z.w.seen 1/4294967296%4294967296,ov:=z.w.seen 1%4294967296,whn:=z.w.seen 2,does:=0 } },true)
 else ({ z with w:={ z.w with does:=if z.w.said then 3 else 1 } },false)):=by
 unfold Q1
 rw[Ze (by rw[h];decide),Ze (by rw[h];decide),Ze (by rw[h];decide),Ze (by rw[h];decide)]
def QaP (z:WSt):WSt × Bool:=
 if z.w.does=14 then ({ z with m:=putF z.m 1 (z.w.v+1),w:={ z.w with does:=15 } },false)
 else if z.w.does=15 then ({ z with m:=putF z.m 0 0,w:={ z.w with does:=16 } },false)
 else ({ z with w:={ z.w with does:=0 } },true)
def sayP (z:WSt):WSt:=
 if z.w.does=1 then { z with m:=putF z.m (2+2*z.w.th) (opW z.w.k z.w.key z.w.x),w:={ z.w with does:=2 } }
 else if z.w.does=2 then { z with m:=putF z.m (3+2*z.w.th) (z.w.tog+1),w:={ z.w with said:=true,does:=3 } }
 else (if z.m 0=0 then { z with m:=putF z.m 0 (z.w.th+1),w:={ z.w with does:=4 } } else { z with w:={ z.w with does:=17 } })
theorem say3 (z:WSt) (h:z.w.does=3):sayP z=(if z.m 0=0 then { z with m:=putF z.m 0 (z.w.th+1),w:={ z.w with does:=4 } } else { z with w:={ z.w with does:=17 } }):=by
 unfold sayP
 rw[Ze (by rw[h];decide),Ze (by rw[h];decide)]
def XK (z:WSt):WSt:=
 if z.w.does=8 then { z with s:=z.s.save (Qr (z.w.v+1)+z.w.i.toNat) (z.w.r z.w.i.toNat),w:=Wk.next z.w 32 9 }
 else if z.w.does=9 then { z with s:=z.s.flush z.w.th (Qr (z.w.v+1)/8+z.w.i.toNat),w:=Wk.next z.w 4 10 }
 else if z.w.does=10 then { z with s:=z.s.fence z.w.th,w:={ z.w with does:=11 } }
 else if z.w.does=11 then { z with s:=z.s.save 0 (z.w.v+1),w:={ z.w with does:=12 } }
 else if z.w.does=12 then { z with s:=z.s.flush z.w.th 0,w:={ z.w with does:=13 } }
 else { z with s:=z.s.fence z.w.th,w:={ z.w with does:=14 } }
def Qat (z:WSt):WSt:=
 if z.w.does=4 then { z with w:={ z.w with v:=z.m 1,i:=0,does:=5,asks:=[] } }
 else if z.w.does=5 then { z with w:=Wk.next { z.w with r:=putF z.w.r z.w.i.toNat (z.s.now (Qr z.w.v+z.w.i.toNat)) } 32 6 }
 else if z.w.does=6 then
  (if z.m (3+2*z.w.i.toNat)≠0/\z.m (3+2*z.w.i.toNat)-1≠Qp (z.w.r 26) z.w.i.toNat then { z with w:={ z.w with asks:=z.w.asks++[⟨z.w.i.toNat,z.m (3+2*z.w.i.toNat)-1,0,0,0⟩],does:=7 } }
   else { z with w:=(Wk.next z.w 4 8).all })
 else { z with w:=(Wk.next { z.w with asks:=Xo z.w.asks (z.m (2+2*z.w.i.toNat)/281474976710656%65536) (z.m (2+2*z.w.i.toNat)/4294967296%65536) (z.m (2+2*z.w.i.toNat)%4294967296),does:=6 } 4 8).all }
def Qe (z:WSt):WSt × Bool:=
 if z.w.does=0 then (z,false)
 else if z.w.does<=3 then (sayP z,false)
 else if z.w.does<=7 then (Qat z,false)
 else if z.w.does<=13 then (XK z,false)
 else if z.w.does<=16 then QaP z
 else Q1 z
def Wk.call (th:Nat) (k key x tog:Int) (again:Bool):Wk:=⟨th,bif again then 17 else 1,k,key,x,tog,false,0,0,λ_=>0,[],[],λ_=>0,0,0,0⟩
end
section
open Go.RowKit
structure WkS where
 w:Wk
 ma:Nat
 ca:Nat
 na:Bool
 za:Nat->Nat->Int
 md:Nat
 cd:Nat
 nd:Bool
 zd:Nat->Nat->Int
abbrev wkA (m c:Nat) (z:Nat->Nat->Int):SB:=.rows 198 [.int .i64,.int .i64,.int .i64,.int .i64,.int .i64] 5 m c z
abbrev wkD (m c:Nat) (z:Nat->Nat->Int):SB:=.rows 36 [.int .i64,.int .i64,.int .i64,.int .i64,.int .i64,.int .i64] 6 m c z
abbrev wkC (x y:Nat) (w:Wk) (ca:Nat) (na:Bool) (cd:Nat) (nd:Bool):SB:=.cells [.one (.v (.int .i64 w.th)),.one (.v (.int .i64 w.does)),.one (.v (.int .i64 w.k)),.one (.v (.int .i64 w.key)),.one (.v (.int .i64 w.x)),.one (.v (.int .i64 w.tog)),.one (.v (.bool w.said)),.one (.v (.int .i64 w.i)),.one (.v (.int .u64 w.v)),.ints (.int .u64) 32 w.r,.one (.so x 0 5 w.asks.length ca na),.one (.so y 0 6 w.deeds.length cd nd),.ints (.int .u64) 3 w.seen,.one (.v (.int .i64 w.oc)),.one (.v (.int .i64 w.ov)),.one (.v (.int .i64 w.whn))] 108
def Qcx:List SA->List SB->Option (List Nat):=λargs M=>match blkA args with
 |b::r=>match getB M b with
  |.cells l _=>match segGet l 41,segGet l 42 with
   |some (.so x _ _ _ _ _),some (.so y _ _ _ _ _)=>some ((b::r)++[x,y])
   |_,_=>none
  |_=>none
 |_=>none
def XA:PCon:=⟨λargs=>match args with
 |[.c (.v (.int .u64 v))]=>0<=v/\v<18446744073709551616
 |_=>False,λargs=>match args with
 |[.c (.v (.int .u64 v))]=>sv (.int .i64 (Qr v:Nat))
 |_=>sv undef,λ_=>none⟩
theorem XB:(YE XA).holds Tryz.prog 95:=by
 refine QE (Γ:=[]) Tryz.func95 rfl Zc Qf Qc (λ_=>.nil _ _ _) XA (λ_=>[]) 400 ?_
 intro W args hp
 unfold XA at hp;dsimp only at hp;split at hp
 case h_2=>exact hp.elim
 rename_i v
 obtain⟨h0,h1⟩:=hp
 refine⟨rfl,?_⟩
 refine Qk (q:=(2:Int)≠(0:Int)/\(8:Int)≠(0:Int)/\endP XA [aU v] (ZG (aI (Zi .i64 (Zi .i64 ((1:Int)+Zi .i64 (Z7 (Zi .i64 (Zi .i64 (YT v (2:Int))*(32:Int))) (8:Int)))*(8:Int))))) []) Zc ?_
 have e:Zi .i64 (Zi .i64 (1+Zi .i64 (Z7 (Zi .i64 (Zi .i64 (YT v 2)*32)) 8))*8)=((Qr v:Nat):Int):=by
  unfold Qr
  rw[YR h0]
  rcases (show v%2=0\/v%2=1 by omega)with h|h<;>(rw[h];rfl)
 rw[e]
 exact⟨Zb,Zb,rfl,λρ=>rfl⟩
structure WnS where
 s:WkS
 n:Int
 d:Int
def Qau:MCon:=dcon WnS (λs=>0<=s.s.w.i/\s.s.w.i<1000) (λs=>[.c (.p 0 0),.c (.v (.int .i64 s.n)),.c (.v (.int .i64 s.d))]) (λs=>[wkC 1 2 s.s.w s.s.ca s.s.na s.s.cd s.s.nd,wkA s.s.ma s.s.ca s.s.za,wkD s.s.md s.s.cd s.s.zd])
 (λs=>.t []) (λs=>[wkC 1 2 (s.s.w.next s.n s.d) s.s.ca s.s.na s.s.cd s.s.nd,wkA s.s.ma s.s.ca s.s.za,wkD s.s.md s.s.cd s.s.zd]) 3 Qcx
theorem QaH:(ZH Qau).holds Tryz.prog 96:=by
 intro w0 S
 refine Qa (Γ:=[]) (λ_=>noW) Tryz.func96 rfl Zc Qf Qc (λw S' _ _=>.nil _ _ _) Qau (λ_=>[]) (λx0 h s x=>⟨rfl,Zd⟩) (λs ρ w _ _ _=>Qj w _) [] (Qi 3) 400 ?_
 rintro⟨⟨w,ma,ca,na,za,md,cd,nd,zd⟩,n,d⟩ W ⟨h0,h1⟩ -
 refine⟨rfl,?_⟩
 dsimp only at h0 h1
 refine Qk (q:=bif Zi .i64 (w.8+(1:Int))==n then endN Qau [] (Qi 3) (WnS.mk (WkS.mk w ma ca na za md cd nd zd) n d) (ZS []) [Zj [sI (↑w.1:Int),sI d,sI w.3,sI w.4,sI w.5,sI w.6,sB w.7,sI 0,sU w.9,nU 32 w.10,sS 1 0 5 (Zg w.11) ca na,sS 2 0 6 (Zg w.12) cd nd,nU 3 w.13,sI w.14,sI w.15,sI w.16] 108,wkA ma ca za,wkD md cd zd]else endN Qau [] (Qi 3) (WnS.mk (WkS.mk w ma ca na za md cd nd zd) n d) (ZS []) [Zj [sI (↑w.1:Int),sI w.2,sI w.3,sI w.4,sI w.5,sI w.6,sB w.7,sI (Zi .i64 (w.8+(1:Int))),sU w.9,nU 32 w.10,sS 1 0 5 (Zg w.11) ca na,sS 2 0 6 (Zg w.12) cd nd,nU 3 w.13,sI w.14,sI w.15,sI w.16] 108,wkA ma ca za,wkD md cd zd]) Zc ?_
 have e:Zi .i64 (w.i+1)=w.i+1:=Qx Za Za
 show bif Zi .i64 (w.i+1)==n then _ else _
 rw[e]
 refine QP (λh=>⟨(),Zd,rfl,?_⟩) (λh=>⟨(),Zd,rfl,?_⟩)
 . show _=[wkC 1 2 (w.next n d) ca na cd nd,_,_]
   rw[show w.next n d={ w with i:=0,does:=d } from Zf h];rfl
 . show _=[wkC 1 2 (w.next n d) ca na cd nd,_,_]
   rw[show w.next n d={ w with i:=w.i+1 } from Ze h];rfl
abbrev Qaq (n c:Nat) (z:Nat->Nat->Int):SB:=.rows 3 [.int .i64] 1 n c z
abbrev opA (a b c:Int):SA:=.a [.one (.v (.int .i64 a)),.one (.v (.int .i64 b)),.one (.v (.int .i64 c))]
abbrev ansA (a b:Int):SA:=.a [.one (.v (.int .i64 a)),.one (.v (.int .i64 b))]
structure CloS where
 lo:Nat
 n:Nat
 m:Nat
 c:Nat
 nn:Bool
 z:Nat->Nat->Int
structure CloR where
 c:Nat
 nn:Bool
 z:Nat->Nat->Int
def Qa5:RCon where
 σ:=CloS
 χ:=CloR
 pre s:=s.lo+s.n<=s.m/\s.n<=1000
 args s:=[.c (.so 0 s.lo 1 s.n s.c s.nn)]
 mem s:=[Qaq s.m s.c s.z]
 ok s x:=s.n<=x.c/\((s.c.beq 0 && !s.nn)=true->x.nn=false/\x.c=0)/\∀i,i<s.n->x.z i 0=s.z (s.lo+i) 0
 val s x:=.o (.c (.so 1 0 1 s.n x.c x.nn))
 new s x:=[Qaq s.n x.c x.z]
 len:=1
 det:=none
 find args M:=some (blkA args)
def rp1:SV->List SB->List Nat:=λx M=>match x with
 |.o (.c (.so b _ _ _ _ _))=>[b]
 |_=>[]
theorem Qek:(Con.rd Qa5).holds Tryz.prog 76:=by
 intro w0 S
 refine QfN (AG:=[]) (Γ:=[]) Tryz.func76 rfl Zc Qf Qc (λ_ _=>.nil _ _ _) Qa5 (λx0 h=>by cases h) [.tmp 0 3 1 [.int .i64]] rp1 200 ?_
 rintro⟨lo,n,m,c,nn,z⟩ ρ w ⟨h0,h2⟩-hM
 dsimp only at h0 h2
 have hrow:RowAt w (ρ 0) 3 1 m c (QJ (ckAt [.int .i64]) 1 z m):=hM _ (List.mem_singleton.2 rfl)
 obtain⟨a,c',e1,hr,ha,hnc⟩:=QmF (b:=0) (n:=n) (nn:=nn) (kf:=λ_=>.i64) hrow rfl rfl h0
 refine⟨[.c (.r a n c' n 1 (λ_=>.i64) (λi=>z (lo+i)))],by simp only[Qa5,Z4,Zar,Y2,e1];rfl,rfl,?_⟩
 refine Qk (q:=bif Option.isNone a then endD Qa5 [ZdF 0 3 1 [.int .i64]] rp1 (CloS.mk lo n m c nn z) (ZG (Zt (.v (.slice none 0 0)))) []else ((0<=0/\0=0)/\((Rws (TyI.size (TyI.one (ZA .i64 (0:Int)) (Kd.int .i64))) (λ(x:Nat)=>.i64) w a n c' λ(i:Nat)=>z (lo+i))/\n<=n)/\0+n<=68719476736)/\∀(c_1:Nat),0+n<=c_1->endD Qa5 [ZdF 0 3 1 [.int .i64]] rp1 (CloS.mk lo n m c nn z) (ZG (Zt (.so 1 0 1 (0+n) c_1 true))) [ZB,Zk 3 [.int .i64] 1 (0+n) c_1 λ(i j:Nat)=>z (lo+i) j]) Zc ?_
 refine QL (λhc=>?_) (λhc=>⟨⟨⟨Zq _,rfl⟩,⟨hr,Zq _⟩,Za⟩,λc1 hc1=>?_⟩)
 . have hn:n=0:=by
    rw[ha]at hc
    simp only[Bool.and_eq_true]at hc
    have:=Nat.eq_of_beq_eq_true hc.1
    have:=hrow.1
    omega
   subst hn
   exact Qn3 rfl ⟨0,false,λ_ _=>0⟩ ⟨Zq _,λ_=>⟨rfl,rfl⟩,λi (hi:i<0)=>Za⟩ rfl rfl rfl
 . rw[Zu]at hc1 ⊢
   exact Qn3 rfl ⟨c1,true,λi j=>z (lo+i) j⟩ ⟨hc1,(λh=>absurd (h.symm.trans (ha.symm.trans hc)) Zb),λi _=>rfl⟩ rfl rfl rfl
structure LstS where
 l:List Int
 m:Nat
 c:Nat
 nn:Bool
 z:Nat->Nat->Int
 k:Int
 key:Int
 x:Int
structure LstR where
 m:Nat
 c:Nat
 nn:Bool
 z:Nat->Nat->Int
abbrev LstS.pre (s:LstS):Prop:=s.l.length<=6/\(s.l.length<=s.m/\s.m<=s.c)/\IsL s.z s.l/\InR s.l/\(1<=s.k/\s.k<=6)
def QH (F:List Int->Int->Int->List Int × Int × Int):MCon where
 σ:=LstS
 χ:=LstR
 pre s:=s.pre
 args s:=[.c (.so 0 0 1 s.l.length s.c s.nn),opA s.k s.key s.x]
 mem s:=[Qaq s.m s.c s.z]
 ok s x:=((F s.l s.k s.x).1.length<=x.m/\x.m<=x.c)/\IsL x.z (F s.l s.k s.x).1
 val s x:=.t [.c (.so 0 0 1 (F s.l s.k s.x).1.length x.c x.nn),ansA (F s.l s.k s.x).2.1 (F s.l s.k s.x).2.2]
 mem' s x:=[Qaq x.m x.c x.z]
 k:=0
 len:=1
 det:=none
 find args M:=some (blkA args)
abbrev nzL:List NZ:=[.tmp 0 3 1 [.int .i64]]
def rpL:SV->List SB->List Nat:=λx M=>match x with
 |.t (.c (.so b _ _ _ _ _)::_)=>[b]
 |.o (.c (.so b _ _ _ _ _))=>[b]
 |_=>[]
theorem QK (F:List Int->Int->Int->List Int × Int × Int) (s:LstS) (M:List SB) (b n m c:Nat) (nn:Bool) (z:Nat->Nat->Int) (a v:Int) (hM:getB M b=Qaq m c z) (hb:b.blt M.length=true) (hav:Xj (sc M.length) M=true)
 (r:List Int × Int × Int) (hr:F s.l s.k s.x=r) (hn:n=r.1.length) (hm:n<=m) (hc:m<=c) (hz:IsL z r.1) (ha:a=r.2.1) (hv:v=r.2.2):endN (QH F) nzL rpL s (.t [.c (.so b 0 1 n c nn),ansA a v]) M:=by
 subst hr hn ha hv
 refine Ql (x':=.t [.c (.so b 0 1 (F s.l s.k s.x).1.length c nn),ansA (F s.l s.k s.x).2.1 (F s.l s.k s.x).2.2]) (M':=M) ?_ ⟨m,c,nn,z⟩ ⟨⟨hm,hc⟩,hz⟩ ?_ rfl ?_
 . have h1:(Xj (sc M.length) M&&QaN (sc M.length) (svL (.t [.c (.so b 0 1 (F s.l s.k s.x).1.length c nn),ansA (F s.l s.k s.x).2.1 (F s.l s.k s.x).2.2])))=true:=by
    rw[hav];simp only[svL,QaN,SA.av,SC.av,sc,hb,QS,ZbN]
   simp only[nrmR,h1,cond_true];rfl
 . have h2:QaZ M.length [b]=true:=by simp only[QaZ,hb,ZbN]
   show (nodB [b]&&QaZ M.length [b]&&true&&true&&true&&true)=true
   rw[h2];rfl
 . show [getB M b]=_
   rw[hM];rfl
theorem Qnd (F:List Int->Int->Int->List Int × Int × Int) (s:LstS) (M:List SB) (a v:Int) (hav:Xj (sc M.length) M=true)
 (r:List Int × Int × Int) (hr:F s.l s.k s.x=r) (hn:r.1=[]) (ha:a=r.2.1) (hv:v=r.2.2):endN (QH F) nzL rpL s (.t [.c (.v (.slice none 0 0)),ansA a v]) M:=by
 subst hr ha hv
 have hl:(QW M [(M.length,.rows 3 [.int .i64] 1 0 0 (λ_ _=>0))]).length=M.length+1:=(QdV _ M M.length).2.2 rfl
 refine Ql (x':=.t [.c (.so M.length 0 1 0 0 false),ansA (F s.l s.k s.x).2.1 (F s.l s.k s.x).2.2]) (M':=QW M [(M.length,.rows 3 [.int .i64] 1 0 0 (λ_ _=>0))]) ?_ ⟨0,0,false,λ_ _=>0⟩ ⟨⟨by rw[hn];exact Zq _,Zq _⟩,λi hi=>by rw[hn]at hi;exact absurd hi (by simp)⟩ ?_ ?_ ?_
 . have h1:(Xj (sc M.length) M&&QaN (sc M.length) (svL (.t [.c (.v (.slice none 0 0)),ansA (F s.l s.k s.x).2.1 (F s.l s.k s.x).2.2])))=true:=by
    rw[hav];rfl
   simp only[nrmR,h1,cond_true];rfl
 . have h2:QaZ (QW M [(M.length,.rows 3 [.int .i64] 1 0 0 (λ_ _=>0))]).length [M.length]=true:=by rw[hl];simp[QaZ,Nat.blt]
   show (nodB [M.length]&&QaZ (QW M [(M.length,.rows 3 [.int .i64] 1 0 0 (λ_ _=>0))]).length [M.length]&&true&&true&&true&&true)=true
   rw[h2];rfl
 . show ZS [.c (.so M.length 0 1 0 0 false),ansA _ _]=ZS [.c (.so M.length 0 1 (F s.l s.k s.x).1.length 0 false),ansA _ _]
   rw[hn];rfl
 . show [getB (putB M M.length _) M.length]=[Zk 3 [.int .i64] 1 0 0 (λ_ _=>0)]
   rw[QaI]
theorem catT {i n:Nat}{a b:Int}(h:i<n):(bif ZL (i+1) n then a else b)=a:=by
 rw[show ZL (i+1) n=true from Nat.ble_eq_true_of_le h];rfl
theorem catF {n:Nat}{a b:Int}:(bif ZL (n+1) n then a else b)=b:=by
 cases h:ZL (n+1) n
 . rfl
 . exact absurd (Nat.le_of_ble_eq_true h) Za
theorem len0 {l:List Int}(h:((l.length:Int)==(0:Int))=true):l=[]:=List.length_eq_zero_iff.1 (by have:=eq_of_beq h;omega)
theorem lenP {l:List Int}(h:((l.length:Int)==(0:Int))=false):0<l.length:=by
 have:¬(l.length:Int)=0:=by simpa using h
 omega
theorem QmT:(ZH (QH queR)).holds Tryz.prog 57:=by
 intro w0 S
 refine Qc4 (AG:=[]) (Γ:=[(76,.rd Qa5)]) (λ_=>noW) Tryz.func57 rfl Zc Qf Qc (λw S' _ _=>.cons (Qek w S') (.nil _ _ _)) (QH queR) (λx0 h=>by cases h) (λs ρ w _ _ _=>Qj w _)
  nzL rpL 400 ?_
 rintro⟨l,m,c,nn,z,k,key,x⟩ w ⟨h1,⟨h2m,h2c⟩,h4,h5,h6⟩ -
 refine⟨rfl,?_⟩
 dsimp only at h1 h2m h2c h4 h5 h6
 have h2:=ZV h2m h2c
 have hs:0+l.length<=m/\l.length<=1000:=⟨Za,Za⟩
 have hk:k=1\/k=2\/k=3\/k=4\/k=5\/k=6:=Za
 rcases hk with rfl|rfl|rfl|rfl|rfl|rfl
 ·
  refine Qk (q:=Zg l<=c/\bif decide ((↑(Zg l):Int)>=(6:Int))then ∃(s:CloS),[Zt (.so 0 0 1 (Zg l) c nn)]=[Zt (.so 0 s.1 1 s.2 s.4 s.5)]/\[Zk 3 [.int .i64] 1 m c z]=[Zk 3 [.int .i64] 1 s.3 s.4 s.6]/\(s.1+s.2<=s.3/\s.2<=1000)/\∀(x_1:CloR),(s.2<=x_1.1/\((match ZE s.4 0 with|false=>false|true=>bif s.5 then false else true)=true->x_1.2=false/\x_1.1=0)/\∀(i:Nat),i<s.2->x_1.3 i 0=s.6 (s.1+i) 0)->endN (QH queR) nzL rpL (LstS.mk l m c nn z (1:Int) key x) (ZS [Zt (.so 3 0 1 s.2 x_1.1 x_1.2),Zz [sI 3,sI 0]]) [Zk 3 [.int .i64] 1 m c z,Zj [sI 1,sI key,sI x] 34,Zj [sI 3,sI 0] 24,Zk 3 [.int .i64] 1 s.2 x_1.1 x_1.3]else dP Tryz.f57 5 3 [⟨1,[0],[4],[],true⟩,xE 6,⟨4,[],[3],[3],false⟩,xR 3 1,xF 2 1,xF 0 0]/\∃(s:CloS),[Zt (.so 0 0 1 (Zg l) c nn)]=[Zt (.so 0 s.1 1 s.2 s.4 s.5)]/\[Zk 3 [.int .i64] 1 m c z]=[Zk 3 [.int .i64] 1 s.3 s.4 s.6]/\(s.1+s.2<=s.3/\s.2<=1000)/\∀(x_1:CloR),(s.2<=x_1.1/\((match ZE s.4 0 with|false=>false|true=>bif s.5 then false else true)=true->x_1.2=false/\x_1.1=0)/\∀(i:Nat),i<s.2->x_1.3 i 0=s.6 (s.1+i) 0)->dP Tryz.f57 5 3 [⟨5,[3],[4,5],[],true⟩,⟨1,[0],[4],[4],true⟩,xE 6,⟨4,[],[3],[3],false⟩,xR 3 1,xF 2 1,xF 0 0]/\((s.2<=s.2/\x_1.1=x_1.1)/\(1<=1/\1=1)/\s.2+1<=68719476736)/\∀(c_1:Nat),s.2+1<=c_1->dP Tryz.f57 5 3 [⟨8,[],[2],[],false⟩,xF 7 5,⟨5,[3],[4,5],[5],true⟩,⟨1,[0],[4],[4],true⟩,xE 6,⟨4,[],[3],[3],false⟩,xR 3 1,xF 2 1,xF 0 0]/\endN (QH queR) nzL rpL (LstS.mk l m c nn z (1:Int) key x) (ZS [Zt (.so 5 0 1 (s.2+1) c_1 x_1.2),Zz [sI 1,sI 0]]) [Zk 3 [.int .i64] 1 m c z,Zj [sI 1,sI key,sI x] 34,Zj [sI 1,sI 0] 24,Zk 3 [.int .i64] 1 1 1 λ(i j:Nat)=>match Zl (match Zl [[x]] i with|some x=>x|none=>[]) j with|some x=>x|none=>(0:Int),ZB,Zk 3 [.int .i64] 1 (s.2+1) c_1 λ(i j:Nat)=>bif ZL (i+1) s.2 then x_1.3 i j else match Zl (match Zl [[x]] (0+(i-s.2))with|some x=>x|none=>[]) j with|some x=>x|none=>(0:Int)]) Zc ?_
  refine⟨h2,QL (λh=>?_) (λh=>?_)⟩
  . have h:=of_decide_eq_true h
    have e:queR l 1 x=(l,3,0):=by unfold queR;rw[Zf rfl,Zf Za]
    exact⟨⟨0,l.length,m,c,nn,z⟩,rfl,rfl,hs,λy hy=>QK _ _ _ _ _ _ _ _ _ _ _ rfl rfl rfl _ e rfl (Zq _) hy.1 (h4.sub λi hi=>(hy.2.2 i hi).trans (by rw[Zu])) rfl rfl⟩
  . have h:=of_decide_eq_false h
    have e:queR l 1 x=(l++[x],1,0):=by unfold queR;rw[Zf rfl,Ze Za]
    refine⟨Qd Zc,⟨0,l.length,m,c,nn,z⟩,rfl,rfl,hs,λy hy=>⟨Qd Zc,⟨⟨Zq _,rfl⟩,⟨Zq _,rfl⟩,by dsimp only;omega⟩,λc' hc'=>⟨Qd Zc,?_⟩⟩⟩
    exact QK _ _ _ _ _ _ _ _ _ _ _ rfl rfl rfl _ e (by simp) (Zq _) hc' ((h4.snoc (λi hi=>(catT hi).trans ((hy.2.2 i hi).trans (by rw[Zu]))) (catF.trans (by rw[Ye];rfl)))) rfl rfl
 ·
  refine Qk (q:=Zg l<=c/\bif (↑(Zg l):Int)==(0:Int)then endN (QH queR) nzL rpL (LstS.mk l m c nn z (2:Int) key x) (ZS [Zt (.v (.slice none 0 0)),Zz [sI 2,sI 0]]) [Zk 3 [.int .i64] 1 m c z,Zj [sI 2,sI key,sI x] 34,Zj [sI 2,sI 0] 24]else ((0:Int)<=(1:Int)/\(1:Int)<=(↑(Zg l):Int)/\(↑(Zg l):Int)<=(↑c:Int)/\(0=0\/(1:Int)<(↑c:Int)))/\((0:Int)<=(0:Int)/\(0:Int)<(↑(Zg l):Int)/\0+Zg l<=c)/\0<m/\dP Tryz.f57 12 3 [⟨2,[0],[3],[],true⟩,xE 6,xR 5 0,xF 4 0,xF 3 0,xF 1 0,xF 0 0]/\∃(s:CloS),[Zt (.so 0 1 1 (match Zh (↑(Zg l):Int)with|0=>0|Yg a=>a) c nn)]=[Zt (.so 0 s.1 1 s.2 s.4 s.5)]/\[Zk 3 [.int .i64] 1 m c z]=[Zk 3 [.int .i64] 1 s.3 s.4 s.6]/\(s.1+s.2<=s.3/\s.2<=1000)/\∀(x_1:CloR),(s.2<=x_1.1/\((match ZE s.4 0 with|false=>false|true=>bif s.5 then false else true)=true->x_1.2=false/\x_1.1=0)/\∀(i:Nat),i<s.2->x_1.3 i 0=s.6 (s.1+i) 0)->dP Tryz.f57 12 3 [⟨8,[],[2],[],false⟩,xF 7 3,⟨2,[0],[3],[3],true⟩,xE 6,xR 5 0,xF 4 0,xF 3 0,xF 1 0,xF 0 0]/\endN (QH queR) nzL rpL (LstS.mk l m c nn z (2:Int) key x) (ZS [Zt (.so 3 0 1 s.2 x_1.1 x_1.2),Zz [sI 1,sI (z 0 0)]]) [Zk 3 [.int .i64] 1 m c z,Zj [sI 2,sI key,sI x] 34,Zj [sI 1,sI (z 0 0)] 24,Zk 3 [.int .i64] 1 s.2 x_1.1 x_1.3]) Zc ?_
  refine⟨h2,QL (λh=>?_) (λh=>?_)⟩
  . have h:=len0 h
    subst h
    exact Qnd _ _ _ _ _ rfl _ rfl rfl rfl rfl
  . have h:=lenP h
    have e:queR l 2 x=(l.tail,1,l.getD 0 0):=by unfold queR;rw[Ze Zb,Zf (.inl rfl),Ze Za,Ze Zb]
    refine⟨⟨Zb,Za,Za,.inl rfl⟩,⟨Zb,Za,Za⟩,(by omega:0<m),Qd Zc,⟨1,l.length-1,m,c,nn,z⟩,by rw[Zv];rfl,rfl,(show 1+(l.length-1)<=m/\l.length-1<=1000 from⟨Za,Za⟩),λy hy=>⟨Qd Zc,?_⟩⟩
    refine QK _ _ _ _ _ _ _ _ _ _ _ rfl rfl rfl _ e (by simp) (Zq _) hy.1 (λi hi=>?_) rfl (h4 0 h)
    have hi:i<l.length-1:=by simpa using hi
    refine (hy.2.2 i hi).trans ((h4 (1+i) Za).trans ?_)
    cases l with
    |nil=>simp at h
    |cons a r=>simp[Zb0 1 i]
 ·
  refine Qk (q:=∃(s:CloS),[Zt (.so 0 0 1 (Zg l) c nn)]=[Zt (.so 0 s.1 1 s.2 s.4 s.5)]/\[Zk 3 [.int .i64] 1 m c z]=[Zk 3 [.int .i64] 1 s.3 s.4 s.6]/\(s.1+s.2<=s.3/\s.2<=1000)/\∀(x_1:CloR),(s.2<=x_1.1/\((match ZE s.4 0 with|false=>false|true=>bif s.5 then false else true)=true->x_1.2=false/\x_1.1=0)/\∀(i:Nat),i<s.2->x_1.3 i 0=s.6 (s.1+i) 0)->endN (QH queR) nzL rpL (LstS.mk l m c nn z (3:Int) key x) (ZS [Zt (.so 3 0 1 s.2 x_1.1 x_1.2),Zz [sI 5,sI 0]]) [Zk 3 [.int .i64] 1 m c z,Zj [sI 3,sI key,sI x] 34,Zj [sI 5,sI 0] 24,Zk 3 [.int .i64] 1 s.2 x_1.1 x_1.3]) Zc ?_
  exact⟨⟨0,l.length,m,c,nn,z⟩,rfl,rfl,hs,λy hy=>QK _ _ _ _ _ _ _ _ _ _ _ rfl rfl rfl (l,5,0) rfl rfl (Zq _) hy.1 (h4.sub λi hi=>(hy.2.2 i hi).trans (by rw[Zu])) rfl rfl⟩
 ·
  refine Qk (q:=∃(s:CloS),[Zt (.so 0 0 1 (Zg l) c nn)]=[Zt (.so 0 s.1 1 s.2 s.4 s.5)]/\[Zk 3 [.int .i64] 1 m c z]=[Zk 3 [.int .i64] 1 s.3 s.4 s.6]/\(s.1+s.2<=s.3/\s.2<=1000)/\∀(x_1:CloR),(s.2<=x_1.1/\((match ZE s.4 0 with|false=>false|true=>bif s.5 then false else true)=true->x_1.2=false/\x_1.1=0)/\∀(i:Nat),i<s.2->x_1.3 i 0=s.6 (s.1+i) 0)->endN (QH queR) nzL rpL (LstS.mk l m c nn z (4:Int) key x) (ZS [Zt (.so 3 0 1 s.2 x_1.1 x_1.2),Zz [sI 5,sI 0]]) [Zk 3 [.int .i64] 1 m c z,Zj [sI 4,sI key,sI x] 34,Zj [sI 5,sI 0] 24,Zk 3 [.int .i64] 1 s.2 x_1.1 x_1.3]) Zc ?_
  exact⟨⟨0,l.length,m,c,nn,z⟩,rfl,rfl,hs,λy hy=>QK _ _ _ _ _ _ _ _ _ _ _ rfl rfl rfl (l,5,0) rfl rfl (Zq _) hy.1 (h4.sub λi hi=>(hy.2.2 i hi).trans (by rw[Zu])) rfl rfl⟩
 ·
  refine Qk (q:=Zg l<=c/\bif (↑(Zg l):Int)==(0:Int)then endN (QH queR) nzL rpL (LstS.mk l m c nn z (5:Int) key x) (ZS [Zt (.v (.slice none 0 0)),Zz [sI 2,sI 0]]) [Zk 3 [.int .i64] 1 m c z,Zj [sI 5,sI key,sI x] 34,Zj [sI 2,sI 0] 24]else ((0:Int)<=(0:Int)/\(0:Int)<(↑(Zg l):Int)/\0+Zg l<=c)/\0<m/\dP Tryz.f57 11 3 [⟨1,[0],[3],[],true⟩,xE 5,xR 4 0,xF 3 0,xF 2 0,xF 0 0]/\∃(s:CloS),[Zt (.so 0 0 1 (Zg l) c nn)]=[Zt (.so 0 s.1 1 s.2 s.4 s.5)]/\[Zk 3 [.int .i64] 1 m c z]=[Zk 3 [.int .i64] 1 s.3 s.4 s.6]/\(s.1+s.2<=s.3/\s.2<=1000)/\∀(x_1:CloR),(s.2<=x_1.1/\((match ZE s.4 0 with|false=>false|true=>bif s.5 then false else true)=true->x_1.2=false/\x_1.1=0)/\∀(i:Nat),i<s.2->x_1.3 i 0=s.6 (s.1+i) 0)->dP Tryz.f57 11 3 [⟨7,[],[2],[],false⟩,xF 6 3,⟨1,[0],[3],[3],true⟩,xE 5,xR 4 0,xF 3 0,xF 2 0,xF 0 0]/\endN (QH queR) nzL rpL (LstS.mk l m c nn z (5:Int) key x) (ZS [Zt (.so 3 0 1 s.2 x_1.1 x_1.2),Zz [sI 1,sI (z 0 0)]]) [Zk 3 [.int .i64] 1 m c z,Zj [sI 5,sI key,sI x] 34,Zj [sI 1,sI (z 0 0)] 24,Zk 3 [.int .i64] 1 s.2 x_1.1 x_1.3]) Zc ?_
  refine⟨h2,QL (λh=>?_) (λh=>?_)⟩
  . have h:=len0 h
    subst h
    exact Qnd _ _ _ _ _ rfl _ rfl rfl rfl rfl
  . have h:=lenP h
    have e:queR l 5 x=(l,1,l.getD 0 0):=by unfold queR;rw[Ze Zb,Zf (.inr rfl),Ze Za,Zf rfl]
    refine⟨⟨Zb,Za,Za⟩,(by omega:0<m),Qd Zc,⟨0,l.length,m,c,nn,z⟩,rfl,rfl,hs,λy hy=>⟨Qd Zc,?_⟩⟩
    exact QK _ _ _ _ _ _ _ _ _ _ _ rfl rfl rfl _ e rfl (Zq _) hy.1 (h4.sub λi hi=>(hy.2.2 i hi).trans (by rw[Zu])) rfl (h4 0 h)
 ·
  refine Qk (q:=∃(s:CloS),[Zt (.so 0 0 1 (Zg l) c nn)]=[Zt (.so 0 s.1 1 s.2 s.4 s.5)]/\[Zk 3 [.int .i64] 1 m c z]=[Zk 3 [.int .i64] 1 s.3 s.4 s.6]/\(s.1+s.2<=s.3/\s.2<=1000)/\∀(x_1:CloR),(s.2<=x_1.1/\((match ZE s.4 0 with|false=>false|true=>bif s.5 then false else true)=true->x_1.2=false/\x_1.1=0)/\∀(i:Nat),i<s.2->x_1.3 i 0=s.6 (s.1+i) 0)->Zg l<=c/\endN (QH queR) nzL rpL (LstS.mk l m c nn z (6:Int) key x) (ZS [Zt (.so 3 0 1 s.2 x_1.1 x_1.2),Zz [sI 1,sI (↑(Zg l):Int)]]) [Zk 3 [.int .i64] 1 m c z,Zj [sI 6,sI key,sI x] 34,Zj [sI 1,sI (↑(Zg l):Int)] 24,Zk 3 [.int .i64] 1 s.2 x_1.1 x_1.3]) Zc ?_
  exact⟨⟨0,l.length,m,c,nn,z⟩,rfl,rfl,hs,λy hy=>⟨h2,QK _ _ _ _ _ _ _ _ _ _ _ rfl rfl rfl (l,1,(l.length:Int)) rfl rfl (Zq _) hy.1 (h4.sub λi hi=>(hy.2.2 i hi).trans (by rw[Zu])) rfl rfl⟩⟩
theorem lenW {n:Nat}(h:n<=1000):Zi .i64 ((n:Int)-1)=(n:Int)-1:=by
 simp only[Zi,Za4,ZaK];simp;omega
theorem QmD:(ZH (QH stkR)).holds Tryz.prog 58:=by
 intro w0 S
 refine Qc4 (AG:=[]) (Γ:=[(76,.rd Qa5)]) (λ_=>noW) Tryz.func58 rfl Zc Qf Qc (λw S' _ _=>.cons (Qek w S') (.nil _ _ _)) (QH stkR) (λx0 h=>by cases h) (λs ρ w _ _ _=>Qj w _)
  nzL rpL 400 ?_
 rintro⟨l,m,c,nn,z,k,key,x⟩ w ⟨h1,⟨h2m,h2c⟩,h4,h5,h6⟩ -
 refine⟨rfl,?_⟩
 dsimp only at h1 h2m h2c h4 h5 h6
 have h2:=ZV h2m h2c
 have hs:0+l.length<=m/\l.length<=1000:=⟨Za,Za⟩
 have hk:k=1\/k=2\/k=3\/k=4\/k=5\/k=6:=Za
 rcases hk with rfl|rfl|rfl|rfl|rfl|rfl
 ·
  refine Qk (q:=∃(s:CloS),[Zt (.so 0 0 1 (Zg l) c nn)]=[Zt (.so 0 s.1 1 s.2 s.4 s.5)]/\[Zk 3 [.int .i64] 1 m c z]=[Zk 3 [.int .i64] 1 s.3 s.4 s.6]/\(s.1+s.2<=s.3/\s.2<=1000)/\∀(x_1:CloR),(s.2<=x_1.1/\((match ZE s.4 0 with|false=>false|true=>bif s.5 then false else true)=true->x_1.2=false/\x_1.1=0)/\∀(i:Nat),i<s.2->x_1.3 i 0=s.6 (s.1+i) 0)->s.2<=x_1.1/\s.2<=x_1.1/\bif decide ((↑s.2:Int)>=(6:Int))then endN (QH stkR) nzL rpL (LstS.mk l m c nn z (1:Int) key x) (ZS [Zt (.so 3 0 1 s.2 x_1.1 x_1.2),Zz [sI 3,sI 0]]) [Zk 3 [.int .i64] 1 m c z,Zj [sI 1,sI key,sI x] 34,Zj [sI 3,sI 0] 24,Zk 3 [.int .i64] 1 s.2 x_1.1 x_1.3]else ((s.2<=s.2/\x_1.1=x_1.1)/\(1<=1/\1=1)/\s.2+1<=68719476736)/\∀(c_1:Nat),s.2+1<=c_1->endN (QH stkR) nzL rpL (LstS.mk l m c nn z (1:Int) key x) (ZS [Zt (.so 5 0 1 (s.2+1) c_1 x_1.2),Zz [sI 1,sI 0]]) [Zk 3 [.int .i64] 1 m c z,Zj [sI 1,sI key,sI x] 34,Zj [sI 1,sI 0] 24,ZB,Zk 3 [.int .i64] 1 1 1 λ(i j:Nat)=>match Zl (match Zl [[x]] i with|some x=>x|none=>[]) j with|some x=>x|none=>(0:Int),Zk 3 [.int .i64] 1 (s.2+1) c_1 λ(i j:Nat)=>bif ZL (i+1) s.2 then x_1.3 i j else match Zl (match Zl [[x]] (0+(i-s.2))with|some x=>x|none=>[]) j with|some x=>x|none=>(0:Int)]) Zc ?_
  refine⟨⟨0,l.length,m,c,nn,z⟩,rfl,rfl,hs,λy hy=>⟨hy.1,hy.1,QL (λh=>?_) (λh=>?_)⟩⟩
  . have h:l.length>=6:=by have:=of_decide_eq_true h;dsimp only at this;omega
    have e:stkR l 1 x=(l,3,0):=by unfold stkR;rw[Zf rfl,Zf Za]
    exact QK _ _ _ _ _ _ _ _ _ _ _ rfl rfl rfl _ e rfl (Zq _) hy.1 (h4.sub λi hi=>(hy.2.2 i hi).trans (by rw[Zu])) rfl rfl
  . have h:l.length<6:=by have:=of_decide_eq_false h;dsimp only at this;omega
    have e:stkR l 1 x=(l++[x],1,0):=by unfold stkR;rw[Zf rfl,Ze Za]
    refine⟨⟨⟨Zq _,rfl⟩,⟨Zq _,rfl⟩,by dsimp only;omega⟩,λc' hc'=>?_⟩
    exact QK _ _ _ _ _ _ _ _ _ _ _ rfl rfl rfl _ e (by simp) (Zq _) hc' (h4.snoc (λi hi=>(catT hi).trans ((hy.2.2 i hi).trans (by rw[Zu]))) (catF.trans (by rw[Ye];rfl))) rfl rfl
 ·
  refine Qk (q:=∃(s:CloS),[Zt (.so 0 0 1 (Zg l) c nn)]=[Zt (.so 0 s.1 1 s.2 s.4 s.5)]/\[Zk 3 [.int .i64] 1 m c z]=[Zk 3 [.int .i64] 1 s.3 s.4 s.6]/\(s.1+s.2<=s.3/\s.2<=1000)/\∀(x_1:CloR),(s.2<=x_1.1/\((match ZE s.4 0 with|false=>false|true=>bif s.5 then false else true)=true->x_1.2=false/\x_1.1=0)/\∀(i:Nat),i<s.2->x_1.3 i 0=s.6 (s.1+i) 0)->s.2<=x_1.1/\bif decide (Zi .i64 ((↑s.2:Int)-(1:Int))<(0:Int))then endN (QH stkR) nzL rpL (LstS.mk l m c nn z (2:Int) key x) (ZS [Zt (.so 3 0 1 s.2 x_1.1 x_1.2),Zz [sI 2,sI 0]]) [Zk 3 [.int .i64] 1 m c z,Zj [sI 2,sI key,sI x] 34,Zj [sI 2,sI 0] 24,Zk 3 [.int .i64] 1 s.2 x_1.1 x_1.3]else ((0:Int)<=Zi .i64 ((↑s.2:Int)-(1:Int))/\Zi .i64 ((↑s.2:Int)-(1:Int))<=(↑x_1.1:Int))/\((0:Int)<=Zi .i64 ((↑s.2:Int)-(1:Int))/\Zi .i64 ((↑s.2:Int)-(1:Int))<(↑s.2:Int)/\0+s.2<=x_1.1)/\0+Zh (Zi .i64 ((↑s.2:Int)-(1:Int)))<s.2/\dP Tryz.f58 15 4 [⟨9,[],[2],[],false⟩,xF 8 3,xE 7,xR 6 3,xF 5 3,xE 4,xF 3 3,xF 2 3,xE 1,xF 0 3]/\endN (QH stkR) nzL rpL (LstS.mk l m c nn z (2:Int) key x) (ZS [Zt (.so 3 0 1 (Zh (Zi .i64 ((↑s.2:Int)-(1:Int)))) x_1.1 x_1.2),Zz [sI 1,sI (x_1.3 (0+Zh (Zi .i64 ((↑s.2:Int)-(1:Int)))) 0)]]) [Zk 3 [.int .i64] 1 m c z,Zj [sI 2,sI key,sI x] 34,Zj [sI 1,sI (x_1.3 (0+Zh (Zi .i64 ((↑s.2:Int)-(1:Int)))) 0)] 24,Zk 3 [.int .i64] 1 s.2 x_1.1 x_1.3]) Zc ?_
  refine⟨⟨0,l.length,m,c,nn,z⟩,rfl,rfl,hs,λy hy=>⟨hy.1,?_⟩⟩
  dsimp only at hy ⊢
  rw[lenW Za]
  refine QL (λh=>?_) (λh=>?_)
  . have h:l.length=0:=by have:=of_decide_eq_true h;omega
    have e:stkR l 2 x=(l,2,0):=by unfold stkR;rw[Ze Zb,Zf (.inl rfl),Zf h]
    exact QK _ _ _ _ _ _ _ _ _ _ _ rfl rfl rfl _ e rfl (Zq _) hy.1 (h4.sub λi hi=>(hy.2.2 i hi).trans (by rw[Zu])) rfl rfl
  . have h:0<l.length:=by have:=of_decide_eq_false h;omega
    have e:stkR l 2 x=(l.take (l.length-1),1,l.getD (l.length-1) 0):=by unfold stkR;rw[Ze Zb,Zf (.inl rfl),Ze Za,Ze Zb]
    have ht:((l.length:Int)-1).toNat=l.length-1:=Za
    rw[ht]
    refine⟨⟨Za,Za⟩,⟨Za,Za,Za⟩,Za,Qd Zc,?_⟩
    refine QK _ _ _ _ _ _ _ _ _ _ _ rfl rfl rfl _ e (by simp) Za hy.1 (λi hi=>?_) rfl ?_
    . have hi:i<l.length-1:=by simp at hi;omega
      rw[hy.2.2 i Za,Zu,h4 i Za]
      rw[Zp,Zp,ZO,Zf hi]
    . rw[hy.2.2 _ Za,Zu,Zu,h4 _ Za]
 ·
  refine Qk (q:=∃(s:CloS),[Zt (.so 0 0 1 (Zg l) c nn)]=[Zt (.so 0 s.1 1 s.2 s.4 s.5)]/\[Zk 3 [.int .i64] 1 m c z]=[Zk 3 [.int .i64] 1 s.3 s.4 s.6]/\(s.1+s.2<=s.3/\s.2<=1000)/\∀(x_1:CloR),(s.2<=x_1.1/\((match ZE s.4 0 with|false=>false|true=>bif s.5 then false else true)=true->x_1.2=false/\x_1.1=0)/\∀(i:Nat),i<s.2->x_1.3 i 0=s.6 (s.1+i) 0)->s.2<=x_1.1/\endN (QH stkR) nzL rpL (LstS.mk l m c nn z (3:Int) key x) (ZS [Zt (.so 3 0 1 s.2 x_1.1 x_1.2),Zz [sI 5,sI 0]]) [Zk 3 [.int .i64] 1 m c z,Zj [sI 3,sI key,sI x] 34,Zj [sI 5,sI 0] 24,Zk 3 [.int .i64] 1 s.2 x_1.1 x_1.3]) Zc ?_
  refine⟨⟨0,l.length,m,c,nn,z⟩,rfl,rfl,hs,λy hy=>⟨hy.1,?_⟩⟩
  exact QK _ _ _ _ _ _ _ _ _ _ _ rfl rfl rfl (l,5,0) rfl rfl (Zq _) hy.1 (h4.sub λi hi=>(hy.2.2 i hi).trans (by rw[Zu])) rfl rfl
 ·
  refine Qk (q:=∃(s:CloS),[Zt (.so 0 0 1 (Zg l) c nn)]=[Zt (.so 0 s.1 1 s.2 s.4 s.5)]/\[Zk 3 [.int .i64] 1 m c z]=[Zk 3 [.int .i64] 1 s.3 s.4 s.6]/\(s.1+s.2<=s.3/\s.2<=1000)/\∀(x_1:CloR),(s.2<=x_1.1/\((match ZE s.4 0 with|false=>false|true=>bif s.5 then false else true)=true->x_1.2=false/\x_1.1=0)/\∀(i:Nat),i<s.2->x_1.3 i 0=s.6 (s.1+i) 0)->s.2<=x_1.1/\endN (QH stkR) nzL rpL (LstS.mk l m c nn z (4:Int) key x) (ZS [Zt (.so 3 0 1 s.2 x_1.1 x_1.2),Zz [sI 5,sI 0]]) [Zk 3 [.int .i64] 1 m c z,Zj [sI 4,sI key,sI x] 34,Zj [sI 5,sI 0] 24,Zk 3 [.int .i64] 1 s.2 x_1.1 x_1.3]) Zc ?_
  refine⟨⟨0,l.length,m,c,nn,z⟩,rfl,rfl,hs,λy hy=>⟨hy.1,?_⟩⟩
  exact QK _ _ _ _ _ _ _ _ _ _ _ rfl rfl rfl (l,5,0) rfl rfl (Zq _) hy.1 (h4.sub λi hi=>(hy.2.2 i hi).trans (by rw[Zu])) rfl rfl
 ·
  refine Qk (q:=∃(s:CloS),[Zt (.so 0 0 1 (Zg l) c nn)]=[Zt (.so 0 s.1 1 s.2 s.4 s.5)]/\[Zk 3 [.int .i64] 1 m c z]=[Zk 3 [.int .i64] 1 s.3 s.4 s.6]/\(s.1+s.2<=s.3/\s.2<=1000)/\∀(x_1:CloR),(s.2<=x_1.1/\((match ZE s.4 0 with|false=>false|true=>bif s.5 then false else true)=true->x_1.2=false/\x_1.1=0)/\∀(i:Nat),i<s.2->x_1.3 i 0=s.6 (s.1+i) 0)->s.2<=x_1.1/\bif decide (Zi .i64 ((↑s.2:Int)-(1:Int))<(0:Int))then endN (QH stkR) nzL rpL (LstS.mk l m c nn z (5:Int) key x) (ZS [Zt (.so 3 0 1 s.2 x_1.1 x_1.2),Zz [sI 2,sI 0]]) [Zk 3 [.int .i64] 1 m c z,Zj [sI 5,sI key,sI x] 34,Zj [sI 2,sI 0] 24,Zk 3 [.int .i64] 1 s.2 x_1.1 x_1.3]else ((0:Int)<=Zi .i64 ((↑s.2:Int)-(1:Int))/\Zi .i64 ((↑s.2:Int)-(1:Int))<(↑s.2:Int)/\0+s.2<=x_1.1)/\0+Zh (Zi .i64 ((↑s.2:Int)-(1:Int)))<s.2/\dP Tryz.f58 14 4 [⟨7,[],[2],[],false⟩,xF 6 3,xE 5,xR 4 3,xF 3 3,xE 2,xF 1 3,xF 0 3]/\endN (QH stkR) nzL rpL (LstS.mk l m c nn z (5:Int) key x) (ZS [Zt (.so 3 0 1 s.2 x_1.1 x_1.2),Zz [sI 1,sI (x_1.3 (0+Zh (Zi .i64 ((↑s.2:Int)-(1:Int)))) 0)]]) [Zk 3 [.int .i64] 1 m c z,Zj [sI 5,sI key,sI x] 34,Zj [sI 1,sI (x_1.3 (0+Zh (Zi .i64 ((↑s.2:Int)-(1:Int)))) 0)] 24,Zk 3 [.int .i64] 1 s.2 x_1.1 x_1.3]) Zc ?_
  refine⟨⟨0,l.length,m,c,nn,z⟩,rfl,rfl,hs,λy hy=>⟨hy.1,?_⟩⟩
  dsimp only at hy ⊢
  rw[lenW Za]
  refine QL (λh=>?_) (λh=>?_)
  . have h:l.length=0:=by have:=of_decide_eq_true h;omega
    have e:stkR l 5 x=(l,2,0):=by unfold stkR;rw[Ze Zb,Zf (.inr rfl),Zf h]
    exact QK _ _ _ _ _ _ _ _ _ _ _ rfl rfl rfl _ e rfl (Zq _) hy.1 (h4.sub λi hi=>(hy.2.2 i hi).trans (by rw[Zu])) rfl rfl
  . have h:0<l.length:=by have:=of_decide_eq_false h;omega
    have e:stkR l 5 x=(l,1,l.getD (l.length-1) 0):=by unfold stkR;rw[Ze Zb,Zf (.inr rfl),Ze Za,Zf rfl]
    have ht:((l.length:Int)-1).toNat=l.length-1:=Za
    rw[ht]
    refine⟨⟨Za,Za,Za⟩,Za,Qd Zc,?_⟩
    refine QK _ _ _ _ _ _ _ _ _ _ _ rfl rfl rfl _ e rfl (Zq _) hy.1 (h4.sub λi hi=>(hy.2.2 i hi).trans (by rw[Zu])) rfl ?_
    rw[hy.2.2 _ Za,Zu,Zu,h4 _ Za]
 ·
  refine Qk (q:=∃(s:CloS),[Zt (.so 0 0 1 (Zg l) c nn)]=[Zt (.so 0 s.1 1 s.2 s.4 s.5)]/\[Zk 3 [.int .i64] 1 m c z]=[Zk 3 [.int .i64] 1 s.3 s.4 s.6]/\(s.1+s.2<=s.3/\s.2<=1000)/\∀(x_1:CloR),(s.2<=x_1.1/\((match ZE s.4 0 with|false=>false|true=>bif s.5 then false else true)=true->x_1.2=false/\x_1.1=0)/\∀(i:Nat),i<s.2->x_1.3 i 0=s.6 (s.1+i) 0)->s.2<=x_1.1/\s.2<=x_1.1/\endN (QH stkR) nzL rpL (LstS.mk l m c nn z (6:Int) key x) (ZS [Zt (.so 3 0 1 s.2 x_1.1 x_1.2),Zz [sI 1,sI (↑s.2:Int)]]) [Zk 3 [.int .i64] 1 m c z,Zj [sI 6,sI key,sI x] 34,Zj [sI 1,sI (↑s.2:Int)] 24,Zk 3 [.int .i64] 1 s.2 x_1.1 x_1.3]) Zc ?_
  refine⟨⟨0,l.length,m,c,nn,z⟩,rfl,rfl,hs,λy hy=>⟨hy.1,hy.1,?_⟩⟩
  exact QK _ _ _ _ _ _ _ _ _ _ _ rfl rfl rfl (l,1,(l.length:Int)) rfl rfl (Zq _) hy.1 (h4.sub λi hi=>(hy.2.2 i hi).trans (by rw[Zu])) rfl rfl
end
section
open Go.RowKit Go.Lib
structure InsS where
 l:List Int
 m:Nat
 c:Nat
 nn:Bool
 z:Nat->Nat->Int
 z2:Nat->Nat->Int
def Qbv:MCon where
 σ:=InsS
 χ:=LstR
 pre s:=s.l.length<=1000/\(s.l.length<=s.m/\s.m<=s.c)/\IsL s.z s.l
 args s:=[.c (.so 0 0 1 s.l.length s.c s.nn),.c (.v (.int .i64 0)),.c (.so 1 0 1 1 1 true)]
 mem s:=[Qaq s.m s.c s.z,Qaq 1 1 s.z2]
 ok s x:=(x.m=s.l.length+1/\x.m<=x.c)/\IsL x.z (s.z2 0 0::s.l)
 val s x:=.o (.c (.so 0 0 1 (s.l.length+1) x.c x.nn))
 mem' s x:=[Qaq x.m x.c x.z]
 k:=0
 len:=1
 det:=none
 find args M:=some (blkA args)
structure DelS where
 l:List Int
 m:Nat
 c:Nat
 nn:Bool
 z:Nat->Nat->Int
 i:Nat
def QaQ:MCon where
 σ:=DelS
 χ:=LstR
 pre s:=(s.i<s.l.length/\s.l.length<=1000)/\(s.l.length<=s.m/\s.m<=s.c)/\IsL s.z s.l
 args s:=[.c (.so 0 0 1 s.l.length s.c s.nn),.c (.v (.int .i64 s.i)),.c (.v (.int .i64 ((s.i+1:Nat):Int)))]
 mem s:=[Qaq s.m s.c s.z]
 ok s x:=(x.m=s.l.length-1/\x.c=s.c)/\IsL x.z (s.l.eraseIdx s.i)
 val s x:=.o (.c (.so 0 0 1 (s.l.length-1) x.c true))
 mem' s x:=[Qaq x.m x.c x.z]
 k:=0
 len:=1
 det:=none
 find args M:=some (blkA args)
theorem Blk.setCells {b:Nat}{t:TypeId}:∀(vs:List Value) (o:Nat) (w:World) (C:List Value),Blk w b C t->o+vs.length<=C.length->Blk (w.setCells b o vs) b (spl C o vs) t
 |[],o,w,C,h,_=>by
  have:spl C o []=C:=by simp[spl]
  rw[this];exact h
 |v::r,o,w,C,h,hl=>by
  simp only[Yf]at hl
  have ih:=Blk.setCells r (o+1) _ _ (h.set o v) (by rw[ZbQ];omega)
  have e:spl (C.set o v) (o+1) r=spl C o (v::r):=by
   unfold spl
   have h1:(C.set o v).take (o+1)=C.take o++[v]:=by
    rw[List.take_succ_eq_append_getElem (by rw[ZbQ];omega),List.getElem_set_self,List.take_set_of_le (Zq _)]
   have h2:(C.set o v).drop (o+1+r.length)=C.drop (o+(v::r).length):=by
    rw[List.drop_set_of_lt Za]
    simp only[Yf];congr 1;omega
   rw[h1,h2];simp
  rw[e]at ih
  exact ih
theorem Xy (b:Nat):∀(vs:List Value) (o:Nat) (w:World),Kept (. =b) w (w.setCells b o vs)
 |[],_,w=>Kept.refl _ w
 |v::r,o,w=>((Kept.refl _ w).own o v).trans (Xy b r (o+1) _)
theorem Blk.take_cell {w:World}{g:Nat}{C:List Value}{t:TypeId}{xs:List Int}(hB:Blk w g C t) (ht:C.take xs.length=xs.map (ZA .i64)) (j:Nat) (hj:j<xs.length):w.cell? ⟨g,0+j,none⟩=some (.int .i64 (xs.getD j 0)):=by
 rw[Zu,hB.cell]
 have e:(C.take xs.length)[j]?=(xs.map (ZA .i64))[j]?:=by rw[ht]
 rw[ZO,Zf hj,Ya,Zy hj]at e
 rw[e,Zp,Zy hj];rfl
def Qdq:Go.Shelf.Ren:=⟨fun|21=>77|27=>90|28=>91|35=>103|39=>109|n=>n,fun|22=>89|3=>3|4=>4|0=>0|n=>n,fun|n=>n⟩
theorem Qhu:Go.Proofs.Lays2.n21 Tryz.prog Qdq:={
 mixed:=Zc
 f21:=Tryz.func77.trans (congrArg some Zc)
 f27:=Tryz.func90.trans (congrArg some Zc)
 f28:=Tryz.func91.trans (congrArg some Zc)
 f35:=Tryz.func103.trans (congrArg some Zc)
 f39:=Tryz.func109.trans (congrArg some Zc)
 t0:=Tryz.underlying0
 a0:=Tryz.isAgg0
 z0:=Tryz.sizeOf0
 v0:=Tryz.zeroValue0
 t3:=Tryz.underlying3
 a3:=Tryz.isAgg3
 z3:=Tryz.sizeOf3
 v3:=Tryz.zeroValue3
 t4:=Tryz.underlying4
 a4:=Tryz.isAgg4
 z4:=Tryz.sizeOf4
 v4:=Tryz.zeroValue4
 t22:=Tryz.underlying89
 a22:=Tryz.isAgg89
 z22:=Tryz.sizeOf89
 v22:=Tryz.zeroValue89
 i3:=by kernel_rfl }
theorem Blk.newA (w:World) (A:Array Value) (t:TypeId):Blk (w.alloc (.cells A t)) w.heap.size A.toList t:=by
 have:=Blk.new w A.toList t
 simpa using this
theorem Blk.drewn {w:World}{b:Nat}{C:List Value}{t:TypeId}(h:Blk w b C t):Blk w.drew b C t:=h
theorem Qkm (xs:List Int):∀v∈xs.map (ZA .i64),v.oneCell'=true:=by
 intro v hv
 obtain⟨z,-,rfl⟩:=List.mem_map.1 hv
 rfl
theorem Qqe (b:Bool):(bif b then (0:Nat)else 0)=0:=by cases b<;>rfl
theorem QjL (w:World) (q:Nat):Below w.heap.size w (w.drewN q):=⟨rfl,rfl,rfl,Zq _,λ_ _=>rfl⟩
theorem QfK {z:Nat->Nat->Int}{l:List Int}{m:Nat}(h:IsL z l) (hm:l.length<=m):(QJ (ckAt [.int .i64]) 1 z m).take l.length=l.map (ZA .i64):=by
 apply List.ext_getElem?
 intro i
 rw[ZO,Ya]
 by_cases hi:i<l.length
 . rw[Zf hi]
   have:=Xm (ckAt [.int .i64]) 1 z m i 0 Za Zb
   rw[Zbx,Nat.add_zero]at this
   rw[this,h i hi,Zp,Zy hi];rfl
 . rw[Ze hi,ZU Za];rfl
theorem Qk8 (l:List Int):QJ (ckAt [.int .i64]) 1 (λi _=>l.getD i 0) l.length=l.map (ZA .i64):=by
 have:=QfK (z:=λi _=>l.getD i 0) (l:=l) (λi _=>rfl) (Zq _)
 rwa [Yn (by rw[QI];omega)]at this
theorem Qm7 {w w':World}{S:Nat->Prop}{d c:Nat}{C:List Value}{l:List Int}(hk:Kept S w w') (hd:S d\/w.heap.size<=d) (hB:Blk w' d C 3) (hC:C.length=c) (hn:l.length<=c) (hm:c<=maxLen)
 (ht:C.take l.length=l.map (ZA .i64)):Mem w S (denM (λ_=>d) 0 [Qaq l.length c (λi _=>l.getD i 0)]) w':=by
 have e:denM (λ_=>d) 0 [Qaq l.length c (λi _=>l.getD i 0)]=[.row d 3 1 l.length c (l.map (ZA .i64))]:=by
  show [En.row d 3 1 l.length c (QJ (ckAt [.int .i64]) 1 (λi _=>l.getD i 0) l.length)]=_
  rw[Qk8]
 rw[e]
 refine⟨hk,λf hf=>?_,λf hf g hg=>?_,List.pairwise_singleton _ _⟩
 . rw[Y0]at hf;subst hf
   exact⟨hn,by simp,λ_=>⟨C,hB,Za,by rw[Zbx];exact ht,hm⟩⟩
 . rw[Y0]at hf;subst hf
   obtain⟨-,rfl⟩:=hg
   exact hd
theorem QlK (w:World) (g n c:Nat) (nn:Bool) (xs:List Int) (x:Int) (vb:Nat) (hx:xs.length<=1000) (hn:xs.length<=c) (hv:Blk w vb [.int .i64 x] 3) (hne:0<c->vb≠g)
 (hg:0<c->∃C,Blk w g C 3/\C.length=c/\C.take xs.length=xs.map (ZA .i64)/\c<=maxLen):
 Calls Tryz.prog 77 #[bif c.beq 0 && !nn then .slice none 0 0 else .slice (some ⟨g,0,none⟩) xs.length c,.int .i64 0,.slice (some ⟨vb,0,none⟩) 1 1] w λe w'=>
  ∃d cap C,e=.returned (.slice (some ⟨d,0,none⟩) (xs.length+1) cap)/\Blk w' d C 3/\C.length=cap/\xs.length+1<=cap/\cap<=maxLen/\C.take (x::xs).length=(x::xs).map (ZA .i64)/\Kept (λk=>0<c/\k=g) w w'/\((0<c/\d=g)\/w.heap.size<=d):=by
 have hvs:∀j v,([.int .i64 x]:List Value)[j]?=some v->w.cell? ⟨vb,0+j,none⟩=some v:=λj v h=>by rw[Zu,hv.cell];exact h
 have h1v:∀v∈([.int .i64 x]:List Value),v.oneCell'=true:=by intro v h;simp at h;subst h;rfl
 have h63b:maxLen=9223372036854775807:=rfl
 rcases Nat.eq_zero_or_pos c with hc|hc
 . subst hc
   obtain rfl:xs=[]:=List.length_eq_zero_iff.1 Za
   have grow (ad:Option Addr) (hz:ad=none->True):Calls Tryz.prog 77 #[.slice ad 0 0,.int .i64 0,.slice (some ⟨vb,0,none⟩) 1 1] w λe w'=>
    ∃d cap C,e=.returned (.slice (some ⟨d,0,none⟩) (([]:List Int).length+1) cap)/\Blk w' d C 3/\C.length=cap/\([]:List Int).length+1<=cap/\cap<=maxLen/\C.take (x::([]:List Int)).length=(x::([]:List Int)).map (ZA .i64)/\Kept (λk=>0<0/\k=g) w w'/\((0<0/\d=g)\/w.heap.size<=d):=by
    refine (Any2.slices_Insert_int_end_grow Qhu ad 0 0 vb 0 1 1 [] [.int .i64 x] w Zb Zb Zb Zb rfl rfl (λ_=>rfl) (λa h j v hv=>by simp at hv) hvs h1v).mono λe w' ⟨he,hw⟩=>?_
    have hG1:1<=grownCap w (0+1) 0 (Qdq.t 3):=grownCap_ge _ _ _ _
    have hG2:=grownCap_le_maxLen w (0+1) 0 (Qdq.t 3) Za
    rw[hw]
    generalize grownCap w (0+1) 0 (Qdq.t 3)=G at *
    refine⟨_,G,_,he,Blk.newA w.drew _ _,by simp[size_zeroCells,Zad];omega,by simpa using hG1,hG2,by simp,.of_below (((Below.refl _ _).drew).alloc (Zq _) _),.inr (Zq _)⟩
   cases nn
   . exact grow none (λ_=>trivial)
   . exact grow (some ⟨g,0,none⟩) (λ_=>trivial)
 . obtain⟨C,hB,hC,ht,hm⟩:=hg hc
   rw[show (c.beq 0 && !nn)=false by rw[nbeq Za];rfl]
   simp only[cond_false]
   have hcs:∀j v,(xs.map (ZA .i64))[j]?=some v->w.cell? ⟨g,0+j,none⟩=some v:=λj v h=>by
    rw[Ya]at h
    have hj:j<xs.length:=by
     rcases Yy j xs.length with h' | h'
     . exact h'
     . rw[ZU h']at h;simp at h
    rw[Zy hj]at h
    rw[hB.take_cell ht j hj,<- h,Zp,Zy hj];rfl
   have hkS:∀k,k=g->(0<c/\k=g):=λk h=>⟨hc,h⟩
   by_cases hroom:xs.length+1<=c
   . by_cases h0:xs.length=0
     . obtain rfl:xs=[]:=List.length_eq_zero_iff.1 h0
       refine (Any2.slices_Insert_int_end_room Qhu g 0 0 c vb 0 1 1 [.int .i64 x] w Zb (by simpa using hroom) Za rfl (λj hj=>by
        obtain rfl:j=0:=Za
        rw[hB.cell,Zy (by simp at hroom;omega)];rfl) (λj _=>hB.frozen _) hvs h1v).mono λe w' ⟨he,hw⟩=>?_
       rw[hw]
       have hB2:=Blk.setCells [ZA .i64 x] 0 w C hB (by simp at hroom ⊢;omega)
       exact⟨g,c,_,he,hB2,by rw[XE _ _ _ (by simp at hroom ⊢;omega)];exact hC,by simpa using hroom,hm,by simp[spl],(Xy g _ _ w).mono hkS,.inl ⟨hc,rfl⟩⟩
     . have hn0:0<xs.length:=Za
       have hsh:∀(b:Nat) (D:List Value),Blk w b D 3->w.shape? b=some (3,D.length):=λb D h=>by unfold Blk at h;simp[World.shape?,h]
       refine (Any2.slices_Insert_int_shift Qhu g 0 xs.length c 0 vb 0 1 1 (xs.map (ZA .i64)) [.int .i64 x] w hn0 Zb hroom Za (hne hc) (ZN _) rfl hcs (λj hj=>by
        rw[Zu,hB.cell,Zy Za];rfl) (λj _=>hB.frozen _) hvs (Qkm xs) h1v 3 3 1 c (hsh _ _ hv) (by rw[hsh _ _ hB,hC]) Za (hv.frozen _) (hv.frozen _)).mono λe w' ⟨he,hw⟩=>?_
       rw[hw]
       have hB1:=Blk.setCells (xs.map (ZA .i64)) 1 w.drew C hB.drewn (by simp;omega)
       have hl1:(spl C 1 (xs.map (ZA .i64))).length=c:=by rw[XE _ _ _ (by simp;omega)];exact hC
       have hB2:=Blk.setCells [ZA .i64 x] 0 _ _ hB1 (by rw[hl1];simp;omega)
       refine⟨g,c,_,he,hB2,by rw[XE _ _ _ (by rw[hl1];simp;omega)];exact hl1,hroom,hm,?_,(((Kept.refl _ w).drew.trans (Xy g _ _ w.drew)).trans (Xy g _ _ _)).mono hkS,.inl ⟨hc,rfl⟩⟩
       have hC1:(C.take 1).length=1:=by simp;omega
       simp only[spl,ZbZ,YA,List.length_singleton,Zu]
       rw[Yb,List.drop_append_of_le_length Za,List.drop_of_length_le (by omega:(C.take 1).length<=1),YA,Yf,List.singleton_append,List.take_succ_cons,Z4,Zam (by simp),Yn (by simp)]
   . have hroom':c<xs.length+1:=Za
     have hn0:0<xs.length:=Za
     refine (Any2.slices_Insert_int_grow Qhu g 0 xs.length c 0 vb 0 1 1 (xs.map (ZA .i64)) [.int .i64 x] w hn0 Zb hn hroom' Za (ZN _) rfl hcs hvs (Qkm xs) h1v).mono λe w' ⟨he,hw⟩=>?_
     rw[hw,List.drop_zero]
     have hG1:xs.length+1<=grownCap w (xs.length+1) c (Qdq.t 3):=grownCap_ge _ _ _ _
     have hG2:=grownCap_le_maxLen w (xs.length+1) c (Qdq.t 3) Za
     generalize grownCap w (xs.length+1) c (Qdq.t 3)=G at *
     have hN:=Blk.newA w (((xs.map (ZA .i64)).take 0).toArray++Zan (ZA .i64 0).cells (xs.length+1-0)++Zan (ZA .i64 0).cells (G-(xs.length+1))) (Qdq.t 3)
     have hL:(((xs.map (ZA .i64)).take 0).toArray++Zan (ZA .i64 0).cells (xs.length+1-0)++Zan (ZA .i64 0).cells (G-(xs.length+1))).toList.length=G:=by
      simp[size_zeroCells,Zad];omega
     generalize (((xs.map (ZA .i64)).take 0).toArray++Zan (ZA .i64 0).cells (xs.length+1-0)++Zan (ZA .i64 0).cells (G-(xs.length+1)))=A at *
     have hk1:Below w.heap.size w (w.alloc (.cells A (Qdq.t 3))).drew:=((Below.refl _ _).alloc (Zq _) _).drew
     generalize A.toList=D at *
     have hB1:=Blk.setCells [ZA .i64 x] 0 _ D hN.drewn (by simp;omega)
     have hl1:(spl D 0 [ZA .i64 x]).length=G:=by rw[XE _ _ _ (by simp;omega)];exact hL
     have hB2:=Blk.setCells (xs.map (ZA .i64)) (0+1) _ _ hB1.drewn (by rw[hl1];simp;omega)
     have hl2:(spl (spl D 0 [ZA .i64 x]) (0+1) (xs.map (ZA .i64))).length=G:=by
      rw[XE _ _ _ (by rw[hl1];simp;omega)];exact hl1
     have hk2:=hk1.trans ((((Xy w.heap.size [ZA .i64 x] 0 (w.alloc (.cells A (Qdq.t 3))).drew).drew).trans (Xy w.heap.size (xs.map (ZA .i64)) (0+1) _)).below (B:=w.heap.size) (by show w.heap.size<=(w.alloc _).heap.size;rw[World.size_alloc];omega) (λk hk=>by rw[hk];exact Zq _))
     have ht2:(spl (spl D 0 [ZA .i64 x]) (0+1) (xs.map (ZA .i64))).take (xs.length+1)=(x::xs).map (ZA .i64):=by simp[spl]
     exact⟨w.heap.size,G,_,he,hB2,hl2,hG1,hG2,ht2,.of_below hk2,.inr (Zq _)⟩
theorem QlL:(ZH Qbv).holds Tryz.prog 77:=by
 intro w0 S
 unfold Con.holdsAt
 refine⟨Zc,(λx0 h=>by cases h),?_⟩
 intro ρ s w hp hK HM
 obtain⟨l,m,c,nn,z,z2⟩:=s
 obtain⟨h1,⟨h2,h3⟩,h4⟩:=hp
 dsimp only at h1 h2 h3 h4
 have r1:RowAt w (ρ 0) 3 1 m c (QJ (ckAt [.int .i64]) 1 z m):=HM.holds _ ZC
 have r2:RowAt w (ρ 1) 3 1 1 1 (QJ (ckAt [.int .i64]) 1 z2 1):=HM.holds _ (List.mem_cons_of_mem _ ZC)
 have hd:=(List.pairwise_cons.1 HM.dist).1 _ ZC
 obtain⟨C2,hB2,hC2,ht2,-⟩:=r2.2.2 Zb
 have e2:C2=[.int .i64 (z2 0 0)]:=by
  rw[Yn Za]at ht2
  rw[ht2];rfl
 subst e2
 have ha:(Qbv.args ⟨l,m,c,nn,z,z2⟩).map (Y2 ρ)=[bif c.beq 0 && !nn then .slice none 0 0 else .slice (some ⟨ρ 0,0,none⟩) l.length c,.int .i64 0,.slice (some ⟨ρ 1,0,none⟩) 1 1]:=by
  simp only[Qbv,Z4,Zar,Y2,SC.den,ZaF,ZaQ,Qqe];rfl
 rw[ha]
 refine (QlK w (ρ 0) l.length c nn l (z2 0 0) (ρ 1) h1 Za hB2 (λhc h=>hd (ρ 0) ⟨hc,rfl⟩ ⟨Zb,h⟩) (λhc=>?_)).mono ?_
 . obtain⟨C,hB,hC,ht,hm⟩:=r1.2.2 hc
   refine⟨C,hB,Za,?_,hm⟩
   have:=QfK h4 h2
   rw[<- ht,ZaJ,Zbx,YM h2]at this
   exact this
 . rintro e w' ⟨d,cap,C,rfl,hB,hC,hn,hm,ht,hk,hdd⟩
   have hS:∀k,(0<c/\k=ρ 0)->feet (denM ρ 0 (Qbv.mem ⟨l,m,c,nn,z,z2⟩)) k:=λk ⟨hc,hk⟩=>⟨_,ZC,hc,hk.symm⟩
   refine⟨⟨l.length+1,cap,true,λi _=>(z2 0 0::l).getD i 0⟩,λ_=>d,⟨⟨rfl,hn⟩,λi _=>rfl⟩,λi hi=>by simp[Qbv]at hi,rfl,?_,Qm7 (l:=z2 0 0::l) (hk.mono hS) (hdd.imp (hS d) id) hB hC hn hm ht⟩
   simp only[Qbv,Zci,Y2,SC.den,Zca,ZaI,cond_false,ZaF,ZaQ,Qqe]
theorem Ql2:(ZH QaQ).holds Tryz.prog 78:=by
 intro w0 S
 unfold Con.holdsAt
 refine⟨Zc,(λx0 h=>by cases h),?_⟩
 intro ρ s w hp hK HM
 obtain⟨l,m,c,nn,z,i⟩:=s
 obtain⟨⟨h0,h1⟩,⟨h2,h3⟩,h4⟩:=hp
 dsimp only at h0 h1 h2 h3 h4
 have hc:0<c:=Za
 have r1:RowAt w (ρ 0) 3 1 m c (QJ (ckAt [.int .i64]) 1 z m):=HM.holds _ ZC
 obtain⟨C,hB,hC,ht,hm⟩:=r1.2.2 hc
 have ht':C.take l.length=l.map (ZA .i64):=by
  have:=QfK h4 h2
  rw[<- ht,ZaJ,Zbx,YM h2]at this
  exact this
 have ha:(QaQ.args ⟨l,m,c,nn,z,i⟩).map (Y2 ρ)=[.slice (some ⟨ρ 0,0,none⟩) l.length c,.int .i64 i,.int .i64 ((i+1:Nat):Int)]:=by
  simp only[QaQ,Z4,Zar,Y2,SC.den,ZaF,ZaQ,Qqe,show (c.beq 0 && !nn)=false by rw[nbeq Za];rfl,cond_false]
 rw[ha]
 unfold maxLen at hm
 refine (Tryz.slices_Delete_int_cells (ρ 0) 0 l.length c i (i+1) l w (Zq _) Za hm Za Za (hB.take_cell ht') (λj _=>hB.frozen _)).mono λe w' ⟨he,q,hw⟩=>?_
 have hE:l.eraseIdx i=l.take i++l.drop (i+1):=List.eraseIdx_eq_take_drop_succ l i
 have hlen:(l.eraseIdx i).length=l.length-1:=by rw[Zau];simp[h0]
 have hlz:((l.eraseIdx i++YH 1 (0:Int)).map (ZA .i64)).length=l.length:=by simp only[ZN,Zw,List.length_replicate,hlen];omega
 have hB1:=Blk.setCells ((l.eraseIdx i++YH 1 (0:Int)).map (ZA .i64)) 0 (w.drewN q) C hB (by rw[hlz];omega)
 rw[Yn (Zq l.length),<- hE,show i+1-i=1 by omega]at hw
 have hS:∀k,k=ρ 0->feet (denM ρ 0 (QaQ.mem ⟨l,m,c,nn,z,i⟩)) k:=λk hk=>⟨_,ZC,hc,hk.symm⟩
 have hk:Kept (feet (denM ρ 0 (QaQ.mem ⟨l,m,c,nn,z,i⟩))) w w':=by
  rw[hw];exact ((Kept.of_below (QjL w q)).trans ((Xy (ρ 0) _ _ _).mono hS))
 refine⟨⟨l.length-1,c,true,λj _=>(l.eraseIdx i).getD j 0⟩,λ_=>ρ 0,⟨⟨rfl,rfl⟩,λi _=>rfl⟩,λi hi=>by simp[QaQ]at hi,rfl,?_,?_⟩
 . rw[he]
   simp only[QaQ,Zci,Y2,SC.den,Zca,ZaI,cond_false,ZaF,ZaQ,Qqe]
   rw[show l.length-(i+1-i)=l.length-1 by omega]
 . have:=Qm7 (w':=w') (l:=l.eraseIdx i) (c:=c) (d:=ρ 0) hk (.inl (hS _ rfl)) (by rw[hw];exact hB1) (by rw[XE _ _ _ (by rw[hlz];omega)];omega) Za (by unfold maxLen;omega) (by
    simp only[spl,ZbZ,YA,List.map_append]
    rw[Yb,Zam (by simp),Yn (by simp)])
   rw[hlen]at this
   exact this
end
section
open Go.RowKit
theorem Qoa:(ZH (QH deqR)).holds Tryz.prog 59:=by
 intro w0 S
 refine Qc4 (AG:=[]) (Γ:=[(76,.rd Qa5),(77,.mem Qbv),(78,.mem QaQ)]) (λ_=>noW) Tryz.func59 rfl Zc Qf Qc (λw S' _ _=>.cons (Qek w S') (.cons (QlL w S') (.cons (Ql2 w S') (.nil _ _ _)))) (QH deqR) (λx0 h=>by cases h) (λs ρ w _ _ _=>Qj w _)
  nzL rpL 400 ?_
 rintro⟨l,m,c,nn,z,k,key,x⟩ w ⟨h1,⟨h2m,h2c⟩,h4,h5,h6⟩ -
 refine⟨rfl,?_⟩
 dsimp only at h1 h2m h2c h4 h5 h6
 have h2:=ZV h2m h2c
 have hs:0+l.length<=m/\l.length<=1000:=⟨Za,Za⟩
 have hk:k=1\/k=2\/k=3\/k=4\/k=5\/k=6:=Za
 rcases hk with rfl|rfl|rfl|rfl|rfl|rfl
 ·
  refine Qk (q:=∃(s:CloS),[Zt (.so 0 0 1 (Zg l) c nn)]=[Zt (.so 0 s.1 1 s.2 s.4 s.5)]/\[Zk 3 [.int .i64] 1 m c z]=[Zk 3 [.int .i64] 1 s.3 s.4 s.6]/\(s.1+s.2<=s.3/\s.2<=1000)/\∀(x_1:CloR),(s.2<=x_1.1/\((match ZE s.4 0 with|false=>false|true=>bif s.5 then false else true)=true->x_1.2=false/\x_1.1=0)/\∀(i:Nat),i<s.2->x_1.3 i 0=s.6 (s.1+i) 0)->s.2<=x_1.1/\bif decide ((↑s.2:Int)>=(6:Int))then endN (QH deqR) nzL rpL (LstS.mk l m c nn z (1:Int) key x) (ZS [Zt (.so 3 0 1 s.2 x_1.1 x_1.2),Zz [sI 3,sI 0]]) [Zk 3 [.int .i64] 1 m c z,Zj [sI 1,sI key,sI x] 34,Zj [sI 3,sI 0] 24,Zk 3 [.int .i64] 1 s.2 x_1.1 x_1.3]else ((s.2<=s.2/\x_1.1=x_1.1)/\(1<=1/\1=1)/\s.2+1<=68719476736)/\∀(c_1:Nat),s.2+1<=c_1->endN (QH deqR) nzL rpL (LstS.mk l m c nn z (1:Int) key x) (ZS [Zt (.so 5 0 1 (s.2+1) c_1 x_1.2),Zz [sI 1,sI 0]]) [Zk 3 [.int .i64] 1 m c z,Zj [sI 1,sI key,sI x] 34,Zj [sI 1,sI 0] 24,ZB,Zk 3 [.int .i64] 1 1 1 λ(i j:Nat)=>match Zl (match Zl [[x]] i with|some x=>x|none=>[]) j with|some x=>x|none=>(0:Int),Zk 3 [.int .i64] 1 (s.2+1) c_1 λ(i j:Nat)=>bif ZL (i+1) s.2 then x_1.3 i j else match Zl (match Zl [[x]] (0+(i-s.2))with|some x=>x|none=>[]) j with|some x=>x|none=>(0:Int)]) Zc ?_
  refine⟨⟨0,l.length,m,c,nn,z⟩,rfl,rfl,hs,λy hy=>⟨hy.1,Qo (λh=>?_) (λh=>?_)⟩⟩
  . have e:deqR l 1 x=(l,3,0):=by unfold deqR;rw[Zf Zb,Zf (by dsimp only at h;omega)]
    exact QK _ _ _ _ _ _ _ _ _ _ _ rfl rfl rfl _ e rfl (Zq _) hy.1 (h4.sub λi hi=>(hy.2.2 i hi).trans (by rw[Zu])) rfl rfl
  . dsimp only at h hy ⊢
    have e:deqR l 1 x=(l++[x],1,0):=by unfold deqR;rw[Zf Zb,Ze Za,Zf rfl]
    refine⟨⟨⟨Zq _,rfl⟩,⟨Zq _,rfl⟩,Za⟩,λc' hc'=>?_⟩
    exact QK _ _ _ _ _ _ _ _ _ _ _ rfl rfl rfl _ e (by simp) (Zq _) hc' (h4.snoc (λi hi=>(catT hi).trans ((hy.2.2 i hi).trans (by rw[Zu]))) (catF.trans (by rw[Ye];rfl))) rfl rfl
 ·
  refine Qk (q:=∃(s:CloS),[Zt (.so 0 0 1 (Zg l) c nn)]=[Zt (.so 0 s.1 1 s.2 s.4 s.5)]/\[Zk 3 [.int .i64] 1 m c z]=[Zk 3 [.int .i64] 1 s.3 s.4 s.6]/\(s.1+s.2<=s.3/\s.2<=1000)/\∀(x_1:CloR),(s.2<=x_1.1/\((match ZE s.4 0 with|false=>false|true=>bif s.5 then false else true)=true->x_1.2=false/\x_1.1=0)/\∀(i:Nat),i<s.2->x_1.3 i 0=s.6 (s.1+i) 0)->s.2<=x_1.1/\bif (↑s.2:Int)==(0:Int)then endN (QH deqR) nzL rpL (LstS.mk l m c nn z (2:Int) key x) (ZS [Zt (.so 3 0 1 s.2 x_1.1 x_1.2),Zz [sI 2,sI 0]]) [Zk 3 [.int .i64] 1 m c z,Zj [sI 2,sI key,sI x] 34,Zj [sI 2,sI 0] 24,Zk 3 [.int .i64] 1 s.2 x_1.1 x_1.3]else ((0:Int)<=(0:Int)/\(0:Int)<(↑s.2:Int)/\0+s.2<=x_1.1)/\0<s.2/\∃(s_1:DelS),[Zt (.so 3 0 1 s.2 x_1.1 x_1.2),aI 0,aI 1]=[Zt (.so 3 0 1 (Zg s_1.1) s_1.3 s_1.4),aI ↑s_1.6,aI (↑(s_1.6+1):Int)]/\[Zk 3 [.int .i64] 1 s.2 x_1.1 x_1.3]=[Zk 3 [.int .i64] 1 s_1.2 s_1.3 s_1.5]/\((s_1.6<Zg s_1.1/\Zg s_1.1<=1000)/\(Zg s_1.1<=s_1.2/\s_1.2<=s_1.3)/\IsL s_1.5 s_1.1)/\∀(x_2:LstR),((x_2.1=match Zg s_1.1 with|0=>0|Yg a=>a)/\x_2.2=s_1.3)/\IsL x_2.4 (List.eraseIdx s_1.1 s_1.6)->endN (QH deqR) nzL rpL (LstS.mk l m c nn z (2:Int) key x) (ZS [Zt (.so 4 0 1 (match Zg s_1.1 with|0=>0|Yg a=>a) x_2.2 true),Zz [sI 1,sI (x_1.3 0 0)]]) [Zk 3 [.int .i64] 1 m c z,Zj [sI 2,sI key,sI x] 34,Zj [sI 1,sI (x_1.3 0 0)] 24,ZB,Zk 3 [.int .i64] 1 x_2.1 x_2.2 x_2.4]) Zc ?_
  refine⟨⟨0,l.length,m,c,nn,z⟩,rfl,rfl,hs,λy hy=>⟨hy.1,QP (λh=>?_) (λh=>?_)⟩⟩
  . have e:deqR l 2 x=(l,2,0):=by unfold deqR;rw[Ze Zb,Zf Zb,Zf (by dsimp only at h;omega)]
    exact QK _ _ _ _ _ _ _ _ _ _ _ rfl rfl rfl _ e rfl (Zq _) hy.1 (h4.sub λi hi=>(hy.2.2 i hi).trans (by rw[Zu])) rfl rfl
  . dsimp only at h hy ⊢
    have hn:0<l.length:=Za
    have e:deqR l 2 x=(l.eraseIdx 0,1,l.getD 0 0):=by unfold deqR;rw[Ze Zb,Zf Zb,Ze Za,Ze Zb,Ze Zb]
    have hy0 (i:Nat) (hi:i<l.length):y.3 (0+i) 0=l.getD i 0:=(congrArg (y.3 . 0) (Zu i)).trans ((hy.2.2 i hi).trans ((congrArg (z . 0) (Zu i)).trans (h4 i hi)))
    refine⟨⟨Za,Za,by have:=hy.1;omega⟩,hn,⟨l,l.length,y.1,y.2,y.3,0⟩,rfl,rfl,⟨⟨hn,ZV h1 Zb⟩,⟨Zq _,hy.1⟩,h4.sub λi hi=>(hy.2.2 i hi).trans (by rw[Zu])⟩,λq hq=>?_⟩
    exact QK _ _ _ _ _ _ _ _ _ _ _ rfl rfl rfl _ e (by rw[Zau,Zf hn];rfl) (Zae (show l.length-1=q.1 from hq.1.1.symm)) (ZV (Zae (show q.1=l.length-1 from hq.1.1)) (ZV (ZV (Zc0 _ _) hy.1) (Zae hq.1.2.symm))) hq.2 rfl (hy0 0 hn)
 ·
  refine Qk (q:=∃(s:CloS),[Zt (.so 0 0 1 (Zg l) c nn)]=[Zt (.so 0 s.1 1 s.2 s.4 s.5)]/\[Zk 3 [.int .i64] 1 m c z]=[Zk 3 [.int .i64] 1 s.3 s.4 s.6]/\(s.1+s.2<=s.3/\s.2<=1000)/\∀(x_1:CloR),(s.2<=x_1.1/\((match ZE s.4 0 with|false=>false|true=>bif s.5 then false else true)=true->x_1.2=false/\x_1.1=0)/\∀(i:Nat),i<s.2->x_1.3 i 0=s.6 (s.1+i) 0)->s.2<=x_1.1/\bif decide ((↑s.2:Int)>=(6:Int))then endN (QH deqR) nzL rpL (LstS.mk l m c nn z (3:Int) key x) (ZS [Zt (.so 3 0 1 s.2 x_1.1 x_1.2),Zz [sI 3,sI 0]]) [Zk 3 [.int .i64] 1 m c z,Zj [sI 3,sI key,sI x] 34,Zj [sI 3,sI 0] 24,Zk 3 [.int .i64] 1 s.2 x_1.1 x_1.3]else ∃(s_1:InsS),[Zt (.so 3 0 1 s.2 x_1.1 x_1.2),aI 0,Zt (.so 4 0 1 1 1 true)]=[Zt (.so 3 0 1 (Zg s_1.1) s_1.3 s_1.4),aI 0,Zt (.so 4 0 1 1 1 true)]/\[Zk 3 [.int .i64] 1 s.2 x_1.1 x_1.3,Zk 3 [.int .i64] 1 1 1 λ(i j:Nat)=>match Zl (match Zl [[x]] i with|some x=>x|none=>[]) j with|some x=>x|none=>(0:Int)]=[Zk 3 [.int .i64] 1 s_1.2 s_1.3 s_1.5,Zk 3 [.int .i64] 1 1 1 s_1.6]/\(Zg s_1.1<=1000/\(Zg s_1.1<=s_1.2/\s_1.2<=s_1.3)/\IsL s_1.5 s_1.1)/\∀(x_2:LstR),(x_2.1=Zg s_1.1+1/\x_2.1<=x_2.2)/\IsL x_2.4 (s_1.6 0 0::s_1.1)->endN (QH deqR) nzL rpL (LstS.mk l m c nn z (3:Int) key x) (ZS [Zt (.so 5 0 1 (Zg s_1.1+1) x_2.2 x_2.3),Zz [sI 1,sI 0]]) [Zk 3 [.int .i64] 1 m c z,Zj [sI 3,sI key,sI x] 34,Zj [sI 1,sI 0] 24,ZB,ZB,Zk 3 [.int .i64] 1 x_2.1 x_2.2 x_2.4]) Zc ?_
  refine⟨⟨0,l.length,m,c,nn,z⟩,rfl,rfl,hs,λy hy=>⟨hy.1,Qo (λh=>?_) (λh=>?_)⟩⟩
  . have e:deqR l 3 x=(l,3,0):=by unfold deqR;rw[Zf Zb,Zf (by dsimp only at h;omega)]
    exact QK _ _ _ _ _ _ _ _ _ _ _ rfl rfl rfl _ e rfl (Zq _) hy.1 (h4.sub λi hi=>(hy.2.2 i hi).trans (by rw[Zu])) rfl rfl
  . dsimp only at h hy ⊢
    have e:deqR l 3 x=(x::l,1,0):=by unfold deqR;rw[Zf Zb,Ze Za,Ze Zb]
    refine⟨⟨l,l.length,y.1,y.2,y.3,_⟩,rfl,rfl,⟨ZV h1 Zb,⟨Zq _,hy.1⟩,h4.sub λi hi=>(hy.2.2 i hi).trans (by rw[Zu])⟩,λq hq=>?_⟩
    exact QK _ _ _ _ _ _ _ _ _ _ _ rfl rfl rfl _ e rfl (by rw[hq.1.1];exact Zq _) hq.1.2 hq.2 rfl rfl
 ·
  refine Qk (q:=∃(s:CloS),[Zt (.so 0 0 1 (Zg l) c nn)]=[Zt (.so 0 s.1 1 s.2 s.4 s.5)]/\[Zk 3 [.int .i64] 1 m c z]=[Zk 3 [.int .i64] 1 s.3 s.4 s.6]/\(s.1+s.2<=s.3/\s.2<=1000)/\∀(x_1:CloR),(s.2<=x_1.1/\((match ZE s.4 0 with|false=>false|true=>bif s.5 then false else true)=true->x_1.2=false/\x_1.1=0)/\∀(i:Nat),i<s.2->x_1.3 i 0=s.6 (s.1+i) 0)->s.2<=x_1.1/\bif (↑s.2:Int)==(0:Int)then endN (QH deqR) nzL rpL (LstS.mk l m c nn z (4:Int) key x) (ZS [Zt (.so 3 0 1 s.2 x_1.1 x_1.2),Zz [sI 2,sI 0]]) [Zk 3 [.int .i64] 1 m c z,Zj [sI 4,sI key,sI x] 34,Zj [sI 2,sI 0] 24,Zk 3 [.int .i64] 1 s.2 x_1.1 x_1.3]else s.2<=x_1.1/\((0:Int)<=Zi .i64 ((↑s.2:Int)-(1:Int))/\Zi .i64 ((↑s.2:Int)-(1:Int))<(↑s.2:Int)/\0+s.2<=x_1.1)/\0+Zh (Zi .i64 ((↑s.2:Int)-(1:Int)))<s.2/\∃(s_1:DelS),[Zt (.so 3 0 1 s.2 x_1.1 x_1.2),aI (Zi .i64 ((↑s.2:Int)-(1:Int))),aI (Zi .i64 (Zi .i64 ((↑s.2:Int)-(1:Int))+(1:Int)))]=[Zt (.so 3 0 1 (Zg s_1.1) s_1.3 s_1.4),aI ↑s_1.6,aI (↑(s_1.6+1):Int)]/\[Zk 3 [.int .i64] 1 s.2 x_1.1 x_1.3]=[Zk 3 [.int .i64] 1 s_1.2 s_1.3 s_1.5]/\((s_1.6<Zg s_1.1/\Zg s_1.1<=1000)/\(Zg s_1.1<=s_1.2/\s_1.2<=s_1.3)/\IsL s_1.5 s_1.1)/\∀(x_2:LstR),((x_2.1=match Zg s_1.1 with|0=>0|Yg a=>a)/\x_2.2=s_1.3)/\IsL x_2.4 (List.eraseIdx s_1.1 s_1.6)->endN (QH deqR) nzL rpL (LstS.mk l m c nn z (4:Int) key x) (ZS [Zt (.so 4 0 1 (match Zg s_1.1 with|0=>0|Yg a=>a) x_2.2 true),Zz [sI 1,sI (x_1.3 (0+Zh (Zi .i64 ((↑s.2:Int)-(1:Int)))) 0)]]) [Zk 3 [.int .i64] 1 m c z,Zj [sI 4,sI key,sI x] 34,Zj [sI 1,sI (x_1.3 (0+Zh (Zi .i64 ((↑s.2:Int)-(1:Int)))) 0)] 24,ZB,Zk 3 [.int .i64] 1 x_2.1 x_2.2 x_2.4]) Zc ?_
  refine⟨⟨0,l.length,m,c,nn,z⟩,rfl,rfl,hs,λy hy=>⟨hy.1,QP (λh=>?_) (λh=>?_)⟩⟩
  . have e:deqR l 4 x=(l,2,0):=by unfold deqR;rw[Ze Zb,Zf Zb,Zf (by dsimp only at h;omega)]
    exact QK _ _ _ _ _ _ _ _ _ _ _ rfl rfl rfl _ e rfl (Zq _) hy.1 (h4.sub λi hi=>(hy.2.2 i hi).trans (by rw[Zu])) rfl rfl
  . dsimp only at h hy ⊢
    have hn:0<l.length:=Za
    have e:deqR l 4 x=(l.eraseIdx (l.length-1),1,l.getD (l.length-1) 0):=by unfold deqR;rw[Ze Zb,Zf Zb,Ze Za,Ze Zb,Zf rfl]
    have hy0 (i:Nat) (hi:i<l.length):y.3 (0+i) 0=l.getD i 0:=(congrArg (y.3 . 0) (Zu i)).trans ((hy.2.2 i hi).trans ((congrArg (z . 0) (Zu i)).trans (h4 i hi)))
    have ew:Zi .i64 ((l.length:Int)-1)=((l.length-1:Nat):Int):=by rw[Qx Za Za];omega
    rw[ew,sucI Za,Zv]
    refine⟨hy.1,⟨Za,Za,by have:=hy.1;omega⟩,Za,⟨l,l.length,y.1,y.2,y.3,l.length-1⟩,rfl,rfl,⟨⟨Nat.sub_lt hn Zb,ZV h1 Zb⟩,⟨Zq _,hy.1⟩,h4.sub λi hi=>(hy.2.2 i hi).trans (by rw[Zu])⟩,λq hq=>?_⟩
    exact QK _ _ _ _ _ _ _ _ _ _ _ rfl rfl rfl _ e (by rw[Zau,Zf (Nat.sub_lt hn Zb)];rfl) (Zae (show l.length-1=q.1 from hq.1.1.symm)) (ZV (Zae (show q.1=l.length-1 from hq.1.1)) (ZV (ZV (Zc0 _ _) hy.1) (Zae hq.1.2.symm))) hq.2 rfl (hy0 _ Za)
 ·
  refine Qk (q:=∃(s:CloS),[Zt (.so 0 0 1 (Zg l) c nn)]=[Zt (.so 0 s.1 1 s.2 s.4 s.5)]/\[Zk 3 [.int .i64] 1 m c z]=[Zk 3 [.int .i64] 1 s.3 s.4 s.6]/\(s.1+s.2<=s.3/\s.2<=1000)/\∀(x_1:CloR),(s.2<=x_1.1/\((match ZE s.4 0 with|false=>false|true=>bif s.5 then false else true)=true->x_1.2=false/\x_1.1=0)/\∀(i:Nat),i<s.2->x_1.3 i 0=s.6 (s.1+i) 0)->s.2<=x_1.1/\bif (↑s.2:Int)==(0:Int)then endN (QH deqR) nzL rpL (LstS.mk l m c nn z (5:Int) key x) (ZS [Zt (.so 3 0 1 s.2 x_1.1 x_1.2),Zz [sI 2,sI 0]]) [Zk 3 [.int .i64] 1 m c z,Zj [sI 5,sI key,sI x] 34,Zj [sI 2,sI 0] 24,Zk 3 [.int .i64] 1 s.2 x_1.1 x_1.3]else ((0:Int)<=(0:Int)/\(0:Int)<(↑s.2:Int)/\0+s.2<=x_1.1)/\0<s.2/\endN (QH deqR) nzL rpL (LstS.mk l m c nn z (5:Int) key x) (ZS [Zt (.so 3 0 1 s.2 x_1.1 x_1.2),Zz [sI 1,sI (x_1.3 0 0)]]) [Zk 3 [.int .i64] 1 m c z,Zj [sI 5,sI key,sI x] 34,Zj [sI 1,sI (x_1.3 0 0)] 24,Zk 3 [.int .i64] 1 s.2 x_1.1 x_1.3]) Zc ?_
  refine⟨⟨0,l.length,m,c,nn,z⟩,rfl,rfl,hs,λy hy=>⟨hy.1,QP (λh=>?_) (λh=>?_)⟩⟩
  . have e:deqR l 5 x=(l,2,0):=by unfold deqR;rw[Ze Zb,Zf Zb,Zf (by dsimp only at h;omega)]
    exact QK _ _ _ _ _ _ _ _ _ _ _ rfl rfl rfl _ e rfl (Zq _) hy.1 (h4.sub λi hi=>(hy.2.2 i hi).trans (by rw[Zu])) rfl rfl
  . dsimp only at h hy ⊢
    have hn:0<l.length:=Za
    have e:deqR l 5 x=(l,1,l.getD 0 0):=by unfold deqR;rw[Ze Zb,Zf Zb,Ze Za,Zf rfl]
    have hy0 (i:Nat) (hi:i<l.length):y.3 (0+i) 0=l.getD i 0:=(congrArg (y.3 . 0) (Zu i)).trans ((hy.2.2 i hi).trans ((congrArg (z . 0) (Zu i)).trans (h4 i hi)))
    refine⟨⟨Za,Za,by have:=hy.1;omega⟩,hn,?_⟩
    exact QK _ _ _ _ _ _ _ _ _ _ _ rfl rfl rfl _ e rfl (Zq _) hy.1 (h4.sub λi hi=>(hy.2.2 i hi).trans (by rw[Zu])) rfl (hy0 0 hn)
 ·
  refine Qk (q:=∃(s:CloS),[Zt (.so 0 0 1 (Zg l) c nn)]=[Zt (.so 0 s.1 1 s.2 s.4 s.5)]/\[Zk 3 [.int .i64] 1 m c z]=[Zk 3 [.int .i64] 1 s.3 s.4 s.6]/\(s.1+s.2<=s.3/\s.2<=1000)/\∀(x_1:CloR),(s.2<=x_1.1/\((match ZE s.4 0 with|false=>false|true=>bif s.5 then false else true)=true->x_1.2=false/\x_1.1=0)/\∀(i:Nat),i<s.2->x_1.3 i 0=s.6 (s.1+i) 0)->s.2<=x_1.1/\endN (QH deqR) nzL rpL (LstS.mk l m c nn z (6:Int) key x) (ZS [Zt (.so 3 0 1 s.2 x_1.1 x_1.2),Zz [sI 1,sI (↑s.2:Int)]]) [Zk 3 [.int .i64] 1 m c z,Zj [sI 6,sI key,sI x] 34,Zj [sI 1,sI (↑s.2:Int)] 24,Zk 3 [.int .i64] 1 s.2 x_1.1 x_1.3]) Zc ?_
  exact⟨⟨0,l.length,m,c,nn,z⟩,rfl,rfl,hs,λy hy=>⟨hy.1,QK _ _ _ _ _ _ _ _ _ _ _ rfl rfl rfl (l,1,(l.length:Int)) rfl rfl (Zq _) hy.1 (h4.sub λi hi=>(hy.2.2 i hi).trans (by rw[Zu])) rfl rfl⟩⟩
structure UpS where
 l:List Int
 m:Nat
 c:Nat
 nn:Bool
 z:Nat->Nat->Int
abbrev UpS.pre (s:UpS):Prop:=s.l.length<=1000/\s.l.length<=s.m/\s.m<=s.c/\IsL s.z s.l
def Qae (p:List Int->Prop) (F:List Int->List Int):MCon where
 σ:=UpS
 χ:=Nat->Nat->Int
 pre s:=s.pre/\p s.l
 args s:=[.c (.so 0 0 1 s.l.length s.c s.nn)]
 mem s:=[Qaq s.m s.c s.z]
 ok s z:=IsL z (F s.l)
 val s z:=.o (.c (.so 0 0 1 s.l.length s.c s.nn))
 mem' s z:=[Qaq s.m s.c z]
 k:=1
 len:=1
 det:=none
 find args M:=some (blkA args)
theorem QcZ {p:List Int->Prop}{F:List Int->List Int}{s:UpS}{z:Nat->Nat->Int}(h:IsL z (F s.l)):endN (Qae p F) [] (Qi 1) s (.o (.c (.so 0 0 1 s.l.length s.c s.nn))) [Qaq s.m s.c z]:=
 ⟨z,h,rfl,rfl⟩
structure UpG (s:UpS) where
 l:List Int
 i:Nat
 z:Nat->Nat->Int
 hl:l.length=s.l.length
 hi:i<l.length
 hz:IsL z l
 he:∃f,i<=f/\upF f l i=upOf s.l
def annUp (s:UpS):Ann where
 σ:=UpG s
 I g:=([(0,.o (.c (.so 0 0 1 s.l.length s.c s.nn))),(3,sv (.int .i64 g.i))],[Qaq s.m s.c g.z])
 dec g:=g.i
 pi _ _:=[0]
 nz:=[]
theorem QjV {z:Nat->Nat->Int}{a b:Nat}{u v w:Int}(j:Nat) (ha:z (0+a) 0=u) (hb:z (0+b) 0=v) (hj:z j 0=w):
 (bif (match ZE j (0+b)with|false=>false|true=>ZL 0 0)then (match Zl [z (0+a) 0] 0 with|some x=>x|none=>(0:Int))
  else bif (match ZE j (0+a)with|false=>false|true=>ZL 0 0)then (match Zl [z (0+b) 0] 0 with|some x=>x|none=>(0:Int))else z j 0)=if j=b then u else if j=a then v else w:=by
 rw[Zu]at *
 rw[Zu]at *
 subst ha hb hj
 by_cases h1:j=b
 . subst h1;simp[Zl];rfl
 . rw[show ZE j b=false from nbeq h1,Ze h1]
   by_cases h2:j=a
   . subst h2;simp[Zl];rfl
   . rw[show ZE j a=false from nbeq h2,Ze h2];rfl
theorem up_con:(ZH (Qae (λl=>0<l.length) upOf)).holds Tryz.prog 79:=by
 intro w0 S
 refine Qa (Γ:=[]) (λ_=>noW) Tryz.func79 rfl Zc Qf Qc (λ_ _ _ _=>.nil _ _ _) (Qae _ upOf) (λs=>[(79,[(0,annUp s)])]) (λx0 h=>by cases h) (λs ρ w _ _ _=>Qj w _) [] (Qi 1) 400 ?_
 rintro⟨l,m,c,nn,z⟩ w ⟨⟨h1,h2,h3,h4⟩,h5⟩ -
 refine⟨rfl,?_⟩
 dsimp only at h1 h2 h3 h4 h5
 refine Qk (q:=Zg l<=c/\(∃(s0:Ann.σ (annUp (UpS.mk l m c nn z))),(eS (Zt (.so 0 0 1 (Zg l) c nn)) (Zt (.so 0 0 1 (Zg l) c nn))/\eS (aI (Zi .i64 ((↑(Zg l):Int)-(1:Int)))) (aI ↑s0.2)/\True)/\[Zk 3 [.int .i64] 1 m c z]=[Zk 3 [.int .i64] 1 m c s0.3])/\∀(s:UpG (UpS.mk l m c nn z)),bif decide ((↑s.2:Int)>(0:Int))then ((0:Int)<=(↑s.2:Int)/\(↑s.2:Int)<(↑(Zg l):Int)/\0+Zg l<=c)/\0+Zh (↑s.2:Int)<m/\(2:Int)≠(0:Int)/\((0:Int)<=Zi .i64 (Z7 (Zi .i64 ((↑s.2:Int)-(1:Int))) (2:Int))/\Zi .i64 (Z7 (Zi .i64 ((↑s.2:Int)-(1:Int))) (2:Int))<(↑(Zg l):Int)/\0+Zg l<=c)/\0+Zh (Zi .i64 (Z7 (Zi .i64 ((↑s.2:Int)-(1:Int))) (2:Int)))<m/\dP Tryz.f79 2 1 [xE 14,xE 13,xR 12 0,xF 11 0,xE 10,xE 9,xE 8,xF 7 0,xR 6 0,xF 5 0,xE 4,xF 3 0,xE 2,xE 1,xE 0]/\bif decide (s.3 (0+Zh (↑s.2:Int)) 0<s.3 (0+Zh (Zi .i64 (Z7 (Zi .i64 ((↑s.2:Int)-(1:Int))) (2:Int)))) 0)then (2:Int)≠(0:Int)/\(2:Int)≠(0:Int)/\((0:Int)<=Zi .i64 (Z7 (Zi .i64 ((↑s.2:Int)-(1:Int))) (2:Int))/\Zi .i64 (Z7 (Zi .i64 ((↑s.2:Int)-(1:Int))) (2:Int))<(↑(Zg l):Int)/\0+Zg l<=c)/\0+Zh (Zi .i64 (Z7 (Zi .i64 ((↑s.2:Int)-(1:Int))) (2:Int)))<m/\((0:Int)<=(↑s.2:Int)/\(↑s.2:Int)<(↑(Zg l):Int)/\0+Zg l<=c)/\0+Zh (↑s.2:Int)<m/\((0:Int)<=(↑s.2:Int)/\(↑s.2:Int)<(↑(Zg l):Int)/\0+Zg l<=c)/\0+Zh (↑s.2:Int)<m/\((0:Int)<=Zi .i64 (Z7 (Zi .i64 ((↑s.2:Int)-(1:Int))) (2:Int))/\Zi .i64 (Z7 (Zi .i64 ((↑s.2:Int)-(1:Int))) (2:Int))<(↑(Zg l):Int)/\0+Zg l<=c)/\0+Zh (Zi .i64 (Z7 (Zi .i64 ((↑s.2:Int)-(1:Int))) (2:Int)))<m/\dP Tryz.f79 4 1 [⟨19,[],[0],[],false⟩,xF 18 0,⟨17,[],[0],[],false⟩,xF 16 0,xR 15 0,xF 14 0,xE 13,xF 12 0,xR 11 0,xF 10 0,xE 9,xE 8,xE 7,xF 6 0,xE 5,xE 4,xE 3,xF 2 0,xE 1,xF 0 0]/\(2:Int)≠(0:Int)/\∃(s':UpG (UpS.mk l m c nn z)),((eS (Zt (.so 0 0 1 (Zg l) c nn)) (Zt (.so 0 0 1 (Zg l) c nn))/\eS (aI (Zi .i64 (Z7 (Zi .i64 ((↑s.2:Int)-(1:Int))) (2:Int)))) (aI ↑s'.2)/\True)/\[Zk 3 [.int .i64] 1 m c λ(i j:Nat)=>bif match ZE i (0+Zh (Zi .i64 (Z7 (Zi .i64 ((↑s.2:Int)-(1:Int))) (2:Int))))with|false=>false|true=>ZL j 0 then match Zl [s.3 (0+Zh (↑s.2:Int)) 0] j with|some x=>x|none=>(0:Int)else bif match ZE i (0+Zh (↑s.2:Int))with|false=>false|true=>ZL j 0 then match Zl [s.3 (0+Zh (Zi .i64 (Z7 (Zi .i64 ((↑s.2:Int)-(1:Int))) (2:Int)))) 0] j with|some x=>x|none=>(0:Int)else s.3 i j]=[Zk 3 [.int .i64] 1 m c s'.3])/\s'.2<s.2 else endN (Qae (λ(l:List Int)=>0<Zg l) upOf) [] (Qi 1) (UpS.mk l m c nn z) (ZG (Zt (.so 0 0 1 (Zg l) c nn))) [Zk 3 [.int .i64] 1 m c s.3]else dP Tryz.f79 2 1 [xE 14,xE 13,xE 12,xE 11,xE 10,xE 9,xE 8,xE 7,xE 6,xE 5,xE 4,xE 3,xE 2,xE 1,xE 0]/\endN (Qae (λ(l:List Int)=>0<Zg l) upOf) [] (Qi 1) (UpS.mk l m c nn z) (ZG (Zt (.so 0 0 1 (Zg l) c nn))) [Zk 3 [.int .i64] 1 m c s.3]) Zc ?_
 refine⟨Za,⟨⟨l,l.length-1,z,rfl,Za,h4,⟨l.length-1,Zq _,rfl⟩⟩,⟨rfl,by rw[lenW h1];congr 5;show _=((l.length-1:Nat):Int);omega,Zd⟩,rfl⟩,?_⟩
 rintro⟨l',i,z',hl,hi,hz,f,hf,he⟩
 dsimp only at hl hi hz hf he ⊢
 refine Qo (λhpos=>?_) (λhn=>⟨Qd Zc,QcZ ?_⟩)
 . have e:Zi .i64 (Z7 (Zi .i64 ((i:Int)-1)) 2)=(((i-1)/2:Nat):Int):=by
    rw[Qx (x:=(i:Int)-1) Za Za,Zax Za,Qx Za Za];omega
   have hz1:z' (0+i) 0=hp l' i:=(congrArg (z' . 0) (Zu i)).trans (hz i hi)
   have hz2:z' (0+(i-1)/2) 0=hp l' ((i-1)/2):=(congrArg (z' . 0) (Zu _)).trans (hz ((i-1)/2) Za)
   rw[e,Zv,Zv]
   refine⟨⟨Za,Za,Za⟩,Za,Zb,⟨Za,Za,Za⟩,Za,Qd Zc,Qo (λhlt=>?_) (λhge=>QcZ ?_)⟩
   . refine⟨Zb,Zb,⟨Za,Za,Za⟩,Za,⟨Za,Za,Za⟩,Za,⟨Za,Za,Za⟩,Za,⟨Za,Za,Za⟩,Za,Qd Zc,Zb,
      ⟨swp l' i ((i-1)/2),(i-1)/2,_,by rw[Qy,hl],by rw[Qy];omega,?_,⟨f-1,Za,?_⟩⟩,⟨⟨rfl,rfl,Zd⟩,rfl⟩,by dsimp only;omega⟩
     . intro j hj
       rw[Qy]at hj
       show _=hp (swp l' i ((i-1)/2)) j
       rw[Qcs _ _ _ _ hi Za]
       exact QjV j hz1 hz2 (hz j Za)
     . obtain⟨f,rfl⟩:∃f',f=f'+1:=⟨f-1,Za⟩
       rw[<- he];simp only[upF,Nat.add_sub_cancel]
       rw[Zf ⟨Za,hz1 ▸ hz2 ▸ hlt⟩]
   . rw[<- he]
     cases f with
     |zero=>exact hz
     |succ f=>simp only[upF];rw[Ze (λh=>hge (by rw[hz1,hz2];exact h.2))];exact hz
 . rw[<- he]
   cases f with
   |zero=>exact hz
   |succ f=>simp only[upF];rw[Ze Za];exact hz
structure DnG (s:UpS) where
 l:List Int
 i:Nat
 z:Nat->Nat->Int
 hl:l.length=s.l.length
 hi:i<=l.length
 hz:IsL z l
 he:∃f,l.length<=i+f/\QdI f l i=Qa2 s.l
def QoR (s:UpS):Ann where
 σ:=DnG s
 I g:=([(0,.o (.c (.so 0 0 1 s.l.length s.c s.nn))),(3,sv (.int .i64 g.i))],[Qaq s.m s.c g.z])
 dec g:=s.l.length-g.i
 pi _ _:=[0]
 nz:=[]
theorem Qp7:(ZH (Qae (λ_=>True) Qa2)).holds Tryz.prog 80:=by
 intro w0 S
 refine Qa (Γ:=[]) (λ_=>noW) Tryz.func80 rfl Zc Qf Qc (λ_ _ _ _=>.nil _ _ _) (Qae _ Qa2) (λs=>[(80,[(0,QoR s)])]) (λx0 h=>by cases h) (λs ρ w _ _ _=>Qj w _) [] (Qi 1) 400 ?_
 rintro⟨l,m,c,nn,z⟩ w ⟨⟨h1,h2,h3,h4⟩,-⟩ -
 refine⟨rfl,?_⟩
 dsimp only at h1 h2 h3 h4
 refine Qk (q:=(∃(s0:Ann.σ (QoR (UpS.mk l m c nn z))),(eS (Zt (.so 0 0 1 (Zg l) c nn)) (Zt (.so 0 0 1 (Zg l) c nn))/\eS (aI 0) (aI ↑s0.2)/\True)/\[Zk 3 [.int .i64] 1 m c z]=[Zk 3 [.int .i64] 1 m c s0.3])/\∀(s:DnG (UpS.mk l m c nn z)),Zg l<=c/\bif decide (Zi .i64 (Zi .i64 (Zi .i64 ((2:Int)*(↑s.2:Int))+(1:Int))+(1:Int))<(↑(Zg l):Int))then ((0:Int)<=Zi .i64 (Zi .i64 (Zi .i64 ((2:Int)*(↑s.2:Int))+(1:Int))+(1:Int))/\Zi .i64 (Zi .i64 (Zi .i64 ((2:Int)*(↑s.2:Int))+(1:Int))+(1:Int))<(↑(Zg l):Int)/\0+Zg l<=c)/\0+Zh (Zi .i64 (Zi .i64 (Zi .i64 ((2:Int)*(↑s.2:Int))+(1:Int))+(1:Int)))<m/\((0:Int)<=Zi .i64 (Zi .i64 ((2:Int)*(↑s.2:Int))+(1:Int))/\Zi .i64 (Zi .i64 ((2:Int)*(↑s.2:Int))+(1:Int))<(↑(Zg l):Int)/\0+Zg l<=c)/\0+Zh (Zi .i64 (Zi .i64 ((2:Int)*(↑s.2:Int))+(1:Int)))<m/\dP Tryz.f80 3 1 [xE 16,xE 15,xR 14 0,xF 13 0,xE 12,xF 11 0,xR 10 0,xF 9 0,xE 8,xE 7,xF 6 0,xE 5,xE 4,xE 3,xF 2 0,xE 1,xE 0]/\bif decide (s.3 (0+Zh (Zi .i64 (Zi .i64 (Zi .i64 ((2:Int)*(↑s.2:Int))+(1:Int))+(1:Int)))) 0<s.3 (0+Zh (Zi .i64 (Zi .i64 ((2:Int)*(↑s.2:Int))+(1:Int)))) 0)then Zg l<=c/\bif decide (Zi .i64 (Zi .i64 (Zi .i64 ((2:Int)*(↑s.2:Int))+(1:Int))+(1:Int))>=(↑(Zg l):Int))then dP Tryz.f80 5 1 [xE 14,xE 13,xE 12,xE 11,xE 10,xE 9,xE 8,xE 7,xE 6,xE 5,xE 4,xE 3,xE 2,xF 1 0,xE 0]/\endN (Qae (λ(x:List Int)=>True) Qa2) [] (Qi 1) (UpS.mk l m c nn z) (ZG (Zt (.so 0 0 1 (Zg l) c nn))) [Zk 3 [.int .i64] 1 m c s.3]else ((0:Int)<=(↑s.2:Int)/\(↑s.2:Int)<(↑(Zg l):Int)/\0+Zg l<=c)/\0+Zh (↑s.2:Int)<m/\((0:Int)<=Zi .i64 (Zi .i64 (Zi .i64 ((2:Int)*(↑s.2:Int))+(1:Int))+(1:Int))/\Zi .i64 (Zi .i64 (Zi .i64 ((2:Int)*(↑s.2:Int))+(1:Int))+(1:Int))<(↑(Zg l):Int)/\0+Zg l<=c)/\0+Zh (Zi .i64 (Zi .i64 (Zi .i64 ((2:Int)*(↑s.2:Int))+(1:Int))+(1:Int)))<m/\dP Tryz.f80 5 1 [xE 14,xE 13,xR 12 0,xF 11 0,xE 10,xF 9 0,xR 8 0,xF 7 0,xE 6,xF 5 0,xE 4,xE 3,xE 2,xF 1 0,xE 0]/\bif decide (s.3 (0+Zh (↑s.2:Int)) 0<=s.3 (0+Zh (Zi .i64 (Zi .i64 (Zi .i64 ((2:Int)*(↑s.2:Int))+(1:Int))+(1:Int)))) 0)then endN (Qae (λ(x:List Int)=>True) Qa2) [] (Qi 1) (UpS.mk l m c nn z) (ZG (Zt (.so 0 0 1 (Zg l) c nn))) [Zk 3 [.int .i64] 1 m c s.3]else ((0:Int)<=Zi .i64 (Zi .i64 (Zi .i64 ((2:Int)*(↑s.2:Int))+(1:Int))+(1:Int))/\Zi .i64 (Zi .i64 (Zi .i64 ((2:Int)*(↑s.2:Int))+(1:Int))+(1:Int))<(↑(Zg l):Int)/\0+Zg l<=c)/\0+Zh (Zi .i64 (Zi .i64 (Zi .i64 ((2:Int)*(↑s.2:Int))+(1:Int))+(1:Int)))<m/\((0:Int)<=(↑s.2:Int)/\(↑s.2:Int)<(↑(Zg l):Int)/\0+Zg l<=c)/\0+Zh (↑s.2:Int)<m/\((0:Int)<=(↑s.2:Int)/\(↑s.2:Int)<(↑(Zg l):Int)/\0+Zg l<=c)/\0+Zh (↑s.2:Int)<m/\((0:Int)<=Zi .i64 (Zi .i64 (Zi .i64 ((2:Int)*(↑s.2:Int))+(1:Int))+(1:Int))/\Zi .i64 (Zi .i64 (Zi .i64 ((2:Int)*(↑s.2:Int))+(1:Int))+(1:Int))<(↑(Zg l):Int)/\0+Zg l<=c)/\0+Zh (Zi .i64 (Zi .i64 (Zi .i64 ((2:Int)*(↑s.2:Int))+(1:Int))+(1:Int)))<m/\dP Tryz.f80 7 1 [⟨15,[],[0],[],false⟩,xF 14 0,⟨13,[],[0],[],false⟩,xF 12 0,xR 11 0,xF 10 0,xE 9,xF 8 0,xR 7 0,xF 6 0,xE 5,xF 4 0,xE 3,xF 2 0,xE 1,xF 0 0]/\∃(s':DnG (UpS.mk l m c nn z)),((eS (Zt (.so 0 0 1 (Zg l) c nn)) (Zt (.so 0 0 1 (Zg l) c nn))/\eS (aI (Zi .i64 (Zi .i64 (Zi .i64 ((2:Int)*(↑s.2:Int))+(1:Int))+(1:Int)))) (aI ↑s'.2)/\True)/\[Zk 3 [.int .i64] 1 m c λ(i j:Nat)=>bif match ZE i (0+Zh (Zi .i64 (Zi .i64 (Zi .i64 ((2:Int)*(↑s.2:Int))+(1:Int))+(1:Int))))with|false=>false|true=>ZL j 0 then match Zl [s.3 (0+Zh (↑s.2:Int)) 0] j with|some x=>x|none=>(0:Int)else bif match ZE i (0+Zh (↑s.2:Int))with|false=>false|true=>ZL j 0 then match Zl [s.3 (0+Zh (Zi .i64 (Zi .i64 (Zi .i64 ((2:Int)*(↑s.2:Int))+(1:Int))+(1:Int)))) 0] j with|some x=>x|none=>(0:Int)else s.3 i j]=[Zk 3 [.int .i64] 1 m c s'.3])/\Zg l-s'.2<Zg l-s.2 else Zg l<=c/\bif decide (Zi .i64 (Zi .i64 ((2:Int)*(↑s.2:Int))+(1:Int))>=(↑(Zg l):Int))then dP Tryz.f80 5 1 [xE 14,xE 13,xE 12,xE 11,xE 10,xE 9,xE 8,xE 7,xE 6,xE 5,xE 4,xE 3,xE 2,xF 1 0,xE 0]/\endN (Qae (λ(x:List Int)=>True) Qa2) [] (Qi 1) (UpS.mk l m c nn z) (ZG (Zt (.so 0 0 1 (Zg l) c nn))) [Zk 3 [.int .i64] 1 m c s.3]else ((0:Int)<=(↑s.2:Int)/\(↑s.2:Int)<(↑(Zg l):Int)/\0+Zg l<=c)/\0+Zh (↑s.2:Int)<m/\((0:Int)<=Zi .i64 (Zi .i64 ((2:Int)*(↑s.2:Int))+(1:Int))/\Zi .i64 (Zi .i64 ((2:Int)*(↑s.2:Int))+(1:Int))<(↑(Zg l):Int)/\0+Zg l<=c)/\0+Zh (Zi .i64 (Zi .i64 ((2:Int)*(↑s.2:Int))+(1:Int)))<m/\dP Tryz.f80 5 1 [xE 14,xE 13,xR 12 0,xF 11 0,xE 10,xF 9 0,xR 8 0,xF 7 0,xE 6,xF 5 0,xE 4,xE 3,xE 2,xF 1 0,xE 0]/\bif decide (s.3 (0+Zh (↑s.2:Int)) 0<=s.3 (0+Zh (Zi .i64 (Zi .i64 ((2:Int)*(↑s.2:Int))+(1:Int)))) 0)then endN (Qae (λ(x:List Int)=>True) Qa2) [] (Qi 1) (UpS.mk l m c nn z) (ZG (Zt (.so 0 0 1 (Zg l) c nn))) [Zk 3 [.int .i64] 1 m c s.3]else ((0:Int)<=Zi .i64 (Zi .i64 ((2:Int)*(↑s.2:Int))+(1:Int))/\Zi .i64 (Zi .i64 ((2:Int)*(↑s.2:Int))+(1:Int))<(↑(Zg l):Int)/\0+Zg l<=c)/\0+Zh (Zi .i64 (Zi .i64 ((2:Int)*(↑s.2:Int))+(1:Int)))<m/\((0:Int)<=(↑s.2:Int)/\(↑s.2:Int)<(↑(Zg l):Int)/\0+Zg l<=c)/\0+Zh (↑s.2:Int)<m/\((0:Int)<=(↑s.2:Int)/\(↑s.2:Int)<(↑(Zg l):Int)/\0+Zg l<=c)/\0+Zh (↑s.2:Int)<m/\((0:Int)<=Zi .i64 (Zi .i64 ((2:Int)*(↑s.2:Int))+(1:Int))/\Zi .i64 (Zi .i64 ((2:Int)*(↑s.2:Int))+(1:Int))<(↑(Zg l):Int)/\0+Zg l<=c)/\0+Zh (Zi .i64 (Zi .i64 ((2:Int)*(↑s.2:Int))+(1:Int)))<m/\dP Tryz.f80 7 1 [⟨15,[],[0],[],false⟩,xF 14 0,⟨13,[],[0],[],false⟩,xF 12 0,xR 11 0,xF 10 0,xE 9,xF 8 0,xR 7 0,xF 6 0,xE 5,xF 4 0,xE 3,xF 2 0,xE 1,xF 0 0]/\∃(s':DnG (UpS.mk l m c nn z)),((eS (Zt (.so 0 0 1 (Zg l) c nn)) (Zt (.so 0 0 1 (Zg l) c nn))/\eS (aI (Zi .i64 (Zi .i64 ((2:Int)*(↑s.2:Int))+(1:Int)))) (aI ↑s'.2)/\True)/\[Zk 3 [.int .i64] 1 m c λ(i j:Nat)=>bif match ZE i (0+Zh (Zi .i64 (Zi .i64 ((2:Int)*(↑s.2:Int))+(1:Int))))with|false=>false|true=>ZL j 0 then match Zl [s.3 (0+Zh (↑s.2:Int)) 0] j with|some x=>x|none=>(0:Int)else bif match ZE i (0+Zh (↑s.2:Int))with|false=>false|true=>ZL j 0 then match Zl [s.3 (0+Zh (Zi .i64 (Zi .i64 ((2:Int)*(↑s.2:Int))+(1:Int)))) 0] j with|some x=>x|none=>(0:Int)else s.3 i j]=[Zk 3 [.int .i64] 1 m c s'.3])/\Zg l-s'.2<Zg l-s.2 else dP Tryz.f80 3 1 [xE 16,xE 15,xE 14,xE 13,xE 12,xE 11,xE 10,xE 9,xE 8,xE 7,xE 6,xE 5,xE 4,xE 3,xF 2 0,xE 1,xE 0]/\Zg l<=c/\bif decide (Zi .i64 (Zi .i64 ((2:Int)*(↑s.2:Int))+(1:Int))>=(↑(Zg l):Int))then dP Tryz.f80 5 1 [xE 14,xE 13,xE 12,xE 11,xE 10,xE 9,xE 8,xE 7,xE 6,xE 5,xE 4,xE 3,xE 2,xF 1 0,xE 0]/\endN (Qae (λ(x:List Int)=>True) Qa2) [] (Qi 1) (UpS.mk l m c nn z) (ZG (Zt (.so 0 0 1 (Zg l) c nn))) [Zk 3 [.int .i64] 1 m c s.3]else ((0:Int)<=(↑s.2:Int)/\(↑s.2:Int)<(↑(Zg l):Int)/\0+Zg l<=c)/\0+Zh (↑s.2:Int)<m/\((0:Int)<=Zi .i64 (Zi .i64 ((2:Int)*(↑s.2:Int))+(1:Int))/\Zi .i64 (Zi .i64 ((2:Int)*(↑s.2:Int))+(1:Int))<(↑(Zg l):Int)/\0+Zg l<=c)/\0+Zh (Zi .i64 (Zi .i64 ((2:Int)*(↑s.2:Int))+(1:Int)))<m/\dP Tryz.f80 5 1 [xE 14,xE 13,xR 12 0,xF 11 0,xE 10,xF 9 0,xR 8 0,xF 7 0,xE 6,xF 5 0,xE 4,xE 3,xE 2,xF 1 0,xE 0]/\bif decide (s.3 (0+Zh (↑s.2:Int)) 0<=s.3 (0+Zh (Zi .i64 (Zi .i64 ((2:Int)*(↑s.2:Int))+(1:Int)))) 0)then endN (Qae (λ(x:List Int)=>True) Qa2) [] (Qi 1) (UpS.mk l m c nn z) (ZG (Zt (.so 0 0 1 (Zg l) c nn))) [Zk 3 [.int .i64] 1 m c s.3]else ((0:Int)<=Zi .i64 (Zi .i64 ((2:Int)*(↑s.2:Int))+(1:Int))/\Zi .i64 (Zi .i64 ((2:Int)*(↑s.2:Int))+(1:Int))<(↑(Zg l):Int)/\0+Zg l<=c)/\0+Zh (Zi .i64 (Zi .i64 ((2:Int)*(↑s.2:Int))+(1:Int)))<m/\((0:Int)<=(↑s.2:Int)/\(↑s.2:Int)<(↑(Zg l):Int)/\0+Zg l<=c)/\0+Zh (↑s.2:Int)<m/\((0:Int)<=(↑s.2:Int)/\(↑s.2:Int)<(↑(Zg l):Int)/\0+Zg l<=c)/\0+Zh (↑s.2:Int)<m/\((0:Int)<=Zi .i64 (Zi .i64 ((2:Int)*(↑s.2:Int))+(1:Int))/\Zi .i64 (Zi .i64 ((2:Int)*(↑s.2:Int))+(1:Int))<(↑(Zg l):Int)/\0+Zg l<=c)/\0+Zh (Zi .i64 (Zi .i64 ((2:Int)*(↑s.2:Int))+(1:Int)))<m/\dP Tryz.f80 7 1 [⟨15,[],[0],[],false⟩,xF 14 0,⟨13,[],[0],[],false⟩,xF 12 0,xR 11 0,xF 10 0,xE 9,xF 8 0,xR 7 0,xF 6 0,xE 5,xF 4 0,xE 3,xF 2 0,xE 1,xF 0 0]/\∃(s':DnG (UpS.mk l m c nn z)),((eS (Zt (.so 0 0 1 (Zg l) c nn)) (Zt (.so 0 0 1 (Zg l) c nn))/\eS (aI (Zi .i64 (Zi .i64 ((2:Int)*(↑s.2:Int))+(1:Int)))) (aI ↑s'.2)/\True)/\[Zk 3 [.int .i64] 1 m c λ(i j:Nat)=>bif match ZE i (0+Zh (Zi .i64 (Zi .i64 ((2:Int)*(↑s.2:Int))+(1:Int))))with|false=>false|true=>ZL j 0 then match Zl [s.3 (0+Zh (↑s.2:Int)) 0] j with|some x=>x|none=>(0:Int)else bif match ZE i (0+Zh (↑s.2:Int))with|false=>false|true=>ZL j 0 then match Zl [s.3 (0+Zh (Zi .i64 (Zi .i64 ((2:Int)*(↑s.2:Int))+(1:Int)))) 0] j with|some x=>x|none=>(0:Int)else s.3 i j]=[Zk 3 [.int .i64] 1 m c s'.3])/\Zg l-s'.2<Zg l-s.2) Zc ?_
 refine⟨⟨⟨l,0,z,rfl,Z9 _,h4,⟨l.length,Za,rfl⟩⟩,⟨rfl,rfl,Zd⟩,rfl⟩,?_⟩
 rintro⟨l',i,z',hl,hi,hz,f,hf,he⟩
 dsimp only at hl hi hz hf he ⊢
 have e1:Zi .i64 ((2:Int)*(i:Int))=((2*i:Nat):Int):=by rw[Qx Za Za];omega
 have e2:Zi .i64 (((2*i:Nat):Int)+1)=((2*i+1:Nat):Int):=by rw[Qx Za Za];omega
 have e3:Zi .i64 (((2*i+1:Nat):Int)+1)=((2*i+2:Nat):Int):=by rw[Qx Za Za];omega
 rw[e1,e2,e3,Zv,Zv,Zv]
 have zh (j:Nat) (hj:j<l'.length):z' (0+j) 0=hp l' j:=(congrArg (z' . 0) (Zu j)).trans (hz j hj)
 have kidA (ha:2*i+2<l'.length) (hb:z' (0+(2*i+2)) 0<z' (0+(2*i+1)) 0):kid l' i=2*i+2:=by
  rw[zh _ ha,zh _ Za]at hb;exact Zf ⟨ha,hb⟩
 have kidB (hb:l'.length<=2*i+2\/¬z' (0+(2*i+2)) 0<z' (0+(2*i+1)) 0):kid l' i=2*i+1:=by
  refine Ze (λh=>?_)
  rcases hb with hb|hb
  . omega
  . rw[zh _ h.1,zh _ Za]at hb;exact hb h.2
 have stop1 (k:Nat) (hk:kid l' i=k) (h:l'.length<=k):IsL z' (Qa2 l):=by
  rw[<- he]
  cases f with
  |zero=>exact hz
  |succ f=>simp only[QdI];rw[Zf (.inl Za)];exact hz
 have stop2 (k:Nat) (hk:kid l' i=k) (h0:i<l'.length) (h1:k<l'.length) (h:z' (0+i) 0<=z' (0+k) 0):IsL z' (Qa2 l):=by
  rw[zh _ h0,zh _ h1,<- hk]at h
  rw[<- he]
  cases f with
  |zero=>exact hz
  |succ f=>simp only[QdI];rw[Zf (.inr h)];exact hz
 have go (k:Nat) (hk:kid l' i=k) (h0:i<l'.length) (h1:k<l'.length) (h:¬z' (0+i) 0<=z' (0+k) 0):∃f',(swp l' i k).length<=k+f'/\QdI f' (swp l' i k) k=Qa2 l:=by
  rw[zh _ h0,zh _ h1,<- hk]at h
  obtain⟨f,rfl⟩:∃f',f=f'+1:=⟨f-1,Za⟩
  refine⟨f,by rw[Qy];omega,?_⟩
  rw[<- he];simp only[QdI];rw[Ze (λhh=>hh.elim Za h),hk]
 repeat' (first|exact Qd Zc|refine ZcU ?_ ?_|refine Qo (λ_=>?_) (λ_=>?_))
 all_goals (try omega)
 . rename_i a b c d
   exact QcZ (stop2 _ (kidA Za b) Za Za d)
 . rename_i a b c d
   refine⟨⟨swp l' i (2*i+2),2*i+2,_,by rw[Qy,hl],by rw[Qy];omega,?_,go _ (kidA Za b) Za Za d⟩,⟨⟨rfl,rfl,Zd⟩,rfl⟩,by dsimp only;omega⟩
   intro j hj
   rw[Qy]at hj
   show _=hp (swp l' i (2*i+2)) j
   rw[Qcs _ _ _ _ Za Za]
   exact QjV j (zh _ Za) (zh _ Za) (hz j hj)
 . rename_i a b c d
   exact QcZ (stop2 _ (kidB (.inr b)) Za Za d)
 . rename_i a b c d
   refine⟨⟨swp l' i (2*i+1),2*i+1,_,by rw[Qy,hl],by rw[Qy];omega,?_,go _ (kidB (.inr b)) Za Za d⟩,⟨⟨rfl,rfl,Zd⟩,rfl⟩,by dsimp only;omega⟩
   intro j hj
   rw[Qy]at hj
   show _=hp (swp l' i (2*i+1)) j
   rw[Qcs _ _ _ _ Za Za]
   exact QjV j (zh _ Za) (zh _ Za) (hz j hj)
 . exact QcZ (stop1 _ (kidB (.inl Za)) Za)
 . rename_i a c d
   exact QcZ (stop2 _ (kidB (.inl Za)) Za Za d)
 . rename_i a c d
   refine⟨⟨swp l' i (2*i+1),2*i+1,_,by rw[Qy,hl],by rw[Qy];omega,?_,go _ (kidB (.inl Za)) Za Za d⟩,⟨⟨rfl,rfl,Zd⟩,rfl⟩,by dsimp only;omega⟩
   intro j hj
   rw[Qy]at hj
   show _=hp (swp l' i (2*i+1)) j
   rw[Qcs _ _ _ _ Za Za]
   exact QjV j (zh _ Za) (zh _ Za) (hz j hj)
theorem QpU:(ZH (QH Xq)).holds Tryz.prog 60:=by
 intro w0 S
 refine Qc4 (AG:=[]) (Γ:=[(76,.rd Qa5),(79,.mem (Qae (λl=>0<l.length) upOf)),(80,.mem (Qae (λ_=>True) Qa2))]) (λ_=>noW) Tryz.func60 rfl Zc Qf Qc (λw S' _ _=>.cons (Qek w S') (.cons (up_con w S') (.cons (Qp7 w S') (.nil _ _ _)))) (QH Xq) (λx0 h=>by cases h) (λs ρ w _ _ _=>Qj w _)
  nzL rpL 400 ?_
 rintro⟨l,m,c,nn,z,k,key,x⟩ w ⟨h1,⟨h2m,h2c⟩,h4,h5,h6⟩ -
 refine⟨rfl,?_⟩
 dsimp only at h1 h2m h2c h4 h5 h6
 have h2:=ZV h2m h2c
 have hs:0+l.length<=m/\l.length<=1000:=⟨Za,Za⟩
 have hk:k=1\/k=2\/k=3\/k=4\/k=5\/k=6:=Za
 rcases hk with rfl|rfl|rfl|rfl|rfl|rfl
 ·
  refine Qk (q:=∃(s:CloS),[Zt (.so 0 0 1 (Zg l) c nn)]=[Zt (.so 0 s.1 1 s.2 s.4 s.5)]/\[Zk 3 [.int .i64] 1 m c z]=[Zk 3 [.int .i64] 1 s.3 s.4 s.6]/\(s.1+s.2<=s.3/\s.2<=1000)/\∀(x_1:CloR),(s.2<=x_1.1/\((match ZE s.4 0 with|false=>false|true=>bif s.5 then false else true)=true->x_1.2=false/\x_1.1=0)/\∀(i:Nat),i<s.2->x_1.3 i 0=s.6 (s.1+i) 0)->s.2<=x_1.1/\bif decide ((↑s.2:Int)>=(6:Int))then endN (QH Xq) nzL rpL (LstS.mk l m c nn z (1:Int) key x) (ZS [Zt (.so 3 0 1 s.2 x_1.1 x_1.2),Zz [sI 3,sI 0]]) [Zk 3 [.int .i64] 1 m c z,Zj [sI 1,sI key,sI x] 34,Zj [sI 3,sI 0] 24,Zk 3 [.int .i64] 1 s.2 x_1.1 x_1.3]else ((s.2<=s.2/\x_1.1=x_1.1)/\(1<=1/\1=1)/\s.2+1<=68719476736)/\∀(c_1:Nat),s.2+1<=c_1->∃(s_1:UpS),[Zt (.so 5 0 1 (s.2+1) c_1 x_1.2)]=[Zt (.so 5 0 1 (Zg s_1.1) s_1.3 s_1.4)]/\[Zk 3 [.int .i64] 1 (s.2+1) c_1 λ(i j:Nat)=>bif ZL (i+1) s.2 then x_1.3 i j else match Zl (match Zl [[x]] (0+(i-s.2))with|some x=>x|none=>[]) j with|some x=>x|none=>(0:Int)]=[Zk 3 [.int .i64] 1 s_1.2 s_1.3 s_1.5]/\((Zg s_1.1<=1000/\Zg s_1.1<=s_1.2/\s_1.2<=s_1.3/\IsL s_1.5 s_1.1)/\0<Zg s_1.1)/\∀(x_2:Nat->Nat->Int),IsL x_2 (upOf s_1.1)->endN (QH Xq) nzL rpL (LstS.mk l m c nn z (1:Int) key x) (ZS [Zt (.so 5 0 1 (Zg s_1.1) s_1.3 s_1.4),Zz [sI 1,sI 0]]) [Zk 3 [.int .i64] 1 m c z,Zj [sI 1,sI key,sI x] 34,Zj [sI 1,sI 0] 24,ZB,Zk 3 [.int .i64] 1 1 1 λ(i j:Nat)=>match Zl (match Zl [[x]] i with|some x=>x|none=>[]) j with|some x=>x|none=>(0:Int),Zk 3 [.int .i64] 1 s_1.2 s_1.3 x_2]) Zc ?_
  refine⟨⟨0,l.length,m,c,nn,z⟩,rfl,rfl,hs,λy hy=>⟨hy.1,Qo (λh=>?_) (λh=>?_)⟩⟩
  . have e:Xq l 1 x=(l,3,0):=by unfold Xq;rw[Zf rfl,Zf (by dsimp only at h;omega)]
    exact QK _ _ _ _ _ _ _ _ _ _ _ rfl rfl rfl _ e rfl (Zq _) hy.1 (h4.sub λi hi=>(hy.2.2 i hi).trans (by rw[Zu])) rfl rfl
  . dsimp only at h hy ⊢
    have e:Xq l 1 x=(upOf (l++[x]),1,0):=by unfold Xq upOf;rw[Zf rfl,Ze Za,Zw];rfl
    have hl:(l++[x]).length=l.length+1:=by simp
    refine⟨⟨⟨Zq _,rfl⟩,⟨Zq _,rfl⟩,Za⟩,λc' hc'=>⟨⟨l++[x],l.length+1,c',y.2,_⟩,by rw[hl],rfl,⟨⟨by rw[hl];omega,by rw[hl];exact Zq _,hc',?_⟩,by rw[hl];omega⟩,λz' hz'=>?_⟩⟩
    . exact h4.snoc (x:=x) (λi hi=>(catT hi).trans ((hy.2.2 i hi).trans (by rw[Zu]))) (catF.trans (by rw[Ye];rfl))
    exact QK _ _ _ _ _ _ _ _ _ _ _ rfl rfl rfl _ e (QgA _ _ _).symm (by rw[hl];exact Zq _) hc' hz' rfl rfl
 ·
  refine Qk (q:=∃(s:CloS),[Zt (.so 0 0 1 (Zg l) c nn)]=[Zt (.so 0 s.1 1 s.2 s.4 s.5)]/\[Zk 3 [.int .i64] 1 m c z]=[Zk 3 [.int .i64] 1 s.3 s.4 s.6]/\(s.1+s.2<=s.3/\s.2<=1000)/\∀(x_1:CloR),(s.2<=x_1.1/\((match ZE s.4 0 with|false=>false|true=>bif s.5 then false else true)=true->x_1.2=false/\x_1.1=0)/\∀(i:Nat),i<s.2->x_1.3 i 0=s.6 (s.1+i) 0)->s.2<=x_1.1/\bif (↑s.2:Int)==(0:Int)then endN (QH Xq) nzL rpL (LstS.mk l m c nn z (2:Int) key x) (ZS [Zt (.so 3 0 1 s.2 x_1.1 x_1.2),Zz [sI 2,sI 0]]) [Zk 3 [.int .i64] 1 m c z,Zj [sI 2,sI key,sI x] 34,Zj [sI 2,sI 0] 24,Zk 3 [.int .i64] 1 s.2 x_1.1 x_1.3]else ((0:Int)<=(0:Int)/\(0:Int)<(↑s.2:Int)/\0+s.2<=x_1.1)/\0<s.2/\s.2<=x_1.1/\((0:Int)<=Zi .i64 ((↑s.2:Int)-(1:Int))/\Zi .i64 ((↑s.2:Int)-(1:Int))<(↑s.2:Int)/\0+s.2<=x_1.1)/\0+Zh (Zi .i64 ((↑s.2:Int)-(1:Int)))<s.2/\((0:Int)<=(0:Int)/\(0:Int)<(↑s.2:Int)/\0+s.2<=x_1.1)/\0<s.2/\((0:Int)<=Zi .i64 ((↑s.2:Int)-(1:Int))/\Zi .i64 ((↑s.2:Int)-(1:Int))<=(↑x_1.1:Int))/\∃(s_1:UpS),[Zt (.so 3 0 1 (Zh (Zi .i64 ((↑s.2:Int)-(1:Int)))) x_1.1 x_1.2)]=[Zt (.so 3 0 1 (Zg s_1.1) s_1.3 s_1.4)]/\[Zk 3 [.int .i64] 1 s.2 x_1.1 λ(i j:Nat)=>bif match ZE i 0 with|false=>false|true=>ZL j 0 then match Zl [x_1.3 (0+Zh (Zi .i64 ((↑s.2:Int)-(1:Int)))) 0] j with|some x=>x|none=>(0:Int)else x_1.3 i j]=[Zk 3 [.int .i64] 1 s_1.2 s_1.3 s_1.5]/\((Zg s_1.1<=1000/\Zg s_1.1<=s_1.2/\s_1.2<=s_1.3/\IsL s_1.5 s_1.1)/\True)/\∀(x_2:Nat->Nat->Int),IsL x_2 (Qa2 s_1.1)->endN (QH Xq) nzL rpL (LstS.mk l m c nn z (2:Int) key x) (ZS [Zt (.so 3 0 1 (Zg s_1.1) s_1.3 s_1.4),Zz [sI 1,sI (x_1.3 0 0)]]) [Zk 3 [.int .i64] 1 m c z,Zj [sI 2,sI key,sI x] 34,Zj [sI 1,sI (x_1.3 0 0)] 24,Zk 3 [.int .i64] 1 s_1.2 s_1.3 x_2]) Zc ?_
  refine⟨⟨0,l.length,m,c,nn,z⟩,rfl,rfl,hs,λy hy=>⟨hy.1,QP (λh=>?_) (λh=>?_)⟩⟩
  . have e:Xq l 2 x=(l,2,0):=by unfold Xq;rw[Ze Zb,Zf (.inl rfl),Zf (by dsimp only at h;omega)]
    exact QK _ _ _ _ _ _ _ _ _ _ _ rfl rfl rfl _ e rfl (Zq _) hy.1 (h4.sub λi hi=>(hy.2.2 i hi).trans (by rw[Zu])) rfl rfl
  . dsimp only at h hy ⊢
    have hn:0<l.length:=Za
    have e:Xq l 2 x=(Qa2 ((l.set 0 (hp l (l.length-1))).take (l.length-1)),1,hp l 0):=by
     unfold Xq Qa2;rw[Ze Zb,Zf (.inl rfl),Ze Za,Ze Zb];congr 2;simp
    have ew:Zi .i64 ((l.length:Int)-1)=((l.length-1:Nat):Int):=by rw[Qx Za Za];omega
    have ht:((l.set 0 (hp l (l.length-1))).take (l.length-1)).length=l.length-1:=by simp
    have hy0 (i:Nat) (hi:i<l.length):y.3 i 0=hp l i:=(hy.2.2 i hi).trans ((congrArg (z . 0) (Zu i)).trans (h4 i hi))
    rw[ew,Zv]
    refine⟨⟨Za,Za,Za⟩,Za,Za,⟨Za,Za,Za⟩,Za,⟨Za,Za,Za⟩,Za,⟨Za,Za⟩,
     ⟨(l.set 0 (hp l (l.length-1))).take (l.length-1),l.length,y.1,y.2,_⟩,by rw[ht],rfl,⟨⟨by rw[ht];omega,ZV (Zae ht) (Zc0 _ _),hy.1,λi hi=>?_⟩,Zd⟩,λz' hz'=>?_⟩
    . rw[ht]at hi
      show _=hp _ i
      by_cases h0:i=0
      . subst h0
        simp only[hp,Zp,ZO,Zf hi,List.getElem?_set_self hn,Option.getD_some]
        exact (congrArg (y.3 . 0) (Zu _)).trans ((hy0 _ Za).trans (by simp[hp,Zp]))
      . rw[Qjg l _ _ i hi Za];dsimp only;rw[show ZE i 0=false from nbeq h0]
        exact hy0 i Za
    . exact QK _ _ _ _ _ _ _ _ _ _ _ rfl rfl rfl _ e (Qe5 _ _ _).symm (ZV (Zae ht) (Zc0 _ _)) hy.1 hz' rfl (hy0 0 hn)
 ·
  refine Qk (q:=∃(s:CloS),[Zt (.so 0 0 1 (Zg l) c nn)]=[Zt (.so 0 s.1 1 s.2 s.4 s.5)]/\[Zk 3 [.int .i64] 1 m c z]=[Zk 3 [.int .i64] 1 s.3 s.4 s.6]/\(s.1+s.2<=s.3/\s.2<=1000)/\∀(x_1:CloR),(s.2<=x_1.1/\((match ZE s.4 0 with|false=>false|true=>bif s.5 then false else true)=true->x_1.2=false/\x_1.1=0)/\∀(i:Nat),i<s.2->x_1.3 i 0=s.6 (s.1+i) 0)->endN (QH Xq) nzL rpL (LstS.mk l m c nn z (3:Int) key x) (ZS [Zt (.so 3 0 1 s.2 x_1.1 x_1.2),Zz [sI 5,sI 0]]) [Zk 3 [.int .i64] 1 m c z,Zj [sI 3,sI key,sI x] 34,Zj [sI 5,sI 0] 24,Zk 3 [.int .i64] 1 s.2 x_1.1 x_1.3]) Zc ?_
  exact⟨⟨0,l.length,m,c,nn,z⟩,rfl,rfl,hs,λy hy=>QK _ _ _ _ _ _ _ _ _ _ _ rfl rfl rfl (l,5,0) rfl rfl (Zq _) hy.1 (h4.sub λi hi=>(hy.2.2 i hi).trans (by rw[Zu])) rfl rfl⟩
 ·
  refine Qk (q:=∃(s:CloS),[Zt (.so 0 0 1 (Zg l) c nn)]=[Zt (.so 0 s.1 1 s.2 s.4 s.5)]/\[Zk 3 [.int .i64] 1 m c z]=[Zk 3 [.int .i64] 1 s.3 s.4 s.6]/\(s.1+s.2<=s.3/\s.2<=1000)/\∀(x_1:CloR),(s.2<=x_1.1/\((match ZE s.4 0 with|false=>false|true=>bif s.5 then false else true)=true->x_1.2=false/\x_1.1=0)/\∀(i:Nat),i<s.2->x_1.3 i 0=s.6 (s.1+i) 0)->endN (QH Xq) nzL rpL (LstS.mk l m c nn z (4:Int) key x) (ZS [Zt (.so 3 0 1 s.2 x_1.1 x_1.2),Zz [sI 5,sI 0]]) [Zk 3 [.int .i64] 1 m c z,Zj [sI 4,sI key,sI x] 34,Zj [sI 5,sI 0] 24,Zk 3 [.int .i64] 1 s.2 x_1.1 x_1.3]) Zc ?_
  exact⟨⟨0,l.length,m,c,nn,z⟩,rfl,rfl,hs,λy hy=>QK _ _ _ _ _ _ _ _ _ _ _ rfl rfl rfl (l,5,0) rfl rfl (Zq _) hy.1 (h4.sub λi hi=>(hy.2.2 i hi).trans (by rw[Zu])) rfl rfl⟩
 ·
  refine Qk (q:=∃(s:CloS),[Zt (.so 0 0 1 (Zg l) c nn)]=[Zt (.so 0 s.1 1 s.2 s.4 s.5)]/\[Zk 3 [.int .i64] 1 m c z]=[Zk 3 [.int .i64] 1 s.3 s.4 s.6]/\(s.1+s.2<=s.3/\s.2<=1000)/\∀(x_1:CloR),(s.2<=x_1.1/\((match ZE s.4 0 with|false=>false|true=>bif s.5 then false else true)=true->x_1.2=false/\x_1.1=0)/\∀(i:Nat),i<s.2->x_1.3 i 0=s.6 (s.1+i) 0)->s.2<=x_1.1/\bif (↑s.2:Int)==(0:Int)then endN (QH Xq) nzL rpL (LstS.mk l m c nn z (5:Int) key x) (ZS [Zt (.so 3 0 1 s.2 x_1.1 x_1.2),Zz [sI 2,sI 0]]) [Zk 3 [.int .i64] 1 m c z,Zj [sI 5,sI key,sI x] 34,Zj [sI 2,sI 0] 24,Zk 3 [.int .i64] 1 s.2 x_1.1 x_1.3]else ((0:Int)<=(0:Int)/\(0:Int)<(↑s.2:Int)/\0+s.2<=x_1.1)/\0<s.2/\endN (QH Xq) nzL rpL (LstS.mk l m c nn z (5:Int) key x) (ZS [Zt (.so 3 0 1 s.2 x_1.1 x_1.2),Zz [sI 1,sI (x_1.3 0 0)]]) [Zk 3 [.int .i64] 1 m c z,Zj [sI 5,sI key,sI x] 34,Zj [sI 1,sI (x_1.3 0 0)] 24,Zk 3 [.int .i64] 1 s.2 x_1.1 x_1.3]) Zc ?_
  refine⟨⟨0,l.length,m,c,nn,z⟩,rfl,rfl,hs,λy hy=>⟨hy.1,QP (λh=>?_) (λh=>?_)⟩⟩
  . have e:Xq l 5 x=(l,2,0):=by unfold Xq;rw[Ze Zb,Zf (.inr rfl),Zf (by dsimp only at h;omega)]
    exact QK _ _ _ _ _ _ _ _ _ _ _ rfl rfl rfl _ e rfl (Zq _) hy.1 (h4.sub λi hi=>(hy.2.2 i hi).trans (by rw[Zu])) rfl rfl
  . dsimp only at h hy ⊢
    have hn:0<l.length:=Za
    have e:Xq l 5 x=(l,1,hp l 0):=by unfold Xq;rw[Ze Zb,Zf (.inr rfl),Ze Za,Zf rfl]
    exact⟨⟨Za,Za,Za⟩,hn,QK _ _ _ _ _ _ _ _ _ _ _ rfl rfl rfl _ e rfl (Zq _) hy.1 (h4.sub λi hi=>(hy.2.2 i hi).trans (by rw[Zu])) rfl ((hy.2.2 0 hn).trans ((congrArg (z . 0) (Zu 0)).trans (h4 0 hn)))⟩
 ·
  refine Qk (q:=∃(s:CloS),[Zt (.so 0 0 1 (Zg l) c nn)]=[Zt (.so 0 s.1 1 s.2 s.4 s.5)]/\[Zk 3 [.int .i64] 1 m c z]=[Zk 3 [.int .i64] 1 s.3 s.4 s.6]/\(s.1+s.2<=s.3/\s.2<=1000)/\∀(x_1:CloR),(s.2<=x_1.1/\((match ZE s.4 0 with|false=>false|true=>bif s.5 then false else true)=true->x_1.2=false/\x_1.1=0)/\∀(i:Nat),i<s.2->x_1.3 i 0=s.6 (s.1+i) 0)->s.2<=x_1.1/\endN (QH Xq) nzL rpL (LstS.mk l m c nn z (6:Int) key x) (ZS [Zt (.so 3 0 1 s.2 x_1.1 x_1.2),Zz [sI 1,sI (↑s.2:Int)]]) [Zk 3 [.int .i64] 1 m c z,Zj [sI 6,sI key,sI x] 34,Zj [sI 1,sI (↑s.2:Int)] 24,Zk 3 [.int .i64] 1 s.2 x_1.1 x_1.3]) Zc ?_
  exact⟨⟨0,l.length,m,c,nn,z⟩,rfl,rfl,hs,λy hy=>⟨hy.1,QK _ _ _ _ _ _ _ _ _ _ _ rfl rfl rfl (l,1,(l.length:Int)) rfl rfl (Zq _) hy.1 (h4.sub λi hi=>(hy.2.2 i hi).trans (by rw[Zu])) rfl rfl⟩⟩
abbrev Qcz (f:Nat->Int):SB:=.cells [.ints (.int .i64) 16 f] 124
def QhQ:PCon:=⟨λargs=>match args with
 |[.c (.v (.int .i64 k))]=>0<=k/\k<=1000
 |_=>False,λargs=>match args with
 |[.c (.v (.int .i64 k))]=>sv (.int .i64 (k*5%8))
 |_=>sv undef,λ_=>none⟩
theorem QpS:(YE QhQ).holds Tryz.prog 89:=by
 refine QG (AG:=[]) (Γ:=[]) Tryz.func89 rfl Zc Qf Qc (λ_=>Za2 _ _ _) QhQ 200 ?_
 intro W args hp
 unfold QhQ at hp;dsimp only at hp;split at hp
 case h_2=>exact hp.elim
 rename_i k
 refine⟨rfl,?_⟩
 refine Qk (q:=(8:Int)≠(0:Int)/\ZG (aI (YT (Zi .i64 (k*(5:Int))) (8:Int)))=ZG (aI (k*(5:Int)%(8:Int)))/\true=true) Zc ?_
 exact⟨Zb,by rw[Qx Za Za,YR Za],rfl⟩
structure AtS where
 f:Nat->Int
 k:Int
def QhT:MCon:=dcon AtS (λs=>0<=s.k/\s.k<=1000) (λs=>[.c (.p 0 0),.c (.v (.int .i64 s.k))]) (λs=>[Qcz s.f])
 (λs=>sv (.int .i64 (atI (toN 16 s.f) s.k))) (λs=>[Qcz s.f]) 1 (λargs _=>some (blkA args))
structure AtG (s:AtS) where
 i:Nat
 hi:i<=8
 he:Qgj (toN 16 s.f) s.k (8-i) i=atI (toN 16 s.f) s.k
def Qq8 (s:AtS):Ann where
 σ:=AtG s
 I g:=([(0,.o (.c (.p 0 0))),(1,sv (.int .i64 s.k)),(7,sv (.int .i64 g.i))],[Qcz s.f])
 dec g:=8-g.i
 pi _ _:=[0]
 nz:=[]
theorem QoA:(ZH QhT).holds Tryz.prog 74:=by
 intro w0 S
 refine Qa (Γ:=[(89,.pure QhQ)]) (λ_=>noW) Tryz.func74 rfl Zc Qf Qc (λw S' _ _=>.cons (QpS w S') (.nil _ _ _)) QhT (λs=>[(74,[(0,Qq8 s)])]) (λx0 h s x=>⟨rfl,Zd⟩) (λs ρ w _ _ _=>Qj w _) [] (Qi 1) 400 ?_
 rintro⟨f,k⟩ w ⟨h0,h1⟩ -
 refine⟨rfl,?_⟩
 dsimp only at h0 h1
 refine Qk (q:=(∃(s0:Ann.σ (Qq8 (AtS.mk f k))),(eS (aP 0 0) (aP 0 0)/\eS (aI k) (aI k)/\eS (aI 0) (aI ↑s0.1)/\True)/\[Zj [nI 16 f] 124]=[Zj [nI 16 f] 124])/\∀(s:AtG (AtS.mk f k)),bif decide ((↑s.1:Int)<(8:Int))then ((0:Int)<=k/\k<=(1000:Int))/\(8:Int)≠(0:Int)/\((0:Int)<=YT (Zi .i64 (k*(5:Int)%(8:Int)+(↑s.1:Int))) (8:Int)/\YT (Zi .i64 (k*(5:Int)%(8:Int)+(↑s.1:Int))) (8:Int)<(8:Int))/\0+Zh (YT (Zi .i64 (k*(5:Int)%(8:Int)+(↑s.1:Int))) (8:Int))+Zh (YT (Zi .i64 (k*(5:Int)%(8:Int)+(↑s.1:Int))) (8:Int))<16/\bif f (0+Zh (YT (Zi .i64 (k*(5:Int)%(8:Int)+(↑s.1:Int))) (8:Int))+Zh (YT (Zi .i64 (k*(5:Int)%(8:Int)+(↑s.1:Int))) (8:Int)))==k then endN QhT [] (Qi 1) (AtS.mk f k) (ZG (aI (YT (Zi .i64 (k*(5:Int)%(8:Int)+(↑s.1:Int))) (8:Int)))) [Zj [nI 16 f] 124]else ((0:Int)<=YT (Zi .i64 (k*(5:Int)%(8:Int)+(↑s.1:Int))) (8:Int)/\YT (Zi .i64 (k*(5:Int)%(8:Int)+(↑s.1:Int))) (8:Int)<(8:Int))/\0+Zh (YT (Zi .i64 (k*(5:Int)%(8:Int)+(↑s.1:Int))) (8:Int))+Zh (YT (Zi .i64 (k*(5:Int)%(8:Int)+(↑s.1:Int))) (8:Int))<16/\bif f (0+Zh (YT (Zi .i64 (k*(5:Int)%(8:Int)+(↑s.1:Int))) (8:Int))+Zh (YT (Zi .i64 (k*(5:Int)%(8:Int)+(↑s.1:Int))) (8:Int)))==(0:Int)then endN QhT [] (Qi 1) (AtS.mk f k) (ZG (aI (YT (Zi .i64 (k*(5:Int)%(8:Int)+(↑s.1:Int))) (8:Int)))) [Zj [nI 16 f] 124]else ∃(s':AtG (AtS.mk f k)),((eS (aP 0 0) (aP 0 0)/\eS (aI k) (aI k)/\eS (aI (Zi .i64 ((↑s.1:Int)+(1:Int)))) (aI ↑s'.1)/\True)/\[Zj [nI 16 f] 124]=[Zj [nI 16 f] 124])/\8-s'.1<8-s.1 else endN QhT [] (Qi 1) (AtS.mk f k) (ZG (aI (-1:Int))) [Zj [nI 16 f] 124]) Zc ?_
 refine⟨⟨⟨0,Za,rfl⟩,⟨rfl,rfl,rfl,Zd⟩,rfl⟩,?_⟩
 rintro⟨i,hi,he⟩
 dsimp only at hi he ⊢
 have hend:∀a:Int,a=atI (toN 16 f) k->endN QhT [] (Qi 1) ⟨f,k⟩ (sv (.int .i64 a)) [Qcz f]:=λa h=>by subst h;exact⟨(),Zd,rfl,rfl⟩
 refine Qo (λhlt=>?_) (λhge=>hend _ ?_)
 . have es:YT (Zi .i64 (k*5%8+(i:Int))) 8=((QZ k i:Nat):Int):=by
    rw[Qx Za Za,YR Za];unfold QZ;omega
   have hs:=QaM k i
   have hf:f (0+QZ k i+QZ k i)=tk (toN 16 f) (QZ k i):=by unfold tk;rw[Xb Za];rfl
   rw[es,Zv,hf]
   obtain⟨n,hn⟩:∃n,8-i=n+1:=⟨7-i,Za⟩
   rw[hn]at he
   simp only[Qgj]at he
   refine⟨⟨h0,h1⟩,Zb,⟨Za,Za⟩,Za,QP (λh=>?_) (λh=>⟨⟨Za,Za⟩,Za,QP (λh2=>?_) (λh2=>?_)⟩)⟩
   . rw[Zf ((hit_iff _ _ _).2 (.inl h))]at he;exact hend _ he
   . rw[Zf ((hit_iff _ _ _).2 (.inr h2))]at he;exact hend _ he
   . rw[Ze (by rw[(Qe1 _ _ _).2 ⟨h,h2⟩];decide)]at he
     exact⟨⟨i+1,Za,by rw[show 8-(i+1)=n by omega];exact he⟩,⟨⟨rfl,rfl,svI (sucI Za),Zd⟩,rfl⟩,by dsimp only;omega⟩
 . obtain rfl:i=8:=Za
   rw[<- he];rfl
def QeO:PCon:=⟨λargs=>match args with
 |[.a [.ints (.int .i64) n f]]=>n=16
 |_=>False,λargs=>match args with
 |[.a [.ints (.int .i64) n f]]=>sv (.int .i64 (lenT (toN 16 f)))
 |_=>sv undef,λ_=>none⟩
structure LenG where
 i:Nat
 hi:i<=8
def QqU (f:Nat->Int):Ann where
 σ:=LenG
 I g:=([(3,sv (.int .i64 (Qb3 (toN 16 f) g.i))),(6,.o (.a [.ints (.int .i64) 16 f])),(7,sv (.int .i64 g.i))],[])
 dec g:=8-g.i
 pi _ _:=[]
 nz:=[]
def agLen:List SA->List (Nat × Anns)
 |[.a [.ints (.int .i64) n f]]=>[(73,[(0,QqU f)])]
 |_=>[]
theorem QjT:(YE QeO).holds Tryz.prog 73:=by
 refine QE (Γ:=[]) Tryz.func73 rfl Zc Qf Qc (λ_=>Za2 _ _ _) QeO agLen 400 ?_
 intro W args hp
 unfold QeO at hp;dsimp only at hp;split at hp
 case h_2=>exact hp.elim
 rename_i n f
 subst hp
 refine⟨rfl,?_⟩
 refine Qk (q:=(∃(s0:Ann.σ (QqU f)),(eS (aI 0) (aI (↑(Qb3 (toN 16 f) s0.1):Int))/\eS (Zz [nI 16 f]) (Zz [nI 16 f])/\eS (aI 0) (aI ↑s0.1)/\True)/\([]:List SB)=[])/\∀(s:LenG),bif decide ((↑s.1:Int)<(8:Int))then (iR (↑s.1:Int) (8:Int))/\bif f (0+Zh (↑s.1:Int)+Zh (↑s.1:Int)) != (0:Int)then ∃(s':LenG),((eS (aI (Zi .i64 ((↑(Qb3 (toN 16 f) s.1):Int)+(1:Int)))) (aI (↑(Qb3 (toN 16 f) s'.1):Int))/\eS (Zz [nI 16 f]) (Zz [nI 16 f])/\eS (aI (Zi .i64 ((↑s.1:Int)+(1:Int)))) (aI ↑s'.1)/\True)/\([]:List SB)=[])/\8-s'.1<8-s.1 else ∃(s':LenG),((eS (aI (↑(Qb3 (toN 16 f) s.1):Int)) (aI (↑(Qb3 (toN 16 f) s'.1):Int))/\eS (Zz [nI 16 f]) (Zz [nI 16 f])/\eS (aI (Zi .i64 ((↑s.1:Int)+(1:Int)))) (aI ↑s'.1)/\True)/\([]:List SB)=[])/\8-s'.1<8-s.1 else endP QeO [Zz [nI 16 f]] (ZG (aI (↑(Qb3 (toN 16 f) s.1):Int))) []) Zc ?_
 refine⟨⟨⟨0,Za⟩,⟨rfl,rfl,rfl,Zd⟩,rfl⟩,?_⟩
 rintro⟨i,hi⟩
 dsimp only
 have hc:=Qqg (toN 16 f) i
 refine Qo (λhlt=>⟨⟨Za,Za⟩,?_⟩) (λhge=>?_)
 . have hf:f (0+(i:Int).toNat+(i:Int).toNat)=tk (toN 16 f) i:=by unfold tk;rw[Xb Za];rfl
   rw[hf]
   refine QB (λh=>?_) (λh=>?_)
   . exact⟨⟨i+1,Za⟩,⟨⟨svI ((sucI Za).trans (by simp only[Qb3];rw[Ze h])),rfl,svI (sucI Za),Zd⟩,rfl⟩,by dsimp only;omega⟩
   . exact⟨⟨i+1,Za⟩,⟨⟨svI (by simp only[Qb3];rw[Zf h];rfl),rfl,svI (sucI Za),Zd⟩,rfl⟩,by dsimp only;omega⟩
 . obtain rfl:i=8:=Za
   exact⟨rfl,λρ=>rfl⟩
def Xs:PCon:=⟨λargs=>match args with
 |[.a [.ints (.int .i64) n f]]=>n=16/\Good (toN 16 f)
 |_=>False,λ_=>sv (.bool true),λ_=>none⟩
def QkH (f:Nat->Int):Ann where
 σ:=LenG
 I g:=([(1,.o (.c (.p 0 0))),(8,.o (.a [.ints (.int .i64) 16 f])),(9,sv (.int .i64 g.i))],[Qcz f])
 dec g:=8-g.i
 pi _ _:=[0]
 nz:=[]
def Qsn:List SA->List (Nat × Anns)
 |[.a [.ints (.int .i64) n f]]=>[(72,[(0,QkH f)])]
 |_=>[]
theorem QkO:(YE Xs).holds Tryz.prog 72:=by
 refine QE (Γ:=[(73,.pure QeO),(74,.mem QhT)]) Tryz.func72 rfl Zc Qf Qc (λW=>.cons (QjT W _) (.cons (QoA W _) (.nil _ _ _))) Xs Qsn 400 ?_
 intro W args hp
 unfold Xs at hp;dsimp only at hp;split at hp
 case h_2=>exact hp.elim
 rename_i n f
 obtain⟨rfl,hg⟩:=hp
 refine⟨rfl,?_⟩
 refine Qk (q:=16=16/\bif decide ((↑(lenT (toN 16 f)):Int)>(6:Int))then endP Xs [Zz [nI 16 f]] (ZG (aB false)) []else (∃(s0:Ann.σ (QkH f)),(eS (aP 0 0) (aP 0 0)/\eS (Zz [nI 16 f]) (Zz [nI 16 f])/\eS (aI 0) (aI ↑s0.1)/\True)/\[Zj [nI 16 f] 124]=[Zj [nI 16 f] 124])/\∀(s:LenG),bif decide ((↑s.1:Int)<(8:Int))then (iR (↑s.1:Int) (8:Int))/\bif decide (f (0+Zh (↑s.1:Int)+Zh (↑s.1:Int))<(0:Int))then endP Xs [Zz [nI 16 f]] (ZG (aB false)) []else bif decide (f (0+Zh (↑s.1:Int)+Zh (↑s.1:Int))>(1000:Int))then endP Xs [Zz [nI 16 f]] (ZG (aB false)) []else bif decide (f (0+Zh (↑s.1:Int)+Zh (↑s.1:Int)+1)<(0:Int))then endP Xs [Zz [nI 16 f]] (ZG (aB false)) []else bif decide (f (0+Zh (↑s.1:Int)+Zh (↑s.1:Int)+1)>(4294967295:Int))then endP Xs [Zz [nI 16 f]] (ZG (aB false)) []else bif f (0+Zh (↑s.1:Int)+Zh (↑s.1:Int))==(0:Int)then bif f (0+Zh (↑s.1:Int)+Zh (↑s.1:Int)+1) != (0:Int)then endP Xs [Zz [nI 16 f]] (ZG (aB false)) []else bif f (0+Zh (↑s.1:Int)+Zh (↑s.1:Int)) != (0:Int)then ∃(s_1:AtS),[aP 0 0,aI (f (0+Zh (↑s.1:Int)+Zh (↑s.1:Int)))]=[aP 0 0,aI s_1.2]/\[Zj [nI 16 f] 124]=[Zj [nI 16 s_1.1] 124]/\((0:Int)<=s_1.2/\s_1.2<=(1000:Int))/\∀(x:Unit),True->bif atI (toN 16 s_1.1) s_1.2 != (↑s.1:Int)then endP Xs [Zz [nI 16 f]] (ZG (aB false)) []else ∃(s':LenG),((eS (aP 0 0) (aP 0 0)/\eS (Zz [nI 16 f]) (Zz [nI 16 f])/\eS (aI (Zi .i64 ((↑s.1:Int)+(1:Int)))) (aI ↑s'.1)/\True)/\[Zj [nI 16 s_1.1] 124]=[Zj [nI 16 f] 124])/\8-s'.1<8-s.1 else ∃(s':LenG),((eS (aP 0 0) (aP 0 0)/\eS (Zz [nI 16 f]) (Zz [nI 16 f])/\eS (aI (Zi .i64 ((↑s.1:Int)+(1:Int)))) (aI ↑s'.1)/\True)/\[Zj [nI 16 f] 124]=[Zj [nI 16 f] 124])/\8-s'.1<8-s.1 else bif f (0+Zh (↑s.1:Int)+Zh (↑s.1:Int)) != (0:Int)then ∃(s_1:AtS),[aP 0 0,aI (f (0+Zh (↑s.1:Int)+Zh (↑s.1:Int)))]=[aP 0 0,aI s_1.2]/\[Zj [nI 16 f] 124]=[Zj [nI 16 s_1.1] 124]/\((0:Int)<=s_1.2/\s_1.2<=(1000:Int))/\∀(x:Unit),True->bif atI (toN 16 s_1.1) s_1.2 != (↑s.1:Int)then endP Xs [Zz [nI 16 f]] (ZG (aB false)) []else ∃(s':LenG),((eS (aP 0 0) (aP 0 0)/\eS (Zz [nI 16 f]) (Zz [nI 16 f])/\eS (aI (Zi .i64 ((↑s.1:Int)+(1:Int)))) (aI ↑s'.1)/\True)/\[Zj [nI 16 s_1.1] 124]=[Zj [nI 16 f] 124])/\8-s'.1<8-s.1 else ∃(s':LenG),((eS (aP 0 0) (aP 0 0)/\eS (Zz [nI 16 f]) (Zz [nI 16 f])/\eS (aI (Zi .i64 ((↑s.1:Int)+(1:Int)))) (aI ↑s'.1)/\True)/\[Zj [nI 16 f] 124]=[Zj [nI 16 f] 124])/\8-s'.1<8-s.1 else endP Xs [Zz [nI 16 f]] (ZG (aB true)) []) Zc ?_
 refine⟨rfl,Qo (λh=>absurd hg.few Za) (λ_=>⟨⟨⟨0,Za⟩,⟨rfl,rfl,rfl,Zd⟩,rfl⟩,?_⟩)⟩
 rintro⟨i,hi⟩
 dsimp only
 refine Qo (λhlt=>⟨⟨Za,Za⟩,?_⟩) (λ_=>⟨rfl,λρ=>rfl⟩)
 have hi8:i<8:=Za
 have hk:f (0+(i:Int).toNat+(i:Int).toNat)=tk (toN 16 f) i:=by unfold tk;rw[Xb Za];rfl
 have hv:f (0+(i:Int).toNat+(i:Int).toNat+1)=tv (toN 16 f) i:=by unfold tv;rw[Xb Za];rfl
 have k0:=hg.key0 i hi8
 have k1:=hg.key1 i hi8
 have v0:=hg.val0 i hi8
 have v1:=hg.val1 i hi8
 have hnext:∀(M:List SB),M=[Qcz f]->∃s':LenG,((some (ZG (Zt (.p 0 0)))=some (ZG (Zt (.p 0 0)))/\some (ZG (Zz [.ints (.int .i64) 16 f]))=some (ZG (Zz [.ints (.int .i64) 16 f]))/\some (sv (.int .i64 (Zi .i64 ((i:Int)+1))))=some (sv (.int .i64 s'.i))/\True)/\M=[Qcz f])/\8-s'.i<8-i:=
  λM hM=>⟨⟨i+1,Za⟩,⟨⟨rfl,rfl,svI (sucI Za),Zd⟩,hM⟩,by dsimp only;omega⟩
 refine Qo (λh=>absurd h Za) (λ_=>Qo (λh=>absurd h Za) (λ_=>Qo (λh=>absurd h Za) (λ_=>Qo (λh=>absurd h Za) (λ_=>QP (λh=>?_) (λh=>?_)))))
 . refine QB (λh2=>absurd ?_ h2) (λ_=>QB (λh3=>absurd h h3) (λ_=>hnext _ rfl))
   rw[hv];exact hg.none i hi8 (by rw[<- hk];exact h)
 . refine QB (λ_=>⟨⟨f,_⟩,rfl,rfl,⟨by rw[hk];exact k0,by rw[hk];exact k1⟩,λ_ _=>?_⟩) (λh3=>absurd h3 h)
   refine QB (λh4=>absurd ?_ h4) (λ_=>hnext _ rfl)
   dsimp only
   rw[hk];exact hg.found i hi8 (by rw[<- hk];exact h)
def QcN:PCon:=⟨λargs=>match args with
 |[.a [.ints (.int .i64) n f],.c (.v (.int .i64 i))]=>n=16/\Good (toN 16 f)/\0<=i/\i<8/\tk (toN 16 f) i.toNat≠0
 |_=>False,λargs=>match args with
 |[.a [.ints (.int .i64) n f],.c (.v (.int .i64 i))]=>.o (.a [.ints (.int .i64) 16 (fL (Qe8 (toN 16 f) i.toNat))])
 |_=>sv undef,λ_=>none⟩
structure CloG (t:List Int) (i:Nat) where
 n:Nat
 f:Nat->Int
 hn:n<XQ t i
 hf:toN 16 f=Qlv t i n
def Qja (t:List Int) (i:Nat):Ann where
 σ:=CloG t i
 I g:=([(2,.o (.c (.p 0 0))),(4,.o (.c (.p 1 0))),(5,sv (.int .i64 (((i+1+g.n)%8:Nat):Int)))],[Qcz g.f,Qcz (λ_=>0)])
 dec g:=XQ t i-g.n
 pi _ _:=[0,1]
 nz:=[]
def QqD:List SA->List (Nat × Anns)
 |[.a [.ints (.int .i64) n f],.c (.v (.int .i64 i))]=>[(75,[(0,Qja (toN 16 f) i.toNat)])]
 |_=>[]
theorem QjQ (f:Nat->Int) (i j:Nat) (a b:Int):
 (bif (match ZL (0+i+i) j with|false=>false|true=>ZL j (0+i+i+1))then (match Zl [a,b] (j-(0+i+i))with|some x=>x|none=>(0:Int))else f j)=if j=i*2+1 then b else if j=i*2 then a else f j:=by
 by_cases h1:j=i*2+1
 . subst h1
   rw[show ZL (0+i+i) (i*2+1)=true from Qi0 Za,show ZL (i*2+1) (0+i+i+1)=true from Qi0 Za,Zf rfl,show i*2+1-(0+i+i)=1 by omega];rfl
 . rw[Ze h1]
   by_cases h2:j=i*2
   . subst h2
     rw[show ZL (0+i+i) (i*2)=true from Qi0 Za,show ZL (i*2) (0+i+i+1)=true from Qi0 Za,Zf rfl,show i*2-(0+i+i)=0 by omega];rfl
   . rw[Ze h2]
     by_cases h3:0+i+i<=j
     . rw[show ZL (0+i+i) j=true from Qi0 h3,show ZL j (0+i+i+1)=false from Qov Za];rfl
     . rw[show ZL (0+i+i) j=false from Qov Za];rfl
theorem Qfi (f:Nat->Int) (i:Nat) (a b:Int) (h:i<8):
 toN 16 (λj=>bif (match ZL (0+i+i) j with|false=>false|true=>ZL j (0+i+i+1))then (match Zl [a,b] (j-(0+i+i))with|some x=>x|none=>(0:Int))else f j)=setS (toN 16 f) i a b:=by
 unfold setS
 rw[Qje,Qje]
 exact QdP λj hj=>QjQ f i j a b
theorem Ql6:(YE QcN).holds Tryz.prog 75:=by
 refine QE (Γ:=[(74,.mem QhT)]) Tryz.func75 rfl Zc Qf Qc (λW=>.cons (QoA W _) (.nil _ _ _)) QcN QqD 400 ?_
 intro W args hp
 unfold QcN at hp;dsimp only at hp;split at hp
 case h_2=>exact hp.elim
 rename_i n f i
 obtain⟨rfl,hg,h0,h8,hk⟩:=hp
 refine⟨rfl,?_⟩
 refine Qk (q:=(iR i (8:Int))/\0+Zh i+Zh i+1+1<=16/\(8:Int)≠(0:Int)/\(∃(s0:Ann.σ (Qja (toN 16 f) (Zh i))),(eS (aP 0 0) (aP 0 0)/\eS (aP 1 0) (aP 1 0)/\eS (aI (YT (Zi .i64 (i+(1:Int))) (8:Int))) (aI (↑((Zh i+1+s0.1)%8):Int))/\True)/\[Zj [nI 16 λ(j:Nat)=>bif match ZL (0+Zh i+Zh i) j with|false=>false|true=>ZL j (0+Zh i+Zh i+1)then match Zl [(0:Int),(0:Int)] (j-(0+Zh i+Zh i))with|some x=>x|none=>(0:Int)else f j] 124,Zj [nI 16 zF] 124]=[Zj [nI 16 s0.2] 124,Zj [nI 16 zF] 124])/\∀(s:CloG (toN 16 f) (Zh i)),((0:Int)<=(↑((Zh i+1+s.1)%8):Int)/\(↑((Zh i+1+s.1)%8):Int)<(8:Int))/\0+Zh (↑((Zh i+1+s.1)%8):Int)+Zh (↑((Zh i+1+s.1)%8):Int)<16/\bif s.2 (0+Zh (↑((Zh i+1+s.1)%8):Int)+Zh (↑((Zh i+1+s.1)%8):Int)) != (0:Int)then ((0:Int)<=(↑((Zh i+1+s.1)%8):Int)/\(↑((Zh i+1+s.1)%8):Int)<(8:Int))/\0+Zh (↑((Zh i+1+s.1)%8):Int)+Zh (↑((Zh i+1+s.1)%8):Int)+1+1<=16/\((0:Int)<=(↑((Zh i+1+s.1)%8):Int)/\(↑((Zh i+1+s.1)%8):Int)<(8:Int))/\0+Zh (↑((Zh i+1+s.1)%8):Int)+Zh (↑((Zh i+1+s.1)%8):Int)+1+1<=16/\∃(s_1:AtS),[aP 0 0,aI (s.2 (0+Zh (↑((Zh i+1+s.1)%8):Int)+Zh (↑((Zh i+1+s.1)%8):Int)))]=[aP 0 0,aI s_1.2]/\[Zj [nI 16 λ(j:Nat)=>bif match ZL (0+Zh (↑((Zh i+1+s.1)%8):Int)+Zh (↑((Zh i+1+s.1)%8):Int)) j with|false=>false|true=>ZL j (0+Zh (↑((Zh i+1+s.1)%8):Int)+Zh (↑((Zh i+1+s.1)%8):Int)+1)then match Zl [(0:Int),(0:Int)] (j-(0+Zh (↑((Zh i+1+s.1)%8):Int)+Zh (↑((Zh i+1+s.1)%8):Int)))with|some x=>x|none=>(0:Int)else s.2 j] 124]=[Zj [nI 16 s_1.1] 124]/\((0:Int)<=s_1.2/\s_1.2<=(1000:Int))/\∀(x:Unit),True->((0:Int)<=atI (toN 16 s_1.1) s_1.2/\atI (toN 16 s_1.1) s_1.2<(8:Int))/\0+Zh (atI (toN 16 s_1.1) s_1.2)+Zh (atI (toN 16 s_1.1) s_1.2)+1+1<=16/\dP Tryz.f75 7 3 [⟨5,[],[0],[],false⟩,xF 4 0,xR 3 2,⟨2,[],[0],[],false⟩,xR 1 2,xF 0 2]/\(8:Int)≠(0:Int)/\∃(s':CloG (toN 16 f) (Zh i)),((eS (aP 0 0) (aP 0 0)/\eS (aP 1 0) (aP 1 0)/\eS (aI (YT (Zi .i64 ((↑((Zh i+1+s.1)%8):Int)+(1:Int))) (8:Int))) (aI (↑((Zh i+1+s'.1)%8):Int))/\True)/\[Zj [nI 16 λ(j:Nat)=>bif match ZL (0+Zh (atI (toN 16 s_1.1) s_1.2)+Zh (atI (toN 16 s_1.1) s_1.2)) j with|false=>false|true=>ZL j (0+Zh (atI (toN 16 s_1.1) s_1.2)+Zh (atI (toN 16 s_1.1) s_1.2)+1)then match Zl [s.2 (0+Zh (↑((Zh i+1+s.1)%8):Int)+Zh (↑((Zh i+1+s.1)%8):Int)),s.2 (0+Zh (↑((Zh i+1+s.1)%8):Int)+Zh (↑((Zh i+1+s.1)%8):Int)+1)] (j-(0+Zh (atI (toN 16 s_1.1) s_1.2)+Zh (atI (toN 16 s_1.1) s_1.2)))with|some x=>x|none=>(0:Int)else s_1.1 j] 124,Zj [nI 16 zF] 124]=[Zj [nI 16 s'.2] 124,Zj [nI 16 zF] 124])/\XQ (toN 16 f) (Zh i)-s'.1<XQ (toN 16 f) (Zh i)-s.1 else endP QcN [Zz [nI 16 f],aI i] (ZG (Zz [nI 16 s.2])) []) Zc ?_
 obtain⟨n0,rfl⟩:=Z6 h0
 rw[Zv]at hk ⊢
 have hn8:n0<8:=Za
 obtain⟨E1,E7,hrun,hstop⟩:=Qcm hg n0 hn8 hk
 refine⟨⟨Za,Za⟩,Za,Zb,⟨⟨0,_,Za,?_⟩,⟨rfl,rfl,svI ?_,Zd⟩,rfl⟩,?_⟩
 . exact Qfi _ n0 0 0 hn8
 . dsimp only;rw[sucI Za,YR Za];omega
 rintro⟨n,g,hn,hgt⟩
 dsimp only at hn hgt ⊢
 have hI:=Qf2 hg n0 hn8 hk n hn
 rw[<- hgt]at hI
 have hj:(n0+1+n)%8<8:=Nat.mod_lt _ Zb
 have hq:tk (toN 16 g) ((n0+(n+1))%8)=tk (toN 16 g) ((n0+1+n)%8):=by congr 2;omega
 have hst:(toN 16 g)=Qlv (toN 16 f) n0 n:=hgt
 generalize hm:(n0+1+n)%8=q at *
 rw[Zv]
 have gk:g (0+q+q)=tk (toN 16 g) q:=by unfold tk;rw[Xb Za];rfl
 have gv:g (0+q+q+1)=tv (toN 16 g) q:=by unfold tv;rw[Xb Za];rfl
 have k0:=hI.key0 q hj
 have k1:=hI.key1 q hj
 refine⟨⟨Za,Za⟩,Za,QB (λh=>?_) (λh=>?_)⟩
 . have hne:n+1<XQ (toN 16 f) n0:=by
    rcases Yy (n+1) (XQ (toN 16 f) n0)with h1|h1
    . exact h1
    . exfalso;apply h
      rw[gk,<- hq,show n+1=XQ (toN 16 f) n0 by omega];exact hI.stop
   have hU:=Qfi g q 0 0 hj
   have hat:=(QjX hI hn8 hne E7)
   rw[hm]at hat
   obtain⟨a,ha,hae,-⟩:=hat
   refine⟨⟨Za,Za⟩,Za,⟨Za,Za⟩,Za,⟨_,_⟩,rfl,rfl,⟨by rw[gk];exact k0,by rw[gk];exact k1⟩,λ_ _=>?_⟩
   dsimp only[cond]at hU ⊢
   rw[hU,gk,hae,Zv,gv]
   refine⟨⟨Za,Za⟩,Za,Qd Zc,Zb,⟨n+1,_,hne,?_⟩,⟨⟨rfl,rfl,svI ?_,Zd⟩,rfl⟩,by dsimp only;omega⟩
   . refine (Qfi _ a _ _ ha).trans ?_
     rw[hU]
     simp only[Qlv]
     rw[<- hst,hm]
     unfold Qo9
     rw[hae];rfl
   . dsimp only;rw[sucI Za,YR Za];omega
 . have hne:n+1=XQ (toN 16 f) n0:=by
    rcases Yy (n+1) (XQ (toN 16 f) n0)with h1|h1
    . exact absurd (hq.trans (gk.symm.trans h)) (hI.run (n+1) Za h1)
    . omega
   refine⟨rfl,λρ=>QaE λi hi=>?_⟩
   dsimp only[Zv]
   rw[show Qe8 (toN 16 f) n0=toN 16 g by rw[hst];unfold Qe8;rw[<- hne];rfl,Qe3 hi]
def Xx:PCon:=⟨λargs=>match args with
 |[.a [.ints (.int .i64) n f],.a [.one (.v (.int .i64 k)),.one (.v (.int .i64 key)),.one (.v (.int .i64 x))]]=>n=16/\Good (toN 16 f)/\opOk k key x=true
 |_=>False,λargs=>match args with
 |[.a [.ints (.int .i64) n f],.a [.one (.v (.int .i64 k)),.one (.v (.int .i64 key)),.one (.v (.int .i64 x))]]=>
  .t [.a [.ints (.int .i64) 16 (fL (doT (toN 16 f) k key x).1)],ansA (doT (toN 16 f) k key x).2.1 (doT (toN 16 f) k key x).2.2]
 |_=>sv undef,λ_=>none⟩
theorem Qaz (f f':Nat->Int) (k key x c v:Int) (M:List SB) (h:doT (toN 16 f) k key x=(toN 16 f',c,v)):endP Xx [.a [.ints (.int .i64) 16 f],opA k key x] (.t [.a [.ints (.int .i64) 16 f'],ansA c v]) M:=by
 refine⟨rfl,λρ=>?_⟩
 simp only[Zby,Xx,Zci,Z4,Zar]
 rw[h,QaE (f:=f') (g:=fL (toN 16 f')) (λi hi=>(Qe3 hi).symm)]
theorem Qrl:(YE Xx).holds Tryz.prog 54:=by
 refine QE (Γ:=[(73,.pure QeO),(74,.mem QhT),(75,.pure QcN)]) Tryz.func54 rfl Zc Qf Qc (λW=>.cons (QjT W _) (.cons (QoA W _) (.cons (Ql6 W _) (.nil _ _ _)))) Xx (λ_=>[]) 600 ?_
 intro W args hp
 unfold Xx at hp;dsimp only at hp;split at hp
 case h_2=>exact hp.elim
 rename_i n f k key x
 obtain⟨rfl,hg,ho⟩:=hp
 refine⟨rfl,?_⟩
 have ho:=of_decide_eq_true ho
 have hk:k=1\/k=2\/k=3\/k=4\/k=5\/k=6:=Za
 rcases hk with rfl|rfl|rfl|rfl|rfl|rfl
 ·
  refine Qk (q:=bif decide (key<(1:Int))then endP Xx [Zz [nI 16 f],Zz [sI 1,sI key,sI x]] (ZS [Zz [nI 16 f],Zz [sI 5,sI 0]]) []else bif decide (key>(1000:Int))then endP Xx [Zz [nI 16 f],Zz [sI 1,sI key,sI x]] (ZS [Zz [nI 16 f],Zz [sI 5,sI 0]]) []else ∃(s:AtS),[aP 0 0,aI key]=[aP 0 0,aI s.2]/\[Zj [nI 16 f] 124]=[Zj [nI 16 s.1] 124]/\((0:Int)<=s.2/\s.2<=(1000:Int))/\∀(x_1:Unit),True->bif decide (atI (toN 16 s.1) s.2>=(0:Int))then ((0:Int)<=atI (toN 16 s.1) s.2/\atI (toN 16 s.1) s.2<(8:Int))/\0+Zh (atI (toN 16 s.1) s.2)+Zh (atI (toN 16 s.1) s.2)<16/\dP Tryz.f54 6 4 [xE 11,xE 10,xE 9,xR 8 1,xF 7 1,xR 6 0,xF 5 0,xF 4 0,xE 3,xE 2,xE 1,xE 0]/\bif bif s.1 (0+Zh (atI (toN 16 s.1) s.2)+Zh (atI (toN 16 s.1) s.2))==key then false else true then 16=16/\bif decide ((↑(lenT (toN 16 s.1)):Int)>=(6:Int))then endP Xx [Zz [nI 16 f],Zz [sI 1,sI key,sI x]] (ZS [Zz [nI 16 s.1],Zz [sI 3,sI 0]]) []else ((0:Int)<=atI (toN 16 s.1) s.2/\atI (toN 16 s.1) s.2<(8:Int))/\0+Zh (atI (toN 16 s.1) s.2)+Zh (atI (toN 16 s.1) s.2)+1+1<=16/\endP Xx [Zz [nI 16 f],Zz [sI 1,sI key,sI x]] (ZS [Zz [nI 16 λ(j:Nat)=>bif match ZL (0+Zh (atI (toN 16 s.1) s.2)+Zh (atI (toN 16 s.1) s.2)) j with|false=>false|true=>ZL j (0+Zh (atI (toN 16 s.1) s.2)+Zh (atI (toN 16 s.1) s.2)+1)then match Zl [key,x] (j-(0+Zh (atI (toN 16 s.1) s.2)+Zh (atI (toN 16 s.1) s.2)))with|some x=>x|none=>(0:Int)else s.1 j],Zz [sI 1,sI 0]]) []else ((0:Int)<=atI (toN 16 s.1) s.2/\atI (toN 16 s.1) s.2<(8:Int))/\0+Zh (atI (toN 16 s.1) s.2)+Zh (atI (toN 16 s.1) s.2)+1+1<=16/\endP Xx [Zz [nI 16 f],Zz [sI 1,sI key,sI x]] (ZS [Zz [nI 16 λ(j:Nat)=>bif match ZL (0+Zh (atI (toN 16 s.1) s.2)+Zh (atI (toN 16 s.1) s.2)) j with|false=>false|true=>ZL j (0+Zh (atI (toN 16 s.1) s.2)+Zh (atI (toN 16 s.1) s.2)+1)then match Zl [key,x] (j-(0+Zh (atI (toN 16 s.1) s.2)+Zh (atI (toN 16 s.1) s.2)))with|some x=>x|none=>(0:Int)else s.1 j],Zz [sI 1,sI 0]]) []else dP Tryz.f54 6 4 [xE 11,xE 10,xE 9,xE 8,xE 7,xE 6,xE 5,xE 4,xE 3,xE 2,xE 1,xE 0]/\16=16/\bif decide ((↑(lenT (toN 16 s.1)):Int)>=(6:Int))then endP Xx [Zz [nI 16 f],Zz [sI 1,sI key,sI x]] (ZS [Zz [nI 16 s.1],Zz [sI 3,sI 0]]) []else ((0:Int)<=atI (toN 16 s.1) s.2/\atI (toN 16 s.1) s.2<(8:Int))/\0+Zh (atI (toN 16 s.1) s.2)+Zh (atI (toN 16 s.1) s.2)+1+1<=16/\endP Xx [Zz [nI 16 f],Zz [sI 1,sI key,sI x]] (ZS [Zz [nI 16 λ(j:Nat)=>bif match ZL (0+Zh (atI (toN 16 s.1) s.2)+Zh (atI (toN 16 s.1) s.2)) j with|false=>false|true=>ZL j (0+Zh (atI (toN 16 s.1) s.2)+Zh (atI (toN 16 s.1) s.2)+1)then match Zl [key,x] (j-(0+Zh (atI (toN 16 s.1) s.2)+Zh (atI (toN 16 s.1) s.2)))with|some x=>x|none=>(0:Int)else s.1 j],Zz [sI 1,sI 0]]) []) Zc ?_
  refine Qo (λh=>Qaz _ _ _ _ _ _ _ _ (by unfold doT;rw[Ze Zb,Zf (.inr (.inl h))])) (λh1=>Qo (λh=>absurd h Za) (λh2=>?_))
  have hw:¬(((1:Int)≠1/\(1:Int)≠2/\(1:Int)≠5)\/key<1\/1000<key):=Za
  obtain⟨i,hi,hai,-,-⟩:=hg.at key
  have fk:f (0+i+i)=tk (toN 16 f) i:=by unfold tk;rw[Xb Za];rfl
  have fv:f (0+i+i+1)=tv (toN 16 f) i:=by unfold tv;rw[Xb Za];rfl
  have hth:thereB (toN 16 f) key=(tk (toN 16 f) i==key):=by unfold thereB;rw[hai,decide_eq_true Za,Zv];rfl
  refine⟨⟨f,key⟩,rfl,rfl,⟨ho.2.2.1,ho.2.2.2.1⟩,λ_ _=>?_⟩
  dsimp only
  rw[hai,Zv,fk]
  refine Qo (λ_=>⟨⟨Za,Za⟩,Za,Qd Zc,?_⟩) (λh=>absurd h Za)
  have hput (h:¬(thereB (toN 16 f) key=false/\6<=lenT (toN 16 f))):doT (toN 16 f) 1 key x=(setS (toN 16 f) i key x,1,0):=by
   unfold doT;rw[Ze Zb,Ze hw,Zf rfl,Ze h,hai];rfl
  have hU:=Qfi f i key x hi
  refine QiX (λh=>⟨rfl,Qo (λh6=>Qaz _ _ _ _ _ _ _ _ ?_) (λh6=>⟨⟨Za,Za⟩,Za,Qaz _ _ _ _ _ _ _ _ ?_⟩)⟩) (λh=>⟨⟨Za,Za⟩,Za,Qaz _ _ _ _ _ _ _ _ ?_⟩)
  . have ht:thereB (toN 16 f) key=false:=by rw[hth];exact beq_eq_false_iff_ne.2 h
    unfold doT;rw[Ze Zb,Ze hw,Zf rfl,Zf ⟨ht,Za⟩]
  . rw[hput (λhh=>Za)];exact congrArg (·,1,0) hU.symm
  . rw[hput (λhh=>by rw[hth]at hh;exact absurd h (beq_eq_false_iff_ne.1 hh.1))];exact congrArg (·,1,0) hU.symm
 ·
  refine Qk (q:=bif decide (key<(1:Int))then endP Xx [Zz [nI 16 f],Zz [sI 2,sI key,sI x]] (ZS [Zz [nI 16 f],Zz [sI 5,sI 0]]) []else bif decide (key>(1000:Int))then endP Xx [Zz [nI 16 f],Zz [sI 2,sI key,sI x]] (ZS [Zz [nI 16 f],Zz [sI 5,sI 0]]) []else ∃(s:AtS),[aP 0 0,aI key]=[aP 0 0,aI s.2]/\[Zj [nI 16 f] 124]=[Zj [nI 16 s.1] 124]/\((0:Int)<=s.2/\s.2<=(1000:Int))/\∀(x_1:Unit),True->bif decide (atI (toN 16 s.1) s.2>=(0:Int))then ((0:Int)<=atI (toN 16 s.1) s.2/\atI (toN 16 s.1) s.2<(8:Int))/\0+Zh (atI (toN 16 s.1) s.2)+Zh (atI (toN 16 s.1) s.2)<16/\dP Tryz.f54 6 4 [xE 11,xE 10,xE 9,xR 8 1,xF 7 1,xR 6 0,xF 5 0,xF 4 0,xE 3,xE 2,xE 1,xE 0]/\bif bif s.1 (0+Zh (atI (toN 16 s.1) s.2)+Zh (atI (toN 16 s.1) s.2))==key then false else true then endP Xx [Zz [nI 16 f],Zz [sI 2,sI key,sI x]] (ZS [Zz [nI 16 s.1],Zz [sI 4,sI 0]]) []else ((0:Int)<=atI (toN 16 s.1) s.2/\atI (toN 16 s.1) s.2<(8:Int))/\0+Zh (atI (toN 16 s.1) s.2)+Zh (atI (toN 16 s.1) s.2)+1<16/\(16=16/\Good (toN 16 s.1)/\(0:Int)<=atI (toN 16 s.1) s.2/\atI (toN 16 s.1) s.2<(8:Int)/\tk (toN 16 s.1) (Zh (atI (toN 16 s.1) s.2))≠(0:Int))/\endP Xx [Zz [nI 16 f],Zz [sI 2,sI key,sI x]] (ZS [Zz [nI 16 (fL (Qe8 (toN 16 s.1) (Zh (atI (toN 16 s.1) s.2))))],Zz [sI 1,sI (s.1 (0+Zh (atI (toN 16 s.1) s.2)+Zh (atI (toN 16 s.1) s.2)+1))]]) []else dP Tryz.f54 6 4 [xE 11,xE 10,xE 9,xE 8,xE 7,xE 6,xE 5,xE 4,xE 3,xE 2,xE 1,xE 0]/\endP Xx [Zz [nI 16 f],Zz [sI 2,sI key,sI x]] (ZS [Zz [nI 16 s.1],Zz [sI 4,sI 0]]) []) Zc ?_
  refine Qo (λh=>Qaz _ _ _ _ _ _ _ _ (by unfold doT;rw[Ze Zb,Zf (.inr (.inl h))])) (λh1=>Qo (λh=>absurd h Za) (λh2=>?_))
  have hw:¬(((2:Int)≠1/\(2:Int)≠2/\(2:Int)≠5)\/key<1\/1000<key):=Za
  obtain⟨i,hi,hai,-,-⟩:=hg.at key
  have fk:f (0+i+i)=tk (toN 16 f) i:=by unfold tk;rw[Xb Za];rfl
  have fv:f (0+i+i+1)=tv (toN 16 f) i:=by unfold tv;rw[Xb Za];rfl
  have hth:thereB (toN 16 f) key=(tk (toN 16 f) i==key):=by unfold thereB;rw[hai,decide_eq_true Za,Zv];rfl
  refine⟨⟨f,key⟩,rfl,rfl,⟨ho.2.2.1,ho.2.2.2.1⟩,λ_ _=>?_⟩
  dsimp only
  rw[hai,Zv,fk]
  refine Qo (λ_=>⟨⟨Za,Za⟩,Za,Qd Zc,?_⟩) (λh=>absurd h Za)
  refine QiX (λh=>Qaz _ _ _ _ _ _ _ _ ?_) (λh=>⟨⟨Za,Za⟩,Za,⟨rfl,hg,Za,Za,by rw[h];omega⟩,Qaz _ _ _ _ _ _ _ _ ?_⟩)
  . have ht:thereB (toN 16 f) key=false:=by rw[hth];exact beq_eq_false_iff_ne.2 h
    unfold doT;rw[Ze Zb,Ze hw,Ze Zb,Zf ht]
  . have ht:¬thereB (toN 16 f) key=false:=by rw[hth,beq_iff_eq.2 h];decide
    unfold doT;rw[Ze Zb,Ze hw,Ze Zb,Ze ht,Zf rfl,hai,Zv,fv]
    rw[Qa1 (Qgg hg i hi (by rw[h];omega)).len]
 ·
  refine Qk (q:=endP Xx [Zz [nI 16 f],Zz [sI 3,sI key,sI x]] (ZS [Zz [nI 16 f],Zz [sI 5,sI 0]]) []) Zc ?_
  exact Qaz _ _ _ _ _ _ _ _ (by unfold doT;rw[Ze Zb,Zf (.inl Zb)])
 ·
  refine Qk (q:=endP Xx [Zz [nI 16 f],Zz [sI 4,sI key,sI x]] (ZS [Zz [nI 16 f],Zz [sI 5,sI 0]]) []) Zc ?_
  exact Qaz _ _ _ _ _ _ _ _ (by unfold doT;rw[Ze Zb,Zf (.inl Zb)])
 ·
  refine Qk (q:=bif decide (key<(1:Int))then endP Xx [Zz [nI 16 f],Zz [sI 5,sI key,sI x]] (ZS [Zz [nI 16 f],Zz [sI 5,sI 0]]) []else bif decide (key>(1000:Int))then endP Xx [Zz [nI 16 f],Zz [sI 5,sI key,sI x]] (ZS [Zz [nI 16 f],Zz [sI 5,sI 0]]) []else ∃(s:AtS),[aP 0 0,aI key]=[aP 0 0,aI s.2]/\[Zj [nI 16 f] 124]=[Zj [nI 16 s.1] 124]/\((0:Int)<=s.2/\s.2<=(1000:Int))/\∀(x_1:Unit),True->bif decide (atI (toN 16 s.1) s.2>=(0:Int))then ((0:Int)<=atI (toN 16 s.1) s.2/\atI (toN 16 s.1) s.2<(8:Int))/\0+Zh (atI (toN 16 s.1) s.2)+Zh (atI (toN 16 s.1) s.2)<16/\dP Tryz.f54 6 4 [xE 11,xE 10,xE 9,xR 8 1,xF 7 1,xR 6 0,xF 5 0,xF 4 0,xE 3,xE 2,xE 1,xE 0]/\bif bif s.1 (0+Zh (atI (toN 16 s.1) s.2)+Zh (atI (toN 16 s.1) s.2))==key then false else true then endP Xx [Zz [nI 16 f],Zz [sI 5,sI key,sI x]] (ZS [Zz [nI 16 s.1],Zz [sI 4,sI 0]]) []else ((0:Int)<=atI (toN 16 s.1) s.2/\atI (toN 16 s.1) s.2<(8:Int))/\0+Zh (atI (toN 16 s.1) s.2)+Zh (atI (toN 16 s.1) s.2)+1<16/\endP Xx [Zz [nI 16 f],Zz [sI 5,sI key,sI x]] (ZS [Zz [nI 16 s.1],Zz [sI 1,sI (s.1 (0+Zh (atI (toN 16 s.1) s.2)+Zh (atI (toN 16 s.1) s.2)+1))]]) []else dP Tryz.f54 6 4 [xE 11,xE 10,xE 9,xE 8,xE 7,xE 6,xE 5,xE 4,xE 3,xE 2,xE 1,xE 0]/\endP Xx [Zz [nI 16 f],Zz [sI 5,sI key,sI x]] (ZS [Zz [nI 16 s.1],Zz [sI 4,sI 0]]) []) Zc ?_
  refine Qo (λh=>Qaz _ _ _ _ _ _ _ _ (by unfold doT;rw[Ze Zb,Zf (.inr (.inl h))])) (λh1=>Qo (λh=>absurd h Za) (λh2=>?_))
  have hw:¬(((5:Int)≠1/\(5:Int)≠2/\(5:Int)≠5)\/key<1\/1000<key):=Za
  obtain⟨i,hi,hai,-,-⟩:=hg.at key
  have fk:f (0+i+i)=tk (toN 16 f) i:=by unfold tk;rw[Xb Za];rfl
  have fv:f (0+i+i+1)=tv (toN 16 f) i:=by unfold tv;rw[Xb Za];rfl
  have hth:thereB (toN 16 f) key=(tk (toN 16 f) i==key):=by unfold thereB;rw[hai,decide_eq_true Za,Zv];rfl
  refine⟨⟨f,key⟩,rfl,rfl,⟨ho.2.2.1,ho.2.2.2.1⟩,λ_ _=>?_⟩
  dsimp only
  rw[hai,Zv,fk]
  refine Qo (λ_=>⟨⟨Za,Za⟩,Za,Qd Zc,?_⟩) (λh=>absurd h Za)
  refine QiX (λh=>Qaz _ _ _ _ _ _ _ _ ?_) (λh=>⟨⟨Za,Za⟩,Za,Qaz _ _ _ _ _ _ _ _ ?_⟩)
  . have ht:thereB (toN 16 f) key=false:=by rw[hth];exact beq_eq_false_iff_ne.2 h
    unfold doT;rw[Ze Zb,Ze hw,Ze Zb,Zf ht]
  . have ht:¬thereB (toN 16 f) key=false:=by rw[hth,beq_iff_eq.2 h];decide
    unfold doT;rw[Ze Zb,Ze hw,Ze Zb,Ze ht,Ze Zb,hai,Zv,fv]
 ·
  refine Qk (q:=16=16/\dP Tryz.f54 2 4 [⟨5,[],[3],[],false⟩,⟨4,[],[2],[],false⟩,xE 3,xE 2,xR 1 0,xR 0 0]/\endP Xx [Zz [nI 16 f],Zz [sI 6,sI key,sI x]] (ZS [Zz [nI 16 f],Zz [sI 1,sI (↑(lenT (toN 16 f)):Int)]]) []) Zc ?_
  exact⟨rfl,Qd Zc,Qaz _ _ _ _ _ _ _ _ (by unfold doT;rw[Zf rfl])⟩
abbrev Qel (f:Nat->Int):SB:=.cells [.ints (.int .u64) 17 f] 39
abbrev QcQ (f:Nat->Int):SA:=.a [.ints (.int .u64) 17 f]
def Qb2:MCon:=dcon UpS (λs=>s.pre) (λs=>[.c (.so 0 0 1 s.l.length s.c s.nn)]) (λs=>[Qaq s.m s.c s.z]) (λs=>sv (.bool (Qfh s.l))) (λs=>[Qaq s.m s.c s.z]) 1 (λargs _=>some (blkA args))
structure HrG (s:UpS) where
 i:Nat
 hi:i<=s.l.length
 he:QbV s.l i=true
def Qi9 (s:UpS):Ann where
 σ:=HrG s
 I g:=([(0,.o (.c (.so 0 0 1 s.l.length s.c s.nn))),(5,sv (.int .i64 s.l.length)),(6,sv (.int .i64 g.i))],[Qaq s.m s.c s.z])
 dec g:=s.l.length-g.i
 pi _ _:=[0]
 nz:=[]
theorem QlO:(ZH Qb2).holds Tryz.prog 71:=by
 intro w0 S
 refine Qa (Γ:=[]) (λ_=>noW) Tryz.func71 rfl Zc Qf Qc (λ_ _ _ _=>.nil _ _ _) Qb2 (λs=>[(71,[(0,Qi9 s)])]) (λx0 h s x=>⟨rfl,Zd⟩) (λs ρ w _ _ _=>Qj w _) [] (Qi 1) 400 ?_
 rintro⟨l,m,c,nn,z⟩ w ⟨h1,h2,h3,h4⟩ -
 refine⟨rfl,?_⟩
 dsimp only at h1 h2 h3 h4
 refine Qk (q:=Zg l<=c/\(∃(s0:Ann.σ (Qi9 (UpS.mk l m c nn z))),(eS (Zt (.so 0 0 1 (Zg l) c nn)) (Zt (.so 0 0 1 (Zg l) c nn))/\eS (aI (↑(Zg l):Int)) (aI (↑(Zg l):Int))/\eS (aI 0) (aI ↑s0.1)/\True)/\[Zk 3 [.int .i64] 1 m c z]=[Zk 3 [.int .i64] 1 m c z])/\∀(s:HrG (UpS.mk l m c nn z)),bif decide ((↑s.1:Int)<(↑(Zg l):Int))then bif decide ((↑s.1:Int)>(0:Int))then ((0:Int)<=(↑s.1:Int)/\(↑s.1:Int)<(↑(Zg l):Int)/\0+Zg l<=c)/\0+Zh (↑s.1:Int)<m/\(2:Int)≠(0:Int)/\((0:Int)<=Zi .i64 (Z7 (Zi .i64 ((↑s.1:Int)-(1:Int))) (2:Int))/\Zi .i64 (Z7 (Zi .i64 ((↑s.1:Int)-(1:Int))) (2:Int))<(↑(Zg l):Int)/\0+Zg l<=c)/\0+Zh (Zi .i64 (Z7 (Zi .i64 ((↑s.1:Int)-(1:Int))) (2:Int)))<m/\dP Tryz.f71 4 1 [xE 14,xE 13,xR 12 0,xF 11 0,xE 10,xE 9,xE 8,xF 7 0,xR 6 0,xF 5 0,xE 4,xF 3 0,xE 2,xE 1,xE 0]/\bif decide (z (0+Zh (↑s.1:Int)) 0<z (0+Zh (Zi .i64 (Z7 (Zi .i64 ((↑s.1:Int)-(1:Int))) (2:Int)))) 0)then endN Qb2 [] (Qi 1) (UpS.mk l m c nn z) (ZG (aB false)) [Zk 3 [.int .i64] 1 m c z]else ∃(s':HrG (UpS.mk l m c nn z)),((eS (Zt (.so 0 0 1 (Zg l) c nn)) (Zt (.so 0 0 1 (Zg l) c nn))/\eS (aI (↑(Zg l):Int)) (aI (↑(Zg l):Int))/\eS (aI (Zi .i64 ((↑s.1:Int)+(1:Int)))) (aI ↑s'.1)/\True)/\[Zk 3 [.int .i64] 1 m c z]=[Zk 3 [.int .i64] 1 m c z])/\Zg l-s'.1<Zg l-s.1 else dP Tryz.f71 4 1 [xE 14,xE 13,xE 12,xE 11,xE 10,xE 9,xE 8,xE 7,xE 6,xE 5,xE 4,xE 3,xE 2,xE 1,xE 0]/\∃(s':HrG (UpS.mk l m c nn z)),((eS (Zt (.so 0 0 1 (Zg l) c nn)) (Zt (.so 0 0 1 (Zg l) c nn))/\eS (aI (↑(Zg l):Int)) (aI (↑(Zg l):Int))/\eS (aI (Zi .i64 ((↑s.1:Int)+(1:Int)))) (aI ↑s'.1)/\True)/\[Zk 3 [.int .i64] 1 m c z]=[Zk 3 [.int .i64] 1 m c z])/\Zg l-s'.1<Zg l-s.1 else Zg l<=c/\endN Qb2 [] (Qi 1) (UpS.mk l m c nn z) (ZG (aB (decide ((↑(Zg l):Int)<=(6:Int))))) [Zk 3 [.int .i64] 1 m c z]) Zc ?_
 refine⟨Za,⟨⟨0,Z9 _,rfl⟩,⟨rfl,rfl,rfl,Zd⟩,rfl⟩,?_⟩
 rintro⟨i,hi,he⟩
 dsimp only at hi he ⊢
 have zh (j:Nat) (hj:j<l.length):z (0+j) 0=hp l j:=(congrArg (z . 0) (Zu j)).trans (h4 j hj)
 have hend (b:Bool) (h:Qfh l=b):endN Qb2 [] (Qi 1) ⟨l,m,c,nn,z⟩ (sv (.bool b)) [Qaq m c z]:=by subst h;exact⟨(),Zd,rfl,rfl⟩
 have nx (hlt:i<l.length) (h:QbV l (i+1)=true):∃s':HrG ⟨l,m,c,nn,z⟩,((some (ZG (Zt (.so 0 0 1 l.length c nn)))=some (ZG (Zt (.so 0 0 1 l.length c nn)))/\some (sv (.int .i64 l.length))=some (sv (.int .i64 l.length))/\some (sv (.int .i64 (Zi .i64 ((i:Int)+1))))=some (sv (.int .i64 s'.i))/\True)/\[Qaq m c z]=[Qaq m c z])/\l.length-s'.i<l.length-i:=
  ⟨⟨i+1,hlt,h⟩,⟨⟨rfl,rfl,svI (sucI Za),Zd⟩,rfl⟩,by dsimp only;omega⟩
 refine Qo (λhlt=>?_) (λhge=>⟨Za,hend _ ?_⟩)
 . refine Qo (λhpos=>?_) (λhz0=>⟨Qd Zc,nx Za ?_⟩)
   . have e:Zi .i64 (Z7 (Zi .i64 ((i:Int)-1)) 2)=(((i-1)/2:Nat):Int):=by
      rw[Qx (x:=(i:Int)-1) Za Za,Zax Za,Qx Za Za];omega
     rw[e,Zv,Zv]
     refine⟨⟨Za,Za,Za⟩,Za,Zb,⟨Za,Za,Za⟩,Za,Qd Zc,Qo (λh=>hend _ ?_) (λh=>nx Za ?_)⟩
     . rw[zh i Za,zh _ Za]at h
       unfold Qfh
       rw[QlP l (i+1) l.length ?_ Za];rfl
       simp only[QbV]
       rw[decide_eq_false Za,ZaI]
     . rw[zh i Za,zh _ Za]at h
       simp only[QbV,he,ZbM,decide_eq_true_eq];omega
   . simp only[QbV,he,ZbM,decide_eq_true_eq];omega
 . obtain rfl:i=l.length:=Za
   unfold Qfh
   rw[he,ZbM,decide_eq_decide];omega
structure QdO where
 f:Nat->Int
 l:List Int
def QcL:MCon where
 σ:=QdO
 χ:=LstR
 pre s:=toN 17 s.f=lstC s.l/\s.l.length<=6/\InR s.l
 args s:=[QcQ s.f]
 mem s:=[]
 ok s x:=(s.l.length<=x.m/\x.m<=x.c)/\IsL x.z s.l
 val s x:=.t [.c (.so 0 0 1 s.l.length x.c x.nn),.c (.v (.bool true))]
 mem' s x:=[Qaq x.m x.c x.z]
 k:=0
 len:=1
 det:=none
 find args M:=some []
structure LiG (l:List Int) where
 i:Nat
 n:Nat
 m:Nat
 c:Nat
 nn:Bool
 z:Nat->Nat->Int
 hi:i<=16
 hn:n=min i l.length
 hm:n<=m/\m<=c
 hz:IsL z (l.take i)
def QoP (s:QdO):Ann where
 σ:=LiG s.l
 I g:=([(1,.o (.c (.p 0 0))),(4,.o (.c (.so 1 0 1 g.n g.c g.nn))),(11,.o (.c (.s 0 1 16 16))),(12,sv (.int .i64 16)),(13,sv (.int .i64 g.i))],[Qel s.f,Qaq g.m g.c g.z])
 dec g:=16-g.i
 pi env M:=match lk env 4 with
  |some (.o (.c (.so b _ _ _ _ _)))=>[0,b]
  |_=>[0]
 nz:=[.tmp 4 3 1 [.int .i64]]
theorem Qkg:(ZH QcL).holds Tryz.prog 56:=by
 intro w0 S
 refine Qa (Γ:=[]) (λ_=>noW) Tryz.func56 rfl Zc Qf Qc (λ_ _ _ _=>.nil _ _ _) QcL (λs=>[(56,[(0,QoP s)])]) (λx0 h=>by cases h) (λs ρ w _ _ _=>Qj w _) [.tmp 0 3 1 [.int .i64]] rpL 400 ?_
 rintro⟨f,l⟩ w ⟨h1,h2,h3⟩ -
 refine⟨rfl,?_⟩
 dsimp only at h1 h2 h3
 refine Qk (q:=(iR (0:Int) (17:Int))/\0<17/\bif decide (f 0>(6:Int))then endN QcL [ZdF 0 3 1 [.int .i64]] rpL (QdO.mk f l) (ZS [Zt (.v (.slice none 0 0)),aB false]) [Zj [nU 17 f] 39]else ((0:Int)<=(1:Int)/\(1:Int)<=(17:Int)/\(17:Int)<=(17:Int))/\(∃(s0:Ann.σ (QoP (QdO.mk f l))),(eS (aP 0 0) (aP 0 0)/\eS (Zt (.so 1 0 1 0 0 false)) (Zt (.so 1 0 1 s0.2 s0.4 s0.5))/\eS (Zt (.s 0 1 16 16)) (Zt (.s 0 1 16 16))/\eS (aI 16) (aI 16)/\eS (aI 0) (aI ↑s0.1)/\True)/\[Zj [nU 17 f] 39,Zk 3 [.int .i64] 1 0 0 λ(x x_1:Nat)=>(0:Int)]=[Zj [nU 17 f] 39,Zk 3 [.int .i64] 1 s0.3 s0.4 s0.6])/\∀(s:LiG l),bif decide ((↑s.1:Int)<(16:Int))then (iR (↑s.1:Int) (16:Int))/\1+Zh (↑s.1:Int)<17/\(iR (0:Int) (17:Int))/\0<17/\bif decide (f (1+Zh (↑s.1:Int))>(4294967295:Int))then endN QcL [ZdF 0 3 1 [.int .i64]] rpL (QdO.mk f l) (ZS [Zt (.v (.slice none 0 0)),aB false]) [Zj [nU 17 f] 39,Zk 3 [.int .i64] 1 s.3 s.4 s.6]else bif bif decide ((↑s.1:Int)<Zi .i64 (f 0))then false else true then bif f (1+Zh (↑s.1:Int)) != (0:Int)then endN QcL [ZdF 0 3 1 [.int .i64]] rpL (QdO.mk f l) (ZS [Zt (.v (.slice none 0 0)),aB false]) [Zj [nU 17 f] 39,Zk 3 [.int .i64] 1 s.3 s.4 s.6]else bif decide ((↑s.1:Int)<Zi .i64 (f 0))then ((s.2<=s.3/\s.4=s.4)/\(1<=1/\1=1)/\s.2+1<=68719476736)/\∀(c:Nat),s.2+1<=c->∃(s':LiG l),((eS (aP 0 0) (aP 0 0)/\eS (Zt (.so 3 0 1 (s.2+1) c s.5)) (Zt (.so 3 0 1 s'.2 s'.4 s'.5))/\eS (Zt (.s 0 1 16 16)) (Zt (.s 0 1 16 16))/\eS (aI 16) (aI 16)/\eS (aI (Zi .i64 ((↑s.1:Int)+(1:Int)))) (aI ↑s'.1)/\True)/\[Zj [nU 17 f] 39,Zk 3 [.int .i64] 1 (s.2+1) c λ(i j:Nat)=>bif ZL (i+1) s.2 then s.6 i j else match Zl (match Zl [[Zi .i64 (f (1+Zh (↑s.1:Int)))]] (0+(i-s.2))with|some x=>x|none=>[]) j with|some x=>x|none=>(0:Int)]=[Zj [nU 17 f] 39,Zk 3 [.int .i64] 1 s'.3 s'.4 s'.6])/\16-s'.1<16-s.1 else ∃(s':LiG l),((eS (aP 0 0) (aP 0 0)/\eS (Zt (.so 1 0 1 s.2 s.4 s.5)) (Zt (.so 1 0 1 s'.2 s'.4 s'.5))/\eS (Zt (.s 0 1 16 16)) (Zt (.s 0 1 16 16))/\eS (aI 16) (aI 16)/\eS (aI (Zi .i64 ((↑s.1:Int)+(1:Int)))) (aI ↑s'.1)/\True)/\[Zj [nU 17 f] 39,Zk 3 [.int .i64] 1 s.3 s.4 s.6]=[Zj [nU 17 f] 39,Zk 3 [.int .i64] 1 s'.3 s'.4 s'.6])/\16-s'.1<16-s.1 else bif decide ((↑s.1:Int)<Zi .i64 (f 0))then ((s.2<=s.3/\s.4=s.4)/\(1<=1/\1=1)/\s.2+1<=68719476736)/\∀(c:Nat),s.2+1<=c->∃(s':LiG l),((eS (aP 0 0) (aP 0 0)/\eS (Zt (.so 3 0 1 (s.2+1) c s.5)) (Zt (.so 3 0 1 s'.2 s'.4 s'.5))/\eS (Zt (.s 0 1 16 16)) (Zt (.s 0 1 16 16))/\eS (aI 16) (aI 16)/\eS (aI (Zi .i64 ((↑s.1:Int)+(1:Int)))) (aI ↑s'.1)/\True)/\[Zj [nU 17 f] 39,Zk 3 [.int .i64] 1 (s.2+1) c λ(i j:Nat)=>bif ZL (i+1) s.2 then s.6 i j else match Zl (match Zl [[Zi .i64 (f (1+Zh (↑s.1:Int)))]] (0+(i-s.2))with|some x=>x|none=>[]) j with|some x=>x|none=>(0:Int)]=[Zj [nU 17 f] 39,Zk 3 [.int .i64] 1 s'.3 s'.4 s'.6])/\16-s'.1<16-s.1 else ∃(s':LiG l),((eS (aP 0 0) (aP 0 0)/\eS (Zt (.so 1 0 1 s.2 s.4 s.5)) (Zt (.so 1 0 1 s'.2 s'.4 s'.5))/\eS (Zt (.s 0 1 16 16)) (Zt (.s 0 1 16 16))/\eS (aI 16) (aI 16)/\eS (aI (Zi .i64 ((↑s.1:Int)+(1:Int)))) (aI ↑s'.1)/\True)/\[Zj [nU 17 f] 39,Zk 3 [.int .i64] 1 s.3 s.4 s.6]=[Zj [nU 17 f] 39,Zk 3 [.int .i64] 1 s'.3 s'.4 s'.6])/\16-s'.1<16-s.1 else endN QcL [ZdF 0 3 1 [.int .i64]] rpL (QdO.mk f l) (ZS [Zt (.so 1 0 1 s.2 s.4 s.5),aB true]) [Zj [nU 17 f] 39,Zk 3 [.int .i64] 1 s.3 s.4 s.6]) Zc ?_
 have f0:f 0=l.length:=by
  have:=Xb (n:=17) (f:=f) (i:=0) Zb
  rw[h1]at this;exact this.symm
 have fi (i:Nat) (hi:i<16):f (1+i)=l.getD i 0:=by
  have:=Xb (n:=17) (f:=f) (i:=1+i) Za
  rw[h1,Zb0 1 i,Zp,QpI l i hi Za]at this
  rw[Zb0 1 i];exact this.symm
 rw[f0,Qx (x:=(l.length:Int)) Za Za]
 refine⟨⟨Za,Za⟩,Za,Qo (λh=>absurd h Za) (λ_=>⟨⟨Za,Za,Za⟩,⟨⟨0,0,0,0,false,_,Za,(Nat.zero_min _).symm,⟨Zq _,Zq _⟩,λi hi=>by rw[ZbZ]at hi;exact absurd hi (ZP _)⟩,⟨rfl,rfl,rfl,rfl,rfl,Zd⟩,rfl⟩,?_⟩)⟩
 rintro⟨i,n,m,c,nn,z,hi,hn,hm,hz⟩
 dsimp only at hi hn hm hz ⊢
 have hv:0<=l.getD i 0/\l.getD i 0<=4294967295:=by
  rcases Yy i l.length with h|h
  . exact h3.get i h
  . rw[Zp,ZU h];simp
 refine Qo (λhlt=>?_) (λhge=>?_)
 . rw[Zv,fi i Za]
   refine⟨⟨Za,Za⟩,Za,⟨Za,Za⟩,Za,Qo (λh=>absurd h Za) (λ_=>?_)⟩
   rcases Yy i l.length with hil|hil
   . refine QjJ (λh=>absurd h Za) (λ_=>Qo (λ_=>?_) (λh=>absurd h Za))
     obtain rfl:n=i:=Za
     rw[Qx (x:=l.getD n 0) Za Za]
     refine⟨⟨⟨hm.1,rfl⟩,⟨Zq _,rfl⟩,Za⟩,λc' hc'=>⟨⟨n+1,n+1,n+1,c',nn,_,Za,Za,⟨Zq _,hc'⟩,?_⟩,⟨⟨rfl,rfl,rfl,rfl,svI (sucI Za),Zd⟩,rfl⟩,by dsimp only;omega⟩⟩
     have ht:l.take (n+1)=l.take n++[l.getD n 0]:=by
      rw[List.take_add_one,Zy hil];simp[Zp,hil]
     have hti:(l.take n).length=n:=by simp;omega
     show IsL _ (l.take (n+1))
     rw[ht]
     refine hz.snoc (λj hj=>?_) ?_
     . rw[hti]at hj;exact catT hj
     . rw[hti];exact catF.trans (by rw[Ye];rfl)
   . have hg0:l.getD i 0=0:=by rw[Zp,ZU hil];rfl
     rw[hg0]
     refine QjJ (λ_=>QB (λh=>absurd rfl h) (λ_=>Qo (λh=>absurd h Za) (λ_=>?_))) (λh=>absurd h Za)
     exact⟨⟨i+1,n,m,c,nn,z,Za,Za,hm,by show IsL z (l.take (i+1));rw[Yn Za];rw[Yn hil]at hz;exact hz⟩,⟨⟨rfl,rfl,rfl,rfl,svI (sucI Za),Zd⟩,rfl⟩,by dsimp only;omega⟩
 . obtain rfl:i=16:=Za
   obtain rfl:n=l.length:=Za
   rw[Yn Za]at hz
   exact Ql (x':=.t [.c (.so 1 0 1 l.length c nn),.c (.v (.bool true))]) (M':=[Qel f,Qaq m c z]) rfl ⟨m,c,nn,z⟩ ⟨hm,hz⟩ rfl rfl rfl
def Qeg:MCon:=dcon UpS (λs=>s.pre/\s.l.length<=6/\InR s.l) (λs=>[.c (.so 0 0 1 s.l.length s.c s.nn)]) (λs=>[Qaq s.m s.c s.z]) (λs=>.o (QcQ (fL (lstC s.l)))) (λs=>[Qaq s.m s.c s.z]) 1 (λargs _=>some (blkA args))
structure LdG (s:UpS) where
 i:Nat
 hi:i<=s.l.length
def Qi8 (s:UpS):Ann where
 σ:=LdG s
 I g:=([(2,.o (.c (.p 1 0))),(3,.o (.c (.p 2 0))),(10,.o (.c (.so 0 0 1 s.l.length s.c s.nn))),(11,sv (.int .i64 s.l.length)),(12,sv (.int .i64 g.i))],[Qaq s.m s.c s.z,Qel (λ_=>0),Qel (fL (QcD s.l g.i))])
 dec g:=s.l.length-g.i
 pi _ _:=[0,1,2]
 nz:=[]
theorem Qlo:(ZH Qeg).holds Tryz.prog 61:=by
 intro w0 S
 refine Qa (Γ:=[]) (λ_=>noW) Tryz.func61 rfl Zc Qf Qc (λ_ _ _ _=>.nil _ _ _) Qeg (λs=>[(61,[(0,Qi8 s)])]) (λx0 h s x=>⟨rfl,Zd⟩) (λs ρ w _ _ _=>Qj w _) [] (Qi 1) 400 ?_
 rintro⟨l,m,c,nn,z⟩ w ⟨⟨h1,h2,h3,h4⟩,h5,h6⟩ -
 refine⟨rfl,?_⟩
 dsimp only at h1 h2 h3 h4 h5 h6
 refine Qk (q:=Zg l<=c/\Zg l<=c/\(∃(s0:Ann.σ (Qi8 (UpS.mk l m c nn z))),(eS (aP 1 0) (aP 1 0)/\eS (aP 2 0) (aP 2 0)/\eS (Zt (.so 0 0 1 (Zg l) c nn)) (Zt (.so 0 0 1 (Zg l) c nn))/\eS (aI (↑(Zg l):Int)) (aI (↑(Zg l):Int))/\eS (aI 0) (aI ↑s0.1)/\True)/\[Zk 3 [.int .i64] 1 m c z,Zj [nU 17 zF] 39,Zj [nU 17 λ(i:Nat)=>bif ZE i 0 then Zi .u64 (↑(Zg l):Int)else (0:Int)] 39]=[Zk 3 [.int .i64] 1 m c z,Zj [nU 17 zF] 39,Zj [nU 17 (fL (QcD l s0.1))] 39])/\∀(s:LdG (UpS.mk l m c nn z)),bif decide ((↑s.1:Int)<(↑(Zg l):Int))then ((0:Int)<=(↑s.1:Int)/\(↑s.1:Int)<(↑(Zg l):Int)/\0+Zg l<=c)/\0+Zh (↑s.1:Int)<m/\((0:Int)<=Zi .i64 ((↑s.1:Int)+(1:Int))/\Zi .i64 ((↑s.1:Int)+(1:Int))<(17:Int))/\Zh (Zi .i64 ((↑s.1:Int)+(1:Int)))<17/\∃(s':LdG (UpS.mk l m c nn z)),((eS (aP 1 0) (aP 1 0)/\eS (aP 2 0) (aP 2 0)/\eS (Zt (.so 0 0 1 (Zg l) c nn)) (Zt (.so 0 0 1 (Zg l) c nn))/\eS (aI (↑(Zg l):Int)) (aI (↑(Zg l):Int))/\eS (aI (Zi .i64 ((↑s.1:Int)+(1:Int)))) (aI ↑s'.1)/\True)/\[Zk 3 [.int .i64] 1 m c z,Zj [nU 17 zF] 39,Zj [nU 17 λ(i:Nat)=>bif ZE i (Zh (Zi .i64 ((↑s.1:Int)+(1:Int))))then Zi .u64 (z (0+Zh (↑s.1:Int)) 0)else fL (QcD l s.1) i] 39]=[Zk 3 [.int .i64] 1 m c z,Zj [nU 17 zF] 39,Zj [nU 17 (fL (QcD l s'.1))] 39])/\Zg l-s'.1<Zg l-s.1 else endN Qeg [] (Qi 1) (UpS.mk l m c nn z) (ZG (Zz [nU 17 (fL (QcD l s.1))])) [Zk 3 [.int .i64] 1 m c z,Zj [nU 17 (fL (QcD l s.1))] 39,Zj [nU 17 (fL (QcD l s.1))] 39]) Zc ?_
 rw[QaL Za Za]
 refine⟨Za,Za,⟨⟨0,Z9 _⟩,⟨rfl,rfl,rfl,rfl,rfl,Zd⟩,?_⟩,?_⟩
 . rw[show (λi:Nat=>bif ZE i 0 then (l.length:Int)else 0)=fL (QcD l 0)from funext λj=>by
    rw[Qlf]
    cases j<;>rfl]
 rintro⟨i,hi⟩
 dsimp only at hi ⊢
 refine Qo (λhlt=>?_) (λhge=>?_)
 . have hil:i<l.length:=Za
   have hv:=h6.get i hil
   have zh:z (0+i) 0=l.getD i 0:=(congrArg (z . 0) (Zu i)).trans (h4 i hil)
   rw[sucI Za,Zv,Zv,zh,QaL Za Za]
   refine⟨⟨Za,Za,Za⟩,Za,⟨Za,Za⟩,Za,⟨i+1,hil⟩,⟨⟨rfl,rfl,rfl,rfl,rfl,Zd⟩,?_⟩,by dsimp only;omega⟩
   rw[show (λj:Nat=>bif ZE j (i+1)then l.getD i 0 else fL (QcD l i) j)=fL (QcD l (i+1))from funext λj=>by
    rw[Qlg l i j hil]
    by_cases h:j=i+1
    . subst h;rw[Zf rfl,show ZE (i+1) (i+1)=true from Zbk _];rfl
    . rw[Ze h,show ZE j (i+1)=false from nbeq h];rfl]
 . obtain rfl:i=l.length:=Za
   rw[Qnf]
   exact⟨(),Zd,rfl,rfl⟩
def QaJ:PCon:=⟨λargs=>match args with
 |[.a [.ints (.int .u64) n f]]=>n=17/\Good (toN 16 f)/\f 16=0
 |_=>False,λargs=>match args with
 |[.a [.ints (.int .u64) n f]]=>.t [.a [.ints (.int .i64) 16 (fL (toN 16 f))],.c (.v (.bool true))]
 |_=>sv undef,λ_=>none⟩
structure SlG (f:Nat->Int) where
 i:Nat
 g:Nat->Int
 hi:i<=8
 hg:∀j,j<2*i->g j=f j
def QkG (f:Nat->Int):Ann where
 σ:=SlG f
 I g:=([(1,.o (.c (.p 0 0))),(2,.o (.c (.p 1 0))),(4,.o (.c (.p 2 0))),(6,sv (.int .i64 g.i))],[Qel f,Qcz (λ_=>0),Qcz g.g])
 dec g:=8-g.i
 pi _ _:=[0,1,2]
 nz:=[]
def Qsm:List SA->List (Nat × Anns)
 |[.a [.ints (.int .u64) n f]]=>[(53,[(0,QkG f)])]
 |_=>[]
theorem Qie:(YE QaJ).holds Tryz.prog 53:=by
 refine QE (Γ:=[(72,.pure Xs)]) Tryz.func53 rfl Zc Qf Qc (λW=>.cons (QkO W _) (.nil _ _ _)) QaJ Qsm 400 ?_
 intro W args hp
 unfold QaJ at hp;dsimp only at hp;split at hp
 case h_2=>exact hp.elim
 rename_i n f
 obtain⟨rfl,hg,h0⟩:=hp
 refine⟨rfl,?_⟩
 refine Qk (q:=(∃(s0:Ann.σ (QkG f)),(eS (aP 0 0) (aP 0 0)/\eS (aP 1 0) (aP 1 0)/\eS (aP 2 0) (aP 2 0)/\eS (aI 0) (aI ↑s0.1)/\True)/\[Zj [nU 17 f] 39,Zj [nI 16 zF] 124,Zj [nI 16 zF] 124]=[Zj [nU 17 f] 39,Zj [nI 16 zF] 124,Zj [nI 16 s0.2] 124])/\∀(s:SlG f),bif decide ((↑s.1:Int)<(8:Int))then ((0:Int)<=Zi .i64 ((2:Int)*(↑s.1:Int))/\Zi .i64 ((2:Int)*(↑s.1:Int))<(17:Int))/\Zh (Zi .i64 ((2:Int)*(↑s.1:Int)))<17/\bif decide (f (Zh (Zi .i64 ((2:Int)*(↑s.1:Int))))>(1000:Int))then endP QaJ [Zz [nU 17 f]] (ZS [Zz [nI 16 s.2],aB false]) []else ((0:Int)<=Zi .i64 (Zi .i64 ((2:Int)*(↑s.1:Int))+(1:Int))/\Zi .i64 (Zi .i64 ((2:Int)*(↑s.1:Int))+(1:Int))<(17:Int))/\Zh (Zi .i64 (Zi .i64 ((2:Int)*(↑s.1:Int))+(1:Int)))<17/\bif decide (f (Zh (Zi .i64 (Zi .i64 ((2:Int)*(↑s.1:Int))+(1:Int))))>(4294967295:Int))then endP QaJ [Zz [nU 17 f]] (ZS [Zz [nI 16 s.2],aB false]) []else ((0:Int)<=Zi .i64 ((2:Int)*(↑s.1:Int))/\Zi .i64 ((2:Int)*(↑s.1:Int))<(17:Int))/\Zh (Zi .i64 ((2:Int)*(↑s.1:Int)))<17/\((0:Int)<=Zi .i64 (Zi .i64 ((2:Int)*(↑s.1:Int))+(1:Int))/\Zi .i64 (Zi .i64 ((2:Int)*(↑s.1:Int))+(1:Int))<(17:Int))/\Zh (Zi .i64 (Zi .i64 ((2:Int)*(↑s.1:Int))+(1:Int)))<17/\(iR (↑s.1:Int) (8:Int))/\0+Zh (↑s.1:Int)+Zh (↑s.1:Int)+1+1<=16/\dP Tryz.f53 7 3 [⟨14,[],[2],[],false⟩,xF 13 2,xE 12,xE 11,xR 10 0,xF 9 0,xE 8,xE 7,xE 6,xE 5,xR 4 0,xF 3 0,xE 2,xE 1,xE 0]/\∃(s':SlG f),((eS (aP 0 0) (aP 0 0)/\eS (aP 1 0) (aP 1 0)/\eS (aP 2 0) (aP 2 0)/\eS (aI (Zi .i64 ((↑s.1:Int)+(1:Int)))) (aI ↑s'.1)/\True)/\[Zj [nU 17 f] 39,Zj [nI 16 zF] 124,Zj [nI 16 λ(j:Nat)=>bif match ZL (0+Zh (↑s.1:Int)+Zh (↑s.1:Int)) j with|false=>false|true=>ZL j (0+Zh (↑s.1:Int)+Zh (↑s.1:Int)+1)then match Zl [Zi .i64 (f (Zh (Zi .i64 ((2:Int)*(↑s.1:Int))))),Zi .i64 (f (Zh (Zi .i64 (Zi .i64 ((2:Int)*(↑s.1:Int))+(1:Int)))))] (j-(0+Zh (↑s.1:Int)+Zh (↑s.1:Int)))with|some x=>x|none=>(0:Int)else s.2 j] 124]=[Zj [nU 17 f] 39,Zj [nI 16 zF] 124,Zj [nI 16 s'.2] 124])/\8-s'.1<8-s.1 else (iR (16:Int) (17:Int))/\16<17/\bif f 16==(0:Int)then (16=16/\Good (toN 16 s.2))/\dP Tryz.f53 9 3 [xE 9,⟨8,[],[1],[],false⟩,xE 7,xE 6,xR 5 2,xE 4,xE 3,xR 2 0,xF 1 0,xR 0 2]/\endP QaJ [Zz [nU 17 f]] (ZS [Zz [nI 16 s.2],aB true]) []else dP Tryz.f53 9 3 [xE 9,⟨8,[],[1],[],false⟩,xE 7,xE 6,xE 5,xE 4,xE 3,xR 2 0,xF 1 0,xR 0 2]/\endP QaJ [Zz [nU 17 f]] (ZS [Zz [nI 16 s.2],aB false]) []) Zc ?_
 refine⟨⟨⟨0,λ_=>0,Za,λj hj=>Za⟩,⟨rfl,rfl,rfl,rfl,Zd⟩,rfl⟩,?_⟩
 rintro⟨i,g,hi,hg'⟩
 dsimp only at hi hg' ⊢
 refine Qo (λhlt=>?_) (λhge=>?_)
 . have e1:Zi .i64 ((2:Int)*(i:Int))=((2*i:Nat):Int):=by rw[Qx Za Za];omega
   rw[e1,sucI Za,Zv,Zv]
   have hi8:i<8:=Za
   have fk:f (2*i)=tk (toN 16 f) i:=by unfold tk;rw[Xb Za,ZaE]
   have fv:f (2*i+1)=tv (toN 16 f) i:=by unfold tv;rw[Xb Za,ZaE]
   have k0:=hg.key0 i hi8
   have k1:=hg.key1 i hi8
   have v0:=hg.val0 i hi8
   have v1:=hg.val1 i hi8
   refine⟨⟨Za,Za⟩,Za,Qo (λh=>absurd h Za) (λ_=>⟨⟨Za,Za⟩,Za,Qo (λh=>absurd h Za) (λ_=>⟨⟨Za,Za⟩,Za,⟨Za,Za⟩,Za,⟨Za,Za⟩,Za,Qd Zc,⟨i+1,_,Za,?_⟩,⟨⟨rfl,rfl,rfl,svI (sucI Za),Zd⟩,rfl⟩,by dsimp only;omega⟩)⟩)⟩
   intro j hj
   rw[Zv]
   refine (QjQ g i j _ _).trans ?_
   rw[Qx Za Za,Qx Za Za]
   by_cases h1:j=i*2+1
   . rw[Zf h1,h1,ZaE]
   . rw[Ze h1]
     by_cases h2:j=i*2
     . rw[Zf h2,h2,ZaE]
     . rw[Ze h2];exact hg' j Za
 . obtain rfl:i=8:=Za
   have e:toN 16 g=toN 16 f:=QdP λj hj=>hg' j Za
   rw[h0]
   refine⟨⟨Za,Za⟩,Za,QP (λ_=>⟨⟨rfl,by rw[e];exact hg⟩,Qd Zc,rfl,λρ=>?_⟩) (λh=>absurd rfl h)⟩
   simp only[Zby,QaJ,Zci,Z4,Zar]
   rw[QaE (f:=g) (g:=fL (toN 16 f)) (λi hi=>by rw[Qe3 hi];exact hg' i Za)]
def Qfu:PCon:=⟨λargs=>match args with
 |[.c (.v (.int .i64 n)),.a [.one (.v (.int .i64 k)),.one (.v (.int .i64 key)),.one (.v (.int .i64 x))]]=>0<=n/\n<=4294967295/\opOk k key x=true
 |_=>False,λargs=>match args with
 |[.c (.v (.int .i64 n)),.a [.one (.v (.int .i64 k)),.one (.v (.int .i64 key)),.one (.v (.int .i64 x))]]=>
  .t [.c (.v (.int .i64 (XH n k x))),ansA (XX n k x) (Qag n k x)]
 |_=>sv undef,λ_=>none⟩
theorem Qmk:(YE Qfu).holds Tryz.prog 55:=by
 refine QG (AG:=[]) (Γ:=[]) Tryz.func55 rfl Zc Qf Qc (λ_=>Za2 _ _ _) Qfu 400 ?_
 intro W args hp
 unfold Qfu at hp;dsimp only at hp;split at hp
 case h_2=>exact hp.elim
 rename_i n k key x
 obtain⟨h0,h1,ho⟩:=hp
 refine⟨rfl,?_⟩
 have ho:=of_decide_eq_true ho
 have hk:k=1\/k=2\/k=3\/k=4\/k=5\/k=6:=Za
 rcases hk with rfl|rfl|rfl|rfl|rfl|rfl
 ·
  refine Qk (q:=bif decide (x>Zi .i64 ((4294967295:Int)-n))then ZS [aI n,Zz [sI 3,sI 0]]=ZS [aI (XH n (1:Int) x),Zz [sI (XX n (1:Int) x),sI (Qag n (1:Int) x)]]/\true=true else ZS [aI (Zi .i64 (n+x)),Zz [sI 1,sI n]]=ZS [aI (XH n (1:Int) x),Zz [sI (XX n (1:Int) x),sI (Qag n (1:Int) x)]]/\true=true) Zc ?_
  rw[Qx Za Za]
  refine Qo (λh=>⟨?_,rfl⟩) (λh=>?_)
  . unfold XH XX Qag;rw[Zf rfl,Zf rfl,Zf rfl,Zf Za,Zf Za,Zf Za]
  . rw[Qx Za Za]
    refine⟨?_,rfl⟩
    unfold XH XX Qag;rw[Zf rfl,Zf rfl,Zf rfl,Ze Za,Ze Za,Ze Za]
 ·
  refine Qk (q:=bif decide (x>n)then ZS [aI n,Zz [sI 2,sI 0]]=ZS [aI (XH n (2:Int) x),Zz [sI (XX n (2:Int) x),sI (Qag n (2:Int) x)]]/\true=true else ZS [aI (Zi .i64 (n-x)),Zz [sI 1,sI n]]=ZS [aI (XH n (2:Int) x),Zz [sI (XX n (2:Int) x),sI (Qag n (2:Int) x)]]/\true=true) Zc ?_
  refine Qo (λh=>⟨?_,rfl⟩) (λh=>?_)
  . rw[show XH n 2 x=n from by unfold XH;rw[Ze Zb,Zf rfl,Zf Za],show XX n 2 x=2 from by unfold XX;rw[Ze Zb,Zf rfl,Zf Za],show Qag n 2 x=0 from by unfold Qag;rw[Ze Zb,Zf rfl,Zf Za]]
  . rw[Qx Za Za,show XH n 2 x=n-x from by unfold XH;rw[Ze Zb,Zf rfl,Ze Za],show XX n 2 x=1 from by unfold XX;rw[Ze Zb,Zf rfl,Ze Za],show Qag n 2 x=n from by unfold Qag;rw[Ze Zb,Zf rfl,Ze Za]]
    exact⟨rfl,rfl⟩
 ·
  refine Qk (q:=ZS [aI n,Zz [sI 5,sI 0]]=ZS [aI (XH n (3:Int) x),Zz [sI (XX n (3:Int) x),sI (Qag n (3:Int) x)]]/\true=true) Zc ?_
  exact⟨rfl,rfl⟩
 ·
  refine Qk (q:=ZS [aI n,Zz [sI 5,sI 0]]=ZS [aI (XH n (4:Int) x),Zz [sI (XX n (4:Int) x),sI (Qag n (4:Int) x)]]/\true=true) Zc ?_
  exact⟨rfl,rfl⟩
 ·
  refine Qk (q:=ZS [aI n,Zz [sI 1,sI n]]=ZS [aI (XH n (5:Int) x),Zz [sI (XX n (5:Int) x),sI (Qag n (5:Int) x)]]/\true=true) Zc ?_
  exact⟨rfl,rfl⟩
 ·
  refine Qk (q:=ZS [aI n,Zz [sI 1,sI n]]=ZS [aI (XH n (6:Int) x),Zz [sI (XX n (6:Int) x),sI (Qag n (6:Int) x)]]/\true=true) Zc ?_
  exact⟨rfl,rfl⟩
def Ql5:PCon:=⟨λargs=>match args with
 |[.c (.v (.int .i64 n))]=>True
 |_=>False,λargs=>match args with
 |[.c (.v (.int .i64 n))]=>sv (.bool (decide (1<=n/\n<=6)))
 |_=>sv undef,λ_=>none⟩
theorem Qnn:(YE Ql5).holds Tryz.prog 30:=by
 refine QG (AG:=[]) (Γ:=[]) Tryz.func30 rfl Zc Qf Qc (λ_=>Za2 _ _ _) Ql5 400 ?_
 intro W args hp
 unfold Ql5 at hp;dsimp only at hp;split at hp
 case h_2=>exact hp.elim
 rename_i n
 refine⟨rfl,?_⟩
 refine Qk (q:=bif decide (n>=(1:Int))then ZG (aB (decide (n<=(6:Int))))=ZG (aB (decide ((1:Int)<=n/\n<=(6:Int))))/\true=true else ZG (aB false)=ZG (aB (decide ((1:Int)<=n/\n<=(6:Int))))/\true=true) Zc ?_
 exact Qo (λh=>⟨svB (by rw[decide_eq_decide];omega),rfl⟩) (λh=>⟨svB (by symm;rw[decide_eq_false_iff_not];omega),rfl⟩)
def Qb1:PCon:=⟨λargs=>match args with
 |[.a [.one (.v (.int .i64 a)),.one (.v (.int .i64 b)),.one (.v (.int .i64 c))]]=>True
 |_=>False,λargs=>match args with
 |[.a [.one (.v (.int .i64 a)),.one (.v (.int .i64 b)),.one (.v (.int .i64 c))]]=>sv (.bool (opOk a b c))
 |_=>sv undef,λ_=>none⟩
theorem Qld:(YE Qb1).holds Tryz.prog 51:=by
 refine QG (AG:=[]) (Γ:=[]) Tryz.func51 rfl Zc Qf Qc (λ_=>Za2 _ _ _) Qb1 400 ?_
 intro W args hp
 unfold Qb1 at hp;dsimp only at hp;split at hp
 case h_2=>exact hp.elim
 rename_i a b c
 refine⟨rfl,?_⟩
 refine Qk (q:=bif decide (a>=(1:Int))then bif decide (a<=(6:Int))then bif decide (b>=(0:Int))then bif decide (b<=(1000:Int))then bif decide (c>=(0:Int))then ZG (aB (decide (c<=(4294967295:Int))))=ZG (aB (opOk a b c))/\true=true else ZG (aB false)=ZG (aB (opOk a b c))/\true=true else ZG (aB false)=ZG (aB (opOk a b c))/\true=true else ZG (aB false)=ZG (aB (opOk a b c))/\true=true else ZG (aB false)=ZG (aB (opOk a b c))/\true=true else ZG (aB false)=ZG (aB (opOk a b c))/\true=true) Zc ?_
 repeat' (first|refine Qo (λ_=>?_) (λ_=>?_)|refine ZcU ?_ ?_)
 all_goals (first|rfl|(refine svB ?_;unfold opOk;first|(rw[decide_eq_decide];omega)|(symm;rw[decide_eq_false_iff_not];omega)))
def Qee:PCon:=⟨λargs=>match args with
 |[.c (.v (.int .i64 k)),.a [.ints (.int .u64) n f]]=>n=17/\ObjForm k (toN 17 f)
 |_=>False,λargs=>match args with
 |[.c (.v (.int .i64 k)),.a [.ints (.int .u64) n f]]=>sv (.bool (Qax k (toN 17 f)))
 |_=>sv undef,λ_=>none⟩
theorem Qil:(YE Qee).holds Tryz.prog 52:=by
 refine QG (AG:=[]) (Γ:=[(56,.mem QcL),(71,.mem Qb2),(53,.pure QaJ)]) Tryz.func52 rfl Zc Qf Qc (λW=>.cons (Qkg W _) (.cons (QlO W _) (.cons (Qie W _) (.nil _ _ _)))) Qee 400 ?_
 intro W args hp
 unfold Qee at hp;dsimp only at hp;split at hp
 case h_2=>exact hp.elim
 rename_i k n f
 obtain⟨rfl,h⟩:=hp
 refine⟨rfl,?_⟩
 have hk:k=1\/k=2\/k=3\/k=4\/k=5\/k=6:=by
  rcases h with (⟨h1,h2,-⟩|⟨h1,-⟩|⟨h1,-⟩)|⟨h1,-⟩<;>omega
 rcases hk with rfl|rfl|rfl|rfl|rfl|rfl
 ·
  refine Qk (q:=∃(s:QdO),[Zz [nU 17 f]]=[Zz [nU 17 s.1]]/\eN/\(toN 17 s.1=lstC s.2/\Zg s.2<=6/\InR s.2)/\∀(x:LstR),(Zg s.2<=x.1/\x.1<=x.2)/\IsL x.4 s.2->ZG (aB true)=ZG (aB (Qax (1:Int) (toN 17 f)))/\true=true) Zc ?_
  obtain⟨l,e,h1,h2,-⟩:=h.list Zb Zb
  exact⟨⟨f,l⟩,rfl,rfl,⟨e,h1,h2⟩,λ_ _=>⟨rfl,rfl⟩⟩
 ·
  refine Qk (q:=∃(s:QdO),[Zz [nU 17 f]]=[Zz [nU 17 s.1]]/\eN/\(toN 17 s.1=lstC s.2/\Zg s.2<=6/\InR s.2)/\∀(x:LstR),(Zg s.2<=x.1/\x.1<=x.2)/\IsL x.4 s.2->ZG (aB true)=ZG (aB (Qax (2:Int) (toN 17 f)))/\true=true) Zc ?_
  obtain⟨l,e,h1,h2,-⟩:=h.list Zb Zb
  exact⟨⟨f,l⟩,rfl,rfl,⟨e,h1,h2⟩,λ_ _=>⟨rfl,rfl⟩⟩
 ·
  refine Qk (q:=∃(s:QdO),[Zz [nU 17 f]]=[Zz [nU 17 s.1]]/\eN/\(toN 17 s.1=lstC s.2/\Zg s.2<=6/\InR s.2)/\∀(x:LstR),(Zg s.2<=x.1/\x.1<=x.2)/\IsL x.4 s.2->ZG (aB true)=ZG (aB (Qax (3:Int) (toN 17 f)))/\true=true) Zc ?_
  obtain⟨l,e,h1,h2,-⟩:=h.list Zb Zb
  exact⟨⟨f,l⟩,rfl,rfl,⟨e,h1,h2⟩,λ_ _=>⟨rfl,rfl⟩⟩
 ·
  refine Qk (q:=∃(s:QdO),[Zz [nU 17 f]]=[Zz [nU 17 s.1]]/\eN/\(toN 17 s.1=lstC s.2/\Zg s.2<=6/\InR s.2)/\∀(x:LstR),(Zg s.2<=x.1/\x.1<=x.2)/\IsL x.4 s.2->∃(s_1:UpS),[Zt (.so 1 0 1 (Zg s.2) x.2 x.3)]=[Zt (.so 1 0 1 (Zg s_1.1) s_1.3 s_1.4)]/\[Zk 3 [.int .i64] 1 x.1 x.2 x.4]=[Zk 3 [.int .i64] 1 s_1.2 s_1.3 s_1.5]/\(Zg s_1.1<=1000/\Zg s_1.1<=s_1.2/\s_1.2<=s_1.3/\IsL s_1.5 s_1.1)/\∀(x:Unit),True->ZG (aB (Qfh s_1.1))=ZG (aB (Qax (4:Int) (toN 17 f)))/\true=true) Zc ?_
  obtain⟨l,e,h1,h2,-⟩:=h.list Zb Zb
  refine⟨⟨f,l⟩,rfl,rfl,⟨e,h1,h2⟩,λy hy=>⟨⟨l,y.1,y.2,y.3,y.4⟩,rfl,rfl,⟨ZV h1 Zb,hy.1.1,hy.1.2,hy.2⟩,λ_ _=>⟨svB ?_,rfl⟩⟩⟩
  show Qfh l=Qfh (((toN 17 f).drop 1).take ((toN 17 f).getD 0 0).toNat)
  rw[e,Qf0]
 ·
  refine Qk (q:=(17=17/\Good (toN 16 f)/\f 16=(0:Int))/\ZG (aB true)=ZG (aB (Qax (5:Int) (toN 17 f)))/\true=true) Zc ?_
  obtain⟨g,h0⟩:=h.tab
  exact⟨⟨rfl,g,h0⟩,rfl,rfl⟩
 ·
  refine Qk (q:=(iR (0:Int) (17:Int))/\0<17/\bif decide (f 0<=(4294967295:Int))then (iR (0:Int) (17:Int))/\0<17/\ZG (aB (bif decide ([f 0,f 1,f 2,f 3,f 4,f 5,f 6,f 7,f 8,f 9,f 10,f 11,f 12,f 13,f 14,f 15,f 16]=[f 0,(0:Int),(0:Int),(0:Int),(0:Int),(0:Int),(0:Int),(0:Int),(0:Int),(0:Int),(0:Int),(0:Int),(0:Int),(0:Int),(0:Int),(0:Int),(0:Int)])then true else false))=ZG (aB (Qax (6:Int) (toN 17 f)))/\true=true else ZG (aB false)=ZG (aB (Qax (6:Int) (toN 17 f)))/\true=true) Zc ?_
  obtain⟨h0,h1,z⟩:=h.tally
  rw[z 1 Zb Zb,z 2 Zb Zb,z 3 Zb Zb,z 4 Zb Zb,z 5 Zb Zb,z 6 Zb Zb,z 7 Zb Zb,z 8 Zb Zb,z 9 Zb Zb,z 10 Zb Zb,z 11 Zb Zb,z 12 Zb Zb,z 13 Zb Zb,z 14 Zb Zb,z 15 Zb Zb,z 16 Zb Zb]
  refine⟨⟨Zb,Zb⟩,Zb,Qo (λ_=>⟨⟨Zb,Zb⟩,Zb,svB ?_,rfl⟩) (λh=>absurd h1 h)⟩
  rw[decide_eq_true rfl];rfl
def Qaw:PCon:=⟨λargs=>match args with
 |[.c (.v (.int .i64 k)),.a [.ints (.int .u64) n f],.a [.one (.v (.int .i64 w)),.one (.v (.int .i64 key)),.one (.v (.int .i64 x))]]=>n=17/\Qbx k (toN 17 f)
 |_=>False,λargs=>match args with
 |[.c (.v (.int .i64 k)),.a [.ints (.int .u64) n f],.a [.one (.v (.int .i64 w)),.one (.v (.int .i64 key)),.one (.v (.int .i64 x))]]=>
  .t [QcQ (fL (objR k (toN 17 f) w key x).1),ansA (objR k (toN 17 f) w key x).2.1 (objR k (toN 17 f) w key x).2.2,.c (.v .nilIface)]
 |_=>sv undef,λargs=>match args with
 |[.c (.v (.int .i64 k)),.a [.ints (.int .u64) n f],.a [.one (.v (.int .i64 w)),.one (.v (.int .i64 key)),.one (.v (.int .i64 x))]]=>
  some (opOk w key x,.t [QcQ (λ_=>0),ansA 0 0,.c (.v (.iface 50 (.int .i64 1)))])
 |_=>none⟩
theorem QeN (k:Int) (f f':Nat->Int) (w key x c v:Int) (M:List SB) (ho:opOk w key x=true) (d:List Int) (h:objR k (toN 17 f) w key x=(d,c,v)) (e:∀i,i<17->f' i=fL d i):
 endP Qaw [.c (.v (.int .i64 k)),QcQ f,opA w key x] (.t [QcQ f',ansA c v,.c (.v .nilIface)]) M:=by
 refine⟨rfl,λρ=>?_⟩
 simp only[Zby,Qaw,ho,cond_true,Zci,Z4,Zar]
 rw[h,QaE e]
theorem QgR (k:Int) (f:Nat->Int) (w key x:Int) (M:List SB) (ho:¬opOk w key x=true):
 endP Qaw [.c (.v (.int .i64 k)),QcQ f,opA w key x] (.t [QcQ (λ_=>0),ansA 0 0,.c (.v (.iface 50 (.int .i64 1)))]) M:=by
 refine⟨rfl,λρ=>?_⟩
 simp only[Zby,Qaw,Bool.not_eq_true]at *
 rw[ho];rfl
structure DoG (d:List Int) where
 i:Nat
 g:Nat->Int
 hi:i<=8
 h1:∀j,j<2*i->g j=fL d j
 h2:∀j,2*i<=j->g j=0
def annDo (d:List Int) (c v:Int):Ann where
 σ:=DoG d
 I g:=([(6,.o (.c (.p 0 0))),(7,.o (.c (.p 1 0))),(11,.o (.c (.p 2 0))),(12,.o (.c (.p 3 0))),(47,.o (.a [.ints (.int .i64) 16 (fL d)])),(48,sv (.int .i64 g.i))],
   [Qel (λ_=>0),.cells [.one (.v (.int .i64 0)),.one (.v (.int .i64 0))] 24,.cells [.one (.v (.int .i64 c)),.one (.v (.int .i64 v))] 24,Qel g.g])
 dec g:=8-g.i
 pi env _:=[blkE env 6,blkE env 7,blkE env 11,blkE env 12]
 nz:=[]
def agDo:List SA->List (Nat × Anns)
 |[_,.a [.ints (.int .u64) n f],.a [.one (.v (.int .i64 w)),.one (.v (.int .i64 key)),.one (.v (.int .i64 x))]]=>[(31,[(1,annDo (doT (toN 16 f) w key x).1 (doT (toN 16 f) w key x).2.1 (doT (toN 16 f) w key x).2.2)])]
 |_=>[]
theorem Qn9:(YE Qaw).holds Tryz.prog 31:=by
 refine QE (Γ:=[(51,.pure Qb1),(52,.pure Qee),(53,.pure QaJ),(54,.pure Xx),(55,.pure Qfu),(56,.mem QcL),(61,.mem Qeg),(57,.mem (QH queR)),(58,.mem (QH stkR)),(59,.mem (QH deqR)),(60,.mem (QH Xq))]) Tryz.func31 rfl Zc Qf Qc
  (λW=>.cons (Qld W _) (.cons (Qil W _) (.cons (Qie W _) (.cons (Qrl W _) (.cons (Qmk W _) (.cons (Qkg W _) (.cons (Qlo W _) (.cons (QmT W _) (.cons (QmD W _) (.cons (Qoa W _) (.cons (QpU W _) (.nil _ _ _)))))))))))) Qaw agDo 1000 ?_
 intro W args hp
 unfold Qaw at hp;dsimp only at hp;split at hp
 case h_2=>exact hp.elim
 rename_i k n f w key x
 obtain⟨rfl,h⟩:=hp
 refine⟨rfl,?_⟩
 have hk:k=1\/k=2\/k=3\/k=4\/k=5\/k=6:=by
  rcases h with⟨h1,h2,-⟩|⟨h1,-⟩|⟨h1,-⟩<;>omega
 rcases hk with rfl|rfl|rfl|rfl|rfl|rfl
 ·
  refine Qk (q:=True/\bif bif opOk w key x then false else true then endP Qaw [aI 1,Zz [nU 17 f],Zz [sI w,sI key,sI x]] (ZS [Zz [nU 17 zF],Zz [sI 0,sI 0],Zt (.v (.iface 50 (ZA .i64 (1:Int))))]) []else (17=17/\ObjForm (1:Int) (toN 17 f))/\bif bif Qax (1:Int) (toN 17 f)then false else true then endP Qaw [aI 1,Zz [nU 17 f],Zz [sI w,sI key,sI x]] (ZS [Zz [nU 17 zF],Zz [sI 0,sI 0],Zt (.v (.iface 50 (ZA .i64 (1:Int))))]) []else ∃(s:QdO),[Zz [nU 17 f]]=[Zz [nU 17 s.1]]/\eN/\(toN 17 s.1=lstC s.2/\Zg s.2<=6/\InR s.2)/\∀(x_1:LstR),(Zg s.2<=x_1.1/\x_1.1<=x_1.2)/\IsL x_1.4 s.2->∃(s_1:LstS),[Zt (.so 4 0 1 (Zg s.2) x_1.2 x_1.3),Zz [sI w,sI key,sI x]]=[Zt (.so 4 0 1 (Zg s_1.1) s_1.3 s_1.4),Zz [sI s_1.6,sI s_1.7,sI s_1.8]]/\[Zk 3 [.int .i64] 1 x_1.1 x_1.2 x_1.4]=[Zk 3 [.int .i64] 1 s_1.2 s_1.3 s_1.5]/\(Zg s_1.1<=6/\(Zg s_1.1<=s_1.2/\s_1.2<=s_1.3)/\IsL s_1.5 s_1.1/\InR s_1.1/\(1:Int)<=s_1.6/\s_1.6<=(6:Int))/\∀(x_2:LstR),(Zg (queR (LstS.l s_1) (LstS.k s_1) (LstS.x s_1)).1<=x_2.1/\x_2.1<=x_2.2)/\IsL x_2.4 (queR (LstS.l s_1) (LstS.k s_1) (LstS.x s_1)).1->∃(s:UpS),[Zt (.so 6 0 1 (Zg (queR (LstS.l s_1) (LstS.k s_1) (LstS.x s_1)).1) x_2.2 x_2.3)]=[Zt (.so 6 0 1 (Zg s.1) s.3 s.4)]/\[Zk 3 [.int .i64] 1 x_2.1 x_2.2 x_2.4]=[Zk 3 [.int .i64] 1 s.2 s.3 s.5]/\((Zg s.1<=1000/\Zg s.1<=s.2/\s.2<=s.3/\IsL s.5 s.1)/\Zg s.1<=6/\InR s.1)/\∀(x_3:Unit),True->dP Tryz.f31 20 8 [xE 5,⟨4,[],[3],[],false⟩,⟨3,[],[2],[],false⟩,xR 2 7,⟨1,[],[6],[],false⟩,xF 0 6]/\endP Qaw [aI 1,Zz [nU 17 f],Zz [sI w,sI key,sI x]] (ZS [Zz [nU 17 (fL (lstC s.1))],Zz [sI (Yx (queR (LstS.l s_1) (LstS.k s_1) (LstS.x s_1))).1,sI (Yx (queR (LstS.l s_1) (LstS.k s_1) (LstS.x s_1))).2],Zt (.v ZM)]) []) Zc ?_
  obtain⟨l,e,h1,h2,h3⟩:=(Zco (.inl h) Zb Zb)
  refine⟨Zd,Xn (λho=>QgR _ _ _ _ _ _ (by rw[ho];decide)) (λho=>⟨⟨rfl,.inl h⟩,Xn (λhr=>?_) (λ_=>?_)⟩)⟩
  . cases hr
  have hw:=of_decide_eq_true ho
  have hl:=(QmU l w x h1 h2 hw.2.2.2.2.1 hw.2.2.2.2.2 ⟨hw.1,hw.2.1⟩).1
  refine⟨⟨f,l⟩,rfl,rfl,⟨e,h1,h2⟩,λy hy=>⟨⟨l,y.1,y.2,y.3,y.4,w,key,x⟩,rfl,rfl,⟨h1,hy.1,hy.2,h2,hw.1,hw.2.1⟩,λq hq=>⟨⟨(queR l w x).1,q.1,q.2,q.3,q.4⟩,rfl,rfl,⟨⟨ZV hl.len Zb,hq.1.1,hq.1.2,hq.2⟩,hl.len,hl.inr⟩,λ_ _=>⟨Qd Zc,QeN _ _ _ _ _ _ _ _ _ ho _ ?_ (λ_ _=>rfl)⟩⟩⟩⟩
  rw[e,QbR 1 l w key x Zb Zb]
  unfold lstR;rw[Zf rfl]
 ·
  refine Qk (q:=True/\bif bif opOk w key x then false else true then endP Qaw [aI 2,Zz [nU 17 f],Zz [sI w,sI key,sI x]] (ZS [Zz [nU 17 zF],Zz [sI 0,sI 0],Zt (.v (.iface 50 (ZA .i64 (1:Int))))]) []else (17=17/\ObjForm (2:Int) (toN 17 f))/\bif bif Qax (2:Int) (toN 17 f)then false else true then endP Qaw [aI 2,Zz [nU 17 f],Zz [sI w,sI key,sI x]] (ZS [Zz [nU 17 zF],Zz [sI 0,sI 0],Zt (.v (.iface 50 (ZA .i64 (1:Int))))]) []else ∃(s:QdO),[Zz [nU 17 f]]=[Zz [nU 17 s.1]]/\eN/\(toN 17 s.1=lstC s.2/\Zg s.2<=6/\InR s.2)/\∀(x_1:LstR),(Zg s.2<=x_1.1/\x_1.1<=x_1.2)/\IsL x_1.4 s.2->∃(s_1:LstS),[Zt (.so 4 0 1 (Zg s.2) x_1.2 x_1.3),Zz [sI w,sI key,sI x]]=[Zt (.so 4 0 1 (Zg s_1.1) s_1.3 s_1.4),Zz [sI s_1.6,sI s_1.7,sI s_1.8]]/\[Zk 3 [.int .i64] 1 x_1.1 x_1.2 x_1.4]=[Zk 3 [.int .i64] 1 s_1.2 s_1.3 s_1.5]/\(Zg s_1.1<=6/\(Zg s_1.1<=s_1.2/\s_1.2<=s_1.3)/\IsL s_1.5 s_1.1/\InR s_1.1/\(1:Int)<=s_1.6/\s_1.6<=(6:Int))/\∀(x_2:LstR),(Zg (stkR (LstS.l s_1) (LstS.k s_1) (LstS.x s_1)).1<=x_2.1/\x_2.1<=x_2.2)/\IsL x_2.4 (stkR (LstS.l s_1) (LstS.k s_1) (LstS.x s_1)).1->∃(s:UpS),[Zt (.so 6 0 1 (Zg (stkR (LstS.l s_1) (LstS.k s_1) (LstS.x s_1)).1) x_2.2 x_2.3)]=[Zt (.so 6 0 1 (Zg s.1) s.3 s.4)]/\[Zk 3 [.int .i64] 1 x_2.1 x_2.2 x_2.4]=[Zk 3 [.int .i64] 1 s.2 s.3 s.5]/\((Zg s.1<=1000/\Zg s.1<=s.2/\s.2<=s.3/\IsL s.5 s.1)/\Zg s.1<=6/\InR s.1)/\∀(x_3:Unit),True->dP Tryz.f31 20 8 [xE 5,⟨4,[],[3],[],false⟩,⟨3,[],[2],[],false⟩,xR 2 7,⟨1,[],[6],[],false⟩,xF 0 6]/\endP Qaw [aI 2,Zz [nU 17 f],Zz [sI w,sI key,sI x]] (ZS [Zz [nU 17 (fL (lstC s.1))],Zz [sI (Yx (stkR (LstS.l s_1) (LstS.k s_1) (LstS.x s_1))).1,sI (Yx (stkR (LstS.l s_1) (LstS.k s_1) (LstS.x s_1))).2],Zt (.v ZM)]) []) Zc ?_
  obtain⟨l,e,h1,h2,h3⟩:=(Zco (.inl h) Zb Zb)
  refine⟨Zd,Xn (λho=>QgR _ _ _ _ _ _ (by rw[ho];decide)) (λho=>⟨⟨rfl,.inl h⟩,Xn (λhr=>?_) (λ_=>?_)⟩)⟩
  . cases hr
  have hw:=of_decide_eq_true ho
  have hl:=(Qms l w x h1 h2 hw.2.2.2.2.1 hw.2.2.2.2.2 ⟨hw.1,hw.2.1⟩).1
  refine⟨⟨f,l⟩,rfl,rfl,⟨e,h1,h2⟩,λy hy=>⟨⟨l,y.1,y.2,y.3,y.4,w,key,x⟩,rfl,rfl,⟨h1,hy.1,hy.2,h2,hw.1,hw.2.1⟩,λq hq=>⟨⟨(stkR l w x).1,q.1,q.2,q.3,q.4⟩,rfl,rfl,⟨⟨ZV hl.len Zb,hq.1.1,hq.1.2,hq.2⟩,hl.len,hl.inr⟩,λ_ _=>⟨Qd Zc,QeN _ _ _ _ _ _ _ _ _ ho _ ?_ (λ_ _=>rfl)⟩⟩⟩⟩
  rw[e,QbR 2 l w key x Zb Zb]
  unfold lstR;rw[Ze Zb,Zf rfl]
 ·
  refine Qk (q:=True/\bif bif opOk w key x then false else true then endP Qaw [aI 3,Zz [nU 17 f],Zz [sI w,sI key,sI x]] (ZS [Zz [nU 17 zF],Zz [sI 0,sI 0],Zt (.v (.iface 50 (ZA .i64 (1:Int))))]) []else (17=17/\ObjForm (3:Int) (toN 17 f))/\bif bif Qax (3:Int) (toN 17 f)then false else true then endP Qaw [aI 3,Zz [nU 17 f],Zz [sI w,sI key,sI x]] (ZS [Zz [nU 17 zF],Zz [sI 0,sI 0],Zt (.v (.iface 50 (ZA .i64 (1:Int))))]) []else ∃(s:QdO),[Zz [nU 17 f]]=[Zz [nU 17 s.1]]/\eN/\(toN 17 s.1=lstC s.2/\Zg s.2<=6/\InR s.2)/\∀(x_1:LstR),(Zg s.2<=x_1.1/\x_1.1<=x_1.2)/\IsL x_1.4 s.2->∃(s_1:LstS),[Zt (.so 4 0 1 (Zg s.2) x_1.2 x_1.3),Zz [sI w,sI key,sI x]]=[Zt (.so 4 0 1 (Zg s_1.1) s_1.3 s_1.4),Zz [sI s_1.6,sI s_1.7,sI s_1.8]]/\[Zk 3 [.int .i64] 1 x_1.1 x_1.2 x_1.4]=[Zk 3 [.int .i64] 1 s_1.2 s_1.3 s_1.5]/\(Zg s_1.1<=6/\(Zg s_1.1<=s_1.2/\s_1.2<=s_1.3)/\IsL s_1.5 s_1.1/\InR s_1.1/\(1:Int)<=s_1.6/\s_1.6<=(6:Int))/\∀(x_2:LstR),(Zg (deqR (LstS.l s_1) (LstS.k s_1) (LstS.x s_1)).1<=x_2.1/\x_2.1<=x_2.2)/\IsL x_2.4 (deqR (LstS.l s_1) (LstS.k s_1) (LstS.x s_1)).1->∃(s:UpS),[Zt (.so 6 0 1 (Zg (deqR (LstS.l s_1) (LstS.k s_1) (LstS.x s_1)).1) x_2.2 x_2.3)]=[Zt (.so 6 0 1 (Zg s.1) s.3 s.4)]/\[Zk 3 [.int .i64] 1 x_2.1 x_2.2 x_2.4]=[Zk 3 [.int .i64] 1 s.2 s.3 s.5]/\((Zg s.1<=1000/\Zg s.1<=s.2/\s.2<=s.3/\IsL s.5 s.1)/\Zg s.1<=6/\InR s.1)/\∀(x_3:Unit),True->dP Tryz.f31 20 8 [xE 5,⟨4,[],[3],[],false⟩,⟨3,[],[2],[],false⟩,xR 2 7,⟨1,[],[6],[],false⟩,xF 0 6]/\endP Qaw [aI 3,Zz [nU 17 f],Zz [sI w,sI key,sI x]] (ZS [Zz [nU 17 (fL (lstC s.1))],Zz [sI (Yx (deqR (LstS.l s_1) (LstS.k s_1) (LstS.x s_1))).1,sI (Yx (deqR (LstS.l s_1) (LstS.k s_1) (LstS.x s_1))).2],Zt (.v ZM)]) []) Zc ?_
  obtain⟨l,e,h1,h2,h3⟩:=(Zco (.inl h) Zb Zb)
  refine⟨Zd,Xn (λho=>QgR _ _ _ _ _ _ (by rw[ho];decide)) (λho=>⟨⟨rfl,.inl h⟩,Xn (λhr=>?_) (λ_=>?_)⟩)⟩
  . cases hr
  have hw:=of_decide_eq_true ho
  have hl:=(Qob l w x h1 h2 hw.2.2.2.2.1 hw.2.2.2.2.2 ⟨hw.1,hw.2.1⟩).1
  refine⟨⟨f,l⟩,rfl,rfl,⟨e,h1,h2⟩,λy hy=>⟨⟨l,y.1,y.2,y.3,y.4,w,key,x⟩,rfl,rfl,⟨h1,hy.1,hy.2,h2,hw.1,hw.2.1⟩,λq hq=>⟨⟨(deqR l w x).1,q.1,q.2,q.3,q.4⟩,rfl,rfl,⟨⟨ZV hl.len Zb,hq.1.1,hq.1.2,hq.2⟩,hl.len,hl.inr⟩,λ_ _=>⟨Qd Zc,QeN _ _ _ _ _ _ _ _ _ ho _ ?_ (λ_ _=>rfl)⟩⟩⟩⟩
  rw[e,QbR 3 l w key x Zb Zb]
  unfold lstR;rw[Ze Zb,Ze Zb,Zf rfl]
 ·
  refine Qk (q:=True/\bif bif opOk w key x then false else true then endP Qaw [aI 4,Zz [nU 17 f],Zz [sI w,sI key,sI x]] (ZS [Zz [nU 17 zF],Zz [sI 0,sI 0],Zt (.v (.iface 50 (ZA .i64 (1:Int))))]) []else (17=17/\ObjForm (4:Int) (toN 17 f))/\bif bif Qax (4:Int) (toN 17 f)then false else true then endP Qaw [aI 4,Zz [nU 17 f],Zz [sI w,sI key,sI x]] (ZS [Zz [nU 17 zF],Zz [sI 0,sI 0],Zt (.v (.iface 50 (ZA .i64 (1:Int))))]) []else ∃(s:QdO),[Zz [nU 17 f]]=[Zz [nU 17 s.1]]/\eN/\(toN 17 s.1=lstC s.2/\Zg s.2<=6/\InR s.2)/\∀(x_1:LstR),(Zg s.2<=x_1.1/\x_1.1<=x_1.2)/\IsL x_1.4 s.2->∃(s_1:LstS),[Zt (.so 4 0 1 (Zg s.2) x_1.2 x_1.3),Zz [sI w,sI key,sI x]]=[Zt (.so 4 0 1 (Zg s_1.1) s_1.3 s_1.4),Zz [sI s_1.6,sI s_1.7,sI s_1.8]]/\[Zk 3 [.int .i64] 1 x_1.1 x_1.2 x_1.4]=[Zk 3 [.int .i64] 1 s_1.2 s_1.3 s_1.5]/\(Zg s_1.1<=6/\(Zg s_1.1<=s_1.2/\s_1.2<=s_1.3)/\IsL s_1.5 s_1.1/\InR s_1.1/\(1:Int)<=s_1.6/\s_1.6<=(6:Int))/\∀(x_2:LstR),(Zg (Xq (LstS.l s_1) (LstS.k s_1) (LstS.x s_1)).1<=x_2.1/\x_2.1<=x_2.2)/\IsL x_2.4 (Xq (LstS.l s_1) (LstS.k s_1) (LstS.x s_1)).1->∃(s:UpS),[Zt (.so 6 0 1 (Zg (Xq (LstS.l s_1) (LstS.k s_1) (LstS.x s_1)).1) x_2.2 x_2.3)]=[Zt (.so 6 0 1 (Zg s.1) s.3 s.4)]/\[Zk 3 [.int .i64] 1 x_2.1 x_2.2 x_2.4]=[Zk 3 [.int .i64] 1 s.2 s.3 s.5]/\((Zg s.1<=1000/\Zg s.1<=s.2/\s.2<=s.3/\IsL s.5 s.1)/\Zg s.1<=6/\InR s.1)/\∀(x_3:Unit),True->dP Tryz.f31 20 8 [xE 5,⟨4,[],[3],[],false⟩,⟨3,[],[2],[],false⟩,xR 2 7,⟨1,[],[6],[],false⟩,xF 0 6]/\endP Qaw [aI 4,Zz [nU 17 f],Zz [sI w,sI key,sI x]] (ZS [Zz [nU 17 (fL (lstC s.1))],Zz [sI (Yx (Xq (LstS.l s_1) (LstS.k s_1) (LstS.x s_1))).1,sI (Yx (Xq (LstS.l s_1) (LstS.k s_1) (LstS.x s_1))).2],Zt (.v ZM)]) []) Zc ?_
  obtain⟨l,e,h1,h2,h3⟩:=(Zco (.inl h) Zb Zb)
  refine⟨Zd,Xn (λho=>QgR _ _ _ _ _ _ (by rw[ho];decide)) (λho=>⟨⟨rfl,.inl h⟩,Xn (λhr=>?_) (λ_=>?_)⟩)⟩
  . have hh:Qax 4 (toN 17 f)=Qfh l:=by show Qfh _=_;rw[e,Qf0]
    rw[hh,(Qiy l).2 ⟨h3 rfl h,h1⟩]at hr;cases hr
  have hw:=of_decide_eq_true ho
  have hl:=(Qko l w x h1 h2 hw.2.2.2.2.1 hw.2.2.2.2.2 ⟨hw.1,hw.2.1⟩).1
  refine⟨⟨f,l⟩,rfl,rfl,⟨e,h1,h2⟩,λy hy=>⟨⟨l,y.1,y.2,y.3,y.4,w,key,x⟩,rfl,rfl,⟨h1,hy.1,hy.2,h2,hw.1,hw.2.1⟩,λq hq=>⟨⟨(Xq l w x).1,q.1,q.2,q.3,q.4⟩,rfl,rfl,⟨⟨ZV hl.len Zb,hq.1.1,hq.1.2,hq.2⟩,hl.len,hl.inr⟩,λ_ _=>⟨Qd Zc,QeN _ _ _ _ _ _ _ _ _ ho _ ?_ (λ_ _=>rfl)⟩⟩⟩⟩
  rw[e,QbR 4 l w key x Zb Zb]
  unfold lstR;rw[Ze Zb,Ze Zb,Ze Zb]
 ·
  refine Qk (q:=True/\bif bif opOk w key x then false else true then endP Qaw [aI 5,Zz [nU 17 f],Zz [sI w,sI key,sI x]] (ZS [Zz [nU 17 zF],Zz [sI 0,sI 0],Zt (.v (.iface 50 (ZA .i64 (1:Int))))]) []else (17=17/\ObjForm (5:Int) (toN 17 f))/\bif bif Qax (5:Int) (toN 17 f)then false else true then endP Qaw [aI 5,Zz [nU 17 f],Zz [sI w,sI key,sI x]] (ZS [Zz [nU 17 zF],Zz [sI 0,sI 0],Zt (.v (.iface 50 (ZA .i64 (1:Int))))]) []else (17=17/\Good (toN 16 f)/\f 16=(0:Int))/\(16=16/\Good (toN 16 (fL (toN 16 f)))/\opOk w key x=true)/\(∃(s0:Ann.σ (annDo (ZJ (doT (toN 16 f) w key x)) (ZJ (Yx (doT (toN 16 f) w key x))) (Yx (Yx (doT (toN 16 f) w key x))))),(eS (aP 2 0) (aP 2 0)/\eS (aP 3 0) (aP 3 0)/\eS (aP 5 0) (aP 5 0)/\eS (aP 6 0) (aP 6 0)/\eS (Zz [nI 16 (fL (doT (toN 16 (fL (toN 16 f))) w key x).1)]) (Zz [nI 16 (fL (doT (toN 16 f) w key x).1)])/\eS (aI 0) (aI ↑s0.1)/\True)/\[Zj [nU 17 zF] 39,Zj [sI 0,sI 0] 24,Zj [sI (Yx (doT (toN 16 (fL (toN 16 f))) w key x)).1,sI (Yx (doT (toN 16 (fL (toN 16 f))) w key x)).2] 24,Zj [nU 17 zF] 39]=[Zj [nU 17 zF] 39,Zj [sI 0,sI 0] 24,Zj [sI (Yx (doT (toN 16 f) w key x)).1,sI (Yx (doT (toN 16 f) w key x)).2] 24,Zj [nU 17 s0.2] 39])/\∀(s:DoG (doT (toN 16 f) w key x).1),bif decide ((↑s.1:Int)<(8:Int))then (iR (↑s.1:Int) (8:Int))/\((0:Int)<=Zi .i64 ((2:Int)*(↑s.1:Int))/\Zi .i64 ((2:Int)*(↑s.1:Int))<(17:Int))/\Zh (Zi .i64 ((2:Int)*(↑s.1:Int)))<17/\((0:Int)<=Zi .i64 (Zi .i64 ((2:Int)*(↑s.1:Int))+(1:Int))/\Zi .i64 (Zi .i64 ((2:Int)*(↑s.1:Int))+(1:Int))<(17:Int))/\Zh (Zi .i64 (Zi .i64 ((2:Int)*(↑s.1:Int))+(1:Int)))<17/\dP Tryz.f31 11 5 [⟨14,[],[3],[],false⟩,xF 13 3,⟨12,[],[3],[],false⟩,xF 11 3,xE 10,xR 9 4,xF 8 4,xE 7,xR 6 4,xF 5 4,xE 4,xE 3,xE 2,xE 1,xE 0]/\∃(s':DoG (doT (toN 16 f) w key x).1),((eS (aP 0 0) (aP 0 0)/\eS (aP 1 0) (aP 1 0)/\eS (aP 2 0) (aP 2 0)/\eS (aP 3 0) (aP 3 0)/\eS (Zz [nI 16 (fL (doT (toN 16 f) w key x).1)]) (Zz [nI 16 (fL (doT (toN 16 f) w key x).1)])/\eS (aI (Zi .i64 ((↑s.1:Int)+(1:Int)))) (aI ↑s'.1)/\True)/\[Zj [nU 17 zF] 39,Zj [sI 0,sI 0] 24,Zj [sI (Yx (doT (toN 16 f) w key x)).1,sI (Yx (doT (toN 16 f) w key x)).2] 24,Zj [nU 17 λ(i:Nat)=>bif ZE i (Zh (Zi .i64 (Zi .i64 ((2:Int)*(↑s.1:Int))+(1:Int))))then Zi .u64 (fL (doT (toN 16 f) w key x).1 (0+Zh (↑s.1:Int)+Zh (↑s.1:Int)+1))else bif ZE i (Zh (Zi .i64 ((2:Int)*(↑s.1:Int))))then Zi .u64 (fL (doT (toN 16 f) w key x).1 (0+Zh (↑s.1:Int)+Zh (↑s.1:Int)))else s.2 i] 39]=[Zj [nU 17 zF] 39,Zj [sI 0,sI 0] 24,Zj [sI (Yx (doT (toN 16 f) w key x)).1,sI (Yx (doT (toN 16 f) w key x)).2] 24,Zj [nU 17 s'.2] 39])/\8-s'.1<8-s.1 else dP Tryz.f31 13 4 [xE 4,⟨3,[],[1],[],false⟩,⟨2,[],[0],[],false⟩,xR 1 2,xR 0 3]/\endP Qaw [aI 5,Zz [nU 17 f],Zz [sI w,sI key,sI x]] (ZS [Zz [nU 17 s.2],Zz [sI (Yx (doT (toN 16 f) w key x)).1,sI (Yx (doT (toN 16 f) w key x)).2],Zt (.v ZM)]) []) Zc ?_
  obtain⟨hg,h0⟩:=(ObjForm.tab (.inl h))
  refine⟨Zd,Xn (λho=>QgR _ _ _ _ _ _ (by rw[ho];decide)) (λho=>⟨⟨rfl,.inl h⟩,Xn (λhr=>by cases hr) (λ_=>?_)⟩)⟩
  have hw:=of_decide_eq_true ho
  have hG:=Qkx hg w key x hw.2.2.2.2.1 hw.2.2.2.2.2
  have he:objR 5 (toN 17 f) w key x=((doT (toN 16 f) w key x).1++[0],(doT (toN 16 f) w key x).2):=by
   rw[QjS,h0,QeE _ hg]
  rw[Qa1 (Qbf 16 f)]
  generalize doT (toN 16 f) w key x=D at *
  obtain⟨d,c,v⟩:=D
  dsimp only at hG he ⊢
  refine⟨⟨rfl,hg,h0⟩,⟨rfl,hg,ho⟩,⟨⟨0,λ_=>0,Za,λj hj=>Za,λ_ _=>rfl⟩,⟨rfl,rfl,rfl,rfl,rfl,rfl,Zd⟩,rfl⟩,?_⟩
  rintro⟨i,g,hi,g1,g2⟩
  dsimp only at hi g1 g2 ⊢
  refine Qo (λhlt=>?_) (λhge=>⟨Qd Zc,QeN _ _ _ _ _ _ _ _ _ ho _ he (λj hj=>?_)⟩)
  . have e1:Zi .i64 ((2:Int)*(i:Int))=((2*i:Nat):Int):=by rw[Qx Za Za];omega
    have hi8:i<8:=Za
    have fk:fL d (0+i+i)=tk d i:=by unfold tk fL;rfl
    have fv:fL d (0+i+i+1)=tv d i:=by unfold tv fL;rfl
    have k0:=hG.key0 i hi8
    have k1:=hG.key1 i hi8
    have v0:=hG.val0 i hi8
    have v1:=hG.val1 i hi8
    rw[e1,sucI Za,Zv,Zv,Zv,fk,fv,QaL Za Za,QaL Za Za]
    refine⟨⟨Za,Za⟩,⟨Za,Za⟩,Za,⟨Za,Za⟩,Za,Qd Zc,⟨i+1,_,Za,λj hj=>?_,λj hj=>?_⟩,⟨⟨rfl,rfl,rfl,rfl,rfl,svI (sucI Za),Zd⟩,rfl⟩,by dsimp only;omega⟩
    . by_cases a1:j=2*i+1
      . subst a1;rw[show ZE (2*i+1) (2*i+1)=true from Zbk _];unfold tv fL;rw[ZaE]
      . rw[show ZE j (2*i+1)=false from nbeq a1]
        by_cases a2:j=2*i
        . subst a2;rw[show ZE (2*i) (2*i)=true from Zbk _];unfold tk fL;rw[ZaE];rfl
        . rw[show ZE j (2*i)=false from nbeq a2];exact g1 j Za
    . rw[show ZE j (2*i+1)=false from nbeq Za,show ZE j (2*i)=false from nbeq Za];exact g2 j Za
  . by_cases hj16:j<16
    . rw[g1 j Za,Qaa (by rw[hG.len];exact hj16)]
    . rw[g2 j Za,XP (by rw[hG.len];omega),hG.len,show j=16 by omega];rfl
 ·
  refine Qk (q:=True/\bif bif opOk w key x then false else true then endP Qaw [aI 6,Zz [nU 17 f],Zz [sI w,sI key,sI x]] (ZS [Zz [nU 17 zF],Zz [sI 0,sI 0],Zt (.v (.iface 50 (ZA .i64 (1:Int))))]) []else (17=17/\ObjForm (6:Int) (toN 17 f))/\bif bif Qax (6:Int) (toN 17 f)then false else true then endP Qaw [aI 6,Zz [nU 17 f],Zz [sI w,sI key,sI x]] (ZS [Zz [nU 17 zF],Zz [sI 0,sI 0],Zt (.v (.iface 50 (ZA .i64 (1:Int))))]) []else (iR (0:Int) (17:Int))/\0<17/\((0:Int)<=Zi .i64 (f 0)/\Zi .i64 (f 0)<=(4294967295:Int)/\opOk w key x=true)/\dP Tryz.f31 16 5 [xE 6,⟨5,[],[3],[],false⟩,⟨4,[],[2],[],false⟩,xR 3 4,xE 2,xE 1,xE 0]/\endP Qaw [aI 6,Zz [nU 17 f],Zz [sI w,sI key,sI x]] (ZS [Zz [nU 17 λ(i:Nat)=>bif ZE i 0 then Zi .u64 (XH (Zi .i64 (f 0)) w x)else (0:Int)],Zz [sI (XX (Zi .i64 (f 0)) w x),sI (Qag (Zi .i64 (f 0)) w x)],Zt (.v ZM)]) []) Zc ?_
  obtain⟨h0,h1,z⟩:=ObjForm.tally (.inl h)
  refine⟨Zd,Xn (λho=>QgR _ _ _ _ _ _ (by rw[ho];decide)) (λho=>⟨⟨rfl,.inl h⟩,Xn (λhr=>by cases hr) (λ_=>?_)⟩)⟩
  have hw:=of_decide_eq_true ho
  have e:toN 17 f=f 0::YH 16 0:=by
   rcases h with⟨-,h,-⟩|⟨h,-⟩|⟨-,n,e,-⟩
   . omega
   . omega
   . have:=Xb (n:=17) (f:=f) (i:=0) Zb
     rw[e]at this
     rw[e,<- this];rfl
  rw[Qx Za Za,QaL (Qh5 _ _ _ h0 hw.2.2.2.2.1) (Int.lt_of_le_of_lt (Qh6 _ _ _ h1 hw.2.2.2.2.1) Zb)]
  refine⟨⟨Zb,Zb⟩,Zb,⟨h0,h1,ho⟩,Qd Zc,QeN _ _ _ _ _ _ _ _ _ ho _ (by rw[e,QeD]) (λj hj=>?_)⟩
  cases j with
  |zero=>rfl
  |succ j=>rw[Qam,Qd8];rfl
abbrev uA (n:Int):SA:=.c (.v (.int .u64 n))
def nilE:SA:=.c (.v .nilIface)
def QhM:PCon:=⟨λargs=>match args with
 |[.c (.v (.int .i64 n))]=>0<=n/\n<=64
 |_=>False,λargs=>match args with
 |[.c (.v (.int .i64 n))]=>sv (.int .u64 (Qgs n))
 |_=>sv undef,λ_=>none⟩
theorem Qpv:(YE QhM).holds Tryz.prog 114:=by
 refine QG (AG:=[]) (Γ:=[]) Tryz.func114 rfl Zc Qf Qc (λ_=>Za2 _ _ _) QhM 200 ?_
 intro W args hp
 unfold QhM at hp;dsimp only at hp;split at hp
 case h_2=>exact hp.elim
 rename_i n
 refine⟨rfl,?_⟩
 refine Qk (q:=bif decide (n>=(64:Int))then ZG (aU 18446744073709551615)=ZG (aU (Qgs n))/\true=true else (0:Int)<=n/\ZG (aU (Zi .u64 (Zi .u64 ((1:Int)*(2:Int)^min (Zh n) 64)-(1:Int))))=ZG (aU (Qgs n))/\true=true) Zc ?_
 obtain⟨m,rfl⟩:=Z6 hp.1
 refine QL (λh=>⟨?_,rfl⟩) (λh=>⟨hp.1,?_,rfl⟩)
 . unfold Qgs;rw[decide_eq_true (of_decide_eq_true h)];rfl
 . have h:=of_decide_eq_false h
   have l:=Nat.pow_lt_pow_right (show 1<2 by decide) (show m<64 by omega)
   have l2:=Nat.two_pow_pos m
   have e1:=Qjh 1 m Za Za
   rw[show (1:Int)*2^min (m:Int).toNat 64=((1:Nat):Int)*2^min (m:Int).toNat 64 from rfl,e1,onesN m Za]
   rw[show ((1*2^m:Nat):Int)-1=((2^m-1:Nat):Int) by omega,Qb7 Za]
def Qea:PCon:=⟨λargs=>match args with
 |[.c (.v (.int .i64 a)),.c (.v (.int .i64 n))]=>True
 |_=>False,λargs=>match args with
 |[.c (.v (.int .i64 a)),.c (.v (.int .i64 n))]=>sv (.bool (Qcq a n))
 |_=>sv undef,λ_=>none⟩
theorem QkM:(YE Qea).holds Tryz.prog 113:=by
 refine QG (AG:=[]) (Γ:=[]) Tryz.func113 rfl Zc Qf Qc (λ_=>Za2 _ _ _) Qea 200 ?_
 intro W args hp
 unfold Qea at hp;dsimp only at hp;split at hp
 case h_2=>exact hp.elim
 rename_i a n
 refine⟨rfl,?_⟩
 refine Qk (q:=bif decide (a>=(0:Int))then bif decide (n>=(1:Int))then bif decide (a<(64:Int))then ZG (aB (decide (n<=Zi .i64 ((64:Int)-a))))=ZG (aB (Qcq a n))/\true=true else ZG (aB false)=ZG (aB (Qcq a n))/\true=true else ZG (aB false)=ZG (aB (Qcq a n))/\true=true else ZG (aB false)=ZG (aB (Qcq a n))/\true=true) Zc ?_
 have hw:decide (a>=0)=true->decide (a<64)=true->Zi .i64 (64-a)=64-a:=λh1 h2=>by
  have:=of_decide_eq_true h1;have:=of_decide_eq_true h2
  simp only[Zi,Za4,ZaK];simp;omega
 refine QL (λh1=>QL (λh2=>QL (λh3=>⟨?_,rfl⟩) (λh3=>⟨?_,rfl⟩)) (λh2=>⟨?_,rfl⟩)) (λh1=>⟨?_,rfl⟩)
 . rw[hw h1 h3];refine svB ?_;unfold Qcq;simp only[decide_eq_true_eq,decide_eq_decide]at *;omega
 all_goals (refine svB ?_;unfold Qcq;symm;simp only[decide_eq_true_eq,decide_eq_false_iff_not]at *;omega)
def QiS:PCon:=⟨λargs=>match args with
 |[.c (.v (.int .u64 w)),.c (.v (.int .i64 a)),.c (.v (.int .i64 n))]=>U64 w/\Qcq a n=true
 |_=>False,λargs=>match args with
 |[.c (.v (.int .u64 w)),.c (.v (.int .i64 a)),.c (.v (.int .i64 n))]=>.t [uA (getZ w a n),nilE]
 |_=>sv undef,λ_=>none⟩
theorem QnE:(YE QiS).holds Tryz.prog 107:=by
 refine QG (AG:=[]) (Γ:=[(113,.pure Qea),(114,.pure QhM)]) Tryz.func107 rfl Zc Qf Qc
  (λW=>.cons (QkM W _) (.cons (Qpv W _) (.nil _ _ _))) QiS 200 ?_
 intro W args hp
 unfold QiS at hp;dsimp only at hp;split at hp
 case h_2=>exact hp.elim
 rename_i w a n
 refine⟨rfl,?_⟩
 refine Qk (q:=True/\bif bif Qcq a n then false else true then ZS [aU 0,Zt (.v (.iface 50 (ZA .i64 (2:Int))))]=ZS [aU (getZ w a n),Zt (.v ZM)]/\true=true else (0:Int)<=a/\((0:Int)<=n/\n<=(64:Int))/\dP Tryz.f107 3 0 [xE 7,xE 6,xE 5,xE 4,xE 3,xE 2,xE 1,xE 0]/\ZS [aU (bits ZcW .u64 (ZbO w ((2:Int)^min (Zh a) 64)) (Qgs n)),Zt (.v ZM)]=ZS [aU (getZ w a n),Zt (.v ZM)]/\true=true) Zc ?_
 have h:=of_decide_eq_true hp.2
 rw[hp.2]
 exact⟨Zd,Za,⟨Za,Za⟩,Qd Zc,by rw[Qhy hp.1 hp.2],rfl⟩
def QkA:PCon:=⟨λargs=>match args with
 |[.c (.v (.int .u64 w)),.c (.v (.int .i64 a))]=>U64 w
 |_=>False,λargs=>match args with
 |[.c (.v (.int .u64 w)),.c (.v (.int .i64 a))]=>sv (.bool (bitZ w a))
 |_=>sv undef,λ_=>none⟩
theorem Qsf:(YE QkA).holds Tryz.prog 104:=by
 refine QG (AG:=[]) (Γ:=[]) Tryz.func104 rfl Zc Qf Qc (λ_=>Za2 _ _ _) QkA 200 ?_
 intro W args hp
 unfold QkA at hp;dsimp only at hp;split at hp
 case h_2=>exact hp.elim
 rename_i w a
 refine⟨rfl,?_⟩
 refine Qk (q:=bif decide (a>=(0:Int))then bif decide (a<(64:Int))then (0:Int)<=a/\ZG (aB (bits ZcW .u64 (ZbO w ((2:Int)^min (Zh a) 64)) (1:Int)==(1:Int)))=ZG (aB (bitZ w a))/\true=true else ZG (aB false)=ZG (aB (bitZ w a))/\true=true else ZG (aB false)=ZG (aB (bitZ w a))/\true=true) Zc ?_
 refine QL (λh1=>QL (λh2=>⟨of_decide_eq_true h1,?_,rfl⟩) (λh2=>⟨?_,rfl⟩)) (λh1=>⟨?_,rfl⟩)
 . exact svB (Qqs hp ⟨of_decide_eq_true h1,of_decide_eq_true h2⟩)
 . refine svB ?_;unfold bitZ;rw[decide_eq_false (by have:=of_decide_eq_false h2;omega)];rfl
 . refine svB ?_;unfold bitZ;rw[decide_eq_false (by have:=of_decide_eq_false h1;omega)];rfl
def QhR:PCon:=⟨λargs=>match args with
 |[.c (.v (.int .u64 w)),.c (.v (.int .i64 a))]=>U64 w
 |_=>False,λargs=>match args with
 |[.c (.v (.int .u64 w)),.c (.v (.int .i64 a))]=>sv (.int .u64 (Qdm w a))
 |_=>sv undef,λ_=>none⟩
theorem QpY:(YE QhR).holds Tryz.prog 118:=by
 refine QG (AG:=[]) (Γ:=[]) Tryz.func118 rfl Zc Qf Qc (λ_=>Za2 _ _ _) QhR 200 ?_
 intro W args hp
 unfold QhR at hp;dsimp only at hp;split at hp
 case h_2=>exact hp.elim
 rename_i w a
 refine⟨rfl,?_⟩
 refine Qk (q:=bif decide (a<(0:Int))then ZG (aU w)=ZG (aU (Qdm w a))/\true=true else bif decide (a>=(64:Int))then ZG (aU w)=ZG (aU (Qdm w a))/\true=true else (0:Int)<=a/\ZG (aU (bits BinOp.xor .u64 w (Zi .u64 ((1:Int)*(2:Int)^min (Zh a) 64))))=ZG (aU (Qdm w a))/\true=true) Zc ?_
 refine QL (λh1=>⟨?_,rfl⟩) (λh1=>QL (λh2=>⟨?_,rfl⟩) (λh2=>⟨by have:=of_decide_eq_false h1;omega,?_,rfl⟩))
 . unfold Qdm;rw[decide_eq_false (by have:=of_decide_eq_true h1;omega)];rfl
 . unfold Qdm;rw[decide_eq_false (by have:=of_decide_eq_true h2;omega)];rfl
 . have h1:=of_decide_eq_false h1;have h2:=of_decide_eq_false h2
   rw[QnN hp ⟨Za,Za⟩]
def XS:PCon:=Qb1
theorem QaD:(YE XS).holds Tryz.prog 43:=by
 refine QG (AG:=[]) (Γ:=[]) Tryz.func43 rfl Zc Qf Qc (λ_=>Za2 _ _ _) XS 400 ?_
 intro W args hp
 unfold XS Qb1 at hp;dsimp only at hp;split at hp
 case h_2=>exact hp.elim
 rename_i a b c
 refine⟨rfl,?_⟩
 refine Qk (q:=bif decide (a>=(1:Int))then bif decide (a<=(6:Int))then bif decide (b>=(0:Int))then bif decide (b<=(1000:Int))then bif decide (c>=(0:Int))then ZG (aB (decide (c<=(4294967295:Int))))=ZG (aB (opOk a b c))/\true=true else ZG (aB false)=ZG (aB (opOk a b c))/\true=true else ZG (aB false)=ZG (aB (opOk a b c))/\true=true else ZG (aB false)=ZG (aB (opOk a b c))/\true=true else ZG (aB false)=ZG (aB (opOk a b c))/\true=true else ZG (aB false)=ZG (aB (opOk a b c))/\true=true) Zc ?_
 repeat' (first|refine Qo (λ_=>?_) (λ_=>?_)|refine ZcU ?_ ?_)
 all_goals (first|rfl|(refine svB ?_;unfold opOk;first|(rw[decide_eq_decide];omega)|(symm;rw[decide_eq_false_iff_not];omega)))
def Qge:PCon:=⟨λargs=>match args with
 |[.a [.one (.v (.int .i64 a)),.one (.v (.int .i64 b))]]=>True
 |_=>False,λargs=>match args with
 |[.a [.one (.v (.int .i64 a)),.one (.v (.int .i64 b))]]=>sv (.bool (Xc a b))
 |_=>sv undef,λ_=>none⟩
theorem Qkr:(YE Qge).holds Tryz.prog 108:=by
 refine QG (AG:=[]) (Γ:=[]) Tryz.func108 rfl Zc Qf Qc (λ_=>Za2 _ _ _) Qge 400 ?_
 intro W args hp
 unfold Qge at hp;dsimp only at hp;split at hp
 case h_2=>exact hp.elim
 rename_i a b
 refine⟨rfl,?_⟩
 refine Qk (q:=bif decide (a>=(1:Int))then bif decide (a<=(5:Int))then bif decide (b>=(0:Int))then bif decide (b<=(4294967295:Int))then bif a==(1:Int)then ZG (aB true)=ZG (aB (Xc a b))/\true=true else ZG (aB (b==(0:Int)))=ZG (aB (Xc a b))/\true=true else ZG (aB false)=ZG (aB (Xc a b))/\true=true else ZG (aB false)=ZG (aB (Xc a b))/\true=true else ZG (aB false)=ZG (aB (Xc a b))/\true=true else ZG (aB false)=ZG (aB (Xc a b))/\true=true) Zc ?_
 repeat' (first|refine Qo (λ_=>?_) (λ_=>?_)|refine QP (λ_=>?_) (λ_=>?_)|refine ZcU ?_ ?_)
 all_goals (first|rfl|(refine svB ?_;unfold Xc;first|(symm;rw[decide_eq_false_iff_not];omega)|(symm;rw[decide_eq_true_iff];omega)|(rw[decide_eq_decide];omega)|(rw[Bool.eq_iff_iff,beq_iff_eq,decide_eq_true_iff];omega)))
def Qei:PCon:=⟨λargs=>match args with
 |[.a [.one (.v (.int .i64 a)),.one (.v (.int .i64 b))]]=>QX a b
 |_=>False,λargs=>match args with
 |[.a [.one (.v (.int .i64 a)),.one (.v (.int .i64 b))]]=>.t [uA (ansW a b),nilE]
 |_=>sv undef,λ_=>none⟩
theorem Qmb:(YE Qei).holds Tryz.prog 117:=by
 refine QG (AG:=[]) (Γ:=[(108,.pure Qge)]) Tryz.func117 rfl Zc Qf Qc (λW=>.cons (Qkr W _) (.nil _ _ _)) Qei 400 ?_
 intro W args hp
 unfold Qei at hp;dsimp only at hp;split at hp
 case h_2=>exact hp.elim
 rename_i a b
 refine⟨rfl,?_⟩
 refine Qk (q:=True/\bif bif Xc a b then false else true then ZS [aU 0,Zt (.v (.iface 50 (ZA .i64 (1:Int))))]=ZS [aU (ansW a b),Zt (.v ZM)]/\true=true else (0:Int)<=(32:Int)/\ZS [aU (bits ZdO .u64 (Zi .u64 (Zi .u64 a*(4294967296:Int))) (Zi .u64 b)),Zt (.v ZM)]=ZS [aU (ansW a b),Zt (.v ZM)]/\true=true) Zc ?_
 have hb:=(Qb6 a b).2 hp
 have hw:=QqB hp
 rw[show (2:Int)^(min (32:Int).toNat 64)=4294967296 from rfl]at hw
 refine⟨Zd,Xn (λh=>absurd (hb.symm.trans h) Zb) (λ_=>⟨Zb,?_,rfl⟩)⟩
 rw[hw]
def QbM:PCon:=⟨λargs=>match args with
 |[.c (.v (.int .u64 w))]=>U64 w
 |_=>False,λargs=>match args with
 |[.c (.v (.int .u64 w))]=>.t [ansA (w/4294967296%4294967296) (w%4294967296),nilE]
 |_=>sv undef,λargs=>match args with
 |[.c (.v (.int .u64 w))]=>some (Xc (w/4294967296%4294967296) (w%4294967296),.t [ansA 0 0,.c (.v (.iface 50 (.int .i64 3)))])
 |_=>none⟩
theorem Qb8:(YE QbM).holds Tryz.prog 102:=by
 refine QG (AG:=[]) (Γ:=[(108,.pure Qge),(107,.pure QiS)]) Tryz.func102 rfl Zc Qf Qc (λW=>.cons (Qkr W _) (.cons (QnE W _) (.nil _ _ _))) QbM 400 ?_
 intro W args hp
 unfold QbM at hp;dsimp only at hp;split at hp
 case h_2=>exact hp.elim
 rename_i w
 refine⟨rfl,?_⟩
 refine Qk (q:=(U64 w/\true=true)/\(U64 w/\true=true)/\True/\bif bif Xc (Zi .i64 (getZ w (32:Int) (32:Int))) (Zi .i64 (getZ w (0:Int) (32:Int)))then false else true then (ZS [Zz [sI 0,sI 0],Zt (.v (.iface 50 (ZA .i64 (3:Int))))]=bif Xc (w/(4294967296:Int)%(4294967296:Int)) (w%(4294967296:Int))then ZS [Zz [sI (w/(4294967296:Int)%(4294967296:Int)),sI (w%(4294967296:Int))],Zt (.v ZM)]else ZS [Zz [sI 0,sI 0],Zt (.v (.iface 50 (ZA .i64 (3:Int))))])/\true=true else (ZS [Zz [sI (Zi .i64 (getZ w (32:Int) (32:Int))),sI (Zi .i64 (getZ w (0:Int) (32:Int)))],Zt (.v ZM)]=bif Xc (w/(4294967296:Int)%(4294967296:Int)) (w%(4294967296:Int))then ZS [Zz [sI (w/(4294967296:Int)%(4294967296:Int)),sI (w%(4294967296:Int))],Zt (.v ZM)]else ZS [Zz [sI 0,sI 0],Zt (.v (.iface 50 (ZA .i64 (3:Int))))])/\true=true) Zc ?_
 have e1:=QrO hp
 have e2:=QnG hp
 rw[e1,e2,Qx Za Za,Qx Za Za]
 exact⟨⟨hp,rfl⟩,⟨hp,rfl⟩,Zd,Xn (λh=>⟨by rw[h];rfl,rfl⟩) (λh=>⟨by rw[h];rfl,rfl⟩)⟩
structure WlS where
 s:WkS
 m:Nat->Int
 t:Sto
abbrev WlS.z (s:WlS):WSt:=⟨s.s.w,s.m,s.t⟩
abbrev wkM (x y:Nat) (s:WkS) (z:WSt):List SB:=[wkC x y z.w s.ca s.na s.cd s.nd,ramB z.m,stoB z.s,wkA s.ma s.ca s.za,wkD s.md s.cd s.zd]
def Q9 (d:Int):MCon:=dcon WlS (λs=>s.s.w.does=d/\s.s.w.th<4/\(0<=s.s.w.v/\s.s.w.v<18446744073709551616)/\(0<=s.s.w.seen 0/\s.s.w.seen 0<16)/\(0<=s.s.w.seen 2/\s.s.w.seen 2<=9223372036854775807)/\U64 (s.s.w.seen 1) /\
    (s.s.w.does=21->(s.m 1=s.s.w.v/\Qp (s.s.w.seen 0) s.s.w.th=s.s.w.tog)->Xc (s.s.w.seen 1/4294967296%4294967296) (s.s.w.seen 1%4294967296)=true))
 (λs=>[.c (.p 0 0),.c (.p 1 0),.c (.p 2 0)]) (λs=>wkM 3 4 s.s s.z) (λs=>sv (.bool (Q1 s.z).2)) (λs=>wkM 3 4 s.s (Q1 s.z).1) 5 Qcx
theorem Qln:(ZH (Q9 17)).holds Tryz.prog 88:=by
 intro w0 S
 refine Qa (Γ:=[(94,.mem Q7),(49,.mem QN),(95,.pure XA),(102,.pure QbM)]) (λ_=>noW) Tryz.func88 rfl Zc Qf Qc (λw S' _ _=>.cons (Xz w S') (.cons (QQ w S') (.cons (XB w S') (.cons (Qb8 w S') (.nil _ _ _))))) (Q9 17) (λ_=>[]) (λx0 h s x=>⟨rfl,Zd⟩) (λs ρ w _ _ _=>Qj w _) [] (Qi 5) 400 ?_
 rintro⟨⟨⟨th,does,k,key,x,tog,said,i,v,r,asks,deeds,seen,oc,ov,whn⟩,ma,ca,na,za,md,cd,nd,zd⟩,m,t⟩ W ⟨h0,h1,h2,h3,h4,h5,h6⟩ -
 refine⟨rfl,?_⟩
 dsimp only at h0 h1 h2 h3 h4 h5 h6
 subst h0
 refine Qk (q:=∃(s:Qa7),[aP 1 0,aI 1]=[aP 1 0,aI s.2]/\[ramB m]=[ramB s.1]/\(iR s.2 (16:Int))/\∀(x_1:Unit),True->endN (Q9 (17:Int)) [] (Qi 5) (WlS.mk (WkS.mk (Wk.mk th (17:Int) k key x tog said i v r asks deeds seen oc ov whn) ma ca na za md cd nd zd) m t) (ZG (aB false)) [Zj [sI ↑th,sI 18,sI k,sI key,sI x,sI tog,sB said,sI i,sU (s.1 (Zh s.2)),nU 32 r,sS 3 0 5 (Zg asks) ca na,sS 4 0 6 (Zg deeds) cd nd,nU 3 seen,sI oc,sI ov,sI whn] 108,ramB s.1,stoB (WlS.t (WlS.mk (WkS.mk (Wk.mk th (17:Int) k key x tog said i v r asks deeds seen oc ov whn) ma ca na za md cd nd zd) m t)),wkA ma ca za,wkD md cd zd]) Zc ?_
 exact⟨⟨m,1⟩,rfl,rfl,⟨(by decide:(0:Int)<=1),(by decide:(1:Int)<16)⟩,λ_ _=>⟨(),Zd,rfl,rfl⟩⟩
theorem Qlm:(ZH (Q9 18)).holds Tryz.prog 88:=by
 intro w0 S
 refine Qa (Γ:=[(94,.mem Q7),(49,.mem QN),(95,.pure XA),(102,.pure QbM)]) (λ_=>noW) Tryz.func88 rfl Zc Qf Qc (λw S' _ _=>.cons (Xz w S') (.cons (QQ w S') (.cons (XB w S') (.cons (Qb8 w S') (.nil _ _ _))))) (Q9 18) (λ_=>[]) (λx0 h s x=>⟨rfl,Zd⟩) (λs ρ w _ _ _=>Qj w _) [] (Qi 5) 400 ?_
 rintro⟨⟨⟨th,does,k,key,x,tog,said,i,v,r,asks,deeds,seen,oc,ov,whn⟩,ma,ca,na,za,md,cd,nd,zd⟩,m,t⟩ W ⟨h0,h1,h2,h3,h4,h5,h6⟩ -
 refine⟨rfl,?_⟩
 dsimp only at h0 h1 h2 h3 h4 h5 h6
 subst h0
 refine Qk (q:=(iR v (18446744073709551616:Int))/\∃(s:QC),[aP 2 0,aI (Zi .i64 ((↑(Qr v):Int)+(26:Int)))]=[aP 2 0,aI s.2]/\[stoB (WlS.t (WlS.mk (WkS.mk (Wk.mk th (18:Int) k key x tog said i v r asks deeds seen oc ov whn) ma ca na za md cd nd zd) m t))]=[stoB (QC.s s)]/\(iR s.2 (72:Int))/\∀(x_1:Unit),True->(iR (0:Int) (3:Int))/\0<3/\dP Tryz.f88 5 5 [⟨15,[],[0],[3,4],false⟩,xF 14 0,xF 13 0,xF 12 0,xE 11,xE 10,xE 9,⟨8,[],[2],[],false⟩,xE 7,xE 6,xR 5 0,xF 4 0,xF 3 0,xF 2 0,xF 1 2,xF 0 0]/\endN (Q9 (18:Int)) [] (Qi 5) (WlS.mk (WkS.mk (Wk.mk th (18:Int) k key x tog said i v r asks deeds seen oc ov whn) ma ca na za md cd nd zd) m t) (ZG (aB false)) [Zj [sI ↑th,sI 19,sI k,sI key,sI x,sI tog,sB said,sI i,sU v,nU 32 r,sS 3 0 5 (Zg asks) ca na,sS 4 0 6 (Zg deeds) cd nd,nU 3 λ(i:Nat)=>bif ZE i 0 then (QC.s s).1 (Zh s.2)else seen i,sI oc,sI ov,sI whn] 108,ramB m,stoB (QC.s s),wkA ma ca za,wkD md cd zd]) Zc ?_
 have hb:Qr v<=40:=by unfold Qr;omega
 have e:Zi .i64 ((Qr v:Int)+26)=((Qr v+26:Nat):Int):=by rw[Qx Za Za];omega
 rw[e]
 exact⟨h2,⟨t,((Qr v+26:Nat):Int)⟩,rfl,rfl,⟨(by omega:(0:Int)<=((Qr v+26:Nat):Int)),(by omega:((Qr v+26:Nat):Int)<72)⟩,λ_ _=>⟨⟨Zb,Zb⟩,Zb,Qd Zc,(),Zd,rfl,rfl⟩⟩
theorem Qll:(ZH (Q9 19)).holds Tryz.prog 88:=by
 intro w0 S
 refine Qa (Γ:=[(94,.mem Q7),(49,.mem QN),(95,.pure XA),(102,.pure QbM)]) (λ_=>noW) Tryz.func88 rfl Zc Qf Qc (λw S' _ _=>.cons (Xz w S') (.cons (QQ w S') (.cons (XB w S') (.cons (Qb8 w S') (.nil _ _ _))))) (Q9 19) (λ_=>[]) (λx0 h s x=>⟨rfl,Zd⟩) (λs ρ w _ _ _=>Qj w _) [] (Qi 5) 400 ?_
 rintro⟨⟨⟨th,does,k,key,x,tog,said,i,v,r,asks,deeds,seen,oc,ov,whn⟩,ma,ca,na,za,md,cd,nd,zd⟩,m,t⟩ W ⟨h0,h1,h2,h3,h4,h5,h6⟩ -
 refine⟨rfl,?_⟩
 dsimp only at h0 h1 h2 h3 h4 h5 h6
 subst h0
 refine Qk (q:=(iR v (18446744073709551616:Int))/\∃(s:QC),[aP 2 0,aI (Zi .i64 (Zi .i64 ((↑(Qr v):Int)+(18:Int))+(↑th:Int)))]=[aP 2 0,aI s.2]/\[stoB (WlS.t (WlS.mk (WkS.mk (Wk.mk th (19:Int) k key x tog said i v r asks deeds seen oc ov whn) ma ca na za md cd nd zd) m t))]=[stoB (QC.s s)]/\(iR s.2 (72:Int))/\∀(x_1:Unit),True->(iR (1:Int) (3:Int))/\1<3/\dP Tryz.f88 7 5 [⟨20,[],[0],[3,4],false⟩,xF 19 0,xF 18 0,xF 17 0,xE 16,xE 15,xE 14,⟨13,[],[2],[],false⟩,xE 12,xR 11 0,xF 10 0,xF 9 0,xF 8 0,xE 7,xE 6,xR 5 0,xF 4 0,xF 3 0,xF 2 0,xF 1 2,xF 0 0]/\endN (Q9 (19:Int)) [] (Qi 5) (WlS.mk (WkS.mk (Wk.mk th (19:Int) k key x tog said i v r asks deeds seen oc ov whn) ma ca na za md cd nd zd) m t) (ZG (aB false)) [Zj [sI ↑th,sI 20,sI k,sI key,sI x,sI tog,sB said,sI i,sU v,nU 32 r,sS 3 0 5 (Zg asks) ca na,sS 4 0 6 (Zg deeds) cd nd,nU 3 λ(i:Nat)=>bif ZE i 1 then (QC.s s).1 (Zh s.2)else seen i,sI oc,sI ov,sI whn] 108,ramB m,stoB (QC.s s),wkA ma ca za,wkD md cd zd]) Zc ?_
 have hb:Qr v<=40:=by unfold Qr;omega
 have e:Zi .i64 (Zi .i64 ((Qr v:Int)+18)+(th:Int))=((Qr v+18+th:Nat):Int):=by rw[Qx (x:=(Qr v:Int)+18) Za Za,Qx Za Za];omega
 rw[e]
 exact⟨h2,⟨t,((Qr v+18+th:Nat):Int)⟩,rfl,rfl,⟨(by omega:(0:Int)<=((Qr v+18+th:Nat):Int)),(by omega:((Qr v+18+th:Nat):Int)<72)⟩,λ_ _=>⟨⟨Zb,Zb⟩,Zb,Qd Zc,(),Zd,rfl,rfl⟩⟩
theorem Qlk:(ZH (Q9 20)).holds Tryz.prog 88:=by
 intro w0 S
 refine Qa (Γ:=[(94,.mem Q7),(49,.mem QN),(95,.pure XA),(102,.pure QbM)]) (λ_=>noW) Tryz.func88 rfl Zc Qf Qc (λw S' _ _=>.cons (Xz w S') (.cons (QQ w S') (.cons (XB w S') (.cons (Qb8 w S') (.nil _ _ _))))) (Q9 20) (λ_=>[]) (λx0 h s x=>⟨rfl,Zd⟩) (λs ρ w _ _ _=>Qj w _) [] (Qi 5) 400 ?_
 rintro⟨⟨⟨th,does,k,key,x,tog,said,i,v,r,asks,deeds,seen,oc,ov,whn⟩,ma,ca,na,za,md,cd,nd,zd⟩,m,t⟩ W ⟨h0,h1,h2,h3,h4,h5,h6⟩ -
 refine⟨rfl,?_⟩
 dsimp only at h0 h1 h2 h3 h4 h5 h6
 subst h0
 refine Qk (q:=(iR v (18446744073709551616:Int))/\∃(s:QC),[aP 2 0,aI (Zi .i64 (Zi .i64 ((↑(Qr v):Int)+(22:Int))+(↑th:Int)))]=[aP 2 0,aI s.2]/\[stoB (WlS.t (WlS.mk (WkS.mk (Wk.mk th (20:Int) k key x tog said i v r asks deeds seen oc ov whn) ma ca na za md cd nd zd) m t))]=[stoB (QC.s s)]/\(iR s.2 (72:Int))/\∀(x_1:Unit),True->(iR (2:Int) (3:Int))/\2<3/\dP Tryz.f88 9 5 [⟨20,[],[0],[3,4],false⟩,xF 19 0,xF 18 0,xF 17 0,xE 16,xE 15,xE 14,⟨13,[],[2],[],false⟩,xE 12,xR 11 0,xF 10 0,xF 9 0,xF 8 0,xE 7,xE 6,xR 5 0,xF 4 0,xF 3 0,xF 2 0,xF 1 2,xF 0 0]/\endN (Q9 (20:Int)) [] (Qi 5) (WlS.mk (WkS.mk (Wk.mk th (20:Int) k key x tog said i v r asks deeds seen oc ov whn) ma ca na za md cd nd zd) m t) (ZG (aB false)) [Zj [sI ↑th,sI 21,sI k,sI key,sI x,sI tog,sB said,sI i,sU v,nU 32 r,sS 3 0 5 (Zg asks) ca na,sS 4 0 6 (Zg deeds) cd nd,nU 3 λ(i:Nat)=>bif ZE i 2 then (QC.s s).1 (Zh s.2)else seen i,sI oc,sI ov,sI whn] 108,ramB m,stoB (QC.s s),wkA ma ca za,wkD md cd zd]) Zc ?_
 have hb:Qr v<=40:=by unfold Qr;omega
 have e:Zi .i64 (Zi .i64 ((Qr v:Int)+22)+(th:Int))=((Qr v+22+th:Nat):Int):=by rw[Qx (x:=(Qr v:Int)+22) Za Za,Qx Za Za];omega
 rw[e]
 exact⟨h2,⟨t,((Qr v+22+th:Nat):Int)⟩,rfl,rfl,⟨(by omega:(0:Int)<=((Qr v+22+th:Nat):Int)),(by omega:((Qr v+22+th:Nat):Int)<72)⟩,λ_ _=>⟨⟨Zb,Zb⟩,Zb,Qd Zc,(),Zd,rfl,rfl⟩⟩
theorem Qlj:(ZH (Q9 21)).holds Tryz.prog 88:=by
 intro w0 S
 refine Qa (Γ:=[(94,.mem Q7),(49,.mem QN),(95,.pure XA),(102,.pure QbM)]) (λ_=>noW) Tryz.func88 rfl Zc Qf Qc (λw S' _ _=>.cons (Xz w S') (.cons (QQ w S') (.cons (XB w S') (.cons (Qb8 w S') (.nil _ _ _))))) (Q9 21) (λ_=>[]) (λx0 h s x=>⟨rfl,Zd⟩) (λs ρ w _ _ _=>Qj w _) [] (Qi 5) 400 ?_
 rintro⟨⟨⟨th,does,k,key,x,tog,said,i,v,r,asks,deeds,seen,oc,ov,whn⟩,ma,ca,na,za,md,cd,nd,zd⟩,m,t⟩ W ⟨h0,h1,h2,h3,h4,h5,h6⟩ -
 refine⟨rfl,?_⟩
 dsimp only at h0 h1 h2 h3 h4 h5 h6
 subst h0
 refine Qk (q:=∃(s:Qa7),[aP 1 0,aI 1]=[aP 1 0,aI s.2]/\[ramB m]=[ramB s.1]/\(iR s.2 (16:Int))/\∀(x_1:Unit),True->bif s.1 (Zh s.2)==v then (iR (0:Int) (3:Int))/\0<3/\(0:Int)<=(↑th:Int)/\dP Tryz.f88 12 5 [xE 24,xE 23,xR 22 0,xF 21 0,xF 20 0,xF 19 0,xE 18,xE 17,xE 16,xR 15 0,xF 14 0,xF 13 0,xF 12 0,xR 11 0,xF 10 0,xF 9 0,xF 8 0,xF 7 0,xE 6,xE 5,xR 4 0,xF 3 0,xF 2 0,xF 1 0,xE 0]/\bif Zi .i64 (bits ZcW .u64 (ZbO (seen 0) ((2:Int)^min (Zh (↑th:Int)) 64)) (1:Int))==tog then (iR (1:Int) (3:Int))/\1<3/\U64 (seen 1)/\bif Xc (seen 1/(4294967296:Int)%(4294967296:Int)) (seen 1%(4294967296:Int))then (iR (2:Int) (3:Int))/\2<3/\endN (Q9 (21:Int)) [] (Qi 5) (WlS.mk (WkS.mk (Wk.mk th (21:Int) k key x tog said i v r asks deeds seen oc ov whn) ma ca na za md cd nd zd) m t) (ZG (aB true)) [Zj [sI ↑th,sI 0,sI k,sI key,sI x,sI tog,sB said,sI i,sU v,nU 32 r,sS 3 0 5 (Zg asks) ca na,sS 4 0 6 (Zg deeds) cd nd,nU 3 seen,sI (seen 1/(4294967296:Int)%(4294967296:Int)),sI (seen 1%(4294967296:Int)),sI (Zi .i64 (seen 2))] 108,ramB s.1,stoB (WlS.t (WlS.mk (WkS.mk (Wk.mk th (21:Int) k key x tog said i v r asks deeds seen oc ov whn) ma ca na za md cd nd zd) m t)),wkA ma ca za,wkD md cd zd]else (iR (2:Int) (3:Int))/\2<3/\endN (Q9 (21:Int)) [] (Qi 5) (WlS.mk (WkS.mk (Wk.mk th (21:Int) k key x tog said i v r asks deeds seen oc ov whn) ma ca na za md cd nd zd) m t) (ZG (aB true)) [Zj [sI ↑th,sI 0,sI k,sI key,sI x,sI tog,sB said,sI i,sU v,nU 32 r,sS 3 0 5 (Zg asks) ca na,sS 4 0 6 (Zg deeds) cd nd,nU 3 seen,sI 0,sI 0,sI (Zi .i64 (seen 2))] 108,ramB s.1,stoB (WlS.t (WlS.mk (WkS.mk (Wk.mk th (21:Int) k key x tog said i v r asks deeds seen oc ov whn) ma ca na za md cd nd zd) m t)),wkA ma ca za,wkD md cd zd]else bif bif said then false else true then endN (Q9 (21:Int)) [] (Qi 5) (WlS.mk (WkS.mk (Wk.mk th (21:Int) k key x tog said i v r asks deeds seen oc ov whn) ma ca na za md cd nd zd) m t) (ZG (aB false)) [Zj [sI ↑th,sI 1,sI k,sI key,sI x,sI tog,sB said,sI i,sU v,nU 32 r,sS 3 0 5 (Zg asks) ca na,sS 4 0 6 (Zg deeds) cd nd,nU 3 seen,sI oc,sI ov,sI whn] 108,ramB s.1,stoB (WlS.t (WlS.mk (WkS.mk (Wk.mk th (21:Int) k key x tog said i v r asks deeds seen oc ov whn) ma ca na za md cd nd zd) m t)),wkA ma ca za,wkD md cd zd]else endN (Q9 (21:Int)) [] (Qi 5) (WlS.mk (WkS.mk (Wk.mk th (21:Int) k key x tog said i v r asks deeds seen oc ov whn) ma ca na za md cd nd zd) m t) (ZG (aB false)) [Zj [sI ↑th,sI 3,sI k,sI key,sI x,sI tog,sB said,sI i,sU v,nU 32 r,sS 3 0 5 (Zg asks) ca na,sS 4 0 6 (Zg deeds) cd nd,nU 3 seen,sI oc,sI ov,sI whn] 108,ramB s.1,stoB (WlS.t (WlS.mk (WkS.mk (Wk.mk th (21:Int) k key x tog said i v r asks deeds seen oc ov whn) ma ca na za md cd nd zd) m t)),wkA ma ca za,wkD md cd zd]else dP Tryz.f88 12 5 [xE 24,xE 23,xE 22,xE 21,xE 20,xE 19,xE 18,xE 17,xE 16,xE 15,xE 14,xE 13,xE 12,xE 11,xE 10,xE 9,xE 8,xE 7,xE 6,xE 5,xR 4 0,xF 3 0,xF 2 0,xF 1 0,xE 0]/\bif bif said then false else true then endN (Q9 (21:Int)) [] (Qi 5) (WlS.mk (WkS.mk (Wk.mk th (21:Int) k key x tog said i v r asks deeds seen oc ov whn) ma ca na za md cd nd zd) m t) (ZG (aB false)) [Zj [sI ↑th,sI 1,sI k,sI key,sI x,sI tog,sB said,sI i,sU v,nU 32 r,sS 3 0 5 (Zg asks) ca na,sS 4 0 6 (Zg deeds) cd nd,nU 3 seen,sI oc,sI ov,sI whn] 108,ramB s.1,stoB (WlS.t (WlS.mk (WkS.mk (Wk.mk th (21:Int) k key x tog said i v r asks deeds seen oc ov whn) ma ca na za md cd nd zd) m t)),wkA ma ca za,wkD md cd zd]else endN (Q9 (21:Int)) [] (Qi 5) (WlS.mk (WkS.mk (Wk.mk th (21:Int) k key x tog said i v r asks deeds seen oc ov whn) ma ca na za md cd nd zd) m t) (ZG (aB false)) [Zj [sI ↑th,sI 3,sI k,sI key,sI x,sI tog,sB said,sI i,sU v,nU 32 r,sS 3 0 5 (Zg asks) ca na,sS 4 0 6 (Zg deeds) cd nd,nU 3 seen,sI oc,sI ov,sI whn] 108,ramB s.1,stoB (WlS.t (WlS.mk (WkS.mk (Wk.mk th (21:Int) k key x tog said i v r asks deeds seen oc ov whn) ma ca na za md cd nd zd) m t)),wkA ma ca za,wkD md cd zd]) Zc ?_
 have eb:Zi .i64 (bits ZcW .u64 (ZbO (seen 0) (2^min (Zh (th:Int)) 64)) 1)=Qp (seen 0) th:=by
  have:=Qhy (w:=seen 0) (a:=(th:Int)) (n:=1) ⟨Za,Za⟩ (by unfold Qcq;exact decide_eq_true Za)
  rw[show Qgs 1=1 from rfl]at this
  rw[this]
  have hs:(seen 0).toNat<16:=Za
  have ht:((seen 0).toNat:Int)=seen 0:=Za
  have hg:getZ (seen 0) (th:Int) 1=Qp (seen 0) th:=by
   unfold getZ Qp getN
   rw[Zv]
   rcases (show th=0\/th=1\/th=2\/th=3 by omega)with rfl|rfl|rfl|rfl<;>(simp only[Int.toNat_one,Nat.pow_one,Nat.reducePow,Int.reducePow];omega)
  rw[hg]
  unfold Qp
  exact Qx Za Za
 have e2:Zi .i64 (seen 2)=seen 2:=Qx Za h4.2
 rw[eb,e2]
 refine⟨⟨m,1⟩,rfl,rfl,⟨(by decide:(0:Int)<=1),(by decide:(1:Int)<16)⟩,λ_ _=>?_⟩
 show bif m 1==v then _ else _
 refine QP (λev=>?_) (λev=>?_)
 . refine⟨⟨Zb,Zb⟩,Zb,Za,Qd Zc,QP (λeg=>?_) (λeg=>?_)⟩
   . have ha:=h6 rfl ⟨ev,eg⟩
     have hl:Q1 ⟨⟨th,21,k,key,x,tog,said,i,v,r,asks,deeds,seen,oc,ov,whn⟩,m,t⟩=(⟨⟨th,0,k,key,x,tog,said,i,v,r,asks,deeds,seen,seen 1/4294967296%4294967296,seen 1%4294967296,seen 2⟩,m,t⟩,true):=by
      rw[Qit _ rfl,Zf ⟨ev,eg⟩]
     refine⟨⟨Zb,Zb⟩,Zb,h5,QL (λ_=>⟨⟨Zb,Zb⟩,Zb,(),Zd,?_,?_⟩) (λh=>absurd (ha.symm.trans h) Zb)⟩
     . show _=sv (.bool (Q1 _).2)
       rw[hl]
     . show _=wkM 3 4 _ (Q1 _).1
       rw[hl];rfl
   . have hl (b:Bool):Q1 ⟨⟨th,21,k,key,x,tog,b,i,v,r,asks,deeds,seen,oc,ov,whn⟩,m,t⟩=(⟨⟨th,if b then 3 else 1,k,key,x,tog,b,i,v,r,asks,deeds,seen,oc,ov,whn⟩,m,t⟩,false):=by
      rw[Qit _ rfl,Ze (λh=>eg h.2)]
     refine Xn (λhs=>⟨(),Zd,?_,?_⟩) (λhs=>⟨(),Zd,?_,?_⟩)<;>subst hs
     . show _=sv (.bool (Q1 _).2)
       rw[hl]
     . show _=wkM 3 4 _ (Q1 _).1
       rw[hl];rfl
     . show _=sv (.bool (Q1 _).2)
       rw[hl]
     . show _=wkM 3 4 _ (Q1 _).1
       rw[hl];rfl
 . have hl (b:Bool):Q1 ⟨⟨th,21,k,key,x,tog,b,i,v,r,asks,deeds,seen,oc,ov,whn⟩,m,t⟩=(⟨⟨th,if b then 3 else 1,k,key,x,tog,b,i,v,r,asks,deeds,seen,oc,ov,whn⟩,m,t⟩,false):=by
    rw[Qit _ rfl,Ze (λh=>ev h.1)]
   refine⟨Qd Zc,Xn (λhs=>⟨(),Zd,?_,?_⟩) (λhs=>⟨(),Zd,?_,?_⟩)⟩<;>subst hs
   . show _=sv (.bool (Q1 _).2)
     rw[hl]
   . show _=wkM 3 4 _ (Q1 _).1
     rw[hl];rfl
   . show _=sv (.bool (Q1 _).2)
     rw[hl]
   . show _=wkM 3 4 _ (Q1 _).1
     rw[hl];rfl
abbrev recA (f:Nat->Int):SA:=.a [.ints (.int .u64) 32 f]
abbrev recB (f:Nat->Int):SB:=.cells [.ints (.int .u64) 32 f] 96
abbrev errA (n:Int):SA:=.c (.v (.iface 50 (.int .i64 n)))
def QdK:PCon:=⟨λargs=>match args with
 |[.c (.v (.int .i64 k))]=>1<=k/\k<=6
 |_=>False,λargs=>match args with
 |[.c (.v (.int .i64 k))]=>.t [recA (fL (Rec.new k).words),nilE]
 |_=>sv undef,λ_=>none⟩
theorem Qpj:(YE QdK).holds Tryz.prog 38:=by
 refine QE (Γ:=[(30,.pure Ql5)]) Tryz.func38 rfl Zc Qf Qc (λW=>.cons (Qnn W _) (.nil _ _ _)) QdK (λ_=>[]) 400 ?_
 intro W args hp
 unfold QdK at hp;dsimp only at hp;split at hp
 case h_2=>exact hp.elim
 rename_i k
 refine⟨rfl,?_⟩
 refine Qk (q:=True/\bif bif decide ((1:Int)<=k/\k<=(6:Int))then false else true then endP QdK [aI k] (ZS [Zz [nU 32 zF],Zt (.v (.iface 50 (ZA .i64 (1:Int))))]) []else endP QdK [aI k] (ZS [Zz [nU 32 λ(i:Nat)=>bif ZE i 0 then Zi .u64 k else (0:Int)],Zt (.v ZM)]) []) Zc ?_
 refine⟨Zd,Xn (λh=>absurd (show decide (1<=k/\k<=6)=true from decide_eq_true hp) (by rw[h];decide)) (λ_=>⟨rfl,λρ=>?_⟩)⟩
 have e:∀i,i<32->(λi=>bif ZE i 0 then k else 0) i=fL (Rec.new k).words i:=λi hi=>by
  cases i with
  |zero=>rfl
  |succ j=>rw[show (Rec.new k).words=k::YH 31 0 from rfl,Qam,Qd8];rfl
 simp only[Zby,QdK,Zci,Z4,Zar]
 rw[QaL Za Za,QaE e];rfl
def Qdb:PCon:=⟨λargs=>match args with
 |[.a [.ints (.int .u64) n f]]=>n=32/\0<=f 0/\f 0<=6
 |_=>False,λargs=>match args with
 |[.a [.ints (.int .u64) n f]]=>sv (.int .i64 (f 0))
 |_=>sv undef,λ_=>none⟩
theorem Qik:(YE Qdb).holds Tryz.prog 115:=by
 refine QE (Γ:=[]) Tryz.func115 rfl Zc Qf Qc (λW=>.nil _ _ _) Qdb (λ_=>[]) 400 ?_
 intro W args hp
 unfold Qdb at hp;dsimp only at hp;split at hp
 case h_2=>exact hp.elim
 rename_i n f
 obtain⟨rfl,h0,h6⟩:=hp
 refine⟨rfl,?_⟩
 refine Qk (q:=(iR (0:Int) (32:Int))/\0<32/\endP Qdb [Zz [nU 32 f]] (ZG (aI (Zi .i64 (if (4294967296:Int)<f 0 then (4294967296:Int)else f 0)))) []) Zc ?_
 refine⟨⟨Zb,Zb⟩,Zb,rfl,λρ=>?_⟩
 rw[Ze Za,Qx Za Za];rfl
def Qbd:PCon:=⟨λargs=>match args with
 |[.a [.ints (.int .u64) n f]]=>n=32
 |_=>False,λargs=>match args with
 |[.a [.ints (.int .u64) n f]]=>.o (QcQ (fL (toN 17 (λi=>f (1+i)))))
 |_=>sv undef,λ_=>none⟩
theorem QfM:(YE Qbd).holds Tryz.prog 116:=by
 refine QE (Γ:=[]) Tryz.func116 rfl Zc Qf Qc (λW=>.nil _ _ _) Qbd (λ_=>[]) 400 ?_
 intro W args hp
 unfold Qbd at hp;dsimp only at hp;split at hp
 case h_2=>exact hp.elim
 rename_i n f
 subst hp
 refine⟨rfl,?_⟩
 refine Qk (q:=((0:Int)<=(1:Int)/\(1:Int)<=(18:Int)/\(18:Int)<=(32:Int))/\endP Qbd [Zz [nU 32 f]] (ZG (Zz [nU 17 λ(i:Nat)=>f (1+i)])) []) Zc ?_
 exact⟨⟨Zb,Zb,Zb⟩,rfl,λρ=>QaE λi hi=>(Qe3 (n:=17) (f:=λi=>f (1+i)) hi).symm⟩
def Xl:PCon:=⟨λargs=>match args with
 |[.a [.ints (.int .u64) n f],.c (.v (.int .i64 t))]=>n=32/\0<=t/\t<4/\0<=f 26/\f 26<16
 |_=>False,λargs=>match args with
 |[.a [.ints (.int .u64) n f],.c (.v (.int .i64 t))]=>sv (.int .i64 (Qp (f 26) t.toNat))
 |_=>sv undef,λ_=>none⟩
theorem Qbm:(YE Xl).holds Tryz.prog 97:=by
 refine QE (Γ:=[(104,.pure QkA)]) Tryz.func97 rfl Zc Qf Qc (λW=>.cons (Qsf W _) (.nil _ _ _)) Xl (λ_=>[]) 400 ?_
 intro W args hp
 unfold Xl at hp;dsimp only at hp;split at hp
 case h_2=>exact hp.elim
 rename_i n f t
 obtain⟨rfl,h0,h4,g0,g16⟩:=hp
 refine⟨rfl,?_⟩
 refine Qk (q:=bif decide (t<(0:Int))then endP Xl [Zz [nU 32 f],aI t] (ZG (aI 0)) []else bif decide (t>=(4:Int))then endP Xl [Zz [nU 32 f],aI t] (ZG (aI 0)) []else (iR (26:Int) (32:Int))/\26<32/\U64 (f 26)/\bif bif bitZ (f 26) t then false else true then endP Xl [Zz [nU 32 f],aI t] (ZG (aI 0)) []else endP Xl [Zz [nU 32 f],aI t] (ZG (aI 1)) []) Zc ?_
 obtain⟨T,rfl⟩:=Z6 h0
 refine Qo (λh=>absurd h Za) (λ_=>Qo (λh=>absurd h Za) (λ_=>⟨⟨Zb,Zb⟩,Zb,⟨g0,Za⟩,?_⟩))
 rw[Qqt g0 g16 Za]
 have h01:=Qmi (f 26) T
 refine Xn (λh=>⟨rfl,λρ=>?_⟩) (λh=>⟨rfl,λρ=>?_⟩)
 . show ZA .i64 0=ZA .i64 (Qp (f 26) T)
   have:¬Qp (f 26) T=1:=by simpa using h
   rw[show Qp (f 26) T=0 by omega]
 . show ZA .i64 1=ZA .i64 (Qp (f 26) T)
   rw[show Qp (f 26) T=1 by simpa using h]
def Xu:PCon:=⟨λargs=>match args with
 |[.a [.ints (.int .u64) n f],.c (.v (.int .i64 t))]=>n=32/\0<=t/\t<4/\U64 (f (18+t.toNat))/\0<=f (22+t.toNat)/\f (22+t.toNat)<=9223372036854775807
 |_=>False,λargs=>match args with
 |[.a [.ints (.int .u64) n f],.c (.v (.int .i64 t))]=>.t [ansA (f (18+t.toNat)/4294967296%4294967296) (f (18+t.toNat)%4294967296),.c (.v (.int .i64 (f (22+t.toNat)))),nilE]
 |_=>sv undef,λargs=>match args with
 |[.a [.ints (.int .u64) n f],.c (.v (.int .i64 t))]=>some (Xc (f (18+t.toNat)/4294967296%4294967296) (f (18+t.toNat)%4294967296),.t [ansA 0 0,.c (.v (.int .i64 0)),errA 8])
 |_=>none⟩
theorem QfO:(YE Xu).holds Tryz.prog 106:=by
 refine QE (Γ:=[(102,.pure QbM)]) Tryz.func106 rfl Zc Qf Qc (λW=>.cons (Qb8 W _) (.nil _ _ _)) Xu (λ_=>[]) 400 ?_
 intro W args hp
 unfold Xu at hp;dsimp only at hp;split at hp
 case h_2=>exact hp.elim
 rename_i n f t
 obtain⟨rfl,h0,h4,hu,w0,w1⟩:=hp
 refine⟨rfl,?_⟩
 refine Qk (q:=bif decide (t<(0:Int))then endP Xu [Zz [nU 32 f],aI t] (ZS [Zz [sI 0,sI 0],aI 0,Zt (.v (.iface 50 (ZA .i64 (2:Int))))]) []else bif decide (t>=(4:Int))then endP Xu [Zz [nU 32 f],aI t] (ZS [Zz [sI 0,sI 0],aI 0,Zt (.v (.iface 50 (ZA .i64 (2:Int))))]) []else ((0:Int)<=Zi .i64 ((18:Int)+t)/\Zi .i64 ((18:Int)+t)<(32:Int))/\Zh (Zi .i64 ((18:Int)+t))<32/\U64 (f (Zh (Zi .i64 ((18:Int)+t))))/\bif Xc (f (Zh (Zi .i64 ((18:Int)+t)))/(4294967296:Int)%(4294967296:Int)) (f (Zh (Zi .i64 ((18:Int)+t)))%(4294967296:Int))then ((0:Int)<=Zi .i64 ((22:Int)+t)/\Zi .i64 ((22:Int)+t)<(32:Int))/\Zh (Zi .i64 ((22:Int)+t))<32/\dP Tryz.f106 6 3 [xE 8,xE 7,⟨6,[],[1],[],false⟩,xE 5,xR 4 0,xF 3 0,xE 2,xE 1,xR 0 2]/\endP Xu [Zz [nU 32 f],aI t] (ZS [Zz [sI (f (Zh (Zi .i64 ((18:Int)+t)))/(4294967296:Int)%(4294967296:Int)),sI (f (Zh (Zi .i64 ((18:Int)+t)))%(4294967296:Int))],aI (Zi .i64 (f (Zh (Zi .i64 ((22:Int)+t))))),Zt (.v ZM)]) []else endP Xu [Zz [nU 32 f],aI t] (ZS [Zz [sI 0,sI 0],aI 0,Zt (.v (.iface 50 (ZA .i64 (8:Int))))]) []) Zc ?_
 obtain⟨T,rfl⟩:=Z6 h0
 rw[Zv]at hu w0 w1
 have e1:Zi .i64 ((18:Int)+(T:Int))=((18+T:Nat):Int):=by rw[Qx Za Za];omega
 have e2:Zi .i64 ((22:Int)+(T:Int))=((22+T:Nat):Int):=by rw[Qx Za Za];omega
 rw[e1,e2,Zv,Zv,Qx (x:=f (22+T)) Za Za]
 refine Qo (λh=>absurd h Za) (λ_=>Qo (λh=>absurd h Za) (λ_=>⟨⟨Za,Za⟩,Za,hu,QL (λh=>⟨⟨Za,Za⟩,Za,Qd Zc,rfl,λρ=>?_⟩) (λh=>⟨rfl,λρ=>?_⟩)⟩))
 . simp only[Zby,Xu,Zv,h,cond_true];rfl
 . simp only[Zby,Xu,Zv,h,cond_false]
def QT:PCon:=⟨λargs=>match args with
 |[.a [.ints (.int .u64) n f]]=>n=32/\RecW f
 |_=>False,λ_=>sv (.bool true),λ_=>none⟩
structure RoG where
 t:Nat
 ht:t<=4
structure RiG where
 t:Nat
 u:Nat
 ht:t<4
 hu:u<=t
def annO (f:Nat->Int):Ann where
 σ:=RoG
 I g:=([(1,.o (.c (.p 0 0))),(3,sv (.int .u64 (f 28))),(35,sv (.int .i64 g.t))],[recB f])
 dec g:=4-g.t
 pi _ _:=[0]
 nz:=[]
def annI (f:Nat->Int):Ann where
 rel:=some λa b=>b.t=a.t
 σ:=RiG
 I g:=([(1,.o (.c (.p 0 0))),(3,sv (.int .u64 (f 28))),(6,sv (.int .u64 (f (22+g.t)))),(35,sv (.int .i64 g.t)),(69,sv (.int .i64 g.t)),(70,sv (.int .i64 g.u))],[recB f])
 dec g:=g.t-g.u
 pi _ _:=[0]
 nz:=[]
def agRR:List SA->List (Nat × Anns)
 |[.a [.ints (.int .u64) n f]]=>[(110,[(0,annO f),(2,annI f)])]
 |_=>[]
theorem QgE:(YE QT).holds Tryz.prog 110:=by
 refine QE (Γ:=[(115,.pure Qdb),(116,.pure Qbd),(52,.pure Qee),(102,.pure QbM)]) Tryz.func110 rfl Zc Qf Qc
  (λW=>.cons (Qik W _) (.cons (QfM W _) (.cons (Qil W _) (.cons (Qb8 W _) (.nil _ _ _))))) QT agRR 600 ?_
 intro W args hp
 unfold QT at hp;dsimp only at hp;split at hp
 case h_2=>exact hp.elim
 rename_i n f
 obtain⟨rfl,h⟩:=hp
 refine⟨rfl,?_⟩
 refine Qk (q:=(iR (28:Int) (32:Int))/\28<32/\(32=32/\(0:Int)<=f 0/\f 0<=(6:Int))/\32=32/\(17=17/\ObjForm (f 0) (toN 17 (fL (toN 17 λ(i:Nat)=>f (1+i)))))/\bif bif Qax (f 0) (toN 17 (fL (toN 17 λ(i:Nat)=>f (1+i))))then false else true then dP Tryz.f110 2 1 [xE 20,xE 19,xE 18,xE 17,xE 16,xE 15,xE 14,xE 13,xE 12,xE 11,xE 10,xE 9,xE 8,xE 7,xE 6,xE 5,xE 4,xE 3,xR 2 0,xE 1,xR 0 0]/\endP QT [Zz [nU 32 f]] (ZG (aB false)) []else (iR (26:Int) (32:Int))/\26<32/\(0:Int)<=(4:Int)/\bif ZbO (f 26) (16:Int) != (0:Int)then dP Tryz.f110 2 1 [xE 20,xE 19,xE 18,xE 17,xE 16,xE 15,xE 14,xE 13,xE 12,xE 11,xE 10,xE 9,xR 8 0,xF 7 0,xE 6,xE 5,xE 4,xE 3,xR 2 0,xE 1,xR 0 0]/\endP QT [Zz [nU 32 f]] (ZG (aB false)) []else bif decide (f 28>(1099511627776:Int))then dP Tryz.f110 2 1 [xE 20,xE 19,xE 18,xE 17,xE 16,xE 15,xE 14,xE 13,xE 12,xE 11,xE 10,xE 9,xR 8 0,xF 7 0,xE 6,xE 5,xE 4,xE 3,xR 2 0,xE 1,xR 0 0]/\endP QT [Zz [nU 32 f]] (ZG (aB false)) []else (iR (27:Int) (32:Int))/\27<32/\dP Tryz.f110 2 1 [xE 20,xE 19,xR 18 0,xF 17 0,xE 16,xE 15,xE 14,xE 13,xE 12,xE 11,xE 10,xE 9,xR 8 0,xF 7 0,xE 6,xE 5,xE 4,xE 3,xR 2 0,xE 1,xR 0 0]/\bif decide (f 27>(1099511627776:Int))then endP QT [Zz [nU 32 f]] (ZG (aB false)) []else (∃(s0:Ann.σ (annO f)),(eS (aP 0 0) (aP 0 0)/\eS (aU (f 28)) (aU (f 28))/\eS (aI 0) (aI ↑s0.1)/\True)/\[Zj [nU 32 f] 96]=[Zj [nU 32 f] 96])/\∀(s:RoG),bif decide ((↑s.1:Int)<(4:Int))then ((0:Int)<=Zi .i64 ((18:Int)+(↑s.1:Int))/\Zi .i64 ((18:Int)+(↑s.1:Int))<(32:Int))/\Zh (Zi .i64 ((18:Int)+(↑s.1:Int)))<32/\((0:Int)<=Zi .i64 ((22:Int)+(↑s.1:Int))/\Zi .i64 ((22:Int)+(↑s.1:Int))<(32:Int))/\Zh (Zi .i64 ((22:Int)+(↑s.1:Int)))<32/\dP Tryz.f110 7 1 [xE 9,xE 8,xR 7 0,xF 6 0,xE 5,xE 4,xR 3 0,xF 2 0,xE 1,xE 0]/\U64 (f (Zh (Zi .i64 ((18:Int)+(↑s.1:Int)))))/\bif Xc (f (Zh (Zi .i64 ((18:Int)+(↑s.1:Int))))/(4294967296:Int)%(4294967296:Int)) (f (Zh (Zi .i64 ((18:Int)+(↑s.1:Int))))%(4294967296:Int))then bif decide (f (Zh (Zi .i64 ((22:Int)+(↑s.1:Int))))>f 28)then endP QT [Zz [nU 32 f]] (ZG (aB false)) []else bif bif (f (Zh (Zi .i64 ((18:Int)+(↑s.1:Int))))==(0:Int))==(f (Zh (Zi .i64 ((22:Int)+(↑s.1:Int))))==(0:Int))then false else true then endP QT [Zz [nU 32 f]] (ZG (aB false)) []else ∃(s0:RiG),((eS (aP 0 0) (aP 0 0)/\eS (aU (f 28)) (aU (f 28))/\eS (aU (f (Zh (Zi .i64 ((22:Int)+(↑s.1:Int)))))) (aU (f (22+s0.1)))/\eS (aI ↑s.1) (aI ↑s0.1)/\eS (aI ↑s.1) (aI ↑s0.1)/\eS (aI 0) (aI ↑s0.2)/\True)/\[Zj [nU 32 f] 96]=[Zj [nU 32 f] 96])/\s0.1=s0.1/\∀(s_1:RiG),s_1.1=s0.1->bif decide ((↑s_1.2:Int)<(↑s_1.1:Int))then bif f (22+s_1.1) != (0:Int)then ((0:Int)<=Zi .i64 ((22:Int)+(↑s_1.2:Int))/\Zi .i64 ((22:Int)+(↑s_1.2:Int))<(32:Int))/\Zh (Zi .i64 ((22:Int)+(↑s_1.2:Int)))<32/\bif f (Zh (Zi .i64 ((22:Int)+(↑s_1.2:Int))))==f (22+s_1.1)then endP QT [Zz [nU 32 f]] (ZG (aB false)) []else ∃(s':RiG),((eS (aP 0 0) (aP 0 0)/\eS (aU (f 28)) (aU (f 28))/\eS (aU (f (22+s_1.1))) (aU (f (22+s'.1)))/\eS (aI ↑s_1.1) (aI ↑s'.1)/\eS (aI ↑s_1.1) (aI ↑s'.1)/\eS (aI (Zi .i64 ((↑s_1.2:Int)+(1:Int)))) (aI ↑s'.2)/\True)/\[Zj [nU 32 f] 96]=[Zj [nU 32 f] 96])/\s'.1=s0.1/\s'.1-s'.2<s_1.1-s_1.2 else ∃(s':RiG),((eS (aP 0 0) (aP 0 0)/\eS (aU (f 28)) (aU (f 28))/\eS (aU (f (22+s_1.1))) (aU (f (22+s'.1)))/\eS (aI ↑s_1.1) (aI ↑s'.1)/\eS (aI ↑s_1.1) (aI ↑s'.1)/\eS (aI (Zi .i64 ((↑s_1.2:Int)+(1:Int)))) (aI ↑s'.2)/\True)/\[Zj [nU 32 f] 96]=[Zj [nU 32 f] 96])/\s'.1=s0.1/\s'.1-s'.2<s_1.1-s_1.2 else ∃(s':RoG),((eS (aP 0 0) (aP 0 0)/\eS (aU (f 28)) (aU (f 28))/\eS (aI (Zi .i64 ((↑s_1.1:Int)+(1:Int)))) (aI ↑s'.1)/\True)/\[Zj [nU 32 f] 96]=[Zj [nU 32 f] 96])/\4-s'.1<4-s.1 else bif f (Zh (Zi .i64 ((18:Int)+(↑s.1:Int)))) != (0:Int)then endP QT [Zz [nU 32 f]] (ZG (aB false)) []else bif decide (f (Zh (Zi .i64 ((22:Int)+(↑s.1:Int))))>f 28)then endP QT [Zz [nU 32 f]] (ZG (aB false)) []else bif bif (f (Zh (Zi .i64 ((18:Int)+(↑s.1:Int))))==(0:Int))==(f (Zh (Zi .i64 ((22:Int)+(↑s.1:Int))))==(0:Int))then false else true then endP QT [Zz [nU 32 f]] (ZG (aB false)) []else ∃(s0:RiG),((eS (aP 0 0) (aP 0 0)/\eS (aU (f 28)) (aU (f 28))/\eS (aU (f (Zh (Zi .i64 ((22:Int)+(↑s.1:Int)))))) (aU (f (22+s0.1)))/\eS (aI ↑s.1) (aI ↑s0.1)/\eS (aI ↑s.1) (aI ↑s0.1)/\eS (aI 0) (aI ↑s0.2)/\True)/\[Zj [nU 32 f] 96]=[Zj [nU 32 f] 96])/\s0.1=s0.1/\∀(s_1:RiG),s_1.1=s0.1->bif decide ((↑s_1.2:Int)<(↑s_1.1:Int))then bif f (22+s_1.1) != (0:Int)then ((0:Int)<=Zi .i64 ((22:Int)+(↑s_1.2:Int))/\Zi .i64 ((22:Int)+(↑s_1.2:Int))<(32:Int))/\Zh (Zi .i64 ((22:Int)+(↑s_1.2:Int)))<32/\bif f (Zh (Zi .i64 ((22:Int)+(↑s_1.2:Int))))==f (22+s_1.1)then endP QT [Zz [nU 32 f]] (ZG (aB false)) []else ∃(s':RiG),((eS (aP 0 0) (aP 0 0)/\eS (aU (f 28)) (aU (f 28))/\eS (aU (f (22+s_1.1))) (aU (f (22+s'.1)))/\eS (aI ↑s_1.1) (aI ↑s'.1)/\eS (aI ↑s_1.1) (aI ↑s'.1)/\eS (aI (Zi .i64 ((↑s_1.2:Int)+(1:Int)))) (aI ↑s'.2)/\True)/\[Zj [nU 32 f] 96]=[Zj [nU 32 f] 96])/\s'.1=s0.1/\s'.1-s'.2<s_1.1-s_1.2 else ∃(s':RiG),((eS (aP 0 0) (aP 0 0)/\eS (aU (f 28)) (aU (f 28))/\eS (aU (f (22+s_1.1))) (aU (f (22+s'.1)))/\eS (aI ↑s_1.1) (aI ↑s'.1)/\eS (aI ↑s_1.1) (aI ↑s'.1)/\eS (aI (Zi .i64 ((↑s_1.2:Int)+(1:Int)))) (aI ↑s'.2)/\True)/\[Zj [nU 32 f] 96]=[Zj [nU 32 f] 96])/\s'.1=s0.1/\s'.1-s'.2<s_1.1-s_1.2 else ∃(s':RoG),((eS (aP 0 0) (aP 0 0)/\eS (aU (f 28)) (aU (f 28))/\eS (aI (Zi .i64 ((↑s_1.1:Int)+(1:Int)))) (aI ↑s'.1)/\True)/\[Zj [nU 32 f] 96]=[Zj [nU 32 f] 96])/\4-s'.1<4-s.1 else ((0:Int)<=(29:Int)/\(29:Int)<=(32:Int)/\(32:Int)<=(32:Int))/\(iR (0:Int) (3:Int))/\29<32/\bif f 29 != (0:Int)then endP QT [Zz [nU 32 f]] (ZG (aB false)) []else (iR (1:Int) (3:Int))/\30<32/\bif f 30 != (0:Int)then endP QT [Zz [nU 32 f]] (ZG (aB false)) []else (iR (2:Int) (3:Int))/\31<32/\bif f 31 != (0:Int)then endP QT [Zz [nU 32 f]] (ZG (aB false)) []else endP QT [Zz [nU 32 f]] (ZG (aB true)) []) Zc ?_
 obtain⟨t29,t30,t31⟩:=h.tail
 have hR:=h.1
 have k1:=hR.k1
 have k6:=hR.k6
 have c1:=hR.c1
 have v1:=hR.v1
 have g0:=hR.g0
 have g1:=hR.g1
 rw[Qhi]at k1 k6
 rw[QfV]at c1
 rw[Qm1]at v1
 rw[Qjr]at g0 g1
 have hok:Qbx (f 0) (toN 17 λi=>f (1+i)):=hR.ok
 have hrv:Qax (f 0) (toN 17 λi=>f (1+i))=true:=by
  unfold Qax
  cases h4:(f 0==4)
  . rfl
  . have h4:=eq_of_beq h4
    obtain⟨l,e,l6,-,hh⟩:=Zco (.inl hok) Za Za
    simp only[cond_true]
    rw[e,Qf0];exact (Qiy l).2 ⟨hh h4 hok,l6⟩
 have each (t:Nat) (ht:t<4):U64 (f (18+t))/\((f (18+t)=0/\f (22+t)=0)\/(Xc (f (18+t)/4294967296%4294967296) (f (18+t)%4294967296)=true/\f (18+t)≠0/\1<=f (22+t)/\f (22+t)<=f 28)):=by
  have:=hR.each t ht
  rw[QrC f t ht,Qjq f t ht,QfV]at this
  rcases this with⟨a,b⟩|⟨⟨c,v,hA,e⟩,b,d⟩
  . exact⟨⟨Za,Za⟩,.inl ⟨a,b⟩⟩
  . have hw:=Qeq hA
    rw[<- e]at hw
    exact⟨⟨Za,Za⟩,.inr ⟨by rw[hw.1,hw.2.1];exact (Qb6 c v).2 hA,Za,b,d⟩⟩
 have once (t u:Nat) (ht:t<4) (hu:u<t) (hn:f (22+t)≠0):f (22+u)≠f (22+t):=by
  have:=hR.once t u ht hu
  rw[Qjq f t ht,Qjq f u Za]at this
  exact this hn
 have wa (t:Nat) (ht:t<4):Zi .i64 ((18:Int)+(t:Int))=((18+t:Nat):Int):=by rw[Qx Za Za];omega
 have ww (t:Nat) (ht:t<4):Zi .i64 ((22:Int)+(t:Int))=((22+t:Nat):Int):=by rw[Qx Za Za];omega
 rw[Qa1 (Qbf 17 _),hrv,t29,t30,t31,show ZbO (f 26) 16=0 by rw[Int.fdiv_eq_ediv_of_nonneg _ Zb];omega]
 have hlast:∀(t:Nat),t<4->∀M,M=[recB f]->∃s':RoG,((some (ZG (Zt (.p 0 0)))=some (ZG (Zt (.p 0 0)))/\some (sv (.int .u64 (f 28)))=some (sv (.int .u64 (f 28)))/\some (sv (.int .i64 (Zi .i64 ((t:Int)+1))))=some (sv (.int .i64 s'.t))/\True)/\M=[recB f])/\4-s'.t<4-t:=
  λt ht M hM=>⟨⟨t+1,Za⟩,⟨⟨rfl,rfl,svI (sucI Za),Zd⟩,hM⟩,by dsimp only;omega⟩
 refine⟨⟨Zb,Zb⟩,Zb,⟨rfl,Za,Za⟩,rfl,⟨rfl,.inl hok⟩,Xn (λh=>by cases h) (λ_=>⟨⟨Zb,Zb⟩,Zb,Zb,QB (λh=>absurd rfl h) (λ_=>Qo (λh=>absurd h Za) (λ_=>⟨⟨Zb,Zb⟩,Zb,Qd Zc,Qo (λh=>absurd h Za) (λ_=>⟨⟨⟨0,Za⟩,⟨rfl,rfl,rfl,Zd⟩,rfl⟩,?_⟩)⟩))⟩)⟩
 rintro⟨t,ht⟩
 dsimp only
 refine Qo (λhlt=>?_) (λ_=>⟨⟨Zb,Zb,Zb⟩,⟨Zb,Zb⟩,Zb,QB (λh=>absurd rfl h) (λ_=>⟨⟨Zb,Zb⟩,Zb,QB (λh=>absurd rfl h) (λ_=>⟨⟨Zb,Zb⟩,Zb,QB (λh=>absurd rfl h) (λ_=>⟨rfl,λρ=>rfl⟩)⟩)⟩)⟩)
 have ht4:t<4:=Za
 obtain⟨hu,he⟩:=each t ht4
 rw[wa t ht4,ww t ht4,Zv,Zv]
 refine⟨⟨Za,Za⟩,Za,⟨Za,Za⟩,Za,Qd Zc,hu,?_⟩
 rcases he with⟨a0,b0⟩|⟨ha,a0,b0,b1⟩
 . rw[a0,b0]
   refine QL (λh=>absurd h Zb) (λ_=>QB (λh=>absurd rfl h) (λ_=>Qo (λh=>absurd h (by have:=hR.c0;rw[QfV]at this;omega)) (λ_=>Xn (λh=>by cases h) (λ_=>?_))))
   refine⟨⟨t,0,ht4,Za⟩,⟨⟨rfl,rfl,by rw[b0],rfl,rfl,rfl,Zd⟩,rfl⟩,rfl,?_⟩
   rintro⟨t',u,ht',hu'⟩ (rfl:t'=t)
   dsimp only
   rw[b0]
   refine Qo (λhlt2=>QB (λh=>absurd rfl h) (λ_=>?_)) (λ_=>hlast _ ht4 _ rfl)
   exact⟨⟨t',u+1,ht',Za⟩,⟨⟨rfl,rfl,by rw[b0],rfl,rfl,svI (sucI Za),Zd⟩,rfl⟩,rfl,by dsimp only;omega⟩
 . refine QL (λ_=>?_) (λh=>absurd (ha.symm.trans h) Zb)
   refine Qo (λh=>absurd h Za) (λ_=>Xn (λh=>?_) (λ_=>?_))
   . rw[show (f (18+t)==0)=false from beq_eq_false_iff_ne.2 a0,show (f (22+t)==0)=false from beq_eq_false_iff_ne.2 Za]at h
     cases h
   refine⟨⟨t,0,ht4,Za⟩,⟨⟨rfl,rfl,rfl,rfl,rfl,rfl,Zd⟩,rfl⟩,rfl,?_⟩
   rintro⟨t',u,ht',hu'⟩ (rfl:t'=t)
   dsimp only
   refine Qo (λhlt2=>QB (λ_=>?_) (λh=>absurd h Za)) (λ_=>hlast _ ht4 _ rfl)
   rw[ww u Za,Zv]
   refine⟨⟨Za,Za⟩,Za,QP (λh=>absurd h (once t' u ht' Za Za)) (λ_=>?_)⟩
   exact⟨⟨t',u+1,ht',Za⟩,⟨⟨rfl,rfl,rfl,rfl,rfl,svI (sucI Za),Zd⟩,rfl⟩,rfl,by dsimp only;omega⟩
def Xg:PCon:=⟨λargs=>match args with
 |[.a [.ints (.int .u64) n f],.c (.v (.int .i64 t)),.a [.one (.v (.int .i64 k)),.one (.v (.int .i64 key)),.one (.v (.int .i64 x))]]=>n=32/\RecW f/\0<=t/\t<4
 |_=>False,λargs=>match args with
 |[.a [.ints (.int .u64) n f],.c (.v (.int .i64 t)),.a [.one (.v (.int .i64 k)),.one (.v (.int .i64 key)),.one (.v (.int .i64 x))]]=>.t [recA (fL ((Zb3 (toN 32 f)).done t.toNat k key x).words),nilE]
 |_=>sv undef,λargs=>match args with
 |[.a [.ints (.int .u64) n f],.c (.v (.int .i64 t)),.a [.one (.v (.int .i64 k)),.one (.v (.int .i64 key)),.one (.v (.int .i64 x))]]=>some (opOk k key x,.t [recA (λ_=>0),errA 1])
 |_=>none⟩
theorem QdU (f g:Nat->Int) (T:Nat) (t k key x:Int) (ht:t.toNat=T) (ho:opOk k key x=true) (M:List SB) (hg:∀i,i<32->g i=fL ((Zb3 (toN 32 f)).done T k key x).words i):
 endP Xg [recA f,.c (.v (.int .i64 t)),opA k key x] (.t [recA g,.c (.v .nilIface)]) M:=by
 refine⟨rfl,λρ=>?_⟩
 subst ht
 simp only[Zby,Xg,ho,cond_true,Zci,Z4,Zar]
 rw[QaE hg];rfl
theorem QmS:(YE Xg).holds Tryz.prog 112:=by
 refine QE (Γ:=[(110,.pure QT),(115,.pure Qdb),(116,.pure Qbd),(31,.pure Qaw),(117,.pure Qei),(118,.pure QhR)]) Tryz.func112 rfl Zc Qf Qc
  (λW=>.cons (QgE W _) (.cons (Qik W _) (.cons (QfM W _) (.cons (Qn9 W _) (.cons (Qmb W _) (.cons (QpY W _) (.nil _ _ _))))))) Xg (λ_=>[]) 600 ?_
 intro W args hp
 unfold Xg at hp;dsimp only at hp;split at hp
 case h_2=>exact hp.elim
 rename_i n f t k key x
 obtain⟨rfl,h,h0,h4⟩:=hp
 refine⟨rfl,?_⟩
 have hR:=h.1
 have k1:=hR.k1
 have k6:=hR.k6
 have c0:=hR.c0
 have c1:=hR.c1
 have g0:=hR.g0
 have g1:=hR.g1
 rw[Qhi]at k1 k6
 rw[QfV]at c0 c1
 rw[Qjr]at g0 g1
 have hok:Qbx (f 0) (toN 17 λi=>f (1+i)):=hR.ok
 have ht:t=0\/t=1\/t=2\/t=3:=Za
 rcases ht with rfl|rfl|rfl|rfl
 ·
  refine Qk (q:=(32=32/\RecW f)/\(32=32/\(0:Int)<=f 0/\f 0<=(6:Int))/\32=32/\(17=17/\Qbx (f 0) (toN 17 (fL (toN 17 λ(i:Nat)=>f (1+i)))))/\bif opOk k key x then dP Tryz.f112 5 3 [xE 14,⟨13,[],[4],[],false⟩,⟨12,[],[3],[],false⟩,⟨11,[],[4],[4],false⟩,⟨10,[],[3],[3],false⟩,xE 9,xE 8,xE 7,xE 6,xE 5,xR 4 1,xE 3,xR 2 0,xE 1,xR 0 0]/\((0:Int)<=(1:Int)/\(1:Int)<=(32:Int)/\(32:Int)<=(32:Int))/\((0:Int)<=(0:Int)/\(0:Int)<=(17:Int)/\(17:Int)<=(17:Int))/\dP Tryz.f112 8 5 [⟨2,[3],[0],[],false⟩,xF 1 3,xF 0 0]/\QX (Yx (objR (f 0) (toN 17 (fL (toN 17 λ(i:Nat)=>f (1+i)))) k key x)).1 (Yx (objR (f 0) (toN 17 (fL (toN 17 λ(i:Nat)=>f (1+i)))) k key x)).2/\(iR (18:Int) (32:Int))/\18<32/\(iR (28:Int) (32:Int))/\28<32/\(iR (28:Int) (32:Int))/\28<32/\(iR (28:Int) (32:Int))/\28<32/\(iR (22:Int) (32:Int))/\22<32/\(iR (26:Int) (32:Int))/\26<32/\U64 (f 26)/\(iR (26:Int) (32:Int))/\26<32/\endP Xg [Zz [nU 32 f],aI 0,Zz [sI k,sI key,sI x]] (ZS [Zz [nU 32 λ(i:Nat)=>bif ZE i 26 then Qdm (f 26) (0:Int)else bif ZE i 22 then Zi .u64 (f 28+(1:Int))else bif ZE i 28 then Zi .u64 (f 28+(1:Int))else bif ZE i 18 then ansW (Yx (objR (f 0) (toN 17 (fL (toN 17 λ(i:Nat)=>f (1+i)))) k key x)).1 (Yx (objR (f 0) (toN 17 (fL (toN 17 λ(i:Nat)=>f (1+i)))) k key x)).2 else bif match ZL 1 i with|false=>false|true=>ZL i 17 then fL (objR (f 0) (toN 17 (fL (toN 17 λ(i:Nat)=>f (1+i)))) k key x).1 (match i with|0=>0|Yg a=>a)else f i],Zt (.v ZM)]) []else dP Tryz.f112 5 3 [xE 14,⟨13,[],[4],[],false⟩,⟨12,[],[3],[],false⟩,⟨11,[],[4],[4],false⟩,⟨10,[],[3],[3],false⟩,xE 9,xE 8,xE 7,xE 6,xE 5,xR 4 1,xE 3,xR 2 0,xE 1,xR 0 0]/\endP Xg [Zz [nU 32 f],aI 0,Zz [sI k,sI key,sI x]] (ZS [Zz [nU 32 zF],Zt (.v (.iface 50 (ZA .i64 (1:Int))))]) []) Zc ?_
  refine⟨⟨rfl,h⟩,⟨rfl,Za,Za⟩,rfl,⟨rfl,by rw[Qa1 (Qbf 17 _)];exact hok⟩,?_⟩
  rw[Qa1 (Qbf 17 _)]
  refine QL (λho=>?_) (λho=>⟨Qd Zc,rfl,λρ=>?_⟩)
  . have hA:=(QdC hok k key x ho).1
    rw[QaL (x:=f 28+1) Za Za]
    refine⟨Qd Zc,⟨Zb,Zb,Zb⟩,⟨Zb,Zb,Zb⟩,Qd Zc,hA,?_⟩
    repeat (first|refine⟨Zb,?_⟩|refine⟨⟨g0,Za⟩,?_⟩)
    exact QdU f _ 0 0 k key x rfl ho _ (λi hi=>Qfr h 0 Zb k key x ho i hi)
  . simp only[Zby,Xg,ho,cond_false]
 ·
  refine Qk (q:=(32=32/\RecW f)/\(32=32/\(0:Int)<=f 0/\f 0<=(6:Int))/\32=32/\(17=17/\Qbx (f 0) (toN 17 (fL (toN 17 λ(i:Nat)=>f (1+i)))))/\bif opOk k key x then dP Tryz.f112 5 3 [xE 14,⟨13,[],[4],[],false⟩,⟨12,[],[3],[],false⟩,⟨11,[],[4],[4],false⟩,⟨10,[],[3],[3],false⟩,xE 9,xE 8,xE 7,xE 6,xE 5,xR 4 1,xE 3,xR 2 0,xE 1,xR 0 0]/\((0:Int)<=(1:Int)/\(1:Int)<=(32:Int)/\(32:Int)<=(32:Int))/\((0:Int)<=(0:Int)/\(0:Int)<=(17:Int)/\(17:Int)<=(17:Int))/\dP Tryz.f112 8 5 [⟨2,[3],[0],[],false⟩,xF 1 3,xF 0 0]/\QX (Yx (objR (f 0) (toN 17 (fL (toN 17 λ(i:Nat)=>f (1+i)))) k key x)).1 (Yx (objR (f 0) (toN 17 (fL (toN 17 λ(i:Nat)=>f (1+i)))) k key x)).2/\(iR (19:Int) (32:Int))/\19<32/\(iR (28:Int) (32:Int))/\28<32/\(iR (28:Int) (32:Int))/\28<32/\(iR (28:Int) (32:Int))/\28<32/\(iR (23:Int) (32:Int))/\23<32/\(iR (26:Int) (32:Int))/\26<32/\U64 (f 26)/\(iR (26:Int) (32:Int))/\26<32/\endP Xg [Zz [nU 32 f],aI 1,Zz [sI k,sI key,sI x]] (ZS [Zz [nU 32 λ(i:Nat)=>bif ZE i 26 then Qdm (f 26) (1:Int)else bif ZE i 23 then Zi .u64 (f 28+(1:Int))else bif ZE i 28 then Zi .u64 (f 28+(1:Int))else bif ZE i 19 then ansW (Yx (objR (f 0) (toN 17 (fL (toN 17 λ(i:Nat)=>f (1+i)))) k key x)).1 (Yx (objR (f 0) (toN 17 (fL (toN 17 λ(i:Nat)=>f (1+i)))) k key x)).2 else bif match ZL 1 i with|false=>false|true=>ZL i 17 then fL (objR (f 0) (toN 17 (fL (toN 17 λ(i:Nat)=>f (1+i)))) k key x).1 (match i with|0=>0|Yg a=>a)else f i],Zt (.v ZM)]) []else dP Tryz.f112 5 3 [xE 14,⟨13,[],[4],[],false⟩,⟨12,[],[3],[],false⟩,⟨11,[],[4],[4],false⟩,⟨10,[],[3],[3],false⟩,xE 9,xE 8,xE 7,xE 6,xE 5,xR 4 1,xE 3,xR 2 0,xE 1,xR 0 0]/\endP Xg [Zz [nU 32 f],aI 1,Zz [sI k,sI key,sI x]] (ZS [Zz [nU 32 zF],Zt (.v (.iface 50 (ZA .i64 (1:Int))))]) []) Zc ?_
  refine⟨⟨rfl,h⟩,⟨rfl,Za,Za⟩,rfl,⟨rfl,by rw[Qa1 (Qbf 17 _)];exact hok⟩,?_⟩
  rw[Qa1 (Qbf 17 _)]
  refine QL (λho=>?_) (λho=>⟨Qd Zc,rfl,λρ=>?_⟩)
  . have hA:=(QdC hok k key x ho).1
    rw[QaL (x:=f 28+1) Za Za]
    refine⟨Qd Zc,⟨Zb,Zb,Zb⟩,⟨Zb,Zb,Zb⟩,Qd Zc,hA,?_⟩
    repeat (first|refine⟨Zb,?_⟩|refine⟨⟨g0,Za⟩,?_⟩)
    exact QdU f _ 1 1 k key x rfl ho _ (λi hi=>Qfr h 1 Zb k key x ho i hi)
  . simp only[Zby,Xg,ho,cond_false]
 ·
  refine Qk (q:=(32=32/\RecW f)/\(32=32/\(0:Int)<=f 0/\f 0<=(6:Int))/\32=32/\(17=17/\Qbx (f 0) (toN 17 (fL (toN 17 λ(i:Nat)=>f (1+i)))))/\bif opOk k key x then dP Tryz.f112 5 3 [xE 14,⟨13,[],[4],[],false⟩,⟨12,[],[3],[],false⟩,⟨11,[],[4],[4],false⟩,⟨10,[],[3],[3],false⟩,xE 9,xE 8,xE 7,xE 6,xE 5,xR 4 1,xE 3,xR 2 0,xE 1,xR 0 0]/\((0:Int)<=(1:Int)/\(1:Int)<=(32:Int)/\(32:Int)<=(32:Int))/\((0:Int)<=(0:Int)/\(0:Int)<=(17:Int)/\(17:Int)<=(17:Int))/\dP Tryz.f112 8 5 [⟨2,[3],[0],[],false⟩,xF 1 3,xF 0 0]/\QX (Yx (objR (f 0) (toN 17 (fL (toN 17 λ(i:Nat)=>f (1+i)))) k key x)).1 (Yx (objR (f 0) (toN 17 (fL (toN 17 λ(i:Nat)=>f (1+i)))) k key x)).2/\(iR (20:Int) (32:Int))/\20<32/\(iR (28:Int) (32:Int))/\28<32/\(iR (28:Int) (32:Int))/\28<32/\(iR (28:Int) (32:Int))/\28<32/\(iR (24:Int) (32:Int))/\24<32/\(iR (26:Int) (32:Int))/\26<32/\U64 (f 26)/\(iR (26:Int) (32:Int))/\26<32/\endP Xg [Zz [nU 32 f],aI 2,Zz [sI k,sI key,sI x]] (ZS [Zz [nU 32 λ(i:Nat)=>bif ZE i 26 then Qdm (f 26) (2:Int)else bif ZE i 24 then Zi .u64 (f 28+(1:Int))else bif ZE i 28 then Zi .u64 (f 28+(1:Int))else bif ZE i 20 then ansW (Yx (objR (f 0) (toN 17 (fL (toN 17 λ(i:Nat)=>f (1+i)))) k key x)).1 (Yx (objR (f 0) (toN 17 (fL (toN 17 λ(i:Nat)=>f (1+i)))) k key x)).2 else bif match ZL 1 i with|false=>false|true=>ZL i 17 then fL (objR (f 0) (toN 17 (fL (toN 17 λ(i:Nat)=>f (1+i)))) k key x).1 (match i with|0=>0|Yg a=>a)else f i],Zt (.v ZM)]) []else dP Tryz.f112 5 3 [xE 14,⟨13,[],[4],[],false⟩,⟨12,[],[3],[],false⟩,⟨11,[],[4],[4],false⟩,⟨10,[],[3],[3],false⟩,xE 9,xE 8,xE 7,xE 6,xE 5,xR 4 1,xE 3,xR 2 0,xE 1,xR 0 0]/\endP Xg [Zz [nU 32 f],aI 2,Zz [sI k,sI key,sI x]] (ZS [Zz [nU 32 zF],Zt (.v (.iface 50 (ZA .i64 (1:Int))))]) []) Zc ?_
  refine⟨⟨rfl,h⟩,⟨rfl,Za,Za⟩,rfl,⟨rfl,by rw[Qa1 (Qbf 17 _)];exact hok⟩,?_⟩
  rw[Qa1 (Qbf 17 _)]
  refine QL (λho=>?_) (λho=>⟨Qd Zc,rfl,λρ=>?_⟩)
  . have hA:=(QdC hok k key x ho).1
    rw[QaL (x:=f 28+1) Za Za]
    refine⟨Qd Zc,⟨Zb,Zb,Zb⟩,⟨Zb,Zb,Zb⟩,Qd Zc,hA,?_⟩
    repeat (first|refine⟨Zb,?_⟩|refine⟨⟨g0,Za⟩,?_⟩)
    exact QdU f _ 2 2 k key x rfl ho _ (λi hi=>Qfr h 2 Zb k key x ho i hi)
  . simp only[Zby,Xg,ho,cond_false]
 ·
  refine Qk (q:=(32=32/\RecW f)/\(32=32/\(0:Int)<=f 0/\f 0<=(6:Int))/\32=32/\(17=17/\Qbx (f 0) (toN 17 (fL (toN 17 λ(i:Nat)=>f (1+i)))))/\bif opOk k key x then dP Tryz.f112 5 3 [xE 14,⟨13,[],[4],[],false⟩,⟨12,[],[3],[],false⟩,⟨11,[],[4],[4],false⟩,⟨10,[],[3],[3],false⟩,xE 9,xE 8,xE 7,xE 6,xE 5,xR 4 1,xE 3,xR 2 0,xE 1,xR 0 0]/\((0:Int)<=(1:Int)/\(1:Int)<=(32:Int)/\(32:Int)<=(32:Int))/\((0:Int)<=(0:Int)/\(0:Int)<=(17:Int)/\(17:Int)<=(17:Int))/\dP Tryz.f112 8 5 [⟨2,[3],[0],[],false⟩,xF 1 3,xF 0 0]/\QX (Yx (objR (f 0) (toN 17 (fL (toN 17 λ(i:Nat)=>f (1+i)))) k key x)).1 (Yx (objR (f 0) (toN 17 (fL (toN 17 λ(i:Nat)=>f (1+i)))) k key x)).2/\(iR (21:Int) (32:Int))/\21<32/\(iR (28:Int) (32:Int))/\28<32/\(iR (28:Int) (32:Int))/\28<32/\(iR (28:Int) (32:Int))/\28<32/\(iR (25:Int) (32:Int))/\25<32/\(iR (26:Int) (32:Int))/\26<32/\U64 (f 26)/\(iR (26:Int) (32:Int))/\26<32/\endP Xg [Zz [nU 32 f],aI 3,Zz [sI k,sI key,sI x]] (ZS [Zz [nU 32 λ(i:Nat)=>bif ZE i 26 then Qdm (f 26) (3:Int)else bif ZE i 25 then Zi .u64 (f 28+(1:Int))else bif ZE i 28 then Zi .u64 (f 28+(1:Int))else bif ZE i 21 then ansW (Yx (objR (f 0) (toN 17 (fL (toN 17 λ(i:Nat)=>f (1+i)))) k key x)).1 (Yx (objR (f 0) (toN 17 (fL (toN 17 λ(i:Nat)=>f (1+i)))) k key x)).2 else bif match ZL 1 i with|false=>false|true=>ZL i 17 then fL (objR (f 0) (toN 17 (fL (toN 17 λ(i:Nat)=>f (1+i)))) k key x).1 (match i with|0=>0|Yg a=>a)else f i],Zt (.v ZM)]) []else dP Tryz.f112 5 3 [xE 14,⟨13,[],[4],[],false⟩,⟨12,[],[3],[],false⟩,⟨11,[],[4],[4],false⟩,⟨10,[],[3],[3],false⟩,xE 9,xE 8,xE 7,xE 6,xE 5,xR 4 1,xE 3,xR 2 0,xE 1,xR 0 0]/\endP Xg [Zz [nU 32 f],aI 3,Zz [sI k,sI key,sI x]] (ZS [Zz [nU 32 zF],Zt (.v (.iface 50 (ZA .i64 (1:Int))))]) []) Zc ?_
  refine⟨⟨rfl,h⟩,⟨rfl,Za,Za⟩,rfl,⟨rfl,by rw[Qa1 (Qbf 17 _)];exact hok⟩,?_⟩
  rw[Qa1 (Qbf 17 _)]
  refine QL (λho=>?_) (λho=>⟨Qd Zc,rfl,λρ=>?_⟩)
  . have hA:=(QdC hok k key x ho).1
    rw[QaL (x:=f 28+1) Za Za]
    refine⟨Qd Zc,⟨Zb,Zb,Zb⟩,⟨Zb,Zb,Zb⟩,Qd Zc,hA,?_⟩
    repeat (first|refine⟨Zb,?_⟩|refine⟨⟨g0,Za⟩,?_⟩)
    exact QdU f _ 3 3 k key x rfl ho _ (λi hi=>Qfr h 3 Zb k key x ho i hi)
  . simp only[Zby,Xg,ho,cond_false]
def QhL:PCon:=⟨λargs=>match args with
 |[.c (.v (.int .i64 a)),.c (.v (.int .i64 n))]=>0<n/\n<=9223372036854775807
 |_=>False,λargs=>match args with
 |[.c (.v (.int .i64 a)),.c (.v (.int .i64 n))]=>sv (.int .i64 (Qhg a n))
 |_=>sv undef,λ_=>none⟩
theorem Qpq:(YE QhL).holds Tryz.prog 11:=by
 refine QG (AG:=[]) (Γ:=[]) Tryz.func11 rfl Zc Qf Qc (λ_=>Za2 _ _ _) QhL 400 ?_
 intro W args hp
 unfold QhL at hp;dsimp only at hp;split at hp
 case h_2=>exact hp.elim
 rename_i a n
 refine⟨rfl,?_⟩
 refine Qk (q:=Zi .u64 n≠(0:Int)/\ZG (aI (Zi .i64 (YT (Zi .u64 a) (Zi .u64 n))))=ZG (aI (Qhg a n))/\true=true) Zc ?_
 have:=Qpp a n hp
 exact⟨this.1,by rw[this.2],rfl⟩
def Qgd:PCon:=⟨λargs=>match args with
 |[.c (.v (.int .i64 a))]=>True
 |_=>False,λargs=>match args with
 |[.c (.v (.int .i64 a))]=>sv (.int .i64 (1+Qhg a 6))
 |_=>sv undef,λ_=>none⟩
theorem Qsq:(YE Qgd).holds Tryz.prog 8:=by
 refine QG (AG:=[]) (Γ:=[(11,.pure QhL)]) Tryz.func8 rfl Zc Qf Qc (λW=>.cons (Qpq W _) (.nil _ _ _)) Qgd 400 ?_
 intro W args hp
 unfold Qgd at hp;dsimp only at hp;split at hp
 case h_2=>exact hp.elim
 rename_i a
 refine⟨rfl,?_⟩
 refine Qk (q:=((0:Int)<(6:Int)/\(6:Int)<=(9223372036854775807:Int))/\ZG (aI (Zi .i64 ((1:Int)+Qhg a (6:Int))))=ZG (aI ((1:Int)+Qhg a (6:Int)))/\true=true) Zc ?_
 have h1:=QeX a 6 Zb
 have h2:=Qj8 a 6 Zb
 exact⟨⟨Zb,Zb⟩,by rw[Qx Za Za],rfl⟩
def QiP:PCon:=⟨λargs=>match args with
 |[.c (.v (.int .i64 a))]=>True
 |_=>False,λargs=>match args with
 |[.c (.v (.int .i64 a))]=>.o (opA 1 0 a)
 |_=>sv undef,λ_=>none⟩
theorem QmV:(YE QiP).holds Tryz.prog 23:=by
 refine QG (AG:=[]) (Γ:=[]) Tryz.func23 rfl Zc Qf Qc (λ_=>Za2 _ _ _) QiP 400 ?_
 intro W args hp
 unfold QiP at hp;dsimp only at hp;split at hp
 case h_2=>exact hp.elim
 rename_i a
 refine⟨rfl,?_⟩
 refine Qk (q:=ZG (Zz [sI 1,sI 0,sI a])=ZG (Zz [sI 1,sI 0,sI a])/\true=true) Zc ?_
 exact⟨rfl,rfl⟩
abbrev Qrs (m c:Nat) (z:Nat->Nat->Int):SB:=.rows 198 [.int .i64,.int .i64,.int .i64,.int .i64,.int .i64] 5 m c z
abbrev Qdl (m c:Nat) (z:Nat->Nat->Int):SB:=.rows 36 [.int .i64,.int .i64,.int .i64,.int .i64,.int .i64,.int .i64] 6 m c z
abbrev nzD (t:Nat):NZ:=.tmp t 36 6 [.int .i64,.int .i64,.int .i64,.int .i64,.int .i64,.int .i64]
def Qco:PCon:=⟨λargs=>match args with
 |[.a [.ints (.int .u64) n f],.a [.one (.v (.int .i64 t)),.one (.v (.int .i64 g)),.one (.v (.int .i64 a)),.one (.v (.int .i64 b)),.one (.v (.int .i64 c))]]=>n=32/\0<=t/\t<4/\(g=0\/g=1)/\0<=f 26/\f 26<16
 |_=>False,λargs=>match args with
 |[.a [.ints (.int .u64) n f],.a [.one (.v (.int .i64 t)),.one (.v (.int .i64 g)),.one (.v (.int .i64 a)),.one (.v (.int .i64 b)),.one (.v (.int .i64 c))]]=>.t [.c (.v (.bool (Qp (f 26) t.toNat != g))),nilE]
 |_=>sv undef,λ_=>none⟩
theorem Qpt:(YE Qco).holds Tryz.prog 111:=by
 refine QE (Γ:=[(97,.pure Xl)]) Tryz.func111 rfl Zc Qf Qc (λW=>.cons (Qbm W _) (.nil _ _ _)) Qco (λ_=>[]) 400 ?_
 intro W args hp
 unfold Qco at hp;dsimp only at hp;split at hp
 case h_2=>exact hp.elim
 rename_i n f t g a b c
 obtain⟨rfl,h0,h4,hg,f0,f1⟩:=hp
 refine⟨rfl,?_⟩
 refine Qk (q:=bif decide (t<(0:Int))then endP Qco [Zz [nU 32 f],Zz [sI t,sI g,sI a,sI b,sI c]] (ZS [aB false,Zt (.v (.iface 50 (ZA .i64 (2:Int))))]) []else bif decide (t>=(4:Int))then endP Qco [Zz [nU 32 f],Zz [sI t,sI g,sI a,sI b,sI c]] (ZS [aB false,Zt (.v (.iface 50 (ZA .i64 (2:Int))))]) []else bif g != (0:Int)then bif g != (1:Int)then endP Qco [Zz [nU 32 f],Zz [sI t,sI g,sI a,sI b,sI c]] (ZS [aB false,Zt (.v (.iface 50 (ZA .i64 (1:Int))))]) []else (32=32/\(0:Int)<=t/\t<(4:Int)/\(0:Int)<=f 26/\f 26<(16:Int))/\dP Tryz.f111 5 2 [xE 8,xE 7,xE 6,xR 5 1,xF 4 1,xE 3,xR 2 1,xF 1 1,xR 0 0]/\endP Qco [Zz [nU 32 f],Zz [sI t,sI g,sI a,sI b,sI c]] (ZS [aB (Qp (f 26) (Zh t) != g),Zt (.v ZM)]) []else (32=32/\(0:Int)<=t/\t<(4:Int)/\(0:Int)<=f 26/\f 26<(16:Int))/\dP Tryz.f111 5 2 [xE 8,xE 7,xE 6,xR 5 1,xF 4 1,xE 3,xR 2 1,xF 1 1,xR 0 0]/\endP Qco [Zz [nU 32 f],Zz [sI t,sI g,sI a,sI b,sI c]] (ZS [aB (Qp (f 26) (Zh t) != g),Zt (.v ZM)]) []) Zc ?_
 have hd:(32=32/\0<=t/\t<4/\0<=f 26/\f 26<16):=⟨rfl,h0,h4,f0,f1⟩
 refine Qo (λh=>absurd h Za) (λ_=>Qo (λh=>absurd h Za) (λ_=>QB (λh=>QB (λh=>absurd hg Za) (λ_=>?_)) (λ_=>?_)))
 . exact⟨hd,Qd Zc,rfl,λρ=>rfl⟩
 . exact⟨hd,Qd Zc,rfl,λρ=>rfl⟩
theorem OldOk.none (w:World) {ρ:Nat->Nat}{k:Nat}:OldOk w w (feet (denM ρ k [])):=λsz ks a m c z w' h k=>h.below (k.below (Zq _) (λg ⟨e,he,_⟩=>absurd he List.not_mem_nil))
structure BdS where
 r:Rec
 f:Nat->Int
 l:List Ask
 lo:Nat
 m:Nat
 c:Nat
 nn:Bool
 z:Nat->Nat->Int
structure BdR where
 f:Nat->Int
 m:Nat
 c:Nat
 nn:Bool
 z:Nat->Nat->Int
abbrev BdS.pre (s:BdS):Prop:=(RecOK 1099511000000 s.r/\toN 32 s.f=s.r.words)/\AsksOK s.l/\s.l.length<=100/\(s.lo+s.l.length<=s.m/\s.m<=s.c)/\IsA (λi=>s.z (s.lo+i)) s.l
def QkB:MCon where
 σ:=BdS
 χ:=BdR
 pre s:=s.pre
 args s:=[recA s.f,.c (.so 0 s.lo 5 s.l.length s.c s.nn)]
 mem s:=[Qrs s.m s.c s.z]
 ok s x:=((bD s.r s.l).length<=x.m/\x.m<=x.c)/\IsD x.z (bD s.r s.l)/\toN 32 x.f=(bDo s.r s.l).words
 val s x:=.t [recA x.f,.c (.so 1 0 6 (bD s.r s.l).length x.c x.nn),nilE]
 mem' s x:=[Qrs s.m s.c s.z,Qdl x.m x.c x.z]
 k:=1
 len:=2
 det:=none
 find args M:=some (blkA args)
structure BdG (s:BdS) where
 i:Nat
 f:Nat->Int
 m:Nat
 c:Nat
 nn:Bool
 z:Nat->Nat->Int
 hi:i<=s.l.length
 hf:toN 32 f=(bR s.r (s.l.take i)).words
 hm:(bD s.r (s.l.take i)).length<=m/\m<=c
 hz:IsD z (bD s.r (s.l.take i))
def Qq7 (s:BdS):Ann where
 σ:=BdG s
 I g:=([(2,.o (.c (.p 1 0))),(4,.o (.c (.p 2 0))),(7,.o (.c (.so 3 0 6 (bD s.r (s.l.take g.i)).length g.c g.nn))),(20,.o (.c (.so 0 s.lo 5 s.l.length s.c s.nn))),(21,sv (.int .i64 s.l.length)),(22,sv (.int .i64 g.i))],[Qrs s.m s.c s.z,recB g.f,recB (λ_=>0),Qdl g.m g.c g.z])
 dec g:=s.l.length-g.i
 pi env _:=[0,blkE env 2,blkE env 4,blkE env 7]
 nz:=[nzD 7]
def rpB:SV->List SB->List Nat:=λx M=>match x with
 |.t [_,.c (.so b _ _ _ _ _),_]=>[0,b]
 |_=>[]
theorem Qsg:(ZH QkB).holds Tryz.prog 105:=by
 intro w0 S
 refine Qa (Γ:=[(110,.pure QT),(111,.pure Qco),(112,.pure Xg),(106,.pure Xu)]) (λ_=>noW) Tryz.func105 rfl Zc Qf Qc
  (λw S' _ _=>.cons (QgE w _) (.cons (Qpt w _) (.cons (QmS w _) (.cons (QfO w _) (.nil _ _ _))))) QkB (λs=>[(105,[(0,Qq7 s)])]) (λx0 h=>by cases h) (λs ρ w _ _ _=>Qj w _) [nzD 1] rpB 400 ?_
 rintro⟨r,f,l,lo,m,c,nn,z⟩ w ⟨⟨hr,hf⟩,ha,h3,⟨hm,hc⟩,hz⟩ -
 refine⟨rfl,?_⟩
 dsimp only at hr hf ha h3 hm hc hz
 refine Qk (q:=(32=32/\RecW f)/\Zg l<=c/\(∃(s0:Ann.σ (Qq7 (BdS.mk r f l lo m c nn z))),(eS (aP 1 0) (aP 1 0)/\eS (aP 2 0) (aP 2 0)/\eS (Zt (.so 3 0 6 0 0 false)) (Zt (.so 3 0 6 (Zg (bD r (ZY s0.1 l))) s0.4 s0.5))/\eS (Zt (.so 0 lo 5 (Zg l) c nn)) (Zt (.so 0 lo 5 (Zg l) c nn))/\eS (aI (↑(Zg l):Int)) (aI (↑(Zg l):Int))/\eS (aI 0) (aI ↑s0.1)/\True)/\[Zk 198 kI5 5 m c z,Zj [nU 32 f] 96,Zj [nU 32 zF] 96,Zk 36 kI6 6 0 0 λ(x x_1:Nat)=>(0:Int)]=[Zk 198 kI5 5 m c z,Zj [nU 32 s0.2] 96,Zj [nU 32 zF] 96,Zk 36 kI6 6 s0.3 s0.4 s0.6])/\∀(s:BdG (BdS.mk r f l lo m c nn z)),bif decide ((↑s.1:Int)<(↑(Zg l):Int))then ((0:Int)<=(↑s.1:Int)/\(↑s.1:Int)<(↑(Zg l):Int)/\lo+Zg l<=c)/\lo+Zh (↑s.1:Int)<m/\(32=32/\(0:Int)<=z (lo+Zh (↑s.1:Int)) 0/\z (lo+Zh (↑s.1:Int)) 0<(4:Int)/\(z (lo+Zh (↑s.1:Int)) 1=(0:Int)\/z (lo+Zh (↑s.1:Int)) 1=(1:Int))/\(0:Int)<=s.2 26/\s.2 26<(16:Int))/\bif bif Qp (s.2 26) (Zh (z (lo+Zh (↑s.1:Int)) 0)) != z (lo+Zh (↑s.1:Int)) 1 then false else true then ∃(s':BdG (BdS.mk r f l lo m c nn z)),((eS (aP 1 0) (aP 1 0)/\eS (aP 2 0) (aP 2 0)/\eS (Zt (.so 3 0 6 (Zg (bD r (ZY s.1 l))) s.4 s.5)) (Zt (.so 3 0 6 (Zg (bD r (ZY s'.1 l))) s'.4 s'.5))/\eS (Zt (.so 0 lo 5 (Zg l) c nn)) (Zt (.so 0 lo 5 (Zg l) c nn))/\eS (aI (↑(Zg l):Int)) (aI (↑(Zg l):Int))/\eS (aI (Zi .i64 ((↑s.1:Int)+(1:Int)))) (aI ↑s'.1)/\True)/\[Zk 198 kI5 5 m c z,Zj [nU 32 s.2] 96,Zj [nU 32 zF] 96,Zk 36 kI6 6 s.3 s.4 s.6]=[Zk 198 kI5 5 m c z,Zj [nU 32 s'.2] 96,Zj [nU 32 zF] 96,Zk 36 kI6 6 s'.3 s'.4 s'.6])/\Zg l-s'.1<Zg l-s.1 else (32=32/\RecW s.2/\(0:Int)<=z (lo+Zh (↑s.1:Int)) 0/\z (lo+Zh (↑s.1:Int)) 0<(4:Int))/\bif opOk (z (lo+Zh (↑s.1:Int)) 2) (z (lo+Zh (↑s.1:Int)) 3) (z (lo+Zh (↑s.1:Int)) 4)then (32=32/\(0:Int)<=z (lo+Zh (↑s.1:Int)) 0/\z (lo+Zh (↑s.1:Int)) 0<(4:Int)/\U64 (fL (Zai (Zch (Zb3 (toN 32 s.2)) (Zh (z (lo+Zh (↑s.1:Int)) 0)) (z (lo+Zh (↑s.1:Int)) 2) (z (lo+Zh (↑s.1:Int)) 3) (z (lo+Zh (↑s.1:Int)) 4))) (18+Zh (z (lo+Zh (↑s.1:Int)) 0)))/\(0:Int)<=fL (Zai (Zch (Zb3 (toN 32 s.2)) (Zh (z (lo+Zh (↑s.1:Int)) 0)) (z (lo+Zh (↑s.1:Int)) 2) (z (lo+Zh (↑s.1:Int)) 3) (z (lo+Zh (↑s.1:Int)) 4))) (22+Zh (z (lo+Zh (↑s.1:Int)) 0))/\fL (Zai (Zch (Zb3 (toN 32 s.2)) (Zh (z (lo+Zh (↑s.1:Int)) 0)) (z (lo+Zh (↑s.1:Int)) 2) (z (lo+Zh (↑s.1:Int)) 3) (z (lo+Zh (↑s.1:Int)) 4))) (22+Zh (z (lo+Zh (↑s.1:Int)) 0))<=(9223372036854775807:Int))/\bif Xc (fL (Zai (Zch (Zb3 (toN 32 s.2)) (Zh (z (lo+Zh (↑s.1:Int)) 0)) (z (lo+Zh (↑s.1:Int)) 2) (z (lo+Zh (↑s.1:Int)) 3) (z (lo+Zh (↑s.1:Int)) 4))) (18+Zh (z (lo+Zh (↑s.1:Int)) 0))/(4294967296:Int)%(4294967296:Int)) (fL (Zai (Zch (Zb3 (toN 32 s.2)) (Zh (z (lo+Zh (↑s.1:Int)) 0)) (z (lo+Zh (↑s.1:Int)) 2) (z (lo+Zh (↑s.1:Int)) 3) (z (lo+Zh (↑s.1:Int)) 4))) (18+Zh (z (lo+Zh (↑s.1:Int)) 0))%(4294967296:Int))then ((Zg (bD r (ZY s.1 l))<=s.3/\s.4=s.4)/\(1<=1/\1=1)/\Zg (bD r (ZY s.1 l))+1<=68719476736)/\∀(c_1:Nat),Zg (bD r (ZY s.1 l))+1<=c_1->∃(s':BdG (BdS.mk r f l lo m c nn z)),((eS (aP 1 0) (aP 1 0)/\eS (aP 2 0) (aP 2 0)/\eS (Zt (.so 7 0 6 (Zg (bD r (ZY s.1 l))+1) c_1 s.5)) (Zt (.so 7 0 6 (Zg (bD r (ZY s'.1 l))) s'.4 s'.5))/\eS (Zt (.so 0 lo 5 (Zg l) c nn)) (Zt (.so 0 lo 5 (Zg l) c nn))/\eS (aI (↑(Zg l):Int)) (aI (↑(Zg l):Int))/\eS (aI (Zi .i64 ((↑s.1:Int)+(1:Int)))) (aI ↑s'.1)/\True)/\[Zk 198 kI5 5 m c z,Zj [nU 32 (fL (Zai (Zch (Zb3 (toN 32 s.2)) (Zh (z (lo+Zh (↑s.1:Int)) 0)) (z (lo+Zh (↑s.1:Int)) 2) (z (lo+Zh (↑s.1:Int)) 3) (z (lo+Zh (↑s.1:Int)) 4))))] 96,Zj [nU 32 zF] 96,Zk 36 kI6 6 (Zg (bD r (ZY s.1 l))+1) c_1 λ(i j:Nat)=>bif ZL (i+1) (Zg (bD r (ZY s.1 l)))then s.6 i j else match Zl (match Zl [[z (lo+Zh (↑s.1:Int)) 0,z (lo+Zh (↑s.1:Int)) 2,z (lo+Zh (↑s.1:Int)) 3,z (lo+Zh (↑s.1:Int)) 4,fL (Zai (Zch (Zb3 (toN 32 s.2)) (Zh (z (lo+Zh (↑s.1:Int)) 0)) (z (lo+Zh (↑s.1:Int)) 2) (z (lo+Zh (↑s.1:Int)) 3) (z (lo+Zh (↑s.1:Int)) 4))) (18+Zh (z (lo+Zh (↑s.1:Int)) 0))/(4294967296:Int)%(4294967296:Int),fL (Zai (Zch (Zb3 (toN 32 s.2)) (Zh (z (lo+Zh (↑s.1:Int)) 0)) (z (lo+Zh (↑s.1:Int)) 2) (z (lo+Zh (↑s.1:Int)) 3) (z (lo+Zh (↑s.1:Int)) 4))) (18+Zh (z (lo+Zh (↑s.1:Int)) 0))%(4294967296:Int)]] (0+(i-Zg (bD r (ZY s.1 l))))with|some x=>x|none=>[]) j with|some x=>x|none=>(0:Int)]=[Zk 198 kI5 5 m c z,Zj [nU 32 s'.2] 96,Zj [nU 32 zF] 96,Zk 36 kI6 6 s'.3 s'.4 s'.6])/\Zg l-s'.1<Zg l-s.1 else ((Zg (bD r (ZY s.1 l))<=s.3/\s.4=s.4)/\(1<=1/\1=1)/\Zg (bD r (ZY s.1 l))+1<=68719476736)/\∀(c_1:Nat),Zg (bD r (ZY s.1 l))+1<=c_1->∃(s':BdG (BdS.mk r f l lo m c nn z)),((eS (aP 1 0) (aP 1 0)/\eS (aP 2 0) (aP 2 0)/\eS (Zt (.so 7 0 6 (Zg (bD r (ZY s.1 l))+1) c_1 s.5)) (Zt (.so 7 0 6 (Zg (bD r (ZY s'.1 l))) s'.4 s'.5))/\eS (Zt (.so 0 lo 5 (Zg l) c nn)) (Zt (.so 0 lo 5 (Zg l) c nn))/\eS (aI (↑(Zg l):Int)) (aI (↑(Zg l):Int))/\eS (aI (Zi .i64 ((↑s.1:Int)+(1:Int)))) (aI ↑s'.1)/\True)/\[Zk 198 kI5 5 m c z,Zj [nU 32 (fL (Zai (Zch (Zb3 (toN 32 s.2)) (Zh (z (lo+Zh (↑s.1:Int)) 0)) (z (lo+Zh (↑s.1:Int)) 2) (z (lo+Zh (↑s.1:Int)) 3) (z (lo+Zh (↑s.1:Int)) 4))))] 96,Zj [nU 32 zF] 96,Zk 36 kI6 6 (Zg (bD r (ZY s.1 l))+1) c_1 λ(i j:Nat)=>bif ZL (i+1) (Zg (bD r (ZY s.1 l)))then s.6 i j else match Zl (match Zl [[z (lo+Zh (↑s.1:Int)) 0,z (lo+Zh (↑s.1:Int)) 2,z (lo+Zh (↑s.1:Int)) 3,z (lo+Zh (↑s.1:Int)) 4,(0:Int),(0:Int)]] (0+(i-Zg (bD r (ZY s.1 l))))with|some x=>x|none=>[]) j with|some x=>x|none=>(0:Int)]=[Zk 198 kI5 5 m c z,Zj [nU 32 s'.2] 96,Zj [nU 32 zF] 96,Zk 36 kI6 6 s'.3 s'.4 s'.6])/\Zg l-s'.1<Zg l-s.1 else Qew (Oper.mk (some 57) (Op.call (Call.mk (Callee.value (Operand.func 16)) #[Operand.tmp 56] #[41])) 50 "batch.go:42" #[Edge.mk 1 Ground.data] none)else (iR (27:Int) (32:Int))/\27<32/\(iR (27:Int) (32:Int))/\27<32/\endN QkB [nzD 1] rpB (BdS.mk r f l lo m c nn z) (ZS [Zz [nU 32 λ(i:Nat)=>bif ZE i 27 then Zi .u64 (s.2 27+(1:Int))else s.2 i],Zt (.so 3 0 6 (Zg (bD r (ZY s.1 l))) s.4 s.5),Zt (.v ZM)]) [Zk 198 kI5 5 m c z,Zj [nU 32 λ(i:Nat)=>bif ZE i 27 then Zi .u64 (s.2 27+(1:Int))else s.2 i] 96,Zj [nU 32 λ(i:Nat)=>bif ZE i 27 then Zi .u64 (s.2 27+(1:Int))else s.2 i] 96,Zk 36 kI6 6 s.3 s.4 s.6]) Zc ?_
 have hW0:=Zex hr Zb hf
 refine⟨⟨rfl,hW0.1⟩,Za,⟨⟨0,f,0,0,false,_,Z9 _,hf,⟨Zq _,Zq _⟩,λi hi=>absurd hi (ZP _)⟩,⟨rfl,rfl,rfl,rfl,rfl,rfl,Zd⟩,rfl⟩,?_⟩
 rintro⟨i,f1,m1,c1,n1,z1,hi,hf1,hm1,hz1⟩
 dsimp only at hi hf1 hm1 hz1 ⊢
 have hle:=Qqx (l.take i) r
 have hlt2:(l.take i).length<=100:=by rw[List.length_take];omega
 have hq:RecOK 1099511000100 (bR r (l.take i)):=(Qsi (l:=l.take i) hr (λa h=>ha a (List.mem_of_mem_take h))).mono Za
 have hv:(bR r (l.take i)).ver=r.ver:=Qi2 _ _
 have hW:=Zex hq Zb hf1
 obtain⟨e26,e27,-⟩:=Qra hq hf1
 have g0:=hq.g0
 have g1:=hq.g1
 have v0:=hq.v0
 have v1:=hq.v1
 refine Qo (λhlt=>?_) (λhge=>?_)
 . have hi':i<l.length:=Za
   have eR:bR r (l.take (i+1))=Xw (bR r (l.take i)) (l.getD i Ask.nil):=by rw[Qh7 hi',Qsh]
   have eD:bD r (l.take (i+1))=bD r (l.take i)++bDs (bR r (l.take i)) (l.getD i Ask.nil):=by rw[Qh7 hi',Qsj]
   obtain⟨a0,a1,a2,a3,a4⟩:=hz i hi'
   have hak:=ha.get hi'
   dsimp only at a0 a1 a2 a3 a4
   generalize l.getD i Ask.nil=a at *
   have ht:=hak.1
   rw[Zv,a0,a1,a2,a3,a4,Zv,hW.2,e26]
   refine⟨⟨Za,Za,Za⟩,Za,⟨rfl,Za,Za,hak.2.1,Za,Za⟩,Xn (λho=>?_) (λho=>?_)⟩
   . have hs:=Qg1 (r:=bR r (l.take i)) (a:=a) ho
     rw[hs.1]at eR
     rw[hs.2,List.append_nil]at eD
     exact⟨⟨i+1,f1,m1,c1,n1,z1,hi',eR ▸ hf1,eD ▸ hm1,eD ▸ hz1⟩,⟨⟨rfl,rfl,congrArg (λk=>some (ZG (Zt (SC.so 3 0 6 k c1 n1)))) (congrArg Zg eD).symm,rfl,rfl,svI (sucI Za),Zd⟩,rfl⟩,by dsimp only;omega⟩
   . have ho':bOpen (bR r (l.take i)) a=true:=ho
     have hd:=hq.done a.t ht a.k a.key a.x hak.2.2
     have bT:=QgG hd Zb a.t ht
     have hT:=Qn4 hq Zb a.t ht a.k a.key a.x hak.2.2
     have hs:Xw (bR r (l.take i)) a=(bR r (l.take i)).done a.t a.k a.key a.x:=by unfold Xw;rw[ho'];rfl
     have hds:bDs (bR r (l.take i)) a=[QdN (bR r (l.take i)) a]:=by unfold bDs;rw[ho'];rfl
     rw[hs]at eR
     rw[hds]at eD
     have el:(bD r (l.take (i+1))).length=(bD r (l.take i)).length+1:=by rw[eD,Zw];rfl
     refine⟨⟨rfl,hW.1,Za,Za⟩,QL (λ_=>?_) (λh=>absurd (hak.2.2.symm.trans h) Zb)⟩
     refine⟨⟨rfl,Za,Za,bT⟩,QL (λ_=>?_) (λh=>absurd (hT.2.2.symm.trans h) Zb)⟩
     refine⟨⟨⟨hm1.1,rfl⟩,⟨Zq _,rfl⟩,Za⟩,λc' hc'=>⟨⟨i+1,_,(bD r (l.take i)).length+1,c',n1,_,hi',(Qa1 (Zdz hd)).trans (by rw[eR]),⟨by show (bD r (l.take (i+1))).length<=_;omega,hc'⟩,?_⟩,⟨⟨rfl,rfl,congrArg (λk=>some (ZG (Zt (SC.so 7 0 6 k c' n1)))) el.symm,rfl,rfl,svI (sucI Za),Zd⟩,rfl⟩,by dsimp only;omega⟩⟩
     show IsD _ (bD r (l.take (i+1)))
     rw[eD]
     refine hz1.snoc (λj hj k=>catT hj) ⟨?_,?_,?_,?_,?_,?_⟩
     . exact catF.trans (by rw[Ye];rfl)
     . exact catF.trans (by rw[Ye];rfl)
     . exact catF.trans (by rw[Ye];rfl)
     . exact catF.trans (by rw[Ye];rfl)
     . exact catF.trans (by rw[Ye];exact hT.1)
     . exact catF.trans (by rw[Ye];exact hT.2.1)
 . obtain rfl:i=l.length:=Za
   rw[List.take_length]at hf1 hm1 hz1 hq e27 v0 v1 ⊢
   rw[e27,QaL (x:=(bR r l).ver+1) Za Za]
   refine⟨⟨Zb,Zb⟩,Zb,⟨Zb,Zb⟩,Zb,?_⟩
   exact Ql (x':=.t [recA (λi=>bif ZE i 27 then (bR r l).ver+1 else f1 i),.c (.so 3 0 6 (bD r l).length c1 n1),nilE]) rfl ⟨_,m1,c1,n1,z1⟩ ⟨hm1,hz1,toN_at hq hf1 _⟩ rfl rfl rfl
def WkS.good (s:WkS):Prop:=(s.w.asks.length<=s.ma/\s.ma<=s.ca)/\IsA s.za s.w.asks/\(s.w.deeds.length<=s.md/\s.md<=s.cd)/\IsD s.zd s.w.deeds
def rpW (n:Nat):SV->List SB->List Nat:=λ_ M=>match getB M 0 with
 |.cells l _=>match segGet l 41,segGet l 42 with
  |some (.so x _ _ _ _ _),some (.so y _ _ _ _ _)=>upN 0 n++[x,y]
  |_,_=>[]
 |_=>[]
def Qej:MCon where
 σ:=WkS
 χ:=WkS
 pre s:=s.w.th<4/\s.good/\(s.w.does=8->s.w.allOK)
 args s:=[.c (.p 0 0)]
 mem s:=[wkC 1 2 s.w s.ca s.na s.cd s.nd,wkA s.ma s.ca s.za,wkD s.md s.cd s.zd]
 ok s x:=x.w.sim s.w.all/\x.good
 val _ _:=.t []
 mem' s x:=[wkC 1 2 x.w x.ca x.na x.cd x.nd,wkA x.ma x.ca x.za,wkD x.md x.cd x.zd]
 k:=1
 len:=3
 det:=none
 find:=Qcx
theorem Qh1:(ZH Qej).holds Tryz.prog 98:=by
 intro w0 S
 refine Qa (Γ:=[(105,.mem QkB),(106,.pure Xu)]) (λ_=>noW) Tryz.func98 rfl Zc Qf Qc (λw S' _ _=>.cons (Qsg w S') (.cons (QfO w S') (.nil _ _ _))) Qej (λ_=>[]) (λx0 h=>by cases h) (λs ρ w _ _ _=>Qj w _) [] (rpW 1) 400 ?_
 rintro⟨⟨th,does,k,key,x,tog,said,i,v,r,asks,deeds,seen,oc,ov,whn⟩,ma,ca,na,za,md,cd,nd,zd⟩ W ⟨h0,h1,h2⟩ -
 refine⟨rfl,?_⟩
 dsimp only at h0 h1 h2
 refine Qk (q:=bif does==(8:Int)then dP Tryz.f98 1 3 [⟨10,[],[1,3],[],true⟩,⟨9,[0],[],[1],false⟩,xF 8 0,xF 7 0,xF 6 0,xR 5 0,xF 4 0,xF 3 0,xF 2 0,xF 1 0,xF 0 0]/\∃(s:BdS),[Zz [nU 32 r],Zt (.so 1 0 5 (Zg asks) ca na)]=[Zz [nU 32 s.2],Zt (.so 1 s.4 5 (Zg s.3) s.6 s.7)]/\[wkA ma ca za]=[wkA s.5 s.6 s.8]/\((RecOK (1099511000000:Int) s.1/\toN 32 s.2=Zai s.1)/\AsksOK s.3/\Zg s.3<=100/\(s.4+Zg s.3<=s.5/\s.5<=s.6)/\IsA (λ(i:Nat)=>s.8 (s.4+i)) s.3)/\∀(x_1:BdR),(Zg (bD s.1 s.3)<=x_1.2/\x_1.2<=x_1.3)/\IsD x_1.5 (bD s.1 s.3)/\toN 32 x_1.1=Zai (bDo s.1 s.3)->dP Tryz.f98 1 3 [⟨20,[],[0],[1,3],false⟩,xF 19 0,xF 18 0,⟨17,[],[0],[1,2],false⟩,xF 16 0,xF 15 0,xE 14,xF 13 3,xE 12,xF 11 3,⟨10,[],[1,3],[3],true⟩,⟨9,[0],[],[1],false⟩,xF 8 0,xF 7 0,xF 6 0,xR 5 0,xF 4 0,xF 3 0,xF 2 0,xF 1 0,xF 0 0]/\(32=32/\(0:Int)<=(↑th:Int)/\(↑th:Int)<(4:Int)/\U64 (x_1.1 (18+Zh (↑th:Int)))/\(0:Int)<=x_1.1 (22+Zh (↑th:Int))/\x_1.1 (22+Zh (↑th:Int))<=(9223372036854775807:Int))/\bif Xc (x_1.1 (18+Zh (↑th:Int))/(4294967296:Int)%(4294967296:Int)) (x_1.1 (18+Zh (↑th:Int))%(4294967296:Int))then dP Tryz.f98 2 4 [⟨20,[],[0],[1,3],false⟩,xF 19 0,xF 18 0,⟨17,[],[0],[1,3],false⟩,xF 16 0,xF 15 0,xE 14,xE 13,xE 12,xE 11,xE 10,xR 9 0,xF 8 0,xF 7 0,xF 6 0,xR 5 0,xF 4 0,xF 3 0,xF 2 0,xF 1 0,xF 0 0]/\endN Qej [] (rpW 1) (WkS.mk (Wk.mk th does k key x tog said i v r asks deeds seen oc ov whn) ma ca na za md cd nd zd) (ZS []) [Zj [sI ↑th,sI does,sI k,sI key,sI x,sI tog,sB said,sI i,sU v,nU 32 x_1.1,sS 1 0 5 (Zg asks) ca na,sS 3 0 6 (Zg (bD s.1 s.3)) x_1.3 x_1.4,nU 3 seen,sI (x_1.1 (18+Zh (↑th:Int))/(4294967296:Int)%(4294967296:Int)),sI (x_1.1 (18+Zh (↑th:Int))%(4294967296:Int)),sI (x_1.1 (22+Zh (↑th:Int)))] 108,wkA s.5 s.6 s.8,wkD md cd zd,wkD x_1.2 x_1.3 x_1.5]else dP Tryz.f98 2 4 [⟨20,[],[0],[1,3],false⟩,xF 19 0,xF 18 0,⟨17,[],[0],[1,3],false⟩,xF 16 0,xF 15 0,xE 14,xE 13,xE 12,xE 11,xE 10,xR 9 0,xF 8 0,xF 7 0,xF 6 0,xR 5 0,xF 4 0,xF 3 0,xF 2 0,xF 1 0,xF 0 0]/\endN Qej [] (rpW 1) (WkS.mk (Wk.mk th does k key x tog said i v r asks deeds seen oc ov whn) ma ca na za md cd nd zd) (ZS []) [Zj [sI ↑th,sI does,sI k,sI key,sI x,sI tog,sB said,sI i,sU v,nU 32 x_1.1,sS 1 0 5 (Zg asks) ca na,sS 3 0 6 (Zg (bD s.1 s.3)) x_1.3 x_1.4,nU 3 seen,sI 0,sI 0,sI 0] 108,wkA s.5 s.6 s.8,wkD md cd zd,wkD x_1.2 x_1.3 x_1.5]else endN Qej [] (rpW 1) (WkS.mk (Wk.mk th does k key x tog said i v r asks deeds seen oc ov whn) ma ca na za md cd nd zd) (ZS []) [Zj [sI ↑th,sI does,sI k,sI key,sI x,sI tog,sB said,sI i,sU v,nU 32 r,sS 1 0 5 (Zg asks) ca na,sS 2 0 6 (Zg deeds) cd nd,nU 3 seen,sI oc,sI ov,sI whn] 108,wkA ma ca za,wkD md cd zd]) Zc ?_
 refine QP (λh8=>?_) (λhn=>?_)
 . subst h8
   obtain⟨ha,hl,q,hq,hv,hr⟩:=h2 rfl
   obtain⟨⟨ga,gb⟩,gc,⟨gd,ge⟩,gf⟩:=h1
   dsimp only at ha hl hr ga gb gc gd ge gf
   have z0:IsA (λi=>za (0+i)) asks:=by simp only[Zu];exact gc
   have hb:=Qsi hq ha
   have v0:=hq.v0
   have hd:RecOK 1099511000100 (bDo q asks):=(hb.mono Za).at (by rw[Qi2];omega) (by rw[Qi2];omega)
   refine⟨Qd Zc,⟨q,r,asks,0,ma,ca,na,za⟩,rfl,rfl,⟨⟨hq,hr⟩,ha,(by omega:asks.length<=100),⟨(by omega:0+asks.length<=ma),gb⟩,z0⟩,?_⟩
   rintro⟨f,m1,c1,n1,z1⟩ ⟨hm,hz,hf⟩
   dsimp only at hm hz hf ⊢
   obtain⟨t0,t1,t2,t3⟩:=Qpk hd Zb hf th h0
   have e (i:Nat) (hi:i<32):fL (bDo q asks).words i=f i:=by rw[<- hf,Qe3 hi]
   have eq:QmP r=q:=Qj6 hq Zb hr
   have hall (b:Int) (c:Int) (d:Int) (hb:b=f (18+th)/4294967296%4294967296) (hc:c=f (18+th)%4294967296) (hdd:d=f (22+th)):
    (⟨th,8,k,key,x,tog,said,i,v,f,asks,bD q asks,seen,b,c,d⟩:Wk).sim (Wk.all ⟨th,8,k,key,x,tog,said,i,v,r,asks,deeds,seen,oc,ov,whn⟩):=by
    unfold Wk.all
    rw[Zf rfl]
    dsimp only
    rw[eq,e (18+th) Za,e (22+th) Za,<- hb,<- hc,<- hdd]
    exact⟨rfl,hf.trans (Qa1 (Zdz hd)).symm⟩
   have t0':U64 (f (18+Zh (th:Int))):=t0
   refine⟨Qd Zc,⟨rfl,Za,Za,t0,t1,t2⟩,QL (λho=>?_) (λho=>?_)⟩
   . exact⟨Qd Zc,Ql rfl ⟨⟨th,8,k,key,x,tog,said,i,v,f,asks,bD q asks,seen,f (18+th)/4294967296%4294967296,f (18+th)%4294967296,f (22+th)⟩,ma,ca,na,za,m1,c1,n1,z1⟩ ⟨hall _ _ _ rfl rfl rfl,⟨ga,gb⟩,gc,hm,hz⟩ rfl rfl rfl⟩
   . have t4:=t3 ho
     exact⟨Qd Zc,Ql rfl ⟨⟨th,8,k,key,x,tog,said,i,v,f,asks,bD q asks,seen,0,0,0⟩,ma,ca,na,za,m1,c1,n1,z1⟩ ⟨hall _ _ _ (by rw[t4.1];rfl) (by rw[t4.1];rfl) t4.2.symm,⟨ga,gb⟩,gc,hm,hz⟩ rfl rfl rfl⟩
 . exact Ql rfl ⟨⟨th,does,k,key,x,tog,said,i,v,r,asks,deeds,seen,oc,ov,whn⟩,ma,ca,na,za,md,cd,nd,zd⟩ ⟨by rw[Wk.all_not hn];exact Wk.sim_rfl _,h1⟩ rfl rfl rfl
theorem Qpu {k key x:Int}(h:opOk k key x=true):bits ZdO .u64 (bits ZdO .u64 (Zi .u64 (Zi .u64 k*281474976710656)) (Zi .u64 (Zi .u64 key*4294967296))) (Zi .u64 x)=opW k key x:=by
 simp only[opOk,decide_eq_true_eq]at h
 rw[QaL (x:=k) Za Za,QaL (x:=key) Za Za,QaL (x:=x) Za Za,QaL (x:=k*281474976710656) Za Za,QaL (x:=key*4294967296) Za Za]
 obtain⟨a,rfl⟩:=Z6 (show 0<=k by omega)
 obtain⟨b,rfl⟩:=Z6 (show 0<=key by omega)
 obtain⟨c,rfl⟩:=Z6 (show 0<=x by omega)
 have e1:(a:Int)*281474976710656=((a*281474976710656:Nat):Int):=Za
 have e2:(b:Int)*4294967296=((b*4294967296:Nat):Int):=Za
 have h1:=Zbt (i:=48) (b:=b*4294967296) Za a
 have h2:=Zbt (i:=32) (b:=c) Za (65536*a+b)
 have h3:a*281474976710656 ||| b*4294967296=4294967296*(65536*a+b):=by
  rw[show a*281474976710656=2^48*a by omega,<- h1];omega
 rw[e1,e2,QjK Za Za,h3,QjK Za Za,show 4294967296*(65536*a+b)=2^32*(65536*a+b) by omega,<- h2]
 unfold opW
 omega
theorem QnF {w:Int}(h:U64 w):getZ w 48 16=w/281474976710656%65536:=by
 obtain⟨x,rfl,hx⟩:=h.nat
 show ((x/281474976710656%65536:Nat):Int)=_
 omega
theorem QpW {w:Int}(h:U64 w):getZ w 32 16=w/4294967296%65536:=by
 obtain⟨x,rfl,hx⟩:=h.nat
 show ((x/4294967296%65536:Nat):Int)=_
 omega
def QcJ:PCon:=⟨λargs=>match args with
 |[.a [.one (.v (.int .i64 k)),.one (.v (.int .i64 key)),.one (.v (.int .i64 x))]]=>opOk k key x=true
 |_=>False,λargs=>match args with
 |[.a [.one (.v (.int .i64 k)),.one (.v (.int .i64 key)),.one (.v (.int .i64 x))]]=>.t [uA (opW k key x),nilE]
 |_=>sv undef,λ_=>none⟩
theorem Qg6:(YE QcJ).holds Tryz.prog 92:=by
 refine QE (Γ:=[(43,.pure XS)]) Tryz.func92 rfl Zc Qf Qc (λW=>.cons (QaD W _) (.nil _ _ _)) QcJ (λ_=>[]) 400 ?_
 intro W args hp
 unfold QcJ at hp;dsimp only at hp;split at hp
 case h_2=>exact hp.elim
 rename_i k key x
 refine⟨rfl,?_⟩
 refine Qk (q:=True/\bif bif opOk k key x then false else true then endP QcJ [Zz [sI k,sI key,sI x]] (ZS [aU 0,Zt (.v (.iface 50 (ZA .i64 (1:Int))))]) []else (0:Int)<=(48:Int)/\(0:Int)<=(32:Int)/\endP QcJ [Zz [sI k,sI key,sI x]] (ZS [aU (bits ZdO .u64 (bits ZdO .u64 (Zi .u64 (Zi .u64 k*(281474976710656:Int))) (Zi .u64 (Zi .u64 key*(4294967296:Int)))) (Zi .u64 x)),Zt (.v ZM)]) []) Zc ?_
 rw[Qpu hp]
 exact⟨Zd,Xn (λh=>absurd (hp.symm.trans h) Zb) (λ_=>⟨Zb,Zb,rfl,λρ=>rfl⟩)⟩
def QhO:PCon:=⟨λargs=>match args with
 |[.c (.v (.int .u64 w))]=>0<=w/\w<18446744073709551616/\opOk (w/281474976710656%65536) (w/4294967296%65536) (w%4294967296)=true
 |_=>False,λargs=>match args with
 |[.c (.v (.int .u64 w))]=>.t [opA (w/281474976710656%65536) (w/4294967296%65536) (w%4294967296),nilE]
 |_=>sv undef,λ_=>none⟩
theorem Qkc:(YE QhO).holds Tryz.prog 99:=by
 refine QE (Γ:=[(43,.pure XS),(107,.pure QiS)]) Tryz.func99 rfl Zc Qf Qc (λW=>.cons (QaD W _) (.cons (QnE W _) (.nil _ _ _))) QhO (λ_=>[]) 400 ?_
 intro W args hp
 unfold QhO at hp;dsimp only at hp;split at hp
 case h_2=>exact hp.elim
 rename_i w
 obtain⟨h0,h1,h2⟩:=hp
 refine⟨rfl,?_⟩
 refine Qk (q:=(U64 w/\true=true)/\(U64 w/\true=true)/\(U64 w/\true=true)/\True/\bif bif opOk (Zi .i64 (getZ w (48:Int) (16:Int))) (Zi .i64 (getZ w (32:Int) (16:Int))) (Zi .i64 (getZ w (0:Int) (32:Int)))then false else true then endP QhO [aU w] (ZS [Zz [sI 0,sI 0,sI 0],Zt (.v (.iface 50 (ZA .i64 (3:Int))))]) []else endP QhO [aU w] (ZS [Zz [sI (Zi .i64 (getZ w (48:Int) (16:Int))),sI (Zi .i64 (getZ w (32:Int) (16:Int))),sI (Zi .i64 (getZ w (0:Int) (32:Int)))],Zt (.v ZM)]) []) Zc ?_
 have hU:U64 w:=⟨h0,Za⟩
 rw[QnF hU,QpW hU,QnG hU,Qx (x:=w/281474976710656%65536) Za Za,Qx (x:=w/4294967296%65536) Za Za,Qx (x:=w%4294967296) Za Za]
 exact⟨⟨hU,rfl⟩,⟨hU,rfl⟩,⟨hU,rfl⟩,Zd,Xn (λh=>absurd (h2.symm.trans h) Zb) (λ_=>⟨rfl,λρ=>rfl⟩)⟩
end
end Go.Proofs.YtlafaaeecnifcaaGreatDoor
